/-
 Sets of numbers that hold only so many; phases of the program's lists.
-/
import Derived.Test.YtipomeafemoelaaGreatDoorG01
set_option linter.unusedVariables false
set_option linter.unusedSimpArgs false
set_option linter.unusedSectionVars false
set_option maxRecDepth 20000
set_option maxHeartbeats 4000000
namespace Go.Stx
open Go Go.Proofs
attribute [local irreducible] TW bA cM aS ax aH cJ de
section
open T5
variable [Gl]
def pD (a:aW):Int:=if a.cell=8 then 9 else if a.gu=3 then 10 else 8
def iO (a:aW):Int:=if a.cell=8 then 22 else if a.gu=3 then 23 else 21
theorem Iq (a:aW) (A:AW) (hw:A.Wf):ax Tryz.prog 179 [a.v] A (λv A'=>v=.int .i64 (pD a)/\A.le A'):=by
 refine aF Tryz.func179 λ_=>?_;by_cases h1:a.cell=8<;>by_cases h2:a.gu=3
 all_goals(revert hw;refine W cd (J4 h1 h2 bz @aW.v.eq_1) ?_<;>unhygienic intros)
 all_goals exact⟨_,rfl,by simp [pD,h1,h2],AW.le.alloc _ _⟩
theorem Gz (a:aW) (A:AW) (hw:A.Wf):ax Tryz.prog 83 [a.v] A (λv A'=>v=.int .i64 (iO a)/\A.le A'):=by
 refine aF Tryz.func83 λ_=>?_;by_cases h1:a.cell=8<;>by_cases h2:a.gu=3
 all_goals(revert hw;refine W cd (J4 h1 h2 bz @aW.v.eq_1) ?_<;>unhygienic intros)
 all_goals exact⟨_,rfl,by simp [iO,h1,h2],AW.le.alloc _ _⟩
theorem Lb (v:Value) (l:List Int) (x:Int) (A:AW) (h:bx A .i64 v l) (hl:l.length<2^62) :
 ax Tryz.prog 234 [v,.int .i64 x] A (λu A'=>(∃r:Int,u=.int .i64 r/\(0<=r↔x∈l))/\A=A'):=by
 refine aF Tryz.func234 λ_=>?_;obtain⟨o,c,rfl,_⟩:=h.bE;refine W cd cd ?_<;>(unhygienic intros);refine cW (λk fr A'=>A=A'/\∃i:Nat,k=l.length-i/\i<=l.length/\fr 0=.slice o l.length c/\fr 1=.int .i64 x/\fr 7=.int .i64 l.length/\fr 8=.int .i64 i/\∀j,j<i->l[j]?≠some x) l.length ?_ ?_;refine⟨rfl,0,by simp,by simp,rfl,rfl,rfl,rfl,by simp⟩;rintro k fr A' ⟨rfl,i,rfl,hi,h0,h1,h7,h8,hj⟩;by_cases bL:i<l.length;obtain⟨p,bP,rfl,bI,hcell⟩:=h.at bL;have fU:=uR (i:=i);refine aO ?_;refine W cd (J8 h0 h1 h7 h8 bI hcell bL fU) (J2 ?_ ?_)<;>intros;refine⟨_,rfl,⟨(i:Int),by simp,?_⟩,rfl⟩;have hx:l[i]=x:=by simp_all
 exact⟨λ_=>hx▸List.getElem_mem bL,λ_=>by omega⟩;refine⟨l.length-(i+1),by omega,rfl,i+1,rfl,by omega,?_,?_,?_,?_,?_⟩;simp [h0];simp [h1];simp [h7];simp;intro j tm;by_cases e:j=i;subst e;rw [List.getElem?_eq_getElem bL];intro e2;injection e2 with e2;simp_all;exact hj j (by omega);refine aO ?_;refine W cd (J5 h0 h1 h7 h8 bL) ?_<;>intros;refine⟨_,rfl,⟨-1,by simp,?_⟩,rfl⟩;refine⟨λh=>by omega,λhm=>?_⟩;obtain⟨j,S7,QG⟩:=List.getElem_of_mem hm;exact absurd (by rw [List.getElem?_eq_getElem S7,QG]) (hj j (by omega))
theorem wz (v:Value) (l:List Int) (x:Int) (A:AW) (h:bx A .i64 v l) (hl:l.length<2^62) :
 eQ 173 [v,.int .i64 x] A (.bool (decide (x∈l))):=by
 refine aF Tryz.func173 λ_=>?_
 repeat' (first|(refine jX λR hR=>?_;simp [ai,ar];try simp (disch:=omega) only [if_pos,if_neg,ai,ar])|(refine hR _ _ ?_;clear hR R)|(refine hK _ _ ?_;clear hK K)|refine nx ?_|refine wn λK hK=>?_|simp only [wS]|(refine bD (Lb v l x _ h hl) ?_<;>rintro _ _ ⟨⟨r,rfl,hr⟩,rfl⟩ _ _)|(show cM _ _ _ _ _ _;refine nx ?_)|(refine wc rfl (λhc=>?_) (λhc=>?_)<;>(try simp at hc)<;>(try omega))|(refine ib (λhc=>?_) (λhc=>?_)<;>(try omega)<;>(try simp (disch:=omega) only [if_pos,if_neg])))
 exact⟨_,rfl,by simp [hr],rfl⟩
end
section
abbrev Cw:List (Nat×Nat):=[(0,0),(1,0),(2,0),(3,0),(4,0),(5,0),(6,0),(7,0),(8,0),(9,0),(10,0)]
open T5
variable [Gl]
theorem ah.append {P:Program} {A:AW} {L K:List It} {t e:TypeId} {i:TypeInfo} {z:Value} {v:Value} {k:IntKind} {l:List Int} (h:ah A L) (hp:ay L (.h (ap k v l)) K) (y:Int)
 (hu:P.underlying t=some (.slice e)) (hi:P.info? e=some i) (hz:i.zero=some z) (gv:i.size=1) (nA:z.cells.size=1) (bG:l.length<2 ^ 40) (vJ:i.bytes<=8) (hw:A.Wf) :
 ∃v' A',eU P (A.alloc (.cells [.int k y] true 1)) t t v (.slice (some ⟨A.next,0,none⟩) 1 1)=some (v',A')/\ah A' (.h (ap k v' (l++[y]))::K)/\A'.Wf/\A.next<=A'.next/\∃o c,v'=.slice o (l.length+1) c:=by
 have h1:bk A (ap k v l*aE K):=by
  unfold ah at h;rw [hp.aE] at h;exact h
 obtain⟨v',A',e1,h2,h3,h4⟩:=ap.append (P:=P) (t:=t) y hu hi hz gv nA h1 bG vJ hw;obtain⟨o,c,h5,_⟩:=(ap.is h2).bE;exact⟨v',A',e1,h2,h3,h4,o,c,by simpa using h5⟩
def tV (ef:Nat) (v:Value):dH:=.cells [.int .i64 ef,v] true 1
def vM (b:Nat) (ef:Nat) (l:List Int):HP:=pG λv:Value=>pt b (tV ef v)*ap .i64 v l
def dZ (ef:Nat) (l:List Int) (x:Int):Bool×List Int:=if x∈l then (true,l) else if ef<=l.length then (false,l) else (true,l++[x])
theorem vM.open {A:AW} {L K:List It} {b ef:Nat} {l:List Int} (h:ah A L) (hp:ay L (.h (vM b ef l)) K):∃v,ah A (.at b (tV ef v)::.h (ap .i64 v l)::K):=by
 unfold ah at h;rw [hp.aE] at h;have h1:bk A (vM b ef l*aE K):=h;unfold vM at h1;rw [bk.ex] at h1;obtain⟨v,h2⟩:=h1;exact⟨v,h2.dK (by show _=pt b _*(ap .i64 v l*aE K);rw [HP.cx])⟩
theorem vM.dA {A:AW} {L K:List It} {b ef:Nat} {l:List Int} {v:Value} (h:ah A L) (hp:aP L [.at b (tV ef v),.h (ap .i64 v l)] K):ah A (.h (vM b ef l)::K):=by
 unfold ah at h;rw [hp.aE] at h;show bk A (vM b ef l*aE K);unfold vM;rw [bk.ex];exact⟨v,h.dK (by show pt b _*(ap .i64 v l*eC)*aE K=_;rw [du])⟩
theorem Ic (b ef:Nat) (v:Value) (l:List Int) (x:Int) (A:AW) (hg:A.bg b=some (tV ef v)) (h:bx A .i64 v l) (hl:l.length<2^62) :
 eQ 235 [.pointer (some ⟨b,0,none⟩),.int .i64 x] A (.bool (decide (x∈l))):=by
 refine aF Tryz.func235 λ_=>?_;dsimp only [tV] at hg;refine W (J1 (wz v l x _ h hl)) (J2 hg @AW.af) ?_<;>intros
 all_goals exact⟨_,rfl,rfl,rfl⟩
theorem mm (b ef:Nat) (l:List Int) (x:Int) (hc:l.length<=ef) (yu:ef<=32) :
 bf Tryz.prog 174 [.pointer (some ⟨b,0,none⟩),.int .i64 x] [.h (vM b ef l)] (λu=>u=.bool (dZ ef l x).1) (λ_=>[.h (vM b ef (dZ ef l x).2)]):=by
 intro A F hw dm;refine aF Tryz.func174 λ_=>?_;obtain⟨vo,hS⟩:=vM.open dm .z;have hI:=ah.qT hS (.s .z);have y8:=hS.g 0 rfl;have hg:=y8;dsimp only [tV] at hg;obtain⟨oo,co,rfl,_⟩:=hI.bE;have vH:=Ic b ef _ l x A y8 hI (by omega);by_cases h1:x∈l;rw [decide_eq_true h1] at vH;have e:dZ ef l x=(true,l):=if_pos h1;refine W (J2 (od Cw) @vH) (J3 hg h1 @AW.af) ?_<;>intros;refine⟨_,rfl,by simp [e],?_⟩;rw [e];exact dm;rw [decide_eq_false h1] at vH;by_cases h2:ef<=l.length
 . have e:dZ ef l x=(false,l):=(by unfold dZ;rw [if_neg h1,if_pos h2]);have h3:(ef:Int)<=l.length:=by omega
   skip
   refine W (J2 (od Cw) @vH) (J4 hg h1 h3 @AW.af) ?_<;>intros;refine⟨_,rfl,by simp [e],?_⟩;rw [e];exact dm
 have e:dZ ef l x=(true,l++[x]):=by unfold dZ;rw [if_neg h1,if_neg h2]
 have h3:¬(ef:Int)<=l.length:=by omega
 have h4:¬(l.length:Int)=ef:=by omega
 obtain⟨v',A',e1,kL,jR,_,o2,c2,rfl⟩:=ah.append (P:=Tryz.prog) (t:=24) hS (.s .z) x Tryz.underlying24 Tryz.info3 Tryz.zero3 rfl rfl (by omega) (by simp) hw;have Lt:=kL.g 1 rfl;dsimp only [tV] at Lt;refine W (J2 (od Cw) @vH) (J7 hg h1 h3 h4 e1 Lt bz) ?_<;>intros;refine⟨_,by first|rfl|(simp;rfl),by simp [e],?_⟩;rw [e];exact vM.dA (v:=.slice o2 (l.length+1) c2) (ah.fX kL (.s .z)) (.s .z (.s .z .z))
end
section
variable [Gl]
structure rB where
 ef:Nat
 bT:List Int
 fg:List Int
 index:List Int
def uw (l:List Int) (a:Int):Option Nat:=l.findIdx? (·== a)
def lw (n:Nat) (a:Int):Nat:=(a.toNat % n*5) % n
def ix (index:List Int) (k:Nat):Int:=index.getD k (-1)
def BG (index:List Int):Nat->Nat->Nat
 | 0,k=>k
 | f+1,k=>if ix index k<0 then k else BG index f ((k+1) % index.length)
def yE (index:List Int) (k:Nat):Nat:=BG index index.length k
def fH (s:rB) (a v:Int):Bool×rB:=match uw s.bT a with
 | some e=>(true,{ s with fg:=s.fg.set e v })
 | none=>if s.bT.length=s.ef then (false,s) else
   (true,{ s with bT:=s.bT++[a],fg:=s.fg++[v],index:=s.index.set (yE s.index (lw s.index.length a)) s.bT.length })
def kZ (s:rB) (a:Int):Int×Bool:=match uw s.bT a with
 | some e=>(s.fg.getD e 0,true)
 | none=>(0,false)
theorem sT {l:List Int} {a:Int} {e:Nat} (h:uw l a=some e):e<l.length/\l.getD e 0=a/\∀j,j<e->l.getD j 0≠a:=by
 unfold uw at h;rw [List.findIdx?_eq_some_iff_getElem] at h;obtain⟨h1,h2,h3⟩:=h;refine⟨h1,?_,λj hj=>?_⟩;rw [List.getD_eq_getElem?_getD,List.getElem?_eq_getElem h1];simpa using h2;have:=h3 j hj;rw [List.getD_eq_getElem?_getD,List.getElem?_eq_getElem (by omega)]
 simpa using this
theorem Di {l:List Int} {a:Int} (h:uw l a=none):∀j,j<l.length->l.getD j 0≠a:=by
 unfold uw at h;rw [List.findIdx?_eq_none_iff] at h;intro j hj;have:=h l[j] (List.getElem_mem hj);rw [List.getD_eq_getElem?_getD,List.getElem?_eq_getElem hj]
 simpa using this
def ux (index:List Int):Nat:=index.countP (λx=>decide (0<=x))
def st (n k d:Nat):Nat:=(k+d) % n
structure oF (s:rB):Prop where
 KU:s.fg.length=s.bT.length
 ef:s.bT.length<=s.ef
 PB:s.ef<s.index.length
 X2:∀a∈s.bT,0<=a
 W3:∀k,k<s.index.length->ix s.index k<s.bT.length
 fill:ux s.index=s.bT.length
 way:∀e,e<s.bT.length->∃d,d<s.index.length/\ix s.index (st s.index.length (lw s.index.length (s.bT.getD e 0)) d)=e/\
  ∀d',d'<d->0<=ix s.index (st s.index.length (lw s.index.length (s.bT.getD e 0)) d')/\ix s.index (st s.index.length (lw s.index.length (s.bT.getD e 0)) d')≠e
 WI:∀i j,i<s.bT.length->j<s.bT.length->s.bT.getD i 0=s.bT.getD j 0->i=j
theorem Jo {index:List Int} (h:∀k,k<index.length->0<=ix index k):ux index=index.length:=by
 unfold ux;rw [List.countP_eq_length];intro x hx;obtain⟨k,hk,rfl⟩:=List.getElem_of_mem hx;have:=h k hk;unfold ix at this;rw [List.getD_eq_getElem?_getD,List.getElem?_eq_getElem hk] at this
 simpa using this
theorem oF.mu {s:rB} (h:oF s):∃k,k<s.index.length/\ix s.index k<0:=by
 apply Classical.byContradiction;intro hn;have k8:∀k,k<s.index.length->0<=ix s.index k:=λk hk=>by
  apply Classical.byContradiction;intro h1;exact hn ⟨k,hk,by omega⟩
 have h1:=Jo k8;have h2:=h.fill;have h3:=h.ef;have h4:=h.PB;omega
theorem Gi {n k d:Nat} (hn:0<n):st n ((k+1) % n) d=st n k (d+1):=by
 unfold st;rw [Nat.mod_add_mod];congr 1;omega
theorem Bt {n k:Nat} (hk:k<n):st n k 0=k:=by
 unfold st;rw [Nat.add_zero,Nat.mod_eq_of_lt hk]
theorem Aq {n k d:Nat} (hn:0<n):st n k d<n:=Nat.mod_lt _ hn
theorem Pu {n k j:Nat} (hk:k<n) (hj:j<n):∃d,d<n/\st n k d=j:=by
 by_cases h:k<=j;exact⟨j-k,by omega,by unfold st;rw [show k+(j-k)=j by omega,Nat.mod_eq_of_lt hj]⟩;refine⟨n+j-k,by omega,?_⟩;unfold st;rw [show k+(n+j-k)=j+n by omega,Nat.add_mod_right,Nat.mod_eq_of_lt hj]
theorem oF.first {s:rB} (h:oF s) {k:Nat} (hk:k<s.index.length):∃d,d<s.index.length/\ix s.index (st s.index.length k d)<0/\∀d',d'<d->0<=ix s.index (st s.index.length k d'):=by
 obtain⟨j,hj,I6⟩:=h.mu;obtain⟨d0,tq,he⟩:=Pu hk hj;have key:∀n,(∃d,d<=n/\ix s.index (st s.index.length k d)<0)->∃d,d<=n/\ix s.index (st s.index.length k d)<0/\∀d',d'<d->0<=ix s.index (st s.index.length k d'):=by
  intro n
  induction n with
  | zero=>
    rintro ⟨d,hd,h1⟩;exact⟨d,hd,h1,λd' QM=>by omega⟩
  | succ n ih=>
    rintro ⟨d,hd,h1⟩;by_cases pG:∃d,d<=n/\ix s.index (st s.index.length k d)<0;obtain⟨d2,h2,h3⟩:=ih pG;exact⟨d2,by omega,h3⟩;refine⟨d,hd,h1,λd' QM=>?_⟩;apply Classical.byContradiction;intro h4;exact pG ⟨d',by omega,by omega⟩
 obtain⟨d,h1,h2,h3⟩:=key d0 ⟨d0,Nat.le_refl _,by rw [he];exact I6⟩;exact⟨d,by omega,h2,h3⟩
theorem yF (index:List Int):∀(f k d:Nat),k<index.length->d<=f->ix index (st index.length k d)<0->(∀d',d'<d->0<=ix index (st index.length k d'))->BG index f k=st index.length k d
 | 0,k,d,hk,hd,h1,h2=>by
   have:d=0:=by omega
   subst this;rw [Bt hk];rfl
 | f+1,k,d,hk,hd,h1,h2=>by
   unfold BG;cases d with
   | zero=>
     rw [Bt hk] at h1 ⊢;rw [if_pos h1]
   | succ d=>
     have h0:=h2 0 (by omega);rw [Bt hk] at h0;rw [if_neg (by omega)];have hn:0<index.length:=(by omega);rw [yF index f ((k+1) % index.length) d (Nat.mod_lt _ hn) (by omega) (by rw [Gi hn];exact h1) (λd' QM=>by rw [Gi hn];exact h2 _ (by omega)),Gi hn]
theorem wx {s:rB} (h:oF s) {k d:Nat} (hk:k<s.index.length) (hd:d<s.index.length) (h1:ix s.index (st s.index.length k d)<0) (h2:∀d',d'<d->0<=ix s.index (st s.index.length k d')) :
 yE s.index k=st s.index.length k d:=yF _ _ _ _ hk (by omega) h1 h2
theorem Da {n:Nat} (hn:0<n) (a:Int):lw n a<n:=Nat.mod_lt _ hn
theorem CL {index:List Int} {p:Nat} (hp:p<index.length) (x:Int) (k:Nat):ix (index.set p x) k=if k=p then x else ix index k:=by
 unfold ix;by_cases e:k=p;subst e;rw [if_pos rfl,List.getD_eq_getElem?_getD,List.getElem?_set_self hp];rfl;rw [if_neg e,List.getD_eq_getElem?_getD,List.getElem?_set_ne (Ne.symm e),<-List.getD_eq_getElem?_getD]
theorem Dj:∀{index:List Int} {p:Nat} (hp:p<index.length) {x:Int},0<=x->ix index p<0->ux (index.set p x)=ux index+1
 | [],p,hp,_,_,_=>by simp at hp
 | y::l,0,hp,x,hx,h=>by
   have h':y<0:=h;have e1:decide (0<=x)=true:=by simpa using hx
   have e2:decide (0<=y)=false:=(by simp;omega);simp [ux,List.countP_cons,e1,e2]
 | y::l,p+1,hp,x,hx,h=>by
   have:=Dj (index:=l) (p:=p) (by simpa using hp) hx h;simp only [ux,List.set_cons_succ,List.countP_cons] at this ⊢;omega
theorem Fy {s:rB} (h:oF s) {a:Int} (ha:0<=a) (v:Int):oF (fH s a v).2:=by
 unfold fH;split;exact⟨by simpa using h.KU,h.ef,h.PB,h.X2,h.W3,h.fill,h.way,h.WI⟩;rename_i Qt;split;exact h;rename_i GU;have hn:0<s.index.length:=by have:=h.PB;omega
 have hk:=Da hn a;obtain⟨d,hd,h1,h2⟩:=h.first hk;have hp:=wx h hk hd h1 h2;have nh:st s.index.length (lw s.index.length a) d<s.index.length:=Aq hn;have hcapl:=h.ef;have y8:∀e,e<s.bT.length->(s.bT++[a]).getD e 0=s.bT.getD e 0:=λe he=>by
  rw [List.getD_eq_getElem?_getD,List.getElem?_append_left he,<-List.getD_eq_getElem?_getD]
 have hgn:(s.bT++[a]).getD s.bT.length 0=a:=by
  rw [List.getD_eq_getElem?_getD,List.getElem?_append_right (Nat.le_refl _)];simp
 refine⟨by simp [h.KU],by simp;omega,by simpa using h.PB,?_,?_,?_,?_,?_⟩;intro x hx;rw [List.mem_append] at hx;rcases hx with hx|hx;exact h.X2 x hx;simp at hx;subst hx;exact ha;intro k ki;simp only [List.length_set] at ki;simp only [hp,CL nh,List.length_append,List.length_cons,List.length_nil];split;omega;have:=h.W3 k ki;omega;simp only [hp,List.length_append,List.length_cons,List.length_nil];rw [Dj nh (by omega) h1,h.fill];intro e he;simp only [List.length_append,List.length_cons,List.length_nil] at he;simp only [hp,List.length_set];by_cases QC:e=s.bT.length;subst QC;rw [hgn];refine⟨d,hd,by rw [CL nh,if_pos rfl],λd' QM=>?_⟩;have Wg:=h2 d' QM;have hU:st s.index.length (lw s.index.length a) d'≠st s.index.length (lw s.index.length a) d:=λe=>by rw [e] at Wg;omega
 rw [CL nh,if_neg hU];refine⟨Wg,?_⟩;have:=h.W3 _ (Aq (k:=lw s.index.length a) (d:=d') hn);omega;have he':e<s.bT.length:=by omega
 rw [y8 e he'];obtain⟨d2,g1,g2,g3⟩:=h.way e he';refine⟨d2,g1,?_,λd' QM=>?_⟩;rw [CL nh,if_neg (λe2=>by rw [e2] at g2;omega)];exact g2;obtain⟨g4,g5⟩:=g3 d' QM;rw [CL nh,if_neg (λe2=>by rw [e2] at g4;omega)];exact⟨g4,g5⟩;intro i j hi hj he;simp only [List.length_append,List.length_cons,List.length_nil] at hi hj;have hU:=Di Qt;by_cases y7:i<s.bT.length;by_cases tm:j<s.bT.length;rw [y8 i y7,y8 j tm] at he;exact h.WI i j y7 tm he;have:j=s.bT.length:=by omega
 subst this;rw [y8 i y7,hgn] at he;exact absurd he (hU i y7);have:i=s.bT.length:=by omega
 subst this;by_cases tm:j<s.bT.length;rw [y8 j tm,hgn] at he;exact absurd he.symm (hU j tm);omega
theorem oF.X1 {s:rB} (h:oF s) (a:Int):∃d,d<s.index.length/\
 (∀d',d'<d->0<=ix s.index (st s.index.length (lw s.index.length a) d')/\s.bT.getD (ix s.index (st s.index.length (lw s.index.length a) d')).toNat 0≠a)/\
 ((∃e,uw s.bT a=some e/\ix s.index (st s.index.length (lw s.index.length a) d)=e) \/
   (uw s.bT a=none/\ix s.index (st s.index.length (lw s.index.length a) d)<0/\yE s.index (lw s.index.length a)=st s.index.length (lw s.index.length a) d)):=by
 have hn:0<s.index.length:=by have:=h.PB;omega
 have hk:=Da hn a;cases hf:uw s.bT a with
 | some e=>
   obtain⟨f1,f2,f3⟩:=sT hf;obtain⟨d,g1,g2,g3⟩:=h.way e f1;rw [f2] at g2 g3;refine⟨d,g1,λd' QM=>?_,.inl ⟨e,rfl,g2⟩⟩;obtain⟨g4,g5⟩:=g3 d' QM;refine⟨g4,λe2=>?_⟩;have hr:=h.W3 _ (Aq (k:=lw s.index.length a) (d:=d') hn);have:=h.WI (ix s.index (st s.index.length (lw s.index.length a) d')).toNat e (by omega) f1 (by rw [e2,f2]);omega
 | none=>
   have hU:=Di hf;obtain⟨d,g1,g2,g3⟩:=h.first hk;refine⟨d,g1,λd' QM=>⟨g3 d' QM,?_⟩,.inr ⟨rfl,g2,wx h hk g1 g2 g3⟩⟩;have hr:=h.W3 _ (Aq (k:=lw s.index.length a) (d:=d') hn);have:=g3 d' QM;exact hU _ (by omega)
end
section
open T6
variable [Gl]
def ll (ef:Nat) (va vv vi:Value):dH:=.cells [.int .i64 ef,va,vv,vi] true 1
end
section
open T7
variable [Gl]
theorem ah.Mn {A:AW} {L K:List It} {k:IntKind} {v:Value} {l:List Int} (h:ah A L) (hp:ay L (.h (ap k v l)) K) {j:Nat} (hj:j<l.length) :
 ∃b off c bP,v=.slice (some ⟨b,off,none⟩) l.length c/\off+l.length<=bP.length/\bP[off+j]? = some (.int k (l.getD j 0))/\
  (∀y A' K',ah A' (.at b (.cells (bP.set (off+j) (.int k y)) true 1)::K')->ah A' (.h (ap k v (l.set j y))::K'))/\ah A (.at b (.cells bP true 1)::K):=by
 have h1:bk A (ap k v l*aE K):=by
  have h0:=h;unfold ah at h0;rw [hp.aE] at h0;exact h0
 rcases cY.cases h1 with ⟨_,h0,_⟩|⟨b,off,c,bP,rfl,h2,h3,h4,h5⟩;omega;rw [Nat.mul_one] at h3 h4;refine⟨b,off,c,bP,rfl,h3,?_,λy A' K' hh=>ap.mk (by simp) (by simpa using h2) (by simpa using h3) ?_ hh,h5⟩;have:bP[off+j]? = (l.map (Value.int k))[j]?:=by rw [h4,List.getElem?_take_of_lt hj,List.getElem?_drop]
 rw [this,List.getElem?_map,List.getElem?_eq_getElem hj,List.getD_eq_getElem?_getD,List.getElem?_eq_getElem hj];rfl;rw [List.map_set,h4,List.drop_set,if_neg (by omega),show off+j-off=j by omega,List.length_set,List.take_set]
def pw (b:Nat) (s:rB):HP:=pG λva:Value=>pG λvv:Value=>pG λvi:Value=>pt b (ll s.ef va vv vi)*(ap .i64 va s.bT*(ap .u64 vv s.fg*ap .i64 vi s.index))
theorem pw.open {A:AW} {L K:List It} {b:Nat} {s:rB} (h:ah A L) (hp:ay L (.h (pw b s)) K) :
 ∃va vv vi,ah A (.at b (ll s.ef va vv vi)::.h (ap .i64 va s.bT)::.h (ap .u64 vv s.fg)::.h (ap .i64 vi s.index)::K):=by
 unfold ah at h;rw [hp.aE] at h;have h1:bk A (pw b s*aE K):=h;unfold pw at h1;rw [bk.ex] at h1;obtain⟨va,h1⟩:=h1;rw [bk.ex] at h1;obtain⟨vv,h1⟩:=h1;rw [bk.ex] at h1;obtain⟨vi,h1⟩:=h1;exact⟨va,vv,vi,h1.dK (by show _=pt b _*(ap .i64 va s.bT*(ap .u64 vv s.fg*(ap .i64 vi s.index*aE K)));ac_rfl)⟩
theorem pw.dA {A:AW} {L K:List It} {b:Nat} {s:rB} {va vv vi:Value} (h:ah A L) (hp:aP L [.at b (ll s.ef va vv vi),.h (ap .i64 va s.bT),.h (ap .u64 vv s.fg),.h (ap .i64 vi s.index)] K):ah A (.h (pw b s)::K):=by
 unfold ah at h;rw [hp.aE] at h;show bk A (pw b s*aE K);unfold pw;rw [bk.ex];refine⟨va,?_⟩;rw [bk.ex];refine⟨vv,?_⟩;rw [bk.ex];exact⟨vi,h.dK (by show pt b _*(ap .i64 va s.bT*(ap .u64 vv s.fg*(ap .i64 vi s.index*eC)))*aE K=_;rw [du])⟩
theorem BV {a:Int} {n:Nat} (ha:0<=a):a.tmod (n:Int)=((a.toNat % n:Nat):Int):=by
 rw [Int.tmod_eq_emod_of_nonneg ha,Int.natCast_emod,Int.toNat_of_nonneg ha]
theorem Of {n:Nat} (hn:0<n) (zP:n<=64) {a:Int} (ha:0<=a):(IntKind.i64.wrap (a.tmod (n:Int)*5)).tmod (n:Int)=(lw n a:Int):=by
 have h1:a.toNat % n<n:=Nat.mod_lt _ hn;rw [BV ha];generalize he:a.toNat % n=r at h1;rw [ai (x:=(r:Int)*5) (by omega) (by omega),BV (by omega)];have h2:((r:Int)*5).toNat=r*5:=by omega
 rw [h2];unfold lw;rw [he]
theorem So {n k:Nat} (hn:0<n) (zP:n<=64) (m:Nat):(((st n k m:Nat):Int)+1).tmod (n:Int)=((st n k (m+1):Nat):Int):=by
 have h1:=Aq (k:=k) (d:=m) hn;have h2:=Aq (k:=k) (d:=m+1) hn;rw [BV (by omega)];have h3:(((st n k m:Nat):Int)+1).toNat=st n k m+1:=by omega
 have h4:(st n k m+1) % n=st n k (m+1):=by unfold st;rw [Nat.mod_add_mod];rfl
 rw [h3,h4]
end
section
abbrev BC:List (Nat×Nat):=[(0,0),(1,0),(2,0),(3,0),(4,0),(5,0),(6,0),(7,0),(8,0),(9,0),(10,0),(11,0),(12,0),(13,0),(14,0)]
abbrev BB:List (Nat×Nat):=[(0,0),(1,0),(2,0),(3,0),(4,0),(5,0),(6,0),(7,0),(8,0),(9,0),(10,0),(11,0),(12,0),(13,0),(14,0),(15,0),(16,0),(17,0),(18,0),(19,0),(20,0),(21,0),(22,0),(23,0),(24,0)]
abbrev Mx:List (Nat×Nat):=[(0,0),(1,0),(2,0),(3,0),(4,0),(5,0),(6,2),(7,0),(8,0),(9,0)]
open T7
variable [Gl]
theorem Ax (b:Nat) (va vv vi:Value) (s:rB) (a:Int) (A:AW) (lZ:oF s) (ha:0<=a) (yu:s.ef<=32) (QI:s.index.length<=64) (hg:A.bg b=some (ll s.ef va vv vi))
 (UM:bx A .i64 va s.bT) (UL:bx A .i64 vi s.index) :
 ∃p,p<s.index.length/\((∃e,uw s.bT a=some e/\ix s.index p=e)\/(uw s.bT a=none/\ix s.index p<0/\yE s.index (lw s.index.length a)=p))/\
  eQ 209 [.pointer (some ⟨b,0,none⟩),.int .i64 a] A (.int .i64 p):=by
 obtain⟨d,hd,hway,rT⟩:=lZ.X1 a;have hn:0<s.index.length:=by omega
 refine⟨_,Aq hn,rT,?_⟩;refine aF Tryz.func209 λ_=>?_;obtain⟨oa,ca,rfl,_⟩:=UM.bE;obtain⟨oi,ci,rfl,_⟩:=UL.bE;dsimp only [ll] at hg;have hk:=Of (n:=s.index.length) hn QI ha;have S6:=Da hn a;generalize lw s.index.length a=k0 at *;have hU:¬s.index=[]:=λe=>by rw [e] at hn;simp at hn
 have bG:s.bT.length<=32:=Nat.le_trans lZ.ef yu;refine W (J2 (od BC) (od BB)) (J4 hg hk hU @AW.af) ?_<;>(unhygienic intros);refine cW (λk fr A'=>A=A'/\∃m:Nat,k=d-m/\m<=d/\fr 0=.pointer (some ⟨b,0,none⟩)/\fr 1=.int .i64 a/\fr 5=.int .i64 (st s.index.length k0 m)) d ?_ ?_;refine⟨rfl,0,by simp,by simp,rfl,rfl,by simp [Bt S6]⟩;rintro k fr A' ⟨rfl,m,rfl,hm,h0,h1,h5⟩;have dv:=So (n:=s.index.length) (k:=k0) hn QI m;have GN:=Aq (k:=k0) (d:=m) hn;obtain⟨p,bP,rfl,bI,hcell⟩:=UL.at GN;have kv:s.index[st s.index.length k0 m]=ix s.index (st s.index.length k0 m):=by unfold ix;rw [List.getD_eq_getElem?_getD,List.getElem?_eq_getElem GN];rfl
 rw [kv] at hcell;have VR:=lZ.W3 _ GN;by_cases bL:m<d;obtain⟨Wg,YE⟩:=hway m bL;obtain⟨x,hx⟩:∃x:Nat,ix s.index (st s.index.length k0 m)=x:=⟨(ix s.index (st s.index.length k0 m)).toNat,by omega⟩;rw [hx] at hcell YE VR;have hxl:x<s.bT.length:=by omega
 obtain⟨pa,rowa,rfl,Qn,GT⟩:=UM.at hxl;have YD:¬s.bT[x]=a:=by
  intro e;apply YE;rw [Int.toNat_natCast,List.getD_eq_getElem?_getD,List.getElem?_eq_getElem hxl];exact e
 generalize s.bT[x]=y at *;refine aO ?_;refine W (J2 (od BC) (od BB)) (vO hg h0 h1 h5 bI hcell Qn GT hxl YD GN dv hU @AW.af) ?_<;>intros;refine⟨d-(m+1),by omega,rfl,m+1,rfl,by omega,?_,?_,?_⟩;simp [h0];simp [h1];simp;obtain rfl:m=d:=by omega
 rcases rT with ⟨e,Oa,he⟩|⟨Oa,he,_⟩;obtain⟨h3,h4,_⟩:=sT Oa;rw [he] at hcell;obtain⟨pa,rowa,rfl,Qn,GT⟩:=UM.at h3;have h5':s.bT[e]=a:=by
  rw [List.getD_eq_getElem?_getD,List.getElem?_eq_getElem h3] at h4;exact h4
 rw [h5'] at GT;refine aO ?_;refine W (J2 (od BC) (od BB)) (tA hg h0 h1 h5 bI hcell Qn GT h3 GN hU @AW.af) ?_<;>intros;exact⟨_,by simp [h5],rfl,rfl⟩;have he':¬0<=ix s.index (st s.index.length k0 m):=by omega
 refine aO ?_;refine W (J2 (od BC) (od BB)) (Bs hg h0 h1 h5 bI hcell he' GN hU @AW.af) ?_<;>intros;exact⟨_,by simp [h5],rfl,rfl⟩
theorem IR (b:Nat) (va vv vi:Value) (s:rB) (a:Int) (A:AW) (lZ:oF s) (ha:0<=a) (yu:s.ef<=32) (QI:s.index.length<=64) (hg:A.bg b=some (ll s.ef va vv vi))
 (UM:bx A .i64 va s.bT) (UK:bx A .u64 vv s.fg) (UL:bx A .i64 vi s.index) :
 eQ 142 [.pointer (some ⟨b,0,none⟩),.int .i64 a] A (.tuple #[.int .u64 (kZ s a).1,.bool (kZ s a).2]):=by
 refine aF Tryz.func142 λ_=>?_;obtain⟨p,hp,Y3,nh⟩:=Ax b va vv vi s a A lZ ha yu QI hg UM UL;dsimp only [ll] at hg;have Xt:¬a<0:=by omega
 obtain⟨oi,ci,rfl,_⟩:=UL.bE;obtain⟨ov,cv,rfl,_⟩:=UK.bE;obtain⟨q,bP,rfl,bI,hcell⟩:=UL.at hp;have kv:s.index[p]=ix s.index p:=by unfold ix;rw [List.getD_eq_getElem?_getD,List.getElem?_eq_getElem hp];rfl
 rw [kv] at hcell;rcases Y3 with ⟨e,Oa,he⟩|⟨Oa,he,_⟩;rw [he] at hcell;have h3:e<s.fg.length:=by rw [lZ.KU];exact(sT Oa).1
 obtain⟨qv,Vg,rfl,Qm,Wm⟩:=UK.at h3;have jo:kZ s a=(s.fg[e],true):=by simp [kZ,Oa,List.getElem?_eq_getElem h3]
 have SS:¬(e:Int)<0:=by omega
 refine W (J2 (od Mx) @nh) (Bs hg Xt bI hcell hp SS Qm Wm h3 @AW.af) ?_<;>intros;exact⟨_,rfl,by simp [jo],rfl⟩;have jo:kZ s a=(0,false):=by simp [kZ,Oa]
 refine W (J2 (od Mx) @nh) (J7 hg Xt bI hcell hp he @AW.af) ?_<;>intros;exact⟨_,rfl,by simp [jo],rfl⟩
end
section
namespace TClone
theorem mr [Gl] {A:AW} {L:List It} {T:Prop} (hS:ah A L) (hw:A.Wf) (h':(aR A L/\bj A L/\bN L)=T:=by first|(dsimp only [aa,ag,aR,bj,bN,eE];done)|exact rfl):T:=h'▸hS.eD hw
end TClone
open TClone
variable [Gl]
theorem bx.AB {A:AW} {k:IntKind} {l:List Int} {n c:Nat} (h:bx A k (.slice none n c) l):l=[]:=by
 rcases h with ⟨_,h,_⟩|⟨p,c,bP,own,u,h,_⟩;exact List.eq_nil_of_length_eq_zero h;cases h
theorem jq (v:Value) (l:List Int) (A:AW) (h:bx A .i64 v l) (hl:l.length<2^39) :
 ax Tryz.prog 46 [v] A (λv' A'=>dx A.next A' .i64 v' l/\A.le A'):=by
 refine aF Tryz.func46 λhw=>?_;obtain⟨o,c,rfl,_⟩:=h.bE;cases o with
 | none=>
   have:=h.AB;subst this;refine W cd cd ?_<;>intros
   simpa using ⟨dx.nil _ _ _,AW.le.refl A⟩
 | some p=>
   have l0:=AW.le.alloc A (.cells [] true 1);have w0:=hw.alloc (.cells [] true 1);have h1:=h.le l0 hw
   have gB:dx A.next (A.alloc (.cells [] true 1)) .i64 (.slice (some ⟨A.next,0,none⟩) 0 0) []:=
    .inr ⟨⟨A.next,0,none⟩,0,[],rfl,Nat.le_refl _,rfl,Nat.le_refl _,AW.bM _ _,by simp,by simp⟩
   obtain⟨v',A',h2,h3,h4,h5,h6⟩:=AR (P:=Tryz.prog) (t:=24) Tryz.underlying24 Tryz.info3 Tryz.zero3 rfl rfl gB h1 (by simp;omega) (by simp) (by simp) w0;refine W cd (J1 h2) ?_<;>intros;simp;exact⟨by simpa using h3,h4 A (Nat.le_refl _) l0⟩
theorem iG (v:Value) (l:List Int) (A:AW) (h:bx A .u64 v l) (hl:l.length<2^39) :
 ax Tryz.prog 59 [v] A (λv' A'=>dx A.next A' .u64 v' l/\A.le A'):=by
 refine aF Tryz.func59 λhw=>?_;obtain⟨o,c,rfl,_⟩:=h.bE;cases o with
 | none=>
   have:=h.AB;subst this;refine W cd cd ?_<;>intros
   simpa using ⟨dx.nil _ _ _,AW.le.refl A⟩
 | some p=>
   have l0:=AW.le.alloc A (.cells [] true 1);have w0:=hw.alloc (.cells [] true 1);have h1:=h.le l0 hw
   have gB:dx A.next (A.alloc (.cells [] true 1)) .u64 (.slice (some ⟨A.next,0,none⟩) 0 0) []:=
    .inr ⟨⟨A.next,0,none⟩,0,[],rfl,Nat.le_refl _,rfl,Nat.le_refl _,AW.bM _ _,by simp,by simp⟩
   obtain⟨v',A',h2,h3,h4,h5,h6⟩:=AR (P:=Tryz.prog) (t:=28) Tryz.underlying28 Tryz.info35 Tryz.zero35 rfl rfl gB h1 (by simp;omega) (by simp) (by simp) w0;refine W cd (J1 h2) ?_<;>intros;simp;exact⟨by simpa using h3,h4 A (Nat.le_refl _) l0⟩
end
section
open T7
variable [Gl]
theorem Gn (b ef:Nat) (v:Value) (l:List Int) (A:AW) (hg:A.bg b=some (tV ef v)) (h:bx A .i64 v l) (hl:l.length<2^39) :
 ax Tryz.prog 186 [.pointer (some ⟨b,0,none⟩)] A (λu A'=>dx A.next A' .i64 u l/\A.le A'):=by
 refine aF Tryz.func186 λ_=>?_;dsimp only [tV] at hg;refine W cd (J2 hg @AW.af) ?_<;>(unhygienic intros);refine bD (jq v l A h hl) ?_;rintro u A1 ⟨h1,h2⟩ jg _;refine W cd cd ?_<;>intros;exact⟨_,rfl,h1,h2⟩
theorem EB (b ef:Nat) (va vv vi:Value) (l:List Int) (A:AW) (hg:A.bg b=some (ll ef va vv vi)) (h:bx A .i64 va l) (hl:l.length<2^39) :
 ax Tryz.prog 130 [.pointer (some ⟨b,0,none⟩)] A (λu A'=>dx A.next A' .i64 u l/\A.le A'):=by
 refine aF Tryz.func130 λ_=>?_;dsimp only [ll] at hg;refine W cd (J2 hg @AW.af) ?_<;>(unhygienic intros);refine bD (jq va l A h hl) ?_;rintro u A1 ⟨h1,h2⟩ jg _;refine W cd cd ?_<;>intros;exact⟨_,rfl,h1,h2⟩
theorem CH (b ef:Nat) (va vv vi:Value) (l:List Int) (A:AW) (hg:A.bg b=some (ll ef va vv vi)) (h:bx A .u64 vv l) (hl:l.length<2^39) :
 ax Tryz.prog 194 [.pointer (some ⟨b,0,none⟩)] A (λu A'=>dx A.next A' .u64 u l/\A.le A'):=by
 refine aF Tryz.func194 λ_=>?_;dsimp only [ll] at hg;refine W cd (J2 hg @AW.af) ?_<;>(unhygienic intros);refine bD (iG vv l A h hl) ?_;rintro u A1 ⟨h1,h2⟩ jg _;refine W cd cd ?_<;>intros;exact⟨_,rfl,h1,h2⟩
theorem IQ (b ef:Nat) (o:Option Addr) (n c:Nat) (vv vi:Value) (A:AW) (hg:A.bg b=some (ll ef (.slice o n c) vv vi)) :
 eQ 238 [.pointer (some ⟨b,0,none⟩)] A (.int .i64 n):=by
 refine aF Tryz.func238 λ_=>?_;dsimp only [ll] at hg;refine W cd (J2 hg @AW.af) ?_<;>intros;exact⟨_,rfl,rfl,rfl⟩
theorem IL (v:Value) (l:List Int) (rv:Int) (A:AW) (F:HP) (h:bx A .i64 v l) (hl:l.length<2^38) (hw:A.Wf) (hS:bk A F) :
 ax Tryz.prog 185 [v,.int .i64 rv] A (λu A'=>∃b,u=.pointer (some ⟨b,0,none⟩)/\bk A' (js b ⟨l,rv,false⟩*F)/\A.le A'):=by
 refine aF Tryz.func185 λ_=>?_;revert hS hw;refine W cd cd ?_<;>(unhygienic intros);refine bD (jq v l A h (by omega)) ?_;rintro u A1 ⟨h1,h2⟩ jg _;obtain⟨o1,c1,rfl,_⟩:=h1.is.bE;revert hS hw;(repeat first|clear hS|clear hw|revert hc|revert R|revert K);refine W cd cd ?_<;>(unhygienic intros);refine⟨_,by first|(simp;done)|(simp;rfl),A1.next,rfl,?_,h2.trans (AW.le.alloc _ _)⟩;have iz:=(ap.gA hS hw h2 h1).alloc jg (.cells [.slice o1 l.length c1,.int .i64 rv,.bool false] true 1);unfold js;rw [bk.ex];exact⟨.slice o1 l.length c1,iz.dK (by show _=pt A1.next (.cells [.slice o1 l.length c1,.int .i64 rv,.bool false] true 1)*ap .i64 (.slice o1 l.length c1) l*F;rw [HP.cx])⟩
end
section
abbrev PW:List (Nat×Nat):=[(0,0),(1,0),(2,0),(3,0),(4,0),(5,0),(6,0),(7,0),(8,0),(9,0),(10,0),(11,0)]
abbrev p9:List (Nat×Nat):=[(0,0),(1,0),(2,0),(3,0),(4,0),(5,0),(6,0),(7,0),(8,0),(9,0),(10,0),(11,0),(12,3),(13,0),(14,0),(15,0),(16,3)]
abbrev pZ:List (Nat×Nat):=[(0,0),(1,0),(2,0),(3,0),(4,0),(5,0),(6,2),(7,0),(8,0),(9,0),(10,3),(11,0),(12,0),(13,3)]
abbrev pY:List (Nat×Nat):=[(0,0),(1,0),(2,0),(3,0),(4,0),(5,0),(6,0),(7,0),(8,0),(9,0),(10,0),(11,0),(12,0),(13,0),(14,0),(15,0),(16,0),(17,0),(18,0),(19,0),(20,0),(21,0),(22,0),(23,0),(24,0),(25,0),(26,0),(27,3),(28,0),(29,0),(30,0),(31,3)]
abbrev rO:List (Nat×Nat):=[(0,0),(1,0),(2,0),(3,0),(4,0),(5,0),(6,0),(7,0),(8,0),(9,2),(10,3),(11,0),(12,0),(13,3)]
open T7
variable [Gl]
structure iH where
 am:Int
 ao:List Int
 fe:List Int
 eF:Int
 gi:Bool
def iH.done (s:iH):Bool:=decide (s.fe.length=s.ao.length)
def gQ (b:Nat) (s:iH):HP:=pG λvo:Value=>pG λvw:Value=>
 pt b (.cells [.int .i64 s.am,vo,vw,.int .u64 s.eF,.bool s.gi] true 1)*(ap .i64 vo s.ao*ap .u64 vw s.fe)
theorem gQ.open {A:AW} {b:Nat} {s:iH} {F:HP} (h:bk A (gQ b s*F)) :
 ∃vo vw,bk A (pt b (.cells [.int .i64 s.am,vo,vw,.int .u64 s.eF,.bool s.gi] true 1)*(ap .i64 vo s.ao*(ap .u64 vw s.fe*F))):=by
 unfold gQ at h;rw [bk.ex] at h;obtain⟨vo,h⟩:=h;rw [bk.ex] at h;obtain⟨vw,h⟩:=h;exact⟨vo,vw,h.dK (by ac_rfl)⟩
theorem gQ.dA {A:AW} {b:Nat} {s:iH} {F:HP} {vo vw:Value} (h:bk A (pt b (.cells [.int .i64 s.am,vo,vw,.int .u64 s.eF,.bool s.gi] true 1)*(ap .i64 vo s.ao*(ap .u64 vw s.fe*F)))) :
 bk A (gQ b s*F):=by
 unfold gQ;rw [bk.ex];refine⟨vo,?_⟩;rw [bk.ex];exact⟨vw,h.dK (by ac_rfl)⟩
theorem nY (b:Nat) (s:iH) (A:AW) (F:HP) (h:bk A (gQ b s*F)) :
 ax Tryz.prog 181 [.pointer (some ⟨b,0,none⟩)] A (λv A'=>v=.bool s.done/\A=A'):=by
 refine aF Tryz.func181 λhw=>?_;obtain⟨vo,vw,hS⟩:=gQ.open h;obtain⟨oo,co,rfl,_⟩:=(ap.is hS.right).bE;obtain⟨ow,cw,rfl,_⟩:=(ap.is hS.right.right).bE;have hg:=hS.bg;refine W (J1 (od PW)) (J2 hg @AW.af) ?_<;>intros;simp [iH.done];omega
def jd (s:iH):Int:=s.ao.getD s.fe.length 0
def mJ (s:iH):Int:=IntKind.u64.wrap (IntKind.u64.wrap (s.eF+IntKind.u64.wrap s.am)+1)
def fj (s:iH) (M:Nat->List Int):aW×iH×(Nat->List Int):=
 if s.done=true then (aW.zero,s,M)
 else if s.gi=false then
  let a:=gn M 1 2 (jd s) mP
  (a,{ s with eF:=a.fA,gi:=decide (mK a.fA<0) },M)
 else
  let a:=gn M 3 2 (jd s) (oV s.eF (mJ s))
  (a,{ s with gi:=false,fe:=if a.done=true then s.fe++[s.eF] else s.fe },sc M 2 (jd s) (oV s.eF (mJ s)))
theorem EC (b pb:Nat) (s:iH) (M:Nat->List Int) (bG:s.fe.length<=s.ao.length) (N6:s.ao.length<2^38) :
 oX Tryz.prog 180 [.pointer (some ⟨b,0,none⟩),.pointer (some ⟨pb,0,none⟩)] (gQ b s*ey pb M)
  (λv=>Bl (v=(fj s M).1.v)*(gQ b (fj s M).2.1*ey pb (fj s M).2.2)):=by
 intro A F hw dm;refine aF Tryz.func180 λ_=>?_;rw [HP.cx] at dm;have iz:=((dm.alloc hw (.cells be true 1)).alloc (hw.alloc _) (.cells be true 1));have kL:bk ((A.alloc (.cells be true 1)).alloc (.cells be true 1)) (gQ b s*(ey pb M*(pt (A.next+1) (.cells be true 1)*(pt A.next (.cells be true 1)*F)))):=iz.dK (by simp only [AW.aV];ac_rfl);by_cases hdone:s.done=true;revert hw;refine W (J5 (od p9) (od pZ) (od pY) (od rO) (nY b s _ _ kL)) (J3 hdone bz @be.eq_1) ?_<;>(unhygienic intros);have dv:fj s M=(aW.zero,s,M):=by unfold fj;rw [if_pos hdone]
 rw [dv];refine⟨_,by simp [AW.eg,AW.dF,AW.af,aB];rfl,bk.post (by simp [aW.v,aW.zero]) ?_⟩;rw [HP.cx];exact dm.le hw ((((AW.le.alloc A _).trans (AW.le.alloc _ _)).set (Nat.le_refl _) _));have QL:s.done=false:=by simpa using hdone
 have bL:s.fe.length<s.ao.length:=by
  have:¬s.fe.length=s.ao.length:=by simpa [iH.done] using hdone
  omega
 have gW:(s.fe.length:Int)<s.ao.length:=by omega
 obtain⟨vo,vw,tM⟩:=gQ.open dm;have hg:=tM.bg;have Zd:bk A (ap .i64 vo s.ao*(pt b (.cells [.int .i64 s.am,vo,vw,.int .u64 s.eF,.bool s.gi] true 1)*(ap .u64 vw s.fe*(ey pb M*F)))):=tM.dK (by ac_rfl);obtain⟨bo,off,c,bP,rfl,_,y8,qU,_,_⟩:=ap.at Zd bL;obtain⟨ow,cw,rfl,_⟩:=(ap.is tM.right.right).bE;obtain⟨nb,Uf⟩:=hw.fe hg;obtain⟨no,W9⟩:=hw.fe y8;have Wd:s.ao[s.fe.length]=jd s:=by unfold jd;rw [List.getD_eq_getElem?_getD,List.getElem?_eq_getElem bL];rfl
 rw [Wd] at qU;cases Lq:s.gi
 . rw [Lq] at hg;revert hw;(repeat first|clear hw|revert hc|revert R|revert K);refine W (J5 (od p9) (od pZ) (od pY) (od rO) (nY b s _ _ kL)) (tA QL hg y8 qU nb Uf no W9 bL gW bz @be.eq_1) ?_<;>(unhygienic intros);have xk:bk _ (ey pb M*(gQ b s*(pt (A.next+1) (.cells be true 1)*(pt A.next (.cells be true 1)*F)))):=kL.dK (by ac_rfl);refine(IO pb M 2 (jd s)).use ((hw.alloc _).alloc _) xk rfl ?_;intro v A2 yw jR zP;obtain⟨rfl,xC⟩:=yw.pL;clear yw;have dv:fj s M=(gn M 1 2 (jd s) mP,{ s with eF:=(gn M 1 2 (jd s) mP).fA,gi:=decide (mK (gn M 1 2 (jd s) mP).fA<0) },M):=by
    unfold fj;rw [if_neg hdone,if_pos Lq]
   generalize gn M 1 2 (jd s) mP=a at dv xC ⊢;have QY:bk A2 (gQ b s*(pt (A.next+1) (.cells be true 1)*(pt A.next (.cells be true 1)*(ey pb M*F)))):=xC.dK (by ac_rfl);obtain⟨An,vQ,QX⟩:=gQ.open QY;have BF:bk A2 (pt b (.cells [.int .i64 s.am,An,vQ,.int .u64 s.eF,.bool s.gi] true 1)*(pt (A.next+1) (.cells be true 1)*(pt A.next (.cells be true 1)*(ap .i64 An s.ao*(ap .u64 vQ s.fe*(ey pb M*F)))))):=QX.dK (by ac_rfl);have wm:=BF.bg;have zS:=BF.right.bg;have y9:=BF.right.right.bg;have n1:=BF.ne;have n2:=BF.Vx;have n3:=BF.right.ne;refine W (J5 (od p9) (od pZ) (od pY) (od rO) @xP) (mi wm zS y9 n1 n2 n3 Lq (Ne.symm n1) (Ne.symm n2) (Ne.symm n3) bz @be.eq_1 @aW.v.eq_1) ?_<;>intros;refine⟨_,by simp [AW.eg,AW.dF,AW.af,aB];rfl,bk.post (by rw [dv];simp [aW.v]) ?_⟩;rw [dv,HP.cx];refine gQ.dA (vo:=An) (vw:=vQ) (bk.Jn BF (by simp [AW.dF,n1,n2]) (λj x h1 h2 h3 hx=>?_));simp [AW.dF,h1,h2,h3,hx]
 rw [Lq] at hg;revert hw;(repeat first|clear hw|revert hc|revert R|revert K);refine W (J5 (od p9) (od pZ) (od pY) (od rO) (nY b s _ _ kL)) (tA QL hg y8 qU nb Uf no W9 bL gW bz @be.eq_1) ?_<;>(unhygienic intros);have xk:bk _ (ey pb M*(gQ b s*(pt (A.next+1) (.cells be true 1)*(pt A.next (.cells be true 1)*F)))):=kL.dK (by ac_rfl);refine(IN pb M 2 (jd s) _ _).use ((hw.alloc _).alloc _) xk rfl ?_;intro v A2 yw jR zP;obtain⟨rfl,xC⟩:=yw.pL;clear yw;have dv:fj s M=(gn M 3 2 (jd s) (oV s.eF (mJ s)),{ s with gi:=false,fe:=if (gn M 3 2 (jd s) (oV s.eF (mJ s))).done=true then s.fe++[s.eF] else s.fe },sc M 2 (jd s) (oV s.eF (mJ s))):=by
  unfold fj;rw [if_neg hdone,if_neg (by simp [Lq])]
 have vF:IntKind.u64.wrap (IntKind.u64.wrap (s.eF+IntKind.u64.wrap s.am)+1)=mJ s:=rfl;rw [vF] at xC ⊢;generalize gn M 3 2 (jd s) (oV s.eF (mJ s))=a at dv xC ⊢;generalize sc M 2 (jd s) (oV s.eF (mJ s))=M' at dv xC;have QY:bk A2 (gQ b s*(pt (A.next+1) (.cells be true 1)*(pt A.next (.cells be true 1)*(ey pb M'*F)))):=xC.dK (by ac_rfl);obtain⟨An,vQ,QX⟩:=gQ.open QY;have BF:bk A2 (pt b (.cells [.int .i64 s.am,An,vQ,.int .u64 s.eF,.bool s.gi] true 1)*(pt (A.next+1) (.cells be true 1)*(pt A.next (.cells be true 1)*(ap .i64 An s.ao*(ap .u64 vQ s.fe*(ey pb M'*F)))))):=QX.dK (by ac_rfl);have wm:=BF.bg;have zS:=BF.right.bg;have y9:=BF.right.right.bg;have n1:=BF.ne;have n2:=BF.Vx;have n3:=BF.right.ne;cases oA:a.done;refine W (J4 (od p9) (od pZ) (od pY) (od rO)) (vO wm zS y9 n1 n2 n3 Lq oA (Ne.symm n1) (Ne.symm n2) (Ne.symm n3) bz @be.eq_1 @aW.v.eq_1) ?_<;>intros;refine⟨_,by simp [AW.eg,AW.dF,AW.af,aB];rfl,bk.post (by rw [dv];simp [aW.v,oA]) ?_⟩
 rw [dv,HP.cx];simp only [oA,Bool.false_eq_true,if_false];refine gQ.dA (vo:=An) (vw:=vQ) (bk.Jn BF (by simp [AW.dF,n1,n2]) (λj x h1 h2 h3 hx=>?_));simp [AW.dF,h1,h2,h3,hx];revert hw;(repeat first|clear hw|revert hc|revert R|revert K);refine W (J3 (od p9) (od pZ) (od pY)) (vO wm zS y9 n1 n2 n3 Lq oA (Ne.symm n1) (Ne.symm n2) (Ne.symm n3) bz @be.eq_1 @aW.v.eq_1) ?_<;>(unhygienic intros);refine Hc (λA3=>A3.Wf/\bk A3 (pt b (.cells [.int .i64 s.am,An,vQ,.int .u64 s.eF,.bool false] true 1)*(pt (A.next+1) (.cells a.cells true 1)*(pt A.next (.cells be true 1)*(ap .i64 An s.ao*(ap .u64 vQ s.fe*(ey pb M'*F))))))) ?_ ?_;refine⟨(jR.set _ (jR.lt zS)).set _ (jR.lt wm),bk.upd3 BF (by simp [AW.dF]) (by simp [AW.dF,Ne.symm n1,aW.cells,oA]) (by simp [AW.dF,Ne.symm n2,Ne.symm n3,y9,be]) (λj x h1 h2 h3 hx=>by simp [AW.dF,h1,h2,h3,hx])⟩;rintro A3 ⟨CU,Bo⟩;have Wh:=Bo.bg;have hg31:=Bo.right.bg;have hg30:=Bo.right.right.bg
 obtain⟨v',A4,e1,nj,pF,_⟩:=ap.append (P:=Tryz.prog) (t:=28) s.eF Tryz.underlying28 Tryz.info35 Tryz.zero35 rfl rfl
  (Bo.dK (by ac_rfl):bk A3 (ap .u64 vQ s.fe*(pt b (.cells [.int .i64 s.am,An,vQ,.int .u64 s.eF,.bool false] true 1)*(pt (A.next+1) (.cells a.cells true 1)*(pt A.next (.cells be true 1)*(ap .i64 An s.ao*(ey pb M'*F)))))))
  (by omega) (by simp) CU
 have Ti:bk A4 (pt b (.cells [.int .i64 s.am,An,vQ,.int .u64 s.eF,.bool false] true 1)*(pt (A.next+1) (.cells a.cells true 1)*(pt A.next (.cells be true 1)*(ap .i64 An s.ao*(ap .u64 v' (s.fe++[s.eF])*(ey pb M'*F)))))):=nj.dK (by ac_rfl);have hg4b:=Ti.bg;have hg41:=Ti.right.bg;have hg40:=Ti.right.right.bg;obtain⟨o3,n3',vz⟩:True/\(b=A3.next)=False/\∀k,(b=A3.next+k)=False:=⟨trivial,(CU.fe Wh).1,(CU.fe Wh).2⟩;have Xg:∃o c,v'=.slice o (s.fe.length+1) c:=by
  obtain⟨o,c,h,_⟩:=(ap.is nj).bE;exact⟨o,c,by simpa using h⟩
 obtain⟨o',c',rfl⟩:=Xg;refine W (J4 (od p9) (od pZ) (od pY) (od rO)) (J19 Wh hg31 hg30 hg4b hg41 hg40 n1 n2 n3 n3' vz e1 oA (Ne.symm n1) (Ne.symm n2) (Ne.symm n3) bz @be.eq_1 (J2 @aW.v.eq_1 @aW.cells.eq_1)) ?_<;>intros;refine⟨_,by simp [AW.eg,AW.dF,AW.af,aB];rfl,bk.post (by rw [dv];simp [aW.v,oA]) ?_⟩;rw [dv,HP.cx];simp only [oA,if_true];refine gQ.dA (vo:=An) (vw:=.slice o' (s.fe.length+1) c') (bk.Jn Ti (by simp [AW.dF,n1,n2]) (λj x h1 h2 h3 hx=>?_));simp [AW.dF,h1,h2,h3,hx]
end
section
open T7
variable [Gl]
structure kg where
 os:List Int
 ws:List Int
def gY (b:Nat) (s:kg):HP:=pG λvo:Value=>pG λvw:Value=>
 pt b (.cells [vo,vw] true 1)*(ap .i64 vo s.os*ap .u64 vw s.ws)
theorem gY.open {A:AW} {b:Nat} {s:kg} {F:HP} (h:bk A (gY b s*F)) :
 ∃vo vw,bk A (pt b (.cells [vo,vw] true 1)*(ap .i64 vo s.os*(ap .u64 vw s.ws*F))):=by
 unfold gY at h;rw [bk.ex] at h;obtain⟨vo,h⟩:=h;rw [bk.ex] at h;obtain⟨vw,h⟩:=h;exact⟨vo,vw,h.dK (by ac_rfl)⟩
theorem gY.dA {A:AW} {b:Nat} {s:kg} {F:HP} {vo vw:Value} (h:bk A (pt b (.cells [vo,vw] true 1)*(ap .i64 vo s.os*(ap .u64 vw s.ws*F)))) :
 bk A (gY b s*F):=by
 unfold gY;rw [bk.ex];refine⟨vo,?_⟩;rw [bk.ex];exact⟨vw,h.dK (by ac_rfl)⟩
def kg.done (s:kg):Bool:=decide (s.os.length=0)
theorem sw (b:Nat) (s:kg) (A:AW) (F:HP) (h:bk A (gY b s*F)) :
 ax Tryz.prog 201 [.pointer (some ⟨b,0,none⟩)] A (λv A'=>v=.bool s.done/\A=A'):=by
 refine aF Tryz.func201 λhw=>?_;obtain⟨vo,vw,hS⟩:=gY.open h;obtain⟨oo,co,rfl,_⟩:=(ap.is hS.right).bE;obtain⟨ow,cw,rfl,_⟩:=(ap.is hS.right.right).bE;have hg:=hS.bg;refine W cd (J2 hg @AW.af) ?_<;>intros;simp [kg.done]
theorem ap.tl {A:AW} {k:IntKind} {v:Value} {x:Int} {l:List Int} {F:HP} (h:bk A (ap k v (x::l)*F)) :
 ∃b off c bP,v=.slice (some ⟨b,off,none⟩) (l.length+1) c/\A.bg b=some (.cells bP true 1)/\(∀j o F',F=pt j o*F'->b≠j)/\(∀j o i o' F',F=pt j o*(pt i o'*F')->b≠i)/\bk A (ap k (.slice (some ⟨b,off+1,none⟩) l.length (c-1)) l*F):=by
 rcases cY.cases h with ⟨_,h0,_⟩|⟨b,off,c,bP,rfl,h1,h2,h3,h4⟩;simp at h0;refine⟨b,off,c,bP,by simp,h4.bg,λj o F' e=>by subst e;exact h4.ne,λj o i o' F' e=>by subst e;exact h4.Vx,?_⟩;simp only [List.length_cons,Nat.mul_one] at h1 h2 h3;refine ap.mk rfl (by omega) (by omega) ?_ h4;rw [List.drop_eq_getElem_cons (by omega),List.map_cons,List.take_succ_cons] at h3;exact(List.cons.inj h3).2
def lj (s:kg) (M:Nat->List Int):aW×kg×(Nat->List Int):=
 if s.done=true then (aW.zero,s,M)
 else (gn M 2 2 (s.os.getD 0 0) (iA (s.ws.getD 0 0)),⟨s.os.tail,s.ws.tail⟩,sc M 2 (s.os.getD 0 0) (iA (s.ws.getD 0 0)))
theorem Gv (b pb:Nat) (s:kg) (M:Nat->List Int) (bG:s.os.length=s.ws.length) :
 oX Tryz.prog 200 [.pointer (some ⟨b,0,none⟩),.pointer (some ⟨pb,0,none⟩)] (gY b s*ey pb M)
  (λv=>Bl (v=(lj s M).1.v)*(gY b (lj s M).2.1*ey pb (lj s M).2.2)):=by
 intro A F hw dm;refine aF Tryz.func200 λ_=>?_;rw [HP.cx] at dm;have iz:=(dm.alloc hw (.cells be true 1));have kL:bk (A.alloc (.cells be true 1)) (gY b s*(ey pb M*(pt A.next (.cells be true 1)*F))):=iz.dK (by ac_rfl);by_cases hdone:s.done=true;have hd:=sw b s _ _ kL;rw [hdone] at hd;revert hw;refine Wu (J2 (⟨⟩:Ts (λ_=>True) [0,0,0,0,0,0,0,0,0,0,0,0,0,3,0,0,0,2,3,0] (.aD 0 (.aD 1 (.aD 2 (.aD 3 (.aD 4 (.aD 5 (.aD 6 (.aD 7 (.aD 8 (.aD 9 (.aD 10 (.aD 11 (.aD 12 (.qD 13 (.aD 14 (.aD 15 (.aD 16 (.aD 17 (.aD 18 (.aD 19 .nil)))))) 17 (.aD 13 (.aD 14 (.aD 15 (.aD 16 (.aD 18 (.aD 19 .nil))))))))))))))))))))) @hd) (J2 bz @be.eq_1) ?_<;>(unhygienic intros);have dv:lj s M=(aW.zero,s,M):=by unfold lj;rw [if_pos hdone]
 rw [dv];refine⟨_,by simp [AW.af,aB];rfl,bk.post (by simp [aW.v,aW.zero]) ?_⟩;rw [HP.cx];exact dm.le hw ((AW.le.alloc A _).set (Nat.le_refl _) _);have hd:=sw b s _ _ kL;rw [show s.done=false by simpa using hdone] at hd;obtain⟨os,ws⟩:=s;cases os with
 | nil=>simp [kg.done] at hdone
 | cons o os=>
 cases ws with
 | nil=>simp at bG
 | cons x ws=>
 have dv:lj ⟨o::os,x::ws⟩ M=(gn M 2 2 o (iA x),⟨os,ws⟩,sc M 2 o (iA x)):=by
  unfold lj;rw [if_neg hdone];rfl
 obtain⟨vo,vw,tM⟩:=gY.open dm;have hg:=tM.bg;have Zd:bk A (ap .i64 vo (o::os)*(pt b (.cells [vo,vw] true 1)*(ap .u64 vw (x::ws)*(ey pb M*F)))):=tM.dK (by ac_rfl);have hSw:bk A (ap .u64 vw (x::ws)*(pt b (.cells [vo,vw] true 1)*(ap .i64 vo (o::os)*(ey pb M*F)))):=tM.dK (by ac_rfl);obtain⟨bo,off,c,bP,rfl,_,y8,qU,_,_⟩:=ap.at Zd (j:=0) (by simp);obtain⟨bw,offw,cw,roww,rfl,_,We,Td,_,_⟩:=ap.at hSw (j:=0) (by simp);obtain⟨nb,Uf⟩:=hw.fe hg;obtain⟨no,W9⟩:=hw.fe y8;obtain⟨nw,nw'⟩:=hw.fe We;simp at y8 qU We Td;revert hw;(repeat first|clear hw|revert hc|revert R|revert K);refine Wu (J2 @hd (⟨⟩:Ts (λ_=>True) [0,0,0,0,0,0,0,0,0,0,0,0,0,3,0,0,0,2,3,3] (.aD 0 (.aD 1 (.aD 2 (.aD 3 (.aD 4 (.aD 5 (.aD 6 (.aD 7 (.aD 8 (.aD 9 (.aD 10 (.aD 11 (.aD 12 (.qD 13 (.aD 14 (.aD 15 (.aD 16 (.aD 17 (.aD 18 (.aD 19 .nil)))))) 17 (.aD 13 (.aD 14 (.aD 15 (.aD 16 (.aD 18 (.aD 19 .nil)))))))))))))))))))))) (mi hg y8 qU We Td nb Uf no W9 nw nw' bz @be.eq_1) (J2 ?_ ?_)<;>(unhygienic intros)
 . have xk:bk _ (ey pb M*(gY b ⟨o::os,x::ws⟩*(pt A.next (.cells be true 1)*F))):=kL.dK (by ac_rfl);refine(rQ pb M 2 o x).use (hw.alloc _) xk rfl ?_;intro v A2 yw jR zP;obtain⟨rfl,xC⟩:=yw.pL;clear yw;generalize gn M 2 2 o (iA x)=a at dv xC ⊢;generalize sc M 2 o (iA x)=M' at dv xC;generalize oS M 2 o=er at xC ⊢;have QY:bk A2 (gY b ⟨o::os,x::ws⟩*(pt A.next (.cells be true 1)*(ey pb M'*F))):=xC.dK (by ac_rfl);obtain⟨An,vQ,QX⟩:=gY.open QY;obtain⟨DA,Cv,Dq,PA,rfl,sR,Ll,Qu,BF⟩:=ap.tl (QX.dK (by ac_rfl):bk A2 (ap .i64 An (o::os)*(pt b (.cells [An,vQ] true 1)*(ap .u64 vQ (x::ws)*(pt A.next (.cells be true 1)*(ey pb M'*F))))));obtain⟨Hb,KC,LO,Ci,rfl,sQ,Lk,Qs,Bo⟩:=ap.tl (BF.dK (by ac_rfl):bk A2 (ap .u64 vQ (x::ws)*(pt b (.cells [.slice (some ⟨DA,Cv,none⟩) (os.length+1) Dq,vQ] true 1)*(ap .i64 (.slice (some ⟨DA,Cv+1,none⟩) os.length (Dq-1)) os*(pt A.next (.cells be true 1)*(ey pb M'*F))))));have nj:=(Bo.dK (by ac_rfl):bk A2 (pt b (.cells [.slice (some ⟨DA,Cv,none⟩) (os.length+1) Dq,.slice (some ⟨Hb,KC,none⟩) (ws.length+1) LO] true 1)*(pt A.next (.cells be true 1)*(ap .i64 (.slice (some ⟨DA,Cv+1,none⟩) os.length (Dq-1)) os*(ap .u64 (.slice (some ⟨Hb,KC+1,none⟩) ws.length (LO-1)) ws*(ey pb M'*F))))))
   have wm:=nj.bg;have y9:=nj.right.bg;have n1:=nj.ne;obtain⟨nF,w8⟩:=jR.fe wm;obtain⟨KH,w5⟩:=jR.fe sR;obtain⟨KG,wZ⟩:=jR.fe sQ;obtain⟨CD,w9⟩:=jR.fe y9;have e1:(1:Int)<=(os.length:Int)+1:=(by omega);have e2:(1:Int)<=(ws.length:Int)+1:=(by omega);have n2:=Ll _ _ _ rfl;have n3:=Lk _ _ _ rfl;have GH:A2.next≠b:=λe=>by rw [<-e] at nF;simp at nF
   have IM:A2.next≠A.next:=λe=>by rw [<-e] at CD;simp at CD
   repeat' (first|(refine jX λR hR=>?_;simp [ai,ar,AW.af,aB,be,wm,y9,sR,sQ,n1,Ne.symm n1,n2,n3,Ne.symm n2,Ne.symm n3,nF,w8,KH,w5,KG,wZ,CD,w9,e1,e2,GH,IM,aW.v,eu];try simp (disch:=omega) only [if_pos,if_neg,ai,ar])|(refine hR _ _ ?_;clear hR R)|(refine hK _ _ ?_;clear hK K)|refine nx ?_|(refine Md λR hR=>?_;simp [ai,ar,AW.af,aB,be,wm,y9,sR,sQ,n1,Ne.symm n1,n2,n3,Ne.symm n2,Ne.symm n3,nF,w8,KH,w5,KG,wZ,CD,w9,e1,e2,GH,IM,aW.v,eu];try simp (disch:=omega) only [if_pos,if_neg,ai,ar])|(refine H0 (λR hR=>?_) (λR hR=>?_)<;>(simp [ai,ar,AW.af,aB,be,wm,y9,sR,sQ,n1,Ne.symm n1,n2,n3,Ne.symm n2,Ne.symm n3,nF,w8,KH,w5,KG,wZ,CD,w9,e1,e2,GH,IM,aW.v,eu];try simp (disch:=omega) only [if_pos,if_neg,ai,ar]))|refine Mc ?_|refine wn λK hK=>?_|simp only [wS]|simp only [bA,rg,kU,Option.map_none,Option.map_some,List.getElem?_toArray,List.getElem?_cons_zero,List.getElem?_cons_succ,List.getD_cons_zero,List.getD_cons_succ,Option.bind_some]|(refine ⟨λA' yx=>by rw [yx]<;>rfl,?_⟩)|(refine U5 (λA'=>A'.bg Hb=some (.cells Ci true 1)) Tryz.mx [(0,0),(1,0),(2,0),(3,0),(4,0),(5,0),(6,0),(7,0),(8,0),(9,0),(10,0),(11,1),(12,0),(13,0),(14,3),(15,0),(16,0),(17,3)] (by decide +kernel) λK hK=>?_)|((refine wt (λ_=>True) Tryz.mx [] .nil (by decide +kernel) ?_<;>fail))|(show cM _ _ _ _ _ _;refine nx ?_)|(refine wc rfl (λhc=>?_) (λhc=>?_)<;>(try simp at hc)<;>(try omega))|(refine ib (λhc=>?_) (λhc=>?_)<;>(try omega)<;>(try simp (disch:=omega) only [if_pos,if_neg])))
   refine⟨_,by simp [AW.af,aB,GH,IM];rfl,bk.post (by rw [dv];simp [aW.v]) ?_⟩;rw [dv,HP.cx];refine gY.dA (vo:=.slice (some ⟨DA,Cv+1,none⟩) os.length (Dq-1)) (vw:=.slice (some ⟨Hb,KC+1,none⟩) ws.length (LO-1)) (bk.Q9 nj (by simp [AW.dF,n1,GH]) (λj x h1 h2 hx=>?_));have hj:=(jR.fe hx).1;simp [AW.dF,h1,h2,hx,hj]
 have xk:bk _ (ey pb M*(gY b ⟨o::os,x::ws⟩*(pt (A.next+1) (.cells be true 1)*(pt A.next (.cells be true 1)*F)))):=((kL.alloc (hw.alloc _) (.cells be true 1)).dK (by simp only [AW.aV];ac_rfl));refine(rQ pb M 2 o x).use ((hw.alloc _).alloc _) xk rfl ?_;intro v A2 yw jR zP;obtain⟨rfl,xC⟩:=yw.pL;clear yw;generalize gn M 2 2 o (iA x)=a at dv xC ⊢;generalize sc M 2 o (iA x)=M' at dv xC;generalize oS M 2 o=er at xC ⊢;have QY:bk A2 (gY b ⟨o::os,x::ws⟩*(pt (A.next+1) (.cells be true 1)*(pt A.next (.cells be true 1)*(ey pb M'*F)))):=xC.dK (by ac_rfl);obtain⟨An,vQ,QX⟩:=gY.open QY;obtain⟨DA,Cv,Dq,PA,rfl,sR,Ll,Qu,BF⟩:=ap.tl (QX.dK (by ac_rfl):bk A2 (ap .i64 An (o::os)*(pt b (.cells [An,vQ] true 1)*(pt (A.next+1) (.cells be true 1)*(ap .u64 vQ (x::ws)*(pt A.next (.cells be true 1)*(ey pb M'*F)))))));obtain⟨Hb,KC,LO,Ci,rfl,sQ,Lk,Qs,Bo⟩:=ap.tl (BF.dK (by ac_rfl):bk A2 (ap .u64 vQ (x::ws)*(pt b (.cells [.slice (some ⟨DA,Cv,none⟩) (os.length+1) Dq,vQ] true 1)*(pt (A.next+1) (.cells be true 1)*(ap .i64 (.slice (some ⟨DA,Cv+1,none⟩) os.length (Dq-1)) os*(pt A.next (.cells be true 1)*(ey pb M'*F)))))))
 have nj:=(Bo.dK (by ac_rfl):bk A2 (pt b (.cells [.slice (some ⟨DA,Cv,none⟩) (os.length+1) Dq,.slice (some ⟨Hb,KC,none⟩) (ws.length+1) LO] true 1)*(pt (A.next+1) (.cells be true 1)*(pt A.next (.cells be true 1)*(ap .i64 (.slice (some ⟨DA,Cv+1,none⟩) os.length (Dq-1)) os*(ap .u64 (.slice (some ⟨Hb,KC+1,none⟩) ws.length (LO-1)) ws*(ey pb M'*F)))))));have wm:=nj.bg;have zS:=nj.right.bg;have y9:=nj.right.right.bg;have n1:=nj.Vx;have n4:=nj.ne;have n5:=nj.right.ne;obtain⟨P7,KM⟩:=jR.fe zS;obtain⟨nF,w8⟩:=jR.fe wm;obtain⟨KH,w5⟩:=jR.fe sR;obtain⟨KG,wZ⟩:=jR.fe sQ;obtain⟨CD,w9⟩:=jR.fe y9;have e1:(1:Int)<=(os.length:Int)+1:=by omega
 have e2:(1:Int)<=(ws.length:Int)+1:=by omega
 have n2:=Ll _ _ _ rfl;have n3:=Lk _ _ _ rfl;have n6:=Qu _ _ _ _ _ rfl;have n7:=Qs _ _ _ _ _ rfl;have GH:A2.next≠b:=λe=>by rw [<-e] at nF;simp at nF
 have IM:A2.next≠A.next:=λe=>by rw [<-e] at CD;simp at CD
 repeat' (first|(refine jX λR hR=>?_;simp [ai,ar,AW.af,aB,be,wm,y9,zS,n6,n7,Ne.symm n6,Ne.symm n7,n4,n5,Ne.symm n4,Ne.symm n5,P7,KM,sR,sQ,n1,Ne.symm n1,n2,n3,Ne.symm n2,Ne.symm n3,nF,w8,KH,w5,KG,wZ,CD,w9,e1,e2,GH,IM,aW.v,eu];try simp (disch:=omega) only [if_pos,if_neg,ai,ar])|(refine hR _ _ ?_;clear hR R)|(refine hK _ _ ?_;clear hK K)|refine nx ?_|(refine Md λR hR=>?_;simp [ai,ar,AW.af,aB,be,wm,y9,zS,n6,n7,Ne.symm n6,Ne.symm n7,n4,n5,Ne.symm n4,Ne.symm n5,P7,KM,sR,sQ,n1,Ne.symm n1,n2,n3,Ne.symm n2,Ne.symm n3,nF,w8,KH,w5,KG,wZ,CD,w9,e1,e2,GH,IM,aW.v,eu];try simp (disch:=omega) only [if_pos,if_neg,ai,ar])|(refine H0 (λR hR=>?_) (λR hR=>?_)<;>(simp [ai,ar,AW.af,aB,be,wm,y9,zS,n6,n7,Ne.symm n6,Ne.symm n7,n4,n5,Ne.symm n4,Ne.symm n5,P7,KM,sR,sQ,n1,Ne.symm n1,n2,n3,Ne.symm n2,Ne.symm n3,nF,w8,KH,w5,KG,wZ,CD,w9,e1,e2,GH,IM,aW.v,eu];try simp (disch:=omega) only [if_pos,if_neg,ai,ar]))|refine Mc ?_|refine wn λK hK=>?_|simp only [wS]|simp only [bA,rg,kU,Option.map_none,Option.map_some,List.getElem?_toArray,List.getElem?_cons_zero,List.getElem?_cons_succ,List.getD_cons_zero,List.getD_cons_succ,Option.bind_some]|(refine ⟨λA' yx=>by rw [yx]<;>rfl,?_⟩)|(refine U5 (λA'=>A'.bg Hb=some (.cells Ci true 1)) Tryz.mx [(0,0),(1,0),(2,0),(3,0),(4,0),(5,0),(6,0),(7,0),(8,0),(9,0),(10,0),(11,1),(12,0),(13,0),(14,3),(15,0),(16,0),(17,3)] (by decide +kernel) λK hK=>?_)|((refine wt (λ_=>True) Tryz.mx [] .nil (by decide +kernel) ?_<;>fail))|(show cM _ _ _ _ _ _;refine nx ?_)|(refine wc rfl (λhc=>?_) (λhc=>?_)<;>(try simp at hc)<;>(try omega))|(refine ib (λhc=>?_) (λhc=>?_)<;>(try omega)<;>(try simp (disch:=omega) only [if_pos,if_neg])))
 refine⟨_,by simp [AW.af,aB,n1,n4,n5,Ne.symm n1,Ne.symm n4,Ne.symm n5];rfl,bk.post (by rw [dv];simp [aW.v]) ?_⟩;rw [dv,HP.cx];refine gY.dA (vo:=.slice (some ⟨DA,Cv+1,none⟩) os.length (Dq-1)) (vw:=.slice (some ⟨Hb,KC+1,none⟩) ws.length (LO-1)) (bk.Jn nj (by simp [AW.dF,n1,n4]) (λj x h1 h2 h3 hx=>?_));simp [AW.dF,h1,h2,h3,hx]
end
section
open T7
variable [Gl]
theorem tP (b:Nat) (s:kg) (A:AW) (F:HP) (h:bk A (gY b s*F)) :
 ax Tryz.prog 196 [.pointer (some ⟨b,0,none⟩)] A (λv A'=>v=.bool s.done/\A=A'):=by
 refine aF Tryz.func196 λhw=>?_;obtain⟨vo,vw,hS⟩:=gY.open h;obtain⟨oo,co,rfl,_⟩:=(ap.is hS.right).bE;obtain⟨ow,cw,rfl,_⟩:=(ap.is hS.right.right).bE;have hg:=hS.bg;refine W cd (J2 hg @AW.af) ?_<;>intros;simp [kg.done]
def nC (s:kg) (M:Nat->List Int):aW×kg×(Nat->List Int):=
 if s.done=true then (aW.zero,s,M)
 else (gn M 2 1 (s.os.getD 0 0) (iA (s.ws.getD 0 0)),⟨s.os.tail,s.ws.tail⟩,sc M 1 (s.os.getD 0 0) (iA (s.ws.getD 0 0)))
theorem HV (b pb:Nat) (s:kg) (M:Nat->List Int) (bG:s.os.length=s.ws.length) :
 oX Tryz.prog 195 [.pointer (some ⟨b,0,none⟩),.pointer (some ⟨pb,0,none⟩)] (gY b s*ey pb M)
  (λv=>Bl (v=(nC s M).1.v)*(gY b (nC s M).2.1*ey pb (nC s M).2.2)):=by
 intro A F hw dm;refine aF Tryz.func195 λ_=>?_;rw [HP.cx] at dm;have iz:=(dm.alloc hw (.cells be true 1));have kL:bk (A.alloc (.cells be true 1)) (gY b s*(ey pb M*(pt A.next (.cells be true 1)*F))):=iz.dK (by ac_rfl);by_cases hdone:s.done=true;have hd:=tP b s _ _ kL;rw [hdone] at hd;revert hw;refine Wu (J2 (⟨⟩:Ts (λ_=>True) [0,0,0,0,0,0,0,0,0,0,0,0,0,3,0,0,0,2,3,0] (.aD 0 (.aD 1 (.aD 2 (.aD 3 (.aD 4 (.aD 5 (.aD 6 (.aD 7 (.aD 8 (.aD 9 (.aD 10 (.aD 11 (.aD 12 (.qD 13 (.aD 14 (.aD 15 (.aD 16 (.aD 17 (.aD 18 (.aD 19 .nil)))))) 17 (.aD 13 (.aD 14 (.aD 15 (.aD 16 (.aD 18 (.aD 19 .nil))))))))))))))))))))) @hd) (J2 bz @be.eq_1) ?_<;>(unhygienic intros);have dv:nC s M=(aW.zero,s,M):=by unfold nC;rw [if_pos hdone]
 rw [dv];refine⟨_,by simp [AW.af,aB];rfl,bk.post (by simp [aW.v,aW.zero]) ?_⟩;rw [HP.cx];exact dm.le hw ((AW.le.alloc A _).set (Nat.le_refl _) _);have hd:=tP b s _ _ kL;rw [show s.done=false by simpa using hdone] at hd;obtain⟨os,ws⟩:=s;cases os with
 | nil=>simp [kg.done] at hdone
 | cons o os=>
 cases ws with
 | nil=>simp at bG
 | cons x ws=>
 have dv:nC ⟨o::os,x::ws⟩ M=(gn M 2 1 o (iA x),⟨os,ws⟩,sc M 1 o (iA x)):=by
  unfold nC;rw [if_neg hdone];rfl
 obtain⟨vo,vw,tM⟩:=gY.open dm;have hg:=tM.bg;have Zd:bk A (ap .i64 vo (o::os)*(pt b (.cells [vo,vw] true 1)*(ap .u64 vw (x::ws)*(ey pb M*F)))):=tM.dK (by ac_rfl);have hSw:bk A (ap .u64 vw (x::ws)*(pt b (.cells [vo,vw] true 1)*(ap .i64 vo (o::os)*(ey pb M*F)))):=tM.dK (by ac_rfl);obtain⟨bo,off,c,bP,rfl,_,y8,qU,_,_⟩:=ap.at Zd (j:=0) (by simp);obtain⟨bw,offw,cw,roww,rfl,_,We,Td,_,_⟩:=ap.at hSw (j:=0) (by simp);obtain⟨nb,Uf⟩:=hw.fe hg;obtain⟨no,W9⟩:=hw.fe y8;obtain⟨nw,nw'⟩:=hw.fe We;simp at y8 qU We Td;revert hw;(repeat first|clear hw|revert hc|revert R|revert K);refine Wu (J2 @hd (⟨⟩:Ts (λ_=>True) [0,0,0,0,0,0,0,0,0,0,0,0,0,3,0,0,0,2,3,3] (.aD 0 (.aD 1 (.aD 2 (.aD 3 (.aD 4 (.aD 5 (.aD 6 (.aD 7 (.aD 8 (.aD 9 (.aD 10 (.aD 11 (.aD 12 (.qD 13 (.aD 14 (.aD 15 (.aD 16 (.aD 17 (.aD 18 (.aD 19 .nil)))))) 17 (.aD 13 (.aD 14 (.aD 15 (.aD 16 (.aD 18 (.aD 19 .nil)))))))))))))))))))))) (mi hg y8 qU We Td nb Uf no W9 nw nw' bz @be.eq_1) (J2 ?_ ?_)<;>(unhygienic intros)
 . have xk:bk _ (ey pb M*(gY b ⟨o::os,x::ws⟩*(pt A.next (.cells be true 1)*F))):=kL.dK (by ac_rfl);refine(rQ pb M 1 o x).use (hw.alloc _) xk rfl ?_;intro v A2 yw jR zP;obtain⟨rfl,xC⟩:=yw.pL;clear yw;generalize gn M 2 1 o (iA x)=a at dv xC ⊢;generalize sc M 1 o (iA x)=M' at dv xC;generalize oS M 2 o=er at xC ⊢;have QY:bk A2 (gY b ⟨o::os,x::ws⟩*(pt A.next (.cells be true 1)*(ey pb M'*F))):=xC.dK (by ac_rfl);obtain⟨An,vQ,QX⟩:=gY.open QY;obtain⟨DA,Cv,Dq,PA,rfl,sR,Ll,Qu,BF⟩:=ap.tl (QX.dK (by ac_rfl):bk A2 (ap .i64 An (o::os)*(pt b (.cells [An,vQ] true 1)*(ap .u64 vQ (x::ws)*(pt A.next (.cells be true 1)*(ey pb M'*F))))));obtain⟨Hb,KC,LO,Ci,rfl,sQ,Lk,Qs,Bo⟩:=ap.tl (BF.dK (by ac_rfl):bk A2 (ap .u64 vQ (x::ws)*(pt b (.cells [.slice (some ⟨DA,Cv,none⟩) (os.length+1) Dq,vQ] true 1)*(ap .i64 (.slice (some ⟨DA,Cv+1,none⟩) os.length (Dq-1)) os*(pt A.next (.cells be true 1)*(ey pb M'*F))))));have nj:=(Bo.dK (by ac_rfl):bk A2 (pt b (.cells [.slice (some ⟨DA,Cv,none⟩) (os.length+1) Dq,.slice (some ⟨Hb,KC,none⟩) (ws.length+1) LO] true 1)*(pt A.next (.cells be true 1)*(ap .i64 (.slice (some ⟨DA,Cv+1,none⟩) os.length (Dq-1)) os*(ap .u64 (.slice (some ⟨Hb,KC+1,none⟩) ws.length (LO-1)) ws*(ey pb M'*F))))))
   have wm:=nj.bg;have y9:=nj.right.bg;have n1:=nj.ne;obtain⟨nF,w8⟩:=jR.fe wm;obtain⟨KH,w5⟩:=jR.fe sR;obtain⟨KG,wZ⟩:=jR.fe sQ;obtain⟨CD,w9⟩:=jR.fe y9;have e1:(1:Int)<=(os.length:Int)+1:=(by omega);have e2:(1:Int)<=(ws.length:Int)+1:=(by omega);have n2:=Ll _ _ _ rfl;have n3:=Lk _ _ _ rfl;have GH:A2.next≠b:=λe=>by rw [<-e] at nF;simp at nF
   have IM:A2.next≠A.next:=λe=>by rw [<-e] at CD;simp at CD
   repeat' (first|(refine jX λR hR=>?_;simp [ai,ar,AW.af,aB,be,wm,y9,sR,sQ,n1,Ne.symm n1,n2,n3,Ne.symm n2,Ne.symm n3,nF,w8,KH,w5,KG,wZ,CD,w9,e1,e2,GH,IM,aW.v,eu];try simp (disch:=omega) only [if_pos,if_neg,ai,ar])|(refine hR _ _ ?_;clear hR R)|(refine hK _ _ ?_;clear hK K)|refine nx ?_|(refine Md λR hR=>?_;simp [ai,ar,AW.af,aB,be,wm,y9,sR,sQ,n1,Ne.symm n1,n2,n3,Ne.symm n2,Ne.symm n3,nF,w8,KH,w5,KG,wZ,CD,w9,e1,e2,GH,IM,aW.v,eu];try simp (disch:=omega) only [if_pos,if_neg,ai,ar])|(refine H0 (λR hR=>?_) (λR hR=>?_)<;>(simp [ai,ar,AW.af,aB,be,wm,y9,sR,sQ,n1,Ne.symm n1,n2,n3,Ne.symm n2,Ne.symm n3,nF,w8,KH,w5,KG,wZ,CD,w9,e1,e2,GH,IM,aW.v,eu];try simp (disch:=omega) only [if_pos,if_neg,ai,ar]))|refine Mc ?_|refine wn λK hK=>?_|simp only [wS]|simp only [bA,rg,kU,Option.map_none,Option.map_some,List.getElem?_toArray,List.getElem?_cons_zero,List.getElem?_cons_succ,List.getD_cons_zero,List.getD_cons_succ,Option.bind_some]|(refine ⟨λA' yx=>by rw [yx]<;>rfl,?_⟩)|(refine U5 (λA'=>A'.bg Hb=some (.cells Ci true 1)) Tryz.mx [(0,0),(1,0),(2,0),(3,0),(4,0),(5,0),(6,0),(7,0),(8,0),(9,0),(10,0),(11,1),(12,0),(13,0),(14,3),(15,0),(16,0),(17,3)] (by decide +kernel) λK hK=>?_)|((refine wt (λ_=>True) Tryz.mx [] .nil (by decide +kernel) ?_<;>fail))|(show cM _ _ _ _ _ _;refine nx ?_)|(refine wc rfl (λhc=>?_) (λhc=>?_)<;>(try simp at hc)<;>(try omega))|(refine ib (λhc=>?_) (λhc=>?_)<;>(try omega)<;>(try simp (disch:=omega) only [if_pos,if_neg])))
   refine⟨_,by simp [AW.af,aB,GH,IM];rfl,bk.post (by rw [dv];simp [aW.v]) ?_⟩;rw [dv,HP.cx];refine gY.dA (vo:=.slice (some ⟨DA,Cv+1,none⟩) os.length (Dq-1)) (vw:=.slice (some ⟨Hb,KC+1,none⟩) ws.length (LO-1)) (bk.Q9 nj (by simp [AW.dF,n1,GH]) (λj x h1 h2 hx=>?_));have hj:=(jR.fe hx).1;simp [AW.dF,h1,h2,hx,hj]
 have xk:bk _ (ey pb M*(gY b ⟨o::os,x::ws⟩*(pt (A.next+1) (.cells be true 1)*(pt A.next (.cells be true 1)*F)))):=((kL.alloc (hw.alloc _) (.cells be true 1)).dK (by simp only [AW.aV];ac_rfl));refine(rQ pb M 1 o x).use ((hw.alloc _).alloc _) xk rfl ?_;intro v A2 yw jR zP;obtain⟨rfl,xC⟩:=yw.pL;clear yw;generalize gn M 2 1 o (iA x)=a at dv xC ⊢;generalize sc M 1 o (iA x)=M' at dv xC;generalize oS M 2 o=er at xC ⊢;have QY:bk A2 (gY b ⟨o::os,x::ws⟩*(pt (A.next+1) (.cells be true 1)*(pt A.next (.cells be true 1)*(ey pb M'*F)))):=xC.dK (by ac_rfl);obtain⟨An,vQ,QX⟩:=gY.open QY;obtain⟨DA,Cv,Dq,PA,rfl,sR,Ll,Qu,BF⟩:=ap.tl (QX.dK (by ac_rfl):bk A2 (ap .i64 An (o::os)*(pt b (.cells [An,vQ] true 1)*(pt (A.next+1) (.cells be true 1)*(ap .u64 vQ (x::ws)*(pt A.next (.cells be true 1)*(ey pb M'*F)))))));obtain⟨Hb,KC,LO,Ci,rfl,sQ,Lk,Qs,Bo⟩:=ap.tl (BF.dK (by ac_rfl):bk A2 (ap .u64 vQ (x::ws)*(pt b (.cells [.slice (some ⟨DA,Cv,none⟩) (os.length+1) Dq,vQ] true 1)*(pt (A.next+1) (.cells be true 1)*(ap .i64 (.slice (some ⟨DA,Cv+1,none⟩) os.length (Dq-1)) os*(pt A.next (.cells be true 1)*(ey pb M'*F)))))))
 have nj:=(Bo.dK (by ac_rfl):bk A2 (pt b (.cells [.slice (some ⟨DA,Cv,none⟩) (os.length+1) Dq,.slice (some ⟨Hb,KC,none⟩) (ws.length+1) LO] true 1)*(pt (A.next+1) (.cells be true 1)*(pt A.next (.cells be true 1)*(ap .i64 (.slice (some ⟨DA,Cv+1,none⟩) os.length (Dq-1)) os*(ap .u64 (.slice (some ⟨Hb,KC+1,none⟩) ws.length (LO-1)) ws*(ey pb M'*F)))))));have wm:=nj.bg;have zS:=nj.right.bg;have y9:=nj.right.right.bg;have n1:=nj.Vx;have n4:=nj.ne;have n5:=nj.right.ne;obtain⟨P7,KM⟩:=jR.fe zS;obtain⟨nF,w8⟩:=jR.fe wm;obtain⟨KH,w5⟩:=jR.fe sR;obtain⟨KG,wZ⟩:=jR.fe sQ;obtain⟨CD,w9⟩:=jR.fe y9;have e1:(1:Int)<=(os.length:Int)+1:=by omega
 have e2:(1:Int)<=(ws.length:Int)+1:=by omega
 have n2:=Ll _ _ _ rfl;have n3:=Lk _ _ _ rfl;have n6:=Qu _ _ _ _ _ rfl;have n7:=Qs _ _ _ _ _ rfl;have GH:A2.next≠b:=λe=>by rw [<-e] at nF;simp at nF
 have IM:A2.next≠A.next:=λe=>by rw [<-e] at CD;simp at CD
 repeat' (first|(refine jX λR hR=>?_;simp [ai,ar,AW.af,aB,be,wm,y9,zS,n6,n7,Ne.symm n6,Ne.symm n7,n4,n5,Ne.symm n4,Ne.symm n5,P7,KM,sR,sQ,n1,Ne.symm n1,n2,n3,Ne.symm n2,Ne.symm n3,nF,w8,KH,w5,KG,wZ,CD,w9,e1,e2,GH,IM,aW.v,eu];try simp (disch:=omega) only [if_pos,if_neg,ai,ar])|(refine hR _ _ ?_;clear hR R)|(refine hK _ _ ?_;clear hK K)|refine nx ?_|(refine Md λR hR=>?_;simp [ai,ar,AW.af,aB,be,wm,y9,zS,n6,n7,Ne.symm n6,Ne.symm n7,n4,n5,Ne.symm n4,Ne.symm n5,P7,KM,sR,sQ,n1,Ne.symm n1,n2,n3,Ne.symm n2,Ne.symm n3,nF,w8,KH,w5,KG,wZ,CD,w9,e1,e2,GH,IM,aW.v,eu];try simp (disch:=omega) only [if_pos,if_neg,ai,ar])|(refine H0 (λR hR=>?_) (λR hR=>?_)<;>(simp [ai,ar,AW.af,aB,be,wm,y9,zS,n6,n7,Ne.symm n6,Ne.symm n7,n4,n5,Ne.symm n4,Ne.symm n5,P7,KM,sR,sQ,n1,Ne.symm n1,n2,n3,Ne.symm n2,Ne.symm n3,nF,w8,KH,w5,KG,wZ,CD,w9,e1,e2,GH,IM,aW.v,eu];try simp (disch:=omega) only [if_pos,if_neg,ai,ar]))|refine Mc ?_|refine wn λK hK=>?_|simp only [wS]|simp only [bA,rg,kU,Option.map_none,Option.map_some,List.getElem?_toArray,List.getElem?_cons_zero,List.getElem?_cons_succ,List.getD_cons_zero,List.getD_cons_succ,Option.bind_some]|(refine ⟨λA' yx=>by rw [yx]<;>rfl,?_⟩)|(refine U5 (λA'=>A'.bg Hb=some (.cells Ci true 1)) Tryz.mx [(0,0),(1,0),(2,0),(3,0),(4,0),(5,0),(6,0),(7,0),(8,0),(9,0),(10,0),(11,1),(12,0),(13,0),(14,3),(15,0),(16,0),(17,3)] (by decide +kernel) λK hK=>?_)|((refine wt (λ_=>True) Tryz.mx [] .nil (by decide +kernel) ?_<;>fail))|(show cM _ _ _ _ _ _;refine nx ?_)|(refine wc rfl (λhc=>?_) (λhc=>?_)<;>(try simp at hc)<;>(try omega))|(refine ib (λhc=>?_) (λhc=>?_)<;>(try omega)<;>(try simp (disch:=omega) only [if_pos,if_neg])))
 refine⟨_,by simp [AW.af,aB,n1,n4,n5,Ne.symm n1,Ne.symm n4,Ne.symm n5];rfl,bk.post (by rw [dv];simp [aW.v]) ?_⟩;rw [dv,HP.cx];refine gY.dA (vo:=.slice (some ⟨DA,Cv+1,none⟩) os.length (Dq-1)) (vw:=.slice (some ⟨Hb,KC+1,none⟩) ws.length (LO-1)) (bk.Jn nj (by simp [AW.dF,n1,n4]) (λj x h1 h2 h3 hx=>?_));simp [AW.dF,h1,h2,h3,hx]
end
end Go.Stx
