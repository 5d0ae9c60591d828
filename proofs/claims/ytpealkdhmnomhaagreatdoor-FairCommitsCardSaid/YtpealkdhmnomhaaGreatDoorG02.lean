/-
 The library's functions on slices of integers that the program calls: Clone, Sort, Compact.
-/
import Derived.Test.YtpealkdhmnomhaaGreatDoorG01
import Derived.Test.YtpealkdhmnomhaaGreatDoorF3
set_option linter.unusedVariables false
set_option linter.unusedSimpArgs false
set_option linter.unusedSectionVars false
set_option maxRecDepth 20000
set_option maxHeartbeats 4000000
open Bool renaming and_eq_true->Zd
open Go.IntKind renaming i64->qY,u64->q8
open Go.Lib renaming compact->Z1,compactUpTo->kb2,keeps->kbb
open Go.Proofs.Tryz renaming prog->qV
open List renaming drop_drop->kaG,drop_eq_getElem_cons->ZU,getElem?_eq_getElem->q9,getElem?_eq_some_iff->ZC,mem_cons->ZM,mem_filter->kaF,mem_range->Zn,pairwise_cons->kbg,range->Zp
open Nat renaming le_refl->qZ,lt_or_ge->Z4
open Bool renaming false->qk,true->qg
open Go renaming Value->qd
open Go.IntKind renaming i64->qa,u64->qj
open Go.Value renaming bool->qn,int->qb,tuple->qA
open Option renaming none->qh,some->qc
open Or renaming inl->qq,inr->qt
namespace Go.Stx
open Go Go.Proofs
attribute [local irreducible] cM aV aB aL cU dh TW bI
section
variable [Gl]
def tT (l:List Int):List Int:=l.mergeSort λx y=>decide (x<=y)
theorem SG (B:Nat) (v:qd) (l:List Int) (A:AW) (hw:A.Wf) (h:eE B A qa v l) (hl:l.length<2^40) :
 aB qV 273 [v] A (λu A'=>eE B A' qa v (tT l)/\∀A0:AW,A0.next<=B->A0.le A->A0.le A'):=by
 have dT:kW qV 273=qg:=Ye
 rcases h.bR with ⟨o,c,rfl,rfl,_⟩|⟨p,c,bS,rfl,h0,hc,hs,hB,hg,pf,hcs⟩;refine(aB.mr dT (rv:=qA #[]) (ret:=λ_ _=>qA #[]) (λm _ _ _=>bP.undef m) (λo' c' w=>Tryz.slices_Sort_int_none o' c' w)).mono ?_;rintro u A' ⟨rfl,rfl⟩;exact⟨by simpa [tT] using h,λA0 _ hl=>hl⟩;have bW:(tT l).length=l.length:=by simp [tT]
 refine(Re dT (k:=qa) (d:=tT l) (rv:=qA #[]) (ret:=λ_ _=>qA #[]) rfl h0 hc hg pf hcs bW (λm _ _ _ _=>bP.undef m)
  (λjz off eV w hH hb _=>Tryz.slices_Sort_int jz off eV l w hH hb Ya)).mono ?_
 rintro u A' ⟨rfl,rfl⟩;refine⟨?_,λA0 hA0 fA=>fA.set Ya _⟩;have:=Gi (B:=B) (k:=qa) (tT l) [] hw hB hs hg (c:=c) (by simpa [bW] using pf) Ya bW.symm
 simpa using this
theorem yR (l:List Int):(Z1 l).length<=l.length:=by
 simp only [Z1,kb2,List.length_map];exact Nat.le_trans (List.length_filter_le _ _) Yb
theorem LK (B:Nat) (v:qd) (l:List Int) (A:AW) (hw:A.Wf) (h:eE B A qa v l) (hl:l.length<2^40) :
 aB qV 274 [v] A (λu A'=>eE B A' qa u (Z1 l)/\∀A0:AW,A0.next<=B->A0.le A->A0.le A'):=by
 have dT:kW qV 274=qg:=Ye
 rcases h.bR with ⟨o,c,rfl,rfl,_⟩|⟨p,c,bS,rfl,h0,hc,hs,hB,hg,pf,hcs⟩;refine(aB.mr dT (rv:=.slice o 0 c) (ret:=λo' c'=>.slice o' 0 c') (λm _ _ h=>h) (λo' c' w=>Tryz.slices_Compact_int_empty o' c' w)).mono ?_;rintro u A' ⟨rfl,rfl⟩;exact⟨h,λA0 _ hl=>hl⟩;have bW:=yR l
 refine(Re dT (k:=qa) (d:=Z1 l++List.replicate (l.length-(Z1 l).length) 0) (rv:=.slice (qc p) (Z1 l).length c) (ret:=λa' jH=>.slice (qc a') (Z1 l).length jH)
  rfl h0 hc hg pf hcs Yg (λm a' jH Fg hcc=>.slice (qq Fg) Ya hcc)
  (λjz off eV w hH hb Lx=>(Tryz.slices_Compact_int jz off eV l w hH Ya Lx).mono λe w' ⟨h1,q,h2⟩=>⟨h1,q,#[],by rw [h2];exact(Go.Sort.grow_empty _).symm⟩)).mono ?_
 rintro u A' ⟨rfl,rfl⟩;refine⟨?_,λA0 hA0 fA=>fA.set Ya _⟩;exact Gi (B:=B) (k:=qa) (Z1 l) _ hw hB hs hg (c:=c) Yg Ya rfl
end
section
namespace TLockA
theorem nO [Gl] {A:AW} {L:List It} {T:Prop} (hS:aj A L) (hw:A.Wf) (h':(aW A L/\bz A L/\cd L)=T:=by first|(dsimp only [aa,ah,aW,bz,cd,ff];done)|exact rfl):T:=h'▸hS.eX hw
end TLockA
open TLockA
variable [Gl]
def ft (l:List Int):List Int:=Z1 (tT l)
theorem D5 (v:qd) (l:List Int) (A:AW) (h:bK A qa v l) (hl:l.length<2^39) :
 aB qV 240 [v] A (λu A'=>eE A.next A' qa u (ft l)/\A.le A'):=by
 refine aK Tryz.func240 λhw=>?_;revert hw;refine W cx cx ?_<;>(unhygienic intros);refine bD (kC v l A h hl) ?_;rintro v1 A1 ⟨h1,l1⟩ w1 _;revert hw;(repeat first|revert R|revert K);refine W cx cx ?_<;>(unhygienic intros);refine bD (SG A.next v1 l A1 w1 h1 Ya) ?_;rintro _ A2 ⟨h2,l2⟩ w2 _;revert hw;(repeat first|revert R|revert K);refine W cx cx ?_<;>(unhygienic intros);refine bD (LK A.next v1 (tT l) A2 w2 h2 (by simp [tT];omega)) ?_;rintro v3 A3 ⟨h3,l3⟩ w3 _;refine W cx cx ?_<;>intros;simp;exact⟨h3,l3 A (qZ _) (l2 A (qZ _) l1)⟩
end
section
namespace TLockB
theorem nO [Gl] {A:AW} {L:List It} {T:Prop} (hS:aj A L) (hw:A.Wf) (h':(aW A L/\bz A L/\cd L)=T:=by first|(dsimp only [aa,ah,aW,bz,cd,ff];done)|exact rfl):T:=h'▸hS.eX hw
end TLockB
open TLockB
variable [Gl]
def GK (uY:List Int) (x:Int):List Int:=
 match uY with
 | []=>[x]
 | y::r=>if y<x then y::GK r x else if y=x then y::r else x::y::r
def wy (l:List Int):List Int:=l.foldl GK []
end
section
variable [Gl]
theorem Qq:∀(a b:List Int),a.Pairwise (·< ·)->b.Pairwise (·< ·)->(∀x,x∈a↔x∈b)->a=b
 | [],[],_,_,_=>rfl
 | [],y::b,_,_,h=>by have:=(h y).2 Yb;simp at this
 | x::a,[],_,_,h=>by have:=(h x).1 Yb;simp at this
 | x::a,y::b,ha,hb,h=>by
   rw [kbg] at ha hb;have hxy:x=y:=by
    have h1:=(h x).1 Yb;have h2:=(h y).2 Yb;rw [ZM] at h1 h2;rcases h1 with h1|h1;exact h1;rcases h2 with h2|h2;exact h2.symm;have:=hb.1 x h1;have:=ha.1 y h2;omega
   subst hxy;congr 1;refine Qq a b ha.2 hb.2 λz=>⟨λhz=>?_,λhz=>?_⟩;have:=ha.1 z hz;have h1:=(h z).1 (by simp [hz]);rw [ZM] at h1;rcases h1 with h1|h1;omega;exact h1;have:=hb.1 z hz;have h1:=(h z).2 (by simp [hz]);rw [ZM] at h1;rcases h1 with h1|h1;omega;exact h1
theorem NF (uY:List Int) (x z:Int):z∈GK uY x↔z=x\/z∈uY:=by
 induction uY with
 | nil=>simp [GK]
 | cons y r ih=>
   simp only [GK];split;simp only [ZM,ih];constructor;rintro (h|h|h);exact qt (qq h);exact qq h;exact qt (qt h);rintro (h|h|h);exact qt (qq h);exact qq h;exact qt (qt h);split;rename_i h1 h2;subst h2;simp;simp
theorem insS_lt (uY:List Int) (x:Int) (h:uY.Pairwise (·< ·)):(GK uY x).Pairwise (·< ·):=by
 induction uY with
 | nil=>simp [GK]
 | cons y r ih=>
   have h0:=kbg.1 h;simp only [GK];split;rename_i h1;refine kbg.2 ⟨λz hz=>?_,ih h0.2⟩;rcases (NF r x z).1 hz with e|e;omega;exact h0.1 z e;split;exact h;rename_i h1 h2;refine kbg.2 ⟨λz hz=>?_,h⟩;rw [ZM] at hz;rcases hz with e|e;omega;have:=h0.1 z e;omega
theorem xx (l:List Int):(wy l).Pairwise (·< ·)/\∀z,z∈wy l↔z∈l:=by
 have:∀(l uY:List Int),uY.Pairwise (·< ·)->(l.foldl GK uY).Pairwise (·< ·)/\∀z,z∈l.foldl GK uY↔z∈uY\/z∈l:=by
  intro l
  induction l with
  | nil=>intro uY h;exact⟨h,by simp⟩
  | cons x r ih=>
    intro uY h;obtain⟨h1,h2⟩:=ih (GK uY x) (insS_lt uY x h);refine⟨h1,λz=>?_⟩;rw [List.foldl_cons,h2,NF,ZM];constructor;rintro ((h|h)|h);exact qt (qq h);exact qq h;exact qt (qt h);rintro (h|h|h);exact qq (qt h);exact qq (qq h);exact qt h
 have h:=this l [] List.Pairwise.nil;exact⟨h.1,λz=>by rw [wy,h.2];simp⟩
theorem LJ (l:List Int) (h:l.Pairwise (·<=·)):(Z1 l).Pairwise (·< ·)/\∀z,z∈Z1 l↔z∈l:=by
 have fA:∀i j,i<=j->j<l.length->l.toArray[i]!<=l.toArray[j]!:=by
  intro i j hij hj;rw [getElem!_pos l.toArray i Yg,getElem!_pos l.toArray j (by simpa using hj)];simp only [List.getElem_toArray];by_cases e:i=j;subst e;exact Int.le_refl _;exact List.pairwise_iff_getElem.1 h i j Ya hj Ya
 constructor;rw [Z1,kb2,List.pairwise_map];have hr:((Zp l.length).filter (kbb l.toArray)).Pairwise (·< ·):=List.Pairwise.filter _ List.pairwise_lt_range;refine List.Pairwise.imp_of_mem ?_ hr;intro i j hi hj hij;rw [kaF,Zn] at hi hj;have hk:=hj.2;simp only [kbb,decide_eq_true_eq] at hk;rcases hk with hk|hk;omega;have h1:=fA i (j-1) Ya Ya;have h2:=fA (j-1) j Ya hj.1;omega;intro z;rw [Z1,kb2,List.mem_map];constructor;rintro ⟨i,hi,rfl⟩;rw [kaF,Zn] at hi;rw [getElem!_pos l.toArray i (by simpa using hi.1)];simp;intro hz;obtain⟨i,hi,rfl⟩:=List.getElem_of_mem hz;have key:∀n i (hi:i<l.length),i<=n->∃a,a∈(Zp l.length).filter (kbb l.toArray)/\l.toArray[a]! = l[i]:=by
  intro n
  induction n with
  | zero=>
    intro i hi wZ;have:i=0:=Ya
    subst this;exact⟨0,by simp [kaF,kbb,hi],by rw [getElem!_pos l.toArray 0 YQ];simp⟩
  | succ n ih=>
    intro i hi wZ;by_cases hk:kbb l.toArray i=qg;exact⟨i,by simp [kaF,hk,hi],by rw [getElem!_pos l.toArray i YQ];simp⟩;simp only [kbb,decide_eq_true_eq,not_or,Decidable.not_not] at hk;obtain⟨a,ha,hb⟩:=ih (i-1) Ya Ya;refine⟨a,ha,?_⟩;rw [hb];have h3:=hk.2;rw [getElem!_pos l.toArray i YQ,getElem!_pos l.toArray (i-1) Yg] at h3
    simpa using h3.symm
 exact key i i hi (qZ _)
theorem O8 (l:List Int):ft l=wy l:=by
 have hs:(tT l).Pairwise (·<=·):=by
  have:=List.pairwise_mergeSort (le:=λx y:Int=>decide (x<=y)) Yg Yg l;exact this.imp Yb
 obtain⟨h1,h2⟩:=LJ (tT l) hs;obtain⟨h3,h4⟩:=xx l;refine Qq _ _ h1 h3 λz=>?_;rw [ft,h2,h4,tT,List.mem_mergeSort]
end
section
namespace TWord
theorem nO [Gl] {A:AW} {L:List It} {T:Prop} (hS:aj A L) (hw:A.Wf) (h':(aW A L/\bz A L/\cd L)=T:=by first|(dsimp only [aa,ah,aW,bz,cd,ff];done)|exact rfl):T:=h'▸hS.eX hw
end TWord
open TWord
variable [Gl]
def lH (v:Int):Int:=if 0<=v/\v<=1099511627776 then v*64 else 0
def mX (o:Int):Int:=qY.wrap (q8.wrap (o.tdiv 64))
def oH (o:Int):Int:=qY.wrap (qY.wrap (o.tmod 64)-1)
def tf (tag Sr:Int):Int:=if 0<=tag/\tag<281474976710656/\-1<=Sr/\Sr<64 then tag*65536+(Sr+1) else 0
def UU (h:Int):Int:=qY.wrap (q8.wrap (h.tdiv 65536))
def ka (h:Int):Int:=qY.wrap (qY.wrap (h.tmod 65536)-1)
def rr (h Sr:Int):Int:=tf ((qY.wrap (UU h+1)).tmod 281474976710656) Sr
theorem JA (v:Int) (A:AW):aB qV 271 [qb qa v] A (λu A'=>u=qn (decide (0<=v/\v<=1099511627776))/\A=A'):=by
 refine aK Tryz.func271 λhw=>?_;refine W cx cx (J2 ?_ ?_)<;>intros
 all_goals(simp_all<;>omega)
theorem Pp (v:Int) (A:AW):aB qV 230 [qb qa v] A (λu A'=>(∃e,u=qA #[qb qj (lH v),qb qa e])/\A=A'):=by
 refine aK Tryz.func230 λhw=>?_;by_cases h1:0<=v/\v<=1099511627776
 . refine W (J1 @JA) (J1 h1) ?_<;>intros
   all_goals exact⟨_,by (simp;rfl),⟨_,by simp [lH,h1];rfl⟩,rfl⟩
 refine W (J1 @JA) (J1 h1) ?_<;>intros
 all_goals exact⟨_,by (simp;rfl),⟨_,by simp [lH,h1];rfl⟩,rfl⟩
theorem Am (o:Int) (A:AW):aB qV 266 [qb qj o] A (λv A'=>v=qb qa (mX o)/\A=A'):=by
 refine aK Tryz.func266 λhw=>?_;refine W cx cx ?_<;>intros;simp [mX]
theorem B8 (o:Int) (A:AW):aB qV 265 [qb qj o] A (λv A'=>v=qb qa (oH o)/\A=A'):=by
 refine aK Tryz.func265 λhw=>?_;refine W cx cx ?_<;>intros;simp [oH]
theorem pB (tag Sr:Int) (A:AW):aB qV 111 [qb qa tag,qb qa Sr] A (λu A'=>(∃e,u=qA #[qb qj (tf tag Sr),qb qa e])/\A=A'):=by
 refine aK Tryz.func111 λhw=>?_;by_cases h1:0<=tag<;>by_cases h2:tag<281474976710656<;>by_cases h3:-1<=Sr<;>by_cases h4:Sr<64
 all_goals
  all_goals(revert hw;refine W cx (J4 h1 h2 h3 h4) (J9 ?_ ?_ ?_ ?_ ?_ ?_ ?_ ?_ ?_)<;>(try exact trivial)<;>unhygienic intros)
  all_goals exact⟨_,by (simp;rfl),⟨_,by simp [tf,h1,h2,h3,h4];rfl⟩,rfl⟩
theorem SP (h:Int) (A:AW):aB qV 263 [qb qj h] A (λv A'=>v=qb qa (UU h)/\A=A'):=by
 refine aK Tryz.func263 λhw=>?_;refine W cx cx ?_<;>intros;simp [UU]
theorem JB (h:Int) (A:AW):aB qV 80 [qb qj h] A (λv A'=>v=qb qa (ka h)/\A=A'):=by
 refine aK Tryz.func80 λhw=>?_;refine W cx cx ?_<;>intros;simp [ka]
theorem Gh (h Sr:Int) (A:AW):aB qV 198 [qb qj h,qb qa Sr] A (λu A'=>(∃e,u=qA #[qb qj (rr h Sr),qb qa e])/\A=A'):=by
 refine aK Tryz.func198 λhw=>?_;revert hw;refine W (J1 @SP) trivial ?_<;>(unhygienic intros);refine bD (pB _ _ _) ?_;rintro _ _ ⟨⟨e,rfl⟩,rfl⟩ _ _;refine W cx cx ?_<;>intros;exact⟨_,by (simp;rfl),⟨e,by simp [rr]⟩,rfl⟩
end
structure bq where
 op:Int
 a:Int
 b:Int
 c:Int
 cy:Int
deriving DecidableEq
def mZ (op:Int):Bool:=op == 1 || op == 2 || op == 3 || op == 5 || op == 6 || op == 10 || op == 11 || op == 12 || op == 13 || op == 14 || op == 15 || op == 17
def lj (op:Int):Bool:=op == 2 || op == 3 || op == 10 || op == 11 || op == 12 || op == 13
def mY (op:Int):Bool:=op == 3
def ip (r:Int) (is:Bool):Bool:=if is then decide (0<=r) && decide (r<8) else decide (r=0)
def fG (op cy:Int):Bool:=
 if op=1\/op=10\/op=11\/op=12\/op=13 then qg
 else if op=3 then decide (0<=cy) && decide (cy<22)
 else if op=4\/op=5\/op=6 then decide (0<=cy) && decide (cy<=64)
 else if op=7 then decide (1<=cy) && decide (cy<=8)
 else if op=14 then decide (0<=cy) && decide (cy<4)
 else decide (cy=0)
def cW (i:bq):Int:=
 if i.op<0\/18<=i.op then 10
 else if (ip i.a (mZ i.op) && ip i.b (lj i.op) && ip i.c (mY i.op)) && fG i.op i.cy then 0 else 11
def bH (i:bq):Int:=
 if cW i=0 then
  if i.op=8\/i.op=9\/i.op=10\/i.op=11\/i.op=14\/i.op=15 then 1
  else if i.op=7\/i.op=12\/i.op=13\/i.op=16\/i.op=17 then 2 else 0
 else 0
def eL (i:bq):Option Int:=if cW i=0/\(i.op=4\/i.op=5\/i.op=6) then qc i.cy else qh
def eH (p:List bq) (k:Nat):Int:=(p[k]?.map (·.op)).getD (-1)
def ml (p:List bq) (k:Nat):Nat:=k+(p.drop k).findIdx λi=>i.op == 8
def dL (p:List bq) (b:Nat):Nat:=ml p (b+1)
def cD (p:List bq):Nat->Option Nat
 | 0=>qh
 | k+1=>match cD p k with
   | none=>if eH p k=7 then qc k else qh
   | some b=>if eH p k=8 then qh else qc b
theorem ll {p:List bq}:∀{t b:Nat},cD p t=qc b->b<t/\eH p b=7/\∀j,b<j->j<t->eH p j≠8
 | 0,b,h=>by cases h
 | t+1,b,h=>by
   unfold cD at h;split at h;split at h;rename_i h7;injection h with h;subst h;exact⟨Nat.lt_succ_self _,h7,λj h1 h2=>by omega⟩;cases h;rename_i b' hb;split at h;cases h;rename_i h8;injection h with h;subst h;obtain⟨h1,h2,h3⟩:=ll hb;refine⟨by omega,h2,λj h4 h5=>?_⟩;by_cases e:j=t;subst e;exact h8;exact h3 j h4 Ya
theorem AR {p:List bq} {b:Nat} (hb:eH p b=7):∀{t:Nat},b<t->(∀j,b<j->j<t->eH p j≠8)->∃b',cD p t=qc b'
 | 0,h,_=>by omega
 | t+1,h,hn=>by
   unfold cD;by_cases e:b=t
   . subst e;cases hs:cD p b with
     | none=>exact⟨b,by simp [hb]⟩
     | some b'=>exact⟨b',by simp [hb]⟩
   obtain⟨b',h'⟩:=AR hb (t:=t) Ya (λj h1 h2=>hn j h1 Ya);rw [h'];have:=hn t Ya Ya;exact⟨b',by simp [this]⟩
theorem FW {p:List bq} {k:Nat} (hk:cD p k=qh):∀{t b:Nat},k<=t->cD p t=qc b->k<=b
 | t,b,hkt,h=>by
   obtain⟨h1,h2,h3⟩:=ll h;rcases Z4 b k with h4|h4;obtain⟨b',h'⟩:=AR h2 h4 (λj h5 h6=>h3 j h5 Ya);rw [hk] at h';cases h';exact h4
theorem tc {p:List bq} {k:Nat} (h:0<=eH p k):k<p.length:=by
 rcases Z4 k p.length with h1|h1;exact h1;unfold eH at h;rw [List.getElem?_eq_none h1] at h;simp at h
theorem wP {p:List bq} {k:Nat} (h:k<p.length):ml p k=if eH p k=8 then k else ml p (k+1):=by
 unfold ml;have e:p.drop k=p[k]::p.drop (k+1):=ZU h;have e2:eH p k=p[k].op:=by simp [eH,q9 h]
 rw [e,List.findIdx_cons,e2];by_cases h8:p[k].op=8;simp [h8];have e3:(p[k].op == 8)=qk:=by simpa using h8
 rw [aw h8,e3];simp only [cond_false];omega
theorem Du {p:List bq} {k:Nat} (h:p.length<=k):ml p k=k:=by
 unfold ml;rw [List.drop_eq_nil_of_le h];rfl
theorem nC {p:List bq} {k:Nat} (h:k<=p.length):k<=ml p k/\ml p k<=p.length/\(∀j,k<=j->j<ml p k->eH p j≠8)/\(ml p k<p.length->eH p (ml p k)=8):=by
 induction hn:p.length-k generalizing k with
 | zero=>
   have:k=p.length:=Ya
   rw [Du Ya];exact⟨qZ _,h,λj h1 h2=>by omega,λh1=>by omega⟩
 | succ n ih=>
   rw [wP Ya];split;rename_i h8;exact⟨qZ _,h,λj h1 h2=>by omega,λ_=>h8⟩;rename_i h8;obtain⟨h1,h2,h3,h4⟩:=ih (k:=k+1) Ya Ya;refine⟨by omega,h2,λj h5 h6=>?_,h4⟩;by_cases e:j=k;subst e;exact h8;exact h3 j Ya h6
def iE (p:List bq) (k t:Nat):Bool:=(Zp t).any λb=>decide (k<b) && decide (eH p b=7) && decide (t<=min (dL p b) (p.length-1))
def gm (p:List bq) (k:Nat) (b:Option Nat) (n:Int):Bool:=
 let t:Nat:=k+1+n.toNat
 if p.length<t then qk else match b with
 | some b=>decide (t<=dL p b)
 | none=>!iE p k t
def kQ (p:List bq) (t:Nat):Nat->Nat->Option Nat->Option (Nat×Nat)
 | 0,_,b=>match b with
   | some b=>if b<=t/\t<p.length then qc (b,p.length) else qh
   | none=>qh
 | n+1,k,b=>match b with
   | none=>kQ p t n (k+1) (if eH p k=7 then qc k else qh)
   | some b=>if eH p k=8 then (if b<=t/\t<=k then qc (b,k) else kQ p t n (k+1) qh) else kQ p t n (k+1) (qc b)
def D4 (p:List bq) (t:Nat):Option (Nat×Nat):=kQ p t p.length 0 qh
theorem Rb {p:List bq} {t:Nat}:∀{k n:Nat},k+n=p.length->k<=t->D4 p t=kQ p t n k (cD p k)
 | 0,n,h,_=>by
   have:n=p.length:=Ya
   subst this;rfl
 | k+1,n,h,hk=>by
   rw [Rb (k:=k) (n:=n+1) Ya Ya]
   conv=>lhs;unfold kQ
   conv=>rhs;rw [cD]
   cases hb:cD p k with
   | none=>rfl
   | some b=>
     simp only;by_cases h8:eH p k=8;rw [ay h8,ay h8,aw Ya];rw [aw h8,aw h8]
theorem Dg {p:List bq} {t:Nat}:∀{n k:Nat},t<k->kQ p t n k qh=qh
 | 0,k,_=>rfl
 | n+1,k,h=>by
   unfold kQ;by_cases h7:eH p k=7;rw [ay h7];exact Jr h Ya;rw [aw h7];exact Dg Ya
where
 Jr {p:List bq} {t:Nat}:∀{n k b:Nat},t<b->b<k->kQ p t n k (qc b)=qh
 | 0,k,b,h,_=>by unfold kQ;simp;omega
 | n+1,k,b,h,hk=>by
   unfold kQ;simp only;split;rw [aw (by omega)];exact Dg (by omega);exact Jr h (by omega)
theorem De {p:List bq} {t b:Nat} (hb:b<=t):∀{n k:Nat},k+n=p.length->t<=k->t<p.length->kQ p t n k (qc b)=qc (b,ml p k)
 | 0,k,h,_,ht=>by
   unfold kQ;rw [Du Ya];simp only;rw [ay ⟨hb,ht⟩];rw [show k=p.length by omega]
 | n+1,k,h,hk,ht=>by
   unfold kQ;rw [wP Ya];simp only;by_cases h8:eH p k=8;rw [ay h8,ay h8,ay ⟨hb,hk⟩];rw [aw h8,aw h8];exact De hb Ya Ya ht
theorem MQ {p:List bq} {t:Nat} (ht:t<=p.length):D4 p t=match cD p t with
 | some b=>if t<p.length then qc (b,ml p t) else qh
 | none=>if eH p t=7 then qc (t,dL p t) else qh:=by
 rw [Rb (k:=t) (n:=p.length-t) Ya (qZ t)];cases hb:cD p t with
 | some b=>
   obtain⟨h1,h2,h3⟩:=ll hb;simp only;split;exact De Ya Ya (qZ t) (by assumption);have:p.length-t=0:=Ya
   rw [this];unfold kQ;simp only;rw [aw Ya]
 | none=>
   simp only;cases hn:p.length-t with
   | zero=>
     have h7:eH p t≠7:=λh=>by
      have:=tc (p:=p) (k:=t) Ya;omega
     rw [aw h7];rfl
   | succ n=>
     unfold kQ;simp only;by_cases h7:eH p t=7;rw [ay h7,ay h7];have:=tc (p:=p) (k:=t) Ya;by_cases hl:t+1<=p.length;exact O6 Ya Ya this;omega;rw [aw h7,aw h7];exact Dg Ya
where
 O6 {p:List bq} {t:Nat}:∀{n k:Nat},k+n=p.length->t<k->t<p.length->kQ p t n k (qc t)=qc (t,ml p k)
 | n,k,h,hk,ht=>De (qZ t) h (by omega) ht
def iB (p:List bq) (k t:Nat):Bool:=
 if p.length<t then qk else match D4 p k with
 | some (_,c)=>decide (t<=c)
 | none=>match D4 p t with
   | some (b,_)=>decide (b=t)
   | none=>qg
theorem VV {p:List bq} {k t:Nat} (hk:cD p k=qh) (h7:eH p k≠7) (hkt:k<t) (ht:t<=p.length):iE p k t=qg↔t<p.length/\∃b,cD p t=qc b:=by
 unfold iE;rw [List.any_eq_true];constructor;rintro ⟨b,hb,h⟩;simp only [Zd,decide_eq_true_eq] at h;have hbt:=Zn.1 hb;obtain⟨⟨h1,h2⟩,h3⟩:=h;have h4:t<=dL p b:=Ya
 have Qe:=tc (p:=p) (k:=b) Ya;refine⟨by omega,AR h2 hbt λj h5 h6=>?_⟩;exact(nC (p:=p) (k:=b+1) Ya).2.2.1 j Ya (by unfold dL at h4;omega);rintro ⟨h1,b,hb⟩;obtain⟨h2,h3,h4⟩:=ll hb;have h5:=FW hk Ya hb;have h6:b≠k:=λe=>h7 (by rw [<-e];exact h3);refine⟨b,Zn.2 h2,?_⟩;simp only [Zd,decide_eq_true_eq];refine⟨⟨by omega,h3⟩,?_⟩;have h7:t<=dL p b:=by
  rcases Z4 (dL p b) t with h8|h8;obtain⟨g1,g2,g3,g4⟩:=nC (p:=p) (k:=b+1) Ya;unfold dL at h8;exact absurd (g4 Ya) (h4 _ Ya h8);exact h8
 omega
theorem Sv {p:List bq} {k:Nat} (hk:k<p.length) (h7:eH p k≠7) (h8:eH p k≠8) {n:Int}:iB p k (k+1+n.toNat)=gm p k (cD p k) n:=by
 unfold iB gm;simp only;generalize ht:k+1+n.toNat=t;by_cases hl:p.length<t;rw [ay hl,ay hl];rw [aw hl,aw hl,MQ (by omega:k<=p.length)];cases hb:cD p k with
 | some b=>
   simp only;rw [ay hk];obtain⟨h1,h2,h3⟩:=ll hb;have e:dL p b=ml p k:=by
    have:∀d,b+1+d=k->ml p (b+1)=ml p (b+1+d):=by
     intro d
     induction d with
     | zero=>intro _;rfl
     | succ d ih=>
       intro hd;have key:∀q,b<q->q<=k->ml p (b+1)=ml p q:=by
        intro q
        induction q with
        | zero=>intro h;omega
        | succ q ihq=>
          intro h5 h6;by_cases e:b=q;subst e;rfl;rw [ihq Ya Ya,wP Ya,aw (h3 q Ya Ya)]
       exact key _ Ya Ya
    have h9:=this (k-(b+1)) Ya;rw [show b+1+(k-(b+1))=k by omega] at h9;exact h9
   rw [e]
 | none=>
   simp only;rw [aw h7,MQ Ya];have hi:=VV hb h7 (t:=t) Ya Ya;cases hs:cD p t with
   | some b=>
     obtain⟨h1,_,_⟩:=ll hs;simp only;by_cases bY:t<p.length;have:iE p k t=qg:=hi.2 ⟨bY,b,hs⟩;rw [ay bY,this];have:¬b=t:=Ya
     simp [this];have:iE p k t=qk:=by
      cases hp:iE p k t with
      | false=>rfl
      | true=>exact absurd (hi.1 hp).1 bY
     rw [aw bY,this];rfl
   | none=>
     have:iE p k t=qk:=by
      cases hp:iE p k t with
      | false=>rfl
      | true=>obtain⟨b,yz⟩:=(hi.1 hp).2;rw [hs] at yz;cases yz
     rw [this];simp only;by_cases h9:eH p t=7;simp [h9];simp [h9]
def wH (Jl:Nat->Option Nat->Int->Bool) (k:Nat) (b:Option Nat) (x:bq):Int:=
 if cW x=0 then
  if (x.op=7/\b.isSome=qg)\/(x.op=8/\b.isSome=qk) then 40
  else if (bH x=1/\b.isSome=qk)\/(bH x=2/\b.isSome=qg) then 41
  else match eL x with
   | some n=>if Jl k b n=qg then 0 else 42
   | none=>0
 else cW x
def Gt (k:Nat) (b:Option Nat) (x:bq):Option Nat:=if x.op=7 then qc k else if x.op=8 then qh else b
def jG (Jl:Nat->Option Nat->Int->Bool):List bq->Nat->Option Nat->Nat×Int
 | [],_,b=>match b with
   | some q=>(q,43)
   | none=>(0,0)
 | x::l,k,b=>if wH Jl k b x=0 then jG Jl l (k+1) (Gt k b x) else (k,wH Jl k b x)
def c8 (p:List bq):Nat×Int:=if 64<p.length then (0,3) else jG (gm p) p 0 qh
def na (p:List bq):Nat×Int:=if 64<p.length then (0,3) else jG (λk _ n=>iB p k (k+1+n.toNat)) p 0 qh
theorem wh {x:bq} {n:Int} (h:eL x=qc n):n=x.cy/\cW x=0/\(x.op=4\/x.op=5\/x.op=6):=by
 unfold eL at h;split at h;rename_i h1;injection h with h;exact⟨h.symm,h1.1,h1.2⟩;cases h
theorem mE {p:List bq} {k:Nat} {x:bq} (h:p[k]? = qc x):eH p k=x.op:=by simp [eH,h]
theorem A9 {Jl:Nat->Option Nat->Int->Bool} {p:List bq} {k:Nat} {x:bq} (hx:p[k]? = qc x) (h:wH Jl k (cD p k) x=0):Gt k (cD p k) x=cD p (k+1):=by
 have e:=mE hx;unfold Gt;rw [cD];cases hb:cD p k with
 | none=>
   simp only;rw [e];by_cases h7:x.op=7;rw [ay h7,ay h7];rw [aw h7,aw h7];split<;>rfl
 | some b=>
   simp only;rw [e];have h7:x.op≠7:=λh7=>by
    rw [hb] at h;unfold wH at h;split at h;rw [ay (qq ⟨h7,rfl⟩)] at h;cases h;rename_i h0;exact h0 h
   rw [aw h7]
theorem oneE_eq {p:List bq} {k:Nat} {x:bq} (hx:p[k]? = qc x):wH (λk _ n=>iB p k (k+1+n.toNat)) k (cD p k) x=wH (gm p) k (cD p k) x:=by
 unfold wH;split
 . split;rfl;split;rfl;cases hs:eL x with
   | none=>rfl
   | some n=>
     obtain⟨rfl,_,h3⟩:=wh hs;have e:=mE hx;have ht:=Sv (n:=x.cy) (ZC.1 hx).1 (show eH p k≠7 by rw [e];omega) (show eH p k≠8 by rw [e];omega);simp only [ht]
 rfl
theorem Hv {p:List bq}:∀(l:List bq) (k:Nat),p.drop k=l->jG (λk _ n=>iB p k (k+1+n.toNat)) l k (cD p k)=jG (gm p) l k (cD p k)
 | [],k,_=>rfl
 | x::l,k,h=>by
   have hx:p[k]? = qc x:=by
    have:=congrArg (λq=>q[0]?) h
    simpa using this
   unfold jG;rw [oneE_eq hx];split;rename_i h0;rw [A9 hx h0];exact Hv l (k+1) (by rw [<-kaG,h];rfl);rfl
theorem W3 (p:List bq):na p=c8 p:=by
 unfold na c8;split;rfl;exact Hv p 0 rfl
theorem Ht {Jl:Nat->Option Nat->Int->Bool} {p:List bq}:∀(l:List bq) (k:Nat),p.drop k=l->(jG Jl l k (cD p k)).2=0->
 (∀j x,k<=j->p[j]? = qc x->wH Jl j (cD p j) x=0)/\cD p (k+l.length)=qh
 | [],k,h,h0=>by
   refine⟨λj x hj hx=>?_,?_⟩;have h1:=(ZC.1 hx).1;have h2:p.length<=k:=by
    rcases Z4 k p.length with h3|h3;rw [ZU h3] at h;cases h;exact h3
   omega;unfold jG at h0;show cD p k=qh;cases hb:cD p k with
   | none=>rfl
   | some b=>rw [hb] at h0;cases h0
 | x::l,k,h,h0=>by
   have hx:p[k]? = qc x:=by
    have:=congrArg (λq=>q[0]?) h
    simpa using this
   unfold jG at h0;split at h0;rename_i h1;rw [A9 hx h1] at h0;obtain⟨h2,h3⟩:=Ht l (k+1) (by rw [<-kaG,h];rfl) h0;refine⟨λj y hj hy=>?_,by rw [List.length_cons,show k+(l.length+1)=k+1+l.length by omega];exact h3⟩;by_cases e:j=k;subst e;rw [hx] at hy;injection hy with hy;subst hy;exact h1;exact h2 j y Ya hy;rename_i h1;exact absurd h0 h1
theorem ia {p:List bq} (h:(c8 p).2=0):p.length<=64/\(∀j x,p[j]? = qc x->wH (gm p) j (cD p j) x=0)/\cD p p.length=qh:=by
 unfold c8 at h;split at h;cases h;rename_i hl;obtain⟨h1,h2⟩:=Ht p 0 rfl h;rw [Nat.zero_add] at h2;exact⟨by omega,λj x hx=>h1 j x (Nat.zero_le _) hx,h2⟩
theorem GL {x:bq} (h:cW x=0) (ho:x.op=4\/x.op=5\/x.op=6):0<=x.cy/\x.cy<=64:=by
 unfold cW at h;split at h;cases h;split at h;rename_i h1;rw [Zd] at h1;have h2:=h1.2;unfold fG at h2;rw [aw Ya,aw Ya,ay ho] at h2
 simpa using h2
 cases h
section
namespace TGFbA
theorem nO [Gl] {A:AW} {L:List It} {T:Prop} (hS:aj A L) (hw:A.Wf) (h':(aW A L/\bz A L/\cd L)=T:=by first|(dsimp only [aa,ah,aW,bz,cd,ff];done)|exact rfl):T:=h'▸hS.eX hw
end TGFbA
open TGFbA
variable [Gl]
def az (i:bq):List qd:=[qb qa i.op,qb qa i.a,qb qa i.b,qb qa i.c,qb qa i.cy]
def li (A:AW) (v:qd) (p:List bq):Prop:=fL A 5 v p.length (p.flatMap az)
theorem GJ:∀(l:List bq) (j:Nat) (hj:j<l.length),((l.flatMap az).drop (j*5)).take 5=az l[j]
 | x::l,0,_=>by simp [az]
 | x::l,j+1,h=>by
   have:=GJ l j (by simpa using h);have e:(j+1)*5=(az x).length+j*5:=(by simp [az];omega);rw [List.flatMap_cons,e,<-kaG,List.drop_left]
   simpa using this
theorem li.bR {A:AW} {v:qd} {l:List bq} (h:li A v l):∃o c,v=.slice o l.length c/\l.length<=c:=fL.bR h
theorem li.le {A B:AW} (hl:A.le B) (hw:A.Wf) {v:qd} {l:List bq} (h:li A v l):li B v l:=fL.le hl hw h
theorem li.at {A:AW} {o:Option Addr} {c n:Nat} {l:List bq} (h:li A (.slice o n c) l) {i:Nat} (hi:i<l.length) :
 ∃p bS,o=qc p/\A.bS p.block=qc bS/\p.off+i*5+5<=bS.length/\(bS.drop (p.off+i*5)).take 5=az l[i]:=by
 rcases h with ⟨⟨o,h1⟩,h2,_⟩|⟨p,c,bS,own,u,h1,h2,h3,h4,h5,h6⟩;omega;injection h1 with h1 _ _;refine⟨p,bS,h1,AW.yc h3,by omega,?_⟩;rw [<-GJ l i hi,h6,<-kaG,List.drop_take,List.take_take];congr 1;omega
theorem NE {bS:List qd} {b:Nat} {x:bq} (h:(bS.drop b).take 5=az x) (q:Nat) (hq:q<5):bS[b+q]? = (az x)[q]?:=by
 rw [<-h,List.getElem?_take_of_lt hq,List.getElem?_drop]
theorem yn {bS:List qd} {b:Nat} {x:bq} (h:(bS.drop b).take 5=az x):bS[b]? = qc (qb qa x.op):=NE h 0 Ya
theorem yJ (v:qd) (p:List bq) (b:Nat) (A:AW) (h:li A v p) (hl:p.length<2^30) (hb:b<p.length) :
 aB qV 193 [v,qb qa b] A (λu A'=>u=qb qa (dL p b)/\A=A'):=by
 refine aK Tryz.func193 λhw=>?_;obtain⟨o,c,rfl,_⟩:=h.bR;have Mo:qY.wrap ((b:Int)+1)=((b+1:Nat):Int):=af Ya Ya;revert hw;refine W cx (J1 Mo) ?_<;>(unhygienic intros);refine df (λk fr A'=>A=A'/\∃i:Nat,k=p.length-i/\i<=p.length/\fr 0=.slice o p.length c/\fr 5=qb qa i/\dL p b=ml p i) (p.length-(b+1)) ?_ ?_;exact⟨rfl,b+1,rfl,by omega,rfl,rfl,rfl⟩;rintro k fr A' ⟨rfl,i,rfl,hi,h0,h5,he⟩;by_cases bY:i<p.length;obtain⟨q,bS,rfl,bO,fA,hcell⟩:=h.at bY;have nq:=yn hcell;have gC:=zd (i:=i);have dw:=wP bY;have ho:eH p i=p[i].op:=mE (q9 bY);rw [ho] at dw;by_cases h8:p[i].op=8;rw [ay h8] at dw;refine aT ?_;refine W cx (J8 h0 h5 bO nq fA bY gC h8) ?_<;>intros;simp [he,dw];rw [aw h8] at dw;refine aT ?_;refine W cx (J8 h0 h5 bO nq fA bY gC h8) ?_<;>intros;refine⟨p.length-(i+1),by omega,rfl,i+1,rfl,by omega,?_,?_,?_⟩;simp [h0];simp;rw [he,dw];have tD:i=p.length:=Ya
 refine aT ?_;refine W cx (J3 h0 h5 bY) ?_<;>intros;subst tD;simp [he,Du (qZ _)]
theorem Td (v:qd) (p:List bq) (k t:Nat) (A:AW) (h:li A v p) (hl:p.length<2^30) (hk:k<p.length) (ht:t<=p.length) :
 aB qV 194 [v,qb qa k,qb qa t] A (λu A'=>u=qn (iE p k t)/\A=A'):=by
 refine aK Tryz.func194 λhw=>?_;obtain⟨o,c,rfl,_⟩:=h.bR;have Mo:qY.wrap ((k:Int)+1)=((k+1:Nat):Int):=af Ya Ya;have hwl:qY.wrap ((p.length:Int)-1)=((p.length-1:Nat):Int):=by rw [af Ya Ya];omega
 revert hw;refine W cx (J1 Mo) ?_<;>(unhygienic intros)
 refine df (λn fr A'=>A=A'/\∃i:Nat,n=t-i/\k+1<=i/\fr 0=.slice o p.length c/\fr 2=qb qa t/\fr 7=qb qa i/\
  (iE p k t=qg↔∃b,i<=b/\b<t/\eH p b=7/\t<=min (dL p b) (p.length-1))) (t-(k+1)) ?_ ?_
 refine⟨rfl,k+1,rfl,qZ _,rfl,rfl,rfl,?_⟩;rw [iE,List.any_eq_true];constructor;rintro ⟨b,hb,hh⟩;simp only [Zd,decide_eq_true_eq] at hh;exact⟨b,by omega,Zn.1 hb,hh.1.2,hh.2⟩;rintro ⟨b,h1,h2,h3,h4⟩;exact⟨b,Zn.2 h2,by simp only [Zd,decide_eq_true_eq];exact⟨⟨by omega,h3⟩,h4⟩⟩;rintro n fr A' ⟨rfl,i,rfl,hi,h0,h2,h7,he⟩;by_cases bY:i<t;have tD:i<p.length:=Ya
 obtain⟨q,bS,rfl,bO,fA,hcell⟩:=h.at tD;have nq:=yn hcell;have gC:=zd (i:=i);have ho:eH p i=p[i].op:=mE (q9 tD);by_cases h7':p[i].op=7;have sl:=yJ _ p i A h hl tD;by_cases hcc:t<=min (dL p i) (p.length-1);have e:iE p k t=qg:=he.2 ⟨i,qZ _,bY,by rw [ho];exact h7',hcc⟩;have yx:((t:Int)<=if p.length-1<dL p i then ((p.length-1:Nat):Int) else (dL p i:Int)):=by split<;>omega
 refine aT ?_;refine W (J1 @sl) (mW h0 h2 h7 bO nq fA bY tD gC hwl h7' yx e) ?_<;>intros;simp [cZ,aS,aX,bA,aQ,aR,e];have yx:¬((t:Int)<=if p.length-1<dL p i then ((p.length-1:Nat):Int) else (dL p i:Int)):=by split<;>omega
 refine aT ?_;refine W (J1 @sl) (vZ h0 h2 h7 bO nq fA bY tD gC hwl h7' yx) ?_<;>intros;refine⟨t-(i+1),by omega,rfl,i+1,rfl,by omega,?_,?_,?_,?_⟩;simp [h0];simp [h2];simp;rw [he];constructor;rintro ⟨b,g1,g2,g3,g4⟩;have:b≠i:=λe=>hcc (by rw [<-e];exact g4);exact⟨b,by omega,g2,g3,g4⟩;rintro ⟨b,g1,g2,g3,g4⟩;exact⟨b,by omega,g2,g3,g4⟩;refine aT ?_;refine W cx (H7 h0 h2 h7 bO nq fA bY tD gC hwl h7') ?_<;>intros;refine⟨t-(i+1),by omega,rfl,i+1,rfl,by omega,?_,?_,?_,?_⟩;simp [h0];simp [h2];simp;rw [he];constructor;rintro ⟨b,g1,g2,g3,g4⟩;have:b≠i:=λe=>h7' (by rw [<-ho,<-e];exact g3);exact⟨b,by omega,g2,g3,g4⟩;rintro ⟨b,g1,g2,g3,g4⟩;exact⟨b,by omega,g2,g3,g4⟩;have e:iE p k t=qk:=by
  cases hp:iE p k t with
  | false=>rfl
  | true=>obtain⟨b,g1,g2,_⟩:=he.1 hp;omega
 refine aT ?_;refine W cx (J5 h0 h2 h7 bY e) ?_<;>intros;simp [aX,bA,aQ,aR,e]
end
section
namespace TGFbB
theorem nO [Gl] {A:AW} {L:List It} {T:Prop} (hS:aj A L) (hw:A.Wf) (h':(aW A L/\bz A L/\cd L)=T:=by first|(dsimp only [aa,ah,aW,bz,cd,ff];done)|exact rfl):T:=h'▸hS.eX hw
end TGFbB
open TGFbB
variable [Gl]
def bs (l:List UInt8):ByteArray:=⟨l.toArray⟩
theorem Fs (l:List UInt8):(bs l).size=l.length:=by simp [bs,ByteArray.size]
theorem R6 (s:List UInt8) (i:Nat) (h:i<(bs s).size):(bs s)[i]'h=s[i]'(by rw [Fs] at h;exact h):=rfl
theorem oI (s:List UInt8) (x:UInt8) (A:AW) (hl:s.length<2^30) :
 aB qV 138 [.string (bs s),qb .u8 x.toNat] A (λu A'=>u=qn (decide (x∈s))/\A=A'):=by
 refine aK Tryz.func138 λhw=>?_;revert hw;refine W cx cx ?_<;>(unhygienic intros);refine df (λk fr A'=>A=A'/\∃i:Nat,k=s.length-i/\i<=s.length/\fr 0=.string (bs s)/\fr 1=qb .u8 x.toNat/\fr 5=qb qa i/\(x∈s↔x∈s.drop i)) s.length ?_ ?_;exact⟨rfl,0,rfl,Nat.zero_le _,rfl,rfl,rfl,by simp⟩;rintro k fr A' ⟨rfl,i,rfl,hi,h0,h1,h5,he⟩;by_cases bY:i<s.length
 . have gC:=zd (i:=i);have hd:s.drop i=s[i]::s.drop (i+1):=ZU bY;by_cases hx:s[i]=x;have hxn:((s[i].toNat:Int)=x.toNat):=(by rw [hx]);have wZ:x∈s:=he.2 (by rw [hd,hx];simp);refine aT ?_;refine W cx (J8 h0 h1 h5 bY gC hxn @Fs @R6) ?_<;>intros;simp [cZ,aS,aX,bA,aQ,aR,wZ];have hxn:¬((s[i].toNat:Int)=x.toNat):=λe=>hx (UInt8.toNat_inj.1 Ya);refine aT ?_
   repeat' (first|(refine iT λR hR=>?_;simp [h0,h1,h5,Fs,R6,bY,gC,hxn];try simp (disch:=omega) only [ay,aw,af,an])|(refine hR _ _ ?_;clear hR R)|(refine hK _ _ ?_;clear hK K)|refine nx ?_|refine wn λK hK=>?_|simp only [wS]|(show cM _ _ _ _ _ _;refine nx ?_)|(refine wc rfl (λhc=>?_) (λhc=>?_)<;>(try simp at hc)))
   refine⟨s.length-(i+1),by omega,rfl,i+1,rfl,by omega,?_,?_,?_,?_⟩;simp [h0];simp [h1];simp;have gZ:¬x=s[i]:=λe=>hx e.symm;rw [he,hd,ZM];exact⟨λh=>h.resolve_left gZ,qt⟩
 have wZ:¬x∈s:=λh=>by
  have:=he.1 h;rw [List.drop_eq_nil_of_le Ya] at this;cases this
 refine aT ?_;refine W cx (J5 h0 h1 h5 bY @Fs) ?_<;>intros;simp [aX,bA,aQ,aR,wZ]
theorem uB (r:Int) (b:Bool) (A:AW):aB qV 137 [qb qa r,qn b] A (λu A'=>u=qn (ip r b)/\A=A'):=by
 refine aK Tryz.func137 λhw=>?_;cases b with
 | true=>
   by_cases h1:0<=r
   . by_cases h2:r<8
     . refine W cx (J2 h1 h2) ?_<;>intros
       all_goals simp [aS,aX,bA,aQ,aR,ip,h1,h2]
     refine W cx (J2 h1 h2) ?_<;>intros
     all_goals simp [aS,aX,bA,aQ,aR,ip,h1,h2]
   refine W cx (J1 h1) ?_<;>intros
   all_goals simp [aS,aX,bA,aQ,aR,ip,h1]
 | false=>
   by_cases h1:r=0
   . refine W cx (J1 h1) ?_<;>intros
     all_goals simp [aX,bA,aQ,aR,ip,h1]
   refine W cx (J1 h1) ?_<;>intros
   all_goals simp [aX,bA,aQ,aR,ip,h1]
end
end Go.Stx
