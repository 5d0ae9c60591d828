/-
 The library's functions on slices of integers that the program calls: Clone, Sort, Compact.
-/
import Derived.Test.YtipomeafemoelaaGreatDoorG02
import Derived.Test.YtipomeafemoelaaGreatDoorF3
set_option linter.unusedVariables false
set_option linter.unusedSimpArgs false
set_option linter.unusedSectionVars false
set_option maxRecDepth 20000
set_option maxHeartbeats 4000000
namespace Go.Stx
open Go Go.Proofs
attribute [local irreducible] cM aS ax aH cJ de TW bA oG
section
variable [Gl]
def qE (l:List Int):List Int:=l.mergeSort λx y=>decide (x<=y)
theorem Nx (B:Nat) (v:Value) (l:List Int) (A:AW) (hw:A.Wf) (h:dx B A .i64 v l) (hl:l.length<2^40) :
 ax Tryz.prog 241 [v] A (λu A'=>dx B A' .i64 v (qE l)/\∀A0:AW,A0.next<=B->A0.le A->A0.le A'):=by
 have dl:jF Tryz.prog 241=true:=by kernel_rfl
 rcases h.bE with ⟨o,c,rfl,rfl,_⟩|⟨p,c,bP,rfl,h0,hc,hs,hB,hg,qf,hcs⟩;refine(ax.mu dl (rv:=.tuple #[]) (ret:=λ_ _=>.tuple #[]) (λm _ _ _=>bB.undef m) (λo' c' w=>Tryz.slices_Sort_int_none o' c' w)).mono ?_;rintro u A' ⟨rfl,rfl⟩;exact⟨by simpa [qE] using h,λA0 _ hl=>hl⟩;have bG:(qE l).length=l.length:=by simp [qE]
 refine(Mi dl (k:=.i64) (d:=qE l) (rv:=.tuple #[]) (ret:=λ_ _=>.tuple #[]) rfl h0 hc hg qf hcs bG (λm _ _ _ _=>bB.undef m)
  (λjK off ef w hH hb _=>Tryz.slices_Sort_int jK off ef l w hH hb (by omega))).mono ?_
 rintro u A' ⟨rfl,rfl⟩;refine⟨?_,λA0 hA0 eJ=>eJ.set (by omega) _⟩;have:=Ct (B:=B) (k:=.i64) (qE l) [] hw hB hs hg (c:=c) (by simpa [bG] using qf) (by omega) bG.symm
 simpa using this
theorem uE (l:List Int):(Lib.compact l).length<=l.length:=by
 simp only [Lib.compact,Lib.compactUpTo,List.length_map];exact Nat.le_trans (List.length_filter_le _ _) (by simp)
theorem G7 (B:Nat) (v:Value) (l:List Int) (A:AW) (hw:A.Wf) (h:dx B A .i64 v l) (hl:l.length<2^40) :
 ax Tryz.prog 242 [v] A (λu A'=>dx B A' .i64 u (Lib.compact l)/\∀A0:AW,A0.next<=B->A0.le A->A0.le A'):=by
 have dl:jF Tryz.prog 242=true:=by kernel_rfl
 rcases h.bE with ⟨o,c,rfl,rfl,_⟩|⟨p,c,bP,rfl,h0,hc,hs,hB,hg,qf,hcs⟩;refine(ax.mu dl (rv:=.slice o 0 c) (ret:=λo' c'=>.slice o' 0 c') (λm _ _ h=>h) (λo' c' w=>Tryz.slices_Compact_int_empty o' c' w)).mono ?_;rintro u A' ⟨rfl,rfl⟩;exact⟨h,λA0 _ hl=>hl⟩;have bG:=uE l
 refine(Mi dl (k:=.i64) (d:=Lib.compact l++List.replicate (l.length-(Lib.compact l).length) 0) (rv:=.slice (some p) (Lib.compact l).length c) (ret:=λa' iD=>.slice (some a') (Lib.compact l).length iD)
  rfl h0 hc hg qf hcs (by simp;omega) (λm a' iD BD UH=>.slice (.inl BD) (by omega) UH)
  (λjK off ef w hH hb GU=>(Tryz.slices_Compact_int jK off ef l w hH (by omega) GU).mono λe w' ⟨h1,q,h2⟩=>⟨h1,q,#[],by rw [h2];exact(Go.Sort.grow_empty _).symm⟩)).mono ?_
 rintro u A' ⟨rfl,rfl⟩;refine⟨?_,λA0 hA0 eJ=>eJ.set (by omega) _⟩;exact Ct (B:=B) (k:=.i64) (Lib.compact l) _ hw hB hs hg (c:=c) (by simp;omega) (by omega) rfl
end
section
namespace TLockA
theorem mr [Gl] {A:AW} {L:List It} {T:Prop} (hS:ah A L) (hw:A.Wf) (h':(aR A L/\bj A L/\bN L)=T:=by first|(dsimp only [aa,ag,aR,bj,bN,eE];done)|exact rfl):T:=h'▸hS.eD hw
end TLockA
open TLockA
variable [Gl]
def eI (l:List Int):List Int:=Lib.compact (qE l)
theorem As (v:Value) (l:List Int) (A:AW) (h:bx A .i64 v l) (hl:l.length<2^39) :
 ax Tryz.prog 207 [v] A (λu A'=>dx A.next A' .i64 u (eI l)/\A.le A'):=by
 refine aF Tryz.func207 λhw=>?_;revert hw;refine W cd cd ?_<;>(unhygienic intros);refine bD (jq v l A h hl) ?_;rintro v1 A1 ⟨h1,l1⟩ w1 _;revert hw;(repeat first|clear hw|revert hc|revert R|revert K);refine W cd cd ?_<;>(unhygienic intros);refine bD (Nx A.next v1 l A1 w1 h1 (by omega)) ?_;rintro _ A2 ⟨h2,l2⟩ w2 _;revert hw;(repeat first|clear hw|revert hc|revert R|revert K);refine W cd cd ?_<;>(unhygienic intros);refine bD (G7 A.next v1 (qE l) A2 w2 h2 (by simp [qE];omega)) ?_;rintro v3 A3 ⟨h3,l3⟩ w3 _;refine W cd cd ?_<;>intros;simp;exact⟨h3,l3 A (Nat.le_refl _) (l2 A (Nat.le_refl _) l1)⟩
theorem Nj (v:Value) (l:List Int) (A:AW) (h:bx A .i64 v l) (hl:l.length<2^39) :
 ax Tryz.prog 26 [v] A (λu A'=>dx A.next A' .i64 u l/\A.le A'):=by
 refine aF Tryz.func26 λhw=>?_;obtain⟨o,c,rfl,_⟩:=h.bE;revert hw;refine W cd cd ?_<;>(unhygienic intros)
 refine cW (λk fr A'=>∃(j:Nat) (sv:Value),k=l.length-j/\j<=l.length/\fr 0=.slice o l.length c/\fr 4=.int .i64 j/\fr 3=sv/\
  dx A.next A' .i64 sv (l.take j)/\A.le A'/\A'.Wf) l.length ?_ ?_
 exact⟨0,_,by simp,by simp,rfl,rfl,rfl,dx.nil _ _ _,AW.le.refl A,hw⟩;rintro k fr A' ⟨j,sv,rfl,hj,g0,g4,g3,gB,eJ,i8⟩;by_cases bL:j<l.length
 case neg=>
  have wj:j=l.length:=by omega
  revert hw;(repeat first|clear hw|revert hc|revert R|revert K);refine W cd (J4 g0 g4 g3 bL) ?_<;>(unhygienic intros);rw [wj,List.take_length] at gB
  simpa using ⟨gB,eJ⟩
 have S7:IntKind.i64.wrap ((j:Int)+1)=((j+1:Nat):Int):=ai (by omega) (by omega);obtain⟨p,bP,rfl,bI,hcell⟩:=(h.le eJ hw).at bL;obtain⟨v',A2,e1,e2,e3,e4,e5⟩:=DD (P:=Tryz.prog) (t:=24) l[j] Tryz.underlying24 Tryz.info3 Tryz.zero3 rfl rfl gB (by simp;omega) (by simp) eJ.next i8;revert hw;(repeat first|clear hw|revert hc|revert R|revert K);refine W cd (J8 g0 g4 g3 bL bI hcell S7 e1) ?_<;>(unhygienic intros);refine⟨l.length-(j+1),by omega,j+1,v',rfl,by omega,?_,?_,?_,?_,e3 A (Nat.le_refl _) eJ,e4⟩;simp [g0];simp;simp;rw [List.take_add_one,List.getElem?_eq_getElem bL];exact e2
end
section
namespace TLockB
theorem mr [Gl] {A:AW} {L:List It} {T:Prop} (hS:ah A L) (hw:A.Wf) (h':(aR A L/\bj A L/\bN L)=T:=by first|(dsimp only [aa,ag,aR,bj,bN,eE];done)|exact rfl):T:=h'▸hS.eD hw
end TLockB
open TLockB
variable [Gl]
def CP (tk:List Int) (x:Int):List Int:=
 match tk with
 | []=>[x]
 | y::r=>if y<x then y::CP r x else if y=x then y::r else x::y::r
def sx (l:List Int):List Int:=l.foldl CP []
end
section
variable [Gl]
theorem LI:∀(a b:List Int),a.Pairwise (·< ·)->b.Pairwise (·< ·)->(∀x,x∈a↔x∈b)->a=b
 | [],[],_,_,_=>rfl
 | [],y::b,_,_,h=>by have:=(h y).2 (by simp);simp at this
 | x::a,[],_,_,h=>by have:=(h x).1 (by simp);simp at this
 | x::a,y::b,ha,hb,h=>by
   rw [List.pairwise_cons] at ha hb;have hxy:x=y:=by
    have h1:=(h x).1 (by simp);have h2:=(h y).2 (by simp);rw [List.mem_cons] at h1 h2;rcases h1 with h1|h1;exact h1;rcases h2 with h2|h2;exact h2.symm;have:=hb.1 x h1;have:=ha.1 y h2;omega
   subst hxy;congr 1;refine LI a b ha.2 hb.2 λz=>⟨λhz=>?_,λhz=>?_⟩;have:=ha.1 z hz;have h1:=(h z).1 (by simp [hz]);rw [List.mem_cons] at h1;rcases h1 with h1|h1;omega;exact h1;have:=hb.1 z hz;have h1:=(h z).2 (by simp [hz]);rw [List.mem_cons] at h1;rcases h1 with h1|h1;omega;exact h1
theorem IY (tk:List Int) (x z:Int):z∈CP tk x↔z=x\/z∈tk:=by
 induction tk with
 | nil=>simp [CP]
 | cons y r ih=>
   simp only [CP];split;simp only [List.mem_cons,ih];constructor;rintro (h|h|h);exact .inr (.inl h);exact .inl h;exact .inr (.inr h);rintro (h|h|h);exact .inr (.inl h);exact .inl h;exact .inr (.inr h);split;rename_i h1 h2;subst h2;simp;simp
theorem SM (tk:List Int) (x:Int) (h:tk.Pairwise (·< ·)):(CP tk x).Pairwise (·< ·):=by
 induction tk with
 | nil=>simp [CP]
 | cons y r ih=>
   have h0:=List.pairwise_cons.1 h;simp only [CP];split;rename_i h1;refine List.pairwise_cons.2 ⟨λz hz=>?_,ih h0.2⟩;rcases (IY r x z).1 hz with e|e;omega;exact h0.1 z e;split;exact h;rename_i h1 h2;refine List.pairwise_cons.2 ⟨λz hz=>?_,h⟩;rw [List.mem_cons] at hz;rcases hz with e|e;omega;have:=h0.1 z e;omega
theorem tj (l:List Int):(sx l).Pairwise (·< ·)/\∀z,z∈sx l↔z∈l:=by
 have:∀(l tk:List Int),tk.Pairwise (·< ·)->(l.foldl CP tk).Pairwise (·< ·)/\∀z,z∈l.foldl CP tk↔z∈tk\/z∈l:=by
  intro l
  induction l with
  | nil=>intro tk h;exact⟨h,by simp⟩
  | cons x r ih=>
    intro tk h;obtain⟨h1,h2⟩:=ih (CP tk x) (SM tk x h);refine⟨h1,λz=>?_⟩;rw [List.foldl_cons,h2,IY,List.mem_cons];constructor;rintro ((h|h)|h);exact .inr (.inl h);exact .inl h;exact .inr (.inr h);rintro (h|h|h);exact .inl (.inr h);exact .inl (.inl h);exact .inr h
 have h:=this l [] List.Pairwise.nil;exact⟨h.1,λz=>by rw [sx,h.2];simp⟩
theorem G6 (l:List Int) (h:l.Pairwise (·<=·)):(Lib.compact l).Pairwise (·< ·)/\∀z,z∈Lib.compact l↔z∈l:=by
 have eJ:∀i j,i<=j->j<l.length->l.toArray[i]!<=l.toArray[j]!:=by
  intro i j hij hj;rw [getElem!_pos l.toArray i (by simp;omega),getElem!_pos l.toArray j (by simpa using hj)];simp only [List.getElem_toArray];by_cases e:i=j;subst e;exact Int.le_refl _;exact List.pairwise_iff_getElem.1 h i j (by omega) hj (by omega)
 constructor;rw [Lib.compact,Lib.compactUpTo,List.pairwise_map];have hr:((List.range l.length).filter (Lib.keeps l.toArray)).Pairwise (·< ·):=List.Pairwise.filter _ List.pairwise_lt_range;refine List.Pairwise.imp_of_mem ?_ hr;intro i j hi hj hij;rw [List.mem_filter,List.mem_range] at hi hj;have hk:=hj.2;simp only [Lib.keeps,decide_eq_true_eq] at hk;rcases hk with hk|hk;omega;have h1:=eJ i (j-1) (by omega) (by omega);have h2:=eJ (j-1) j (by omega) hj.1;omega;intro z;rw [Lib.compact,Lib.compactUpTo,List.mem_map];constructor;rintro ⟨i,hi,rfl⟩;rw [List.mem_filter,List.mem_range] at hi;rw [getElem!_pos l.toArray i (by simpa using hi.1)];simp;intro hz;obtain⟨i,hi,rfl⟩:=List.getElem_of_mem hz;have key:∀n i (hi:i<l.length),i<=n->∃a,a∈(List.range l.length).filter (Lib.keeps l.toArray)/\l.toArray[a]! = l[i]:=by
  intro n
  induction n with
  | zero=>
    intro i hi vH;have:i=0:=by omega
    subst this;exact⟨0,by simp [List.mem_filter,Lib.keeps,hi],by rw [getElem!_pos l.toArray 0 (by simpa using hi)];simp⟩
  | succ n ih=>
    intro i hi vH;by_cases hk:Lib.keeps l.toArray i=true;exact⟨i,by simp [List.mem_filter,hk,hi],by rw [getElem!_pos l.toArray i (by simpa using hi)];simp⟩;simp only [Lib.keeps,decide_eq_true_eq,not_or,Decidable.not_not] at hk;obtain⟨a,ha,hb⟩:=ih (i-1) (by omega) (by omega);refine⟨a,ha,?_⟩;rw [hb];have h3:=hk.2;rw [getElem!_pos l.toArray i (by simpa using hi),getElem!_pos l.toArray (i-1) (by simp;omega)] at h3
    simpa using h3.symm
 exact key i i hi (Nat.le_refl _)
theorem Ki (l:List Int):eI l=sx l:=by
 have hs:(qE l).Pairwise (·<=·):=by
  have:=List.pairwise_mergeSort (le:=λx y:Int=>decide (x<=y)) (by simp;omega) (by simp;omega) l;exact this.imp (by simp)
 obtain⟨h1,h2⟩:=G6 (qE l) hs;obtain⟨h3,h4⟩:=tj l;refine LI _ _ h1 h3 λz=>?_;rw [eI,h2,h4,qE,List.mem_mergeSort]
end
section
variable [Gl]
def Bh (c:bq) (b:Int):Int×Int:=
 if b<0 then (-1,-1)
 else if b<c.c0 then (0,c.base+b)
 else if b-c.c0<c.c1 then (1,c.base+c.c0+(b-c.c0)*2)
 else if b-c.c0-c.c1<c.c2 then (2,c.base+c.c0+c.c1*2+(b-c.c0-c.c1)*4)
 else if b-c.c0-c.c1-c.c2<c.c3 then (3,c.base+c.c0+c.c1*2+c.c2*4+(b-c.c0-c.c1-c.c2)*8)
 else (-1,-1)
def dL (c:bq) (b:Int):Int:=(Bh c b).1
def iB (c:bq) (b:Int):Int:=(Bh c b).2
def kE (c:bq) (a:Int):Int:=match (List.range c.nb.toNat).find? (λb:Nat=>iB c (b:Int) == a) with
 | some b=>b
 | none=>-1
def gz (c:bq) (a:Int):Int:=if 0<=a/\a<c.ba+c.nb then a.tmod c.ao else -1
inductive JM where
 | tk
 | Rt
 | bO (az:Int)
 | take (v:Int)
 | nq (a v:Int)
 | Dc
 | dq (b v:Int)
inductive DR where
 | take
 | dq (b:Int)
inductive br where
 | bF
 | je (k:JM)
 | fx
 | bh (r:ip) (u:DR)
 | fw (p:qB)
 | fy
 | dE
 | d9 (c:ij)
 | cH
 | eS (w:kg)
 | da (w:kg)
 | jb
 | gH
 | fv (p:fM)
 | jf
def br.gf:br->Int
 | .bF=>0 | .je _=>1 | .fx=>2 | .bh _ _=>3 | .fw _=>4 | .fy=>5 | .dE=>6 | .d9 _=>7
 | .cH=>8 | .eS _=>9 | .da _=>10 | .jb=>11 | .gH=>12 | .fv _=>13 | .jf=>14
structure aM where
 cf:bq
 am:Int
 aA:Int
 az:Int
 value:Int
 bY:Option iE
 aj:Bool
 reads:List Int
 ak:List Int
 av:List Int
 set:List Int
 bu:rB
 aw:Int
 ao:List Int
 aJ:Option iH
 aI:Option kK
 an:Nat
 aG:br
def aM.kN (s:aM):Bool:=!decide (s.aG.gf=0)
def aM.rv (s:aM):Int:=match s.bY with|some e=>e.El|none=>-1
def aM.iW (s:aM):Bool:=decide (s.az=1) && decide (0<s.bu.bT.length)
def aM.tG (s:aM):Int:=if s.aj=true/\s.iW=true then IntKind.i64.wrap (IntKind.i64.wrap s.aw+1) else -1
def aM.gf (s:aM):Int:=match s.aI with|some t=>t.gf|none=>-1
def aM.fe (s:aM):List Int:=match s.aJ with|some l=>l.fe|none=>[]
def iQ (s:aM):aM:=
 if s.az=1\/s.an=s.ak.length then { s with aG:=.jf }
 else { s with aG:=.fv ⟨dL s.cf (s.ak.getD s.an 0),s.ak.getD s.an 0,0,0⟩ }
def kz (s:aM) (az:Int):aM:=iQ { s with az:=az }
def qk (s:aM) (az:Int):aM:=
 if decide (az=1) && decide (0<s.bu.bT.length) then
  let os:=eI (s.bu.bT.map (gz s.cf))
  { s with az:=az,ao:=os,aJ:=some ⟨s.am,eI os,[],0,false⟩,aG:=.fy }
 else { s with az:=az,aI:=some ⟨false,0,false⟩,aG:=.dE }
def gU (s:aM):aM:=
 if s.ao.length=0 then { s with aG:=.gH } else { s with aG:=.da ⟨s.ao,s.fe⟩ }
def kW (s:aM) (a v:Int):Bool×aM:=
 if (fH s.bu a v).1=true then (true,{ s with bu:=(fH s.bu a v).2 }) else (false,kz s 3)
def lz (s:aM) (b st:Int):aM:=
 if st≠IntKind.u64.wrap (IntKind.u64.wrap (dL s.cf b)+1) then qk s 8
 else if s.cf.av<=s.av.length then kz s 3
 else if (kW s (s.cf.ba+b) 0).1=true then { (kW s (s.cf.ba+b) 0).2 with av:=s.av++[b] } else (kW s (s.cf.ba+b) 0).2
def iU:Nat->Int->aM->Bool×aM
 | 0,_,s=>(true,s)
 | n+1,a,s=>if (kW s a 0).1=true then iU n (a+1) (kW s a 0).2 else (false,(kW s a 0).2)
def gP (s:aM) (eH jK:Int):aM:=
 if jK<0 then kz s 4
 else
  let s1:={ s with ak:=s.ak++[jK] }
  let r:=kW s1 (s.cf.ba+jK) (eH+1)
  if r.1=true then
   let q:=iU (2 ^ eH.toNat) (iB s.cf jK) r.2
   if q.1=true then { q.2 with value:=IntKind.u64.wrap (iB s.cf jK) } else q.2
  else r.2
def vB (s:aM):JM->aM
 | .tk=>qk s 7
 | .Rt=>qk s 8
 | .bO az=>qk s az
 | .take v=>{ s with value:=v }
 | .nq a v=>if s.cf.ba<=a then qk s 7 else (kW s a v).2
 | .Dc=>kz s 3
 | .dq b v=>lz s b v
def BS (s:aM) (v:Int):DR->aM
 | .take=>{ s with value:=v }
 | .dq b=>lz s b v
abbrev tx:=aW×Int×aM×Mm
def ji (s:aM) (M:Mm) (e:iE):tx:=
 let r:=ic e M
 let s1:={ s with bY:=some r.2.1 }
 if r.2.1.bR=3 then (r.1,4,{ s1 with aG:=.bF },r.2.2)
 else (r.1,if e.El≠r.2.1.El then 3 else 2,s1,r.2.2)
def dR (s:aM) (M:Mm) (c:ip) (u:DR):tx:=
 let r:=dY c M
 let s1:={ s with aG:=.bh r.2.1 u }
 if r.2.1.done=false then (r.1,5+c.bR,s1,r.2.2)
 else if r.2.1.gM=true then (r.1,5+c.bR,kz s1 9,r.2.2)
 else
  let s2:=if c.dD<s.cf.ba/\¬c.dD∈s.reads then { s1 with reads:=s.reads++[c.dD] } else s1
  if (dZ s.cf.reads.toNat s.set c.gE).1=true then (r.1,5+c.bR,BS { s2 with set:=(dZ s.cf.reads.toNat s.set c.gE).2,aG:=.bF } r.2.1.val u,r.2.2)
  else (r.1,5+c.bR,kz s2 3,r.2.2)
def ox (s:aM) (M:Mm) (p:qB):tx:=
 let r:=gG p M
 (r.1,pD r.1,if r.2.1.bR=3 then gP { s with aG:=.bF } p.eH r.2.1.block else { s with aG:=.fw r.2.1 },r.2.2)
def jD (s:aM) (M:Mm) (l:iH):tx:=
 let r:=fj l M
 let s1:={ s with aJ:=some r.2.1 }
 (r.1,if r.1.gu=3 then 12 else 11,if r.2.1.done=true then { s1 with aI:=some ⟨false,0,false⟩,aG:=.dE } else s1,r.2.2)
def iw (s:aM) (M:Mm) (t:kK):tx:=
 let r:=ja t M
 let s1:={ s with aI:=some r.2.1 }
 (r.1,if r.1.gu=4 then 13 else 14,if r.2.1.done=true then { s1 with aG:=if s.set.length=0 then .cH else .d9 ⟨s.set,s.rv,false⟩ } else s1,r.2.2)
def gT (s:aM) (M:Mm) (c:ij):tx:=
 let r:=lq c M
 let s1:={ s with aG:=.d9 r.2.1 }
 (r.1,15,if r.2.1.jp=true then gU { s1 with az:=9 } else if r.2.1.done=true then { s1 with aG:=.cH } else s1,r.2.2)
def fY (s:aM) (M:Mm):tx:=
 let a:=iP M 3 0
 let s1:={ s with aw:=a.fA }
 (a,16,if s.iW=true/\IntKind.u64.wrap s.cf.aw<=a.fA then gU { s1 with az:=6 }
  else if s.iW=true then { s1 with aj:=true,aG:=.eS ⟨s.bu.bT,s.bu.fg⟩ } else gU { s1 with aj:=true },M)
def iv (s:aM) (M:Mm) (w:kg):tx:=
 let r:=nC w M
 (r.1,17,if r.2.1.done=true then { s with aG:=.da ⟨s.ao,List.replicate s.ao.length (mQ s.tG)⟩ } else { s with aG:=.eS r.2.1 },r.2.2)
def oh (s:aM) (M:Mm) (w:kg):tx:=
 let r:=lj w M
 (r.1,18,{ s with aG:=if r.2.1.done=true then (if 0<=s.tG then .jb else .gH) else .da r.2.1 },r.2.2)
def jW (s:aM) (M:Mm) (p:fM):tx:=
 let r:=ej p M
 (r.1,iO r.1,if r.2.1.bR=3 then iQ { s with an:=s.an+1,aG:=.fv r.2.1 } else { s with aG:=.fv r.2.1 },r.2.2)
def cK (s:aM) (M:Mm):tx:=match s.aG with
 | .bF=>(aW.zero,0,s,M)
 | .je k=>(aW.zero,0,vB { s with aG:=.bF } k,M)
 | .fx=>match s.bY with
   | some e=>ji s M e
   | none=>(aW.zero,0,s,M)
 | .bh c u=>dR s M c u
 | .fw p=>ox s M p
 | .fy=>match s.aJ with
   | some l=>jD s M l
   | none=>(aW.zero,0,s,M)
 | .dE=>match s.aI with
   | some t=>iw s M t
   | none=>(aW.zero,0,s,M)
 | .d9 c=>gT s M c
 | .cH=>fY s M
 | .eS w=>iv s M w
 | .da w=>oh s M w
 | .jb=>(DU M 3 0 (IntKind.u64.wrap (s.aw+1)),19,{ s with aG:=.gH },Gj M 3 0 (IntKind.u64.wrap (s.aw+1)))
 | .gH=>(DU M 5 0 (Cs s.gf),20,iQ s,Gj M 5 0 (Cs s.gf))
 | .fv p=>jW s M p
 | .jf=>(DU M 6 s.am 0,24,{ s with aG:=.bF,aA:=2 },Gj M 6 s.am 0)
def aM.mR (s:aM) (aA:Int):Bool:=decide (s.aG.gf=0) && decide (s.aA=aA)
def gO (s:aM):Int×aM:=
 if s.mR 0=true then (0,{ s with aA:=1,bY:=some ⟨s.am,0,0⟩,aG:=.fx }) else (1,s)
def xF (s:aM) (a:Int) (u:DR):aM:={ s with aG:=.bh ⟨a,gz s.cf a,s.rv,0,0,0,false⟩ u }
def Ik (s:aM) (a:Int):Int×aM:=
 if s.mR 1=true then
  if s.cf.ba<=a then (0,{ s with aG:=.je .tk })
  else if (kZ s.bu a).2=true then (0,{ s with aG:=.je (.take (kZ s.bu a).1) })
  else (0,xF s a .take)
 else (1,s)
def HJ (s:aM) (a v:Int):Int×aM:=if s.mR 1=true then (0,{ s with aG:=.je (.nq a v) }) else (1,s)
def M8 (s:aM) (eH:Int):Int×aM:=
 if s.mR 1=true then
  if eH<0\/4<=eH then (2,s)
  else if s.cf.ak<=s.ak.length then (0,{ s with aG:=.je .Dc })
  else (0,{ s with aG:=.fw ⟨eH,0,0,0,-1⟩ })
 else (1,s)
def MU (s:aM) (a:Int):Int×aM:=
 if s.mR 1=true then
  if kE s.cf a<0 then (0,{ s with aG:=.je .Rt })
  else if (kZ s.bu (s.cf.ba+kE s.cf a)).2=true then (0,{ s with aG:=.je (.dq (kE s.cf a) (kZ s.bu (s.cf.ba+kE s.cf a)).1) })
  else (0,xF s (s.cf.ba+kE s.cf a) (.dq (kE s.cf a)))
 else (1,s)
def D1 (s:aM) (az:Int):Int×aM:=
 if s.mR 1=true then
  if az≠1/\az≠2 then (2,s) else (0,{ s with aG:=.je (.bO az) })
 else (1,s)
def iy (w:Int):rB:=
 let n:=if w<=0 then 1 else if w<=1 then 2 else if w<=2 then 4 else if w<=4 then 8 else if w<=8 then 16 else if w<=16 then 32 else 64
 ⟨w.toNat,[],[],List.replicate n (-1)⟩
def fG (c:bq) (t:Int):aM:=⟨c,t,0,0,0,none,false,[],[],[],[],iy c.bK,0,[],none,none,0,.bF⟩
end
section
open Go.Proofs Go
variable [Gl]
theorem Aa {P:Program} {r:Operand->Value} {A:AW} {k':Value->AW->Prop} {x y:Operand} {t:TypeId} {s u v':Value} {A':AW}
 (e1:r x=s) (e2:r y=u) (h:eU P A t t s u=some (v',A')) (hk:k' v' A'):iI P (.call ⟨.builtin .append,#[x,y],#[t,t]⟩) r A k':=by
 have h1:aq P A r (.call ⟨.builtin .append,#[x,y],#[t,t]⟩)=none:=by simp [aq]
 have h2:ae P A r (.call ⟨.builtin .append,#[x,y],#[t,t]⟩)=some (v',A'):=by
  show (if t=t then eU P A t t (r x) (r y) else _)=_;rw [if_pos rfl,e1,e2,h]
 unfold iI;rw [h1,h2];exact hk
section
variable {P:Program} {S:AW->Prop} {K:Fr->AW->Prop} {fu:List xu} {a:Fr} {A:AW} {d:Option Tmp} {m:Nat} {x y:Operand} {t e:TypeId} {i:TypeInfo} {z:Value} {k:IntKind} {l:List Int} {n:Nat} {yv:Int} {v:Value} {L K':List It}
theorem DE {k':Value->AW->Prop} (hu:P.underlying t=some (.slice e)) (hi:P.info? e=some i) (hz:i.zero=some z) (gv:i.size=1) (nA:z.cells.size=1) (vJ:i.bytes<=8)
 (e1:ia a x=v) (e2:ia a y=.slice (some ⟨n,0,none⟩) 1 1) (hw:A.Wf) (hS:ah A L) (hp:ay L (.h (ap k v l)) K') (hn:A.bg n=some (.cells [.int k yv] true 1)) (bG:l.length<2 ^ 40)
 (hk:∀o c A',ah A' (.h (ap k (.slice o (l.length+1) c) (l++[yv]))::K')->A'.Wf->A.next<=A'.next->k' (.slice o (l.length+1) c) A') :
 iI P (.call ⟨.builtin .append,#[x,y],#[t,t]⟩) (ia a) A k':=by
 have h1:bk A (ap k v l*aE K'):=by
  unfold ah at hS;rw [hp.aE] at hS;exact hS
 obtain⟨v',A',e3,h2,h3,h4⟩:=ap.Hh (P:=P) (t:=t) yv n hu hi hz gv nA hn h1 bG vJ hw;obtain⟨o,c,h5,_⟩:=(ap.is h2).bE;have h6:v'=.slice o (l.length+1) c:=by simpa using h5
 subst h6;exact Aa e1 e2 e3 (hk o c A' h2 h3 h4)
theorem Un (hu:P.underlying t=some (.slice e)) (hi:P.info? e=some i) (hz:i.zero=some z) (gv:i.size=1) (nA:z.cells.size=1) (vJ:i.bytes<=8)
 (e1:ia a x=v) (e2:ia a y=.slice (some ⟨n,0,none⟩) 1 1) (hw:A.Wf) (hS:ah A L) (hp:ay L (.h (ap k v l)) K') (hn:A.bg n=some (.cells [.int k yv] true 1)) (bG:l.length<2 ^ 40)
 (hs:∀A',ah A' K'->S A')
 (hk:∀o c A',ah A' (.h (ap k (.slice o (l.length+1) c) (l++[yv]))::K')->A'.Wf->A.next<=A'.next->aS P S K fu (eA a d (.slice o (l.length+1) c)) A') :
 aS P S K (⟨d,.call ⟨.builtin .append,#[x,y],#[t,t]⟩,none,3⟩::fu) a A:=by
 unfold aS;rw [if_pos (by simp)];exact DE hu hi hz gv nA vJ e1 e2 hw hS hp hn bG λo c A' h1 h2 h3=>⟨hs A' h1.tail,hk o c A' h1 h2 h3⟩
theorem TY {r:wG} (hu:P.underlying t=some (.slice e)) (hi:P.info? e=some i) (hz:i.zero=some z) (gv:i.size=1) (nA:z.cells.size=1) (vJ:i.bytes<=8)
 (e1:ia a x=v) (e2:ia a y=.slice (some ⟨n,0,none⟩) 1 1) (hw:A.Wf) (hS:ah A L) (hp:ay L (.h (ap k v l)) K') (hn:A.bg n=some (.cells [.int k yv] true 1)) (bG:l.length<2 ^ 40)
 (hs:∀A',ah A' K'->S A')
 (hk:∀o c A',ah A' (.h (ap k (.slice o (l.length+1) c) (l++[yv]))::K')->A'.Wf->A.next<=A'.next->TW P S K r (eA a d (.slice o (l.length+1) c)) A') :
 TW P S K (.aD ⟨d,.call ⟨.builtin .append,#[x,y],#[t,t]⟩,none,3⟩ r) a A:=by
 unfold TW oG;rw [if_pos (by simp)];exact DE hu hi hz gv nA vJ e1 e2 hw hS hp hn bG λo c A' h1 h2 h3=>⟨hs A' h1.tail,hk o c A' h1 h2 h3⟩
theorem Uo {R:Fr->AW->Prop} (hu:P.underlying t=some (.slice e)) (hi:P.info? e=some i) (hz:i.zero=some z) (gv:i.size=1) (nA:z.cells.size=1) (vJ:i.bytes<=8)
 (e1:ia a x=v) (e2:ia a y=.slice (some ⟨n,0,none⟩) 1 1) (hw:A.Wf) (hS:ah A L) (hp:ay L (.h (ap k v l)) K') (hn:A.bg n=some (.cells [.int k yv] true 1)) (bG:l.length<2 ^ 40)
 (hs:∀A',ah A' K'->S A')
 (hk:∀o c A',ah A' (.h (ap k (.slice o (l.length+1) c) (l++[yv]))::K')->A'.Wf->A.next<=A'.next->R (eA a d (.slice o (l.length+1) c)) A') :
 oG P S ⟨d,.call ⟨.builtin .append,#[x,y],#[t,t]⟩,none,3⟩ a A R:=by
 unfold oG;rw [if_pos (by simp)];exact DE hu hi hz gv nA vJ e1 e2 hw hS hp hn bG λo c A' h1 h2 h3=>⟨hs A' h1.tail,hk o c A' h1 h2 h3⟩
end
section
variable {S:AW->Prop} {K:Fr->AW->Prop} {fu:List xu} {r:wG} {a:Fr} {A:AW} {d:Option Tmp} {x y:Operand} {l:List Int} {n:Nat} {yv:Int} {v:Value} {L K':List It}
theorem lwI (e1:ia a x=v) (e2:ia a y=.slice (some ⟨n,0,none⟩) 1 1) (hw:A.Wf) (hS:ah A L) (hp:ay L (.h (ap .i64 v l)) K') (hn:A.bg n=some (.cells [.int .i64 yv] true 1)) (bG:l.length<2 ^ 40)
 (hs:∀A',ah A' K'->S A')
 (hk:∀o c A',ah A' (.h (ap .i64 (.slice o (l.length+1) c) (l++[yv]))::K')->A'.Wf->A.next<=A'.next->aS Tryz.prog S K fu (eA a d (.slice o (l.length+1) c)) A') :
 aS Tryz.prog S K (⟨d,.call ⟨.builtin .append,#[x,y],#[24,24]⟩,none,3⟩::fu) a A:=
 Un (P:=Tryz.prog) Tryz.underlying24 Tryz.info3 Tryz.zero3 rfl rfl (by simp) e1 e2 hw hS hp hn bG hs hk
theorem lwU (e1:ia a x=v) (e2:ia a y=.slice (some ⟨n,0,none⟩) 1 1) (hw:A.Wf) (hS:ah A L) (hp:ay L (.h (ap .u64 v l)) K') (hn:A.bg n=some (.cells [.int .u64 yv] true 1)) (bG:l.length<2 ^ 40)
 (hs:∀A',ah A' K'->S A')
 (hk:∀o c A',ah A' (.h (ap .u64 (.slice o (l.length+1) c) (l++[yv]))::K')->A'.Wf->A.next<=A'.next->aS Tryz.prog S K fu (eA a d (.slice o (l.length+1) c)) A') :
 aS Tryz.prog S K (⟨d,.call ⟨.builtin .append,#[x,y],#[28,28]⟩,none,3⟩::fu) a A:=
 Un (P:=Tryz.prog) Tryz.underlying28 Tryz.info35 Tryz.zero35 rfl rfl (by simp) e1 e2 hw hS hp hn bG hs hk
theorem twI (e1:ia a x=v) (e2:ia a y=.slice (some ⟨n,0,none⟩) 1 1) (hw:A.Wf) (hS:ah A L) (hp:ay L (.h (ap .i64 v l)) K') (hn:A.bg n=some (.cells [.int .i64 yv] true 1)) (bG:l.length<2 ^ 40)
 (hs:∀A',ah A' K'->S A')
 (hk:∀o c A',ah A' (.h (ap .i64 (.slice o (l.length+1) c) (l++[yv]))::K')->A'.Wf->A.next<=A'.next->TW Tryz.prog S K r (eA a d (.slice o (l.length+1) c)) A') :
 TW Tryz.prog S K (.aD ⟨d,.call ⟨.builtin .append,#[x,y],#[24,24]⟩,none,3⟩ r) a A:=
 TY (P:=Tryz.prog) Tryz.underlying24 Tryz.info3 Tryz.zero3 rfl rfl (by simp) e1 e2 hw hS hp hn bG hs hk
theorem twU (e1:ia a x=v) (e2:ia a y=.slice (some ⟨n,0,none⟩) 1 1) (hw:A.Wf) (hS:ah A L) (hp:ay L (.h (ap .u64 v l)) K') (hn:A.bg n=some (.cells [.int .u64 yv] true 1)) (bG:l.length<2 ^ 40)
 (hs:∀A',ah A' K'->S A')
 (hk:∀o c A',ah A' (.h (ap .u64 (.slice o (l.length+1) c) (l++[yv]))::K')->A'.Wf->A.next<=A'.next->TW Tryz.prog S K r (eA a d (.slice o (l.length+1) c)) A') :
 TW Tryz.prog S K (.aD ⟨d,.call ⟨.builtin .append,#[x,y],#[28,28]⟩,none,3⟩ r) a A:=
 TY (P:=Tryz.prog) Tryz.underlying28 Tryz.info35 Tryz.zero35 rfl rfl (by simp) e1 e2 hw hS hp hn bG hs hk
theorem lhI {R:Fr->AW->Prop} (e1:ia a x=v) (e2:ia a y=.slice (some ⟨n,0,none⟩) 1 1) (hw:A.Wf) (hS:ah A L) (hp:ay L (.h (ap .i64 v l)) K') (hn:A.bg n=some (.cells [.int .i64 yv] true 1)) (bG:l.length<2 ^ 40)
 (hs:∀A',ah A' K'->S A')
 (hk:∀o c A',ah A' (.h (ap .i64 (.slice o (l.length+1) c) (l++[yv]))::K')->A'.Wf->A.next<=A'.next->R (eA a d (.slice o (l.length+1) c)) A') :
 oG Tryz.prog S ⟨d,.call ⟨.builtin .append,#[x,y],#[24,24]⟩,none,3⟩ a A R:=
 Uo (P:=Tryz.prog) Tryz.underlying24 Tryz.info3 Tryz.zero3 rfl rfl (by simp) e1 e2 hw hS hp hn bG hs hk
theorem lhU {R:Fr->AW->Prop} (e1:ia a x=v) (e2:ia a y=.slice (some ⟨n,0,none⟩) 1 1) (hw:A.Wf) (hS:ah A L) (hp:ay L (.h (ap .u64 v l)) K') (hn:A.bg n=some (.cells [.int .u64 yv] true 1)) (bG:l.length<2 ^ 40)
 (hs:∀A',ah A' K'->S A')
 (hk:∀o c A',ah A' (.h (ap .u64 (.slice o (l.length+1) c) (l++[yv]))::K')->A'.Wf->A.next<=A'.next->R (eA a d (.slice o (l.length+1) c)) A') :
 oG Tryz.prog S ⟨d,.call ⟨.builtin .append,#[x,y],#[28,28]⟩,none,3⟩ a A R:=
 Uo (P:=Tryz.prog) Tryz.underlying28 Tryz.info35 Tryz.zero35 rfl rfl (by simp) e1 e2 hw hS hp hn bG hs hk
end
theorem AW.IA {A:AW} {n:Nat} {o:dH} (h:A.next=n):(A.alloc o).next=n+1:=by rw [AW.aV,h]
theorem AW.P3 {A:AW} {n i:Nat} {o:Option dH} (h:A.next=n):(A.set i o).next=n:=by rw [AW.tU,h]
theorem ah.RG {A:AW} {L:List It} {o:dH} {n:Nat} (h:ah A L) (hw:A.Wf) (hn:A.next=n):ah (A.alloc o) (.at n o::L):=by
 subst hn;exact h.alloc hw o
theorem ah.uj {A:AW} {L:List It} (k:IntKind) (h:ah A L):ah A (.h (ap k (.slice none 0 0) [])::L):=ap.nil h
theorem i9 {ι:Type} {g:ι->List It} {A:AW} {L K:List It} (h:ah A L) (hp:ay L (.h (pG λx=>aE (g x))) K):∃x,ah A (g x++K):=by
 unfold ah at h;rw [hp.aE] at h;have h1:bk A (pG (λx=>aE (g x))*aE K):=h;rw [bk.ex] at h1;obtain⟨x,h1⟩:=h1;refine⟨x,?_⟩;unfold ah;rw [fF];exact h1
theorem gN {ι:Type} {g:ι->List It} {A:AW} {L K:List It} (x:ι) (h:ah A L) (hp:aP L (g x) K):ah A (.h (pG λx=>aE (g x))::K):=by
 unfold ah at h ⊢;rw [hp.aE] at h;show bk A (pG (λx=>aE (g x))*aE K);rw [bk.ex];exact⟨x,h⟩
end
section
abbrev P2:List (Nat×Nat):=[(0,0),(1,0),(2,0),(3,0),(4,0),(5,0),(6,0),(7,0)]
abbrev Vp:List (Nat×Nat):=[(0,0),(1,2),(2,0),(3,0),(4,0),(5,0),(6,0),(7,0),(8,0),(9,0),(10,0),(11,0),(12,2),(13,0),(14,0),(15,0)]
open T7
variable [Gl]
theorem Ua:(2:Int) ^ min 1 IntKind.i64.bits=2:=by decide
theorem pw2:(2:Int) ^ min 2 IntKind.i64.bits=4:=by decide
theorem pw3:(2:Int) ^ min 3 IntKind.i64.bits=8:=by decide
theorem pw0:(2:Int) ^ min 0 IntKind.i64.bits=1:=by decide
theorem MN (c:bq) (hc:db c) (A:AW):ax Tryz.prog 74 [c.v] A (λv A'=>v=.tuple #[.int .i64 c.nb,.int .i64 c.hw,.bool true]/\A=A'):=by
 refine ax.qt (V:=.tuple #[.int .i64 c.nb,.int .i64 c.hw,.bool true]) (cL.tuple (by simp)) (λhw=>?_) (by kernel_rfl);refine aF Tryz.func74 λ_=>?_;obtain⟨k0,EG⟩:=hc.k0;obtain⟨k1,HL⟩:=hc.k1;obtain⟨k2,KX⟩:=hc.k2;obtain⟨k3,OQ⟩:=hc.k3;have kn:=hc.nb;have e:c.nb=c.c0+c.c1+c.c2+c.c3:=rfl;have e':c.hw=c.c0+c.c1*2+c.c2*4+c.c3*8:=rfl;revert hw;(repeat first|revert hc|revert R|revert K);refine W cd (J2 @bq.v.eq_1 bz) ?_<;>(unhygienic intros);refine ii 5 ?_;refine W cd (Bs k0 EG k1 HL k2 KX k3 OQ @bq.v.eq_1 bz) ?_<;>intros
 all_goals(
  refine⟨_,by first|(simp;done)|(simp;rfl),?_,AW.le.alloc _ _⟩;simp only [Value.tuple.injEq,Array.mk.injEq,List.cons.injEq,Value.int.injEq,Value.bool.injEq,true_and,and_true];rw [Ua,pw2,pw3];simp (disch:=omega) only [ai];exact⟨e.symm,e'.symm,by simp;omega⟩)
theorem ql (c:bq) (hc:db c) (A:AW):ax Tryz.prog 55 [c.v] A (λv A'=>v=.int .i64 0/\A=A'):=by
 refine ax.qt (V:=.int .i64 0) (by simp) (λhw=>?_) (by kernel_rfl);refine aF Tryz.func55 λ_=>?_;obtain⟨w0,w1⟩:=hc.ba;obtain⟨r0,r1⟩:=hc.ao;obtain⟨k0,EG⟩:=hc.k0;obtain⟨k1,HL⟩:=hc.k1;obtain⟨k2,KX⟩:=hc.k2;obtain⟨k3,OQ⟩:=hc.k3;obtain⟨b0,b1⟩:=hc.base;obtain⟨x0,x1⟩:=hc.reads;obtain⟨y0,y1⟩:=hc.bK;obtain⟨z0,z1⟩:=hc.ak;obtain⟨u0,u1⟩:=hc.av;obtain⟨t0,t1⟩:=hc.aw;have kn:=hc.nb;have kf:=hc.Wy;have e:c.nb=c.c0+c.c1+c.c2+c.c3:=rfl;have e':c.hw=c.c0+c.c1*2+c.c2*4+c.c3*8:=rfl;have hh:=MN c hc;have qf:c.hw<=c.ba-c.base:=kf;dsimp only [bq.v] at hh ⊢;refine W (J2 @hh @HX) (RO w0 w1 r0 r1 b0 b1 x0 x1 y0 y1 z0 z1 u0 u1 t0 t1 qf bz) ?_<;>intros
 all_goals exact⟨_,by first|(simp;done)|(simp;rfl),rfl,AW.le.alloc _ _⟩
theorem uG (c:bq) (hc:db c) (A:AW):ax Tryz.prog 76 [c.v] A (λv A'=>v=.int .i64 c.nb/\A=A'):=by
 refine ax.qt (V:=.int .i64 c.nb) (by simp) (λhw=>?_) (by kernel_rfl);refine aF Tryz.func76 λ_=>?_;have hh:=MN c hc;have BE:=ql c hc;dsimp only [bq.v] at hh BE ⊢;refine W (J2 @hh @BE) (J1 bz) ?_<;>intros
 all_goals exact⟨_,by first|(simp;done)|(simp;rfl),rfl,AW.le.alloc _ _⟩
theorem AD (c:bq) (hc:db c) (b:Int) (hb:b<2^62) (A:AW):ax Tryz.prog 162 [c.v,.int .i64 b] A (λv A'=>v=.tuple #[.int .i64 (Bh c b).1,.int .i64 (Bh c b).2]/\A=A'):=by
 refine ax.qt (V:=.tuple #[.int .i64 (Bh c b).1,.int .i64 (Bh c b).2]) (cL.tuple (by simp)) (λhw=>?_) (by kernel_rfl);refine aF Tryz.func162 λ_=>?_;obtain⟨w0,w1⟩:=hc.ba;obtain⟨r0,r1⟩:=hc.ao;obtain⟨k0,EG⟩:=hc.k0;obtain⟨k1,HL⟩:=hc.k1;obtain⟨k2,KX⟩:=hc.k2;obtain⟨k3,OQ⟩:=hc.k3;obtain⟨b0,b1⟩:=hc.base;obtain⟨x0,x1⟩:=hc.reads;obtain⟨y0,y1⟩:=hc.bK;obtain⟨z0,z1⟩:=hc.ak;obtain⟨u0,u1⟩:=hc.av;obtain⟨t0,t1⟩:=hc.aw;have kn:=hc.nb;have kf:=hc.Wy;have e:c.nb=c.c0+c.c1+c.c2+c.c3:=rfl;have e':c.hw=c.c0+c.c1*2+c.c2*4+c.c3*8:=rfl;have BE:=ql c hc
 have l0:Bh c b=if b<0 then (-1,-1) else if b<c.c0 then (0,c.base+b) else if b-c.c0<c.c1 then (1,c.base+c.c0+(b-c.c0)*2)
  else if b-c.c0-c.c1<c.c2 then (2,c.base+c.c0+c.c1*2+(b-c.c0-c.c1)*4) else if b-c.c0-c.c1-c.c2<c.c3 then (3,c.base+c.c0+c.c1*2+c.c2*4+(b-c.c0-c.c1-c.c2)*8) else (-1,-1):=rfl
 generalize Bh c b=q at *;dsimp only [bq.v] at BE ⊢;revert hw;(repeat first|revert hc|revert R|revert K);refine W (J2 (od P2) @BE) (J1 bz) (J2 ?_ ?_)<;>(unhygienic intros);exact⟨_,by simp;rfl,by rw [l0,if_pos (by assumption)],AW.le.alloc _ _⟩;refine ii 5 ?_;refine W (J1 (od P2)) (J9 k0 EG k1 HL k2 KX k3 OQ bz) (J5 ?_ ?_ ?_ ?_ ?_)<;>intros
 all_goals(
  refine⟨_,by first|(simp;done)|(simp;rfl),?_,AW.le.alloc _ _⟩;rw [l0];simp (disch:=omega) only [if_pos,if_neg]
  try rw [Ua]
  try rw [pw2]
  try rw [pw3]
  try simp (disch:=omega) only [ai])
theorem sV (c:bq) (hc:db c) (b:Int) (hb:b<2^62) (A:AW):ax Tryz.prog 112 [c.v,.int .i64 b] A (λv A'=>v=.int .i64 (dL c b)/\A=A'):=by
 refine ax.qt (V:=.int .i64 (dL c b)) (by simp) (λhw=>?_) (by kernel_rfl);refine aF Tryz.func112 λ_=>?_;have BE:=AD c hc b hb;dsimp only [bq.v] at BE ⊢;refine W (J1 @BE) (J1 bz) ?_<;>intros;exact⟨_,by first|(simp;done)|(simp;rfl),rfl,AW.le.alloc _ _⟩
theorem Dh (c:bq) (hc:db c) (b:Int) (hb:b<2^62) (A:AW):ax Tryz.prog 245 [c.v,.int .i64 b] A (λv A'=>v=.int .i64 (iB c b)/\A=A'):=by
 refine ax.qt (V:=.int .i64 (iB c b)) (by simp) (λhw=>?_) (by kernel_rfl);refine aF Tryz.func245 λ_=>?_;have BE:=AD c hc b hb;dsimp only [bq.v] at BE ⊢;refine W (J1 @BE) (J1 bz) ?_<;>intros;exact⟨_,by first|(simp;done)|(simp;rfl),rfl,AW.le.alloc _ _⟩
theorem uV (c:bq) (hc:db c) (a:Int) (A:AW):ax Tryz.prog 175 [c.v,.int .i64 a] A (λv A'=>v=.int .i64 (gz c a)/\A=A'):=by
 refine ax.qt (V:=.int .i64 (gz c a)) (by simp) (λhw=>?_) (by kernel_rfl);refine aF Tryz.func175 λ_=>?_;obtain⟨w0,w1⟩:=hc.ba;obtain⟨r0,r1⟩:=hc.ao;obtain⟨k0,EG⟩:=hc.k0;obtain⟨k1,HL⟩:=hc.k1;obtain⟨k2,KX⟩:=hc.k2;obtain⟨k3,OQ⟩:=hc.k3;obtain⟨b0,b1⟩:=hc.base;obtain⟨x0,x1⟩:=hc.reads;obtain⟨y0,y1⟩:=hc.bK;obtain⟨z0,z1⟩:=hc.ak;obtain⟨u0,u1⟩:=hc.av;obtain⟨t0,t1⟩:=hc.aw;have kn:=hc.nb;have kf:=hc.Wy;have e:c.nb=c.c0+c.c1+c.c2+c.c3:=rfl;have e':c.hw=c.c0+c.c1*2+c.c2*4+c.c3*8:=rfl;have hh:=ql c hc;have BE:=uG c hc;dsimp only [bq.v] at hh BE ⊢;have hU:¬c.ao=0:=by omega
 refine W (J3 (od Vp) @hh @BE) (J2 hU bz) (J3 ?_ ?_ ?_)<;>intros
 all_goals(
  refine⟨_,by first|(simp;done)|(simp;rfl),?_,AW.le.alloc _ _⟩;unfold gz
  first|(rw [if_neg (by simp_all;omega)];done)|(rw [if_neg (by omega)];done)|(rw [if_pos (by omega)];done))
theorem yi {c:bq} (hc:db c) (b:Int) (h:0<=b/\b<c.nb):(0<=dL c b/\dL c b<=3)/\0<=iB c b/\iB c b+2 ^ (dL c b).toNat<=c.ba:=by
 obtain⟨w0,w1⟩:=hc.ba;obtain⟨r0,r1⟩:=hc.ao;obtain⟨k0,EG⟩:=hc.k0;obtain⟨k1,HL⟩:=hc.k1;obtain⟨k2,KX⟩:=hc.k2;obtain⟨k3,OQ⟩:=hc.k3;obtain⟨b0,b1⟩:=hc.base;obtain⟨x0,x1⟩:=hc.reads;obtain⟨y0,y1⟩:=hc.bK;obtain⟨z0,z1⟩:=hc.ak;obtain⟨u0,u1⟩:=hc.av;obtain⟨t0,t1⟩:=hc.aw;have kn:=hc.nb;have kf:=hc.Wy;have e:c.nb=c.c0+c.c1+c.c2+c.c3:=rfl;have e':c.hw=c.c0+c.c1*2+c.c2*4+c.c3*8:=rfl;have qf:c.hw<=c.ba-c.base:=kf;unfold dL iB Bh;rw [if_neg (by omega)];split;simp;omega;split;simp;omega;split;simp;omega;split;simp;omega;omega
end
section
open T7
variable [Gl]
theorem LH {c:bq} {a:Int} (h:∀b:Nat,(b:Int)<c.nb->iB c b≠a):kE c a = -1:=by
 unfold kE;have:(List.range c.nb.toNat).find? (λb:Nat=>iB c (b:Int) == a)=none:=by
  rw [List.find?_eq_none];intro x hx;have:=List.mem_range.1 hx
  simpa using h x (by omega)
 rw [this]
theorem LG {c:bq} {a:Int} {b:Nat} (hb:(b:Int)<c.nb) (h:iB c b=a) (h':∀j:Nat,j<b->iB c j≠a):kE c a=b:=by
 unfold kE;have:(List.range c.nb.toNat).find? (λb:Nat=>iB c (b:Int) == a)=some b:=by
  rw [List.find?_eq_some_iff_append];refine⟨by simpa using h,List.range b,(List.range (c.nb.toNat-b-1)).map (·+ (b+1)),?_,λx hx=>?_⟩;have:c.nb.toNat=b+(1+(c.nb.toNat-b-1)):=by omega
  rw [this,List.range_add,List.range_add];simp;intro q _;omega;have:=List.mem_range.1 hx
  simpa using h' x this
 rw [this]
theorem Om (c:bq) (hc:db c) (a:Int) (A:AW):ax Tryz.prog 219 [c.v,.int .u64 a] A (λv A'=>v=.int .i64 (kE c a)/\A=A'):=by
 refine ax.qt (V:=.int .i64 (kE c a)) (by simp) (λhw=>?_) (by kernel_rfl);refine aF Tryz.func219 λ_=>?_;obtain⟨w0,w1⟩:=hc.ba;obtain⟨r0,r1⟩:=hc.ao;obtain⟨k0,EG⟩:=hc.k0;obtain⟨k1,HL⟩:=hc.k1;obtain⟨k2,KX⟩:=hc.k2;obtain⟨k3,OQ⟩:=hc.k3;obtain⟨b0,b1⟩:=hc.base;obtain⟨x0,x1⟩:=hc.reads;obtain⟨y0,y1⟩:=hc.bK;obtain⟨z0,z1⟩:=hc.ak;obtain⟨u0,u1⟩:=hc.av;obtain⟨t0,t1⟩:=hc.aw;have kn:=hc.nb;have kf:=hc.Wy;have e:c.nb=c.c0+c.c1+c.c2+c.c3:=rfl;have e':c.hw=c.c0+c.c1*2+c.c2*4+c.c3*8:=rfl;have hh:=uG c hc;have BE:=λb hb=>Dh c hc b hb;have DX:0<=c.nb:=by omega
 obtain⟨n,hn⟩:∃n:Nat,c.nb=n:=⟨c.nb.toNat,by omega⟩;have hn':n<=64:=by omega
 rw [hn] at hh;dsimp only [bq.v] at hh BE ⊢;revert hw;(repeat first|revert hc|revert R|revert K);refine W (J1 @hh) (J1 bz) ?_<;>(unhygienic intros);refine cW (λk fr A'=>A'=A.alloc (.cells c.cells true 1)/\∃i:Nat,k=n-i/\i<=n/\fr 1=.int .u64 a/\fr 2=.pointer (some ⟨A.next,0,none⟩)/\fr 7=.int .i64 n/\fr 8=.int .i64 i/\∀j:Nat,j<i->iB c j≠a) n ?_ ?_;refine⟨rfl,0,by simp,by simp,rfl,rfl,rfl,rfl,by simp⟩;rintro k fr A' ⟨rfl,i,rfl,hi,h1,h2,h7,h8,hj⟩;dsimp only [bq.cells];by_cases bL:i<n
 . have gW:(i:Int)<n:=(by omega);have fU:=uR (i:=i);have hf:=yi hc i (by omega);have hp:(0:Int)<2 ^ (dL c i).toNat:=Int.pow_pos (by omega);have VK:IntKind.u64.wrap (iB c i)=iB c i:=ar (by omega) (by omega);refine aO ?_;by_cases hx:iB c i=a
   . repeat' (first|(refine jX λR hR=>?_;simp [ai,ar,h1,h2,h7,h8,bL,gW,fU,VK,hx,AW.af,aB];try simp (disch:=omega) only [if_pos,if_neg,ai,ar])|(refine hR _ _ ?_;clear hR R)|(refine hK _ _ ?_;clear hK K)|refine nx ?_|refine wn λK hK=>?_|simp only [wS]|(refine bD (BE _ (by omega) _) ?_;rintro _ _ ⟨rfl,rfl⟩ _ _)|(refine bD (hh _) ?_;rintro _ _ ⟨rfl,rfl⟩ _ _)|(show cM _ _ _ _ _ _;refine nx ?_)|(refine wc rfl (λhc=>?_) (λhc=>?_)<;>(try simp at hc)<;>(try omega))|(refine ib (λhc=>?_) (λhc=>?_)<;>(try omega)<;>(try simp (disch:=omega) only [if_pos,if_neg])))
     refine⟨_,by first|(simp;done)|(simp;rfl),by rw [LG (by omega) hx hj],AW.le.alloc _ _⟩
   . repeat' (first|(refine jX λR hR=>?_;simp [ai,ar,h1,h2,h7,h8,bL,gW,fU,VK,hx,AW.af,aB];try simp (disch:=omega) only [if_pos,if_neg,ai,ar])|(refine hR _ _ ?_;clear hR R)|(refine hK _ _ ?_;clear hK K)|refine nx ?_|refine wn λK hK=>?_|simp only [wS]|(refine bD (BE _ (by omega) _) ?_;rintro _ _ ⟨rfl,rfl⟩ _ _)|(refine bD (hh _) ?_;rintro _ _ ⟨rfl,rfl⟩ _ _)|(show cM _ _ _ _ _ _;refine nx ?_)|(refine wc rfl (λhc=>?_) (λhc=>?_)<;>(try simp at hc)<;>(try omega))|(refine ib (λhc=>?_) (λhc=>?_)<;>(try omega)<;>(try simp (disch:=omega) only [if_pos,if_neg])))
     refine⟨n-(i+1),by omega,rfl,i+1,rfl,by omega,by simp [h1],by simp [h2],by simp [h7],by simp,λj tm=>?_⟩;by_cases e:j=i;subst e;exact hx;exact hj j (by omega)
 have gW:¬(i:Int)<n:=by omega
 refine aO ?_;refine W (J1 @hh) (J7 h1 h2 h7 h8 bL gW bz) ?_<;>intros;refine⟨_,by first|(simp;done)|(simp;rfl),by rw [LH λb hb=>hj b (by omega)],AW.le.alloc _ _⟩
end
section
open T7
variable [Gl]
theorem IF (n:Int) (A:AW) (hn:0<=n/\n<=32):ax Tryz.prog 212 [.int .i64 n] A (λv A'=>v=.pointer (some ⟨A.next,0,none⟩)/\A'=A.alloc (tV n.toNat (.slice none 0 0))):=by
 refine aF Tryz.func212 λ_=>?_;obtain⟨k,rfl⟩:∃k:Nat,n=k:=⟨n.toNat,by omega⟩;have e1:min (k:Int) 32=k:=by omega
 have e2:max 0 (k:Int)=k:=by omega
 have e3:(if 0<k then (k:Int) else 0)=k:=by split<;>omega
 refine W cd (J3 e1 e2 @tV.eq_1) ?_<;>intros;refine⟨_,rfl,rfl,?_⟩;simp [e1,e2,e3,tV]
theorem LP (b ef:Nat) (va vv vi:Value) (dJ:List Int) (hl:dJ.length<=64) :
 bf Tryz.prog 243 [.pointer (some ⟨b,0,none⟩)] [.at b (ll ef va vv vi),.h (ap .i64 vi dJ)] (λ_=>True)
  (λ_=>[.at b (ll ef (.slice none 0 0) (.slice none 0 0) vi),.h (ap .i64 vi (List.replicate dJ.length (-1)))]):=by
 intro A F hw hS;refine aF Tryz.func243 λ_=>?_;dsimp only [aa,ag] at hS;have hg:=hS.g 0 rfl;obtain⟨oi,ci,rfl,_⟩:=(ah.qT hS (.s .z)).bE;dsimp only [ll] at hg;revert hS hw;refine W cd (J2 hg bz) ?_<;>(unhygienic intros)
 refine cW (λk fr A'=>A'.Wf/\∃i:Nat,k=dJ.length-i/\i<=dJ.length/\fr 0=.pointer (some ⟨b,0,none⟩)/\fr 15=.int .i64 dJ.length/\fr 16=.int .i64 i/\
  ah A' (.at b (ll ef (.slice none 0 0) (.slice none 0 0) (.slice oi dJ.length ci))::.h (ap .i64 (.slice oi dJ.length ci) (List.replicate i (-1)++dJ.drop i))::[.h F])) dJ.length ?_ ?_
 . refine⟨?_,0,by simp,by simp,rfl,by simp,by simp,?_⟩
   . repeat' (first|assumption|apply AW.Wf.alloc|apply AW.Wf.set|apply ah.ltR hS hw .z|exact Nat.le_refl _)
   simp only [List.replicate_zero,ag,List.drop_zero];refine ah.bO (ah.fX (ah.fX hS .z) .z) (.s .z (.s .z (.s .z .z)))
 rintro k fr A' ⟨i8,i,rfl,hi,h0,h15,DZ,qh⟩;have MM:=qh.g 0 rfl;dsimp only [ll] at MM;refine aO ?_;by_cases bL:i<dJ.length;have gW:(i:Int)<dJ.length:=by omega
 have fU:=uR (i:=i);have bG:(List.replicate i (-1:Int)++dJ.drop i).length=dJ.length:=by simp;omega
 obtain⟨bi,GA,ci',Kq,hv,vK,bI,ke,iz⟩:=ah.Mn qh (.s .z) (j:=i) (by omega);rw [bG] at hv vK;injection hv with MH hv2 VO;subst MH;subst VO;have S9:=iz.g 0 rfl;have Lo:GA+i<Kq.length:=by omega
 refine W cd (HE h0 h15 DZ MM S9 bL gW fU bI Lo bz) ?_<;>intros;refine⟨dJ.length-(i+1),by omega,?_,i+1,rfl,by omega,by simp [h0],by simp [h15],by simp,?_⟩;exact i8.set _ (i8.lt S9);have h9:=ke (-1) _ _ (ah.fX iz .z);have e9:(List.replicate i (-1:Int)++dJ.drop i).set i (-1)=List.replicate (i+1) (-1)++dJ.drop (i+1):=by
  rw [List.set_append_right _ _ (by simp)];simp only [List.length_replicate,Nat.sub_self];rw [List.drop_eq_getElem_cons bL,List.set_cons_zero,List.replicate_succ',List.append_assoc];rfl
 rw [e9] at h9;exact ah.bO h9 (.s (.s .z) (.s .z (.s .z .z)));have Ls:i=dJ.length:=by omega
 subst Ls;refine W cd (J5 h0 h15 DZ MM bz) ?_<;>intros;refine⟨_,rfl,trivial,?_⟩;have e9:List.replicate dJ.length (-1:Int)++dJ.drop dJ.length=List.replicate dJ.length (-1):=by simp
 rw [e9] at qh;exact ah.bO qh (.s .z (.s .z (.s .z .z)))
theorem ap.Yc {A:AW} {F:HP} (n:Nat) (h:bk A F) (hw:A.Wf):bk (A.alloc (.cells (ft [.int .i64 0] n) true 1)) (ap .i64 (.slice (some ⟨A.next,0,none⟩) n n) (List.replicate n 0)*F):=by
 have bG:(ft [Value.int .i64 0] n).length=n:=by simp [jn]
 have hcs:(List.replicate n (0:Int)).map (Value.int .i64)=ft [Value.int .i64 0] n:=by
  clear bG
  induction n with
  | zero=>rfl
  | succ n ih=>rw [List.replicate_succ,List.map_cons,ih];rfl
 refine ap.mk (by simp) (by simp) (by simp [bG]) ?_ (h.alloc hw _);rw [hcs,List.drop_zero,List.take_of_length_le (by simp [bG])]
def Qg (w:Nat):Nat:=if w<=0 then 1 else if w<=1 then 2 else if w<=2 then 4 else if w<=4 then 8 else if w<=8 then 16 else if w<=16 then 32 else 64
theorem KK (w:Nat):iy w=⟨w,[],[],List.replicate (Qg w) (-1)⟩:=by
 have h:∀k:Nat,((w:Int)<=k)=(w<=k):=λk=>propext (by omega);have e:(if (w:Int)<=0 then 1 else if (w:Int)<=1 then 2 else if (w:Int)<=2 then 4 else if (w:Int)<=4 then 8 else if (w:Int)<=8 then 16 else if (w:Int)<=16 then 32 else 64)=Qg w:=by
  unfold Qg
  repeat' split
  all_goals(first|rfl|omega)
 unfold iy;rw [e];rfl
theorem SI {p w:Nat} (hw:w<=32) (h:p=1\/p=2\/p=4\/p=8\/p=16\/p=32\/p=64) (h1:p=1\/p<4*w) (h2:2*w<=p):p=Qg w:=by
 unfold Qg
 repeat' split
 all_goals omega
theorem IJ (w:Nat) (Ql:w<=32) (A:AW) (L:List It) (hw:A.Wf) (hS:ah A L) :
 ax Tryz.prog 213 [.int .i64 w] A (λv A'=>∃b,v=.pointer (some ⟨b,0,none⟩)/\ah A' (.h (pw b (iy w))::L)):=by
 refine aF Tryz.func213 λ_=>?_;have e1:min (w:Int) 32=w:=by omega
 have e2:max 0 (w:Int)=w:=by omega
 have e3:(if 0<w then (w:Int) else 0)=w:=by split<;>omega
 revert hS hw;refine W cd (J3 e1 e2 e3) ?_<;>(unhygienic intros)
 refine cW (λk fr A'=>A'=A.alloc (ll w (.slice none 0 0) (.slice none 0 0) (.slice none 0 0))/\∃p:Nat,k=64-p/\fr 3=.pointer (some ⟨A.next,0,none⟩)/\fr 4=.int .i64 p/\
  (p=1\/p=2\/p=4\/p=8\/p=16\/p=32\/p=64)/\(p=1\/p<4*w)) 63 ?_ ?_
 refine⟨?_,1,by simp,by simp,by simp,by simp,by simp⟩;simp [e1,e2,e3,ll];rintro k fr A' ⟨rfl,p,rfl,h3,h4,hp,Bm⟩;have y8:(A.alloc (ll w (.slice none 0 0) (.slice none 0 0) (.slice none 0 0))).bg A.next=some (.cells [.int .i64 w,.slice none 0 0,.slice none 0 0,.slice none 0 0] true 1):=by simp [ll]
 have RW:=hw.alloc (ll w (.slice none 0 0) (.slice none 0 0) (.slice none 0 0));have hSl:=hS.alloc hw (ll w (.slice none 0 0) (.slice none 0 0) (.slice none 0 0));generalize A.alloc (ll w (.slice none 0 0) (.slice none 0 0) (.slice none 0 0))=A1 at *;have fU:IntKind.i64.wrap ((p:Int)*2)=((p*2:Nat):Int):=by rw [ai (by omega) (by omega)];omega
 refine aO ?_;by_cases bL:p<2*w;have gW:(p:Int)<2*w:=by omega
 refine W cd (J6 h3 h4 y8 gW fU bz) ?_<;>intros;refine⟨64-p*2,by omega,rfl,p*2,rfl,by simp [h3],by simp,by omega,by omega⟩;have gW:¬(p:Int)<2*w:=by omega
 have SS:=SI Ql hp Bm (by omega);have hU:(A.next=A1.next)=False:=eq_false (by have:=RW.lt y8;omega);have kL:ah (A1.alloc (.cells (ft [.int .i64 0] p) true 1)) (.h (ap .i64 (.slice (some ⟨A1.next,0,none⟩) p p) (List.replicate p 0))::.at A.next (ll w (.slice none 0 0) (.slice none 0 0) (.slice none 0 0))::L):=ap.Yc p hSl RW;have hS:=kL;have hw:=RW.alloc (.cells (ft [.int .i64 0] p) true 1);revert hS hw;(repeat first|clear hS|clear hw|revert hc|revert R|revert K);refine W cd (J6 h3 h4 y8 gW hU bz) ?_<;>(unhygienic intros);refine bf.eZ (LP A.next w (.slice none 0 0) (.slice none 0 0) (.slice (some ⟨A1.next,0,none⟩) p p) (List.replicate p 0) (by simp;omega)) (hw.set _ (by simp;have:=RW.lt y8;omega)) (ah.fX hS (.s .z)) (.s .z (.s .z .z)) ?_;rintro _ A3 _ hS hw _;simp only [List.length_replicate] at hS;revert hS hw;(repeat first|clear hS|clear hw|revert hc|revert R|revert K);refine W cd (J2 h3 bz) ?_<;>(unhygienic intros)
 refine⟨_,by first|(simp;done)|(simp;rfl),A.next,rfl,?_⟩;rw [KK,<-SS];have h1:ah A3 (.h (ap .i64 (.slice none 0 0) [])::.h (ap .u64 (.slice none 0 0) [])::_):=ap.nil (k:=.i64) (ap.nil (k:=.u64) hS);exact pw.dA (s:=⟨w,[],[],List.replicate p (-1)⟩) (va:=.slice none 0 0) (vv:=.slice none 0 0) (vi:=.slice (some ⟨A1.next,0,none⟩) p p) h1 (.s (.s (.s .z)) (.s .z (.s .z (.s .z .z))))
end
section
abbrev xV:List (Nat×Nat):=[(0,0),(1,0),(2,0),(3,0),(4,0),(5,0),(6,0),(7,0),(8,0),(9,0),(10,0),(11,0),(12,0),(13,3)]
abbrev xU:List (Nat×Nat):=[(0,0),(1,0),(2,0),(3,0),(4,0),(5,0),(6,0),(7,0),(8,0),(9,0),(10,0)]
abbrev xT:List (Nat×Nat):=[(0,0),(1,0),(2,0),(3,0),(4,0),(5,0),(6,0),(7,0),(8,0),(9,0),(10,0),(11,3)]
open T7
variable [Gl]
theorem AC (b:Nat) (s:rB) (a v:Int) (lZ:oF s) (ha:0<=a) (yu:s.ef<=32) (QI:s.index.length<=64) :
 bf Tryz.prog 211 [.pointer (some ⟨b,0,none⟩),.int .i64 a,.int .u64 v] [.h (pw b s)] (λu=>u=.bool (fH s a v).1) (λ_=>[.h (pw b (fH s a v).2)]):=by
 intro A F hw dm;refine aF Tryz.func211 λ_=>?_;obtain⟨va,vv,vi,hS⟩:=pw.open dm .z
 try dsimp only [aa,ag] at hS
 have UM:=ah.qT hS (.s .z);have UK:=ah.qT hS (.s (.s .z));have UL:=ah.qT hS (.s (.s (.s .z)));have y8:=hS.g 0 rfl;obtain⟨p,hp,rT,nh⟩:=Ax b va vv vi s a A lZ ha yu QI y8 UM UL;have bG:s.bT.length<=32:=Nat.le_trans lZ.ef yu;have hlv:=lZ.KU;have hg:=y8;dsimp only [ll] at hg;obtain⟨oa,ca,rfl,_⟩:=UM.bE;obtain⟨ov,cv,rfl,_⟩:=UK.bE;obtain⟨bi,GA,ci,Kq,rfl,vK,bI,ke,iz⟩:=ah.Mn hS (.s (.s (.s .z))) hp;have S9:=iz.g 0 rfl;have Xt:¬a<0:=by omega
 have Qq:(p:Int)<s.index.length:=by omega
 have YU:s.index.getD p 0=ix s.index p:=by
  unfold ix;rw [List.getD_eq_getElem?_getD,List.getD_eq_getElem?_getD,List.getElem?_eq_getElem hp];rfl
 rw [YU] at bI;rcases rT with ⟨e,Oa,Wa⟩|⟨Oa,I6,Lj⟩;rw [Wa] at bI;have bL:e<s.fg.length:=by rw [lZ.KU];exact(sT Oa).1
 have vF:fH s a v=(true,{ s with fg:=s.fg.set e v }):=by simp [fH,Oa]
 obtain⟨bv,Sx,cv',Vg,hv,hbv,Qm,Yt,kL⟩:=ah.Mn iz (.s (.s (.s .z))) bL;injection hv with MH hv2 VO;subst MH;subst VO;have DY:=kL.g 0 rfl;refine W (J4 (od xV) (od xU) (od xT) @nh) (Bs hg Xt S9 DY bI Qm bL hp Qq bz) ?_<;>intros;refine⟨_,by first|rfl|(simp;rfl),by simp [vF],?_⟩;rw [vF];have h1:=Yt v _ _ (ah.fX kL .z);have h2:=ah.bO h1 (G:=.at bi (.cells Kq true 1)::.h (ap .u64 (.slice (some ⟨bv,Sx,none⟩) s.fg.length cv) (s.fg.set e v))::.at b (ll s.ef (.slice oa s.bT.length ca) (.slice (some ⟨bv,Sx,none⟩) s.fg.length cv) (.slice (some ⟨bi,GA,none⟩) s.index.length ci))::.h (ap .i64 (.slice oa s.bT.length ca) s.bT)::[.h F]) (.s (.s .z) (.s .z (.s .z (.s .z (.s .z .z)))));have h3:=ke (s.index.getD p 0) _ _ (by
  have e1:Kq.set (GA+p) (.int .i64 (s.index.getD p 0))=Kq:=by
   apply List.ext_getElem?;intro q;by_cases eq:GA+p=q;subst eq;rw [List.getElem?_set_self (by omega),YU,bI,Wa];rw [List.getElem?_set_ne eq]
  rw [e1];exact h2)
 have e2:s.index.set p (s.index.getD p 0)=s.index:=by
  apply List.ext_getElem?;intro q;by_cases eq:p=q;subst eq;rw [List.getElem?_set_self hp,List.getD_eq_getElem?_getD,List.getElem?_eq_getElem hp];rfl;rw [List.getElem?_set_ne eq]
 rw [e2] at h3
 exact pw.dA (s:={ s with fg:=s.fg.set e v }) (va:=.slice oa s.bT.length ca) (vv:=.slice (some ⟨bv,Sx,none⟩) s.fg.length cv) (vi:=.slice (some ⟨bi,GA,none⟩) s.index.length ci)
  h3 (.s (.s (.s .z)) (.s (.s (.s .z)) (.s (.s .z) (.s .z .z))))
 have Uz:¬0<=ix s.index p:=by omega
 by_cases hfull:s.bT.length=s.ef;have vF:fH s a v=(false,s):=by simp [fH,Oa,hfull]
 have h3:(s.bT.length:Int)=s.ef:=by omega
 refine W (J4 (od xV) (od xU) (od xT) @nh) (J9 hg Xt S9 bI hp Qq h3 Uz @AW.af) ?_<;>intros;refine⟨_,rfl,by simp [vF],?_⟩;rw [vF];exact dm;have vF:fH s a v=(true,{ s with bT:=s.bT++[a],fg:=s.fg++[v],index:=s.index.set p s.bT.length }):=by
  simp [fH,Oa,hfull,Lj]
 have h3:¬(s.bT.length:Int)=s.ef:=by omega
 have EM:(bi=b)=False:=eq_false (λe=>by
  have:=iz.eD hw;dsimp only [aR,bj,bN,eE] at this;have h5:=this.2.2.1.1.1;rw [h5] at e;exact e.elim)
 revert hS hw;(repeat first|clear hS|clear hw|revert hc|revert R|revert K);refine W (J4 (od xV) (od xU) (od xT) @nh) (Bs hg Xt S9 bI hp Qq h3 Uz EM bz) ?_<;>(unhygienic intros);have hS:=ke s.bT.length _ _ (ah.fX iz .z);have hw:=hw.set (some (.cells (Kq.set (GA+p) (.int .i64 s.bT.length)) true 1)) (hw.lt S9);generalize A.set bi (some (.cells (Kq.set (GA+p) (.int .i64 s.bT.length)) true 1))=A1 at *;have hq:=hqx8 hS hw
 repeat' (first|(with_reducible apply twI;(·first|(simp;done)|(simp;rfl));(·first|(simp;done)|(simp;rfl));(·exact wA);(·exact sA);(·first|exact pA|exact kA);(·first|(simp;done)|(simp;rfl)|(simp [hq];done)|(simp [hq];rfl));(·first|omega|(simp;omega));(·exact λA' yx=>(by have h9:=ah.LA yx<;>simp only [aR,ll] at h9<;>simp only [h9]));rintro _ _ _ hS hw _;(try dsimp only [AW.aV] at hS);have hq:=fm hS hw)|(with_reducible apply twU;(·first|(simp;done)|(simp;rfl));(·first|(simp;done)|(simp;rfl));(·exact wA);(·exact sA);(·first|exact pA|exact kA);(·first|(simp;done)|(simp;rfl)|(simp [hq];done)|(simp [hq];rfl));(·first|omega|(simp;omega));(·exact λA' yx=>(by have h9:=ah.LA yx<;>simp only [aR,ll] at h9<;>simp only [h9]));rintro _ _ _ hS hw _;(try dsimp only [AW.aV] at hS);have hq:=fm hS hw)|(refine H0 (λR hR=>?_) (λR hR=>?_)<;>(first|(with_reducible apply lhI;(·first|(simp;done)|(simp;rfl));(·first|(simp;done)|(simp;rfl));(·exact wA);(·exact sA);(·first|exact pA|exact kA);(·first|(simp;done)|(simp;rfl)|(simp [hq];done)|(simp [hq];rfl));(·first|omega|(simp;omega));(·exact λA' yx=>(by have h9:=ah.LA yx<;>simp only [aR,ll] at h9<;>simp only [h9]));rintro _ _ _ hS hw _;(try dsimp only [AW.aV] at hS);have hq:=fm hS hw)|(with_reducible apply lhU;(·first|(simp;done)|(simp;rfl));(·first|(simp;done)|(simp;rfl));(·exact wA);(·exact sA);(·first|exact pA|exact kA);(·first|(simp;done)|(simp;rfl)|(simp [hq];done)|(simp [hq];rfl));(·first|omega|(simp;omega));(·exact λA' yx=>(by have h9:=ah.LA yx<;>simp only [aR,ll] at h9<;>simp only [h9]));rintro _ _ _ hS hw _;(try dsimp only [AW.aV] at hS);have hq:=fm hS hw)|(simp [ai,ar,hq,hg,AW.af,aB];try simp (disch:=omega) only [if_pos,if_neg,ai,ar])))|(refine jX λR hR=>?_;simp [ai,ar,hq,hg,AW.af,aB];try simp (disch:=omega) only [if_pos,if_neg,ai,ar])|(refine hR _ _ ?_;clear hR R)|(refine hK _ _ ?_;clear hK K)|refine nx ?_|(refine Md λR hR=>?_;simp [ai,ar,hq,hg,AW.af,aB];try simp (disch:=omega) only [if_pos,if_neg,ai,ar])|(refine H0 (λR hR=>?_) (λR hR=>?_)<;>(simp [ai,ar,hq,hg,AW.af,aB];try simp (disch:=omega) only [if_pos,if_neg,ai,ar]))|refine Mc ?_|refine wn λK hK=>?_|simp only [wS,xV,xU,xT]|simp only [bA,rg,kU,Option.map_none,Option.map_some,List.getElem?_toArray,List.getElem?_cons_zero,List.getElem?_cons_succ,List.getD_cons_zero,List.getD_cons_succ,Option.bind_some]|refine wl Tryz.mx xV (by decide +kernel) λK hK=>?_|refine wl Tryz.mx xU (by decide +kernel) λK hK=>?_|refine wl Tryz.mx xT (by decide +kernel) λK hK=>?_|(refine ⟨λA' yx=>by simp [AW.af,yx],?_⟩)|(refine wt (λA'=>A'.bg b=some (.cells [.int .i64 s.ef,.slice oa s.bT.length ca,.slice ov s.fg.length cv,.slice (some ⟨bi,GA,none⟩) s.index.length ci] true 1)) Tryz.mx [0,0,0,0,0,1,0,2,3,0,0,0,1,0,2,3,0,0,4,0,0,4] (.aD 0 (.aD 1 (.aD 2 (.aD 3 (.aD 4 (.aD 5 (.aD 6 (.aD 9 (.aD 10 (.aD 11 (.aD 12 (.aD 13 (.qD 7 (.qD 8 (.aD 14 (.aD 15 (.aD 16 (.aD 17 (.aD 18 (.aD 19 (.aD 20 (.aD 21 .nil)))))))) 14 (.aD 8 (.aD 15 (.aD 16 (.aD 17 (.aD 18 (.aD 19 (.aD 20 (.aD 21 .nil))))))))) 14 (.aD 7 (.aD 8 (.aD 15 (.aD 16 (.aD 17 (.aD 18 (.aD 19 (.aD 20 (.aD 21 .nil)))))))))))))))))))))) (by decide +kernel) λK hK=>?_)|(show cM _ _ _ _ _ _;refine nx ?_)|(refine wc rfl (λhc=>?_) (λhc=>?_)<;>(try simp at hc)<;>(try omega))|(refine ib (λhc=>?_) (λhc=>?_)<;>(try omega)<;>(try simp (disch:=omega) only [if_pos,if_neg])))
 all_goals(
  refine⟨_,by first|(simp;done)|(simp;rfl),by simp [vF],?_⟩;rw [vF];apply ah.bO;apply pw.dA (s:={ s with bT:=s.bT++[a],fg:=s.fg++[v],index:=s.index.set p s.bT.length })
  (·exact sA)
  (·first|exact pA|exact kA)
  first|exact pA|exact kA)
end
section
abbrev PZ:List (Nat×Nat):=[(0,0),(1,0),(2,0),(3,0),(4,0),(5,0),(6,0),(7,0),(8,0),(9,2),(10,0),(11,0),(12,3),(13,0),(14,0),(15,0),(16,3)]
abbrev PY:List (Nat×Nat):=[(0,0),(1,0),(2,0),(3,0),(4,0),(5,0),(6,0),(7,0),(8,2),(9,0),(10,0),(11,0),(12,0),(13,0)]
abbrev PX:List (Nat×Nat):=[(0,0),(1,0),(2,0),(3,0),(4,0),(5,0),(6,0),(7,0),(8,0),(9,0),(10,3),(11,0),(12,0),(13,0),(14,3)]
abbrev Iy:List (Nat×Nat):=[(0,0),(1,0),(2,0),(3,0),(4,2),(5,0),(6,0),(7,0),(8,0),(9,0),(10,0),(12,0),(13,0),(14,0),(15,0),(11,2),(16,0),(17,0)]
abbrev Ix:List (Nat×Nat):=[(0,0),(1,0),(2,0),(3,0),(4,0),(5,0),(6,0),(7,0),(8,0),(9,0),(10,0),(11,3),(12,0),(13,0),(14,3)]
open T0
variable [Gl]
theorem yc (c k:Int) (A:AW):ax Tryz.prog 111 [.int .i64 c,.int .i64 k] A (λv A'=>v=.pointer (some ⟨A.next,0,none⟩)/\A'=A.alloc (gK ⟨c,k,0,0⟩)):=by
 refine aF Tryz.func111 λ_=>?_;refine W cd cd ?_<;>intros;exact⟨_,rfl,rfl,rfl⟩
theorem vW (b:Nat) (s:fM) (A:AW) (hg:A.bg b=some (gK s)):eQ 114 [.pointer (some ⟨b,0,none⟩)] A (.bool (decide (s.bR=3))):=by
 refine aF Tryz.func114 λ_=>?_;dsimp only [gK] at hg;refine W cd (J2 hg @AW.af) ?_<;>intros;exact⟨_,rfl,rfl,rfl⟩
def Mk (s:fM):Int:=IntKind.u64.wrap (IntKind.i64.wrap (iV s.head+1))
theorem Ku (s:fM) (M:Mm) :
 (s.bR=0/\ej s M=(iP M 7 s.eH,{ s with head:=(iP M 7 s.eH).fA,bR:=1 },M)) \/
 (s.bR=1/\ej s M=(DU M 8 s.block (Mk s),{ s with bR:=2 },Gj M 8 s.block (Mk s))) \/
 ((s.bR=2/\(Ea M 7 s.eH s.head (oD s.head s.block)).done=true)/\ej s M=(Ea M 7 s.eH s.head (oD s.head s.block),{ s with bR:=3 },Sl M 7 s.eH s.head (oD s.head s.block))) \/
 ((s.bR=2/\(Ea M 7 s.eH s.head (oD s.head s.block)).done=false)/\ej s M=(Ea M 7 s.eH s.head (oD s.head s.block),{ s with bR:=0 },Sl M 7 s.eH s.head (oD s.head s.block))) \/
 ((¬s.bR=0/\¬s.bR=1/\¬s.bR=2)/\ej s M=(aW.zero,s,M)):=by
 unfold ej;by_cases h0:s.bR=0;simp [h0];by_cases h1:s.bR=1;simp [h1,Mk];by_cases h2:s.bR=2;cases h3:(Ea M 7 s.eH s.head (oD s.head s.block)).done<;>simp [h2,h3];simp [h0,h1,h2]
theorem ri (b pb:Nat) (s:fM) (M:Mm) :
 bf Tryz.prog 113 [.pointer (some ⟨b,0,none⟩),.pointer (some ⟨pb,0,none⟩)] [.at b (gK s),dG pb M]
  (λv=>v=(ej s M).1.v) (λ_=>[.at b (gK (ej s M).2.1),dG pb (ej s M).2.2]):=by
 intro A F hw hS;refine aF Tryz.func113 λ_=>?_;have hq:=I3 hS hw;rcases Ku s M with ⟨h,e⟩|⟨h,e⟩|⟨h,e⟩|⟨h,e⟩|⟨h,e⟩
 all_goals(try simp only [Mk] at e)
 all_goals(revert hq hS hw;refine W (J8 (od PZ) (od PY) (od PX) @Fs @Cr (swL pb) (W2 pb) (Qh pb)) (J4 h bz @be.eq_1 @aW.v.eq_1) ?_<;>unhygienic intros)
 all_goals(
  try rw [e]
  refine⟨_,by simp [hq,AW.af,aB];rfl,by simp [aW.v,aW.zero,h],?_⟩;apply ah.bO
  (·exact sA)
  (·repeat' (first|apply aP.z|apply aP.s|apply ay.z|(apply ay.HI;simp [gF,jx,nf,gK,il,h];done)|apply ay.s)))
theorem vU (b:Nat) (s:ip) (A:AW) (hg:A.bg b=some (il s)):eQ 170 [.pointer (some ⟨b,0,none⟩)] A (.bool s.done):=by
 refine aF Tryz.func170 λ_=>?_;dsimp only [il] at hg;refine W cd (J2 hg @AW.af) ?_<;>intros;exact⟨_,rfl,rfl,rfl⟩
theorem xJ (b:Nat) (s:ip) (A:AW) (hg:A.bg b=some (il s)):eQ 171 [.pointer (some ⟨b,0,none⟩)] A (.bool s.gM):=by
 refine aF Tryz.func171 λ_=>?_;dsimp only [il] at hg;refine W cd (J2 hg @AW.af) ?_<;>intros;exact⟨_,rfl,rfl,rfl⟩
theorem Cn (b:Nat) (s:ip) (A:AW) (hg:A.bg b=some (il s)):eQ 176 [.pointer (some ⟨b,0,none⟩)] A (.int .u64 s.val):=by
 refine aF Tryz.func176 λ_=>?_;have MM:=hg;dsimp only [il] at MM;by_cases h1:s.bR=3<;>cases h2:s.gM
 all_goals(refine W (J1 (vU b s _ hg)) (J5 MM h1 h2 @ip.done.eq_1 @AW.af) ?_<;>unhygienic intros)
 all_goals exact⟨_,rfl,by simp [ip.val,h1,h2],rfl⟩
theorem pT (s:ip) (M:Mm) :
 ((s.bR=0/\0<=mK (iP M 2 s.gE).fA)/\dY s M=(iP M 2 s.gE,{ s with eF:=(iP M 2 s.gE).fA,gM:=true,bR:=3 },M)) \/
 (((s.bR=0/\¬0<=mK (iP M 2 s.gE).fA)/\s.rv<lD (iP M 2 s.gE).fA)/\dY s M=(iP M 2 s.gE,{ s with eF:=(iP M 2 s.gE).fA,gM:=true,bR:=3 },M)) \/
 (((s.bR=0/\¬0<=mK (iP M 2 s.gE).fA)/\¬s.rv<lD (iP M 2 s.gE).fA)/\dY s M=(iP M 2 s.gE,{ s with eF:=(iP M 2 s.gE).fA,bR:=1 },M)) \/
 (s.bR=1/\dY s M=(iP M 1 s.dD,{ s with value:=(iP M 1 s.dD).fA,bR:=2 },M)) \/
 (s.bR=2/\dY s M=(iP M 2 s.gE,{ s with gM:=decide ((iP M 2 s.gE).fA≠s.eF),bR:=3 },M)) \/
 ((¬s.bR=0/\¬s.bR=1/\¬s.bR=2)/\dY s M=(aW.zero,s,M)):=by
 unfold dY;by_cases h0:s.bR=0;by_cases h1:0<=mK (iP M 2 s.gE).fA<;>by_cases h2:s.rv<lD (iP M 2 s.gE).fA<;>simp [h0,h1,h2];by_cases h1:s.bR=1;simp [h1];by_cases h2:s.bR=2;simp [h2];simp [h0,h1,h2]
theorem vT (b pb:Nat) (s:ip) (M:Mm) :
 bf Tryz.prog 169 [.pointer (some ⟨b,0,none⟩),.pointer (some ⟨pb,0,none⟩)] [.at b (il s),dG pb M]
  (λv=>v=(dY s M).1.v) (λ_=>[.at b (il (dY s M).2.1),dG pb (dY s M).2.2]):=by
 intro A F hw hS;refine aF Tryz.func169 λ_=>?_;have hq:=I3 hS hw;rcases pT s M with ⟨h,e⟩|⟨h,e⟩|⟨h,e⟩|⟨h,e⟩|⟨h,e⟩|⟨h,e⟩
 repeat' (first|(refine jX λR hR=>?_;simp [ai,ar,hq,h,AW.af,aB,be,aW.v];try simp (disch:=omega) only [if_pos,if_neg,ai,ar])|(refine hR _ _ ?_;clear hR R)|(refine hK _ _ ?_;clear hK K)|refine nx ?_|refine wn λK hK=>?_|simp only [wS,Iy,Ix]|refine wl Tryz.mx Iy (by decide +kernel) λK hK=>?_|refine wl Tryz.mx Ix (by decide +kernel) λK hK=>?_|(refine bD (xP _ _) ?_;rintro _ _ ⟨rfl,rfl⟩ _ _)|(refine bD (vV _ _) ?_;rintro _ _ ⟨rfl,rfl⟩ _ _)|(refine ⟨λA' yx=>by simp [AW.af,yx],?_⟩)|(refine U5 (λA'=>A'.bg (A.next+1)=some (.cells (WT (iP M 2 s.gE)) true 1)) Tryz.mx [(0,0),(1,0),(2,0),(3,0),(4,0),(5,0),(6,0),(7,0),(8,0),(9,0),(10,0),(11,3),(12,0),(13,0),(14,3)] (by decide +kernel) λK hK=>?_)|(apply bf.eZ (Qh pb _ _ _);(·exact wA);(·exact sA);(·first|exact pA|exact kA);rintro _ _ rfl hS hw _;have hS:=lA hS;have hq:=I3 hS hw)|(show cM _ _ _ _ _ _;refine nx ?_)|(refine wc rfl (λhc=>?_) (λhc=>?_)<;>(try simp at hc)<;>(try omega))|(refine ib (λhc=>?_) (λhc=>?_)<;>(try omega)<;>(try simp (disch:=omega) only [if_pos,if_neg])))
 all_goals(
  try rw [e]
  refine⟨_,by simp [hq,AW.af,aB];rfl,by simp [aW.v,aW.zero,h],?_⟩;apply ah.bO
  (·exact sA)
  (·repeat' (first|apply aP.z|apply aP.s|apply ay.z|(apply ay.HI;simp [gF,jx,nf,gK,il,h];done)|apply ay.s)))
end
end Go.Stx
