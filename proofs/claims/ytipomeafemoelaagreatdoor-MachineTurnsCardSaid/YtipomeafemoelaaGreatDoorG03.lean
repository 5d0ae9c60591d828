/-
 The two Sorted return the same list.
-/
import Derived.Test.YtipomeafemoelaaGreatDoorG02
set_option linter.unusedVariables false
set_option linter.unusedSimpArgs false
set_option linter.unusedSectionVars false
set_option maxRecDepth 20000
set_option maxHeartbeats 4000000
open Go.IntKind renaming i64->qg,u64->qd
open Go.Lib renaming compact->Zl,keeps->kaA
open Go.Proofs.Tryz renaming info35->ZT,mx->qj,prog->qa,underlying24->Z4,underlying28->ZM,zero35->ZU
open Go.Stx.AW.le renaming alloc->qb
open Go.Value renaming int->qp
open List renaming drop_zero->Za,ext_getElem?->kab,getD_eq_getElem?_getD->ql,getElem?_eq_getElem->qk,getElem?_set_ne->Zo,getElem?_set_self->Zd,length_replicate->Z9,mem_cons->qW,mem_filter->Z5,mem_range->qy,pairwise_cons->kaG,range->qA,replicate->qc
namespace Go.Stx
open Go Go.Proofs
attribute [local irreducible] c8 aY aD aO cK da TW bG oY
section
variable [Gl]
theorem NS:∀(a b:List Int),a.Pairwise (·< ·)->b.Pairwise (·< ·)->(∀x,x∈a↔x∈b)->a=b
 | [],[],_,_,_=>rfl
 | [],y::b,_,_,h=>by have:=(h y).2 (by simp);simp at this
 | x::a,[],_,_,h=>by have:=(h x).1 (by simp);simp at this
 | x::a,y::b,ha,hb,h=>by
   rw [kaG] at ha hb;have hxy:x=y:=by
    have h1:=(h x).1 (by simp);have h2:=(h y).2 (by simp);rw [qW] at h1 h2;rcases h1 with h1|h1;exact h1;rcases h2 with h2|h2;exact h2.symm;have:=hb.1 x h1;have:=ha.1 y h2;omega
   subst hxy;congr 1;refine NS a b ha.2 hb.2 λz=>⟨λhz=>?_,λhz=>?_⟩;have:=ha.1 z hz;have h1:=(h z).1 (by simp [hz]);rw [qW] at h1;rcases h1 with h1|h1;omega;exact h1;have:=hb.1 z hz;have h1:=(h z).2 (by simp [hz]);rw [qW] at h1;rcases h1 with h1|h1;omega;exact h1
theorem KZ (tR:List Int) (x z:Int):z∈EI tR x↔z=x\/z∈tR:=by
 induction tR with
 | nil=>simp [EI]
 | cons y r ih=>
   simp only [EI];split;simp only [qW,ih];constructor;rintro (h|h|h);exact .inr (.inl h);exact .inl h;exact .inr (.inr h);rintro (h|h|h);exact .inr (.inl h);exact .inl h;exact .inr (.inr h);split;rename_i h1 h2;subst h2;simp;simp
theorem Vv (tR:List Int) (x:Int) (h:tR.Pairwise (·< ·)):(EI tR x).Pairwise (·< ·):=by
 induction tR with
 | nil=>simp [EI]
 | cons y r ih=>
   have h0:=kaG.1 h;simp only [EI];split;rename_i h1;refine kaG.2 ⟨λz hz=>?_,ih h0.2⟩;rcases (KZ r x z).1 hz with e|e;omega;exact h0.1 z e;split;exact h;rename_i h1 h2;refine kaG.2 ⟨λz hz=>?_,h⟩;rw [qW] at hz;rcases hz with e|e;omega;have:=h0.1 z e;omega
theorem vC (l:List Int):(uE l).Pairwise (·< ·)/\∀z,z∈uE l↔z∈l:=by
 have:∀(l tR:List Int),tR.Pairwise (·< ·)->(l.foldl EI tR).Pairwise (·< ·)/\∀z,z∈l.foldl EI tR↔z∈tR\/z∈l:=by
  intro l
  induction l with
  | nil=>intro tR h;exact⟨h,by simp⟩
  | cons x r ih=>
    intro tR h;obtain⟨h1,h2⟩:=ih (EI tR x) (Vv tR x h);refine⟨h1,λz=>?_⟩;rw [List.foldl_cons,h2,KZ,qW];constructor;rintro ((h|h)|h);exact .inr (.inl h);exact .inl h;exact .inr (.inr h);rintro (h|h|h);exact .inl (.inr h);exact .inl (.inl h);exact .inr h
 have h:=this l [] List.Pairwise.nil;exact⟨h.1,λz=>by rw [uE,h.2];simp⟩
theorem I8 (l:List Int) (h:l.Pairwise (·<=·)):(Zl l).Pairwise (·< ·)/\∀z,z∈Zl l↔z∈l:=by
 have fO:∀i j,i<=j->j<l.length->l.toArray[i]!<=l.toArray[j]!:=by
  intro i j hij hj;rw [getElem!_pos l.toArray i (by simp;omega),getElem!_pos l.toArray j (by simpa using hj)];simp only [List.getElem_toArray];by_cases e:i=j;subst e;exact Int.le_refl _;exact List.pairwise_iff_getElem.1 h i j (by omega) hj (by omega)
 constructor;rw [Zl,Lib.compactUpTo,List.pairwise_map];have hr:((qA l.length).filter (kaA l.toArray)).Pairwise (·< ·):=List.Pairwise.filter _ List.pairwise_lt_range;refine List.Pairwise.imp_of_mem ?_ hr;intro i j hi hj hij;rw [Z5,qy] at hi hj;have hk:=hj.2;simp only [kaA,decide_eq_true_eq] at hk;rcases hk with hk|hk;omega;have h1:=fO i (j-1) (by omega) (by omega);have h2:=fO (j-1) j (by omega) hj.1;omega;intro z;rw [Zl,Lib.compactUpTo,List.mem_map];constructor;rintro ⟨i,hi,rfl⟩;rw [Z5,qy] at hi;rw [getElem!_pos l.toArray i (by simpa using hi.1)];simp;intro hz;obtain⟨i,hi,rfl⟩:=List.getElem_of_mem hz;have key:∀n i (hi:i<l.length),i<=n->∃a,a∈(qA l.length).filter (kaA l.toArray)/\l.toArray[a]! = l[i]:=by
  intro n
  induction n with
  | zero=>
    intro i hi xQ;have:i=0:=by omega
    subst this;exact⟨0,by simp [Z5,kaA,hi],by rw [getElem!_pos l.toArray 0 (by simpa using hi)];simp⟩
  | succ n ih=>
    intro i hi xQ;by_cases hk:kaA l.toArray i=true;exact⟨i,by simp [Z5,hk,hi],by rw [getElem!_pos l.toArray i (by simpa using hi)];simp⟩;simp only [kaA,decide_eq_true_eq,not_or,Decidable.not_not] at hk;obtain⟨a,ha,hb⟩:=ih (i-1) (by omega) (by omega);refine⟨a,ha,?_⟩;rw [hb];have h3:=hk.2;rw [getElem!_pos l.toArray i (by simpa using hi),getElem!_pos l.toArray (i-1) (by simp;omega)] at h3
    simpa using h3.symm
 exact key i i hi (Nat.le_refl _)
theorem MC (l:List Int):eT l=uE l:=by
 have hs:(sz l).Pairwise (·<=·):=by
  have:=List.pairwise_mergeSort (le:=λx y:Int=>decide (x<=y)) (by simp;omega) (by simp;omega) l;exact this.imp (by simp)
 obtain⟨h1,h2⟩:=I8 (sz l) hs;obtain⟨h3,h4⟩:=vC l;refine NS _ _ h1 h3 λz=>?_;rw [eT,h2,h4,sz,List.mem_mergeSort]
end
section
variable [Gl]
def Db (c:br) (b:Int):Int×Int:=
 if b<0 then (-1,-1)
 else if b<c.c0 then (0,c.base+b)
 else if b-c.c0<c.c1 then (1,c.base+c.c0+(b-c.c0)*2)
 else if b-c.c0-c.c1<c.c2 then (2,c.base+c.c0+c.c1*2+(b-c.c0-c.c1)*4)
 else if b-c.c0-c.c1-c.c2<c.c3 then (3,c.base+c.c0+c.c1*2+c.c2*4+(b-c.c0-c.c1-c.c2)*8)
 else (-1,-1)
def dU (c:br) (b:Int):Int:=(Db c b).1
def iE (c:br) (b:Int):Int:=(Db c b).2
def kU (c:br) (a:Int):Int:=match (qA c.nb.toNat).find? (λb:Nat=>iE c (b:Int) == a) with
 | some b=>b
 | none=>-1
def gw (c:br) (a:Int):Int:=if 0<=a/\a<c.be+c.nb then a.tmod c.ao else -1
inductive FN where
 | tR
 | Pr
 | bS (aC:Int)
 | take (v:Int)
 | lU (a v:Int)
 | AS
 | dg (b v:Int)
inductive zH where
 | take
 | dg (b:Int)
inductive bD where
 | bF
 | iP (k:FN)
 | ei
 | bh (r:iI) (u:zH)
 | eO (p:pw)
 | eh
 | cU
 | cM (c:iw)
 | bK
 | di (w:je)
 | bH (w:je)
 | fb
 | ey
 | eL (p:fK)
 | ic
def bD.fY:bD->Int
 | .bF=>0 | .iP _=>1 | .ei=>2 | .bh _ _=>3 | .eO _=>4 | .eh=>5 | .cU=>6 | .cM _=>7
 | .bK=>8 | .di _=>9 | .bH _=>10 | .fb=>11 | .ey=>12 | .eL _=>13 | .ic=>14
structure aJ where
 cf:br
 aj:Int
 aF:Int
 aC:Int
 value:Int
 b7:Option iv
 am:Bool
 reads:List Int
 an:List Int
 ay:List Int
 set:List Int
 bz:tA
 aB:Int
 ao:List Int
 aP:Option ik
 aL:Option iG
 au:Nat
 aH:bD
def aJ.jN (s:aJ):Bool:=!decide (s.aH.fY=0)
def aJ.rv (s:aJ):Int:=match s.b7 with|some e=>e.Gh|none=>-1
def aJ.il (s:aJ):Bool:=decide (s.aC=1) && decide (0<s.bz.bL.length)
def aJ.nJ (s:aJ):Int:=if s.am=true/\s.il=true then qg.wrap (qg.wrap s.aB+1) else -1
def aJ.fY (s:aJ):Int:=match s.aL with|some t=>t.fY|none=>-1
def aJ.dT (s:aJ):List Int:=match s.aP with|some l=>l.dT|none=>[]
def gi (s:aJ):aJ:=
 if s.aC=1\/s.au=s.an.length then { s with aH:=.ic }
 else { s with aH:=.eL ⟨dU s.cf (s.an.getD s.au 0),s.an.getD s.au 0,0,0⟩ }
def jQ (s:aJ) (aC:Int):aJ:=gi { s with aC:=aC }
def nz (s:aJ) (aC:Int):aJ:=
 if decide (aC=1) && decide (0<s.bz.bL.length) then
  let os:=eT (s.bz.bL.map (gw s.cf))
  { s with aC:=aC,ao:=os,aP:=some ⟨s.aj,eT os,[],0,false⟩,aH:=.eh }
 else { s with aC:=aC,aL:=some ⟨false,0,false⟩,aH:=.cU }
def fJ (s:aJ):aJ:=
 if s.ao.length=0 then { s with aH:=.ey } else { s with aH:=.bH ⟨s.ao,s.dT⟩ }
def jp (s:aJ) (a v:Int):Bool×aJ:=
 if (fM s.bz a v).1=true then (true,{ s with bz:=(fM s.bz a v).2 }) else (false,jQ s 3)
def jr (s:aJ) (b st:Int):aJ:=
 if st≠qd.wrap (qd.wrap (dU s.cf b)+1) then nz s 8
 else if s.cf.ay<=s.ay.length then jQ s 3
 else if (jp s (s.cf.be+b) 0).1=true then { (jp s (s.cf.be+b) 0).2 with ay:=s.ay++[b] } else (jp s (s.cf.be+b) 0).2
def gs:Nat->Int->aJ->Bool×aJ
 | 0,_,s=>(true,s)
 | n+1,a,s=>if (jp s a 0).1=true then gs n (a+1) (jp s a 0).2 else (false,(jp s a 0).2)
def fx (s:aJ) (eE i9:Int):aJ:=
 if i9<0 then jQ s 4
 else
  let s1:={ s with an:=s.an++[i9] }
  let r:=jp s1 (s.cf.be+i9) (eE+1)
  if r.1=true then
   let q:=gs (2 ^ eE.toNat) (iE s.cf i9) r.2
   if q.1=true then { q.2 with value:=qd.wrap (iE s.cf i9) } else q.2
  else r.2
def sj (s:aJ):FN->aJ
 | .tR=>nz s 7
 | .Pr=>nz s 8
 | .bS aC=>nz s aC
 | .take v=>{ s with value:=v }
 | .lU a v=>if s.cf.be<=a then nz s 7 else (jp s a v).2
 | .AS=>jQ s 3
 | .dg b v=>jr s b v
def zW (s:aJ) (v:Int):zH->aJ
 | .take=>{ s with value:=v }
 | .dg b=>jr s b v
abbrev oW:=aZ×Int×aJ×Mm
def gN (s:aJ) (M:Mm) (e:iv):oW:=
 let r:=gl e M
 let s1:={ s with b7:=some r.2.1 }
 if r.2.1.bW=3 then (r.1,4,{ s1 with aH:=.bF },r.2.2)
 else (r.1,if e.Gh≠r.2.1.Gh then 3 else 2,s1,r.2.2)
def du (s:aJ) (M:Mm) (c:iI) (u:zH):oW:=
 let r:=dC c M
 let s1:={ s with aH:=.bh r.2.1 u }
 if r.2.1.done=false then (r.1,5+c.bW,s1,r.2.2)
 else if r.2.1.iu=true then (r.1,5+c.bW,jQ s1 9,r.2.2)
 else
  let s2:=if c.dJ<s.cf.be/\¬c.dJ∈s.reads then { s1 with reads:=s.reads++[c.dJ] } else s1
  if (eg s.cf.reads.toNat s.set c.ig).1=true then (r.1,5+c.bW,zW { s2 with set:=(eg s.cf.reads.toNat s.set c.ig).2,aH:=.bF } r.2.1.val u,r.2.2)
  else (r.1,5+c.bW,jQ s2 3,r.2.2)
def lh (s:aJ) (M:Mm) (p:pw):oW:=
 let r:=gg p M
 (r.1,mI r.1,if r.2.1.bW=3 then fx { s with aH:=.bF } p.eE r.2.1.block else { s with aH:=.eO r.2.1 },r.2.2)
def ip (s:aJ) (M:Mm) (l:ik):oW:=
 let r:=dW l M
 let s1:={ s with aP:=some r.2.1 }
 (r.1,if r.1.fI=3 then 12 else 11,if r.2.1.done=true then { s1 with aL:=some ⟨false,0,false⟩,aH:=.cU } else s1,r.2.2)
def gU (s:aJ) (M:Mm) (t:iG):oW:=
 let r:=gI t M
 let s1:={ s with aL:=some r.2.1 }
 (r.1,if r.1.fI=4 then 13 else 14,if r.2.1.done=true then { s1 with aH:=if s.set.length=0 then .bK else .cM ⟨s.set,s.rv,false⟩ } else s1,r.2.2)
def gn (s:aJ) (M:Mm) (c:iw):oW:=
 let r:=gm c M
 let s1:={ s with aH:=.cM r.2.1 }
 (r.1,15,if r.2.1.jG=true then fJ { s1 with aC:=9 } else if r.2.1.done=true then { s1 with aH:=.bK } else s1,r.2.2)
def ff (s:aJ) (M:Mm):oW:=
 let a:=iA M 3 0
 let s1:={ s with aB:=a.fi }
 (a,16,if s.il=true/\qd.wrap s.cf.aB<=a.fi then fJ { s1 with aC:=6 }
  else if s.il=true then { s1 with am:=true,aH:=.di ⟨s.bz.bL,s.bz.fq⟩ } else fJ { s1 with am:=true },M)
def gA (s:aJ) (M:Mm) (w:je):oW:=
 let r:=kh w M
 (r.1,17,if r.2.1.done=true then { s with aH:=.bH ⟨s.ao,qc s.ao.length (kF s.nJ)⟩ } else { s with aH:=.di r.2.1 },r.2.2)
def mF (s:aJ) (M:Mm) (w:je):oW:=
 let r:=gM w M
 (r.1,18,{ s with aH:=if r.2.1.done=true then (if 0<=s.nJ then .fb else .ey) else .bH r.2.1 },r.2.2)
def iL (s:aJ) (M:Mm) (p:fK):oW:=
 let r:=dD p M
 (r.1,hY r.1,if r.2.1.bW=3 then gi { s with au:=s.au+1,aH:=.eL r.2.1 } else { s with aH:=.eL r.2.1 },r.2.2)
def bC (s:aJ) (M:Mm):oW:=match s.aH with
 | .bF=>(aZ.zero,0,s,M)
 | .iP k=>(aZ.zero,0,sj { s with aH:=.bF } k,M)
 | .ei=>match s.b7 with
   | some e=>gN s M e
   | none=>(aZ.zero,0,s,M)
 | .bh c u=>du s M c u
 | .eO p=>lh s M p
 | .eh=>match s.aP with
   | some l=>ip s M l
   | none=>(aZ.zero,0,s,M)
 | .cU=>match s.aL with
   | some t=>gU s M t
   | none=>(aZ.zero,0,s,M)
 | .cM c=>gn s M c
 | .bK=>ff s M
 | .di w=>gA s M w
 | .bH w=>mF s M w
 | .fb=>(Do M 3 0 (qd.wrap (s.aB+1)),19,{ s with aH:=.ey },yb M 3 0 (qd.wrap (s.aB+1)))
 | .ey=>(Do M 5 0 (pE s.fY),20,gi s,yb M 5 0 (pE s.fY))
 | .eL p=>iL s M p
 | .ic=>(Do M 6 s.aj 0,24,{ s with aH:=.bF,aF:=2 },yb M 6 s.aj 0)
def aJ.mi (s:aJ) (aF:Int):Bool:=decide (s.aH.fY=0) && decide (s.aF=aF)
def fU (s:aJ):Int×aJ:=
 if s.mi 0=true then (0,{ s with aF:=1,b7:=some ⟨s.aj,0,0⟩,aH:=.ei }) else (1,s)
def ux (s:aJ) (a:Int) (u:zH):aJ:={ s with aH:=.bh ⟨a,gw s.cf a,s.rv,0,0,0,false⟩ u }
def Hm (s:aJ) (a:Int):Int×aJ:=
 if s.mi 1=true then
  if s.cf.be<=a then (0,{ s with aH:=.iP .tR })
  else if (ll s.bz a).2=true then (0,{ s with aH:=.iP (.take (ll s.bz a).1) })
  else (0,ux s a .take)
 else (1,s)
def F1 (s:aJ) (a v:Int):Int×aJ:=if s.mi 1=true then (0,{ s with aH:=.iP (.lU a v) }) else (1,s)
def L0 (s:aJ) (eE:Int):Int×aJ:=
 if s.mi 1=true then
  if eE<0\/4<=eE then (2,s)
  else if s.cf.an<=s.an.length then (0,{ s with aH:=.iP .AS })
  else (0,{ s with aH:=.eO ⟨eE,0,0,0,-1⟩ })
 else (1,s)
def LA (s:aJ) (a:Int):Int×aJ:=
 if s.mi 1=true then
  if kU s.cf a<0 then (0,{ s with aH:=.iP .Pr })
  else if (ll s.bz (s.cf.be+kU s.cf a)).2=true then (0,{ s with aH:=.iP (.dg (kU s.cf a) (ll s.bz (s.cf.be+kU s.cf a)).1) })
  else (0,ux s (s.cf.be+kU s.cf a) (.dg (kU s.cf a)))
 else (1,s)
def Dk (s:aJ) (aC:Int):Int×aJ:=
 if s.mi 1=true then
  if aC≠1/\aC≠2 then (2,s) else (0,{ s with aH:=.iP (.bS aC) })
 else (1,s)
def iX (w:Int):tA:=
 let n:=if w<=0 then 1 else if w<=1 then 2 else if w<=2 then 4 else if w<=4 then 8 else if w<=8 then 16 else if w<=16 then 32 else 64
 ⟨w.toNat,[],[],qc n (-1)⟩
def eP (c:br) (t:Int):aJ:=⟨c,t,0,0,0,none,false,[],[],[],[],iX c.bP,0,[],none,none,0,.bF⟩
end
section
open Go.Proofs Go
variable [Gl]
theorem Ca {P:Program} {r:Operand->Value} {A:AW} {k':Value->AW->Prop} {x y:Operand} {t:TypeId} {s u v':Value} {A':AW}
 (e1:r x=s) (e2:r y=u) (h:fy P A t t s u=some (v',A')) (hk:k' v' A'):i8 P (.call ⟨.builtin .append,#[x,y],#[t,t]⟩) r A k':=by
 have h1:aq P A r (.call ⟨.builtin .append,#[x,y],#[t,t]⟩)=none:=by simp [aq]
 have h2:ae P A r (.call ⟨.builtin .append,#[x,y],#[t,t]⟩)=some (v',A'):=by
  show (if t=t then fy P A t t (r x) (r y) else _)=_;rw [aA rfl,e1,e2,h]
 unfold i8;rw [h1,h2];exact hk
section
variable {P:Program} {S:AW->Prop} {K:Fr->AW->Prop} {fv:List zQ} {a:Fr} {A:AW} {d:Option Tmp} {m:Nat} {x y:Operand} {t e:TypeId} {i:TypeInfo} {z:Value} {k:IntKind} {l:List Int} {n:Nat} {yv:Int} {v:Value} {L K':List It}
theorem Fz {k':Value->AW->Prop} (hu:P.underlying t=some (.slice e)) (hi:P.info? e=some i) (hz:i.zero=some z) (ii:i.size=1) (oK:z.cells.size=1) (zj:i.bytes<=8)
 (e1:iW a x=v) (e2:iW a y=.slice (some ⟨n,0,none⟩) 1 1) (hw:A.Wf) (hS:ah A L) (hp:aE L (.h (av k v l)) K') (hn:A.bp n=some (.cells [.int k yv] true 1)) (bX:l.length<2 ^ 40)
 (hk:∀o c A',ah A' (.h (av k (.slice o (l.length+1) c) (l++[yv]))::K')->A'.Wf->A.next<=A'.next->k' (.slice o (l.length+1) c) A') :
 i8 P (.call ⟨.builtin .append,#[x,y],#[t,t]⟩) (iW a) A k':=by
 have h1:bB A (av k v l*aM K'):=by
  unfold ah at hS;rw [hp.aM] at hS;exact hS
 obtain⟨v',A',e3,h2,h3,h4⟩:=av.Jj (P:=P) (t:=t) yv n hu hi hz ii oK hn h1 bX zj hw;obtain⟨o,c,h5,_⟩:=(av.is h2).cy;have h6:v'=.slice o (l.length+1) c:=by simpa using h5
 subst h6;exact Ca e1 e2 e3 (hk o c A' h2 h3 h4)
theorem W2 (hu:P.underlying t=some (.slice e)) (hi:P.info? e=some i) (hz:i.zero=some z) (ii:i.size=1) (oK:z.cells.size=1) (zj:i.bytes<=8)
 (e1:iW a x=v) (e2:iW a y=.slice (some ⟨n,0,none⟩) 1 1) (hw:A.Wf) (hS:ah A L) (hp:aE L (.h (av k v l)) K') (hn:A.bp n=some (.cells [.int k yv] true 1)) (bX:l.length<2 ^ 40)
 (hs:∀A',ah A' K'->S A')
 (hk:∀o c A',ah A' (.h (av k (.slice o (l.length+1) c) (l++[yv]))::K')->A'.Wf->A.next<=A'.next->aY P S K fv (eK a d (.slice o (l.length+1) c)) A') :
 aY P S K (⟨d,.call ⟨.builtin .append,#[x,y],#[t,t]⟩,none,3⟩::fv) a A:=by
 unfold aY;rw [aA (by simp)];exact Fz hu hi hz ii oK zj e1 e2 hw hS hp hn bX λo c A' h1 h2 h3=>⟨hs A' h1.tail,hk o c A' h1 h2 h3⟩
theorem WJ {r:yF} (hu:P.underlying t=some (.slice e)) (hi:P.info? e=some i) (hz:i.zero=some z) (ii:i.size=1) (oK:z.cells.size=1) (zj:i.bytes<=8)
 (e1:iW a x=v) (e2:iW a y=.slice (some ⟨n,0,none⟩) 1 1) (hw:A.Wf) (hS:ah A L) (hp:aE L (.h (av k v l)) K') (hn:A.bp n=some (.cells [.int k yv] true 1)) (bX:l.length<2 ^ 40)
 (hs:∀A',ah A' K'->S A')
 (hk:∀o c A',ah A' (.h (av k (.slice o (l.length+1) c) (l++[yv]))::K')->A'.Wf->A.next<=A'.next->TW P S K r (eK a d (.slice o (l.length+1) c)) A') :
 TW P S K (.aK ⟨d,.call ⟨.builtin .append,#[x,y],#[t,t]⟩,none,3⟩ r) a A:=by
 unfold TW oY;rw [aA (by simp)];exact Fz hu hi hz ii oK zj e1 e2 hw hS hp hn bX λo c A' h1 h2 h3=>⟨hs A' h1.tail,hk o c A' h1 h2 h3⟩
theorem W3 {R:Fr->AW->Prop} (hu:P.underlying t=some (.slice e)) (hi:P.info? e=some i) (hz:i.zero=some z) (ii:i.size=1) (oK:z.cells.size=1) (zj:i.bytes<=8)
 (e1:iW a x=v) (e2:iW a y=.slice (some ⟨n,0,none⟩) 1 1) (hw:A.Wf) (hS:ah A L) (hp:aE L (.h (av k v l)) K') (hn:A.bp n=some (.cells [.int k yv] true 1)) (bX:l.length<2 ^ 40)
 (hs:∀A',ah A' K'->S A')
 (hk:∀o c A',ah A' (.h (av k (.slice o (l.length+1) c) (l++[yv]))::K')->A'.Wf->A.next<=A'.next->R (eK a d (.slice o (l.length+1) c)) A') :
 oY P S ⟨d,.call ⟨.builtin .append,#[x,y],#[t,t]⟩,none,3⟩ a A R:=by
 unfold oY;rw [aA (by simp)];exact Fz hu hi hz ii oK zj e1 e2 hw hS hp hn bX λo c A' h1 h2 h3=>⟨hs A' h1.tail,hk o c A' h1 h2 h3⟩
end
section
variable {S:AW->Prop} {K:Fr->AW->Prop} {fv:List zQ} {r:yF} {a:Fr} {A:AW} {d:Option Tmp} {x y:Operand} {l:List Int} {n:Nat} {yv:Int} {v:Value} {L K':List It}
theorem lwI (e1:iW a x=v) (e2:iW a y=.slice (some ⟨n,0,none⟩) 1 1) (hw:A.Wf) (hS:ah A L) (hp:aE L (.h (av .i64 v l)) K') (hn:A.bp n=some (.cells [.int .i64 yv] true 1)) (bX:l.length<2 ^ 40)
 (hs:∀A',ah A' K'->S A')
 (hk:∀o c A',ah A' (.h (av .i64 (.slice o (l.length+1) c) (l++[yv]))::K')->A'.Wf->A.next<=A'.next->aY qa S K fv (eK a d (.slice o (l.length+1) c)) A') :
 aY qa S K (⟨d,.call ⟨.builtin .append,#[x,y],#[24,24]⟩,none,3⟩::fv) a A:=
 W2 (P:=qa) Z4 Tryz.info3 Tryz.zero3 rfl rfl (by simp) e1 e2 hw hS hp hn bX hs hk
theorem lwU (e1:iW a x=v) (e2:iW a y=.slice (some ⟨n,0,none⟩) 1 1) (hw:A.Wf) (hS:ah A L) (hp:aE L (.h (av .u64 v l)) K') (hn:A.bp n=some (.cells [.int .u64 yv] true 1)) (bX:l.length<2 ^ 40)
 (hs:∀A',ah A' K'->S A')
 (hk:∀o c A',ah A' (.h (av .u64 (.slice o (l.length+1) c) (l++[yv]))::K')->A'.Wf->A.next<=A'.next->aY qa S K fv (eK a d (.slice o (l.length+1) c)) A') :
 aY qa S K (⟨d,.call ⟨.builtin .append,#[x,y],#[28,28]⟩,none,3⟩::fv) a A:=
 W2 (P:=qa) ZM ZT ZU rfl rfl (by simp) e1 e2 hw hS hp hn bX hs hk
theorem twI (e1:iW a x=v) (e2:iW a y=.slice (some ⟨n,0,none⟩) 1 1) (hw:A.Wf) (hS:ah A L) (hp:aE L (.h (av .i64 v l)) K') (hn:A.bp n=some (.cells [.int .i64 yv] true 1)) (bX:l.length<2 ^ 40)
 (hs:∀A',ah A' K'->S A')
 (hk:∀o c A',ah A' (.h (av .i64 (.slice o (l.length+1) c) (l++[yv]))::K')->A'.Wf->A.next<=A'.next->TW qa S K r (eK a d (.slice o (l.length+1) c)) A') :
 TW qa S K (.aK ⟨d,.call ⟨.builtin .append,#[x,y],#[24,24]⟩,none,3⟩ r) a A:=
 WJ (P:=qa) Z4 Tryz.info3 Tryz.zero3 rfl rfl (by simp) e1 e2 hw hS hp hn bX hs hk
theorem twU (e1:iW a x=v) (e2:iW a y=.slice (some ⟨n,0,none⟩) 1 1) (hw:A.Wf) (hS:ah A L) (hp:aE L (.h (av .u64 v l)) K') (hn:A.bp n=some (.cells [.int .u64 yv] true 1)) (bX:l.length<2 ^ 40)
 (hs:∀A',ah A' K'->S A')
 (hk:∀o c A',ah A' (.h (av .u64 (.slice o (l.length+1) c) (l++[yv]))::K')->A'.Wf->A.next<=A'.next->TW qa S K r (eK a d (.slice o (l.length+1) c)) A') :
 TW qa S K (.aK ⟨d,.call ⟨.builtin .append,#[x,y],#[28,28]⟩,none,3⟩ r) a A:=
 WJ (P:=qa) ZM ZT ZU rfl rfl (by simp) e1 e2 hw hS hp hn bX hs hk
theorem lhI {R:Fr->AW->Prop} (e1:iW a x=v) (e2:iW a y=.slice (some ⟨n,0,none⟩) 1 1) (hw:A.Wf) (hS:ah A L) (hp:aE L (.h (av .i64 v l)) K') (hn:A.bp n=some (.cells [.int .i64 yv] true 1)) (bX:l.length<2 ^ 40)
 (hs:∀A',ah A' K'->S A')
 (hk:∀o c A',ah A' (.h (av .i64 (.slice o (l.length+1) c) (l++[yv]))::K')->A'.Wf->A.next<=A'.next->R (eK a d (.slice o (l.length+1) c)) A') :
 oY qa S ⟨d,.call ⟨.builtin .append,#[x,y],#[24,24]⟩,none,3⟩ a A R:=
 W3 (P:=qa) Z4 Tryz.info3 Tryz.zero3 rfl rfl (by simp) e1 e2 hw hS hp hn bX hs hk
theorem lhU {R:Fr->AW->Prop} (e1:iW a x=v) (e2:iW a y=.slice (some ⟨n,0,none⟩) 1 1) (hw:A.Wf) (hS:ah A L) (hp:aE L (.h (av .u64 v l)) K') (hn:A.bp n=some (.cells [.int .u64 yv] true 1)) (bX:l.length<2 ^ 40)
 (hs:∀A',ah A' K'->S A')
 (hk:∀o c A',ah A' (.h (av .u64 (.slice o (l.length+1) c) (l++[yv]))::K')->A'.Wf->A.next<=A'.next->R (eK a d (.slice o (l.length+1) c)) A') :
 oY qa S ⟨d,.call ⟨.builtin .append,#[x,y],#[28,28]⟩,none,3⟩ a A R:=
 W3 (P:=qa) ZM ZT ZU rfl rfl (by simp) e1 e2 hw hS hp hn bX hs hk
end
theorem AW.KC {A:AW} {n:Nat} {o:dQ} (h:A.next=n):(A.alloc o).next=n+1:=by rw [AW.bd,h]
theorem AW.Su {A:AW} {n i:Nat} {o:Option dQ} (h:A.next=n):(A.set i o).next=n:=by rw [AW.rA,h]
theorem ah.Uk {A:AW} {L:List It} {o:dQ} {n:Nat} (h:ah A L) (hw:A.Wf) (hn:A.next=n):ah (A.alloc o) (.at n o::L):=by
 subst hn;exact h.alloc hw o
theorem ah.wy {A:AW} {L:List It} (k:IntKind) (h:ah A L):ah A (.h (av k (.slice none 0 0) [])::L):=av.nil h
theorem jV {ι:Type} {g:ι->List It} {A:AW} {L K:List It} (h:ah A L) (hp:aE L (.h (rO λx=>aM (g x))) K):∃x,ah A (g x++K):=by
 unfold ah at h;rw [hp.aM] at h;have h1:bB A (rO (λx=>aM (g x))*aM K):=h;rw [bB.ex] at h1;obtain⟨x,h1⟩:=h1;refine⟨x,?_⟩;unfold ah;rw [gf];exact h1
theorem iM {ι:Type} {g:ι->List It} {A:AW} {L K:List It} (x:ι) (h:ah A L) (hp:aX L (g x) K):ah A (.h (rO λx=>aM (g x))::K):=by
 unfold ah at h ⊢;rw [hp.aM] at h;show bB A (rO (λx=>aM (g x))*aM K);rw [bB.ex];exact⟨x,h⟩
end
section
abbrev St:List (Nat×Nat):=[(0,0),(1,0),(2,0),(3,0),(4,0),(5,0),(6,0),(7,0)]
abbrev Yg:List (Nat×Nat):=[(0,0),(1,2),(2,0),(3,0),(4,0),(5,0),(6,0),(7,0),(8,0),(9,0),(10,0),(11,0),(12,2),(13,0),(14,0),(15,0)]
open T7
variable [Gl]
theorem WO:(2:Int) ^ min 1 qg.bits=2:=by decide
theorem pw2:(2:Int) ^ min 2 qg.bits=4:=by decide
theorem pw3:(2:Int) ^ min 3 qg.bits=8:=by decide
theorem pw0:(2:Int) ^ min 0 qg.bits=1:=by decide
theorem Pf (c:br) (hc:cX c) (A:AW):aD qa 74 [c.v] A (λv A'=>v=.tuple #[.int .i64 c.nb,.int .i64 c.hw,.bool true]/\A=A'):=by
 refine aD.tG (V:=.tuple #[.int .i64 c.nb,.int .i64 c.hw,.bool true]) (dh.tuple (by simp)) (λhw=>?_) (by kernel_rfl);refine aN Tryz.func74 λ_=>?_;obtain⟨k0,GD⟩:=hc.k0;obtain⟨k1,JK⟩:=hc.k1;obtain⟨k2,Ni⟩:=hc.k2;obtain⟨k3,Rf⟩:=hc.k3;have kn:=hc.nb;have e:c.nb=c.c0+c.c1+c.c2+c.c3:=rfl;have e':c.hw=c.c0+c.c1*2+c.c2*4+c.c3*8:=rfl;revert hw;(repeat first|revert hc|revert R|revert K);refine W cF (J2 @br.v.eq_1 bE) ?_<;>(unhygienic intros);refine iO 5 ?_;refine W cF (DM k0 GD k1 JK k2 Ni k3 Rf @br.v.eq_1 bE) ?_<;>intros
 all_goals(
  refine⟨_,by first|(simp;done)|(simp;rfl),?_,qb _ _⟩;simp only [Value.tuple.injEq,Array.mk.injEq,List.cons.injEq,Value.int.injEq,Value.bool.injEq,true_and,and_true];rw [WO,pw2,pw3];simp (disch:=omega) only [ar];exact⟨e.symm,e'.symm,by simp;omega⟩)
theorem rV (c:br) (hc:cX c) (A:AW):aD qa 55 [c.v] A (λv A'=>v=.int .i64 0/\A=A'):=by
 refine aD.tG (V:=.int .i64 0) (by simp) (λhw=>?_) (by kernel_rfl);refine aN Tryz.func55 λ_=>?_;obtain⟨w0,w1⟩:=hc.be;obtain⟨r0,r1⟩:=hc.ao;obtain⟨k0,GD⟩:=hc.k0;obtain⟨k1,JK⟩:=hc.k1;obtain⟨k2,Ni⟩:=hc.k2;obtain⟨k3,Rf⟩:=hc.k3;obtain⟨b0,b1⟩:=hc.base;obtain⟨x0,x1⟩:=hc.reads;obtain⟨y0,y1⟩:=hc.bP;obtain⟨z0,z1⟩:=hc.an;obtain⟨u0,u1⟩:=hc.ay;obtain⟨t0,t1⟩:=hc.aB;have kn:=hc.nb;have kf:=hc.fit;have e:c.nb=c.c0+c.c1+c.c2+c.c3:=rfl;have e':c.hw=c.c0+c.c1*2+c.c2*4+c.c3*8:=rfl;have hh:=Pf c hc;have rN:c.hw<=c.be-c.base:=kf;dsimp only [br.v] at hh ⊢;refine W (J2 @hh @JV) (Us w0 w1 r0 r1 b0 b1 x0 x1 y0 y1 z0 z1 u0 u1 t0 t1 rN bE) ?_<;>intros
 all_goals exact⟨_,by first|(simp;done)|(simp;rfl),rfl,qb _ _⟩
theorem wY (c:br) (hc:cX c) (A:AW):aD qa 76 [c.v] A (λv A'=>v=.int .i64 c.nb/\A=A'):=by
 refine aD.tG (V:=.int .i64 c.nb) (by simp) (λhw=>?_) (by kernel_rfl);refine aN Tryz.func76 λ_=>?_;have hh:=Pf c hc;have Dz:=rV c hc;dsimp only [br.v] at hh Dz ⊢;refine W (J2 @hh @Dz) (J1 bE) ?_<;>intros
 all_goals exact⟨_,by first|(simp;done)|(simp;rfl),rfl,qb _ _⟩
theorem CE (c:br) (hc:cX c) (b:Int) (hb:b<2^62) (A:AW):aD qa 162 [c.v,.int .i64 b] A (λv A'=>v=.tuple #[.int .i64 (Db c b).1,.int .i64 (Db c b).2]/\A=A'):=by
 refine aD.tG (V:=.tuple #[.int .i64 (Db c b).1,.int .i64 (Db c b).2]) (dh.tuple (by simp)) (λhw=>?_) (by kernel_rfl);refine aN Tryz.func162 λ_=>?_;obtain⟨w0,w1⟩:=hc.be;obtain⟨r0,r1⟩:=hc.ao;obtain⟨k0,GD⟩:=hc.k0;obtain⟨k1,JK⟩:=hc.k1;obtain⟨k2,Ni⟩:=hc.k2;obtain⟨k3,Rf⟩:=hc.k3;obtain⟨b0,b1⟩:=hc.base;obtain⟨x0,x1⟩:=hc.reads;obtain⟨y0,y1⟩:=hc.bP;obtain⟨z0,z1⟩:=hc.an;obtain⟨u0,u1⟩:=hc.ay;obtain⟨t0,t1⟩:=hc.aB;have kn:=hc.nb;have kf:=hc.fit;have e:c.nb=c.c0+c.c1+c.c2+c.c3:=rfl;have e':c.hw=c.c0+c.c1*2+c.c2*4+c.c3*8:=rfl;have Dz:=rV c hc
 have l0:Db c b=if b<0 then (-1,-1) else if b<c.c0 then (0,c.base+b) else if b-c.c0<c.c1 then (1,c.base+c.c0+(b-c.c0)*2)
  else if b-c.c0-c.c1<c.c2 then (2,c.base+c.c0+c.c1*2+(b-c.c0-c.c1)*4) else if b-c.c0-c.c1-c.c2<c.c3 then (3,c.base+c.c0+c.c1*2+c.c2*4+(b-c.c0-c.c1-c.c2)*8) else (-1,-1):=rfl
 generalize Db c b=q at *;dsimp only [br.v] at Dz ⊢;revert hw;(repeat first|revert hc|revert R|revert K);refine W (J2 (od St) @Dz) (J1 bE) (J2 ?_ ?_)<;>(unhygienic intros);exact⟨_,by simp;rfl,by rw [l0,aA (by assumption)],qb _ _⟩;refine iO 5 ?_;refine W (J1 (od St)) (J9 k0 GD k1 JK k2 Ni k3 Rf bE) (J5 ?_ ?_ ?_ ?_ ?_)<;>intros
 all_goals(
  refine⟨_,by first|(simp;done)|(simp;rfl),?_,qb _ _⟩;rw [l0];simp (disch:=omega) only [aA,aw]
  try rw [WO]
  try rw [pw2]
  try rw [pw3]
  try simp (disch:=omega) only [ar])
theorem u4 (c:br) (hc:cX c) (b:Int) (hb:b<2^62) (A:AW):aD qa 112 [c.v,.int .i64 b] A (λv A'=>v=.int .i64 (dU c b)/\A=A'):=by
 refine aD.tG (V:=.int .i64 (dU c b)) (by simp) (λhw=>?_) (by kernel_rfl);refine aN Tryz.func112 λ_=>?_;have Dz:=CE c hc b hb;dsimp only [br.v] at Dz ⊢;refine W (J1 @Dz) (J1 bE) ?_<;>intros;exact⟨_,by first|(simp;done)|(simp;rfl),rfl,qb _ _⟩
theorem E8 (c:br) (hc:cX c) (b:Int) (hb:b<2^62) (A:AW):aD qa 245 [c.v,.int .i64 b] A (λv A'=>v=.int .i64 (iE c b)/\A=A'):=by
 refine aD.tG (V:=.int .i64 (iE c b)) (by simp) (λhw=>?_) (by kernel_rfl);refine aN Tryz.func245 λ_=>?_;have Dz:=CE c hc b hb;dsimp only [br.v] at Dz ⊢;refine W (J1 @Dz) (J1 bE) ?_<;>intros;exact⟨_,by first|(simp;done)|(simp;rfl),rfl,qb _ _⟩
theorem xn (c:br) (hc:cX c) (a:Int) (A:AW):aD qa 175 [c.v,.int .i64 a] A (λv A'=>v=.int .i64 (gw c a)/\A=A'):=by
 refine aD.tG (V:=.int .i64 (gw c a)) (by simp) (λhw=>?_) (by kernel_rfl);refine aN Tryz.func175 λ_=>?_;obtain⟨w0,w1⟩:=hc.be;obtain⟨r0,r1⟩:=hc.ao;obtain⟨k0,GD⟩:=hc.k0;obtain⟨k1,JK⟩:=hc.k1;obtain⟨k2,Ni⟩:=hc.k2;obtain⟨k3,Rf⟩:=hc.k3;obtain⟨b0,b1⟩:=hc.base;obtain⟨x0,x1⟩:=hc.reads;obtain⟨y0,y1⟩:=hc.bP;obtain⟨z0,z1⟩:=hc.an;obtain⟨u0,u1⟩:=hc.ay;obtain⟨t0,t1⟩:=hc.aB;have kn:=hc.nb;have kf:=hc.fit;have e:c.nb=c.c0+c.c1+c.c2+c.c3:=rfl;have e':c.hw=c.c0+c.c1*2+c.c2*4+c.c3*8:=rfl;have hh:=rV c hc;have Dz:=wY c hc;dsimp only [br.v] at hh Dz ⊢;have gT:¬c.ao=0:=by omega
 refine W (J3 (od Yg) @hh @Dz) (J2 gT bE) (J3 ?_ ?_ ?_)<;>intros
 all_goals(
  refine⟨_,by first|(simp;done)|(simp;rfl),?_,qb _ _⟩;unfold gw
  first|(rw [aw (by simp_all;omega)];done)|(rw [aw (by omega)];done)|(rw [aA (by omega)];done))
theorem AD {c:br} (hc:cX c) (b:Int) (h:0<=b/\b<c.nb):(0<=dU c b/\dU c b<=3)/\0<=iE c b/\iE c b+2 ^ (dU c b).toNat<=c.be:=by
 obtain⟨w0,w1⟩:=hc.be;obtain⟨r0,r1⟩:=hc.ao;obtain⟨k0,GD⟩:=hc.k0;obtain⟨k1,JK⟩:=hc.k1;obtain⟨k2,Ni⟩:=hc.k2;obtain⟨k3,Rf⟩:=hc.k3;obtain⟨b0,b1⟩:=hc.base;obtain⟨x0,x1⟩:=hc.reads;obtain⟨y0,y1⟩:=hc.bP;obtain⟨z0,z1⟩:=hc.an;obtain⟨u0,u1⟩:=hc.ay;obtain⟨t0,t1⟩:=hc.aB;have kn:=hc.nb;have kf:=hc.fit;have e:c.nb=c.c0+c.c1+c.c2+c.c3:=rfl;have e':c.hw=c.c0+c.c1*2+c.c2*4+c.c3*8:=rfl;have rN:c.hw<=c.be-c.base:=kf;unfold dU iE Db;rw [aw (by omega)];split;simp;omega;split;simp;omega;split;simp;omega;split;simp;omega;omega
end
section
open T7
variable [Gl]
theorem NR {c:br} {a:Int} (h:∀b:Nat,(b:Int)<c.nb->iE c b≠a):kU c a = -1:=by
 unfold kU;have:(qA c.nb.toNat).find? (λb:Nat=>iE c (b:Int) == a)=none:=by
  rw [List.find?_eq_none];intro x hx;have:=qy.1 hx
  simpa using h x (by omega)
 rw [this]
theorem NQ {c:br} {a:Int} {b:Nat} (hb:(b:Int)<c.nb) (h:iE c b=a) (h':∀j:Nat,j<b->iE c j≠a):kU c a=b:=by
 unfold kU;have:(qA c.nb.toNat).find? (λb:Nat=>iE c (b:Int) == a)=some b:=by
  rw [List.find?_eq_some_iff_append];refine⟨by simpa using h,qA b,(qA (c.nb.toNat-b-1)).map (·+ (b+1)),?_,λx hx=>?_⟩;have:c.nb.toNat=b+(1+(c.nb.toNat-b-1)):=by omega
  rw [this,List.range_add,List.range_add];simp;intro q _;omega;have:=qy.1 hx
  simpa using h' x this
 rw [this]
theorem QJ (c:br) (hc:cX c) (a:Int) (A:AW):aD qa 219 [c.v,.int .u64 a] A (λv A'=>v=.int .i64 (kU c a)/\A=A'):=by
 refine aD.tG (V:=.int .i64 (kU c a)) (by simp) (λhw=>?_) (by kernel_rfl);refine aN Tryz.func219 λ_=>?_;obtain⟨w0,w1⟩:=hc.be;obtain⟨r0,r1⟩:=hc.ao;obtain⟨k0,GD⟩:=hc.k0;obtain⟨k1,JK⟩:=hc.k1;obtain⟨k2,Ni⟩:=hc.k2;obtain⟨k3,Rf⟩:=hc.k3;obtain⟨b0,b1⟩:=hc.base;obtain⟨x0,x1⟩:=hc.reads;obtain⟨y0,y1⟩:=hc.bP;obtain⟨z0,z1⟩:=hc.an;obtain⟨u0,u1⟩:=hc.ay;obtain⟨t0,t1⟩:=hc.aB;have kn:=hc.nb;have kf:=hc.fit;have e:c.nb=c.c0+c.c1+c.c2+c.c3:=rfl;have e':c.hw=c.c0+c.c1*2+c.c2*4+c.c3*8:=rfl;have hh:=wY c hc;have Dz:=λb hb=>E8 c hc b hb;have ES:0<=c.nb:=by omega
 obtain⟨n,hn⟩:∃n:Nat,c.nb=n:=⟨c.nb.toNat,by omega⟩;have Pb:n<=64:=by omega
 rw [hn] at hh;dsimp only [br.v] at hh Dz ⊢;revert hw;(repeat first|revert hc|revert R|revert K);refine W (J1 @hh) (J1 bE) ?_<;>(unhygienic intros);refine ef (λk fr A'=>A'=A.alloc (.cells c.cells true 1)/\∃i:Nat,k=n-i/\i<=n/\fr 1=.int .u64 a/\fr 2=.pointer (some ⟨A.next,0,none⟩)/\fr 7=.int .i64 n/\fr 8=.int .i64 i/\∀j:Nat,j<i->iE c j≠a) n ?_ ?_;refine⟨rfl,0,by simp,by simp,rfl,rfl,rfl,rfl,by simp⟩;rintro k fr A' ⟨rfl,i,rfl,hi,h1,h2,h7,h8,hj⟩;dsimp only [br.cells];by_cases cD:i<n
 . have iC:(i:Int)<n:=(by omega);have gS:=By (i:=i);have hf:=AD hc i (by omega);have hp:(0:Int)<2 ^ (dU c i).toNat:=Int.pow_pos (by omega);have Yz:qd.wrap (iE c i)=iE c i:=ax (by omega) (by omega);refine ba ?_;by_cases hx:iE c i=a
   . repeat' (first|(refine kY λR hR=>?_;simp [ar,ax,h1,h2,h7,h8,cD,iC,gS,Yz,hx,AW.ab,aG];try simp (disch:=omega) only [aA,aw,ar,ax])|(refine hR _ _ ?_;clear hR R)|(refine hK _ _ ?_;clear hK K)|refine nx ?_|refine wn λK hK=>?_|simp only [wS]|(refine bO (Dz _ (by omega) _) ?_;rintro _ _ ⟨rfl,rfl⟩ _ _)|(refine bO (hh _) ?_;rintro _ _ ⟨rfl,rfl⟩ _ _)|(show c8 _ _ _ _ _ _;refine nx ?_)|(refine wc rfl (λhc=>?_) (λhc=>?_)<;>(try simp at hc)<;>(try omega))|(refine ib (λhc=>?_) (λhc=>?_)<;>(try omega)<;>(try simp (disch:=omega) only [aA,aw])))
     refine⟨_,by first|(simp;done)|(simp;rfl),by rw [NQ (by omega) hx hj],qb _ _⟩
   . repeat' (first|(refine kY λR hR=>?_;simp [ar,ax,h1,h2,h7,h8,cD,iC,gS,Yz,hx,AW.ab,aG];try simp (disch:=omega) only [aA,aw,ar,ax])|(refine hR _ _ ?_;clear hR R)|(refine hK _ _ ?_;clear hK K)|refine nx ?_|refine wn λK hK=>?_|simp only [wS]|(refine bO (Dz _ (by omega) _) ?_;rintro _ _ ⟨rfl,rfl⟩ _ _)|(refine bO (hh _) ?_;rintro _ _ ⟨rfl,rfl⟩ _ _)|(show c8 _ _ _ _ _ _;refine nx ?_)|(refine wc rfl (λhc=>?_) (λhc=>?_)<;>(try simp at hc)<;>(try omega))|(refine ib (λhc=>?_) (λhc=>?_)<;>(try omega)<;>(try simp (disch:=omega) only [aA,aw])))
     refine⟨n-(i+1),by omega,rfl,i+1,rfl,by omega,by simp [h1],by simp [h2],by simp [h7],by simp,λj yn=>?_⟩;by_cases e:j=i;subst e;exact hx;exact hj j (by omega)
 have iC:¬(i:Int)<n:=by omega
 refine ba ?_;refine W (J1 @hh) (J7 h1 h2 h7 h8 cD iC bE) ?_<;>intros;refine⟨_,by first|(simp;done)|(simp;rfl),by rw [NR λb hb=>hj b (by omega)],qb _ _⟩
end
section
open T7
variable [Gl]
theorem KH (n:Int) (A:AW) (hn:0<=n/\n<=32):aD qa 212 [.int .i64 n] A (λv A'=>v=.pointer (some ⟨A.next,0,none⟩)/\A'=A.alloc (wg n.toNat (.slice none 0 0))):=by
 refine aN Tryz.func212 λ_=>?_;obtain⟨k,rfl⟩:∃k:Nat,n=k:=⟨n.toNat,by omega⟩;have e1:min (k:Int) 32=k:=by omega
 have e2:max 0 (k:Int)=k:=by omega
 have e3:(if 0<k then (k:Int) else 0)=k:=by split<;>omega
 refine W cF (J3 e1 e2 @wg.eq_1) ?_<;>intros;refine⟨_,rfl,rfl,?_⟩;simp [e1,e2,e3,wg]
theorem N2 (b eA:Nat) (va vv vi:Value) (cL:List Int) (hl:cL.length<=64) :
 bn qa 243 [.pointer (some ⟨b,0,none⟩)] [.at b (lD eA va vv vi),.h (av .i64 vi cL)] (λ_=>True)
  (λ_=>[.at b (lD eA (.slice none 0 0) (.slice none 0 0) vi),.h (av .i64 vi (qc cL.length (-1)))]):=by
 intro A F hw hS;refine aN Tryz.func243 λ_=>?_;dsimp only [aa,af] at hS;have hg:=hS.g 0 rfl;obtain⟨oi,ci,rfl,_⟩:=(ah.tE hS (.s .z)).cy;dsimp only [lD] at hg;revert hS hw;refine W cF (J2 hg bE) ?_<;>(unhygienic intros)
 refine ef (λk fr A'=>A'.Wf/\∃i:Nat,k=cL.length-i/\i<=cL.length/\fr 0=.pointer (some ⟨b,0,none⟩)/\fr 15=.int .i64 cL.length/\fr 16=.int .i64 i/\
  ah A' (.at b (lD eA (.slice none 0 0) (.slice none 0 0) (.slice oi cL.length ci))::.h (av .i64 (.slice oi cL.length ci) (qc i (-1)++cL.drop i))::[.h F])) cL.length ?_ ?_
 . refine⟨?_,0,by simp,by simp,rfl,by simp,by simp,?_⟩
   . repeat' (first|assumption|apply AW.Wf.alloc|apply AW.Wf.set|apply ah.ltR hS hw .z|exact Nat.le_refl _)
   simp only [List.replicate_zero,af,Za];refine ah.bS (ah.gy (ah.gy hS .z) .z) (.s .z (.s .z (.s .z .z)))
 rintro k fr A' ⟨kI,i,rfl,hi,h0,h15,FW,rQ⟩;have Pd:=rQ.g 0 rfl;dsimp only [lD] at Pd;refine ba ?_;by_cases cD:i<cL.length;have iC:(i:Int)<cL.length:=by omega
 have gS:=By (i:=i);have bX:(qc i (-1:Int)++cL.drop i).length=cL.length:=by simp;omega
 obtain⟨bi,IB,ci',MI,hv,xS,bV,j5,iY⟩:=ah.OI rQ (.s .z) (j:=i) (by omega);rw [bX] at hv xS;injection hv with Rg SS YE;subst Rg;subst YE;have VM:=iY.g 0 rfl;have NB:IB+i<MI.length:=by omega
 refine W cF (JD h0 h15 FW Pd VM cD iC gS bV NB bE) ?_<;>intros;refine⟨cL.length-(i+1),by omega,?_,i+1,rfl,by omega,by simp [h0],by simp [h15],by simp,?_⟩;exact kI.set _ (kI.lt VM);have h9:=j5 (-1) _ _ (ah.gy iY .z);have e9:(qc i (-1:Int)++cL.drop i).set i (-1)=qc (i+1) (-1)++cL.drop (i+1):=by
  rw [List.set_append_right _ _ (by simp)];simp only [Z9,Nat.sub_self];rw [List.drop_eq_getElem_cons cD,List.set_cons_zero,List.replicate_succ',List.append_assoc];rfl
 rw [e9] at h9;exact ah.bS h9 (.s (.s .z) (.s .z (.s .z .z)));have IV:i=cL.length:=by omega
 subst IV;refine W cF (J5 h0 h15 FW Pd bE) ?_<;>intros;refine⟨_,rfl,trivial,?_⟩;have e9:qc cL.length (-1:Int)++cL.drop cL.length=qc cL.length (-1):=by simp
 rw [e9] at rQ;exact ah.bS rQ (.s .z (.s .z (.s .z .z)))
theorem av.make0 {A:AW} {F:HP} (n:Nat) (h:bB A F) (hw:A.Wf):bB (A.alloc (.cells (fB [.int .i64 0] n) true 1)) (av .i64 (.slice (some ⟨A.next,0,none⟩) n n) (qc n 0)*F):=by
 have bX:(fB [qp .i64 0] n).length=n:=by simp [jE]
 have hcs:(qc n (0:Int)).map (qp .i64)=fB [qp .i64 0] n:=by
  clear bX
  induction n with
  | zero=>rfl
  | succ n ih=>rw [List.replicate_succ,List.map_cons,ih];rfl
 refine av.mk (by simp) (by simp) (by simp [bX]) ?_ (h.alloc hw _);rw [hcs,Za,List.take_of_length_le (by simp [bX])]
def SM (w:Nat):Nat:=if w<=0 then 1 else if w<=1 then 2 else if w<=2 then 4 else if w<=4 then 8 else if w<=8 then 16 else if w<=16 then 32 else 64
theorem M4 (w:Nat):iX w=⟨w,[],[],qc (SM w) (-1)⟩:=by
 have h:∀k:Nat,((w:Int)<=k)=(w<=k):=λk=>propext (by omega);have e:(if (w:Int)<=0 then 1 else if (w:Int)<=1 then 2 else if (w:Int)<=2 then 4 else if (w:Int)<=4 then 8 else if (w:Int)<=8 then 16 else if (w:Int)<=16 then 32 else 64)=SM w:=by
  unfold SM
  repeat' split
  all_goals(first|rfl|omega)
 unfold iX;rw [e];rfl
theorem Vr {p w:Nat} (hw:w<=32) (h:p=1\/p=2\/p=4\/p=8\/p=16\/p=32\/p=64) (h1:p=1\/p<4*w) (h2:2*w<=p):p=SM w:=by
 unfold SM
 repeat' split
 all_goals omega
theorem KJ (w:Nat) (SR:w<=32) (A:AW) (L:List It) (hw:A.Wf) (hS:ah A L) :
 aD qa 213 [.int .i64 w] A (λv A'=>∃b,v=.pointer (some ⟨b,0,none⟩)/\ah A' (.h (rf b (iX w))::L)):=by
 refine aN Tryz.func213 λ_=>?_;have e1:min (w:Int) 32=w:=by omega
 have e2:max 0 (w:Int)=w:=by omega
 have e3:(if 0<w then (w:Int) else 0)=w:=by split<;>omega
 revert hS hw;refine W cF (J3 e1 e2 e3) ?_<;>(unhygienic intros)
 refine ef (λk fr A'=>A'=A.alloc (lD w (.slice none 0 0) (.slice none 0 0) (.slice none 0 0))/\∃p:Nat,k=64-p/\fr 3=.pointer (some ⟨A.next,0,none⟩)/\fr 4=.int .i64 p/\
  (p=1\/p=2\/p=4\/p=8\/p=16\/p=32\/p=64)/\(p=1\/p<4*w)) 63 ?_ ?_
 refine⟨?_,1,by simp,by simp,by simp,by simp,by simp⟩;simp [e1,e2,e3,lD];rintro k fr A' ⟨rfl,p,rfl,h3,h4,hp,GJ⟩;have Bu:(A.alloc (lD w (.slice none 0 0) (.slice none 0 0) (.slice none 0 0))).bp A.next=some (.cells [.int .i64 w,.slice none 0 0,.slice none 0 0,.slice none 0 0] true 1):=by simp [lD]
 have W6:=hw.alloc (lD w (.slice none 0 0) (.slice none 0 0) (.slice none 0 0));have hSl:=hS.alloc hw (lD w (.slice none 0 0) (.slice none 0 0) (.slice none 0 0));generalize A.alloc (lD w (.slice none 0 0) (.slice none 0 0) (.slice none 0 0))=A1 at *;have gS:qg.wrap ((p:Int)*2)=((p*2:Nat):Int):=by rw [ar (by omega) (by omega)];omega
 refine ba ?_;by_cases cD:p<2*w;have iC:(p:Int)<2*w:=by omega
 refine W cF (J6 h3 h4 Bu iC gS bE) ?_<;>intros;refine⟨64-p*2,by omega,rfl,p*2,rfl,by simp [h3],by simp,by omega,by omega⟩;have iC:¬(p:Int)<2*w:=by omega
 have VE:=Vr SR hp GJ (by omega);have gT:(A.next=A1.next)=False:=eq_false (by have:=W6.lt Bu;omega);have kZ:ah (A1.alloc (.cells (fB [.int .i64 0] p) true 1)) (.h (av .i64 (.slice (some ⟨A1.next,0,none⟩) p p) (qc p 0))::.at A.next (lD w (.slice none 0 0) (.slice none 0 0) (.slice none 0 0))::L):=av.make0 p hSl W6;have hS:=kZ;have hw:=W6.alloc (.cells (fB [.int .i64 0] p) true 1);revert hS hw;(repeat first|clear hS|clear hw|revert hc|revert R|revert K);refine W cF (J6 h3 h4 Bu iC gT bE) ?_<;>(unhygienic intros);refine bn.ft (N2 A.next w (.slice none 0 0) (.slice none 0 0) (.slice (some ⟨A1.next,0,none⟩) p p) (qc p 0) (by simp;omega)) (hw.set _ (by simp;have:=W6.lt Bu;omega)) (ah.gy hS (.s .z)) (.s .z (.s .z .z)) ?_;rintro _ A3 _ hS hw _;simp only [Z9] at hS;revert hS hw;(repeat first|clear hS|clear hw|revert hc|revert R|revert K);refine W cF (J2 h3 bE) ?_<;>(unhygienic intros)
 refine⟨_,by first|(simp;done)|(simp;rfl),A.next,rfl,?_⟩;rw [M4,<-VE];have h1:ah A3 (.h (av .i64 (.slice none 0 0) [])::.h (av .u64 (.slice none 0 0) [])::_):=av.nil (k:=.i64) (av.nil (k:=.u64) hS);exact rf.dP (s:=⟨w,[],[],qc p (-1)⟩) (va:=.slice none 0 0) (vv:=.slice none 0 0) (vi:=.slice (some ⟨A1.next,0,none⟩) p p) h1 (.s (.s (.s .z)) (.s .z (.s .z (.s .z .z))))
end
section
abbrev Aq:List (Nat×Nat):=[(0,0),(1,0),(2,0),(3,0),(4,0),(5,0),(6,0),(7,0),(8,0),(9,0),(10,0),(11,0),(12,0),(13,3)]
abbrev Ap:List (Nat×Nat):=[(0,0),(1,0),(2,0),(3,0),(4,0),(5,0),(6,0),(7,0),(8,0),(9,0),(10,0)]
abbrev Ao:List (Nat×Nat):=[(0,0),(1,0),(2,0),(3,0),(4,0),(5,0),(6,0),(7,0),(8,0),(9,0),(10,0),(11,3)]
open T7
variable [Gl]
theorem CD (b:Nat) (s:tA) (a v:Int) (mv:oX s) (ha:0<=a) (AP:s.eA<=32) (Pc:s.index.length<=64) :
 bn qa 211 [.pointer (some ⟨b,0,none⟩),.int .i64 a,.int .u64 v] [.h (rf b s)] (λu=>u=.bool (fM s a v).1) (λ_=>[.h (rf b (fM s a v).2)]):=by
 intro A F hw dA;refine aN Tryz.func211 λ_=>?_;obtain⟨va,vv,vi,hS⟩:=rf.open dA .z
 try dsimp only [aa,af] at hS
 have Xs:=ah.tE hS (.s .z);have Xq:=ah.tE hS (.s (.s .z));have Xr:=ah.tE hS (.s (.s (.s .z)));have Bu:=hS.g 0 rfl;obtain⟨p,hp,pW,mO⟩:=Cx b va vv vi s a A mv ha AP Pc Bu Xs Xr;have bX:s.bL.length<=32:=Nat.le_trans mv.eA AP;have hlv:=mv.Nf;have hg:=Bu;dsimp only [lD] at hg;obtain⟨oa,ca,rfl,_⟩:=Xs.cy;obtain⟨ov,cv,rfl,_⟩:=Xq.cy;obtain⟨bi,IB,ci,MI,rfl,xS,bV,j5,iY⟩:=ah.OI hS (.s (.s (.s .z))) hp;have VM:=iY.g 0 rfl;have ha':¬a<0:=by omega
 have VD:(p:Int)<s.index.length:=by omega
 have hixp:s.index.getD p 0=ix s.index p:=by
  unfold ix;rw [ql,ql,qk hp];rfl
 rw [hixp] at bV;rcases pW with ⟨e,Qz,YY⟩|⟨Qz,Lj,ud⟩;rw [YY] at bV;have cD:e<s.fq.length:=by rw [mv.Nf];exact(uZ Qz).1
 have tg:fM s a v=(true,{ s with fq:=s.fq.set e v }):=by simp [fM,Qz]
 obtain⟨bv,Ve,cv',X2,hv,hbv,SV,hsetv,kZ⟩:=ah.OI iY (.s (.s (.s .z))) cD;injection hv with Rg SS YE;subst Rg;subst YE;have FV:=kZ.g 0 rfl;refine W (J4 (od Aq) (od Ap) (od Ao) @mO) (DM hg ha' VM FV bV SV cD hp VD bE) ?_<;>intros;refine⟨_,by first|rfl|(simp;rfl),by simp [tg],?_⟩;rw [tg];have h1:=hsetv v _ _ (ah.gy kZ .z);have h2:=ah.bS h1 (G:=.at bi (.cells MI true 1)::.h (av .u64 (.slice (some ⟨bv,Ve,none⟩) s.fq.length cv) (s.fq.set e v))::.at b (lD s.eA (.slice oa s.bL.length ca) (.slice (some ⟨bv,Ve,none⟩) s.fq.length cv) (.slice (some ⟨bi,IB,none⟩) s.index.length ci))::.h (av .i64 (.slice oa s.bL.length ca) s.bL)::[.h F]) (.s (.s .z) (.s .z (.s .z (.s .z (.s .z .z)))));have h3:=j5 (s.index.getD p 0) _ _ (by
  have e1:MI.set (IB+p) (.int .i64 (s.index.getD p 0))=MI:=by
   apply kab;intro q;by_cases eq:IB+p=q;subst eq;rw [Zd (by omega),hixp,bV,YY];rw [Zo eq]
  rw [e1];exact h2)
 have e2:s.index.set p (s.index.getD p 0)=s.index:=by
  apply kab;intro q;by_cases eq:p=q;subst eq;rw [Zd hp,ql,qk hp];rfl;rw [Zo eq]
 rw [e2] at h3
 exact rf.dP (s:={ s with fq:=s.fq.set e v }) (va:=.slice oa s.bL.length ca) (vv:=.slice (some ⟨bv,Ve,none⟩) s.fq.length cv) (vi:=.slice (some ⟨bi,IB,none⟩) s.index.length ci)
  h3 (.s (.s (.s .z)) (.s (.s (.s .z)) (.s (.s .z) (.s .z .z))))
 have Xe:¬0<=ix s.index p:=by omega
 by_cases hfull:s.bL.length=s.eA;have tg:fM s a v=(false,s):=by simp [fM,Qz,hfull]
 have h3:(s.bL.length:Int)=s.eA:=by omega
 refine W (J4 (od Aq) (od Ap) (od Ao) @mO) (J9 hg ha' VM bV hp VD h3 Xe @AW.ab) ?_<;>intros;refine⟨_,rfl,by simp [tg],?_⟩;rw [tg];exact dA;have tg:fM s a v=(true,{ s with bL:=s.bL++[a],fq:=s.fq++[v],index:=s.index.set p s.bL.length }):=by
  simp [fM,Qz,hfull,ud]
 have h3:¬(s.bL.length:Int)=s.eA:=by omega
 have GK:(bi=b)=False:=eq_false (λe=>by
  have:=iY.eJ hw;dsimp only [aV,bq,bQ,eQ] at this;have h5:=this.2.2.1.1.1;rw [h5] at e;exact e.elim)
 revert hS hw;(repeat first|clear hS|clear hw|revert hc|revert R|revert K);refine W (J4 (od Aq) (od Ap) (od Ao) @mO) (DM hg ha' VM bV hp VD h3 Xe GK bE) ?_<;>(unhygienic intros);have hS:=j5 s.bL.length _ _ (ah.gy iY .z);have hw:=hw.set (some (.cells (MI.set (IB+p) (.int .i64 s.bL.length)) true 1)) (hw.lt VM);generalize A.set bi (some (.cells (MI.set (IB+p) (.int .i64 s.bL.length)) true 1))=A1 at *;have hq:=hqx8 hS hw
 repeat' (first|(with_reducible apply twI;(·first|(simp;done)|(simp;rfl));(·first|(simp;done)|(simp;rfl));(·exact wA);(·exact sA);(·first|exact pA|exact kA);(·first|(simp;done)|(simp;rfl)|(simp [hq];done)|(simp [hq];rfl));(·first|omega|(simp;omega));(·exact λA' AR=>(by have h9:=ah.NM AR<;>simp only [aV,lD] at h9<;>simp only [h9]));rintro _ _ _ hS hw _;(try dsimp only [AW.bd] at hS);have hq:=fE hS hw)|(with_reducible apply twU;(·first|(simp;done)|(simp;rfl));(·first|(simp;done)|(simp;rfl));(·exact wA);(·exact sA);(·first|exact pA|exact kA);(·first|(simp;done)|(simp;rfl)|(simp [hq];done)|(simp [hq];rfl));(·first|omega|(simp;omega));(·exact λA' AR=>(by have h9:=ah.NM AR<;>simp only [aV,lD] at h9<;>simp only [h9]));rintro _ _ _ hS hw _;(try dsimp only [AW.bd] at hS);have hq:=fE hS hw)|(refine Ma (λR hR=>?_) (λR hR=>?_)<;>(first|(with_reducible apply lhI;(·first|(simp;done)|(simp;rfl));(·first|(simp;done)|(simp;rfl));(·exact wA);(·exact sA);(·first|exact pA|exact kA);(·first|(simp;done)|(simp;rfl)|(simp [hq];done)|(simp [hq];rfl));(·first|omega|(simp;omega));(·exact λA' AR=>(by have h9:=ah.NM AR<;>simp only [aV,lD] at h9<;>simp only [h9]));rintro _ _ _ hS hw _;(try dsimp only [AW.bd] at hS);have hq:=fE hS hw)|(with_reducible apply lhU;(·first|(simp;done)|(simp;rfl));(·first|(simp;done)|(simp;rfl));(·exact wA);(·exact sA);(·first|exact pA|exact kA);(·first|(simp;done)|(simp;rfl)|(simp [hq];done)|(simp [hq];rfl));(·first|omega|(simp;omega));(·exact λA' AR=>(by have h9:=ah.NM AR<;>simp only [aV,lD] at h9<;>simp only [h9]));rintro _ _ _ hS hw _;(try dsimp only [AW.bd] at hS);have hq:=fE hS hw)|(simp [ar,ax,hq,hg,AW.ab,aG];try simp (disch:=omega) only [aA,aw,ar,ax])))|(refine kY λR hR=>?_;simp [ar,ax,hq,hg,AW.ab,aG];try simp (disch:=omega) only [aA,aw,ar,ax])|(refine hR _ _ ?_;clear hR R)|(refine hK _ _ ?_;clear hK K)|refine nx ?_|(refine PK λR hR=>?_;simp [ar,ax,hq,hg,AW.ab,aG];try simp (disch:=omega) only [aA,aw,ar,ax])|(refine Ma (λR hR=>?_) (λR hR=>?_)<;>(simp [ar,ax,hq,hg,AW.ab,aG];try simp (disch:=omega) only [aA,aw,ar,ax]))|refine PI ?_|refine wn λK hK=>?_|simp only [wS,Aq,Ap,Ao]|simp only [bG,tK,lG,Option.map_none,Option.map_some,List.getElem?_toArray,List.getElem?_cons_zero,List.getElem?_cons_succ,List.getD_cons_zero,List.getD_cons_succ,Option.bind_some]|refine wl qj Aq (by decide +kernel) λK hK=>?_|refine wl qj Ap (by decide +kernel) λK hK=>?_|refine wl qj Ao (by decide +kernel) λK hK=>?_|(refine ⟨λA' AR=>by simp [AW.ab,AR],?_⟩)|(refine wt (λA'=>A'.bp b=some (.cells [.int .i64 s.eA,.slice oa s.bL.length ca,.slice ov s.fq.length cv,.slice (some ⟨bi,IB,none⟩) s.index.length ci] true 1)) qj [0,0,0,0,0,1,0,2,3,0,0,0,1,0,2,3,0,0,4,0,0,4] (.aK 0 (.aK 1 (.aK 2 (.aK 3 (.aK 4 (.aK 5 (.aK 6 (.aK 9 (.aK 10 (.aK 11 (.aK 12 (.aK 13 (.tC 7 (.tC 8 (.aK 14 (.aK 15 (.aK 16 (.aK 17 (.aK 18 (.aK 19 (.aK 20 (.aK 21 .nil)))))))) 14 (.aK 8 (.aK 15 (.aK 16 (.aK 17 (.aK 18 (.aK 19 (.aK 20 (.aK 21 .nil))))))))) 14 (.aK 7 (.aK 8 (.aK 15 (.aK 16 (.aK 17 (.aK 18 (.aK 19 (.aK 20 (.aK 21 .nil)))))))))))))))))))))) (by decide +kernel) λK hK=>?_)|(show c8 _ _ _ _ _ _;refine nx ?_)|(refine wc rfl (λhc=>?_) (λhc=>?_)<;>(try simp at hc)<;>(try omega))|(refine ib (λhc=>?_) (λhc=>?_)<;>(try omega)<;>(try simp (disch:=omega) only [aA,aw])))
 all_goals(
  refine⟨_,by first|(simp;done)|(simp;rfl),by simp [tg],?_⟩;rw [tg];apply ah.bS;apply rf.dP (s:={ s with bL:=s.bL++[a],fq:=s.fq++[v],index:=s.index.set p s.bL.length })
  (·exact sA)
  (·first|exact pA|exact kA)
  first|exact pA|exact kA)
end
section
abbrev Sq:List (Nat×Nat):=[(0,0),(1,0),(2,0),(3,0),(4,0),(5,0),(6,0),(7,0),(8,0),(9,2),(10,0),(11,0),(12,3),(13,0),(14,0),(15,0),(16,3)]
abbrev Sp:List (Nat×Nat):=[(0,0),(1,0),(2,0),(3,0),(4,0),(5,0),(6,0),(7,0),(8,2),(9,0),(10,0),(11,0),(12,0),(13,0)]
abbrev So:List (Nat×Nat):=[(0,0),(1,0),(2,0),(3,0),(4,0),(5,0),(6,0),(7,0),(8,0),(9,0),(10,3),(11,0),(12,0),(13,0),(14,3)]
abbrev KA:List (Nat×Nat):=[(0,0),(1,0),(2,0),(3,0),(4,2),(5,0),(6,0),(7,0),(8,0),(9,0),(10,0),(12,0),(13,0),(14,0),(15,0),(11,2),(16,0),(17,0)]
abbrev Kz:List (Nat×Nat):=[(0,0),(1,0),(2,0),(3,0),(4,0),(5,0),(6,0),(7,0),(8,0),(9,0),(10,0),(11,3),(12,0),(13,0),(14,3)]
open T0
variable [Gl]
theorem Ax (c k:Int) (A:AW):aD qa 111 [.int .i64 c,.int .i64 k] A (λv A'=>v=.pointer (some ⟨A.next,0,none⟩)/\A'=A.alloc (ir ⟨c,k,0,0⟩)):=by
 refine aN Tryz.func111 λ_=>?_;refine W cF cF ?_<;>intros;exact⟨_,rfl,rfl,rfl⟩
theorem yg (b:Nat) (s:fK) (A:AW) (hg:A.bp b=some (ir s)):fh 114 [.pointer (some ⟨b,0,none⟩)] A (.bool (decide (s.bW=3))):=by
 refine aN Tryz.func114 λ_=>?_;dsimp only [ir] at hg;refine W cF (J2 hg @AW.ab) ?_<;>intros;exact⟨_,rfl,rfl,rfl⟩
def OG (s:fK):Int:=qd.wrap (qg.wrap (jn s.head+1))
theorem MN (s:fK) (M:Mm) :
 (s.bW=0/\dD s M=(iA M 7 s.eE,{ s with head:=(iA M 7 s.eE).fi,bW:=1 },M)) \/
 (s.bW=1/\dD s M=(Do M 8 s.block (OG s),{ s with bW:=2 },yb M 8 s.block (OG s))) \/
 ((s.bW=2/\(F6 M 7 s.eE s.head (oU s.head s.block)).done=true)/\dD s M=(F6 M 7 s.eE s.head (oU s.head s.block),{ s with bW:=3 },UY M 7 s.eE s.head (oU s.head s.block))) \/
 ((s.bW=2/\(F6 M 7 s.eE s.head (oU s.head s.block)).done=false)/\dD s M=(F6 M 7 s.eE s.head (oU s.head s.block),{ s with bW:=0 },UY M 7 s.eE s.head (oU s.head s.block))) \/
 ((¬s.bW=0/\¬s.bW=1/\¬s.bW=2)/\dD s M=(aZ.zero,s,M)):=by
 unfold dD;by_cases h0:s.bW=0;simp [h0];by_cases h1:s.bW=1;simp [h1,OG];by_cases h2:s.bW=2;cases h3:(F6 M 7 s.eE s.head (oU s.head s.block)).done<;>simp [h2,h3];simp [h0,h1,h2]
theorem ta (b pb:Nat) (s:fK) (M:Mm) :
 bn qa 113 [.pointer (some ⟨b,0,none⟩),.pointer (some ⟨pb,0,none⟩)] [.at b (ir s),dN pb M]
  (λv=>v=(dD s M).1.v) (λ_=>[.at b (ir (dD s M).2.1),dN pb (dD s M).2.2]):=by
 intro A F hw hS;refine aN Tryz.func113 λ_=>?_;have hq:=Lg hS hw;rcases MN s M with ⟨h,e⟩|⟨h,e⟩|⟨h,e⟩|⟨h,e⟩|⟨h,e⟩
 all_goals(try simp only [OG] at e)
 all_goals(revert hq hS hw;refine W (J8 (od Sq) (od Sp) (od So) @Hq @Em (swL pb) (stL pb) (SN pb)) (J4 h bE @bk.eq_1 @aZ.v.eq_1) ?_<;>unhygienic intros)
 all_goals(
  try rw [e]
  refine⟨_,by simp [hq,AW.ab,aG];rfl,by simp [aZ.v,aZ.zero,h],?_⟩;apply ah.bS
  (·exact sA)
  (·repeat' (first|apply aX.z|apply aX.s|apply aE.z|(apply aE.JJ;simp [iq,jR,nL,ir,iS,h];done)|apply aE.s)))
theorem ye (b:Nat) (s:iI) (A:AW) (hg:A.bp b=some (iS s)):fh 170 [.pointer (some ⟨b,0,none⟩)] A (.bool s.done):=by
 refine aN Tryz.func170 λ_=>?_;dsimp only [iS] at hg;refine W cF (J2 hg @AW.ab) ?_<;>intros;exact⟨_,rfl,rfl,rfl⟩
theorem Ad (b:Nat) (s:iI) (A:AW) (hg:A.bp b=some (iS s)):fh 171 [.pointer (some ⟨b,0,none⟩)] A (.bool s.iu):=by
 refine aN Tryz.func171 λ_=>?_;dsimp only [iS] at hg;refine W cF (J2 hg @AW.ab) ?_<;>intros;exact⟨_,rfl,rfl,rfl⟩
theorem Ei (b:Nat) (s:iI) (A:AW) (hg:A.bp b=some (iS s)):fh 176 [.pointer (some ⟨b,0,none⟩)] A (.int .u64 s.val):=by
 refine aN Tryz.func176 λ_=>?_;have Pd:=hg;dsimp only [iS] at Pd;by_cases h1:s.bW=3<;>cases h2:s.iu
 all_goals(refine W (J1 (ye b s _ hg)) (J5 Pd h1 h2 @iI.done.eq_1 @AW.ab) ?_<;>unhygienic intros)
 all_goals exact⟨_,rfl,by simp [iI.val,h1,h2],rfl⟩
theorem rD (s:iI) (M:Mm) :
 ((s.bW=0/\0<=ng (iA M 2 s.ig).fi)/\dC s M=(iA M 2 s.ig,{ s with dF:=(iA M 2 s.ig).fi,iu:=true,bW:=3 },M)) \/
 (((s.bW=0/\¬0<=ng (iA M 2 s.ig).fi)/\s.rv<gr (iA M 2 s.ig).fi)/\dC s M=(iA M 2 s.ig,{ s with dF:=(iA M 2 s.ig).fi,iu:=true,bW:=3 },M)) \/
 (((s.bW=0/\¬0<=ng (iA M 2 s.ig).fi)/\¬s.rv<gr (iA M 2 s.ig).fi)/\dC s M=(iA M 2 s.ig,{ s with dF:=(iA M 2 s.ig).fi,bW:=1 },M)) \/
 (s.bW=1/\dC s M=(iA M 1 s.dJ,{ s with value:=(iA M 1 s.dJ).fi,bW:=2 },M)) \/
 (s.bW=2/\dC s M=(iA M 2 s.ig,{ s with iu:=decide ((iA M 2 s.ig).fi≠s.dF),bW:=3 },M)) \/
 ((¬s.bW=0/\¬s.bW=1/\¬s.bW=2)/\dC s M=(aZ.zero,s,M)):=by
 unfold dC;by_cases h0:s.bW=0;by_cases h1:0<=ng (iA M 2 s.ig).fi<;>by_cases h2:s.rv<gr (iA M 2 s.ig).fi<;>simp [h0,h1,h2];by_cases h1:s.bW=1;simp [h1];by_cases h2:s.bW=2;simp [h2];simp [h0,h1,h2]
theorem yd (b pb:Nat) (s:iI) (M:Mm) :
 bn qa 169 [.pointer (some ⟨b,0,none⟩),.pointer (some ⟨pb,0,none⟩)] [.at b (iS s),dN pb M]
  (λv=>v=(dC s M).1.v) (λ_=>[.at b (iS (dC s M).2.1),dN pb (dC s M).2.2]):=by
 intro A F hw hS;refine aN Tryz.func169 λ_=>?_;have hq:=Lg hS hw;rcases rD s M with ⟨h,e⟩|⟨h,e⟩|⟨h,e⟩|⟨h,e⟩|⟨h,e⟩|⟨h,e⟩
 repeat' (first|(refine kY λR hR=>?_;simp [ar,ax,hq,h,AW.ab,aG,bk,aZ.v];try simp (disch:=omega) only [aA,aw,ar,ax])|(refine hR _ _ ?_;clear hR R)|(refine hK _ _ ?_;clear hK K)|refine nx ?_|refine wn λK hK=>?_|simp only [wS,KA,Kz]|refine wl qj KA (by decide +kernel) λK hK=>?_|refine wl qj Kz (by decide +kernel) λK hK=>?_|(refine bO (Ak _ _) ?_;rintro _ _ ⟨rfl,rfl⟩ _ _)|(refine bO (yf _ _) ?_;rintro _ _ ⟨rfl,rfl⟩ _ _)|(refine ⟨λA' AR=>by simp [AW.ab,AR],?_⟩)|(refine XO (λA'=>A'.bp (A.next+1)=some (.cells (accC (iA M 2 s.ig)) true 1)) qj [(0,0),(1,0),(2,0),(3,0),(4,0),(5,0),(6,0),(7,0),(8,0),(9,0),(10,0),(11,3),(12,0),(13,0),(14,3)] (by decide +kernel) λK hK=>?_)|(apply bn.ft (SN pb _ _ _);(·exact wA);(·exact sA);(·first|exact pA|exact kA);rintro _ _ rfl hS hw _;have hS:=lA hS;have hq:=Lg hS hw)|(show c8 _ _ _ _ _ _;refine nx ?_)|(refine wc rfl (λhc=>?_) (λhc=>?_)<;>(try simp at hc)<;>(try omega))|(refine ib (λhc=>?_) (λhc=>?_)<;>(try omega)<;>(try simp (disch:=omega) only [aA,aw])))
 all_goals(
  try rw [e]
  refine⟨_,by simp [hq,AW.ab,aG];rfl,by simp [aZ.v,aZ.zero,h],?_⟩;apply ah.bS
  (·exact sA)
  (·repeat' (first|apply aX.z|apply aX.s|apply aE.z|(apply aE.JJ;simp [iq,jR,nL,ir,iS,h];done)|apply aE.s)))
end
section
abbrev tU:List (Nat×Nat):=[(0,0),(1,0),(2,0),(4,0),(5,0),(6,0),(3,2),(7,2),(8,0),(9,2),(10,0)]
open T7
variable [Gl]
theorem Gv (vi vw:Value) (l ws:List Int) (A:AW) (F:HP) (h:cd A .i64 vi l) (h':cd A .u64 vw ws) (he:l.length=ws.length) (hl:l.length<2^38) (hw:A.Wf) (hS:bB A F) :
 aD qa 199 [vi,vw] A (λv A'=>∃b,v=.pointer (some ⟨b,0,none⟩)/\bB A' (iH b ⟨l,ws⟩*F)/\A.le A'):=by
 refine aN Tryz.func199 λ_=>?_;obtain⟨o,c,rfl,hc⟩:=h.cy;obtain⟨o',c',rfl,hc'⟩:=h'.cy;rw [<-he] at h' hc' ⊢;rcases o with _|p<;>rcases o' with _|q
 all_goals
  all_goals(revert hS hw;(repeat first|revert hc|revert R|revert K);refine W (J1 (od tU)) (J1 @fg.eq_1) ?_<;>unhygienic intros)
  refine bO (jH _ l A h (by omega)) ?_;rintro u A1 ⟨h1,h2⟩ jx _;refine⟨h2,?_⟩;obtain⟨o1,c1,rfl,_⟩:=h1.is.cy
  all_goals(revert hS hw;(repeat first|clear hS|clear hw|revert hc|revert R|revert K);refine W (J1 (od tU)) (J1 @fg.eq_1) ?_<;>unhygienic intros)
  refine bO (i7 _ ws A1 (cd.le h2 hw h') (by omega)) ?_;rintro u2 A2 ⟨h3,h4⟩ kc _;refine⟨h4,?_⟩;obtain⟨o2,c2,rfl,_⟩:=h3.is.cy
  all_goals(revert hS hw;(repeat first|clear hS|clear hw|revert hc|revert R|revert K);refine W (J1 (od tU)) (J1 @fg.eq_1) ?_<;>unhygienic intros)
  refine⟨_,by first|(simp;done)|(simp;rfl),A2.next,rfl,?_,(h2.trans h4).trans (qb _ _)⟩;have iY:=(av.iB (av.iB hS hw h2 h1) jx h4 h3).alloc kc (.cells [.slice o1 l.length c1,.slice o2 ws.length c2] true 1);refine iH.dP (vo:=.slice o1 l.length c1) (vw:=.slice o2 ws.length c2) ?_;exact iY.dZ (by show _=pt A2.next (.cells [.slice o1 l.length c1,.slice o2 ws.length c2] true 1)*(av .i64 (.slice o1 l.length c1) l*(av .u64 (.slice o2 ws.length c2) ws*F));ac_rfl)
theorem KE (vi vw:Value) (l ws:List Int) (A:AW) (F:HP) (h:cd A .i64 vi l) (h':cd A .u64 vw ws) (he:l.length=ws.length) (hl:l.length<2^38) (hw:A.Wf) (hS:bB A F) :
 aD qa 193 [vi,vw] A (λv A'=>∃b,v=.pointer (some ⟨b,0,none⟩)/\bB A' (iH b ⟨l,ws⟩*F)/\A.le A'):=by
 refine aN Tryz.func193 λ_=>?_;obtain⟨o,c,rfl,hc⟩:=h.cy;obtain⟨o',c',rfl,hc'⟩:=h'.cy;rw [<-he] at h' hc' ⊢;rcases o with _|p<;>rcases o' with _|q
 all_goals
  all_goals(revert hS hw;(repeat first|revert hc|revert R|revert K);refine W (J1 (od tU)) (J1 @fg.eq_1) ?_<;>unhygienic intros)
  refine bO (jH _ l A h (by omega)) ?_;rintro u A1 ⟨h1,h2⟩ jx _;refine⟨h2,?_⟩;obtain⟨o1,c1,rfl,_⟩:=h1.is.cy
  all_goals(revert hS hw;(repeat first|clear hS|clear hw|revert hc|revert R|revert K);refine W (J1 (od tU)) (J1 @fg.eq_1) ?_<;>unhygienic intros)
  refine bO (i7 _ ws A1 (cd.le h2 hw h') (by omega)) ?_;rintro u2 A2 ⟨h3,h4⟩ kc _;refine⟨h4,?_⟩;obtain⟨o2,c2,rfl,_⟩:=h3.is.cy
  all_goals(revert hS hw;(repeat first|clear hS|clear hw|revert hc|revert R|revert K);refine W (J1 (od tU)) (J1 @fg.eq_1) ?_<;>unhygienic intros)
  refine⟨_,by first|(simp;done)|(simp;rfl),A2.next,rfl,?_,(h2.trans h4).trans (qb _ _)⟩;have iY:=(av.iB (av.iB hS hw h2 h1) jx h4 h3).alloc kc (.cells [.slice o1 l.length c1,.slice o2 ws.length c2] true 1);refine iH.dP (vo:=.slice o1 l.length c1) (vw:=.slice o2 ws.length c2) ?_;exact iY.dZ (by show _=pt A2.next (.cells [.slice o1 l.length c1,.slice o2 ws.length c2] true 1)*(av .i64 (.slice o1 l.length c1) l*(av .u64 (.slice o2 ws.length c2) ws*F));ac_rfl)
end
section
open T7
variable [Gl]
theorem II (t:Int) (vi:Value) (l:List Int) (A:AW) (F:HP) (h:cd A .i64 vi l) (hl:l.length<2^38) (hw:A.Wf) (hS:bB A F) :
 aD qa 208 [.int .i64 t,vi] A (λv A'=>∃b,v=.pointer (some ⟨b,0,none⟩)/\bB A' (iy b ⟨t,eT l,[],0,false⟩*F)):=by
 refine aN Tryz.func208 λ_=>?_;revert hS hw;refine W cF cF ?_<;>(unhygienic intros);refine bO (Cr vi l A h (by omega)) ?_;rintro u A1 ⟨h1,h2⟩ jx _;obtain⟨o,c,rfl,_⟩:=h1.is.cy;revert hS hw;(repeat first|clear hS|clear hw|revert hc|revert R|revert K);refine W cF cF ?_<;>(unhygienic intros);refine⟨_,by first|(simp;done)|(simp;rfl),A1.next,rfl,?_⟩;have iY:=(av.iB hS hw h2 h1).alloc jx (.cells [.int .i64 t,.slice o (eT l).length c,.slice none 0 0,.int .u64 0,.bool false] true 1);refine iy.dP (vo:=.slice o (eT l).length c) (vw:=.slice none 0 0) ?_;have h0:=av.nil (k:=.u64) iY;exact h0.dZ (by show _=pt A1.next (.cells [.int .i64 t,.slice o (eT l).length c,.slice none 0 0,.int .u64 0,.bool false] true 1)*(av .i64 (.slice o (eT l).length c) (eT l)*(av .u64 (.slice none 0 0) []*F));ac_rfl)
end
section
open T10
variable [Gl]
def U6 (s:iv):dQ:=.cells [.int .i64 s.aj,.int .i64 s.bW,.int .i64 s.Gh] true 1
def X8 (s:iG):dQ:=.cells [.int .i64 s.fY,.bool s.done] true 1
def rPopO (s:pw):dQ:=.cells [.int .i64 s.eE,.int .i64 s.bW,.int .u64 s.head,.int .u64 s.next,.int .i64 s.block] true 1
def Ya (s:fK):dQ:=.cells [.int .i64 s.eE,.int .i64 s.block,.int .i64 s.bW,.int .u64 s.head] true 1
def iI.rat (s:iI):Int:=if s.bW=3/\s.iu=true then 4 else s.bW
def X9 (s:iI):dQ:=.cells [.int .i64 s.dJ,.int .i64 s.ig,.int .i64 s.rv,.int .i64 s.rat,.int .u64 s.dF,.int .u64 s.value] true 1
end
end Go.Stx
