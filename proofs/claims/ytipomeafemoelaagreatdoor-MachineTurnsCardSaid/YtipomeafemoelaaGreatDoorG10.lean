/-
 One thread, without the program: its state, its step, and what always holds of it.
-/
import Derived.Test.YtipomeafemoelaaGreatDoorG09
set_option linter.unusedVariables false
set_option linter.unusedSimpArgs false
set_option linter.unusedSectionVars false
set_option maxRecDepth 20000
set_option maxHeartbeats 4000000
open Bool renaming and_eq_true->qq
open Go.IntKind renaming i64->qg,u64->qd
open Int renaming le_refl->qE
open List renaming getElem?_eq_getElem->qk,length_append->qm,length_cons->qI,length_filter_le->Z2,length_map->qD,length_singleton->q8,mem_append->qQ,mem_filter->Z5,mem_range->qy
open Nat renaming le_refl->qf,le_succ->qz,zero_le->qG
namespace Go.Stx
open Go Go.Proofs
attribute [local irreducible] c8 aY aD aO cK da TW bG
section
variable [Gl]
structure j7 where
 pc:Int
 fI:Int
 val:Int
structure FO where
 bW:Int
 aj:Int
 fI:Int
 UP:Int
 reads:List Int
 bP:List Int
structure eF where
 aj:Int
 fe:Int
 Bc:Int
 gP:aZ
def eF.zero:eF:=⟨0,0,0,aZ.zero⟩
structure jC where
 aj:Int
 mV:Int
 fH:Bool
 AG:Int
 next:Int
def jC.done (f:jC):Bool:=f.fH && decide (f.mV<=f.next)
def jC.skip (f:jC):jC:=if f.next=f.aj then { f with next:=f.next+1 } else f
def jC.BN (f:jC) (lL:Int):Bool:=if lL=0 then true else if lL=1 then false else decide (f.AG<=qd.wrap (lL-2))
def jC.nS (f:jC):Int:=if f.fH=true then qg.wrap f.AG else -1
def fQ (f:jC) (M:Mm):aZ×jC:=
 if f.done=true then (aZ.zero,f)
 else if f.fH=false then (iA M 3 0,({ f with fH:=true,AG:=(iA M 3 0).fi }:jC).skip)
 else (iA M 6 f.next,if f.BN (iA M 6 f.next).fi=true then ({ f with next:=f.next+1 }:jC).skip else f)
def nE (c:br) (l:List (Int×Int)) (nJ:Int) (bs:List Int):List (Int×Int):=
 l++(bs.filter λb=>decide (0<=dU c b)).map λb=>(b,nJ)
def ko (l:List (Int×Int)) (nS:Int):List (Int×Int):=l.filter λx=>decide (nS<x.2)
def mm (c:br) (l:List (Int×Int)) (nS:Int):List fK:=(l.filter λx=>!decide (nS<x.2)).map λx=>⟨dU c x.1,x.1,0,0⟩
def zz:List fK->Mm->aZ×List fK×Mm
 | [],M=>(aZ.zero,[],M)
 | p::l,M=>((dD p M).1,if (dD p M).2.1.bW=3 then l else (dD p M).2.1::l,(dD p M).2.2)
structure R8 where
 r0:Int
 r1:Int
 r2:Int
 r3:Int
 r4:Int
 r5:Int
 r6:Int
 r7:Int
def R8.bp (r:R8) (i:Int):Int:=if i=0 then r.r0 else if i=1 then r.r1 else if i=2 then r.r2 else if i=3 then r.r3 else if i=4 then r.r4 else if i=5 then r.r5 else if i=6 then r.r6 else r.r7
def R8.set (r:R8) (i v:Int):R8:=
 if i=0 then { r with r0:=v } else if i=1 then { r with r1:=v } else if i=2 then { r with r2:=v } else if i=3 then { r with r3:=v }
 else if i=4 then { r with r4:=v } else if i=5 then { r with r5:=v } else if i=6 then { r with r6:=v } else { r with r7:=v }
def R8.zero:R8:=⟨0,0,0,0,0,0,0,0⟩
def R8.cells (r:R8):List Value:=[.int .u64 r.r0,.int .u64 r.r1,.int .u64 r.r2,.int .u64 r.r3,.int .u64 r.r4,.int .u64 r.r5,.int .u64 r.r6,.int .u64 r.r7]
structure aT where
 fL:Option aJ
 bN:Int
 lH:R8
 iR:Int
 dF:List j7
 aW:Bool
 fC:Int
 dM:Option jC
 dI:Option (List fK)
 cf:br
 id:Int
 nt:Int
 aC:List bm
 pc:Int
 dE:R8
 kR:Int
 done:Bool
 gE:List (Int×Int)
 gH:List j7
 jB:Int
def nX (c:br) (id nt:Int) (p:List bm):aT:=⟨none,0,.zero,0,[],false,0,none,none,c,id,nt,p,0,.zero,0,decide (p.length=0),[],[],0⟩
def aT.to (t:aT) (pc:Int):aT:={ t with pc:=pc,done:=decide (pc=t.aC.length) }
def aT.pG (t:aT):aT:=t.to (t.pc+1)
def aT.pz (t:aT) (fI v:Int):aT:={ t with gH:=t.gH++[⟨t.pc,fI,v⟩] }
def aT.dJ (t:aT) (r bR:Int):Int:=qd.wrap (t.dE.bp r+qd.wrap bR)
def aT.wC (t:aT) (k:Int):bm:=t.aC.getD k.toNat ⟨0,0,0,0,0⟩
def aT.fz (t:aT):bm:=t.wC t.pc
def aT.gy (t:aT) (a v:Int):aT:={ t with dE:=t.dE.set a v }
variable (d8:Int->Int->Int->Int)
def aT.iP (t:aT) (i:bm):aT:=
 (if i.op=1 then t.gy i.a (qd.wrap i.bR) else if i.op=2 then t.gy i.a (t.dE.bp i.b) else if i.op=3 then t.gy i.a (d8 i.bR (t.dE.bp i.b) (t.dE.bp i.c))
  else if i.op=17 then t.gy i.a (qd.wrap t.kR) else t).to
 (t.pc+1+if i.op=4\/(i.op=5/\t.dE.bp i.a=0)\/(i.op=6/\t.dE.bp i.a≠0) then i.bR else 0)
def aT.sy (t:aT):aT:={ t with fL:=some (fU (eP t.cf t.id)).2,dF:=[],jB:=t.jB+1 }
def aT.Gn (t:aT) (i:bm) (s:aJ):aJ:=
 if i.op=10 then (Hm s (t.dJ i.b i.bR)).2 else if i.op=11 then (F1 s (t.dJ i.a i.bR) (t.dE.bp i.b)).2 else if i.op=14 then (L0 s i.bR).2
 else if i.op=15 then (LA s (t.dE.bp i.a)).2 else if i.op=8 then (Dk s 1).2 else if i.op=9 then (Dk s 2).2 else s
def aT.nU (t:aT) (i:bm):Int:=if i.op=12 then t.dJ i.b i.bR else t.dJ i.a i.bR
def aT.Ch (t:aT) (i:bm) (v:Int):aT:=if i.op=12 then ((t.gy i.a v).pz 4 v).pG else (t.pz 5 v).pG
def aT.fi (t:aT) (r fI v:Int):aT:={ t.gy r v with dF:=t.dF++[⟨t.pc,fI,v⟩] }
def aT.ln (t:aT) (i:bm) (s:aJ):aT:=
 let t1:aT:={ t with fL:=none,aW:=false }
 if s.aC=1 then t1.Ch i (if i.op=13 then t.dE.bp i.b else s.value) else if s.aC=6 then (t1.pz 7 6).pG else t1
def aT.oS (t:aT) (s:aJ):aT:=
 if s.aC=1 then { t with fL:=none,gH:=t.gH++t.dF,gE:=if 0<s.ay.length then nE t.cf t.gE s.nJ s.ay else t.gE }
 else { t with fL:=none,dE:=t.lH }
def aT.kw (t:aT) (aC:Int):aT:=
 ({ t with iR:=0,kR:=aC,gH:=t.gH++[⟨t.bN,3,qd.wrap aC⟩] }:aT).to (dq t.aC t.bN.toNat+1)
def aT.bS (t:aT) (s:aJ):aT:=
 if s.aC=9 then (if t.iR<(t.wC t.bN).bR then (t.oS s).to t.bN else (t.oS s).kw 5) else (t.oS s).kw s.aC
def aT.tx (t:aT) (i:bm) (s:aJ):aT:=
 if s.aF=2 then (if t.aW=true then t.ln i s else t.bS s)
 else if t.aW=true then t
 else (if i.op=10 then t.fi i.a 1 s.value else if i.op=14 then t.fi i.a 2 s.value else t).pG
abbrev ThR:=eF×List FO×aT×Mm
def aT.vN (t:aT) (M:Mm) (s:aJ):ThR:=
 let r:=bC s M
 let t1:aT:={ t with fL:=some r.2.2.1 }
 (⟨0,r.2.1,t.jB,r.1⟩,
  if r.2.1=3 then [⟨0,t.id,3,0,[],[]⟩]
  else if r.2.1=16/\r.2.2.1.am=true then [⟨0,t.id,4,0,r.2.2.1.reads,if r.2.2.1.aC=1 then r.2.2.1.bz.bL.filter (λa=>decide (a<r.2.2.1.cf.be)) else []⟩] else [],
  if r.2.2.1.jN=true then t1 else t1.tx t.fz r.2.2.1,r.2.2.2)
def aT.ask (t:aT) (i:bm) (s:aJ):aT:=
 { t with fC:=t.fC+1,fL:=some (if 1<t.fC+1 then (Dk s 1).2 else if i.op=12 then (Hm s (t.nU i)).2 else (F1 s (t.nU i) (t.dE.bp i.b)).2) }
def aT.uj (t:aT) (i:bm) (s:aJ):aJ:=if 1<t.fC+1 then (Dk s 1).2 else if i.op=12 then (Hm s (t.nU i)).2 else (F1 s (t.nU i) (t.dE.bp i.b)).2
def aT.jP (t:aT):aT:=match t.dI with
 | some []=>(({ t with dM:=none,dI:=none }:aT).pz 6 0).pG
 | _=>t
def aT.sZ (t:aT) (M:Mm) (f:jC):eF×aT×Mm:=
 match t.dI with
 | none=>
   let r:=fQ f M
   (⟨0,if r.1.cell=3 then 25 else 26,0,r.1⟩,
    (if r.2.done=true then ({ t with dM:=some r.2,dI:=some (mm t.cf t.gE r.2.nS),gE:=ko t.gE r.2.nS }:aT) else { t with dM:=some r.2 }).jP,M)
 | some l=>
   let r:=zz l M
   (⟨0,hY r.1,0,r.1⟩,({ t with dI:=some r.2.1 }:aT).jP,r.2.2)
def aT.plain (t:aT) (M:Mm) (i:bm):ThR:=
 let dJ:=t.nU i
 if t.cf.be<=dJ then (eF.zero,[],((if i.op=12 then t.gy i.a 0 else t).pz 7 7).pG,M)
 else if t.cf.aW=true then (({ t with aW:=true,fC:=0 }:aT).sy).vN M (fU (eP t.cf t.id)).2
 else if i.op=12 then (⟨0,1,0,iA M 1 dJ⟩,[⟨0,t.id,1,dJ,[],[]⟩],t.Ch i (iA M 1 dJ).put,M)
 else (⟨0,1,0,Do M 1 dJ (t.dE.bp i.b)⟩,[⟨0,t.id,2,dJ,[],[]⟩],t.Ch i (Do M 1 dJ (t.dE.bp i.b)).put,yb M 1 dJ (t.dE.bp i.b))
def aT.k7 (t:aT) (M:Mm) (i:bm):ThR:=
 if i.op=7 then (({ t with bN:=t.pc,lH:=t.dE,iR:=t.iR+1 }:aT).sy).vN M (fU (eP t.cf t.id)).2
 else match t.fL with
 | some s=>
   if i.op=10\/i.op=11\/i.op=14\/i.op=15\/i.op=8\/i.op=9 then ({ t with fL:=some (t.Gn i s) }:aT).vN M (t.Gn i s)
   else (⟨0,0,t.jB,aZ.zero⟩,[],t.iP d8 i,M)
 | none=>
   if i.op=12\/i.op=13 then t.plain M i
   else if i.op=16 then
    let f:jC:=⟨t.id,t.nt,false,0,0⟩
    let r:=({ t with dM:=some f }:aT).sZ M f
    (r.1,[],r.2.1,r.2.2)
   else (eF.zero,[],t.iP d8 i,M)
def aT.lX (t:aT) (M:Mm):ThR:=
 match t.dM with
 | some f=>let r:=t.sZ M f;(r.1,[],r.2.1,r.2.2)
 | none=>match t.fL with
   | some s=>if s.jN=true then t.vN M s else if t.aW=true then (t.ask t.fz s).vN M (t.uj t.fz s) else t.k7 d8 M t.fz
   | none=>t.k7 d8 M t.fz
def aT.step (t:aT) (M:Mm):Bool×ThR:=
 if t.done=true then (false,eF.zero,[],t,M)
 else
  let r:=t.lX d8 M
  (true,{ r.1 with aj:=t.id },r.2)
end
section
variable [Gl]
theorem yN {p:List bm} {k b:Nat} (h:bT p k=some b):∀{t:Nat},k<=t->(∀j,k<=j->j<t->d6 p j≠8)->bT p t=some b
 | 0,hk,_=>by
   have:k=0:=by omega
   subst this;exact h
 | t+1,hk,hn=>by
   by_cases e:k=t+1;subst e;exact h;have h1:=yN h (t:=t) (by omega) λj h1 h2=>hn j h1 (by omega);unfold bT;rw [h1];simp only;rw [aw (hn t (by omega) (by omega))]
theorem K9 {p:List bm} {k:Nat} (h:k<p.length):d6 p k=p[k].op:=lE (qk h)
theorem RN {p:List bm} (hp:(cG p).2=0) {k:Nat} (hk:k<p.length) (ho:p[k].op=4\/p[k].op=5\/p[k].op=6):fG p k (bT p k) p[k].bR=true/\0<=p[k].bR:=by
 have h1:=(gY hp).2.1 k p[k] (qk hk);unfold uI at h1;by_cases e:cg p[k]=0;rw [aA e] at h1;split at h1;cases h1;split at h1;cases h1;have hs:ee p[k]=some p[k].bR:=aA ⟨e,ho⟩;rw [hs] at h1;simp only at h1;refine⟨?_,?_⟩;by_cases hh:fG p k (bT p k) p[k].bR=true;exact hh;rw [aw hh] at h1;cases h1;unfold cg at e;split at e;cases e;split at e;rename_i h2;have h3:=(qq _ _▸h2).2;unfold fj at h3;rw [aw (by omega),aw (by omega),aA ho] at h3;simp only [qq,decide_eq_true_eq] at h3;exact h3.1;cases e;rw [aw e] at h1;exact absurd h1 e
theorem Ql {p:List bm} (hp:(cG p).2=0) {k:Nat} (hk:k<p.length) (ho:p[k].op=4\/p[k].op=5\/p[k].op=6) :
 k+1+p[k].bR.toNat<=p.length/\bT p (k+1+p[k].bR.toNat)=bT p k:=by
 obtain⟨ht,_⟩:=RN hp hk ho;have ho2:=K9 hk;unfold fG at ht;by_cases hl:p.length<k+1+p[k].bR.toNat;simp [hl] at ht;have JN:k+1+p[k].bR.toNat<=p.length:=by omega
 refine⟨JN,?_⟩;cases hb:bT p k with
 | some b=>
   rw [hb] at ht;simp only [hl,if_false,decide_eq_true_eq] at ht;obtain⟨h1,h2,h3⟩:=kj hb;refine yN hb (by omega) λj h4 h5=>?_;exact(mr (p:=p) (k:=b+1) (by omega)).2.2.1 j (by omega) (by have:=ht;unfold dq at this;omega)
 | none=>
   rw [hb] at ht;simp only [hl,if_false] at ht;cases hs:bT p (k+1+p[k].bR.toNat) with
   | none=>rfl
   | some b=>
     exfalso;obtain⟨h1,h2,h3⟩:=kj hs;have h4:=D9 hb (by omega) hs;have h5:b≠k:=λe=>by subst e;rw [ho2] at h2;omega
     have h6:k+1+p[k].bR.toNat≠p.length:=λe=>by
      rw [e,(gY hp).2.2] at hs;cases hs
     have h7:k+1+p[k].bR.toNat<=dq p b:=by
      rcases Nat.lt_or_ge (dq p b) (k+1+p[k].bR.toNat) with h|h;have h8:=(mr (p:=p) (k:=b+1) (by omega));have h9:dq p b<p.length:=(by omega);have NK:b+1<=dq p b:=h8.1;exact absurd (show d6 p (dq p b)=8 from h8.2.2.2 h9) (h3 (dq p b) (by omega) h);exact h
     have h8:gX p k (k+1+p[k].bR.toNat)=true:=by
      unfold gX;rw [List.any_eq_true];refine⟨b,qy.2 h1,?_⟩;simp only [qq,decide_eq_true_eq];exact⟨⟨by omega,h2⟩,by omega⟩
     rw [h8] at ht;cases ht
theorem TO {p:List bm} (hp:(cG p).2=0) {b:Nat} (hb:d6 p b=7) (hs:bT p b=none):dq p b<p.length/\d6 p (dq p b)=8/\bT p (dq p b+1)=none:=by
 have Tr:b<p.length:=rM (by omega);have h1:bT p (b+1)=some b:=by
  unfold bT;rw [hs];simp [hb]
 obtain⟨h2,h3,h4,h5⟩:=mr (p:=p) (k:=b+1) (by omega);have h6:bT p (dq p b)=some b:=yN h1 h2 h4;have h7:dq p b<p.length:=by
  rcases Nat.lt_or_ge (dq p b) p.length with h|h;exact h;have e:dq p b=p.length:=by unfold dq at h ⊢;omega
  rw [e,(gY hp).2.2] at h6;cases h6
 refine⟨h7,h5 h7,?_⟩;unfold bT;rw [h6];simp only;rw [aA (show d6 p (dq p b)=8 from h5 h7)]
theorem BQ {p:List bm} {k:Nat} {b:Option Nat} (h:bT p k=b) (h7:d6 p k≠7) (h8:d6 p k≠8):bT p (k+1)=b:=by
 unfold bT;rw [h];cases b with
 | none=>simp [h7]
 | some b=>simp [h8]
theorem N5 {p:List bm} {k:Nat} (h:bT p k=none) (h7:d6 p k=7):bT p (k+1)=some k:=by
 unfold bT;rw [h];simp [h7]
theorem tQ {p:List bm} (hp:(cG p).2=0) {k:Nat} (hk:k<p.length) :
 (bT p k=none->p[k].op≠8/\p[k].op≠9/\p[k].op≠10/\p[k].op≠11/\p[k].op≠14/\p[k].op≠15)/\
 (∀b,bT p k=some b->p[k].op≠7/\p[k].op≠12/\p[k].op≠13/\p[k].op≠16/\p[k].op≠17)/\cg p[k]=0:=by
 have h1:=(gY hp).2.1 k p[k] (qk hk);unfold uI at h1;by_cases e:cg p[k]=0;rw [aA e] at h1;split at h1;cases h1;rename_i h2;split at h1;cases h1;rename_i h3
 have h4:bA p[k]=if p[k].op=8\/p[k].op=9\/p[k].op=10\/p[k].op=11\/p[k].op=14\/p[k].op=15 then 1
  else if p[k].op=7\/p[k].op=12\/p[k].op=13\/p[k].op=16\/p[k].op=17 then 2 else 0:=aA e
 rw [h4] at h3;refine⟨λhb=>?_,λb hb=>?_,e⟩;rw [hb] at h3;have:¬(p[k].op=8\/p[k].op=9\/p[k].op=10\/p[k].op=11\/p[k].op=14\/p[k].op=15):=λh=>h3 (.inl ⟨by rw [aA h],rfl⟩);omega;rw [hb] at h3;have:¬(p[k].op=7\/p[k].op=12\/p[k].op=13\/p[k].op=16\/p[k].op=17):=λh=>h3 (.inr ⟨by rw [aw (by omega),aA h],rfl⟩);omega;rw [aw e] at h1;exact absurd h1 e
theorem mY {i:bm} (h:cg i=0):(lW i.op=true->0<=i.a/\i.a<8)/\(ki i.op=true->0<=i.b/\i.b<8)/\(lV i.op=true->0<=i.c/\i.c<8)/\(0<=i.op/\i.op<18)/\(i.op=3->0<=i.bR/\i.bR<22)/\(i.op=7->1<=i.bR/\i.bR<=8):=by
 unfold cg at h;split at h;cases h;rename_i h0;split at h;rename_i h1;simp only [qq,gJ,fj] at h1;obtain⟨⟨⟨h2,h3⟩,h4⟩,h5⟩:=h1;refine⟨λe=>?_,λe=>?_,λe=>?_,by omega,λe=>?_,λe=>?_⟩;rw [aA e] at h2;simpa using h2;rw [aA e] at h3;simpa using h3;rw [aA e] at h4;simpa using h4;rw [aw (by omega),aA e] at h5;simpa using h5;rw [aw (by omega),aw (by omega),aw (by omega),aA e] at h5;simpa using h5;cases h
def sX:bD->Prop
 | .iP (.bS _)=>True
 | .eh | .cU | .cM _ | .bK | .di _ | .bH _ | .fb | .ey | .eL _ | .ic=>True
 | _=>False
theorem TP (s:aJ) (aC:Int):sX (nz s aC).aH:=by unfold nz;split<;>trivial
theorem CM (s:aJ):sX (gi s).aH:=by unfold gi;split<;>trivial
theorem uC (s:aJ):sX (fJ s).aH:=by unfold fJ;split<;>trivial
theorem QQ {s:aJ} (h:sX s.aH) (hs:s.aF=1) (M:Mm):((bC s M).2.2.1.aF=1/\sX (bC s M).2.2.1.aH)\/((bC s M).2.2.1.aF=2/\(bC s M).2.2.1.aH=.bF):=by
 have dy:=yB s M;unfold bC at dy ⊢;cases e:s.aH with
 | iP l=>
   rw [e] at h dy;cases l<;>first|exact absurd h id|skip
   refine .inl ⟨by rw [dy];exact hs,?_⟩;exact TP _ _
 | eh=>
   rw [e] at h dy;simp only at dy ⊢;cases hl:s.aP with
   | none=>rw [hl] at dy;exact .inl ⟨by rw [dy];exact hs,by dsimp only;rw [e];trivial⟩
   | some l=>
     rw [hl] at dy;refine .inl ⟨by rw [dy];exact hs,?_⟩;unfold ip;dsimp only;split;trivial;dsimp only;rw [e];trivial
 | cU=>
   rw [e] at h dy;simp only at dy ⊢;cases hl:s.aL with
   | none=>rw [hl] at dy;exact .inl ⟨by rw [dy];exact hs,by dsimp only;rw [e];trivial⟩
   | some l=>
     rw [hl] at dy;refine .inl ⟨by rw [dy];exact hs,?_⟩;unfold gU;dsimp only;split;dsimp only;split<;>trivial;dsimp only;rw [e];trivial
 | cM c=>
   rw [e] at h dy;refine .inl ⟨by rw [dy];exact hs,?_⟩;show sX (gn s M c).2.2.1.aH;unfold gn;dsimp only;split;exact uC _;split<;>trivial
 | bK=>
   rw [e] at h dy;refine .inl ⟨by rw [dy];exact hs,?_⟩;show sX (ff s M).2.2.1.aH;unfold ff;dsimp only;split;exact uC _;split;trivial;exact uC _
 | di w=>
   rw [e] at h dy;refine .inl ⟨by rw [dy];exact hs,?_⟩;show sX (gA s M w).2.2.1.aH;unfold gA;dsimp only;split<;>trivial
 | bH w=>
   rw [e] at h dy;refine .inl ⟨by rw [dy];exact hs,?_⟩;show sX (mF s M w).2.2.1.aH;unfold mF;dsimp only;split;split<;>trivial;trivial
 | fb=>rw [e] at dy;exact .inl ⟨by rw [dy];exact hs,trivial⟩
 | ey=>rw [e] at dy;exact .inl ⟨by rw [dy];exact hs,CM _⟩
 | eL p=>
   rw [e] at h dy;refine .inl ⟨by rw [dy];exact hs,?_⟩;show sX (iL s M p).2.2.1.aH;unfold iL;dsimp only;split;exact CM _;trivial
 | ic=>exact .inr ⟨rfl,rfl⟩
 | bF=>rw [e] at h;exact absurd h id
 | ei=>rw [e] at h;exact absurd h id
 | bh _ _=>rw [e] at h;exact absurd h id
 | eO _=>rw [e] at h;exact absurd h id
theorem zp (s:aJ):(gi s).ay=s.ay:=by unfold gi;split<;>rfl
theorem tJ (s:aJ) (aC:Int):(jQ s aC).ay=s.ay:=zp _
theorem AZ (s:aJ) (aC:Int):(nz s aC).ay=s.ay:=by unfold nz;split<;>rfl
theorem wo (s:aJ):(fJ s).ay=s.ay:=by unfold fJ;split<;>rfl
theorem uG (s:aJ) (a v:Int):(jp s a v).2.ay=s.ay:=by
 unfold jp;split;rfl;exact tJ s 3
theorem Bx:∀(n:Nat) (a:Int) (s:aJ),(gs n a s).2.ay=s.ay
 | 0,_,_=>rfl
 | n+1,a,s=>by
   unfold gs;split;rw [Bx n];exact uG s a 0;exact uG s a 0
theorem G0 (s:aJ) (eE i9:Int):(fx s eE i9).ay=s.ay:=by
 unfold fx;split;exact tJ s 4;dsimp only;split;split;show (gs _ _ _).2.ay=_;rw [Bx];exact uG { s with an:=s.an++[i9] } _ _;rw [Bx];exact uG { s with an:=s.an++[i9] } _ _;exact uG { s with an:=s.an++[i9] } _ _
def WH (s s':aJ) (o:Option Int):Prop:=s'.ay=s.ay\/∃b,o=some b/\s'.ay=s.ay++[b]
theorem BZ (s:aJ) (b st:Int):WH s (jr s b st) (some b):=by
 unfold jr;split;exact .inl (AZ s 8);split;exact .inl (tJ s 3);split;exact .inr ⟨b,rfl,by dsimp only⟩;exact .inl (uG s _ 0)
def frB:bD->Option Int
 | .iP (.dg b _)=>some b
 | .bh _ (.dg b)=>some b
 | _=>none
theorem N9 (s:aJ) (M:Mm):WH s (bC s M).2.2.1 (frB s.aH):=by
 unfold bC;cases hd:s.aH with
 | ic=>exact .inl rfl
 | bF=>exact .inl rfl
 | iP k=>
   cases k with
   | lU a v=>
     show WH s (sj { s with aH:=.bF } (.lU a v)) _;unfold sj;dsimp only;split;exact .inl (AZ _ 7);exact .inl (uG { s with aH:=.bF } a v)
   | tR=>exact .inl (AZ _ 7)
   | Pr=>exact .inl (AZ _ 8)
   | bS aC=>exact .inl (AZ _ aC)
   | take v=>exact .inl rfl
   | AS=>exact .inl (tJ _ 3)
   | dg b v=>exact BZ { s with aH:=.bF } b v
 | ei=>
   dsimp only;cases s.b7 with
   | none=>exact .inl rfl
   | some e=>
     dsimp only [gN];split<;>exact .inl rfl
 | bh r u=>
   show WH s (du s M r u).2.2.1 _;unfold du;dsimp only;split;exact .inl rfl;split;exact .inl (tJ _ 9);split
   . cases u with
     | take=>left;dsimp only [zW];split<;>rfl
     | dg b=>
       dsimp only [zW];split;exact BZ _ b _;exact BZ _ b _
   left;dsimp only;rw [tJ];split<;>rfl
 | eO p=>
   show WH s (lh s M p).2.2.1 _;unfold lh;dsimp only;split;exact .inl (G0 _ _ _);exact .inl rfl
 | eh=>
   dsimp only;cases s.aP with
   | none=>exact .inl rfl
   | some l=>
     dsimp only [ip];split<;>exact .inl rfl
 | cU=>
   dsimp only;cases s.aL with
   | none=>exact .inl rfl
   | some t=>
     dsimp only [gU];split<;>exact .inl rfl
 | cM ck=>
   show WH s (gn s M ck).2.2.1 _;unfold gn;dsimp only;split;exact .inl (wo _);split<;>exact .inl rfl
 | bK=>
   show WH s (ff s M).2.2.1 _;unfold ff;dsimp only;split;exact .inl (wo _);split;exact .inl rfl;exact .inl (wo _)
 | di w=>
   show WH s (gA s M w).2.2.1 _;unfold gA;dsimp only;split<;>exact .inl rfl
 | bH w=>exact .inl rfl
 | fb=>exact .inl rfl
 | ey=>exact .inl (zp s)
 | eL p=>
   show WH s (iL s M p).2.2.1 _;unfold iL;dsimp only;split;exact .inl (zp _);exact .inl rfl
theorem HL {c:br} {k:Nat} {s:aJ} (h:nP c k s) (hf:∀x∈s.ay,0<=x/\x<c.nb) (M:Mm):∀x∈(bC s M).2.2.1.ay,0<=x/\x<c.nb:=by
 have hd:=h.d;intro x hx;rcases N9 s M with e|⟨b,hb,e⟩;rw [e] at hx;exact hf x hx;rw [e] at hx;rcases qQ.1 hx with hx|hx;exact hf x hx;rw [List.mem_singleton] at hx;subst hx;cases NG:s.aH with
 | iP k=>
   rw [NG] at hd hb;cases k with
   | dg b v=>
     injection hb with hb;subst hb;exact hd.2
   | _=>cases hb
 | bh r u=>
   rw [NG] at hd hb;cases u with
   | dg b=>
     injection hb with hb;subst hb;exact hd.2.2.2.2.1
   | take=>cases hb
 | _=>rw [NG] at hb;cases hb
variable {c:br} {nt k:Nat} {M:Mm}
structure FM (c:br) (p:fK):Prop where
 eE:p.eE=dU c p.block
 cl0:0<=p.eE
 head:j0 c p.eE p.head
 bW:0<=p.bW/\p.bW<=2
structure nO (c:br) (nt k:Nat) (t:aT):Prop where
 cf:t.cf=c
 nn:t.nt=nt
 wD:0<=t.id/\t.id<nt/\nt<=16
 rU:(cG t.aC).2=0
 pc:0<=t.pc/\t.pc<=t.aC.length
 dn:t.done=decide (t.pc=t.aC.length)
 gH:t.gH.length<=2*k
 sn:t.dF.length<=k
 xL:t.gE.length<=8*k
 AE:∀x∈t.gE,0<=dU c x.1
 vX:0<=t.jB/\t.jB<=k
 zK:0<=t.iR/\t.iR<=k
 nB:0<=t.fC/\t.fC<=k
structure Adv (c:br) (k:Nat) (t:aT) (s:aJ):Prop where
 ok:nP c k s
 st:s.aF=1
 Dj:∀x∈s.ay,0<=x/\x<c.nb
 Ox:t.aW=true->(t.fz.op=12\/t.fz.op=13)/\bT t.aC t.pc.toNat=none
 DQ:t.aW=false->d6 t.aC t.bN.toNat=7/\bT t.aC t.bN.toNat=none/\0<=t.bN/\
  ((t.pc=t.bN/\t.fz.op=7)\/(bT t.aC t.pc.toNat=some t.bN.toNat/\(t.fz.op=10\/t.fz.op=11\/t.fz.op=14\/t.fz.op=15))\/sX s.aH)
structure Rest (c:br) (k:Nat) (t:aT) (s:aJ):Prop where
 ok:nP c k s
 st:s.aF=1
 Dj:∀x∈s.ay,0<=x/\x<c.nb
 Ox:t.aW=false
 DQ:d6 t.aC t.bN.toNat=7/\bT t.aC t.bN.toNat=none/\0<=t.bN/\bT t.aC t.pc.toNat=some t.bN.toNat
structure lw (c:br) (nt k:Nat) (t:aT):Prop where
 co:nO c nt k t
 OX:t.fL=none->t.aW=false/\bT t.aC t.pc.toNat=none
 zY:∀s,t.fL=some s->(if s.jN=true\/t.aW=true then Adv c k t s else Rest c k t s)/\t.done=false/\t.dM=none/\t.gH.length+t.dF.length<=2*k
 fen:∀f,t.dM=some f->t.fL=none/\t.done=false/\t.fz.op=16/\f.aj=t.id/\f.mV=nt/\(0<=f.next/\f.next<=nt)/\(t.dI=none->f.done=false)
 OY:t.dM=none->t.dI=none
 dr:∀l,t.dI=some l->l≠[]/\l.length<=8*k/\∀p∈l,FM c p
section
variable {t:aT} {s:aJ}
theorem nO.mono {k':Nat} (h:nO c nt k t) (hk:k<=k'):nO c nt k' t:=
 ⟨h.cf,h.nn,h.wD,h.rU,h.pc,h.dn,by have:=h.gH;omega,by have:=h.sn;omega,by have:=h.xL;omega,h.AE,by have:=h.vX;omega,by have:=h.zK;omega,by have:=h.nB;omega⟩
theorem nO.lt (h:nO c nt k t) (hd:t.done=false):t.pc<t.aC.length:=by
 have:=h.dn;rw [hd] at this;have h1:¬t.pc=t.aC.length:=by simpa using this.symm
 have:=h.pc;omega
theorem nO.fz (h:nO c nt k t) (hd:t.done=false):∃hk:t.pc.toNat<t.aC.length,t.fz=t.aC[t.pc.toNat]:=by
 have h1:=h.lt hd;have h2:=h.pc;have hk:t.pc.toNat<t.aC.length:=by omega
 refine⟨hk,?_⟩;unfold aT.fz aT.wC;rw [List.getD_eq_getElem?_getD,qk hk];rfl
theorem nO.to (h:nO c nt k t) {pc:Int} (hp:0<=pc/\pc<=t.aC.length):nO c nt k (t.to pc):=⟨h.cf,h.nn,h.wD,h.rU,hp,rfl,h.gH,h.sn,h.xL,h.AE,h.vX,h.zK,h.nB⟩
theorem nO.gy (h:nO c nt k t) (a v:Int):nO c nt k (t.gy a v):=⟨h.cf,h.nn,h.wD,h.rU,h.pc,h.dn,h.gH,h.sn,h.xL,h.AE,h.vX,h.zK,h.nB⟩
theorem nO.pz (h:nO c nt k t) (kd v:Int):nO c nt (k+1) (t.pz kd v):=
 ⟨h.cf,h.nn,h.wD,h.rU,h.pc,h.dn,by have:=h.gH;simp only [aT.pz,qm,qI,List.length_nil];omega,(h.mono (qz k)).sn,(h.mono (qz k)).xL,h.AE,(h.mono (qz k)).vX,(h.mono (qz k)).zK,(h.mono (qz k)).nB⟩
theorem BO (h:nO c nt k t) (ha:t.fL=none) (hs:t.aW=false) (hf:t.dM=none) (hd:t.dI=none) (iK:bT t.aC t.pc.toNat=none):lw c nt k t:=
 ⟨h,λ_=>⟨hs,iK⟩,λs e=>(by rw [ha] at e;cases e),λf e=>(by rw [hf] at e;cases e),λ_=>hd,λl e=>(by rw [hd] at e;cases e)⟩
theorem yI {x:Int} (h:0<=x):(x+1).toNat=x.toNat+1:=by omega
theorem OW (h:nO c nt k t) (cD:t.pc<t.aC.length) (ha:t.fL=none) (hs:t.aW=false) (hf:t.dM=none) (hd:t.dI=none) (iK:bT t.aC t.pc.toNat=none) (h7:d6 t.aC t.pc.toNat≠7) (h8:d6 t.aC t.pc.toNat≠8):lw c nt k t.pG:=by
 have kO:=h.pc;refine BO (h.to (by omega)) ha hs hf hd ?_;show bT t.aC (t.pc+1).toNat=none;rw [yI kO.1];exact BQ iK h7 h8
theorem Kj {f:jC} {nt:Nat} {id:Int} (h1:f.aj=id) (h2:id<nt) (h3:0<=f.next/\f.next<=nt):f.skip.aj=id/\f.skip.mV=f.mV/\(0<=f.skip.next/\f.skip.next<=nt):=by
 unfold jC.skip;split;rename_i e;exact⟨h1,rfl,by dsimp only;omega⟩;exact⟨h1,rfl,h3⟩
theorem LF {f:jC} {id:Int} (h1:f.aj=id) (h2:id<nt) (h3:0<=f.next/\f.next<=nt) (h4:f.mV=nt) (hd:f.done=false) (M:Mm):(fQ f M).2.aj=id/\(fQ f M).2.mV=nt/\(0<=(fQ f M).2.next/\(fQ f M).2.next<=nt):=by
 unfold fQ;rw [aw (by rw [hd];decide)];split;obtain⟨a,b,d⟩:=Kj (f:={ f with fH:=true,AG:=(iA M 3 0).fi }) (nt:=nt) h1 h2 h3;exact⟨a,b.trans h4,d⟩;rename_i hl;have JN:f.fH=true:=by simpa using hl
 have hn:f.next<nt:=by
  unfold jC.done at hd;rw [JN] at hd;simp only [Bool.true_and,decide_eq_false_iff_not] at hd;omega
 split;obtain⟨a,b,d⟩:=Kj (f:={ f with next:=f.next+1 }) (nt:=nt) h1 h2 (by dsimp only;omega);exact⟨a,b.trans h4,d⟩;exact⟨h1,h4,h3⟩
theorem Fl {c:br} (hc:cX c) {b:Int} (h:0<=dU c b):0<=b/\b<c.nb:=by
 have q0:=hc.k0;have q1:=hc.k1;have q2:=hc.k2;have q3:=hc.k3;unfold dU Db at h;unfold br.nb
 repeat' split at h
 all_goals(simp only at h;omega)
theorem MO (hc:cX c) (hM:k9 c nt k M) {p:fK} (h:FM c p):k9 c nt (k+1) (dD p M).2.2/\((dD p M).2.1.bW≠3->FM c (dD p M).2.1):=by
 have xT:=h.bW;have hb:0<=p.block/\p.block<c.nb:=by
  have h1:=h.cl0;rw [h.eE] at h1;exact Fl hc h1
 have xC:=AD hc p.block hb;rw [<-h.eE] at xC;have hh:=h.head;rcases wx p M xT with ⟨h0,e0⟩|⟨h0,w,hw,e0⟩|⟨h0,w,hw,e0⟩;rw [e0];have hg:=E3 hc hM 1 xC.1.1 kE;exact⟨hM.mono (by omega),λ_=>⟨h.eE,h.cl0,hg,by dsimp only;omega⟩⟩;rw [e0];refine⟨hM.op (by omega) _ _ _ λ_=>⟨λe=>by omega,λ_=>?_,λe=>by omega,λe=>by omega⟩,λ_=>⟨h.eE,h.cl0,hh,by dsimp only;omega⟩⟩;have htop:=J0 hh.1;have h64:=hc.nb;have ht2:=hh.2.1;have jx:qd.wrap (qg.wrap (jn p.head+1))=jn p.head+1:=by
  rw [ar (by omega) (by omega),ax (by omega) (by omega)]
 show og c (dU c p.block) w;rw [hw,jx,<-h.eE];refine⟨by omega,by omega,λe=>?_⟩;rw [show jn p.head+1-1=jn p.head by omega];exact hh.2.2 (by omega);rw [e0];refine⟨hM.op (by omega) _ _ _ λ_=>⟨λ_=>?_,λe=>by omega,λe=>by omega,λe=>by omega⟩,λhn=>⟨h.eE,h.cl0,hh,?_⟩⟩;show j0 c p.eE w;rw [hw];exact Fu hc hb.2 λ_=>h.eE.symm;dsimp only at hn ⊢;split;rename_i lQ;rw [aA lQ] at hn;exact absurd rfl hn;omega
theorem rn (h:nO c nt k t) (hd:t.done=false):d6 t.aC t.pc.toNat=t.fz.op:=by
 obtain⟨hk,e⟩:=h.fz hd;rw [K9 hk,e]
theorem Fh {f:jC} {l:List fK} (h:nO c nt k t) (ha:t.fL=none) (hs:t.aW=false) (hd:t.done=false) (FW:t.fz.op=16) (iK:bT t.aC t.pc.toNat=none) (hf:t.dM=some f)
 (h1:f.aj=t.id) (h2:f.mV=nt) (h3:0<=f.next/\f.next<=nt) (hl:t.dI=some l) (bX:l.length<=8*(k+1)) (hp:∀p∈l,FM c p):lw c nt (k+1) t.jP:=by
 unfold aT.jP;rw [hl];have ho:=rn h hd;cases l with
 | nil=>
   have hC:nO c nt (k+1) (({ t with dM:=none,dI:=none }:aT).pz 6 0):=nO.pz (t:={ t with dM:=none,dI:=none }) ⟨h.cf,h.nn,h.wD,h.rU,h.pc,h.dn,h.gH,h.sn,h.xL,h.AE,h.vX,h.zK,h.nB⟩ 6 0;exact OW hC (h.lt hd) ha hs rfl rfl iK (by show d6 t.aC t.pc.toNat≠7;omega) (by show d6 t.aC t.pc.toNat≠8;omega)
 | cons q l=>
   have e:¬(q::l=[]):=λe=>by cases e
   exact⟨h.mono (by omega),λ_=>⟨hs,iK⟩,λs e=>(by rw [ha] at e;cases e),λf' e=>(by rw [hf] at e;injection e with e;subst e;exact⟨ha,hd,FW,h1,h2,h3,λe=>(by rw [hl] at e;cases e)⟩),
    λe=>(by rw [hf] at e;cases e),λl' e'=>(by rw [hl] at e';injection e' with e';subst e';exact⟨e,bX,hp⟩)⟩
theorem Ov (hc:cX c) (hM:k9 c nt k M) {f:jC} (h:nO c nt k t) (ha:t.fL=none) (hs:t.aW=false) (hd:t.done=false) (FW:t.fz.op=16) (iK:bT t.aC t.pc.toNat=none) (hf:t.dM=some f)
 (h1:f.aj=t.id) (h2:f.mV=nt) (h3:0<=f.next/\f.next<=nt) (hn:t.dI=none->f.done=false) (hdl:∀l,t.dI=some l->l≠[]/\l.length<=8*k/\∀p∈l,FM c p) :
 lw c nt (k+1) (t.sZ M f).2.1/\k9 c nt (k+1) (t.sZ M f).2.2:=by
 unfold aT.sZ;cases e:t.dI with
 | none=>
   dsimp only;refine⟨?_,hM.mono (by omega)⟩;obtain⟨a1,a2,a3⟩:=LF h1 h.wD.2.1 h3 h2 (hn e) M;by_cases lQ:(fQ f M).2.done=true;rw [aA lQ];refine Fh (k:=k) (f:=(fQ f M).2) (l:=mm t.cf t.gE (fQ f M).2.nS) ⟨h.cf,h.nn,h.wD,h.rU,h.pc,h.dn,h.gH,h.sn,?_,?_,h.vX,h.zK,h.nB⟩ ha hs hd FW iK rfl a1 a2 a3 rfl ?_ ?_;have:=Z2 (λx:Int×Int=>decide ((fQ f M).2.nS<x.2)) t.gE;have:=h.xL;show (ko t.gE (fQ f M).2.nS).length<=_;unfold ko;omega;intro x hx;exact h.AE x (Z5.1 hx).1;have:=Z2 (λx:Int×Int=>!decide ((fQ f M).2.nS<x.2)) t.gE;have:=h.xL;unfold mm;rw [qD];omega;intro p hp;obtain⟨x,hx,rfl⟩:=List.mem_map.1 hp;have hx2:=h.AE x (Z5.1 hx).1;rw [h.cf];exact⟨rfl,hx2,j0.zero hc _,by dsimp only;omega⟩;rw [aw lQ];unfold aT.jP;dsimp only
   exact⟨nO.mono (k:=k) ⟨h.cf,h.nn,h.wD,h.rU,h.pc,h.dn,h.gH,h.sn,h.xL,h.AE,h.vX,h.zK,h.nB⟩ (by omega),λ_=>⟨hs,iK⟩,λs e=>(by rw [ha] at e;cases e),
    λf' e'=>(by injection e' with e';subst e';exact⟨ha,hd,FW,a1,a2,a3,λ_=>by simpa using lQ⟩),λe'=>(by cases e'),λl' e'=>(by cases e')⟩
 | some l=>
   dsimp only;obtain⟨g1,g2,g3⟩:=hdl l e;cases l with
   | nil=>exact absurd rfl g1
   | cons p l=>
     obtain⟨b1,b2⟩:=MO hc hM (g3 p (List.mem_cons_self ..));refine⟨?_,b1⟩;refine Fh (k:=k) (f:=f) (l:=(zz (p::l) M).2.1) ⟨h.cf,h.nn,h.wD,h.rU,h.pc,h.dn,h.gH,h.sn,h.xL,h.AE,h.vX,h.zK,h.nB⟩ ha hs hd FW iK hf h1 h2 h3 rfl ?_ ?_;show (if (dD p M).2.1.bW=3 then l else (dD p M).2.1::l).length<=_;rw [qI] at g2;split;omega;rw [qI];omega;intro q hq;have xO:q∈(if (dD p M).2.1.bW=3 then l else (dD p M).2.1::l):=hq;split at xO;exact g3 q (List.mem_cons_of_mem _ xO);rename_i h9;rcases List.mem_cons.1 xO with rfl|xO;exact b2 h9;exact g3 q (List.mem_cons_of_mem _ xO)
theorem Pu (hs:s.aF=1) (M:Mm):(bC s M).2.2.1.aF=1\/((bC s M).2.2.1.aF=2/\(bC s M).2.2.1.aH=.bF):=by
 have h:=yB s M;cases e:s.aH<;>rw [e] at h
 case ic=>right;unfold bC;rw [e];exact⟨rfl,rfl⟩
 all_goals exact .inl (h.trans hs)
theorem QR (h:sX s.aH):s.jN=true:=by
 unfold aJ.jN;revert h;cases s.aH<;>first|(intro h;exact absurd h id)|(intro _;rfl)
theorem Qo (h:s.aH=.bF):s.jN=false:=by
 unfold aJ.jN;rw [h];rfl
theorem V8 (h:nO c nt (k+1) t) (AI:t.gH.length+t.dF.length<=2*k) (Ta:t.gE.length<=8*k) (up:s.ay.length<=8) :
 nO c nt (k+1) (t.oS s)/\(t.oS s).gH.length<=2*k/\(t.oS s).fL=none/\(t.oS s).aC=t.aC/\(t.oS s).bN=t.bN/\(t.oS s).aW=t.aW/\(t.oS s).dM=t.dM/\(t.oS s).dI=t.dI/\(t.oS s).iR=t.iR:=by
 unfold aT.oS;split;refine⟨⟨h.cf,h.nn,h.wD,h.rU,h.pc,h.dn,by show (t.gH++t.dF).length<=_;rw [qm];omega,h.sn,?_,?_,h.vX,h.zK,h.nB⟩,by show (t.gH++t.dF).length<=_;rw [qm];omega,rfl,rfl,rfl,rfl,rfl,rfl,rfl⟩;dsimp only;split;unfold nE;have:=Z2 (λb=>decide (0<=dU t.cf b)) s.ay;rw [qm,qD];omega;exact h.xL;intro x hx;dsimp only at hx;split at hx;unfold nE at hx;rcases qQ.1 hx with hx|hx;exact h.AE x hx;obtain⟨b,hb,rfl⟩:=List.mem_map.1 hx;have:=(Z5.1 hb).2;rw [h.cf] at this
 simpa using this
 exact h.AE x hx;exact⟨⟨h.cf,h.nn,h.wD,h.rU,h.pc,h.dn,h.gH,h.sn,h.xL,h.AE,h.vX,h.zK,h.nB⟩,by dsimp only;omega,rfl,rfl,rfl,rfl,rfl,rfl,rfl⟩
theorem V7 (h:nO c nt (k+1) t) (AI:t.gH.length<=2*k) (ha:t.fL=none) (hs:t.aW=false) (hf:t.dM=none) (fa:t.dI=none) (h7:d6 t.aC t.bN.toNat=7) (iK:bT t.aC t.bN.toNat=none) (aC:Int):lw c nt (k+1) (t.kw aC):=by
 obtain⟨e1,e2,e3⟩:=TO h.rU h7 iK;unfold aT.kw;refine BO (nO.to (t:={ t with iR:=0,kR:=aC,gH:=t.gH++[⟨t.bN,3,qd.wrap aC⟩] }) ⟨h.cf,h.nn,h.wD,h.rU,h.pc,h.dn,?_,h.sn,h.xL,h.AE,h.vX,by dsimp only;omega,h.nB⟩ (by dsimp only;omega)) ha hs hf fa ?_;dsimp only;rw [qm,q8];omega;show bT t.aC (((dq t.aC t.bN.toNat:Nat):Int)+1).toNat=none;rw [show (((dq t.aC t.bN.toNat:Nat):Int)+1).toNat=dq t.aC t.bN.toNat+1 by omega];exact e3
theorem fin_ok (h:nO c nt (k+1) t) (AI:t.gH.length+t.dF.length<=2*k) (Ta:t.gE.length<=8*k) (up:s.ay.length<=8) (hs:t.aW=false) (hf:t.dM=none) (fa:t.dI=none)
 (h7:d6 t.aC t.bN.toNat=7) (iK:bT t.aC t.bN.toNat=none) (Tw:0<=t.bN):lw c nt (k+1) (t.bS s):=by
 obtain⟨g1,g2,g3,g4,g5,g6,g7,g8,g9⟩:=V8 (s:=s) h AI Ta up;have Tr:t.bN.toNat<t.aC.length:=rM (by omega);have e2:∀aC,lw c nt (k+1) ((t.oS s).kw aC):=λaC=>V7 g1 g2 g3 (g6.trans hs) (g7.trans hf) (g8.trans fa) (by rw [g4,g5];exact h7) (by rw [g4,g5];exact iK) aC;unfold aT.bS;split;split;refine BO (g1.to (by rw [g4];omega)) g3 (g6.trans hs) (g7.trans hf) (g8.trans fa) ?_;show bT (t.oS s).aC t.bN.toNat=none;rw [g4];exact iK;exact e2 _;exact e2 _
theorem Bm (h:nO c nt (k+1) t) (AI:t.gH.length<=2*k) (hd:t.done=false) (ha:t.fL=none) (hs:t.aW=false) (hf:t.dM=none) (fa:t.dI=none) (mg:t.fz.op=12\/t.fz.op=13) (iK:bT t.aC t.pc.toNat=none) (kd v:Int):lw c nt (k+1) (t.pz kd v).pG:=by
 have ho:=rn h hd;have hC:nO c nt (k+1) (t.pz kd v):=⟨h.cf,h.nn,h.wD,h.rU,h.pc,h.dn,by simp only [aT.pz,qm,q8];omega,h.sn,h.xL,h.AE,h.vX,h.zK,h.nB⟩;exact OW hC (h.lt hd) ha hs hf fa iK (by show d6 t.aC t.pc.toNat≠7;omega) (by show d6 t.aC t.pc.toNat≠8;omega)
theorem FG (h:nO c nt (k+1) t) (AI:t.gH.length<=2*k) (hd:t.done=false) (ha:t.fL=none) (hs:t.aW=false) (hf:t.dM=none) (fa:t.dI=none) (mg:t.fz.op=12\/t.fz.op=13) (iK:bT t.aC t.pc.toNat=none) (i:bm) (v:Int):lw c nt (k+1) (t.Ch i v):=by
 unfold aT.Ch;split;exact Bm (h.gy _ _) AI hd ha hs hf fa mg iK _ _;exact Bm h AI hd ha hs hf fa mg iK _ _
theorem QT (h:nO c nt (k+1) t) (AI:t.gH.length<=2*k) (hd:t.done=false) (hf:t.dM=none) (fa:t.dI=none) (mg:t.fz.op=12\/t.fz.op=13) (iK:bT t.aC t.pc.toNat=none) (i:bm):lw c nt (k+1) (t.ln i s):=by
 have h1:nO c nt (k+1) ({ t with fL:=none,aW:=false }:aT):=⟨h.cf,h.nn,h.wD,h.rU,h.pc,h.dn,h.gH,h.sn,h.xL,h.AE,h.vX,h.zK,h.nB⟩;unfold aT.ln;dsimp only;split;exact FG h1 AI hd rfl rfl hf fa mg iK _ _;split;exact Bm h1 AI hd rfl rfl hf fa mg iK _ _;exact BO h1 rfl rfl hf fa iK
theorem Jr (hc:cX c) (hk:k<2^40) (hM:k9 c nt k M) (h:nO c nt (k+1) t) (AI:t.gH.length+t.dF.length<=2*k) (hsn:t.dF.length<=k) (Ta:t.gE.length<=8*k) (hd:t.done=false) (hf:t.dM=none) (fa:t.dI=none) (hA:Adv c k t s) :
 lw c nt (k+1) (t.vN M s).2.2.1/\k9 c nt (k+1) (t.vN M s).2.2.2:=by
 obtain⟨VW,Xp⟩:=xj hc hk hA.ok hM;have dy:=Pu hA.st M;have GL:=HL hA.ok hA.Dj M;have pW:=λh=>QQ (s:=s) h hA.st M;unfold aT.vN;dsimp only;generalize bC s M=r at VW Xp dy pW GL ⊢;obtain⟨a,ph,s',M'⟩:=r;dsimp only at VW Xp dy pW GL ⊢;refine⟨?_,Xp⟩;have h1:nO c nt (k+1) ({ t with fL:=some s' }:aT):=⟨h.cf,h.nn,h.wD,h.rU,h.pc,h.dn,h.gH,h.sn,h.xL,h.AE,h.vX,h.zK,h.nB⟩;have up:s'.ay.length<=8:=by
  have e1:=VW.b.Dj;have e2:=hc.ay;omega
 have ho:=rn h hd;have cD:=h.lt hd;have kO:=h.pc;by_cases hb:s'.jN=true;rw [aA hb];have O4:s'.aF=1:=by
  rcases dy with e|⟨_,e⟩;exact e;rw [Qo e] at hb;cases hb
 refine⟨h1,λe=>(by cases e),λs2 e=>?_,λf e=>(by rw [hf] at e;cases e),λ_=>fa,λl e=>(by rw [fa] at e;cases e)⟩;injection e with e;subst e;refine⟨?_,hd,hf,by dsimp only;omega⟩;rw [aA (.inl hb)];refine⟨VW,O4,GL,hA.Ox,λe=>?_⟩;obtain⟨w1,w2,w3,w4⟩:=hA.DQ e;refine⟨w1,w2,w3,?_⟩;rcases w4 with w|w|w;exact .inl w;exact .inr (.inl w);rcases pW w with ⟨_,w⟩|⟨w,_⟩;exact .inr (.inr w);omega;rw [aw hb];have kS:s'.jN=false:=by simpa using hb
 unfold aT.tx;rcases dy with e1|⟨e2,_⟩;rw [aw (by omega)];have gT:¬sX s.aH:=λw=>by
  rcases pW w with ⟨_,w⟩|⟨w,_⟩;rw [QR w] at kS;cases kS;omega
 by_cases hs:t.aW=true;rw [aA hs];refine⟨h1,λe=>(by cases e),λs2 e=>?_,λf e=>(by rw [hf] at e;cases e),λ_=>fa,λl e=>(by rw [fa] at e;cases e)⟩;injection e with e;subst e;refine⟨?_,hd,hf,by dsimp only;omega⟩;rw [aA (.inr hs)];exact⟨VW,e1,GL,hA.Ox,λe=>(by rw [hs] at e;cases e)⟩;rw [aw hs];have Qq:t.aW=false:=by simpa using hs
 obtain⟨w1,w2,w3,w4⟩:=hA.DQ Qq;have iK:bT t.aC (t.pc+1).toNat=some t.bN.toNat:=by
  rw [yI kO.1];rcases w4 with ⟨w,w'⟩|⟨w,w'⟩|w;rw [w];exact N5 w2 w1;exact BQ w (by omega) (by omega);exact absurd w gT
 have oP:t.pc+1<t.aC.length:=by
  rcases Int.lt_or_le (t.pc+1) t.aC.length with e|e;exact e;have e9:(t.pc+1).toNat=t.aC.length:=by omega
  rw [e9,(gY h.rU).2.2] at iK;cases iK
 have bS:∀t2:aT,nO c nt (k+1) t2->t2.fL=some s'->t2.aW=false->t2.dM=none->t2.dI=none->t2.aC=t.aC->t2.bN=t.bN->t2.pc=t.pc->t2.gH.length+t2.dF.length<=2*(k+1)->lw c nt (k+1) t2.pG:=by
  intro t2 g1 g2 g3 g4 g5 g6 g7 g8 g9;have mh:nO c nt (k+1) t2.pG:=g1.to (by rw [g6,g8];omega);refine⟨mh,λe=>?_,λs2 e=>?_,λf e=>?_,λ_=>g5,λl e=>?_⟩;have e':t2.fL=none:=e;rw [g2] at e';cases e';have e':t2.fL=some s2:=e;rw [g2] at e';injection e' with e';subst e';refine⟨?_,?_,g4,g9⟩;rw [aw (by rw [kS];show ¬(false=true\/t2.aW=true);rw [g3];simp)];refine⟨VW,e1,GL,g3,?_⟩;show d6 t2.aC t2.bN.toNat=7/\bT t2.aC t2.bN.toNat=none/\0<=t2.bN/\bT t2.aC (t2.pc+1).toNat=some t2.bN.toNat;rw [g6,g7,g8];exact⟨w1,w2,w3,iK⟩;show decide (t2.pc+1=t2.aC.length)=false;rw [g6,g8];exact decide_eq_false (by omega);have e':t2.dM=some f:=e;rw [g4] at e';cases e';have e':t2.dI=some l:=e;rw [g5] at e';cases e'
 have NE:∀r kd v,nO c nt (k+1) (({ t with fL:=some s' }:aT).fi r kd v):=λr kd v=>⟨h.cf,h.nn,h.wD,h.rU,h.pc,h.dn,h.gH,by simp only [aT.fi,aT.gy,qm,q8];omega,h.xL,h.AE,h.vX,h.zK,h.nB⟩;split;exact bS _ (NE _ _ _) rfl Qq hf fa rfl rfl rfl (by simp only [aT.fi,aT.gy,qm,q8];omega);split;exact bS _ (NE _ _ _) rfl Qq hf fa rfl rfl rfl (by simp only [aT.fi,aT.gy,qm,q8];omega);exact bS _ h1 rfl Qq hf fa rfl rfl rfl (by dsimp only;omega);rw [aA e2];by_cases hs:t.aW=true;rw [aA hs];obtain⟨w1,w2⟩:=hA.Ox hs;exact QT h1 (by dsimp only;omega) hd hf fa w1 w2 _;rw [aw hs];have Qq:t.aW=false:=by simpa using hs
 obtain⟨w1,w2,w3,w4⟩:=hA.DQ Qq;exact fin_ok h1 AI Ta up Qq hf fa w1 w2 w3
variable {d8:Int->Int->Int->Int}
theorem SI (h:nO c nt k t) (hd:t.done=false) (GK:t.fz.op≠7/\t.fz.op≠8):∃pc,nO c nt k (t.iP d8 t.fz)/\(t.iP d8 t.fz).pc=pc/\(0<=pc/\pc<=t.aC.length)/\bT t.aC pc.toNat=bT t.aC t.pc.toNat/\(t.iP d8 t.fz).done=decide (pc=t.aC.length)/\(t.iP d8 t.fz).aC=t.aC/\(t.iP d8 t.fz).fL=t.fL/\(t.iP d8 t.fz).aW=t.aW/\(t.iP d8 t.fz).dM=t.dM/\(t.iP d8 t.fz).dI=t.dI/\(t.iP d8 t.fz).bN=t.bN/\(t.iP d8 t.fz).gH=t.gH/\(t.iP d8 t.fz).dF=t.dF:=by
 have cD:=h.lt hd;have kO:=h.pc;obtain⟨jz,hi⟩:=h.fz hd;have ho:=rn h hd;have hnx:bT t.aC (t.pc+1).toNat=bT t.aC t.pc.toNat:=by
  rw [yI kO.1];exact BQ rfl (by omega) (by omega)
 have hpc2:∃pc,pc=(t.pc+1+if t.fz.op=4\/(t.fz.op=5/\t.dE.bp t.fz.a=0)\/(t.fz.op=6/\t.dE.bp t.fz.a≠0) then t.fz.bR else 0)/\(0<=pc/\pc<=t.aC.length)/\bT t.aC pc.toNat=bT t.aC t.pc.toNat:=by
  refine⟨_,rfl,?_⟩;split;rename_i hj;have Qy:t.aC[t.pc.toNat].op=4\/t.aC[t.pc.toNat].op=5\/t.aC[t.pc.toNat].op=6:=by
   rw [<-hi];omega
  obtain⟨j1,j2⟩:=Ql h.rU jz Qy;obtain⟨_,j3⟩:=RN h.rU jz Qy;rw [<-hi] at j1 j2 j3;refine⟨by omega,?_⟩;rw [<-j2];congr 1;omega;refine⟨by omega,?_⟩;rw [Int.add_zero];exact hnx
 obtain⟨pc,he,hr,iK⟩:=hpc2;refine⟨pc,?_,?_,hr,iK,?_⟩;unfold aT.iP;rw [<-he];split;exact(h.gy _ _).to hr;split;exact(h.gy _ _).to hr;split;exact(h.gy _ _).to hr;split;exact(h.gy _ _).to hr;exact h.to hr;unfold aT.iP;rw [<-he];rfl;unfold aT.iP;rw [<-he];have e:∀t2:aT,t2.aC=t.aC->t2.fL=t.fL->t2.aW=t.aW->t2.dM=t.dM->t2.dI=t.dI->t2.bN=t.bN->t2.gH=t.gH->t2.dF=t.dF->(t2.to pc).done=decide (pc=t.aC.length)/\(t2.to pc).aC=t.aC/\(t2.to pc).fL=t.fL/\(t2.to pc).aW=t.aW/\(t2.to pc).dM=t.dM/\(t2.to pc).dI=t.dI/\(t2.to pc).bN=t.bN/\(t2.to pc).gH=t.gH/\(t2.to pc).dF=t.dF:=by
  intro t2 a1 a2 a3 a4 a5 a6 a7 a8;refine⟨?_,a1,a2,a3,a4,a5,a6,a7,a8⟩;show decide (pc=t2.aC.length)=_;rw [a1]
 split;exact e _ rfl rfl rfl rfl rfl rfl rfl rfl;split;exact e _ rfl rfl rfl rfl rfl rfl rfl rfl;split;exact e _ rfl rfl rfl rfl rfl rfl rfl rfl;split;exact e _ rfl rfl rfl rfl rfl rfl rfl rfl;exact e _ rfl rfl rfl rfl rfl rfl rfl rfl
theorem Vn (h:nO c nt k t) (hd:t.done=false) (GK:t.fz.op≠7/\t.fz.op≠8) (ha:t.fL=none) (hs:t.aW=false) (hf:t.dM=none) (fa:t.dI=none) (iK:bT t.aC t.pc.toNat=none):lw c nt (k+1) (t.iP d8 t.fz):=by
 obtain⟨pc,g0,g1,g2,g3,g4,g5,g6,g7,g8,g9,mh,kT,rp⟩:=SI (d8:=d8) h hd GK;exact BO (g0.mono (by omega)) (g6.trans ha) (g7.trans hs) (g8.trans hf) (g9.trans fa) (by rw [g5,g1,g3];exact iK)
theorem Hd (hc:cX c) (hk:k<2^40) (hM:k9 c nt k M) (h:nO c nt (k+1) t) (hcn:t.jB<=k) (AI:t.gH.length<=2*k) (Ta:t.gE.length<=8*k) (hd:t.done=false) (hf:t.dM=none) (fa:t.dI=none)
 (hs:t.aW=true->(t.fz.op=12\/t.fz.op=13)/\bT t.aC t.pc.toNat=none) (hw:t.aW=false->t.pc=t.bN/\t.fz.op=7/\bT t.aC t.pc.toNat=none) :
 lw c nt (k+1) (t.sy.vN M (fU (eP t.cf t.id)).2).2.2.1/\k9 c nt (k+1) (t.sy.vN M (fU (eP t.cf t.id)).2).2.2.2:=by
 have JO:=h.wD;have hcn0:=h.vX;have h1:nO c nt (k+1) t.sy:=⟨h.cf,h.nn,h.wD,h.rU,h.pc,h.dn,h.gH,by show ([]:List j7).length<=_;simp,h.xL,h.AE,by show 0<=t.jB+1/\t.jB+1<=((k+1:Nat):Int);omega,h.zK,h.nB⟩;have hn:(eP t.cf t.id).mi 0=true:=rfl;have hb:nP c k (fU (eP t.cf t.id)).2:=B9 (by rw [h.cf];exact yY hc k t.id (by omega));have dy:(fU (eP t.cf t.id)).2.aF=1:=by unfold fU;rw [aA hn]
 have hbf:∀x∈(fU (eP t.cf t.id)).2.ay,0<=x/\x<c.nb:=by
  unfold fU;rw [aA hn];intro x hx;cases hx
 refine Jr hc hk hM h1 (by show t.gH.length+([]:List j7).length<=_;simpa using AI) (by show ([]:List j7).length<=_;simp) Ta hd hf fa ⟨hb,dy,hbf,hs,λe=>?_⟩;obtain⟨w1,w2,w3⟩:=hw e;have kO:=h.pc;have ho:=rn h hd;show d6 t.aC t.bN.toNat=7/\bT t.aC t.bN.toNat=none/\0<=t.bN/\_;rw [<-w1];exact⟨ho.trans w2,w3,kO.1,.inl ⟨w1,w2⟩⟩
theorem Sd (hc:cX c) (hk:k<2^40) (hM:k9 c nt k M) (h:nO c nt k t) (hd:t.done=false) (ha:t.fL=none) (hs:t.aW=false) (hf:t.dM=none) (fa:t.dI=none) (iK:bT t.aC t.pc.toNat=none) (mg:t.fz.op=12\/t.fz.op=13) :
 lw c nt (k+1) (t.plain M t.fz).2.2.1/\k9 c nt (k+1) (t.plain M t.fz).2.2.2:=by
 have h':=h.mono (qz k);have AI:=h.gH;unfold aT.plain;dsimp only;split;refine⟨?_,hM.mono (by omega)⟩;split;exact Bm (h'.gy _ _) AI hd ha hs hf fa mg iK _ _;exact Bm h' AI hd ha hs hf fa mg iK _ _;split;exact Hd hc hk hM (t:={ t with aW:=true,fC:=0 }) ⟨h'.cf,h'.nn,h'.wD,h'.rU,h'.pc,h'.dn,h'.gH,h'.sn,h'.xL,h'.AE,h'.vX,h'.zK,by dsimp only;omega⟩ h.vX.2 AI h.xL hd hf fa (λ_=>⟨mg,iK⟩) (λe=>(by cases e));split;exact⟨FG h' AI hd ha hs hf fa mg iK _ _,hM.mono (by omega)⟩;exact⟨FG h' AI hd ha hs hf fa mg iK _ _,hM.op0 (by omega) _ _ _ (by decide)⟩
theorem ML (hc:cX c) (h:nP c k s) (i:bm):nP c k (t.Gn i s):=by
 have u0:∀x,0<=qd.wrap x:=λx=>(ja x).1;unfold aT.Gn;split;exact R9 hc h _ (u0 _);split;exact Ry h _ _ (u0 _);split;exact alS_ok hc h _;split;exact frS_ok hc h _;split;exact NY h _;split;exact NY h _;exact h
theorem BI (hs:s.aF=1) (i:bm):(t.Gn i s).aF=1:=by
 have key:∀r:aJ,(r=s\/r.aF=1)->r.aF=1:=λr h=>by
  rcases h with rfl|h;exact hs;exact h
 unfold aT.Gn;split;exact key _ (OD s _);split;exact key _ (Ou s _ _);split;exact key _ (Wx s _);split;exact key _ (V1 s _);split;exact key _ (I6 s _);split;exact key _ (I6 s _);exact hs
theorem Sa (s:aJ) (a:Int):(Hm s a).2.ay=s.ay:=by unfold Hm;(repeat' split)<;>rfl
theorem Rz (s:aJ) (a v:Int):(F1 s a v).2.ay=s.ay:=by unfold F1;split<;>rfl
theorem alS_fr (s:aJ) (a:Int):(L0 s a).2.ay=s.ay:=by unfold L0;(repeat' split)<;>rfl
theorem frS_fr (s:aJ) (a:Int):(LA s a).2.ay=s.ay:=by unfold LA;(repeat' split)<;>rfl
theorem NZ (s:aJ) (a:Int):(Dk s a).2.ay=s.ay:=by unfold Dk;(repeat' split)<;>rfl
theorem Hi (hf:∀x∈s.ay,0<=x/\x<c.nb) (i:bm):∀x∈(t.Gn i s).ay,0<=x/\x<c.nb:=by
 have e:(t.Gn i s).ay=s.ay:=by
  unfold aT.Gn;split;exact Sa _ _;split;exact Rz _ _ _;split;exact alS_fr _ _;split;exact frS_fr _ _;split;exact NZ _ _;split;exact NZ _ _;rfl
 rw [e];exact hf
theorem HM (hf:∀x∈s.ay,0<=x/\x<c.nb) (i:bm):∀x∈(t.uj i s).ay,0<=x/\x<c.nb:=by
 have e:(t.uj i s).ay=s.ay:=by
  unfold aT.uj;split;exact NZ _ _;split;exact Sa _ _;exact Rz _ _ _
 rw [e];exact hf
theorem DD (hs:s.aF=1) (hb:s.jN=false) {aC:Int} (HC:aC=1\/aC=2):sX (Dk s aC).2.aH:=by
 have hf:s.mi 1=true:=by
  unfold aJ.jN at hb;unfold aJ.mi;rw [hs]
  simpa using hb
 unfold Dk;rw [aA hf,aw (by omega)];trivial
theorem Oa (hs:s.aF=1) (i:bm):(t.uj i s).aF=1:=by
 have key:∀r:aJ,(r=s\/r.aF=1)->r.aF=1:=λr h=>by
  rcases h with rfl|h;exact hs;exact h
 unfold aT.uj;split;exact key _ (I6 s _);split;exact key _ (OD s _);exact key _ (Ou s _ _)
theorem Ob (hc:cX c) (h:nP c k s) (i:bm):nP c k (t.uj i s):=by
 have u0:∀x,0<=qd.wrap x:=λx=>(ja x).1;unfold aT.uj;split;exact NY h _;split;refine R9 hc h _ ?_;unfold aT.nU;split<;>exact u0 _;refine Ry h _ _ ?_;unfold aT.nU;split<;>exact u0 _
theorem QN (hc:cX c) (hk:k<2^40) (hM:k9 c nt k M) (h:nO c nt k t) (hd:t.done=false) (ha:t.fL=none) (hs:t.aW=false) (hf:t.dM=none) (fa:t.dI=none) (iK:bT t.aC t.pc.toNat=none) :
 lw c nt (k+1) (t.k7 d8 M t.fz).2.2.1/\k9 c nt (k+1) (t.k7 d8 M t.fz).2.2.2:=by
 have h':=h.mono (qz k);obtain⟨jz,hi⟩:=h.fz hd;have mO:=(tQ h.rU jz).1 iK;rw [<-hi] at mO;have htr:=h.zK;unfold aT.k7;split;rename_i h7;exact Hd hc hk hM (t:={ t with bN:=t.pc,lH:=t.dE,iR:=t.iR+1 }) ⟨h'.cf,h'.nn,h'.wD,h'.rU,h'.pc,h'.dn,h'.gH,h'.sn,h'.xL,h'.AE,h'.vX,by dsimp only;omega,h'.nB⟩ h.vX.2 h.gH h.xL hd hf fa (λe=>(by rw [show t.aW=true from e] at hs;cases hs)) (λ_=>⟨rfl,h7,iK⟩);rename_i h7;rw [ha];dsimp only;split;rename_i mg;exact Sd hc hk hM h hd ha hs hf fa iK mg;split;rename_i FW;exact Ov hc hM (t:={ t with fL:=none,dM:=some ⟨t.id,t.nt,false,0,0⟩ }) (f:=⟨t.id,t.nt,false,0,0⟩) ⟨h.cf,h.nn,h.wD,h.rU,h.pc,h.dn,h.gH,h.sn,h.xL,h.AE,h.vX,h.zK,h.nB⟩ rfl hs hd FW iK rfl rfl h.nn (by dsimp only;omega) (λ_=>rfl) (λl e=>(by rw [show t.dI=some l from e] at fa;cases fa));exact⟨Vn h hd ⟨h7,mO.1⟩ ha hs hf fa iK,hM.mono (by omega)⟩
theorem QM (hc:cX c) (hk:k<2^40) (hM:k9 c nt k M) (h:nO c nt k t) (hd:t.done=false) (ha:t.fL=some s) (hf:t.dM=none) (fa:t.dI=none) (AI:t.gH.length+t.dF.length<=2*k) (hR:Rest c k t s) (hb:s.jN=false) :
 lw c nt (k+1) (t.k7 d8 M t.fz).2.2.1/\k9 c nt (k+1) (t.k7 d8 M t.fz).2.2.2:=by
 have h':=h.mono (qz k);obtain⟨jz,hi⟩:=h.fz hd;obtain⟨w1,w2,w3,w4⟩:=hR.DQ;have mO:=(tQ h.rU jz).2.1 _ w4;rw [<-hi] at mO;unfold aT.k7;rw [aw mO.1,ha];dsimp only;split;rename_i mg;refine Jr hc hk hM (t:={ t with fL:=some (t.Gn t.fz s) }) ⟨h'.cf,h'.nn,h'.wD,h'.rU,h'.pc,h'.dn,h'.gH,h'.sn,h'.xL,h'.AE,h'.vX,h'.zK,h'.nB⟩ AI h.sn h.xL hd hf fa ⟨ML hc hR.ok _,BI hR.st _,Hi hR.Dj _,λe=>(by have e2:t.aW=true:=e;rw [hR.Ox] at e2;cases e2),λ_=>⟨w1,w2,w3,?_⟩⟩;by_cases h89:t.fz.op=8\/t.fz.op=9;right;right;unfold aT.Gn;rw [aw (by omega),aw (by omega),aw (by omega),aw (by omega)];split;exact DD hR.st hb (.inl rfl);rw [aA (by omega)];exact DD hR.st hb (.inr rfl);exact .inr (.inl ⟨w4,by show t.fz.op=10\/t.fz.op=11\/t.fz.op=14\/t.fz.op=15;omega⟩);rename_i mg;refine⟨?_,hM.mono (by omega)⟩;obtain⟨pc,g0,g1,g2,g3,g4,g5,g6,g7,g8,g9,mh,kT,rp⟩:=SI (d8:=d8) h hd ⟨mO.1,by omega⟩;have iK:bT t.aC pc.toNat=some t.bN.toNat:=g3.trans w4
 have oP:¬pc=t.aC.length:=λe=>by
  rw [show pc.toNat=t.aC.length by omega,(gY h.rU).2.2] at iK;cases iK
 refine⟨g0.mono (by omega),λe=>(by rw [g6,ha] at e;cases e),λs2 e=>?_,λf e=>(by rw [g8,hf] at e;cases e),λ_=>g9.trans fa,λl e=>(by rw [g9,fa] at e;cases e)⟩;rw [g6,ha] at e;injection e with e;subst e;refine⟨?_,by rw [g4];exact decide_eq_false oP,g8.trans hf,by rw [kT,rp];omega⟩;rw [aw (by rw [g7,hb,hR.Ox];simp)];exact⟨hR.ok.mono (by omega),hR.st,hR.Dj,g7.trans hR.Ox,by rw [g5,mh,g1];exact⟨w1,w2,w3,iK⟩⟩
theorem RW (hc:cX c) (hk:k<2^40) (hM:k9 c nt k M) (h:lw c nt k t) (hd:t.done=false):lw c nt (k+1) (t.lX d8 M).2.2.1/\k9 c nt (k+1) (t.lX d8 M).2.2.2:=by
 have pX:=h.co;have BW:=pX.mono (qz k);have hak:=pX.nB;unfold aT.lX;cases hf:t.dM with
 | some f=>
   obtain⟨g1,g2,g3,g4,g5,g6,g7⟩:=h.fen f hf;obtain⟨g8,g9⟩:=h.OX g1;exact Ov hc hM pX g1 g8 hd g3 g9 hf g4 g5 g6 g7 h.dr
 | none=>
   have fa:=h.OY hf;dsimp only;cases ha:t.fL with
   | none=>
     obtain⟨g8,g9⟩:=h.OX ha;exact QN hc hk hM pX hd ha g8 hf fa g9
   | some s=>
     obtain⟨g1,_,_,g2⟩:=h.zY s ha;dsimp only;by_cases hb:s.jN=true;rw [aA hb];rw [aA (.inl hb)] at g1;exact Jr hc hk hM BW g2 pX.sn pX.xL hd hf fa g1;rw [aw hb];have kS:s.jN=false:=by simpa using hb
     by_cases hs:t.aW=true;rw [aA hs];rw [aA (.inr hs)] at g1;exact Jr hc hk hM (t:=t.ask t.fz s) ⟨BW.cf,BW.nn,BW.wD,BW.rU,BW.pc,BW.dn,BW.gH,BW.sn,BW.xL,BW.AE,BW.vX,BW.zK,by show 0<=t.fC+1/\t.fC+1<=((k+1:Nat):Int);omega⟩ g2 pX.sn pX.xL hd hf fa ⟨Ob hc g1.ok _,Oa g1.st _,HM g1.Dj _,g1.Ox,λe=>(by rw [show t.aW=false from e] at hs;cases hs)⟩;rw [aw hs];rw [aw (by rw [kS];simpa using hs)] at g1;exact QM hc hk hM pX hd ha hf fa g2 g1 kS
theorem Qe {id:Int} (JO:0<=id/\id<nt/\nt<=16) {p:List bm} (hp:(cG p).2=0):lw c nt 0 (nX c id nt p):=by
 refine BO ⟨rfl,rfl,JO,hp,⟨qE _,by show (0:Int)<=p.length;omega⟩,?_,qG _,qG _,qG _,λx hx=>(by cases hx),⟨qE _,qE _⟩,⟨qE _,qE _⟩,⟨qE _,qE _⟩⟩ rfl rfl rfl rfl rfl;show decide (p.length=0)=decide ((0:Int)=p.length);by_cases e:p.length=0;simp [e];rw [decide_eq_false e,decide_eq_false (by omega)]
theorem lw.mono {k':Nat} (h:lw c nt k t) (hk:k<=k'):lw c nt k' t:=by
 refine⟨h.co.mono hk,h.OX,λs e=>?_,h.fen,h.OY,λl e=>?_⟩;obtain⟨g1,g2,g3,g4⟩:=h.zY s e;refine⟨?_,g2,g3,by omega⟩;split;rename_i hb;rw [aA hb] at g1;exact⟨g1.ok.mono hk,g1.st,g1.Dj,g1.Ox,g1.DQ⟩;rename_i hb;rw [aw hb] at g1;exact⟨g1.ok.mono hk,g1.st,g1.Dj,g1.Ox,g1.DQ⟩;obtain⟨g1,g2,g3⟩:=h.dr l e;exact⟨g1,by omega,g3⟩
end
end
section
namespace TGFbA
theorem mK [Gl] {A:AW} {L:List It} {T:Prop} (hS:ah A L) (hw:A.Wf) (h':(aV A L/\bq A L/\bQ L)=T:=by first|(dsimp only [aa,af,aV,bq,bQ,eQ];done)|exact rfl):T:=h'▸hS.eJ hw
end TGFbA
open TGFbA
variable [Gl]
def az (i:bm):List Value:=[.int .i64 i.op,.int .i64 i.a,.int .i64 i.b,.int .i64 i.c,.int .i64 i.bR]
def ly (A:AW) (v:Value) (p:List bm):Prop:=fW A 5 v p.length (p.flatMap az)
theorem EH:∀(l:List bm) (j:Nat) (hj:j<l.length),((l.flatMap az).drop (j*5)).take 5=az l[j]
 | x::l,0,_=>by simp [az]
 | x::l,j+1,h=>by
   have:=EH l j (by simpa using h);have e:(j+1)*5=(az x).length+j*5:=(by simp [az];omega);rw [List.flatMap_cons,e,<-List.drop_drop,List.drop_left]
   simpa using this
theorem ly.cy {A:AW} {v:Value} {l:List bm} (h:ly A v l):∃o c,v=.slice o l.length c/\l.length<=c:=fW.cy h
theorem ly.le {A B:AW} (hl:A.le B) (hw:A.Wf) {v:Value} {l:List bm} (h:ly A v l):ly B v l:=fW.le hl hw h
theorem ly.at {A:AW} {o:Option Addr} {c n:Nat} {l:List bm} (h:ly A (.slice o n c) l) {i:Nat} (hi:i<l.length) :
 ∃p b8,o=some p/\A.b8 p.block=some b8/\p.off+i*5+5<=b8.length/\(b8.drop (p.off+i*5)).take 5=az l[i]:=by
 rcases h with ⟨⟨o,h1⟩,h2,_⟩|⟨p,c,b8,own,u,h1,h2,h3,h4,h5,h6⟩;omega;injection h1 with h1 _ _;refine⟨p,b8,h1,AW.yP h3,by omega,?_⟩;rw [<-EH l i hi,h6,<-List.drop_drop,List.drop_take,List.take_take];congr 1;omega
theorem KY {b8:List Value} {b:Nat} {x:bm} (h:(b8.drop b).take 5=az x) (q:Nat) (hq:q<5):b8[b+q]? = (az x)[q]?:=by
 rw [<-h,List.getElem?_take_of_lt hq,List.getElem?_drop]
theorem wB {b8:List Value} {b:Nat} {x:bm} (h:(b8.drop b).take 5=az x):b8[b]? = some (.int .i64 x.op):=KY h 0 (by omega)
theorem wP (v:Value) (p:List bm) (b:Nat) (A:AW) (h:ly A v p) (hl:p.length<2^30) (hb:b<p.length) :
 aD Tryz.prog 157 [v,.int .i64 b] A (λu A'=>u=.int .i64 (dq p b)/\A=A'):=by
 refine aN Tryz.func157 λhw=>?_;obtain⟨o,c,rfl,_⟩:=h.cy;have Lb:qg.wrap ((b:Int)+1)=((b+1:Nat):Int):=ar (by omega) (by omega);revert hw;refine W cF (J1 Lb) ?_<;>(unhygienic intros);refine ef (λk fr A'=>A=A'/\∃i:Nat,k=p.length-i/\i<=p.length/\fr 0=.slice o p.length c/\fr 5=.int .i64 i/\dq p b=li p i) (p.length-(b+1)) ?_ ?_;exact⟨rfl,b+1,rfl,by omega,rfl,rfl,rfl⟩;rintro k fr A' ⟨rfl,i,rfl,hi,h0,h5,he⟩;by_cases cD:i<p.length;obtain⟨q,b8,rfl,bV,fO,hcell⟩:=h.at cD;have mg:=wB hcell;have gS:=By (i:=i);have dy:=uQ cD;have ho:d6 p i=p[i].op:=lE (qk cD);rw [ho] at dy;by_cases h8:p[i].op=8;rw [aA h8] at dy;refine ba ?_;refine W cF (J8 h0 h5 bV mg fO cD gS h8) ?_<;>intros;simp [he,dy];rw [aw h8] at dy;refine ba ?_;refine W cF (J8 h0 h5 bV mg fO cD gS h8) ?_<;>intros;refine⟨p.length-(i+1),by omega,rfl,i+1,rfl,by omega,?_,?_,?_⟩;simp [h0];simp;rw [he,dy];have vT:i=p.length:=by omega
 refine ba ?_;refine W cF (J3 h0 h5 cD) ?_<;>intros;subst vT;simp [he,BS (qf _)]
theorem Qm (v:Value) (p:List bm) (k t:Nat) (A:AW) (h:ly A v p) (hl:p.length<2^30) (hk:k<p.length) (ht:t<=p.length) :
 aD Tryz.prog 158 [v,.int .i64 k,.int .i64 t] A (λu A'=>u=.bool (gX p k t)/\A=A'):=by
 refine aN Tryz.func158 λhw=>?_;obtain⟨o,c,rfl,_⟩:=h.cy;have Lb:qg.wrap ((k:Int)+1)=((k+1:Nat):Int):=ar (by omega) (by omega);have W6:qg.wrap ((p.length:Int)-1)=((p.length-1:Nat):Int):=by rw [ar (by omega) (by omega)];omega
 revert hw;refine W cF (J1 Lb) ?_<;>(unhygienic intros)
 refine ef (λn fr A'=>A=A'/\∃i:Nat,n=t-i/\k+1<=i/\fr 0=.slice o p.length c/\fr 2=.int .i64 t/\fr 7=.int .i64 i/\
  (gX p k t=true↔∃b,i<=b/\b<t/\d6 p b=7/\t<=min (dq p b) (p.length-1))) (t-(k+1)) ?_ ?_
 refine⟨rfl,k+1,rfl,qf _,rfl,rfl,rfl,?_⟩;rw [gX,List.any_eq_true];constructor;rintro ⟨b,hb,hh⟩;simp only [qq,decide_eq_true_eq] at hh;exact⟨b,by omega,qy.1 hb,hh.1.2,hh.2⟩;rintro ⟨b,h1,h2,h3,h4⟩;exact⟨b,qy.2 h2,by simp only [qq,decide_eq_true_eq];exact⟨⟨by omega,h3⟩,h4⟩⟩;rintro n fr A' ⟨rfl,i,rfl,hi,h0,h2,h7,he⟩;by_cases cD:i<t;have vT:i<p.length:=by omega
 obtain⟨q,b8,rfl,bV,fO,hcell⟩:=h.at vT;have mg:=wB hcell;have gS:=By (i:=i);have ho:d6 p i=p[i].op:=lE (qk vT);by_cases h7':p[i].op=7;have pW:=wP _ p i A h hl vT;by_cases Xn:t<=min (dq p i) (p.length-1);have e:gX p k t=true:=he.2 ⟨i,qf _,cD,by rw [ho];exact h7',Xn⟩;have AP:((t:Int)<=if p.length-1<dq p i then ((p.length-1:Nat):Int) else (dq p i:Int)):=by split<;>omega
 refine ba ?_;refine W (J1 @pW) (mB h0 h2 h7 bV mg fO cD vT gS W6 h7' AP e) ?_<;>intros;simp [cx,aR,aU,bu,aQ,aS,e];have AP:¬((t:Int)<=if p.length-1<dq p i then ((p.length-1:Nat):Int) else (dq p i:Int)):=by split<;>omega
 refine ba ?_;refine W (J1 @pW) (xe h0 h2 h7 bV mg fO cD vT gS W6 h7' AP) ?_<;>intros;refine⟨t-(i+1),by omega,rfl,i+1,rfl,by omega,?_,?_,?_,?_⟩;simp [h0];simp [h2];simp;rw [he];constructor;rintro ⟨b,g1,g2,g3,g4⟩;have:b≠i:=λe=>Xn (by rw [<-e];exact g4);exact⟨b,by omega,g2,g3,g4⟩;rintro ⟨b,g1,g2,g3,g4⟩;exact⟨b,by omega,g2,g3,g4⟩;refine ba ?_;refine W cF (JD h0 h2 h7 bV mg fO cD vT gS W6 h7') ?_<;>intros;refine⟨t-(i+1),by omega,rfl,i+1,rfl,by omega,?_,?_,?_,?_⟩;simp [h0];simp [h2];simp;rw [he];constructor;rintro ⟨b,g1,g2,g3,g4⟩;have:b≠i:=λe=>h7' (by rw [<-ho,<-e];exact g3);exact⟨b,by omega,g2,g3,g4⟩;rintro ⟨b,g1,g2,g3,g4⟩;exact⟨b,by omega,g2,g3,g4⟩;have e:gX p k t=false:=by
  cases hp:gX p k t with
  | false=>rfl
  | true=>obtain⟨b,g1,g2,_⟩:=he.1 hp;omega
 refine ba ?_;refine W cF (J5 h0 h2 h7 cD e) ?_<;>intros;simp [cx,aR,aU,bu,aQ,aS,e]
end
end Go.Stx
