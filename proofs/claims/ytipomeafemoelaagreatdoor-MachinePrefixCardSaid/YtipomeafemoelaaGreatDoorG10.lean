/-
 One thread, without the program: its state, its step, and what always holds of it.
-/
import Derived.Test.YtipomeafemoelaaGreatDoorG09
set_option linter.unusedVariables false
set_option linter.unusedSimpArgs false
set_option linter.unusedSectionVars false
set_option maxRecDepth 20000
set_option maxHeartbeats 4000000
namespace Go.Stx
open Go Go.Proofs
attribute [local irreducible] cM aS ax aH cJ de TW bA
section
variable [Gl]
structure iq where
 pc:Int
 gu:Int
 val:Int
structure zd where
 bR:Int
 am:Int
 gu:Int
 Ni:Int
 reads:List Int
 bK:List Int
structure fR where
 am:Int
 Ir:Int
 yJ:Int
 uM:aW
def fR.zero:fR:=⟨0,0,0,aW.zero⟩
structure jr where
 am:Int
 mA:Int
 gi:Bool
 yk:Int
 next:Int
def jr.done (f:jr):Bool:=f.gi && decide (f.mA<=f.next)
def jr.skip (f:jr):jr:=if f.next=f.am then { f with next:=f.next+1 } else f
def jr.zH (f:jr) (ly:Int):Bool:=if ly=0 then true else if ly=1 then false else decide (f.yk<=IntKind.u64.wrap (ly-2))
def jr.nz (f:jr):Int:=if f.gi=true then IntKind.i64.wrap f.yk else -1
def gI (f:jr) (M:Mm):aW×jr:=
 if f.done=true then (aW.zero,f)
 else if f.gi=false then (iP M 3 0,({ f with gi:=true,yk:=(iP M 3 0).fA }:jr).skip)
 else (iP M 6 f.next,if f.zH (iP M 6 f.next).fA=true then ({ f with next:=f.next+1 }:jr).skip else f)
def mY (c:bq) (l:List (Int×Int)) (tG:Int) (bs:List Int):List (Int×Int):=
 l++(bs.filter λb=>decide (0<=dL c b)).map λb=>(b,tG)
def jV (l:List (Int×Int)) (nz:Int):List (Int×Int):=l.filter λx=>decide (nz<x.2)
def lT (c:bq) (l:List (Int×Int)) (nz:Int):List fM:=(l.filter λx=>!decide (nz<x.2)).map λx=>⟨dL c x.1,x.1,0,0⟩
def xq:List fM->Mm->aW×List fM×Mm
 | [],M=>(aW.zero,[],M)
 | p::l,M=>((ej p M).1,if (ej p M).2.1.bR=3 then l else (ej p M).2.1::l,(ej p M).2.2)
structure R8 where
 r0:Int
 r1:Int
 r2:Int
 r3:Int
 r4:Int
 r5:Int
 r6:Int
 r7:Int
def R8.bg (r:R8) (i:Int):Int:=if i=0 then r.r0 else if i=1 then r.r1 else if i=2 then r.r2 else if i=3 then r.r3 else if i=4 then r.r4 else if i=5 then r.r5 else if i=6 then r.r6 else r.r7
def R8.set (r:R8) (i v:Int):R8:=
 if i=0 then { r with r0:=v } else if i=1 then { r with r1:=v } else if i=2 then { r with r2:=v } else if i=3 then { r with r3:=v }
 else if i=4 then { r with r4:=v } else if i=5 then { r with r5:=v } else if i=6 then { r with r6:=v } else { r with r7:=v }
def R8.zero:R8:=⟨0,0,0,0,0,0,0,0⟩
def R8.cells (r:R8):List Value:=[.int .u64 r.r0,.int .u64 r.r1,.int .u64 r.r2,.int .u64 r.r3,.int .u64 r.r4,.int .u64 r.r5,.int .u64 r.r6,.int .u64 r.r7]
structure aU where
 jL:Option aM
 bJ:Int
 lG:R8
 iJ:Int
 eF:List iq
 aT:Bool
 fp:Int
 dX:Option jr
 dO:Option (List fM)
 cf:bq
 id:Int
 nt:Int
 az:List aZ
 pc:Int
 dw:R8
 kC:Int
 done:Bool
 gh:List (Int×Int)
 ga:List iq
 jj:Int
def qa (c:bq) (id nt:Int) (p:List aZ):aU:=⟨none,0,.zero,0,[],false,0,none,none,c,id,nt,p,0,.zero,0,decide (p.length=0),[],[],0⟩
def aU.to (t:aU) (pc:Int):aU:={ t with pc:=pc,done:=decide (pc=t.az.length) }
def aU.oT (t:aU):aU:=t.to (t.pc+1)
def aU.oP (t:aU) (gu v:Int):aU:={ t with ga:=t.ga++[⟨t.pc,gu,v⟩] }
def aU.dD (t:aU) (r bQ:Int):Int:=IntKind.u64.wrap (t.dw.bg r+IntKind.u64.wrap bQ)
def aU.uo (t:aU) (k:Int):aZ:=t.az.getD k.toNat ⟨0,0,0,0,0⟩
def aU.fV (t:aU):aZ:=t.uo t.pc
def aU.fX (t:aU) (a v:Int):aU:={ t with dw:=t.dw.set a v }
variable (d6:Int->Int->Int->Int)
def aU.je (t:aU) (i:aZ):aU:=
 (if i.op=1 then t.fX i.a (IntKind.u64.wrap i.bQ) else if i.op=2 then t.fX i.a (t.dw.bg i.b) else if i.op=3 then t.fX i.a (d6 i.bQ (t.dw.bg i.b) (t.dw.bg i.c))
  else if i.op=17 then t.fX i.a (IntKind.u64.wrap t.kC) else t).to
 (t.pc+1+if i.op=4\/(i.op=5/\t.dw.bg i.a=0)\/(i.op=6/\t.dw.bg i.a≠0) then i.bQ else 0)
def aU.tg (t:aU):aU:={ t with jL:=some (gO (fG t.cf t.id)).2,eF:=[],jj:=t.jj+1 }
def aU.Ih (t:aU) (i:aZ) (s:aM):aM:=
 if i.op=10 then (Ik s (t.dD i.b i.bQ)).2 else if i.op=11 then (HJ s (t.dD i.a i.bQ) (t.dw.bg i.b)).2 else if i.op=14 then (M8 s i.bQ).2
 else if i.op=15 then (MU s (t.dw.bg i.a)).2 else if i.op=8 then (D1 s 1).2 else if i.op=9 then (D1 s 2).2 else s
def aU.sh (t:aU) (i:aZ):Int:=if i.op=12 then t.dD i.b i.bQ else t.dD i.a i.bQ
def aU.DN (t:aU) (i:aZ) (v:Int):aU:=if i.op=12 then ((t.fX i.a v).oP 4 v).oT else (t.oP 5 v).oT
def aU.fA (t:aU) (r gu v:Int):aU:={ t.fX r v with eF:=t.eF++[⟨t.pc,gu,v⟩] }
def aU.me (t:aU) (i:aZ) (s:aM):aU:=
 let t1:aU:={ t with jL:=none,aT:=false }
 if s.az=1 then t1.DN i (if i.op=13 then t.dw.bg i.b else s.value) else if s.az=6 then (t1.oP 7 6).oT else t1
def aU.pm (t:aU) (s:aM):aU:=
 if s.az=1 then { t with jL:=none,ga:=t.ga++t.eF,gh:=if 0<s.av.length then mY t.cf t.gh s.tG s.av else t.gh }
 else { t with jL:=none,dw:=t.lG }
def aU.jZ (t:aU) (az:Int):aU:=
 ({ t with iJ:=0,kC:=az,ga:=t.ga++[⟨t.bJ,3,IntKind.u64.wrap az⟩] }:aU).to (di t.az t.bJ.toNat+1)
def aU.bO (t:aU) (s:aM):aU:=
 if s.az=9 then (if t.iJ<(t.uo t.bJ).bQ then (t.pm s).to t.bJ else (t.pm s).jZ 5) else (t.pm s).jZ s.az
def aU.sX (t:aU) (i:aZ) (s:aM):aU:=
 if s.aA=2 then (if t.aT=true then t.me i s else t.bO s)
 else if t.aT=true then t
 else (if i.op=10 then t.fA i.a 1 s.value else if i.op=14 then t.fA i.a 2 s.value else t).oT
abbrev ZI:=fR×List zd×aU×Mm
def aU.wE (t:aU) (M:Mm) (s:aM):ZI:=
 let r:=cK s M
 let t1:aU:={ t with jL:=some r.2.2.1 }
 (⟨0,r.2.1,t.jj,r.1⟩,
  if r.2.1=3 then [⟨0,t.id,3,0,[],[]⟩]
  else if r.2.1=16/\r.2.2.1.aj=true then [⟨0,t.id,4,0,r.2.2.1.reads,if r.2.2.1.az=1 then r.2.2.1.bu.bT.filter (λa=>decide (a<r.2.2.1.cf.ba)) else []⟩] else [],
  if r.2.2.1.kN=true then t1 else t1.sX t.fV r.2.2.1,r.2.2.2)
def aU.ZD (t:aU) (i:aZ) (s:aM):aU:=
 { t with fp:=t.fp+1,jL:=some (if 1<t.fp+1 then (D1 s 1).2 else if i.op=12 then (Ik s (t.sh i)).2 else (HJ s (t.sh i) (t.dw.bg i.b)).2) }
def aU.uH (t:aU) (i:aZ) (s:aM):aM:=if 1<t.fp+1 then (D1 s 1).2 else if i.op=12 then (Ik s (t.sh i)).2 else (HJ s (t.sh i) (t.dw.bg i.b)).2
def aU.kF (t:aU):aU:=match t.dO with
 | some []=>(({ t with dX:=none,dO:=none }:aU).oP 6 0).oT
 | _=>t
def aU.vu (t:aU) (M:Mm) (f:jr):fR×aU×Mm:=
 match t.dO with
 | none=>
   let r:=gI f M
   (⟨0,if r.1.cell=3 then 25 else 26,0,r.1⟩,
    (if r.2.done=true then ({ t with dX:=some r.2,dO:=some (lT t.cf t.gh r.2.nz),gh:=jV t.gh r.2.nz }:aU) else { t with dX:=some r.2 }).kF,M)
 | some l=>
   let r:=xq l M
   (⟨0,iO r.1,0,r.1⟩,({ t with dO:=some r.2.1 }:aU).kF,r.2.2)
def aU.plain (t:aU) (M:Mm) (i:aZ):ZI:=
 let dD:=t.sh i
 if t.cf.ba<=dD then (fR.zero,[],((if i.op=12 then t.fX i.a 0 else t).oP 7 7).oT,M)
 else if t.cf.aT=true then (({ t with aT:=true,fp:=0 }:aU).tg).wE M (gO (fG t.cf t.id)).2
 else if i.op=12 then (⟨0,1,0,iP M 1 dD⟩,[⟨0,t.id,1,dD,[],[]⟩],t.DN i (iP M 1 dD).put,M)
 else (⟨0,1,0,DU M 1 dD (t.dw.bg i.b)⟩,[⟨0,t.id,2,dD,[],[]⟩],t.DN i (DU M 1 dD (t.dw.bg i.b)).put,Gj M 1 dD (t.dw.bg i.b))
def aU.mc (t:aU) (M:Mm) (i:aZ):ZI:=
 if i.op=7 then (({ t with bJ:=t.pc,lG:=t.dw,iJ:=t.iJ+1 }:aU).tg).wE M (gO (fG t.cf t.id)).2
 else match t.jL with
 | some s=>
   if i.op=10\/i.op=11\/i.op=14\/i.op=15\/i.op=8\/i.op=9 then ({ t with jL:=some (t.Ih i s) }:aU).wE M (t.Ih i s)
   else (⟨0,0,t.jj,aW.zero⟩,[],t.je d6 i,M)
 | none=>
   if i.op=12\/i.op=13 then t.plain M i
   else if i.op=16 then
    let f:jr:=⟨t.id,t.nt,false,0,0⟩
    let r:=({ t with dX:=some f }:aU).vu M f
    (r.1,[],r.2.1,r.2.2)
   else (fR.zero,[],t.je d6 i,M)
def aU.tT (t:aU) (M:Mm):ZI:=
 match t.dX with
 | some f=>let r:=t.vu M f;(r.1,[],r.2.1,r.2.2)
 | none=>match t.jL with
   | some s=>if s.kN=true then t.wE M s else if t.aT=true then (t.ZD t.fV s).wE M (t.uH t.fV s) else t.mc d6 M t.fV
   | none=>t.mc d6 M t.fV
def aU.step (t:aU) (M:Mm):Bool×ZI:=
 if t.done=true then (false,fR.zero,[],t,M)
 else
  let r:=t.tT d6 M
  (true,{ r.1 with am:=t.id },r.2)
end
section
variable [Gl]
theorem wO {p:List aZ} {k b:Nat} (h:bS p k=some b):∀{t:Nat},k<=t->(∀j,k<=j->j<t->dS p j≠8)->bS p t=some b
 | 0,hk,_=>by
   have:k=0:=by omega
   subst this;exact h
 | t+1,hk,hn=>by
   by_cases e:k=t+1;subst e;exact h;have h1:=wO h (t:=t) (by omega) λj h1 h2=>hn j h1 (by omega);unfold bS;rw [h1];simp only;rw [if_neg (hn t (by omega) (by omega))]
theorem IZ {p:List aZ} {k:Nat} (h:k<p.length):dS p k=p[k].op:=lm (List.getElem?_eq_getElem h)
theorem Pj {p:List aZ} (hp:(cD p).2=0) {k:Nat} (hk:k<p.length) (ho:p[k].op=4\/p[k].op=5\/p[k].op=6):fq p k (bS p k) p[k].bQ=true/\0<=p[k].bQ:=by
 have h1:=(gy hp).2.1 k p[k] (List.getElem?_eq_getElem hk);unfold sD at h1;by_cases e:b8 p[k]=0;rw [if_pos e] at h1;split at h1;cases h1;split at h1;cases h1;have hs:dW p[k]=some p[k].bQ:=if_pos ⟨e,ho⟩;rw [hs] at h1;simp only at h1;refine⟨?_,?_⟩;by_cases hh:fq p k (bS p k) p[k].bQ=true;exact hh;rw [if_neg hh] at h1;cases h1;unfold b8 at e;split at e;cases e;split at e;rename_i h2;have h3:=(Bool.and_eq_true _ _▸h2).2;unfold eT at h3;rw [if_neg (by omega),if_neg (by omega),if_pos ho] at h3;simp only [Bool.and_eq_true,decide_eq_true_eq] at h3;exact h3.1;cases e;rw [if_neg e] at h1;exact absurd h1 e
theorem NU {p:List aZ} (hp:(cD p).2=0) {k:Nat} (hk:k<p.length) (ho:p[k].op=4\/p[k].op=5\/p[k].op=6) :
 k+1+p[k].bQ.toNat<=p.length/\bS p (k+1+p[k].bQ.toNat)=bS p k:=by
 obtain⟨ht,_⟩:=Pj hp hk ho;have Xj:=IZ hk;unfold fq at ht;by_cases hl:p.length<k+1+p[k].bQ.toNat;simp [hl] at ht;have FD:k+1+p[k].bQ.toNat<=p.length:=by omega
 refine⟨FD,?_⟩;cases hb:bS p k with
 | some b=>
   rw [hb] at ht;simp only [hl,if_false,decide_eq_true_eq] at ht;obtain⟨h1,h2,h3⟩:=jU hb;refine wO hb (by omega) λj h4 h5=>?_;exact(lX (p:=p) (k:=b+1) (by omega)).2.2.1 j (by omega) (by have:=ht;unfold di at this;omega)
 | none=>
   rw [hb] at ht;simp only [hl,if_false] at ht;cases hs:bS p (k+1+p[k].bQ.toNat) with
   | none=>rfl
   | some b=>
     exfalso;obtain⟨h1,h2,h3⟩:=jU hs;have h4:=Cg hb (by omega) hs;have h5:b≠k:=λe=>by subst e;rw [Xj] at h2;omega
     have h6:k+1+p[k].bQ.toNat≠p.length:=λe=>by
      rw [e,(gy hp).2.2] at hs;cases hs
     have h7:k+1+p[k].bQ.toNat<=di p b:=by
      rcases Nat.lt_or_ge (di p b) (k+1+p[k].bQ.toNat) with h|h;have h8:=(lX (p:=p) (k:=b+1) (by omega));have h9:di p b<p.length:=(by omega);have MS:b+1<=di p b:=h8.1;exact absurd (show dS p (di p b)=8 from h8.2.2.2 h9) (h3 (di p b) (by omega) h);exact h
     have h8:gx p k (k+1+p[k].bQ.toNat)=true:=by
      unfold gx;rw [List.any_eq_true];refine⟨b,List.mem_range.2 h1,?_⟩;simp only [Bool.and_eq_true,decide_eq_true_eq];exact⟨⟨by omega,h2⟩,by omega⟩
     rw [h8] at ht;cases ht
theorem Re {p:List aZ} (hp:(cD p).2=0) {b:Nat} (hb:dS p b=7) (hs:bS p b=none):di p b<p.length/\dS p (di p b)=8/\bS p (di p b+1)=none:=by
 have QS:b<p.length:=qc (by omega);have h1:bS p (b+1)=some b:=by
  unfold bS;rw [hs];simp [hb]
 obtain⟨h2,h3,h4,h5⟩:=lX (p:=p) (k:=b+1) (by omega);have h6:bS p (di p b)=some b:=wO h1 h2 h4;have h7:di p b<p.length:=by
  rcases Nat.lt_or_ge (di p b) p.length with h|h;exact h;have e:di p b=p.length:=by unfold di at h ⊢;omega
  rw [e,(gy hp).2.2] at h6;cases h6
 refine⟨h7,h5 h7,?_⟩;unfold bS;rw [h6];simp only;rw [if_pos (show dS p (di p b)=8 from h5 h7)]
theorem zL {p:List aZ} {k:Nat} {b:Option Nat} (h:bS p k=b) (h7:dS p k≠7) (h8:dS p k≠8):bS p (k+1)=b:=by
 unfold bS;rw [h];cases b with
 | none=>simp [h7]
 | some b=>simp [h8]
theorem LS {p:List aZ} {k:Nat} (h:bS p k=none) (h7:dS p k=7):bS p (k+1)=some k:=by
 unfold bS;rw [h];simp [h7]
theorem uh {p:List aZ} (hp:(cD p).2=0) {k:Nat} (hk:k<p.length) :
 (bS p k=none->p[k].op≠8/\p[k].op≠9/\p[k].op≠10/\p[k].op≠11/\p[k].op≠14/\p[k].op≠15)/\
 (∀b,bS p k=some b->p[k].op≠7/\p[k].op≠12/\p[k].op≠13/\p[k].op≠16/\p[k].op≠17)/\b8 p[k]=0:=by
 have h1:=(gy hp).2.1 k p[k] (List.getElem?_eq_getElem hk);unfold sD at h1;by_cases e:b8 p[k]=0;rw [if_pos e] at h1;split at h1;cases h1;rename_i h2;split at h1;cases h1;rename_i h3
 have h4:bp p[k]=if p[k].op=8\/p[k].op=9\/p[k].op=10\/p[k].op=11\/p[k].op=14\/p[k].op=15 then 1
  else if p[k].op=7\/p[k].op=12\/p[k].op=13\/p[k].op=16\/p[k].op=17 then 2 else 0:=if_pos e
 rw [h4] at h3;refine⟨λhb=>?_,λb hb=>?_,e⟩;rw [hb] at h3;have:¬(p[k].op=8\/p[k].op=9\/p[k].op=10\/p[k].op=11\/p[k].op=14\/p[k].op=15):=λh=>h3 (.inl ⟨by rw [if_pos h],rfl⟩);omega;rw [hb] at h3;have:¬(p[k].op=7\/p[k].op=12\/p[k].op=13\/p[k].op=16\/p[k].op=17):=λh=>h3 (.inr ⟨by rw [if_neg (by omega),if_pos h],rfl⟩);omega;rw [if_neg e] at h1;exact absurd h1 e
theorem mB {i:aZ} (h:b8 i=0):(lF i.op=true->0<=i.a/\i.a<8)/\(jT i.op=true->0<=i.b/\i.b<8)/\(lE i.op=true->0<=i.c/\i.c<8)/\(0<=i.op/\i.op<18)/\(i.op=3->0<=i.bQ/\i.bQ<22)/\(i.op=7->1<=i.bQ/\i.bQ<=8):=by
 unfold b8 at h;split at h;cases h;rename_i h0;split at h;rename_i h1;simp only [Bool.and_eq_true,gm,eT] at h1;obtain⟨⟨⟨h2,h3⟩,h4⟩,h5⟩:=h1;refine⟨λe=>?_,λe=>?_,λe=>?_,by omega,λe=>?_,λe=>?_⟩;rw [if_pos e] at h2;simpa using h2;rw [if_pos e] at h3;simpa using h3;rw [if_pos e] at h4;simpa using h4;rw [if_neg (by omega),if_pos e] at h5;simpa using h5;rw [if_neg (by omega),if_neg (by omega),if_neg (by omega),if_pos e] at h5;simpa using h5;cases h
def q9:br->Prop
 | .je (.bO _)=>True
 | .fy | .dE | .d9 _ | .cH | .eS _ | .da _ | .jb | .gH | .fv _ | .jf=>True
 | _=>False
theorem Rf (s:aM) (az:Int):q9 (qk s az).aG:=by unfold qk;split<;>trivial
theorem AL (s:aM):q9 (iQ s).aG:=by unfold iQ;split<;>trivial
theorem su (s:aM):q9 (gU s).aG:=by unfold gU;split<;>trivial
theorem Ov {s:aM} (h:q9 s.aG) (hs:s.aA=1) (M:Mm):((cK s M).2.2.1.aA=1/\q9 (cK s M).2.2.1.aG)\/((cK s M).2.2.1.aA=2/\(cK s M).2.2.1.aG=.bF):=by
 have dv:=wB s M;unfold cK at dv ⊢;cases e:s.aG with
 | je l=>
   rw [e] at h dv;cases l<;>first|exact absurd h id|skip
   refine .inl ⟨by rw [dv];exact hs,?_⟩;exact Rf _ _
 | fy=>
   rw [e] at h dv;simp only at dv ⊢;cases hl:s.aJ with
   | none=>rw [hl] at dv;exact .inl ⟨by rw [dv];exact hs,by dsimp only;rw [e];trivial⟩
   | some l=>
     rw [hl] at dv;refine .inl ⟨by rw [dv];exact hs,?_⟩;unfold jD;dsimp only;split;trivial;dsimp only;rw [e];trivial
 | dE=>
   rw [e] at h dv;simp only at dv ⊢;cases hl:s.aI with
   | none=>rw [hl] at dv;exact .inl ⟨by rw [dv];exact hs,by dsimp only;rw [e];trivial⟩
   | some l=>
     rw [hl] at dv;refine .inl ⟨by rw [dv];exact hs,?_⟩;unfold iw;dsimp only;split;dsimp only;split<;>trivial;dsimp only;rw [e];trivial
 | d9 c=>
   rw [e] at h dv;refine .inl ⟨by rw [dv];exact hs,?_⟩;show q9 (gT s M c).2.2.1.aG;unfold gT;dsimp only;split;exact su _;split<;>trivial
 | cH=>
   rw [e] at h dv;refine .inl ⟨by rw [dv];exact hs,?_⟩;show q9 (fY s M).2.2.1.aG;unfold fY;dsimp only;split;exact su _;split;trivial;exact su _
 | eS w=>
   rw [e] at h dv;refine .inl ⟨by rw [dv];exact hs,?_⟩;show q9 (iv s M w).2.2.1.aG;unfold iv;dsimp only;split<;>trivial
 | da w=>
   rw [e] at h dv;refine .inl ⟨by rw [dv];exact hs,?_⟩;show q9 (oh s M w).2.2.1.aG;unfold oh;dsimp only;split;split<;>trivial;trivial
 | jb=>rw [e] at dv;exact .inl ⟨by rw [dv];exact hs,trivial⟩
 | gH=>rw [e] at dv;exact .inl ⟨by rw [dv];exact hs,AL _⟩
 | fv p=>
   rw [e] at h dv;refine .inl ⟨by rw [dv];exact hs,?_⟩;show q9 (jW s M p).2.2.1.aG;unfold jW;dsimp only;split;exact AL _;trivial
 | jf=>exact .inr ⟨rfl,rfl⟩
 | bF=>rw [e] at h;exact absurd h id
 | fx=>rw [e] at h;exact absurd h id
 | bh _ _=>rw [e] at h;exact absurd h id
 | fw _=>rw [e] at h;exact absurd h id
theorem xm (s:aM):(iQ s).av=s.av:=by unfold iQ;split<;>rfl
theorem rH (s:aM) (az:Int):(kz s az).av=s.av:=xm _
theorem yD (s:aM) (az:Int):(qk s az).av=s.av:=by unfold qk;split<;>rfl
theorem tZ (s:aM):(gU s).av=s.av:=by unfold gU;split<;>rfl
theorem sB (s:aM) (a v:Int):(kW s a v).2.av=s.av:=by
 unfold kW;split;rfl;exact rH s 3
theorem zf:∀(n:Nat) (a:Int) (s:aM),(iU n a s).2.av=s.av
 | 0,_,_=>rfl
 | n+1,a,s=>by
   unfold iU;split;rw [zf n];exact sB s a 0;exact sB s a 0
theorem E2 (s:aM) (eH jK:Int):(gP s eH jK).av=s.av:=by
 unfold gP;split;exact rH s 4;dsimp only;split;split;show (iU _ _ _).2.av=_;rw [zf];exact sB { s with ak:=s.ak++[jK] } _ _;rw [zf];exact sB { s with ak:=s.ak++[jK] } _ _;exact sB { s with ak:=s.ak++[jK] } _ _
def TU (s s':aM) (o:Option Int):Prop:=s'.av=s.av\/∃b,o=some b/\s'.av=s.av++[b]
theorem zW (s:aM) (b st:Int):TU s (lz s b st) (some b):=by
 unfold lz;split;exact .inl (yD s 8);split;exact .inl (rH s 3);split;exact .inr ⟨b,rfl,by dsimp only⟩;exact .inl (sB s _ 0)
def frB:br->Option Int
 | .je (.dq b _)=>some b
 | .bh _ (.dq b)=>some b
 | _=>none
theorem LW (s:aM) (M:Mm):TU s (cK s M).2.2.1 (frB s.aG):=by
 unfold cK;cases hd:s.aG with
 | jf=>exact .inl rfl
 | bF=>exact .inl rfl
 | je k=>
   cases k with
   | nq a v=>
     show TU s (vB { s with aG:=.bF } (.nq a v)) _;unfold vB;dsimp only;split;exact .inl (yD _ 7);exact .inl (sB { s with aG:=.bF } a v)
   | tk=>exact .inl (yD _ 7)
   | Rt=>exact .inl (yD _ 8)
   | bO az=>exact .inl (yD _ az)
   | take v=>exact .inl rfl
   | Dc=>exact .inl (rH _ 3)
   | dq b v=>exact zW { s with aG:=.bF } b v
 | fx=>
   dsimp only;cases s.bY with
   | none=>exact .inl rfl
   | some e=>
     dsimp only [ji];split<;>exact .inl rfl
 | bh r u=>
   show TU s (dR s M r u).2.2.1 _;unfold dR;dsimp only;split;exact .inl rfl;split;exact .inl (rH _ 9);split
   . cases u with
     | take=>left;dsimp only [BS];split<;>rfl
     | dq b=>
       dsimp only [BS];split;exact zW _ b _;exact zW _ b _
   left;dsimp only;rw [rH];split<;>rfl
 | fw p=>
   show TU s (ox s M p).2.2.1 _;unfold ox;dsimp only;split;exact .inl (E2 _ _ _);exact .inl rfl
 | fy=>
   dsimp only;cases s.aJ with
   | none=>exact .inl rfl
   | some l=>
     dsimp only [jD];split<;>exact .inl rfl
 | dE=>
   dsimp only;cases s.aI with
   | none=>exact .inl rfl
   | some t=>
     dsimp only [iw];split<;>exact .inl rfl
 | d9 ck=>
   show TU s (gT s M ck).2.2.1 _;unfold gT;dsimp only;split;exact .inl (tZ _);split<;>exact .inl rfl
 | cH=>
   show TU s (fY s M).2.2.1 _;unfold fY;dsimp only;split;exact .inl (tZ _);split;exact .inl rfl;exact .inl (tZ _)
 | eS w=>
   show TU s (iv s M w).2.2.1 _;unfold iv;dsimp only;split<;>exact .inl rfl
 | da w=>exact .inl rfl
 | jb=>exact .inl rfl
 | gH=>exact .inl (xm s)
 | fv p=>
   show TU s (jW s M p).2.2.1 _;unfold jW;dsimp only;split;exact .inl (xm _);exact .inl rfl
theorem FR {c:bq} {k:Nat} {s:aM} (h:qw c k s) (hf:∀x∈s.av,0<=x/\x<c.nb) (M:Mm):∀x∈(cK s M).2.2.1.av,0<=x/\x<c.nb:=by
 have hd:=h.d;intro x hx;rcases LW s M with e|⟨b,hb,e⟩;rw [e] at hx;exact hf x hx;rw [e] at hx;rcases List.mem_append.1 hx with hx|hx;exact hf x hx;rw [List.mem_singleton] at hx;subst hx;cases Lu:s.aG with
 | je k=>
   rw [Lu] at hd hb;cases k with
   | dq b v=>
     injection hb with hb;subst hb;exact hd.2
   | _=>cases hb
 | bh r u=>
   rw [Lu] at hd hb;cases u with
   | dq b=>
     injection hb with hb;subst hb;exact hd.2.2.2.2.1
   | take=>cases hb
 | _=>rw [Lu] at hb;cases hb
variable {c:bq} {nt k:Nat} {M:Mm}
structure JL (c:bq) (p:fM):Prop where
 eH:p.eH=dL c p.block
 cl0:0<=p.eH
 head:jH c p.eH p.head
 bR:0<=p.bR/\p.bR<=2
structure nI (c:bq) (nt k:Nat) (t:aU):Prop where
 cf:t.cf=c
 nn:t.nt=nt
 xA:0<=t.id/\t.id<nt/\nt<=16
 qu:(cD t.az).2=0
 pc:0<=t.pc/\t.pc<=t.az.length
 dn:t.done=decide (t.pc=t.az.length)
 ga:t.ga.length<=2*k
 sn:t.eF.length<=k
 vC:t.gh.length<=8*k
 yj:∀x∈t.gh,0<=dL c x.1
 tN:0<=t.jj/\t.jj<=k
 xy:0<=t.iJ/\t.iJ<=k
 mV:0<=t.fp/\t.fp<=k
structure Adv (c:bq) (k:Nat) (t:aU) (s:aM):Prop where
 ok:qw c k s
 st:s.aA=1
 Bq:∀x∈s.av,0<=x/\x<c.nb
 Me:t.aT=true->(t.fV.op=12\/t.fV.op=13)/\bS t.az t.pc.toNat=none
 D4:t.aT=false->dS t.az t.bJ.toNat=7/\bS t.az t.bJ.toNat=none/\0<=t.bJ/\
  ((t.pc=t.bJ/\t.fV.op=7)\/(bS t.az t.pc.toNat=some t.bJ.toNat/\(t.fV.op=10\/t.fV.op=11\/t.fV.op=14\/t.fV.op=15))\/q9 s.aG)
structure ZJ (c:bq) (k:Nat) (t:aU) (s:aM):Prop where
 ok:qw c k s
 st:s.aA=1
 Bq:∀x∈s.av,0<=x/\x<c.nb
 Me:t.aT=false
 D4:dS t.az t.bJ.toNat=7/\bS t.az t.bJ.toNat=none/\0<=t.bJ/\bS t.az t.pc.toNat=some t.bJ.toNat
structure lu (c:bq) (nt k:Nat) (t:aU):Prop where
 co:nI c nt k t
 MC:t.jL=none->t.aT=false/\bS t.az t.pc.toNat=none
 Fh:∀s,t.jL=some s->(if s.kN=true\/t.aT=true then Adv c k t s else ZJ c k t s)/\t.done=false/\t.dX=none/\t.ga.length+t.eF.length<=2*k
 fen:∀f,t.dX=some f->t.jL=none/\t.done=false/\t.fV.op=16/\f.am=t.id/\f.mA=nt/\(0<=f.next/\f.next<=nt)/\(t.dO=none->f.done=false)
 P4:t.dX=none->t.dO=none
 dr:∀l,t.dO=some l->l≠[]/\l.length<=8*k/\∀p∈l,JL c p
section
variable {t:aU} {s:aM}
theorem nI.mono {k':Nat} (h:nI c nt k t) (hk:k<=k'):nI c nt k' t:=
 ⟨h.cf,h.nn,h.xA,h.qu,h.pc,h.dn,by have:=h.ga;omega,by have:=h.sn;omega,by have:=h.vC;omega,h.yj,by have:=h.tN;omega,by have:=h.xy;omega,by have:=h.mV;omega⟩
theorem nI.lt (h:nI c nt k t) (hd:t.done=false):t.pc<t.az.length:=by
 have:=h.dn;rw [hd] at this;have h1:¬t.pc=t.az.length:=by simpa using this.symm
 have:=h.pc;omega
theorem nI.fV (h:nI c nt k t) (hd:t.done=false):∃hk:t.pc.toNat<t.az.length,t.fV=t.az[t.pc.toNat]:=by
 have h1:=h.lt hd;have h2:=h.pc;have hk:t.pc.toNat<t.az.length:=by omega
 refine⟨hk,?_⟩;unfold aU.fV aU.uo;rw [List.getD_eq_getElem?_getD,List.getElem?_eq_getElem hk];rfl
theorem nI.to (h:nI c nt k t) {pc:Int} (hp:0<=pc/\pc<=t.az.length):nI c nt k (t.to pc):=⟨h.cf,h.nn,h.xA,h.qu,hp,rfl,h.ga,h.sn,h.vC,h.yj,h.tN,h.xy,h.mV⟩
theorem nI.fX (h:nI c nt k t) (a v:Int):nI c nt k (t.fX a v):=⟨h.cf,h.nn,h.xA,h.qu,h.pc,h.dn,h.ga,h.sn,h.vC,h.yj,h.tN,h.xy,h.mV⟩
theorem nI.oP (h:nI c nt k t) (kd v:Int):nI c nt (k+1) (t.oP kd v):=
 ⟨h.cf,h.nn,h.xA,h.qu,h.pc,h.dn,by have:=h.ga;simp only [aU.oP,List.length_append,List.length_cons,List.length_nil];omega,(h.mono (Nat.le_succ k)).sn,(h.mono (Nat.le_succ k)).vC,h.yj,(h.mono (Nat.le_succ k)).tN,(h.mono (Nat.le_succ k)).xy,(h.mono (Nat.le_succ k)).mV⟩
theorem zI (h:nI c nt k t) (ha:t.jL=none) (hs:t.aT=false) (hf:t.dX=none) (hd:t.dO=none) (gV:bS t.az t.pc.toNat=none):lu c nt k t:=
 ⟨h,λ_=>⟨hs,gV⟩,λs e=>(by rw [ha] at e;cases e),λf e=>(by rw [hf] at e;cases e),λ_=>hd,λl e=>(by rw [hd] at e;cases e)⟩
theorem wJ {x:Int} (h:0<=x):(x+1).toNat=x.toNat+1:=by omega
theorem MB (h:nI c nt k t) (bL:t.pc<t.az.length) (ha:t.jL=none) (hs:t.aT=false) (hf:t.dX=none) (hd:t.dO=none) (gV:bS t.az t.pc.toNat=none) (h7:dS t.az t.pc.toNat≠7) (h8:dS t.az t.pc.toNat≠8):lu c nt k t.oT:=by
 have ln:=h.pc;refine zI (h.to (by omega)) ha hs hf hd ?_;show bS t.az (t.pc+1).toNat=none;rw [wJ ln.1];exact zL gV h7 h8
theorem Ib {f:jr} {nt:Nat} {id:Int} (h1:f.am=id) (h2:id<nt) (h3:0<=f.next/\f.next<=nt):f.skip.am=id/\f.skip.mA=f.mA/\(0<=f.skip.next/\f.skip.next<=nt):=by
 unfold jr.skip;split;rename_i e;exact⟨h1,rfl,by dsimp only;omega⟩;exact⟨h1,rfl,h3⟩
theorem Jp {f:jr} {id:Int} (h1:f.am=id) (h2:id<nt) (h3:0<=f.next/\f.next<=nt) (h4:f.mA=nt) (hd:f.done=false) (M:Mm):(gI f M).2.am=id/\(gI f M).2.mA=nt/\(0<=(gI f M).2.next/\(gI f M).2.next<=nt):=by
 unfold gI;rw [if_neg (by rw [hd];decide)];split;obtain⟨a,b,d⟩:=Ib (f:={ f with gi:=true,yk:=(iP M 3 0).fA }) (nt:=nt) h1 h2 h3;exact⟨a,b.trans h4,d⟩;rename_i hl;have FD:f.gi=true:=by simpa using hl
 have hn:f.next<nt:=by
  unfold jr.done at hd;rw [FD] at hd;simp only [Bool.true_and,decide_eq_false_iff_not] at hd;omega
 split;obtain⟨a,b,d⟩:=Ib (f:={ f with next:=f.next+1 }) (nt:=nt) h1 h2 (by dsimp only;omega);exact⟨a,b.trans h4,d⟩;exact⟨h1,h4,h3⟩
theorem Ds {c:bq} (hc:db c) {b:Int} (h:0<=dL c b):0<=b/\b<c.nb:=by
 have q0:=hc.k0;have q1:=hc.k1;have q2:=hc.k2;have q3:=hc.k3;unfold dL Bh at h;unfold bq.nb
 repeat' split at h
 all_goals(simp only at h;omega)
theorem Kv (hc:db c) (hM:lR c nt k M) {p:fM} (h:JL c p):lR c nt (k+1) (ej p M).2.2/\((ej p M).2.1.bR≠3->JL c (ej p M).2.1):=by
 have GV:=h.bR;have hb:0<=p.block/\p.block<c.nb:=by
  have h1:=h.cl0;rw [h.eH] at h1;exact Ds hc h1
 have u7:=yi hc p.block hb;rw [<-h.eH] at u7;have hh:=h.head;rcases ug p M GV with ⟨h0,e0⟩|⟨h0,w,hw,e0⟩|⟨h0,w,hw,e0⟩;rw [e0];have hg:=Db hc hM 1 u7.1.1 mP;exact⟨hM.mono (by omega),λ_=>⟨h.eH,h.cl0,hg,by dsimp only;omega⟩⟩;rw [e0];refine⟨hM.op (by omega) _ _ _ λ_=>⟨λe=>by omega,λ_=>?_,λe=>by omega,λe=>by omega⟩,λ_=>⟨h.eH,h.cl0,hh,by dsimp only;omega⟩⟩;have htop:=H2 hh.1;have h64:=hc.nb;have ht2:=hh.2.1;have jg:IntKind.u64.wrap (IntKind.i64.wrap (iV p.head+1))=iV p.head+1:=by
  rw [ai (by omega) (by omega),ar (by omega) (by omega)]
 show nJ c (dL c p.block) w;rw [hw,jg,<-h.eH];refine⟨by omega,by omega,λe=>?_⟩;rw [show iV p.head+1-1=iV p.head by omega];exact hh.2.2 (by omega);rw [e0];refine⟨hM.op (by omega) _ _ _ λ_=>⟨λ_=>?_,λe=>by omega,λe=>by omega,λe=>by omega⟩,λhn=>⟨h.eH,h.cl0,hh,?_⟩⟩;show jH c p.eH w;rw [hw];exact Dz hc hb.2 λ_=>h.eH.symm;dsimp only at hn ⊢;split;rename_i oA;rw [if_pos oA] at hn;exact absurd rfl hn;omega
theorem pE (h:nI c nt k t) (hd:t.done=false):dS t.az t.pc.toNat=t.fV.op:=by
 obtain⟨hk,e⟩:=h.fV hd;rw [IZ hk,e]
theorem Do {f:jr} {l:List fM} (h:nI c nt k t) (ha:t.jL=none) (hs:t.aT=false) (hd:t.done=false) (DZ:t.fV.op=16) (gV:bS t.az t.pc.toNat=none) (hf:t.dX=some f)
 (h1:f.am=t.id) (h2:f.mA=nt) (h3:0<=f.next/\f.next<=nt) (hl:t.dO=some l) (bG:l.length<=8*(k+1)) (hp:∀p∈l,JL c p):lu c nt (k+1) t.kF:=by
 unfold aU.kF;rw [hl];have ho:=pE h hd;cases l with
 | nil=>
   have hC:nI c nt (k+1) (({ t with dX:=none,dO:=none }:aU).oP 6 0):=nI.oP (t:={ t with dX:=none,dO:=none }) ⟨h.cf,h.nn,h.xA,h.qu,h.pc,h.dn,h.ga,h.sn,h.vC,h.yj,h.tN,h.xy,h.mV⟩ 6 0;exact MB hC (h.lt hd) ha hs rfl rfl gV (by show dS t.az t.pc.toNat≠7;omega) (by show dS t.az t.pc.toNat≠8;omega)
 | cons q l=>
   have e:¬(q::l=[]):=λe=>by cases e
   exact⟨h.mono (by omega),λ_=>⟨hs,gV⟩,λs e=>(by rw [ha] at e;cases e),λf' e=>(by rw [hf] at e;injection e with e;subst e;exact⟨ha,hd,DZ,h1,h2,h3,λe=>(by rw [hl] at e;cases e)⟩),
    λe=>(by rw [hf] at e;cases e),λl' e'=>(by rw [hl] at e';injection e' with e';subst e';exact⟨e,bG,hp⟩)⟩
theorem L9 (hc:db c) (hM:lR c nt k M) {f:jr} (h:nI c nt k t) (ha:t.jL=none) (hs:t.aT=false) (hd:t.done=false) (DZ:t.fV.op=16) (gV:bS t.az t.pc.toNat=none) (hf:t.dX=some f)
 (h1:f.am=t.id) (h2:f.mA=nt) (h3:0<=f.next/\f.next<=nt) (hn:t.dO=none->f.done=false) (hdl:∀l,t.dO=some l->l≠[]/\l.length<=8*k/\∀p∈l,JL c p) :
 lu c nt (k+1) (t.vu M f).2.1/\lR c nt (k+1) (t.vu M f).2.2:=by
 unfold aU.vu;cases e:t.dO with
 | none=>
   dsimp only;refine⟨?_,hM.mono (by omega)⟩;obtain⟨a1,a2,a3⟩:=Jp h1 h.xA.2.1 h3 h2 (hn e) M;by_cases oA:(gI f M).2.done=true;rw [if_pos oA];refine Do (k:=k) (f:=(gI f M).2) (l:=lT t.cf t.gh (gI f M).2.nz) ⟨h.cf,h.nn,h.xA,h.qu,h.pc,h.dn,h.ga,h.sn,?_,?_,h.tN,h.xy,h.mV⟩ ha hs hd DZ gV rfl a1 a2 a3 rfl ?_ ?_;have:=List.length_filter_le (λx:Int×Int=>decide ((gI f M).2.nz<x.2)) t.gh;have:=h.vC;show (jV t.gh (gI f M).2.nz).length<=_;unfold jV;omega;intro x hx;exact h.yj x (List.mem_filter.1 hx).1;have:=List.length_filter_le (λx:Int×Int=>!decide ((gI f M).2.nz<x.2)) t.gh;have:=h.vC;unfold lT;rw [List.length_map];omega;intro p hp;obtain⟨x,hx,rfl⟩:=List.mem_map.1 hp;have Yo:=h.yj x (List.mem_filter.1 hx).1;rw [h.cf];exact⟨rfl,Yo,jH.zero hc _,by dsimp only;omega⟩;rw [if_neg oA];unfold aU.kF;dsimp only
   exact⟨nI.mono (k:=k) ⟨h.cf,h.nn,h.xA,h.qu,h.pc,h.dn,h.ga,h.sn,h.vC,h.yj,h.tN,h.xy,h.mV⟩ (by omega),λ_=>⟨hs,gV⟩,λs e=>(by rw [ha] at e;cases e),
    λf' e'=>(by injection e' with e';subst e';exact⟨ha,hd,DZ,a1,a2,a3,λ_=>by simpa using oA⟩),λe'=>(by cases e'),λl' e'=>(by cases e')⟩
 | some l=>
   dsimp only;obtain⟨g1,g2,g3⟩:=hdl l e;cases l with
   | nil=>exact absurd rfl g1
   | cons p l=>
     obtain⟨b1,b2⟩:=Kv hc hM (g3 p (List.mem_cons_self ..));refine⟨?_,b1⟩;refine Do (k:=k) (f:=f) (l:=(xq (p::l) M).2.1) ⟨h.cf,h.nn,h.xA,h.qu,h.pc,h.dn,h.ga,h.sn,h.vC,h.yj,h.tN,h.xy,h.mV⟩ ha hs hd DZ gV hf h1 h2 h3 rfl ?_ ?_;show (if (ej p M).2.1.bR=3 then l else (ej p M).2.1::l).length<=_;rw [List.length_cons] at g2;split;omega;rw [List.length_cons];omega;intro q hq;have uq:q∈(if (ej p M).2.1.bR=3 then l else (ej p M).2.1::l):=hq;split at uq;exact g3 q (List.mem_cons_of_mem _ uq);rename_i h9;rcases List.mem_cons.1 uq with rfl|uq;exact b2 h9;exact g3 q (List.mem_cons_of_mem _ uq)
theorem TD (hs:s.aA=1) (M:Mm):(cK s M).2.2.1.aA=1\/((cK s M).2.2.1.aA=2/\(cK s M).2.2.1.aG=.bF):=by
 have h:=wB s M;cases e:s.aG<;>rw [e] at h
 case jf=>right;unfold cK;rw [e];exact⟨rfl,rfl⟩
 all_goals exact .inl (h.trans hs)
theorem Ow (h:q9 s.aG):s.kN=true:=by
 unfold aM.kN;revert h;cases s.aG<;>first|(intro h;exact absurd h id)|(intro _;rfl)
theorem NX (h:s.aG=.bF):s.kN=false:=by
 unfold aM.kN;rw [h];rfl
theorem Tt (h:nI c nt (k+1) t) (vG:t.ga.length+t.eF.length<=2*k) (Qw:t.gh.length<=8*k) (sd:s.av.length<=8) :
 nI c nt (k+1) (t.pm s)/\(t.pm s).ga.length<=2*k/\(t.pm s).jL=none/\(t.pm s).az=t.az/\(t.pm s).bJ=t.bJ/\(t.pm s).aT=t.aT/\(t.pm s).dX=t.dX/\(t.pm s).dO=t.dO/\(t.pm s).iJ=t.iJ:=by
 unfold aU.pm;split;refine⟨⟨h.cf,h.nn,h.xA,h.qu,h.pc,h.dn,by show (t.ga++t.eF).length<=_;rw [List.length_append];omega,h.sn,?_,?_,h.tN,h.xy,h.mV⟩,by show (t.ga++t.eF).length<=_;rw [List.length_append];omega,rfl,rfl,rfl,rfl,rfl,rfl,rfl⟩;dsimp only;split;unfold mY;have:=List.length_filter_le (λb=>decide (0<=dL t.cf b)) s.av;rw [List.length_append,List.length_map];omega;exact h.vC;intro x hx;dsimp only at hx;split at hx;unfold mY at hx;rcases List.mem_append.1 hx with hx|hx;exact h.yj x hx;obtain⟨b,hb,rfl⟩:=List.mem_map.1 hx;have:=(List.mem_filter.1 hb).2;rw [h.cf] at this
 simpa using this
 exact h.yj x hx;exact⟨⟨h.cf,h.nn,h.xA,h.qu,h.pc,h.dn,h.ga,h.sn,h.vC,h.yj,h.tN,h.xy,h.mV⟩,by dsimp only;omega,rfl,rfl,rfl,rfl,rfl,rfl,rfl⟩
theorem Tr (h:nI c nt (k+1) t) (vG:t.ga.length<=2*k) (ha:t.jL=none) (hs:t.aT=false) (hf:t.dX=none) (eR:t.dO=none) (h7:dS t.az t.bJ.toNat=7) (gV:bS t.az t.bJ.toNat=none) (az:Int):lu c nt (k+1) (t.jZ az):=by
 obtain⟨e1,e2,e3⟩:=Re h.qu h7 gV;unfold aU.jZ;refine zI (nI.to (t:={ t with iJ:=0,kC:=az,ga:=t.ga++[⟨t.bJ,3,IntKind.u64.wrap az⟩] }) ⟨h.cf,h.nn,h.xA,h.qu,h.pc,h.dn,?_,h.sn,h.vC,h.yj,h.tN,by dsimp only;omega,h.mV⟩ (by dsimp only;omega)) ha hs hf eR ?_;dsimp only;rw [List.length_append,List.length_singleton];omega;show bS t.az (((di t.az t.bJ.toNat:Nat):Int)+1).toNat=none;rw [show (((di t.az t.bJ.toNat:Nat):Int)+1).toNat=di t.az t.bJ.toNat+1 by omega];exact e3
theorem Wz (h:nI c nt (k+1) t) (vG:t.ga.length+t.eF.length<=2*k) (Qw:t.gh.length<=8*k) (sd:s.av.length<=8) (hs:t.aT=false) (hf:t.dX=none) (eR:t.dO=none)
 (h7:dS t.az t.bJ.toNat=7) (gV:bS t.az t.bJ.toNat=none) (QW:0<=t.bJ):lu c nt (k+1) (t.bO s):=by
 obtain⟨g1,g2,g3,g4,g5,g6,g7,g8,g9⟩:=Tt (s:=s) h vG Qw sd;have QS:t.bJ.toNat<t.az.length:=qc (by omega);have e2:∀az,lu c nt (k+1) ((t.pm s).jZ az):=λaz=>Tr g1 g2 g3 (g6.trans hs) (g7.trans hf) (g8.trans eR) (by rw [g4,g5];exact h7) (by rw [g4,g5];exact gV) az;unfold aU.bO;split;split;refine zI (g1.to (by rw [g4];omega)) g3 (g6.trans hs) (g7.trans hf) (g8.trans eR) ?_;show bS (t.pm s).az t.bJ.toNat=none;rw [g4];exact gV;exact e2 _;exact e2 _
theorem yS (h:nI c nt (k+1) t) (vG:t.ga.length<=2*k) (hd:t.done=false) (ha:t.jL=none) (hs:t.aT=false) (hf:t.dX=none) (eR:t.dO=none) (mt:t.fV.op=12\/t.fV.op=13) (gV:bS t.az t.pc.toNat=none) (kd v:Int):lu c nt (k+1) (t.oP kd v).oT:=by
 have ho:=pE h hd;have hC:nI c nt (k+1) (t.oP kd v):=⟨h.cf,h.nn,h.xA,h.qu,h.pc,h.dn,by simp only [aU.oP,List.length_append,List.length_singleton];omega,h.sn,h.vC,h.yj,h.tN,h.xy,h.mV⟩;exact MB hC (h.lt hd) ha hs hf eR gV (by show dS t.az t.pc.toNat≠7;omega) (by show dS t.az t.pc.toNat≠8;omega)
theorem DM (h:nI c nt (k+1) t) (vG:t.ga.length<=2*k) (hd:t.done=false) (ha:t.jL=none) (hs:t.aT=false) (hf:t.dX=none) (eR:t.dO=none) (mt:t.fV.op=12\/t.fV.op=13) (gV:bS t.az t.pc.toNat=none) (i:aZ) (v:Int):lu c nt (k+1) (t.DN i v):=by
 unfold aU.DN;split;exact yS (h.fX _ _) vG hd ha hs hf eR mt gV _ _;exact yS h vG hd ha hs hf eR mt gV _ _
theorem Oy (h:nI c nt (k+1) t) (vG:t.ga.length<=2*k) (hd:t.done=false) (hf:t.dX=none) (eR:t.dO=none) (mt:t.fV.op=12\/t.fV.op=13) (gV:bS t.az t.pc.toNat=none) (i:aZ):lu c nt (k+1) (t.me i s):=by
 have h1:nI c nt (k+1) ({ t with jL:=none,aT:=false }:aU):=⟨h.cf,h.nn,h.xA,h.qu,h.pc,h.dn,h.ga,h.sn,h.vC,h.yj,h.tN,h.xy,h.mV⟩;unfold aU.me;dsimp only;split;exact DM h1 vG hd rfl rfl hf eR mt gV _ _;split;exact yS h1 vG hd rfl rfl hf eR mt gV _ _;exact zI h1 rfl rfl hf eR gV
theorem Hr (hc:db c) (hk:k<2^40) (hM:lR c nt k M) (h:nI c nt (k+1) t) (vG:t.ga.length+t.eF.length<=2*k) (hsn:t.eF.length<=k) (Qw:t.gh.length<=8*k) (hd:t.done=false) (hf:t.dX=none) (eR:t.dO=none) (hA:Adv c k t s) :
 lu c nt (k+1) (t.wE M s).2.2.1/\lR c nt (k+1) (t.wE M s).2.2.2:=by
 obtain⟨Tj,UJ⟩:=Fc hc hk hA.ok hM;have dv:=TD hA.st M;have EN:=FR hA.ok hA.Bq M;have rT:=λh=>Ov (s:=s) h hA.st M;unfold aU.wE;dsimp only;generalize cK s M=r at Tj UJ dv rT EN ⊢;obtain⟨a,ph,s',M'⟩:=r;dsimp only at Tj UJ dv rT EN ⊢;refine⟨?_,UJ⟩;have h1:nI c nt (k+1) ({ t with jL:=some s' }:aU):=⟨h.cf,h.nn,h.xA,h.qu,h.pc,h.dn,h.ga,h.sn,h.vC,h.yj,h.tN,h.xy,h.mV⟩;have sd:s'.av.length<=8:=by
  have e1:=Tj.b.Bq;have e2:=hc.av;omega
 have ho:=pE h hd;have bL:=h.lt hd;have ln:=h.pc;by_cases hb:s'.kN=true;rw [if_pos hb];have NZ:s'.aA=1:=by
  rcases dv with e|⟨_,e⟩;exact e;rw [NX e] at hb;cases hb
 refine⟨h1,λe=>(by cases e),λs2 e=>?_,λf e=>(by rw [hf] at e;cases e),λ_=>eR,λl e=>(by rw [eR] at e;cases e)⟩;injection e with e;subst e;refine⟨?_,hd,hf,by dsimp only;omega⟩;rw [if_pos (.inl hb)];refine⟨Tj,NZ,EN,hA.Me,λe=>?_⟩;obtain⟨w1,w2,w3,w4⟩:=hA.D4 e;refine⟨w1,w2,w3,?_⟩;rcases w4 with w|w|w;exact .inl w;exact .inr (.inl w);rcases rT w with ⟨_,w⟩|⟨w,_⟩;exact .inr (.inr w);omega;rw [if_neg hb];have k7:s'.kN=false:=by simpa using hb
 unfold aU.sX;rcases dv with e1|⟨e2,_⟩;rw [if_neg (by omega)];have hU:¬q9 s.aG:=λw=>by
  rcases rT w with ⟨_,w⟩|⟨w,_⟩;rw [Ow w] at k7;cases k7;omega
 by_cases hs:t.aT=true;rw [if_pos hs];refine⟨h1,λe=>(by cases e),λs2 e=>?_,λf e=>(by rw [hf] at e;cases e),λ_=>eR,λl e=>(by rw [eR] at e;cases e)⟩;injection e with e;subst e;refine⟨?_,hd,hf,by dsimp only;omega⟩;rw [if_pos (.inr hs)];exact⟨Tj,e1,EN,hA.Me,λe=>(by rw [hs] at e;cases e)⟩;rw [if_neg hs];have VQ:t.aT=false:=by simpa using hs
 obtain⟨w1,w2,w3,w4⟩:=hA.D4 VQ;have gV:bS t.az (t.pc+1).toNat=some t.bJ.toNat:=by
  rw [wJ ln.1];rcases w4 with ⟨w,w'⟩|⟨w,w'⟩|w;rw [w];exact LS w2 w1;exact zL w (by omega) (by omega);exact absurd w hU
 have qd:t.pc+1<t.az.length:=by
  rcases Int.lt_or_le (t.pc+1) t.az.length with e|e;exact e;have e9:(t.pc+1).toNat=t.az.length:=by omega
  rw [e9,(gy h.qu).2.2] at gV;cases gV
 have bO:∀t2:aU,nI c nt (k+1) t2->t2.jL=some s'->t2.aT=false->t2.dX=none->t2.dO=none->t2.az=t.az->t2.bJ=t.bJ->t2.pc=t.pc->t2.ga.length+t2.eF.length<=2*(k+1)->lu c nt (k+1) t2.oT:=by
  intro t2 g1 g2 g3 g4 g5 g6 g7 g8 g9;have lO:nI c nt (k+1) t2.oT:=g1.to (by rw [g6,g8];omega);refine⟨lO,λe=>?_,λs2 e=>?_,λf e=>?_,λ_=>g5,λl e=>?_⟩;have e':t2.jL=none:=e;rw [g2] at e';cases e';have e':t2.jL=some s2:=e;rw [g2] at e';injection e' with e';subst e';refine⟨?_,?_,g4,g9⟩;rw [if_neg (by rw [k7];show ¬(false=true\/t2.aT=true);rw [g3];simp)];refine⟨Tj,e1,EN,g3,?_⟩;show dS t2.az t2.bJ.toNat=7/\bS t2.az t2.bJ.toNat=none/\0<=t2.bJ/\bS t2.az (t2.pc+1).toNat=some t2.bJ.toNat;rw [g6,g7,g8];exact⟨w1,w2,w3,gV⟩;show decide (t2.pc+1=t2.az.length)=false;rw [g6,g8];exact decide_eq_false (by omega);have e':t2.dX=some f:=e;rw [g4] at e';cases e';have e':t2.dO=some l:=e;rw [g5] at e';cases e'
 have N9:∀r kd v,nI c nt (k+1) (({ t with jL:=some s' }:aU).fA r kd v):=λr kd v=>⟨h.cf,h.nn,h.xA,h.qu,h.pc,h.dn,h.ga,by simp only [aU.fA,aU.fX,List.length_append,List.length_singleton];omega,h.vC,h.yj,h.tN,h.xy,h.mV⟩;split;exact bO _ (N9 _ _ _) rfl VQ hf eR rfl rfl rfl (by simp only [aU.fA,aU.fX,List.length_append,List.length_singleton];omega);split;exact bO _ (N9 _ _ _) rfl VQ hf eR rfl rfl rfl (by simp only [aU.fA,aU.fX,List.length_append,List.length_singleton];omega);exact bO _ h1 rfl VQ hf eR rfl rfl rfl (by dsimp only;omega);rw [if_pos e2];by_cases hs:t.aT=true;rw [if_pos hs];obtain⟨w1,w2⟩:=hA.Me hs;exact Oy h1 (by dsimp only;omega) hd hf eR w1 w2 _;rw [if_neg hs];have VQ:t.aT=false:=by simpa using hs
 obtain⟨w1,w2,w3,w4⟩:=hA.D4 VQ;exact Wz h1 vG Qw sd VQ hf eR w1 w2 w3
variable {d6:Int->Int->Int->Int}
theorem Qd (h:nI c nt k t) (hd:t.done=false) (EM:t.fV.op≠7/\t.fV.op≠8):∃pc,nI c nt k (t.je d6 t.fV)/\(t.je d6 t.fV).pc=pc/\(0<=pc/\pc<=t.az.length)/\bS t.az pc.toNat=bS t.az t.pc.toNat/\(t.je d6 t.fV).done=decide (pc=t.az.length)/\(t.je d6 t.fV).az=t.az/\(t.je d6 t.fV).jL=t.jL/\(t.je d6 t.fV).aT=t.aT/\(t.je d6 t.fV).dX=t.dX/\(t.je d6 t.fV).dO=t.dO/\(t.je d6 t.fV).bJ=t.bJ/\(t.je d6 t.fV).ga=t.ga/\(t.je d6 t.fV).eF=t.eF:=by
 have bL:=h.lt hd;have ln:=h.pc;obtain⟨ki,hi⟩:=h.fV hd;have ho:=pE h hd;have hnx:bS t.az (t.pc+1).toNat=bS t.az t.pc.toNat:=by
  rw [wJ ln.1];exact zL rfl (by omega) (by omega)
 have hpc2:∃pc,pc=(t.pc+1+if t.fV.op=4\/(t.fV.op=5/\t.dw.bg t.fV.a=0)\/(t.fV.op=6/\t.dw.bg t.fV.a≠0) then t.fV.bQ else 0)/\(0<=pc/\pc<=t.az.length)/\bS t.az pc.toNat=bS t.az t.pc.toNat:=by
  refine⟨_,rfl,?_⟩;split;rename_i hj;have QG:t.az[t.pc.toNat].op=4\/t.az[t.pc.toNat].op=5\/t.az[t.pc.toNat].op=6:=by
   rw [<-hi];omega
  obtain⟨j1,j2⟩:=NU h.qu ki QG;obtain⟨_,j3⟩:=Pj h.qu ki QG;rw [<-hi] at j1 j2 j3;refine⟨by omega,?_⟩;rw [<-j2];congr 1;omega;refine⟨by omega,?_⟩;rw [Int.add_zero];exact hnx
 obtain⟨pc,he,hr,gV⟩:=hpc2;refine⟨pc,?_,?_,hr,gV,?_⟩;unfold aU.je;rw [<-he];split;exact(h.fX _ _).to hr;split;exact(h.fX _ _).to hr;split;exact(h.fX _ _).to hr;split;exact(h.fX _ _).to hr;exact h.to hr;unfold aU.je;rw [<-he];rfl;unfold aU.je;rw [<-he];have e:∀t2:aU,t2.az=t.az->t2.jL=t.jL->t2.aT=t.aT->t2.dX=t.dX->t2.dO=t.dO->t2.bJ=t.bJ->t2.ga=t.ga->t2.eF=t.eF->(t2.to pc).done=decide (pc=t.az.length)/\(t2.to pc).az=t.az/\(t2.to pc).jL=t.jL/\(t2.to pc).aT=t.aT/\(t2.to pc).dX=t.dX/\(t2.to pc).dO=t.dO/\(t2.to pc).bJ=t.bJ/\(t2.to pc).ga=t.ga/\(t2.to pc).eF=t.eF:=by
  intro t2 a1 a2 a3 a4 a5 a6 a7 a8;refine⟨?_,a1,a2,a3,a4,a5,a6,a7,a8⟩;show decide (pc=t2.az.length)=_;rw [a1]
 split;exact e _ rfl rfl rfl rfl rfl rfl rfl rfl;split;exact e _ rfl rfl rfl rfl rfl rfl rfl rfl;split;exact e _ rfl rfl rfl rfl rfl rfl rfl rfl;split;exact e _ rfl rfl rfl rfl rfl rfl rfl rfl;exact e _ rfl rfl rfl rfl rfl rfl rfl rfl
theorem SE (h:nI c nt k t) (hd:t.done=false) (EM:t.fV.op≠7/\t.fV.op≠8) (ha:t.jL=none) (hs:t.aT=false) (hf:t.dX=none) (eR:t.dO=none) (gV:bS t.az t.pc.toNat=none):lu c nt (k+1) (t.je d6 t.fV):=by
 obtain⟨pc,g0,g1,g2,g3,g4,g5,g6,g7,g8,g9,lO,lg,pH⟩:=Qd (d6:=d6) h hd EM;exact zI (g0.mono (by omega)) (g6.trans ha) (g7.trans hs) (g8.trans hf) (g9.trans eR) (by rw [g5,g1,g3];exact gV)
theorem Fe (hc:db c) (hk:k<2^40) (hM:lR c nt k M) (h:nI c nt (k+1) t) (hcn:t.jj<=k) (vG:t.ga.length<=2*k) (Qw:t.gh.length<=8*k) (hd:t.done=false) (hf:t.dX=none) (eR:t.dO=none)
 (hs:t.aT=true->(t.fV.op=12\/t.fV.op=13)/\bS t.az t.pc.toNat=none) (hw:t.aT=false->t.pc=t.bJ/\t.fV.op=7/\bS t.az t.pc.toNat=none) :
 lu c nt (k+1) (t.tg.wE M (gO (fG t.cf t.id)).2).2.2.1/\lR c nt (k+1) (t.tg.wE M (gO (fG t.cf t.id)).2).2.2.2:=by
 have QH:=h.xA;have hcn0:=h.tN;have h1:nI c nt (k+1) t.tg:=⟨h.cf,h.nn,h.xA,h.qu,h.pc,h.dn,h.ga,by show ([]:List iq).length<=_;simp,h.vC,h.yj,by show 0<=t.jj+1/\t.jj+1<=((k+1:Nat):Int);omega,h.xy,h.mV⟩;have hn:(fG t.cf t.id).mR 0=true:=rfl;have hb:qw c k (gO (fG t.cf t.id)).2:=FO (by rw [h.cf];exact CC hc k t.id (by omega));have dv:(gO (fG t.cf t.id)).2.aA=1:=by unfold gO;rw [if_pos hn]
 have hbf:∀x∈(gO (fG t.cf t.id)).2.av,0<=x/\x<c.nb:=by
  unfold gO;rw [if_pos hn];intro x hx;cases hx
 refine Hr hc hk hM h1 (by show t.ga.length+([]:List iq).length<=_;simpa using vG) (by show ([]:List iq).length<=_;simp) Qw hd hf eR ⟨hb,dv,hbf,hs,λe=>?_⟩;obtain⟨w1,w2,w3⟩:=hw e;have ln:=h.pc;have ho:=pE h hd;show dS t.az t.bJ.toNat=7/\bS t.az t.bJ.toNat=none/\0<=t.bJ/\_;rw [<-w1];exact⟨ho.trans w2,w3,ln.1,.inl ⟨w1,w2⟩⟩
theorem PI (hc:db c) (hk:k<2^40) (hM:lR c nt k M) (h:nI c nt k t) (hd:t.done=false) (ha:t.jL=none) (hs:t.aT=false) (hf:t.dX=none) (eR:t.dO=none) (gV:bS t.az t.pc.toNat=none) (mt:t.fV.op=12\/t.fV.op=13) :
 lu c nt (k+1) (t.plain M t.fV).2.2.1/\lR c nt (k+1) (t.plain M t.fV).2.2.2:=by
 have h':=h.mono (Nat.le_succ k);have vG:=h.ga;unfold aU.plain;dsimp only;split;refine⟨?_,hM.mono (by omega)⟩;split;exact yS (h'.fX _ _) vG hd ha hs hf eR mt gV _ _;exact yS h' vG hd ha hs hf eR mt gV _ _;split;exact Fe hc hk hM (t:={ t with aT:=true,fp:=0 }) ⟨h'.cf,h'.nn,h'.xA,h'.qu,h'.pc,h'.dn,h'.ga,h'.sn,h'.vC,h'.yj,h'.tN,h'.xy,by dsimp only;omega⟩ h.tN.2 vG h.vC hd hf eR (λ_=>⟨mt,gV⟩) (λe=>(by cases e));split;exact⟨DM h' vG hd ha hs hf eR mt gV _ _,hM.mono (by omega)⟩;exact⟨DM h' vG hd ha hs hf eR mt gV _ _,hM.W8 (by omega) _ _ _ (by decide)⟩
theorem PC (hc:db c) (h:qw c k s) (i:aZ):qw c k (t.Ih i s):=by
 have u0:∀x,0<=IntKind.u64.wrap x:=λx=>(kQ x).1;unfold aU.Ih;split;exact PF hc h _ (u0 _);split;exact O7 h _ _ (u0 _);split;exact WR hc h _;split;exact Ww hc h _;split;exact LM h _;split;exact LM h _;exact h
theorem Fk (hs:s.aA=1) (i:aZ):(t.Ih i s).aA=1:=by
 have key:∀r:aM,(r=s\/r.aA=1)->r.aA=1:=λr h=>by
  rcases h with rfl|h;exact hs;exact h
 unfold aU.Ih;split;exact key _ (Mj s _);split;exact key _ (L8 s _ _);split;exact key _ (TO s _);split;exact key _ (Tm s _);split;exact key _ (G4 s _);split;exact key _ (G4 s _);exact hs
theorem PG (s:aM) (a:Int):(Ik s a).2.av=s.av:=by unfold Ik;(repeat' split)<;>rfl
theorem O8 (s:aM) (a v:Int):(HJ s a v).2.av=s.av:=by unfold HJ;split<;>rfl
theorem WS (s:aM) (a:Int):(M8 s a).2.av=s.av:=by unfold M8;(repeat' split)<;>rfl
theorem Wx (s:aM) (a:Int):(MU s a).2.av=s.av:=by unfold MU;(repeat' split)<;>rfl
theorem LN (s:aM) (a:Int):(D1 s a).2.av=s.av:=by unfold D1;(repeat' split)<;>rfl
theorem Fl (hf:∀x∈s.av,0<=x/\x<c.nb) (i:aZ):∀x∈(t.Ih i s).av,0<=x/\x<c.nb:=by
 have e:(t.Ih i s).av=s.av:=by
  unfold aU.Ih;split;exact PG _ _;split;exact O8 _ _ _;split;exact WS _ _;split;exact Wx _ _;split;exact LN _ _;split;exact LN _ _;rfl
 rw [e];exact hf
theorem FS (hf:∀x∈s.av,0<=x/\x<c.nb) (i:aZ):∀x∈(t.uH i s).av,0<=x/\x<c.nb:=by
 have e:(t.uH i s).av=s.av:=by
  unfold aU.uH;split;exact LN _ _;split;exact PG _ _;exact O8 _ _ _
 rw [e];exact hf
theorem BH (hs:s.aA=1) (hb:s.kN=false) {az:Int} (FG:az=1\/az=2):q9 (D1 s az).2.aG:=by
 have hf:s.mR 1=true:=by
  unfold aM.kN at hb;unfold aM.mR;rw [hs]
  simpa using hb
 unfold D1;rw [if_pos hf,if_neg (by omega)];trivial
theorem Rz (hs:s.aA=1) (i:aZ):(t.uH i s).aA=1:=by
 have key:∀r:aM,(r=s\/r.aA=1)->r.aA=1:=λr h=>by
  rcases h with rfl|h;exact hs;exact h
 unfold aU.uH;split;exact key _ (G4 s _);split;exact key _ (Mj s _);exact key _ (L8 s _ _)
theorem RA (hc:db c) (h:qw c k s) (i:aZ):qw c k (t.uH i s):=by
 have u0:∀x,0<=IntKind.u64.wrap x:=λx=>(kQ x).1;unfold aU.uH;split;exact LM h _;split;refine PF hc h _ ?_;unfold aU.sh;split<;>exact u0 _;refine O7 h _ _ ?_;unfold aU.sh;split<;>exact u0 _
theorem Ot (hc:db c) (hk:k<2^40) (hM:lR c nt k M) (h:nI c nt k t) (hd:t.done=false) (ha:t.jL=none) (hs:t.aT=false) (hf:t.dX=none) (eR:t.dO=none) (gV:bS t.az t.pc.toNat=none) :
 lu c nt (k+1) (t.mc d6 M t.fV).2.2.1/\lR c nt (k+1) (t.mc d6 M t.fV).2.2.2:=by
 have h':=h.mono (Nat.le_succ k);obtain⟨ki,hi⟩:=h.fV hd;have nh:=(uh h.qu ki).1 gV;rw [<-hi] at nh;have htr:=h.xy;unfold aU.mc;split;rename_i h7;exact Fe hc hk hM (t:={ t with bJ:=t.pc,lG:=t.dw,iJ:=t.iJ+1 }) ⟨h'.cf,h'.nn,h'.xA,h'.qu,h'.pc,h'.dn,h'.ga,h'.sn,h'.vC,h'.yj,h'.tN,by dsimp only;omega,h'.mV⟩ h.tN.2 h.ga h.vC hd hf eR (λe=>(by rw [show t.aT=true from e] at hs;cases hs)) (λ_=>⟨rfl,h7,gV⟩);rename_i h7;rw [ha];dsimp only;split;rename_i mt;exact PI hc hk hM h hd ha hs hf eR gV mt;split;rename_i DZ;exact L9 hc hM (t:={ t with jL:=none,dX:=some ⟨t.id,t.nt,false,0,0⟩ }) (f:=⟨t.id,t.nt,false,0,0⟩) ⟨h.cf,h.nn,h.xA,h.qu,h.pc,h.dn,h.ga,h.sn,h.vC,h.yj,h.tN,h.xy,h.mV⟩ rfl hs hd DZ gV rfl rfl h.nn (by dsimp only;omega) (λ_=>rfl) (λl e=>(by rw [show t.dO=some l from e] at eR;cases eR));exact⟨SE h hd ⟨h7,nh.1⟩ ha hs hf eR gV,hM.mono (by omega)⟩
theorem Oq (hc:db c) (hk:k<2^40) (hM:lR c nt k M) (h:nI c nt k t) (hd:t.done=false) (ha:t.jL=some s) (hf:t.dX=none) (eR:t.dO=none) (vG:t.ga.length+t.eF.length<=2*k) (hR:ZJ c k t s) (hb:s.kN=false) :
 lu c nt (k+1) (t.mc d6 M t.fV).2.2.1/\lR c nt (k+1) (t.mc d6 M t.fV).2.2.2:=by
 have h':=h.mono (Nat.le_succ k);obtain⟨ki,hi⟩:=h.fV hd;obtain⟨w1,w2,w3,w4⟩:=hR.D4;have nh:=(uh h.qu ki).2.1 _ w4;rw [<-hi] at nh;unfold aU.mc;rw [if_neg nh.1,ha];dsimp only;split;rename_i mt;refine Hr hc hk hM (t:={ t with jL:=some (t.Ih t.fV s) }) ⟨h'.cf,h'.nn,h'.xA,h'.qu,h'.pc,h'.dn,h'.ga,h'.sn,h'.vC,h'.yj,h'.tN,h'.xy,h'.mV⟩ vG h.sn h.vC hd hf eR ⟨PC hc hR.ok _,Fk hR.st _,Fl hR.Bq _,λe=>(by have e2:t.aT=true:=e;rw [hR.Me] at e2;cases e2),λ_=>⟨w1,w2,w3,?_⟩⟩;by_cases h89:t.fV.op=8\/t.fV.op=9;right;right;unfold aU.Ih;rw [if_neg (by omega),if_neg (by omega),if_neg (by omega),if_neg (by omega)];split;exact BH hR.st hb (.inl rfl);rw [if_pos (by omega)];exact BH hR.st hb (.inr rfl);exact .inr (.inl ⟨w4,by show t.fV.op=10\/t.fV.op=11\/t.fV.op=14\/t.fV.op=15;omega⟩);rename_i mt;refine⟨?_,hM.mono (by omega)⟩;obtain⟨pc,g0,g1,g2,g3,g4,g5,g6,g7,g8,g9,lO,lg,pH⟩:=Qd (d6:=d6) h hd ⟨nh.1,by omega⟩;have gV:bS t.az pc.toNat=some t.bJ.toNat:=g3.trans w4
 have qd:¬pc=t.az.length:=λe=>by
  rw [show pc.toNat=t.az.length by omega,(gy h.qu).2.2] at gV;cases gV
 refine⟨g0.mono (by omega),λe=>(by rw [g6,ha] at e;cases e),λs2 e=>?_,λf e=>(by rw [g8,hf] at e;cases e),λ_=>g9.trans eR,λl e=>(by rw [g9,eR] at e;cases e)⟩;rw [g6,ha] at e;injection e with e;subst e;refine⟨?_,by rw [g4];exact decide_eq_false qd,g8.trans hf,by rw [lg,pH];omega⟩;rw [if_neg (by rw [g7,hb,hR.Me];simp)];exact⟨hR.ok.mono (by omega),hR.st,hR.Bq,g7.trans hR.Me,by rw [g5,lO,g1];exact⟨w1,w2,w3,gV⟩⟩
theorem Pt (hc:db c) (hk:k<2^40) (hM:lR c nt k M) (h:lu c nt k t) (hd:t.done=false):lu c nt (k+1) (t.tT d6 M).2.2.1/\lR c nt (k+1) (t.tT d6 M).2.2.2:=by
 have qU:=h.co;have zT:=qU.mono (Nat.le_succ k);have hak:=qU.mV;unfold aU.tT;cases hf:t.dX with
 | some f=>
   obtain⟨g1,g2,g3,g4,g5,g6,g7⟩:=h.fen f hf;obtain⟨g8,g9⟩:=h.MC g1;exact L9 hc hM qU g1 g8 hd g3 g9 hf g4 g5 g6 g7 h.dr
 | none=>
   have eR:=h.P4 hf;dsimp only;cases ha:t.jL with
   | none=>
     obtain⟨g8,g9⟩:=h.MC ha;exact Ot hc hk hM qU hd ha g8 hf eR g9
   | some s=>
     obtain⟨g1,_,_,g2⟩:=h.Fh s ha;dsimp only;by_cases hb:s.kN=true;rw [if_pos hb];rw [if_pos (.inl hb)] at g1;exact Hr hc hk hM zT g2 qU.sn qU.vC hd hf eR g1;rw [if_neg hb];have k7:s.kN=false:=by simpa using hb
     by_cases hs:t.aT=true;rw [if_pos hs];rw [if_pos (.inr hs)] at g1;exact Hr hc hk hM (t:=t.ZD t.fV s) ⟨zT.cf,zT.nn,zT.xA,zT.qu,zT.pc,zT.dn,zT.ga,zT.sn,zT.vC,zT.yj,zT.tN,zT.xy,by show 0<=t.fp+1/\t.fp+1<=((k+1:Nat):Int);omega⟩ g2 qU.sn qU.vC hd hf eR ⟨RA hc g1.ok _,Rz g1.st _,FS g1.Bq _,g1.Me,λe=>(by rw [show t.aT=false from e] at hs;cases hs)⟩;rw [if_neg hs];rw [if_neg (by rw [k7];simpa using hs)] at g1;exact Oq hc hk hM qU hd ha hf eR g2 g1 k7
theorem NN {id:Int} (QH:0<=id/\id<nt/\nt<=16) {p:List aZ} (hp:(cD p).2=0):lu c nt 0 (qa c id nt p):=by
 refine zI ⟨rfl,rfl,QH,hp,⟨Int.le_refl _,by show (0:Int)<=p.length;omega⟩,?_,Nat.zero_le _,Nat.zero_le _,Nat.zero_le _,λx hx=>(by cases hx),⟨Int.le_refl _,Int.le_refl _⟩,⟨Int.le_refl _,Int.le_refl _⟩,⟨Int.le_refl _,Int.le_refl _⟩⟩ rfl rfl rfl rfl rfl;show decide (p.length=0)=decide ((0:Int)=p.length);by_cases e:p.length=0;simp [e];rw [decide_eq_false e,decide_eq_false (by omega)]
theorem lu.mono {k':Nat} (h:lu c nt k t) (hk:k<=k'):lu c nt k' t:=by
 refine⟨h.co.mono hk,h.MC,λs e=>?_,h.fen,h.P4,λl e=>?_⟩;obtain⟨g1,g2,g3,g4⟩:=h.Fh s e;refine⟨?_,g2,g3,by omega⟩;split;rename_i hb;rw [if_pos hb] at g1;exact⟨g1.ok.mono hk,g1.st,g1.Bq,g1.Me,g1.D4⟩;rename_i hb;rw [if_neg hb] at g1;exact⟨g1.ok.mono hk,g1.st,g1.Bq,g1.Me,g1.D4⟩;obtain⟨g1,g2,g3⟩:=h.dr l e;exact⟨g1,by omega,g3⟩
end
end
section
namespace TGFbA
theorem mr [Gl] {A:AW} {L:List It} {T:Prop} (hS:ah A L) (hw:A.Wf) (h':(aR A L/\bj A L/\bN L)=T:=by first|(dsimp only [aa,ag,aR,bj,bN,eE];done)|exact rfl):T:=h'▸hS.eD hw
end TGFbA
open TGFbA
variable [Gl]
def au (i:aZ):List Value:=[.int .i64 i.op,.int .i64 i.a,.int .i64 i.b,.int .i64 i.c,.int .i64 i.bQ]
def jS (A:AW) (v:Value) (p:List aZ):Prop:=dM A 5 v p.length (p.flatMap au)
theorem CO:∀(l:List aZ) (j:Nat) (hj:j<l.length),((l.flatMap au).drop (j*5)).take 5=au l[j]
 | x::l,0,_=>by simp [au]
 | x::l,j+1,h=>by
   have:=CO l j (by simpa using h);have e:(j+1)*5=(au x).length+j*5:=(by simp [au];omega);rw [List.flatMap_cons,e,<-List.drop_drop,List.drop_left]
   simpa using this
theorem jS.bE {A:AW} {v:Value} {l:List aZ} (h:jS A v l):∃o c,v=.slice o l.length c/\l.length<=c:=dM.bE h
theorem jS.le {A B:AW} (hl:A.le B) (hw:A.Wf) {v:Value} {l:List aZ} (h:jS A v l):jS B v l:=dM.le hl hw h
theorem jS.at {A:AW} {o:Option Addr} {c n:Nat} {l:List aZ} (h:jS A (.slice o n c) l) {i:Nat} (hi:i<l.length) :
 ∃p bP,o=some p/\A.bP p.block=some bP/\p.off+i*5+5<=bP.length/\(bP.drop (p.off+i*5)).take 5=au l[i]:=by
 rcases h with ⟨⟨o,h1⟩,h2,_⟩|⟨p,c,bP,own,u,h1,h2,h3,h4,h5,h6⟩;omega;injection h1 with h1 _ _;refine⟨p,bP,h1,AW.wQ h3,by omega,?_⟩;rw [<-CO l i hi,h6,<-List.drop_drop,List.drop_take,List.take_take];congr 1;omega
theorem IX {bP:List Value} {b:Nat} {x:aZ} (h:(bP.drop b).take 5=au x) (q:Nat) (hq:q<5):bP[b+q]? = (au x)[q]?:=by
 rw [<-h,List.getElem?_take_of_lt hq,List.getElem?_drop]
theorem um {bP:List Value} {b:Nat} {x:aZ} (h:(bP.drop b).take 5=au x):bP[b]? = some (.int .i64 x.op):=IX h 0 (by omega)
theorem uz (v:Value) (p:List aZ) (b:Nat) (A:AW) (h:jS A v p) (hl:p.length<2^30) (hb:b<p.length) :
 ax Tryz.prog 157 [v,.int .i64 b] A (λu A'=>u=.int .i64 (di p b)/\A=A'):=by
 refine aF Tryz.func157 λhw=>?_;obtain⟨o,c,rfl,_⟩:=h.bE;have I0:IntKind.i64.wrap ((b:Int)+1)=((b+1:Nat):Int):=ai (by omega) (by omega);revert hw;refine W cd (J1 I0) ?_<;>(unhygienic intros);refine cW (λk fr A'=>A=A'/\∃i:Nat,k=p.length-i/\i<=p.length/\fr 0=.slice o p.length c/\fr 5=.int .i64 i/\di p b=kX p i) (p.length-(b+1)) ?_ ?_;exact⟨rfl,b+1,rfl,by omega,rfl,rfl,rfl⟩;rintro k fr A' ⟨rfl,i,rfl,hi,h0,h5,he⟩;by_cases bL:i<p.length;obtain⟨q,bP,rfl,bI,eJ,hcell⟩:=h.at bL;have mt:=um hcell;have fU:=uR (i:=i);have dv:=sL bL;have ho:dS p i=p[i].op:=lm (List.getElem?_eq_getElem bL);rw [ho] at dv;by_cases h8:p[i].op=8;rw [if_pos h8] at dv;refine aO ?_;refine W cd (J8 h0 h5 bI mt eJ bL fU h8) ?_<;>intros;simp [he,dv];rw [if_neg h8] at dv;refine aO ?_;refine W cd (J8 h0 h5 bI mt eJ bL fU h8) ?_<;>intros;refine⟨p.length-(i+1),by omega,rfl,i+1,rfl,by omega,?_,?_,?_⟩;simp [h0];simp;rw [he,dv];have tJ:i=p.length:=by omega
 refine aO ?_;refine W cd (J3 h0 h5 bL) ?_<;>intros;subst tJ;simp [he,zN (Nat.le_refl _)]
theorem NV (v:Value) (p:List aZ) (k t:Nat) (A:AW) (h:jS A v p) (hl:p.length<2^30) (hk:k<p.length) (ht:t<=p.length) :
 ax Tryz.prog 158 [v,.int .i64 k,.int .i64 t] A (λu A'=>u=.bool (gx p k t)/\A=A'):=by
 refine aF Tryz.func158 λhw=>?_;obtain⟨o,c,rfl,_⟩:=h.bE;have I0:IntKind.i64.wrap ((k:Int)+1)=((k+1:Nat):Int):=ai (by omega) (by omega);have RW:IntKind.i64.wrap ((p.length:Int)-1)=((p.length-1:Nat):Int):=by rw [ai (by omega) (by omega)];omega
 revert hw;refine W cd (J1 I0) ?_<;>(unhygienic intros)
 refine cW (λn fr A'=>A=A'/\∃i:Nat,n=t-i/\k+1<=i/\fr 0=.slice o p.length c/\fr 2=.int .i64 t/\fr 7=.int .i64 i/\
  (gx p k t=true↔∃b,i<=b/\b<t/\dS p b=7/\t<=min (di p b) (p.length-1))) (t-(k+1)) ?_ ?_
 refine⟨rfl,k+1,rfl,Nat.le_refl _,rfl,rfl,rfl,?_⟩;rw [gx,List.any_eq_true];constructor;rintro ⟨b,hb,hh⟩;simp only [Bool.and_eq_true,decide_eq_true_eq] at hh;exact⟨b,by omega,List.mem_range.1 hb,hh.1.2,hh.2⟩;rintro ⟨b,h1,h2,h3,h4⟩;exact⟨b,List.mem_range.2 h2,by simp only [Bool.and_eq_true,decide_eq_true_eq];exact⟨⟨by omega,h3⟩,h4⟩⟩;rintro n fr A' ⟨rfl,i,rfl,hi,h0,h2,h7,he⟩;by_cases bL:i<t;have tJ:i<p.length:=by omega
 obtain⟨q,bP,rfl,bI,eJ,hcell⟩:=h.at tJ;have mt:=um hcell;have fU:=uR (i:=i);have ho:dS p i=p[i].op:=lm (List.getElem?_eq_getElem tJ);by_cases h7':p[i].op=7;have rT:=uz _ p i A h hl tJ;by_cases UH:t<=min (di p i) (p.length-1);have e:gx p k t=true:=he.2 ⟨i,Nat.le_refl _,bL,by rw [ho];exact h7',UH⟩;have yu:((t:Int)<=if p.length-1<di p i then ((p.length-1:Nat):Int) else (di p i:Int)):=by split<;>omega
 refine aO ?_;refine W (J1 @rT) (mi h0 h2 h7 bI mt eJ bL tJ fU RW h7' yu e) ?_<;>intros;simp [cg,aL,aQ,bm,aK,aN,e];have yu:¬((t:Int)<=if p.length-1<di p i then ((p.length-1:Nat):Int) else (di p i:Int)):=by split<;>omega
 refine aO ?_;refine W (J1 @rT) (tA h0 h2 h7 bI mt eJ bL tJ fU RW h7' yu) ?_<;>intros;refine⟨t-(i+1),by omega,rfl,i+1,rfl,by omega,?_,?_,?_,?_⟩;simp [h0];simp [h2];simp;rw [he];constructor;rintro ⟨b,g1,g2,g3,g4⟩;have:b≠i:=λe=>UH (by rw [<-e];exact g4);exact⟨b,by omega,g2,g3,g4⟩;rintro ⟨b,g1,g2,g3,g4⟩;exact⟨b,by omega,g2,g3,g4⟩;refine aO ?_;refine W cd (HE h0 h2 h7 bI mt eJ bL tJ fU RW h7') ?_<;>intros;refine⟨t-(i+1),by omega,rfl,i+1,rfl,by omega,?_,?_,?_,?_⟩;simp [h0];simp [h2];simp;rw [he];constructor;rintro ⟨b,g1,g2,g3,g4⟩;have:b≠i:=λe=>h7' (by rw [<-ho,<-e];exact g3);exact⟨b,by omega,g2,g3,g4⟩;rintro ⟨b,g1,g2,g3,g4⟩;exact⟨b,by omega,g2,g3,g4⟩;have e:gx p k t=false:=by
  cases hp:gx p k t with
  | false=>rfl
  | true=>obtain⟨b,g1,g2,_⟩:=he.1 hp;omega
 refine aO ?_;refine W cd (J5 h0 h2 h7 bL e) ?_<;>intros;simp [cg,aL,aQ,bm,aK,aN,e]
end
end Go.Stx
