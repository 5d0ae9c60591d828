/-
 Programs of instructions: what the program's check says and what the document's check says are the same (plain law, no program in sight).
-/
import Derived.Test.YtejgooipbmnioaaGreatDoorG23
set_option linter.unusedVariables false
set_option linter.unusedSimpArgs false
set_option linter.unusedSectionVars false
set_option maxRecDepth 20000
set_option maxHeartbeats 4000000
namespace Go.Stx
open Go Go.Proofs
attribute [local irreducible] eg bn aC aV cR df
structure cz where
 op:Int
 a:Int
 b:Int
 c:Int
 cQ:Int
deriving DecidableEq
def xT (op:Int):Bool:=op == 1 || op == 2 || op == 3 || op == 5 || op == 6 || op == 10 || op == 11 || op == 12 || op == 13 || op == 14 || op == 15 || op == 17
def qz (op:Int):Bool:=op == 2 || op == 3 || op == 10 || op == 11 || op == 12 || op == 13
def xS (op:Int):Bool:=op == 3
def mY (r:Int) (is:Bool):Bool:=if is then decide (0≤r) && decide (r<8) else decide (r=0)
def fQ (op cQ:Int):Bool:=
 if op=1∨op=10∨op=11∨op=12∨op=13 then true
 else if op=3 then decide (0≤cQ) && decide (cQ<22)
 else if op=4∨op=5∨op=6 then decide (0≤cQ) && decide (cQ≤64)
 else if op=7 then decide (1≤cQ) && decide (cQ≤8)
 else if op=14 then decide (0≤cQ) && decide (cQ<4)
 else decide (cQ=0)
def dL (i:cz):Int:=
 if i.op<0∨18≤i.op then 10
 else if (mY i.a (xT i.op) && mY i.b (qz i.op) && mY i.c (xS i.op)) && fQ i.op i.cQ then 0 else 11
def cU (i:cz):Int:=
 if dL i=0 then
  if i.op=8∨i.op=9∨i.op=10∨i.op=11∨i.op=14∨i.op=15 then 1
  else if i.op=7∨i.op=12∨i.op=13∨i.op=16∨i.op=17 then 2 else 0
 else 0
def eM (i:cz):Option Int:=if dL i=0∧(i.op=4∨i.op=5∨i.op=6) then some i.cQ else none
def eh (p:List cz) (k:Nat):Int:=(p[k]?.map (·.op)).getD (-1)
def og (p:List cz) (k:Nat):Nat:=k+(p.drop k).findIdx fun i=>i.op == 8
def dy (p:List cz) (b:Nat):Nat:=og p (b+1)
def cJ (p:List cz):Nat→Option Nat
 | 0=>none
 | k+1=>match cJ p k with
   | none=>if eh p k=7 then some k else none
   | some b=>if eh p k=8 then none else some b
theorem pH {p:List cz}:∀{t b:Nat},cJ p t=some b→b<t∧eh p b=7∧∀j,b<j→j<t→eh p j≠8
 | 0,b,h=>by cases h
 | t+1,b,h=>by
   unfold cJ at h
   split at h
   · split at h
     · rename_i h7
       injection h with h
       subst h
       exact⟨Nat.lt_succ_self _,h7,fun j h1 h2=>by omega⟩
     · cases h
   · rename_i b' hb
     split at h
     · cases h
     · rename_i h8
       injection h with h
       subst h
       obtain⟨h1,h2,h3⟩:=pH hb
       refine⟨by omega,h2,fun j h4 h5=>?_⟩
       by_cases e:j=t
       · subst e;exact h8
       · exact h3 j h4 (by omega)
theorem ym {p:List cz} {b:Nat} (hb:eh p b=7):∀{t:Nat},b<t→(∀j,b<j→j<t→eh p j≠8)→∃b',cJ p t=some b'
 | 0,h,_=>by omega
 | t+1,h,hn=>by
   unfold cJ
   by_cases e:b=t
   · subst e
     cases hs:cJ p b with
     | none=>exact⟨b,by simp [hb]⟩
     | some b'=>exact⟨b',by simp [hb]⟩
   · obtain⟨b',h'⟩:=ym hb (t:=t) (by omega) (fun j h1 h2=>hn j h1 (by omega))
     rw [h']
     have:=hn t (by omega) (by omega)
     exact⟨b',by simp [this]⟩
theorem F2 {p:List cz} {k:Nat} (hk:cJ p k=none):∀{t b:Nat},k≤t→cJ p t=some b→k≤b
 | t,b,hkt,h=>by
   obtain⟨h1,h2,h3⟩:=pH h
   rcases Nat.lt_or_ge b k with h4|h4
   · obtain⟨b',h'⟩:=ym h2 h4 (fun j h5 h6=>h3 j h5 (by omega))
     rw [hk] at h'
     cases h'
   · exact h4
theorem up {p:List cz} {k:Nat} (h:0≤eh p k):k<p.length:=by
 rcases Nat.lt_or_ge k p.length with h1|h1
 · exact h1
 · unfold eh at h
   rw [List.getElem?_eq_none h1] at h
   simp at h
theorem s9 {p:List cz} {k:Nat} (h:k<p.length):og p k=if eh p k=8 then k else og p (k+1):=by
 unfold og
 have e:p.drop k=p[k]::p.drop (k+1):=List.drop_eq_getElem_cons h
 have e2:eh p k=p[k].op:=by simp [eh,List.getElem?_eq_getElem h]
 rw [e,List.findIdx_cons,e2]
 by_cases h8:p[k].op=8
 · simp [h8]
 · have e3:(p[k].op == 8)=false:=by simpa using h8
   rw [if_neg h8,e3]
   simp only [cond_false]
   omega
theorem vy {p:List cz} {k:Nat} (h:p.length≤k):og p k=k:=by
 unfold og
 rw [List.drop_eq_nil_of_le h]
 rfl
theorem pU {p:List cz} {k:Nat} (h:k≤p.length):k≤og p k∧og p k≤p.length∧(∀j,k≤j→j<og p k→eh p j≠8)∧(og p k<p.length→eh p (og p k)=8):=by
 induction hn:p.length-k generalizing k with
 | zero=>
   have:k=p.length:=by omega
   rw [vy (by omega)]
   exact⟨Nat.le_refl _,h,fun j h1 h2=>by omega,fun h1=>by omega⟩
 | succ n ih=>
   rw [s9 (by omega)]
   split
   · rename_i h8
     exact⟨Nat.le_refl _,h,fun j h1 h2=>by omega,fun _=>h8⟩
   · rename_i h8
     obtain⟨h1,h2,h3,h4⟩:=ih (k:=k+1) (by omega) (by omega)
     refine⟨by omega,h2,fun j h5 h6=>?_,h4⟩
     by_cases e:j=k
     · subst e;exact h8
     · exact h3 j (by omega) h6
def jk (p:List cz) (k t:Nat):Bool:=(List.range t).any fun b=>decide (k<b) && decide (eh p b=7) && decide (t≤min (dy p b) (p.length-1))
def gk (p:List cz) (k:Nat) (b:Option Nat) (n:Int):Bool:=
 let t:Nat:=k+1+n.toNat
 if p.length<t then false else match b with
 | some b=>decide (t≤dy p b)
 | none=>!jk p k t
def lZ (p:List cz) (t:Nat):Nat→Nat→Option Nat→Option (Nat×Nat)
 | 0,_,b=>match b with
   | some b=>if b≤t∧t<p.length then some (b,p.length) else none
   | none=>none
 | n+1,k,b=>match b with
   | none=>lZ p t n (k+1) (if eh p k=7 then some k else none)
   | some b=>if eh p k=8 then (if b≤t∧t≤k then some (b,k) else lZ p t n (k+1) none) else lZ p t n (k+1) (some b)
theorem Bc {p:List cz} {t:Nat}:∀{n k:Nat},t<k→lZ p t n k none=none
 | 0,k,_=>rfl
 | n+1,k,h=>by
   unfold lZ
   by_cases h7:eh p k=7
   · rw [if_pos h7]
     exact Bd h (by omega)
   · rw [if_neg h7]
     exact Bc (by omega)
where
 Bd {p:List cz} {t:Nat}:∀{n k b:Nat},t<b→b<k→lZ p t n k (some b)=none
 | 0,k,b,h,_=>by unfold lZ;simp;omega
 | n+1,k,b,h,hk=>by
   unfold lZ
   simp only
   split
   · rw [if_neg (by omega)]
     exact Bc (by omega)
   · exact Bd h (by omega)
theorem Bb {p:List cz} {t b:Nat} (hb:b≤t):∀{n k:Nat},k+n=p.length→t≤k→t<p.length→lZ p t n k (some b)=some (b,og p k)
 | 0,k,h,_,ht=>by
   unfold lZ
   rw [vy (by omega)]
   simp only
   rw [if_pos ⟨hb,ht⟩]
   rw [show k=p.length by omega]
 | n+1,k,h,hk,ht=>by
   unfold lZ
   rw [s9 (by omega)]
   simp only
   by_cases h8:eh p k=8
   · rw [if_pos h8,if_pos h8,if_pos ⟨hb,hk⟩]
   · rw [if_neg h8,if_neg h8]
     exact Bb hb (by omega) (by omega) ht
where
 O9 {p:List cz} {t:Nat}:∀{n k:Nat},k+n=p.length→t<k→t<p.length→lZ p t n k (some t)=some (t,og p k)
 | n,k,h,hk,ht=>Bb (Nat.le_refl t) h (by omega) ht
def pd (xa:Nat→Option Nat→Int→Bool) (k:Nat) (b:Option Nat) (x:cz):Int:=
 if dL x=0 then
  if (x.op=7∧b.isSome=true)∨(x.op=8∧b.isSome=false) then 40
  else if (cU x=1∧b.isSome=false)∨(cU x=2∧b.isSome=true) then 41
  else match eM x with
   | some n=>if xa k b n=true then 0 else 42
   | none=>0
 else dL x
def Br (k:Nat) (b:Option Nat) (x:cz):Option Nat:=if x.op=7 then some k else if x.op=8 then none else b
def lG (xa:Nat→Option Nat→Int→Bool):List cz→Nat→Option Nat→Nat×Int
 | [],_,b=>match b with
   | some q=>(q,43)
   | none=>(0,0)
 | x::l,k,b=>if pd xa k b x=0 then lG xa l (k+1) (Br k b x) else (k,pd xa k b x)
def dW (p:List cz):Nat×Int:=if 64<p.length then (0,3) else lG (gk p) p 0 none
theorem FZ {x:cz} {n:Int} (h:eM x=some n):n=x.cQ∧dL x=0∧(x.op=4∨x.op=5∨x.op=6):=by
 unfold eM at h
 split at h
 · rename_i h1
   injection h with h
   exact⟨h.symm,h1.1,h1.2⟩
 · cases h
theorem pj {p:List cz} {k:Nat} {x:cz} (h:p[k]? = some x):eh p k=x.op:=by simp [eh,h]
theorem Gj {xa:Nat→Option Nat→Int→Bool} {p:List cz} {k:Nat} {x:cz} (hx:p[k]? = some x) (h:pd xa k (cJ p k) x=0):Br k (cJ p k) x=cJ p (k+1):=by
 have e:=pj hx
 unfold Br
 rw [cJ]
 cases hb:cJ p k with
 | none=>
   simp only
   rw [e]
   by_cases h7:x.op=7
   · rw [if_pos h7,if_pos h7]
   · rw [if_neg h7,if_neg h7]
     split<;>rfl
 | some b=>
   simp only
   rw [e]
   have h7:x.op≠7:=fun h7=>by
    rw [hb] at h
    unfold pd at h
    split at h
    · rw [if_pos (.inl ⟨h7,rfl⟩)] at h
      cases h
    · rename_i h0;exact h0 h
   rw [if_neg h7]
theorem zo {xa:Nat→Option Nat→Int→Bool} {p:List cz}:∀(l:List cz) (k:Nat),p.drop k=l→(lG xa l k (cJ p k)).2=0→
 (∀j x,k≤j→p[j]? = some x→pd xa j (cJ p j) x=0)∧cJ p (k+l.length)=none
 | [],k,h,h0=>by
   refine⟨fun j x hj hx=>?_,?_⟩
   · have h1:=(List.getElem?_eq_some_iff.1 hx).1
     have h2:p.length≤k:=by
      rcases Nat.lt_or_ge k p.length with h3|h3
      · rw [List.drop_eq_getElem_cons h3] at h;cases h
      · exact h3
     omega
   · unfold lG at h0
     show cJ p k=none
     cases hb:cJ p k with
     | none=>rfl
     | some b=>rw [hb] at h0;cases h0
 | x::l,k,h,h0=>by
   have hx:p[k]? = some x:=by
    have:=congrArg (fun q=>q[0]?) h
    simpa using this
   unfold lG at h0
   split at h0
   · rename_i h1
     rw [Gj hx h1] at h0
     obtain⟨h2,h3⟩:=zo l (k+1) (by rw [←List.drop_drop,h];rfl) h0
     refine⟨fun j y hj hy=>?_,by rw [List.length_cons,show k+(l.length+1)=k+1+l.length by omega];exact h3⟩
     by_cases e:j=k
     · subst e
       rw [hx] at hy
       injection hy with hy
       subst hy
       exact h1
     · exact h2 j y (by omega) hy
   · rename_i h1
     exact absurd h0 h1
theorem fX {p:List cz} (h:(dW p).2=0):p.length≤64∧(∀j x,p[j]? = some x→pd (gk p) j (cJ p j) x=0)∧cJ p p.length=none:=by
 unfold dW at h
 split at h
 · cases h
 · rename_i hl
   obtain⟨h1,h2⟩:=zo p 0 rfl h
   rw [Nat.zero_add] at h2
   exact⟨by omega,fun j x hx=>h1 j x (Nat.zero_le _) hx,h2⟩
theorem GD {x:cz} (h:dL x=0) (ho:x.op=4∨x.op=5∨x.op=6):0≤x.cQ∧x.cQ≤64:=by
 unfold dL at h
 split at h
 · cases h
 · split at h
   · rename_i h1
     rw [Bool.and_eq_true] at h1
     have h2:=h1.2
     unfold fQ at h2
     rw [if_neg (by omega),if_neg (by omega),if_pos ho] at h2
     simpa using h2
   · cases h
section
variable [Gl]
structure lp where
 pc:Int
 fY:Int
 val:Int
structure Qz where
 bX:Int
 am:Int
 fY:Int
 Ub:Int
 reads:List Int
 bN:List Int
structure gA where
 am:Int
 Rp:Int
 NK:Int
 Mj:ba
def gA.zero:gA:=⟨0,0,0,ba.zero⟩
structure il where
 am:Int
 kv:Int
 fw:Bool
 uo:Int
 next:Int
def il.done (f:il):Bool:=f.fw && decide (f.kv≤f.next)
def il.skip (f:il):il:=if f.next=f.am then { f with next:=f.next+1 } else f
def il.vq (f:il) (jJ:Int):Bool:=if jJ=0 then true else if jJ=1 then false else decide (f.uo≤IntKind.u64.wrap (jJ-2))
def il.k9 (f:il):Int:=if f.fw=true then IntKind.i64.wrap f.uo else -1
def fM (f:il) (M:Mm):ba×il:=
 if f.done=true then (ba.zero,f)
 else if f.fw=false then (gI M 3 0,({ f with fw:=true,uo:=(gI M 3 0).fg }:il).skip)
 else (gI M 6 f.next,if f.vq (gI M 6 f.next).fg=true then ({ f with next:=f.next+1 }:il).skip else f)
def kU (c:bC) (l:List (Int×Int)) (qE:Int) (bs:List Int):List (Int×Int):=
 l++(bs.filter fun b=>decide (0≤cG c b)).map fun b=>(b,qE)
def iI (l:List (Int×Int)) (k9:Int):List (Int×Int):=l.filter fun x=>decide (k9<x.2)
def jU (c:bC) (l:List (Int×Int)) (k9:Int):List fm:=(l.filter fun x=>!decide (k9<x.2)).map fun x=>⟨cG c x.1,x.1,0,0⟩
def tq:List fm→Mm→ba×List fm×Mm
 | [],M=>(ba.zero,[],M)
 | p::l,M=>((dP p M).1,if (dP p M).2.1.bX=3 then l else (dP p M).2.1::l,(dP p M).2.2)
structure R8 where
 r0:Int
 r1:Int
 r2:Int
 r3:Int
 r4:Int
 r5:Int
 r6:Int
 r7:Int
def R8.bR (r:R8) (i:Int):Int:=if i=0 then r.r0 else if i=1 then r.r1 else if i=2 then r.r2 else if i=3 then r.r3 else if i=4 then r.r4 else if i=5 then r.r5 else if i=6 then r.r6 else r.r7
def R8.set (r:R8) (i v:Int):R8:=
 if i=0 then { r with r0:=v } else if i=1 then { r with r1:=v } else if i=2 then { r with r2:=v } else if i=3 then { r with r3:=v }
 else if i=4 then { r with r4:=v } else if i=5 then { r with r5:=v } else if i=6 then { r with r6:=v } else { r with r7:=v }
def R8.zero:R8:=⟨0,0,0,0,0,0,0,0⟩
def R8.cells (r:R8):List Value:=[.int .u64 r.r0,.int .u64 r.r1,.int .u64 r.r2,.int .u64 r.r3,.int .u64 r.r4,.int .u64 r.r5,.int .u64 r.r6,.int .u64 r.r7]
structure be where
 iE:Option aT
 bQ:Int
 jP:R8
 gB:Int
 dY:List lp
 aK:Bool
 eO:Int
 dA:Option il
 dt:Option (List fm)
 cf:bC
 id:Int
 nt:Int
 ay:List cz
 pc:Int
 dC:R8
 iZ:Int
 done:Bool
 fu:List (Int×Int)
 fV:List lp
 gv:Int
def qW (c:bC) (id nt:Int) (p:List cz):be:=⟨none,0,.zero,0,[],false,0,none,none,c,id,nt,p,0,.zero,0,decide (p.length=0),[],[],0⟩
def be.to (t:be) (pc:Int):be:={ t with pc:=pc,done:=decide (pc=t.ay.length) }
def be.lO (t:be):be:=t.to (t.pc+1)
def be.lK (t:be) (fY v:Int):be:={ t with fV:=t.fV++[⟨t.pc,fY,v⟩] }
def be.c8 (t:be) (r cQ:Int):Int:=IntKind.u64.wrap (t.dC.bR r+IntKind.u64.wrap cQ)
def be.ol (t:be) (k:Int):cz:=t.ay.getD k.toNat ⟨0,0,0,0,0⟩
def be.fv (t:be):cz:=t.ol t.pc
def be.ez (t:be) (a v:Int):be:={ t with dC:=t.dC.set a v }
variable (fF:Int→Int→Int→Int)
def be.gZ (t:be) (i:cz):be:=
 (if i.op=1 then t.ez i.a (IntKind.u64.wrap i.cQ) else if i.op=2 then t.ez i.a (t.dC.bR i.b) else if i.op=3 then t.ez i.a (fF i.cQ (t.dC.bR i.b) (t.dC.bR i.c))
  else if i.op=17 then t.ez i.a (IntKind.u64.wrap t.iZ) else t).to
 (t.pc+1+if i.op=4∨(i.op=5∧t.dC.bR i.a=0)∨(i.op=6∧t.dC.bR i.a≠0) then i.cQ else 0)
def be.qM (t:be):be:={ t with iE:=some (gf (fl t.cf t.id)).2,dY:=[],gv:=t.gv+1 }
def be.D7 (t:be) (i:cz) (s:aT):aT:=
 if i.op=10 then (Eb s (t.c8 i.b i.cQ)).2 else if i.op=11 then (DH s (t.c8 i.a i.cQ) (t.dC.bR i.b)).2 else if i.op=14 then (Ip s i.cQ).2
 else if i.op=15 then (If s (t.dC.bR i.a)).2 else if i.op=8 then (zS s 1).2 else if i.op=9 then (zS s 2).2 else s
def be.lY (t:be) (i:cz):Int:=if i.op=12 then t.c8 i.b i.cQ else t.c8 i.a i.cQ
def be.zI (t:be) (i:cz) (v:Int):be:=if i.op=12 then ((t.ez i.a v).lK 4 v).lO else (t.lK 5 v).lO
def be.fg (t:be) (r fY v:Int):be:={ t.ez r v with dY:=t.dY++[⟨t.pc,fY,v⟩] }
def be.jY (t:be) (i:cz) (s:aT):be:=
 let t1:be:={ t with iE:=none,aK:=false }
 if s.ay=1 then t1.zI i (if i.op=13 then t.dC.bR i.b else s.value) else if s.ay=6 then (t1.lK 7 6).lO else t1
def be.mG (t:be) (s:aT):be:=
 if s.ay=1 then { t with iE:=none,fV:=t.fV++t.dY,fu:=if 0<s.av.length then kU t.cf t.fu s.qE s.av else t.fu }
 else { t with iE:=none,dC:=t.jP }
def be.iL (t:be) (ay:Int):be:=
 ({ t with gB:=0,iZ:=ay,fV:=t.fV++[⟨t.bQ,3,IntKind.u64.wrap ay⟩] }:be).to (dy t.ay t.bQ.toNat+1)
def be.bS (t:be) (s:aT):be:=
 if s.ay=9 then (if t.gB<(t.ol t.bQ).cQ then (t.mG s).to t.bQ else (t.mG s).iL 5) else (t.mG s).iL s.ay
def be.qg (t:be) (i:cz) (s:aT):be:=
 if s.aA=2 then (if t.aK=true then t.jY i s else t.bS s)
 else if t.aK=true then t
 else (if i.op=10 then t.fg i.a 1 s.value else if i.op=14 then t.fg i.a 2 s.value else t).lO
abbrev SG:=gA×List Qz×be×Mm
def be.vW (t:be) (M:Mm) (s:aT):SG:=
 let r:=cB s M
 let t1:be:={ t with iE:=some r.2.2.1 }
 (⟨0,r.2.1,t.gv,r.1⟩,
  if r.2.1=3 then [⟨0,t.id,3,0,[],[]⟩]
  else if r.2.1=16∧r.2.2.1.aj=true then [⟨0,t.id,4,0,r.2.2.1.reads,if r.2.2.1.ay=1 then r.2.2.1.bp.bU.filter (fun a=>decide (a<r.2.2.1.cf.aQ)) else []⟩] else [],
  if r.2.2.1.jt=true then t1 else t1.qg t.fv r.2.2.1,r.2.2.2)
def be.SA (t:be) (i:cz) (s:aT):be:=
 { t with eO:=t.eO+1,iE:=some (if 1<t.eO+1 then (zS s 1).2 else if i.op=12 then (Eb s (t.lY i)).2 else (DH s (t.lY i) (t.dC.bR i.b)).2) }
def be.rm (t:be) (i:cz) (s:aT):aT:=if 1<t.eO+1 then (zS s 1).2 else if i.op=12 then (Eb s (t.lY i)).2 else (DH s (t.lY i) (t.dC.bR i.b)).2
def be.ja (t:be):be:=match t.dt with
 | some []=>(({ t with dA:=none,dt:=none }:be).lK 6 0).lO
 | _=>t
def be.rR (t:be) (M:Mm) (f:il):gA×be×Mm:=
 match t.dt with
 | none=>
   let r:=fM f M
   (⟨0,if r.1.cell=3 then 25 else 26,0,r.1⟩,
    (if r.2.done=true then ({ t with dA:=some r.2,dt:=some (jU t.cf t.fu r.2.k9),fu:=iI t.fu r.2.k9 }:be) else { t with dA:=some r.2 }).ja,M)
 | some l=>
   let r:=tq l M
   (⟨0,gF r.1,0,r.1⟩,({ t with dt:=some r.2.1 }:be).ja,r.2.2)
def be.plain (t:be) (M:Mm) (i:cz):SG:=
 let c8:=t.lY i
 if t.cf.aQ≤c8 then (gA.zero,[],((if i.op=12 then t.ez i.a 0 else t).lK 7 7).lO,M)
 else if t.cf.aK=true then (({ t with aK:=true,eO:=0 }:be).qM).vW M (gf (fl t.cf t.id)).2
 else if i.op=12 then (⟨0,1,0,gI M 1 c8⟩,[⟨0,t.id,1,c8,[],[]⟩],t.zI i (gI M 1 c8).put,M)
 else (⟨0,1,0,zN M 1 c8 (t.dC.bR i.b)⟩,[⟨0,t.id,2,c8,[],[]⟩],t.zI i (zN M 1 c8 (t.dC.bR i.b)).put,Ck M 1 c8 (t.dC.bR i.b))
def be.kR (t:be) (M:Mm) (i:cz):SG:=
 if i.op=7 then (({ t with bQ:=t.pc,jP:=t.dC,gB:=t.gB+1 }:be).qM).vW M (gf (fl t.cf t.id)).2
 else match t.iE with
 | some s=>
   if i.op=10∨i.op=11∨i.op=14∨i.op=15∨i.op=8∨i.op=9 then ({ t with iE:=some (t.D7 i s) }:be).vW M (t.D7 i s)
   else (⟨0,0,t.gv,ba.zero⟩,[],t.gZ fF i,M)
 | none=>
   if i.op=12∨i.op=13 then t.plain M i
   else if i.op=16 then
    let f:il:=⟨t.id,t.nt,false,0,0⟩
    let r:=({ t with dA:=some f }:be).rR M f
    (r.1,[],r.2.1,r.2.2)
   else (gA.zero,[],t.gZ fF i,M)
def be.se (t:be) (M:Mm):SG:=
 match t.dA with
 | some f=>let r:=t.rR M f;(r.1,[],r.2.1,r.2.2)
 | none=>match t.iE with
   | some s=>if s.jt=true then t.vW M s else if t.aK=true then (t.SA t.fv s).vW M (t.rm t.fv s) else t.kR fF M t.fv
   | none=>t.kR fF M t.fv
def be.step (t:be) (M:Mm):Bool×SG:=
 if t.done=true then (false,gA.zero,[],t,M)
 else
  let r:=t.se fF M
  (true,{ r.1 with am:=t.id },r.2)
end
end Go.Stx
