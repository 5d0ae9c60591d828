/-
 One thread: what always holds of it, and that every step keeps it (plain law, no program in sight).
-/
import Derived.Test.YtejgooipbmnioaaGreatDoorG24
set_option linter.unusedVariables false
set_option linter.unusedSimpArgs false
set_option linter.unusedSectionVars false
set_option maxRecDepth 20000
set_option maxHeartbeats 4000000
namespace Go.Stx
open Go Go.Proofs
attribute [local irreducible] eg bn aC aV cR df
section
variable [Gl]
theorem sU {p:List cz} {k b:Nat} (h:cJ p k=some b):∀{t:Nat},k≤t→(∀j,k≤j→j<t→eh p j≠8)→cJ p t=some b
 | 0,hk,_=>by
   have:k=0:=by omega
   subst this;exact h
 | t+1,hk,hn=>by
   by_cases e:k=t+1
   · subst e;exact h
   · have h1:=sU h (t:=t) (by omega) fun j h1 h2=>hn j h1 (by omega)
     unfold cJ
     rw [h1]
     simp only
     rw [if_neg (hn t (by omega) (by omega))]
theorem EO {p:List cz} {k:Nat} (h:k<p.length):eh p k=p[k].op:=pj (List.getElem?_eq_getElem h)
theorem Kj {p:List cz} (hp:(dW p).2=0) {k:Nat} (hk:k<p.length) (ho:p[k].op=4∨p[k].op=5∨p[k].op=6):gk p k (cJ p k) p[k].cQ=true∧0≤p[k].cQ:=by
 have h1:=(fX hp).2.1 k p[k] (List.getElem?_eq_getElem hk)
 unfold pd at h1
 by_cases e:dL p[k]=0
 · rw [if_pos e] at h1
   split at h1
   · cases h1
   · split at h1
     · cases h1
     · have hs:eM p[k]=some p[k].cQ:=if_pos ⟨e,ho⟩
       rw [hs] at h1
       simp only at h1
       refine⟨?_,?_⟩
       · by_cases hh:gk p k (cJ p k) p[k].cQ=true
         · exact hh
         · rw [if_neg hh] at h1;cases h1
       · unfold dL at e
         split at e
         · cases e
         · split at e
           · rename_i h2
             have h3:=(Bool.and_eq_true _ _▸h2).2
             unfold fQ at h3
             rw [if_neg (by omega),if_neg (by omega),if_pos ho] at h3
             simp only [Bool.and_eq_true,decide_eq_true_eq] at h3
             exact h3.1
           · cases e
 · rw [if_neg e] at h1;exact absurd h1 e
theorem IW {p:List cz} (hp:(dW p).2=0) {k:Nat} (hk:k<p.length) (ho:p[k].op=4∨p[k].op=5∨p[k].op=6) :
 k+1+p[k].cQ.toNat≤p.length∧cJ p (k+1+p[k].cQ.toNat)=cJ p k:=by
 obtain⟨ht,_⟩:=Kj hp hk ho
 have PG:=EO hk
 unfold gk at ht
 by_cases hl:p.length<k+1+p[k].cQ.toNat
 · simp [hl] at ht
 have GP:k+1+p[k].cQ.toNat≤p.length:=by omega
 refine⟨GP,?_⟩
 cases hb:cJ p k with
 | some b=>
   rw [hb] at ht
   simp only [hl,if_false,decide_eq_true_eq] at ht
   obtain⟨h1,h2,h3⟩:=pH hb
   refine sU hb (by omega) fun j h4 h5=>?_
   exact(pU (p:=p) (k:=b+1) (by omega)).2.2.1 j (by omega) (by have:=ht;unfold dy at this;omega)
 | none=>
   rw [hb] at ht
   simp only [hl,if_false] at ht
   cases hs:cJ p (k+1+p[k].cQ.toNat) with
   | none=>rfl
   | some b=>
     exfalso
     obtain⟨h1,h2,h3⟩:=pH hs
     have h4:=F2 hb (by omega) hs
     have h5:b≠k:=fun e=>by subst e;rw [PG] at h2;omega
     have h6:k+1+p[k].cQ.toNat≠p.length:=fun e=>by
      rw [e,(fX hp).2.2] at hs;cases hs
     have h7:k+1+p[k].cQ.toNat≤dy p b:=by
      rcases Nat.lt_or_ge (dy p b) (k+1+p[k].cQ.toNat) with h|h
      · have h8:=(pU (p:=p) (k:=b+1) (by omega))
        have h9:dy p b<p.length:=by omega
        have LI:b+1≤dy p b:=h8.1
        exact absurd (show eh p (dy p b)=8 from h8.2.2.2 h9) (h3 (dy p b) (by omega) h)
      · exact h
     have h8:jk p k (k+1+p[k].cQ.toNat)=true:=by
      unfold jk
      rw [List.any_eq_true]
      refine⟨b,List.mem_range.2 h1,?_⟩
      simp only [Bool.and_eq_true,decide_eq_true_eq]
      exact⟨⟨by omega,h2⟩,by omega⟩
     rw [h8] at ht
     cases ht
theorem LX {p:List cz} (hp:(dW p).2=0) {b:Nat} (hb:eh p b=7) (hs:cJ p b=none):dy p b<p.length∧eh p (dy p b)=8∧cJ p (dy p b+1)=none:=by
 have My:b<p.length:=up (by omega)
 have h1:cJ p (b+1)=some b:=by
  unfold cJ
  rw [hs]
  simp [hb]
 obtain⟨h2,h3,h4,h5⟩:=pU (p:=p) (k:=b+1) (by omega)
 have h6:cJ p (dy p b)=some b:=sU h1 h2 h4
 have h7:dy p b<p.length:=by
  rcases Nat.lt_or_ge (dy p b) p.length with h|h
  · exact h
  · have e:dy p b=p.length:=by unfold dy at h ⊢;omega
    rw [e,(fX hp).2.2] at h6;cases h6
 refine⟨h7,h5 h7,?_⟩
 unfold cJ
 rw [h6]
 simp only
 rw [if_pos (show eh p (dy p b)=8 from h5 h7)]
theorem vu {p:List cz} {k:Nat} {b:Option Nat} (h:cJ p k=b) (h7:eh p k≠7) (h8:eh p k≠8):cJ p (k+1)=b:=by
 unfold cJ
 rw [h]
 cases b with
 | none=>simp [h7]
 | some b=>simp [h8]
theorem Hd {p:List cz} {k:Nat} (h:cJ p k=none) (h7:eh p k=7):cJ p (k+1)=some k:=by
 unfold cJ
 rw [h]
 simp [h7]
theorem qV {p:List cz} (hp:(dW p).2=0) {k:Nat} (hk:k<p.length) :
 (cJ p k=none→p[k].op≠8∧p[k].op≠9∧p[k].op≠10∧p[k].op≠11∧p[k].op≠14∧p[k].op≠15)∧
 (∀b,cJ p k=some b→p[k].op≠7∧p[k].op≠12∧p[k].op≠13∧p[k].op≠16∧p[k].op≠17)∧dL p[k]=0:=by
 have h1:=(fX hp).2.1 k p[k] (List.getElem?_eq_getElem hk)
 unfold pd at h1
 by_cases e:dL p[k]=0
 · rw [if_pos e] at h1
   split at h1
   · cases h1
   · rename_i h2
     split at h1
     · cases h1
     · rename_i h3
       have h4:cU p[k]=if p[k].op=8∨p[k].op=9∨p[k].op=10∨p[k].op=11∨p[k].op=14∨p[k].op=15 then 1
        else if p[k].op=7∨p[k].op=12∨p[k].op=13∨p[k].op=16∨p[k].op=17 then 2 else 0:=if_pos e
       rw [h4] at h3
       refine⟨fun hb=>?_,fun b hb=>?_,e⟩
       · rw [hb] at h3
         have:¬(p[k].op=8∨p[k].op=9∨p[k].op=10∨p[k].op=11∨p[k].op=14∨p[k].op=15):=fun h=>h3 (.inl ⟨by rw [if_pos h],rfl⟩)
         omega
       · rw [hb] at h3
         have:¬(p[k].op=7∨p[k].op=12∨p[k].op=13∨p[k].op=16∨p[k].op=17):=fun h=>h3 (.inr ⟨by rw [if_neg (by omega),if_pos h],rfl⟩)
         omega
 · rw [if_neg e] at h1;exact absurd h1 e
theorem kw {i:cz} (h:dL i=0):(xT i.op=true→0≤i.a∧i.a<8)∧(qz i.op=true→0≤i.b∧i.b<8)∧(xS i.op=true→0≤i.c∧i.c<8)∧(0≤i.op∧i.op<18)∧(i.op=3→0≤i.cQ∧i.cQ<22)∧(i.op=7→1≤i.cQ∧i.cQ≤8):=by
 unfold dL at h
 split at h
 · cases h
 · rename_i h0
   split at h
   · rename_i h1
     simp only [Bool.and_eq_true,mY,fQ] at h1
     obtain⟨⟨⟨h2,h3⟩,h4⟩,h5⟩:=h1
     refine⟨fun e=>?_,fun e=>?_,fun e=>?_,by omega,fun e=>?_,fun e=>?_⟩
     · rw [if_pos e] at h2;simpa using h2
     · rw [if_pos e] at h3;simpa using h3
     · rw [if_pos e] at h4;simpa using h4
     · rw [if_neg (by omega),if_pos e] at h5;simpa using h5
     · rw [if_neg (by omega),if_neg (by omega),if_neg (by omega),if_pos e] at h5;simpa using h5
   · cases h
def oy:aU→Prop
 | .gZ (.bS _)=>True
 | .eR | .db | .dM _ | .cu | .ee _ | .cD _ | .gV | .fL | .eK _ | .hP=>True
 | _=>False
theorem LY (s:aT) (ay:Int):oy (nk s ay).aG:=by unfold nk;split<;>trivial
theorem wM (s:aT):oy (gJ s).aG:=by unfold gJ;split<;>trivial
theorem pJ (s:aT):oy (ga s).aG:=by unfold ga;split<;>trivial
theorem Jr {s:aT} (h:oy s.aG) (hs:s.aA=1) (M:Mm):((cB s M).2.2.1.aA=1∧oy (cB s M).2.2.1.aG)∨((cB s M).2.2.1.aA=2∧(cB s M).2.2.1.aG=.bK):=by
 have cX:=sG s M
 unfold cB at cX ⊢
 cases e:s.aG with
 | gZ l=>
   rw [e] at h cX
   cases l<;>first|exact absurd h id|skip
   refine .inl ⟨by rw [cX];exact hs,?_⟩
   exact LY _ _
 | eR=>
   rw [e] at h cX
   simp only at cX ⊢
   cases hl:s.aI with
   | none=>rw [hl] at cX;exact .inl ⟨by rw [cX];exact hs,by dsimp only;rw [e];trivial⟩
   | some l=>
     rw [hl] at cX
     refine .inl ⟨by rw [cX];exact hs,?_⟩
     unfold iw
     dsimp only
     split
     · trivial
     · dsimp only;rw [e];trivial
 | db=>
   rw [e] at h cX
   simp only at cX ⊢
   cases hl:s.aH with
   | none=>rw [hl] at cX;exact .inl ⟨by rw [cX];exact hs,by dsimp only;rw [e];trivial⟩
   | some l=>
     rw [hl] at cX
     refine .inl ⟨by rw [cX];exact hs,?_⟩
     unfold go
     dsimp only
     split
     · dsimp only;split<;>trivial
     · dsimp only;rw [e];trivial
 | dM c=>
   rw [e] at h cX
   refine .inl ⟨by rw [cX];exact hs,?_⟩
   show oy (fZ s M c).2.2.1.aG
   unfold fZ
   dsimp only
   split
   · exact pJ _
   · split<;>trivial
 | cu=>
   rw [e] at h cX
   refine .inl ⟨by rw [cX];exact hs,?_⟩
   show oy (fp s M).2.2.1.aG
   unfold fp
   dsimp only
   split
   · exact pJ _
   · split
     · trivial
     · exact pJ _
 | ee w=>
   rw [e] at h cX
   refine .inl ⟨by rw [cX];exact hs,?_⟩
   show oy (gn s M w).2.2.1.aG
   unfold gn
   dsimp only
   split<;>trivial
 | cD w=>
   rw [e] at h cX
   refine .inl ⟨by rw [cX];exact hs,?_⟩
   show oy (lL s M w).2.2.1.aG
   unfold lL
   dsimp only
   split
   · split<;>trivial
   · trivial
 | gV=>rw [e] at cX;exact .inl ⟨by rw [cX];exact hs,trivial⟩
 | fL=>rw [e] at cX;exact .inl ⟨by rw [cX];exact hs,wM _⟩
 | eK p=>
   rw [e] at h cX
   refine .inl ⟨by rw [cX];exact hs,?_⟩
   show oy (iJ s M p).2.2.1.aG
   unfold iJ
   dsimp only
   split
   · exact wM _
   · trivial
 | hP=>exact .inr ⟨rfl,rfl⟩
 | bK=>rw [e] at h;exact absurd h id
 | eN=>rw [e] at h;exact absurd h id
 | bm _ _=>rw [e] at h;exact absurd h id
 | eL _=>rw [e] at h;exact absurd h id
theorem tk (s:aT):(gJ s).av=s.av:=by unfold gJ;split<;>rfl
theorem oT (s:aT) (ay:Int):(iY s ay).av=s.av:=tk _
theorem uE (s:aT) (ay:Int):(nk s ay).av=s.av:=by unfold nk;split<;>rfl
theorem qQ (s:aT):(ga s).av=s.av:=by unfold ga;split<;>rfl
theorem pM (s:aT) (a v:Int):(jj s a v).2.av=s.av:=by
 unfold jj
 split
 · rfl
 · exact oT s 3
theorem u3:∀(n:Nat) (a:Int) (s:aT),(gO n a s).2.av=s.av
 | 0,_,_=>rfl
 | n+1,a,s=>by
   unfold gO
   split
   · rw [u3 n];exact pM s a 0
   · exact pM s a 0
theorem AS (s:aT) (d5 iD:Int):(fU s d5 iD).av=s.av:=by
 unfold fU
 split
 · exact oT s 4
 · dsimp only
   split
   · split
     · show (gO _ _ _).2.av=_
       rw [u3];exact pM { s with ai:=s.ai++[iD] } _ _
     · rw [u3];exact pM { s with ai:=s.ai++[iD] } _ _
   · exact pM { s with ai:=s.ai++[iD] } _ _
def N0 (s s':aT) (o:Option Int):Prop:=s'.av=s.av∨∃b,o=some b∧s'.av=s.av++[b]
theorem vL (s:aT) (b st:Int):N0 s (jK s b st) (some b):=by
 unfold jK
 split
 · exact .inl (uE s 8)
 · split
   · exact .inl (oT s 3)
   · split
     · exact .inr ⟨b,rfl,by dsimp only⟩
     · exact .inl (pM s _ 0)
def ZH:aU→Option Int
 | .gZ (.cM b _)=>some b
 | .bm _ (.cM b)=>some b
 | _=>none
theorem Hi (s:aT) (M:Mm):N0 s (cB s M).2.2.1 (ZH s.aG):=by
 unfold cB
 cases hd:s.aG with
 | hP=>exact .inl rfl
 | bK=>exact .inl rfl
 | gZ k=>
   cases k with
   | k4 a v=>
     show N0 s (rU { s with aG:=.bK } (.k4 a v)) _
     unfold rU
     dsimp only
     split
     · exact .inl (uE _ 7)
     · exact .inl (pM { s with aG:=.bK } a v)
   | qq=>exact .inl (uE _ 7)
   | L4=>exact .inl (uE _ 8)
   | bS ay=>exact .inl (uE _ ay)
   | take v=>exact .inl rfl
   | y6=>exact .inl (oT _ 3)
   | cM b v=>exact vL { s with aG:=.bK } b v
 | eN=>
   dsimp only
   cases s.bL with
   | none=>exact .inl rfl
   | some e=>
     dsimp only [hW]
     split<;>exact .inl rfl
 | bm r u=>
   show N0 s (dw s M r u).2.2.1 _
   unfold dw
   dsimp only
   split
   · exact .inl rfl
   · split
     · exact .inl (oT _ 9)
     · split
       · cases u with
         | take=>left;dsimp only [xR];split<;>rfl
         | cM b=>
           dsimp only [xR]
           split
           · exact vL _ b _
           · exact vL _ b _
       · left
         dsimp only
         rw [oT]
         split<;>rfl
 | eL p=>
   show N0 s (lN s M p).2.2.1 _
   unfold lN
   dsimp only
   split
   · exact .inl (AS _ _ _)
   · exact .inl rfl
 | eR=>
   dsimp only
   cases s.aI with
   | none=>exact .inl rfl
   | some l=>
     dsimp only [iw]
     split<;>exact .inl rfl
 | db=>
   dsimp only
   cases s.aH with
   | none=>exact .inl rfl
   | some t=>
     dsimp only [go]
     split<;>exact .inl rfl
 | dM ck=>
   show N0 s (fZ s M ck).2.2.1 _
   unfold fZ
   dsimp only
   split
   · exact .inl (qQ _)
   · split<;>exact .inl rfl
 | cu=>
   show N0 s (fp s M).2.2.1 _
   unfold fp
   dsimp only
   split
   · exact .inl (qQ _)
   · split
     · exact .inl rfl
     · exact .inl (qQ _)
 | ee w=>
   show N0 s (gn s M w).2.2.1 _
   unfold gn
   dsimp only
   split<;>exact .inl rfl
 | cD w=>exact .inl rfl
 | gV=>exact .inl rfl
 | fL=>exact .inl (tk s)
 | eK p=>
   show N0 s (iJ s M p).2.2.1 _
   unfold iJ
   dsimp only
   split
   · exact .inl (tk _)
   · exact .inl rfl
theorem BM {c:bC} {k:Nat} {s:aT} (h:nE c k s) (hf:∀x∈s.av,0≤x∧x<c.nb) (M:Mm):∀x∈(cB s M).2.2.1.av,0≤x∧x<c.nb:=by
 have hd:=h.d
 intro x hx
 rcases Hi s M with e|⟨b,hb,e⟩
 · rw [e] at hx;exact hf x hx
 · rw [e] at hx
   rcases List.mem_append.1 hx with hx|hx
   · exact hf x hx
   · rw [List.mem_singleton] at hx
     subst hx
     cases Jf:s.aG with
     | gZ k=>
       rw [Jf] at hd hb
       cases k with
       | cM b v=>
         injection hb with hb
         subst hb
         exact hd.2
       | _=>cases hb
     | bm r u=>
       rw [Jf] at hd hb
       cases u with
       | cM b=>
         injection hb with hb
         subst hb
         exact hd.2.2.2.2.1
       | take=>cases hb
     | _=>rw [Jf] at hb;cases hb
variable {c:bC} {nt k:Nat} {M:Mm}
structure Ft (c:bC) (p:fm):Prop where
 d5:p.d5=cG c p.block
 T7:0≤p.d5
 head:iz c p.d5 p.head
 bX:0≤p.bX∧p.bX≤2
structure ln (c:bC) (nt k:Nat) (t:be):Prop where
 cf:t.cf=c
 nn:t.nt=nt
 tA:0≤t.id∧t.id<nt∧nt≤16
 nD:(dW t.ay).2=0
 pc:0≤t.pc∧t.pc≤t.ay.length
 dn:t.done=decide (t.pc=t.ay.length)
 fV:t.fV.length≤2*k
 sn:t.dY.length≤k
 rV:t.fu.length≤8*k
 um:∀x∈t.fu,0≤cG c x.1
 qI:0≤t.gv∧t.gv≤k
 tz:0≤t.gB∧t.gB≤k
 kS:0≤t.eO∧t.eO≤k
structure Wk (c:bC) (k:Nat) (t:be) (s:aT):Prop where
 ok:nE c k s
 st:s.aA=1
 xn:∀x∈s.av,0≤x∧x<c.nb
 Fy:t.aK=true→(t.fv.op=12∨t.fv.op=13)∧cJ t.ay t.pc.toNat=none
 zU:t.aK=false→eh t.ay t.bQ.toNat=7∧cJ t.ay t.bQ.toNat=none∧0≤t.bQ∧
  ((t.pc=t.bQ∧t.fv.op=7)∨(cJ t.ay t.pc.toNat=some t.bQ.toNat∧(t.fv.op=10∨t.fv.op=11∨t.fv.op=14∨t.fv.op=15))∨oy s.aG)
structure SH (c:bC) (k:Nat) (t:be) (s:aT):Prop where
 ok:nE c k s
 st:s.aA=1
 xn:∀x∈s.av,0≤x∧x<c.nb
 Fy:t.aK=false
 zU:eh t.ay t.bQ.toNat=7∧cJ t.ay t.bQ.toNat=none∧0≤t.bQ∧cJ t.ay t.pc.toNat=some t.bQ.toNat
structure jM (c:bC) (nt k:Nat) (t:be):Prop where
 co:ln c nt k t
 HZ:t.iE=none→t.aK=false∧cJ t.ay t.pc.toNat=none
 Be:∀s,t.iE=some s→(if s.jt=true∨t.aK=true then Wk c k t s else SH c k t s)∧t.done=false∧t.dA=none∧t.fV.length+t.dY.length≤2*k
 V5:∀f,t.dA=some f→t.iE=none∧t.done=false∧t.fv.op=16∧f.am=t.id∧f.kv=nt∧(0≤f.next∧f.next≤nt)∧(t.dt=none→f.done=false)
 KS:t.dA=none→t.dt=none
 dr:∀l,t.dt=some l→l≠[]∧l.length≤8*k∧∀p∈l,Ft c p
section
variable {t:be} {s:aT}
theorem ln.mono {k':Nat} (h:ln c nt k t) (hk:k≤k'):ln c nt k' t:=
 ⟨h.cf,h.nn,h.tA,h.nD,h.pc,h.dn,by have:=h.fV;omega,by have:=h.sn;omega,by have:=h.rV;omega,h.um,by have:=h.qI;omega,by have:=h.tz;omega,by have:=h.kS;omega⟩
theorem ln.lt (h:ln c nt k t) (hd:t.done=false):t.pc<t.ay.length:=by
 have:=h.dn
 rw [hd] at this
 have h1:¬t.pc=t.ay.length:=by simpa using this.symm
 have:=h.pc
 omega
theorem ln.fv (h:ln c nt k t) (hd:t.done=false):∃hk:t.pc.toNat<t.ay.length,t.fv=t.ay[t.pc.toNat]:=by
 have h1:=h.lt hd
 have h2:=h.pc
 have hk:t.pc.toNat<t.ay.length:=by omega
 refine⟨hk,?_⟩
 unfold be.fv be.ol
 rw [List.getD_eq_getElem?_getD,List.getElem?_eq_getElem hk]
 rfl
theorem ln.to (h:ln c nt k t) {pc:Int} (hp:0≤pc∧pc≤t.ay.length):ln c nt k (t.to pc):=⟨h.cf,h.nn,h.tA,h.nD,hp,rfl,h.fV,h.sn,h.rV,h.um,h.qI,h.tz,h.kS⟩
theorem ln.ez (h:ln c nt k t) (a v:Int):ln c nt k (t.ez a v):=⟨h.cf,h.nn,h.tA,h.nD,h.pc,h.dn,h.fV,h.sn,h.rV,h.um,h.qI,h.tz,h.kS⟩
theorem ln.lK (h:ln c nt k t) (kd v:Int):ln c nt (k+1) (t.lK kd v):=
 ⟨h.cf,h.nn,h.tA,h.nD,h.pc,h.dn,by have:=h.fV;simp only [be.lK,List.length_append,List.length_cons,List.length_nil];omega,(h.mono (Nat.le_succ k)).sn,(h.mono (Nat.le_succ k)).rV,h.um,(h.mono (Nat.le_succ k)).qI,(h.mono (Nat.le_succ k)).tz,(h.mono (Nat.le_succ k)).kS⟩
theorem vt (h:ln c nt k t) (ha:t.iE=none) (hs:t.aK=false) (hf:t.dA=none) (hd:t.dt=none) (gh:cJ t.ay t.pc.toNat=none):jM c nt k t:=
 ⟨h,fun _=>⟨hs,gh⟩,fun s e=>(by rw [ha] at e;cases e),fun f e=>(by rw [hf] at e;cases e),fun _=>hd,fun l e=>(by rw [hd] at e;cases e)⟩
theorem sP {x:Int} (h:0≤x):(x+1).toNat=x.toNat+1:=by omega
theorem HY (h:ln c nt k t) (dO:t.pc<t.ay.length) (ha:t.iE=none) (hs:t.aK=false) (hf:t.dA=none) (hd:t.dt=none) (gh:cJ t.ay t.pc.toNat=none) (h7:eh t.ay t.pc.toNat≠7) (h8:eh t.ay t.pc.toNat≠8):jM c nt k t.lO:=by
 have ki:=h.pc
 refine vt (h.to (by omega)) ha hs hf hd ?_
 show cJ t.ay (t.pc+1).toNat=none
 rw [sP ki.1]
 exact vu gh h7 h8
theorem D5 {f:il} {nt:Nat} {id:Int} (h1:f.am=id) (h2:id<nt) (h3:0≤f.next∧f.next≤nt):f.skip.am=id∧f.skip.kv=f.kv∧(0≤f.skip.next∧f.skip.next≤nt):=by
 unfold il.skip
 split
 · rename_i e
   exact⟨h1,rfl,by dsimp only;omega⟩
 · exact⟨h1,rfl,h3⟩
theorem E6 {f:il} {id:Int} (h1:f.am=id) (h2:id<nt) (h3:0≤f.next∧f.next≤nt) (h4:f.kv=nt) (hd:f.done=false) (M:Mm):(fM f M).2.am=id∧(fM f M).2.kv=nt∧(0≤(fM f M).2.next∧(fM f M).2.next≤nt):=by
 unfold fM
 rw [if_neg (by rw [hd];decide)]
 split
 · obtain⟨a,b,d⟩:=D5 (f:={ f with fw:=true,uo:=(gI M 3 0).fg }) (nt:=nt) h1 h2 h3
   exact⟨a,b.trans h4,d⟩
 · rename_i hl
   have GP:f.fw=true:=by simpa using hl
   have hn:f.next<nt:=by
    unfold il.done at hd
    rw [GP] at hd
    simp only [Bool.true_and,decide_eq_false_iff_not] at hd
    omega
   split
   · obtain⟨a,b,d⟩:=D5 (f:={ f with next:=f.next+1 }) (nt:=nt) h1 h2 (by dsimp only;omega)
     exact⟨a,b.trans h4,d⟩
   · exact⟨h1,h4,h3⟩
theorem zl {c:bC} (hc:b9 c) {b:Int} (h:0≤cG c b):0≤b∧b<c.nb:=by
 have q0:=hc.k0
 have q1:=hc.k1
 have q2:=hc.k2
 have q3:=hc.k3
 unfold cG td at h
 unfold bC.nb
 repeat' split at h
 all_goals(simp only at h;omega)
theorem Gb (hc:b9 c) (hM:jN c nt k M) {p:fm} (h:Ft c p):jN c nt (k+1) (dP p M).2.2∧((dP p M).2.1.bX≠3→Ft c (dP p M).2.1):=by
 have sz:=h.bX
 have hb:0≤p.block∧p.block<c.nb:=by
  have h1:=h.T7
  rw [h.d5] at h1
  exact zl hc h1
 have rM:=ul hc p.block hb
 rw [←h.d5] at rM
 have hh:=h.head
 rcases qT p M sz with ⟨h0,e0⟩|⟨h0,w,hw,e0⟩|⟨h0,w,hw,e0⟩
 · rw [e0]
   have hg:=y5 hc hM 1 rM.1.1 kM
   exact⟨hM.mono (by omega),fun _=>⟨h.d5,h.T7,hg,by dsimp only;omega⟩⟩
 · rw [e0]
   refine⟨hM.op (by omega) _ _ _ fun _=>⟨fun e=>by omega,fun _=>?_,fun e=>by omega,fun e=>by omega⟩,fun _=>⟨h.d5,h.T7,hh,by dsimp only;omega⟩⟩
   have U3:=D0 hh.1
   have VY:=hc.nb
   have YF:=hh.2.1
   have iV:IntKind.u64.wrap (IntKind.i64.wrap (gP p.head+1))=gP p.head+1:=by
    rw [aw (by omega) (by omega),az (by omega) (by omega)]
   show lq c (cG c p.block) w
   rw [hw,iV,←h.d5]
   refine⟨by omega,by omega,fun e=>?_⟩
   rw [show gP p.head+1-1=gP p.head by omega]
   exact hh.2.2 (by omega)
 · rw [e0]
   refine⟨hM.op (by omega) _ _ _ fun _=>⟨fun _=>?_,fun e=>by omega,fun e=>by omega,fun e=>by omega⟩,fun hn=>⟨h.d5,h.T7,hh,?_⟩⟩
   · show iz c p.d5 w
     rw [hw]
     exact zt hc hb.2 fun _=>h.d5.symm
   · dsimp only at hn ⊢
     split
     · rename_i lm;rw [if_pos lm] at hn;exact absurd rfl hn
     · omega
theorem mP (h:ln c nt k t) (hd:t.done=false):eh t.ay t.pc.toNat=t.fv.op:=by
 obtain⟨hk,e⟩:=h.fv hd
 rw [EO hk,e]
theorem zg {f:il} {l:List fm} (h:ln c nt k t) (ha:t.iE=none) (hs:t.aK=false) (hd:t.done=false) (tC:t.fv.op=16) (gh:cJ t.ay t.pc.toNat=none) (hf:t.dA=some f)
 (h1:f.am=t.id) (h2:f.kv=nt) (h3:0≤f.next∧f.next≤nt) (hl:t.dt=some l) (bW:l.length≤8*(k+1)) (hp:∀p∈l,Ft c p):jM c nt (k+1) t.ja:=by
 unfold be.ja
 rw [hl]
 have ho:=mP h hd
 cases l with
 | nil=>
   have hC:ln c nt (k+1) (({ t with dA:=none,dt:=none }:be).lK 6 0):=ln.lK (t:={ t with dA:=none,dt:=none }) ⟨h.cf,h.nn,h.tA,h.nD,h.pc,h.dn,h.fV,h.sn,h.rV,h.um,h.qI,h.tz,h.kS⟩ 6 0
   exact HY hC (h.lt hd) ha hs rfl rfl gh (by show eh t.ay t.pc.toNat≠7;omega) (by show eh t.ay t.pc.toNat≠8;omega)
 | cons q l=>
   have e:¬(q::l=[]):=fun e=>by cases e
   exact⟨h.mono (by omega),fun _=>⟨hs,gh⟩,fun s e=>(by rw [ha] at e;cases e),fun f' e=>(by rw [hf] at e;injection e with e;subst e;exact⟨ha,hd,tC,h1,h2,h3,fun e=>(by rw [hl] at e;cases e)⟩),
    fun e=>(by rw [hf] at e;cases e),fun l' e'=>(by rw [hl] at e';injection e' with e';subst e';exact⟨e,bW,hp⟩)⟩
theorem Hy (hc:b9 c) (hM:jN c nt k M) {f:il} (h:ln c nt k t) (ha:t.iE=none) (hs:t.aK=false) (hd:t.done=false) (tC:t.fv.op=16) (gh:cJ t.ay t.pc.toNat=none) (hf:t.dA=some f)
 (h1:f.am=t.id) (h2:f.kv=nt) (h3:0≤f.next∧f.next≤nt) (hn:t.dt=none→f.done=false) (R5:∀l,t.dt=some l→l≠[]∧l.length≤8*k∧∀p∈l,Ft c p) :
 jM c nt (k+1) (t.rR M f).2.1∧jN c nt (k+1) (t.rR M f).2.2:=by
 unfold be.rR
 cases e:t.dt with
 | none=>
   dsimp only
   refine⟨?_,hM.mono (by omega)⟩
   obtain⟨a1,a2,a3⟩:=E6 h1 h.tA.2.1 h3 h2 (hn e) M
   by_cases lm:(fM f M).2.done=true
   · rw [if_pos lm]
     refine zg (k:=k) (f:=(fM f M).2) (l:=jU t.cf t.fu (fM f M).2.k9) ⟨h.cf,h.nn,h.tA,h.nD,h.pc,h.dn,h.fV,h.sn,?_,?_,h.qI,h.tz,h.kS⟩ ha hs hd tC gh rfl a1 a2 a3 rfl ?_ ?_
     · have:=List.length_filter_le (fun x:Int×Int=>decide ((fM f M).2.k9<x.2)) t.fu
       have:=h.rV
       show (iI t.fu (fM f M).2.k9).length≤_
       unfold iI
       omega
     · intro x hx
       exact h.um x (List.mem_filter.1 hx).1
     · have:=List.length_filter_le (fun x:Int×Int=>!decide ((fM f M).2.k9<x.2)) t.fu
       have:=h.rV
       unfold jU
       rw [List.length_map]
       omega
     · intro p hp
       obtain⟨x,hx,rfl⟩:=List.mem_map.1 hp
       have RC:=h.um x (List.mem_filter.1 hx).1
       rw [h.cf]
       exact⟨rfl,RC,iz.zero hc _,by dsimp only;omega⟩
   · rw [if_neg lm]
     unfold be.ja
     dsimp only
     exact⟨ln.mono (k:=k) ⟨h.cf,h.nn,h.tA,h.nD,h.pc,h.dn,h.fV,h.sn,h.rV,h.um,h.qI,h.tz,h.kS⟩ (by omega),fun _=>⟨hs,gh⟩,fun s e=>(by rw [ha] at e;cases e),
      fun f' e'=>(by injection e' with e';subst e';exact⟨ha,hd,tC,a1,a2,a3,fun _=>by simpa using lm⟩),fun e'=>(by cases e'),fun l' e'=>(by cases e')⟩
 | some l=>
   dsimp only
   obtain⟨g1,g2,g3⟩:=R5 l e
   cases l with
   | nil=>exact absurd rfl g1
   | cons p l=>
     obtain⟨b1,b2⟩:=Gb hc hM (g3 p (List.mem_cons_self ..))
     refine⟨?_,b1⟩
     refine zg (k:=k) (f:=f) (l:=(tq (p::l) M).2.1) ⟨h.cf,h.nn,h.tA,h.nD,h.pc,h.dn,h.fV,h.sn,h.rV,h.um,h.qI,h.tz,h.kS⟩ ha hs hd tC gh hf h1 h2 h3 rfl ?_ ?_
     · show (if (dP p M).2.1.bX=3 then l else (dP p M).2.1::l).length≤_
       rw [List.length_cons] at g2
       split
       · omega
       · rw [List.length_cons];omega
     · intro q hq
       have I4:q∈(if (dP p M).2.1.bX=3 then l else (dP p M).2.1::l):=hq
       split at I4
       · exact g3 q (List.mem_cons_of_mem _ I4)
       · rename_i h9
         rcases List.mem_cons.1 I4 with rfl|I4
         · exact b2 h9
         · exact g3 q (List.mem_cons_of_mem _ I4)
theorem NL (hs:s.aA=1) (M:Mm):(cB s M).2.2.1.aA=1∨((cB s M).2.2.1.aA=2∧(cB s M).2.2.1.aG=.bK):=by
 have h:=sG s M
 cases e:s.aG<;>rw [e] at h
 case hP=>right;unfold cB;rw [e];exact⟨rfl,rfl⟩
 all_goals exact .inl (h.trans hs)
theorem Js (h:oy s.aG):s.jt=true:=by
 unfold aT.jt
 revert h
 cases s.aG<;>first|(intro h;exact absurd h id)|(intro _;rfl)
theorem IY (h:s.aG=.bK):s.jt=false:=by
 unfold aT.jt
 rw [h]
 rfl
theorem NB (h:ln c nt (k+1) t) (th:t.fV.length+t.dY.length≤2*k) (Lw:t.fu.length≤8*k) (qB:s.av.length≤8) :
 ln c nt (k+1) (t.mG s)∧(t.mG s).fV.length≤2*k∧(t.mG s).iE=none∧(t.mG s).ay=t.ay∧(t.mG s).bQ=t.bQ∧(t.mG s).aK=t.aK∧(t.mG s).dA=t.dA∧(t.mG s).dt=t.dt∧(t.mG s).gB=t.gB:=by
 unfold be.mG
 split
 · refine⟨⟨h.cf,h.nn,h.tA,h.nD,h.pc,h.dn,by show (t.fV++t.dY).length≤_;rw [List.length_append];omega,h.sn,?_,?_,h.qI,h.tz,h.kS⟩,by show (t.fV++t.dY).length≤_;rw [List.length_append];omega,rfl,rfl,rfl,rfl,rfl,rfl,rfl⟩
   · dsimp only
     split
     · unfold kU
       have:=List.length_filter_le (fun b=>decide (0≤cG t.cf b)) s.av
       rw [List.length_append,List.length_map]
       omega
     · exact h.rV
   · intro x hx
     dsimp only at hx
     split at hx
     · unfold kU at hx
       rcases List.mem_append.1 hx with hx|hx
       · exact h.um x hx
       · obtain⟨b,hb,rfl⟩:=List.mem_map.1 hx
         have:=(List.mem_filter.1 hb).2
         rw [h.cf] at this
         simpa using this
     · exact h.um x hx
 · exact⟨⟨h.cf,h.nn,h.tA,h.nD,h.pc,h.dn,h.fV,h.sn,h.rV,h.um,h.qI,h.tz,h.kS⟩,by dsimp only;omega,rfl,rfl,rfl,rfl,rfl,rfl,rfl⟩
theorem NA (h:ln c nt (k+1) t) (th:t.fV.length≤2*k) (ha:t.iE=none) (hs:t.aK=false) (hf:t.dA=none) (et:t.dt=none) (h7:eh t.ay t.bQ.toNat=7) (gh:cJ t.ay t.bQ.toNat=none) (ay:Int):jM c nt (k+1) (t.iL ay):=by
 obtain⟨e1,e2,e3⟩:=LX h.nD h7 gh
 unfold be.iL
 refine vt (ln.to (t:={ t with gB:=0,iZ:=ay,fV:=t.fV++[⟨t.bQ,3,IntKind.u64.wrap ay⟩] }) ⟨h.cf,h.nn,h.tA,h.nD,h.pc,h.dn,?_,h.sn,h.rV,h.um,h.qI,by dsimp only;omega,h.kS⟩ (by dsimp only;omega)) ha hs hf et ?_
 · dsimp only;rw [List.length_append,List.length_singleton];omega
 · show cJ t.ay (((dy t.ay t.bQ.toNat:Nat):Int)+1).toNat=none
   rw [show (((dy t.ay t.bQ.toNat:Nat):Int)+1).toNat=dy t.ay t.bQ.toNat+1 by omega]
   exact e3
theorem Qa (h:ln c nt (k+1) t) (th:t.fV.length+t.dY.length≤2*k) (Lw:t.fu.length≤8*k) (qB:s.av.length≤8) (hs:t.aK=false) (hf:t.dA=none) (et:t.dt=none)
 (h7:eh t.ay t.bQ.toNat=7) (gh:cJ t.ay t.bQ.toNat=none) (P2:0≤t.bQ):jM c nt (k+1) (t.bS s):=by
 obtain⟨g1,g2,g3,g4,g5,g6,g7,g8,g9⟩:=NB (s:=s) h th Lw qB
 have My:t.bQ.toNat<t.ay.length:=up (by omega)
 have e2:∀ay,jM c nt (k+1) ((t.mG s).iL ay):=fun ay=>NA g1 g2 g3 (g6.trans hs) (g7.trans hf) (g8.trans et) (by rw [g4,g5];exact h7) (by rw [g4,g5];exact gh) ay
 unfold be.bS
 split
 · split
   · refine vt (g1.to (by rw [g4];omega)) g3 (g6.trans hs) (g7.trans hf) (g8.trans et) ?_
     show cJ (t.mG s).ay t.bQ.toNat=none
     rw [g4];exact gh
   · exact e2 _
 · exact e2 _
theorem uP (h:ln c nt (k+1) t) (th:t.fV.length≤2*k) (hd:t.done=false) (ha:t.iE=none) (hs:t.aK=false) (hf:t.dA=none) (et:t.dt=none) (mg:t.fv.op=12∨t.fv.op=13) (gh:cJ t.ay t.pc.toNat=none) (kd v:Int):jM c nt (k+1) (t.lK kd v).lO:=by
 have ho:=mP h hd
 have hC:ln c nt (k+1) (t.lK kd v):=⟨h.cf,h.nn,h.tA,h.nD,h.pc,h.dn,by simp only [be.lK,List.length_append,List.length_singleton];omega,h.sn,h.rV,h.um,h.qI,h.tz,h.kS⟩
 exact HY hC (h.lt hd) ha hs hf et gh (by show eh t.ay t.pc.toNat≠7;omega) (by show eh t.ay t.pc.toNat≠8;omega)
theorem zH (h:ln c nt (k+1) t) (th:t.fV.length≤2*k) (hd:t.done=false) (ha:t.iE=none) (hs:t.aK=false) (hf:t.dA=none) (et:t.dt=none) (mg:t.fv.op=12∨t.fv.op=13) (gh:cJ t.ay t.pc.toNat=none) (i:cz) (v:Int):jM c nt (k+1) (t.zI i v):=by
 unfold be.zI
 split
 · exact uP (h.ez _ _) th hd ha hs hf et mg gh _ _
 · exact uP h th hd ha hs hf et mg gh _ _
theorem Ju (h:ln c nt (k+1) t) (th:t.fV.length≤2*k) (hd:t.done=false) (hf:t.dA=none) (et:t.dt=none) (mg:t.fv.op=12∨t.fv.op=13) (gh:cJ t.ay t.pc.toNat=none) (i:cz):jM c nt (k+1) (t.jY i s):=by
 have h1:ln c nt (k+1) ({ t with iE:=none,aK:=false }:be):=⟨h.cf,h.nn,h.tA,h.nD,h.pc,h.dn,h.fV,h.sn,h.rV,h.um,h.qI,h.tz,h.kS⟩
 unfold be.jY
 dsimp only
 split
 · exact zH h1 th hd rfl rfl hf et mg gh _ _
 · split
   · exact uP h1 th hd rfl rfl hf et mg gh _ _
   · exact vt h1 rfl rfl hf et gh
theorem Dm (hc:b9 c) (hk:k<2^40) (hM:jN c nt k M) (h:ln c nt (k+1) t) (th:t.fV.length+t.dY.length≤2*k) (W0:t.dY.length≤k) (Lw:t.fu.length≤8*k) (hd:t.done=false) (hf:t.dA=none) (et:t.dt=none) (hA:Wk c k t s) :
 jM c nt (k+1) (t.vW M s).2.2.1∧jN c nt (k+1) (t.vW M s).2.2.2:=by
 obtain⟨Nu,TX⟩:=A7 hc hk hA.ok hM
 have cX:=NL hA.st M
 have AE:=BM hA.ok hA.xn M
 have pm:=fun h=>Jr (s:=s) h hA.st M
 unfold be.vW
 dsimp only
 generalize cB s M=r at Nu TX cX pm AE ⊢
 obtain⟨a,ph,s',M'⟩:=r
 dsimp only at Nu TX cX pm AE ⊢
 refine⟨?_,TX⟩
 have h1:ln c nt (k+1) ({ t with iE:=some s' }:be):=⟨h.cf,h.nn,h.tA,h.nD,h.pc,h.dn,h.fV,h.sn,h.rV,h.um,h.qI,h.tz,h.kS⟩
 have qB:s'.av.length≤8:=by
  have e1:=Nu.b.xn
  have e2:=hc.av
  omega
 have ho:=mP h hd
 have dO:=h.lt hd
 have ki:=h.pc
 by_cases hb:s'.jt=true
 · rw [if_pos hb]
   have M6:s'.aA=1:=by
    rcases cX with e|⟨_,e⟩
    · exact e
    · rw [IY e] at hb;cases hb
   refine⟨h1,fun e=>(by cases e),fun s2 e=>?_,fun f e=>(by rw [hf] at e;cases e),fun _=>et,fun l e=>(by rw [et] at e;cases e)⟩
   injection e with e
   subst e
   refine⟨?_,hd,hf,by dsimp only;omega⟩
   rw [if_pos (.inl hb)]
   refine⟨Nu,M6,AE,hA.Fy,fun e=>?_⟩
   obtain⟨w1,w2,w3,w4⟩:=hA.zU e
   refine⟨w1,w2,w3,?_⟩
   rcases w4 with w|w|w
   · exact .inl w
   · exact .inr (.inl w)
   · rcases pm w with ⟨_,w⟩|⟨w,_⟩
     · exact .inr (.inr w)
     · omega
 · rw [if_neg hb]
   have jX:s'.jt=false:=by simpa using hb
   unfold be.qg
   rcases cX with e1|⟨e2,_⟩
   · rw [if_neg (by omega)]
     have iX:¬oy s.aG:=fun w=>by
      rcases pm w with ⟨_,w⟩|⟨w,_⟩
      · rw [Js w] at jX;cases jX
      · omega
     by_cases hs:t.aK=true
     · rw [if_pos hs]
       refine⟨h1,fun e=>(by cases e),fun s2 e=>?_,fun f e=>(by rw [hf] at e;cases e),fun _=>et,fun l e=>(by rw [et] at e;cases e)⟩
       injection e with e
       subst e
       refine⟨?_,hd,hf,by dsimp only;omega⟩
       rw [if_pos (.inr hs)]
       exact⟨Nu,e1,AE,hA.Fy,fun e=>(by rw [hs] at e;cases e)⟩
     · rw [if_neg hs]
       have PD:t.aK=false:=by simpa using hs
       obtain⟨w1,w2,w3,w4⟩:=hA.zU PD
       have gh:cJ t.ay (t.pc+1).toNat=some t.bQ.toNat:=by
        rw [sP ki.1]
        rcases w4 with ⟨w,w'⟩|⟨w,w'⟩|w
        · rw [w];exact Hd w2 w1
        · exact vu w (by omega) (by omega)
        · exact absurd w iX
       have EU:t.pc+1<t.ay.length:=by
        rcases Int.lt_or_le (t.pc+1) t.ay.length with e|e
        · exact e
        · have e9:(t.pc+1).toNat=t.ay.length:=by omega
          rw [e9,(fX h.nD).2.2] at gh
          cases gh
       have bS:∀t2:be,ln c nt (k+1) t2→t2.iE=some s'→t2.aK=false→t2.dA=none→t2.dt=none→t2.ay=t.ay→t2.bQ=t.bQ→t2.pc=t.pc→t2.fV.length+t2.dY.length≤2*(k+1)→jM c nt (k+1) t2.lO:=by
        intro t2 g1 g2 g3 g4 g5 g6 g7 g8 g9
        have T1:ln c nt (k+1) t2.lO:=g1.to (by rw [g6,g8];omega)
        refine⟨T1,fun e=>?_,fun s2 e=>?_,fun f e=>?_,fun _=>g5,fun l e=>?_⟩
        · have e':t2.iE=none:=e
          rw [g2] at e';cases e'
        · have e':t2.iE=some s2:=e
          rw [g2] at e'
          injection e' with e'
          subst e'
          refine⟨?_,?_,g4,g9⟩
          · rw [if_neg (by rw [jX];show ¬(false=true∨t2.aK=true);rw [g3];simp)]
            refine⟨Nu,e1,AE,g3,?_⟩
            show eh t2.ay t2.bQ.toNat=7∧cJ t2.ay t2.bQ.toNat=none∧0≤t2.bQ∧cJ t2.ay (t2.pc+1).toNat=some t2.bQ.toNat
            rw [g6,g7,g8]
            exact⟨w1,w2,w3,gh⟩
          · show decide (t2.pc+1=t2.ay.length)=false
            rw [g6,g8]
            exact decide_eq_false (by omega)
        · have e':t2.dA=some f:=e
          rw [g4] at e';cases e'
        · have e':t2.dt=some l:=e
          rw [g5] at e';cases e'
       have Jc:∀r kd v,ln c nt (k+1) (({ t with iE:=some s' }:be).fg r kd v):=fun r kd v=>⟨h.cf,h.nn,h.tA,h.nD,h.pc,h.dn,h.fV,by simp only [be.fg,be.ez,List.length_append,List.length_singleton];omega,h.rV,h.um,h.qI,h.tz,h.kS⟩
       split
       · exact bS _ (Jc _ _ _) rfl PD hf et rfl rfl rfl (by simp only [be.fg,be.ez,List.length_append,List.length_singleton];omega)
       · split
         · exact bS _ (Jc _ _ _) rfl PD hf et rfl rfl rfl (by simp only [be.fg,be.ez,List.length_append,List.length_singleton];omega)
         · exact bS _ h1 rfl PD hf et rfl rfl rfl (by dsimp only;omega)
   · rw [if_pos e2]
     by_cases hs:t.aK=true
     · rw [if_pos hs]
       obtain⟨w1,w2⟩:=hA.Fy hs
       exact Ju h1 (by dsimp only;omega) hd hf et w1 w2 _
     · rw [if_neg hs]
       have PD:t.aK=false:=by simpa using hs
       obtain⟨w1,w2,w3,w4⟩:=hA.zU PD
       exact Qa h1 th Lw qB PD hf et w1 w2 w3
variable {fF:Int→Int→Int→Int}
theorem K5 (h:ln c nt k t) (hd:t.done=false) (xj:t.fv.op≠7∧t.fv.op≠8):∃pc,ln c nt k (t.gZ fF t.fv)∧(t.gZ fF t.fv).pc=pc∧(0≤pc∧pc≤t.ay.length)∧cJ t.ay pc.toNat=cJ t.ay t.pc.toNat∧(t.gZ fF t.fv).done=decide (pc=t.ay.length)∧(t.gZ fF t.fv).ay=t.ay∧(t.gZ fF t.fv).iE=t.iE∧(t.gZ fF t.fv).aK=t.aK∧(t.gZ fF t.fv).dA=t.dA∧(t.gZ fF t.fv).dt=t.dt∧(t.gZ fF t.fv).bQ=t.bQ∧(t.gZ fF t.fv).fV=t.fV∧(t.gZ fF t.fv).dY=t.dY:=by
 have dO:=h.lt hd
 have ki:=h.pc
 obtain⟨ld,hi⟩:=h.fv hd
 have ho:=mP h hd
 have Vg:cJ t.ay (t.pc+1).toNat=cJ t.ay t.pc.toNat:=by
  rw [sP ki.1]
  exact vu rfl (by omega) (by omega)
 have Vc:∃pc,pc=(t.pc+1+if t.fv.op=4∨(t.fv.op=5∧t.dC.bR t.fv.a=0)∨(t.fv.op=6∧t.dC.bR t.fv.a≠0) then t.fv.cQ else 0)∧(0≤pc∧pc≤t.ay.length)∧cJ t.ay pc.toNat=cJ t.ay t.pc.toNat:=by
  refine⟨_,rfl,?_⟩
  split
  · rename_i hj
    have DM:t.ay[t.pc.toNat].op=4∨t.ay[t.pc.toNat].op=5∨t.ay[t.pc.toNat].op=6:=by
     rw [←hi];omega
    obtain⟨j1,j2⟩:=IW h.nD ld DM
    obtain⟨_,j3⟩:=Kj h.nD ld DM
    rw [←hi] at j1 j2 j3
    refine⟨by omega,?_⟩
    rw [←j2]
    congr 1
    omega
  · refine⟨by omega,?_⟩
    rw [Int.add_zero]
    exact Vg
 obtain⟨pc,he,hr,gh⟩:=Vc
 refine⟨pc,?_,?_,hr,gh,?_⟩
 · unfold be.gZ
   rw [←he]
   split
   · exact(h.ez _ _).to hr
   · split
     · exact(h.ez _ _).to hr
     · split
       · exact(h.ez _ _).to hr
       · split
         · exact(h.ez _ _).to hr
         · exact h.to hr
 · unfold be.gZ
   rw [←he]
   rfl
 · unfold be.gZ
   rw [←he]
   have e:∀t2:be,t2.ay=t.ay→t2.iE=t.iE→t2.aK=t.aK→t2.dA=t.dA→t2.dt=t.dt→t2.bQ=t.bQ→t2.fV=t.fV→t2.dY=t.dY→(t2.to pc).done=decide (pc=t.ay.length)∧(t2.to pc).ay=t.ay∧(t2.to pc).iE=t.iE∧(t2.to pc).aK=t.aK∧(t2.to pc).dA=t.dA∧(t2.to pc).dt=t.dt∧(t2.to pc).bQ=t.bQ∧(t2.to pc).fV=t.fV∧(t2.to pc).dY=t.dY:=by
    intro t2 a1 a2 a3 a4 a5 a6 a7 a8
    refine⟨?_,a1,a2,a3,a4,a5,a6,a7,a8⟩
    show decide (pc=t2.ay.length)=_
    rw [a1]
   split
   · exact e _ rfl rfl rfl rfl rfl rfl rfl rfl
   · split
     · exact e _ rfl rfl rfl rfl rfl rfl rfl rfl
     · split
       · exact e _ rfl rfl rfl rfl rfl rfl rfl rfl
       · split
         · exact e _ rfl rfl rfl rfl rfl rfl rfl rfl
         · exact e _ rfl rfl rfl rfl rfl rfl rfl rfl
theorem MY (h:ln c nt k t) (hd:t.done=false) (xj:t.fv.op≠7∧t.fv.op≠8) (ha:t.iE=none) (hs:t.aK=false) (hf:t.dA=none) (et:t.dt=none) (gh:cJ t.ay t.pc.toNat=none):jM c nt (k+1) (t.gZ fF t.fv):=by
 obtain⟨pc,g0,g1,g2,g3,g4,g5,g6,g7,g8,g9,T1,Xv,Q5⟩:=K5 (fF:=fF) h hd xj
 exact vt (g0.mono (by omega)) (g6.trans ha) (g7.trans hs) (g8.trans hf) (g9.trans et) (by rw [g5,g1,g3];exact gh)
theorem A9 (hc:b9 c) (hk:k<2^40) (hM:jN c nt k M) (h:ln c nt (k+1) t) (Zo:t.gv≤k) (th:t.fV.length≤2*k) (Lw:t.fu.length≤8*k) (hd:t.done=false) (hf:t.dA=none) (et:t.dt=none)
 (hs:t.aK=true→(t.fv.op=12∨t.fv.op=13)∧cJ t.ay t.pc.toNat=none) (hw:t.aK=false→t.pc=t.bQ∧t.fv.op=7∧cJ t.ay t.pc.toNat=none) :
 jM c nt (k+1) (t.qM.vW M (gf (fl t.cf t.id)).2).2.2.1∧jN c nt (k+1) (t.qM.vW M (gf (fl t.cf t.id)).2).2.2.2:=by
 have R2:=h.tA
 have VH:=h.qI
 have h1:ln c nt (k+1) t.qM:=⟨h.cf,h.nn,h.tA,h.nD,h.pc,h.dn,h.fV,by show ([]:List lp).length≤_;simp,h.rV,h.um,by show 0≤t.gv+1∧t.gv+1≤((k+1:Nat):Int);omega,h.tz,h.kS⟩
 have hn:(fl t.cf t.id).kO 0=true:=rfl
 have hb:nE c k (gf (fl t.cf t.id)).2:=BK (by rw [h.cf];exact yG hc k t.id (by omega))
 have cX:(gf (fl t.cf t.id)).2.aA=1:=by unfold gf;rw [if_pos hn]
 have VP:∀x∈(gf (fl t.cf t.id)).2.av,0≤x∧x<c.nb:=by
  unfold gf
  rw [if_pos hn]
  intro x hx
  cases hx
 refine Dm hc hk hM h1 (by show t.fV.length+([]:List lp).length≤_;simpa using th) (by show ([]:List lp).length≤_;simp) Lw hd hf et ⟨hb,cX,VP,hs,fun e=>?_⟩
 obtain⟨w1,w2,w3⟩:=hw e
 have ki:=h.pc
 have ho:=mP h hd
 show eh t.ay t.bQ.toNat=7∧cJ t.ay t.bQ.toNat=none∧0≤t.bQ∧_
 rw [←w1]
 exact⟨ho.trans w2,w3,ki.1,.inl ⟨w1,w2⟩⟩
theorem KB (hc:b9 c) (hk:k<2^40) (hM:jN c nt k M) (h:ln c nt k t) (hd:t.done=false) (ha:t.iE=none) (hs:t.aK=false) (hf:t.dA=none) (et:t.dt=none) (gh:cJ t.ay t.pc.toNat=none) (mg:t.fv.op=12∨t.fv.op=13) :
 jM c nt (k+1) (t.plain M t.fv).2.2.1∧jN c nt (k+1) (t.plain M t.fv).2.2.2:=by
 have h':=h.mono (Nat.le_succ k)
 have th:=h.fV
 unfold be.plain
 dsimp only
 split
 · refine⟨?_,hM.mono (by omega)⟩
   split
   · exact uP (h'.ez _ _) th hd ha hs hf et mg gh _ _
   · exact uP h' th hd ha hs hf et mg gh _ _
 · split
   · exact A9 hc hk hM (t:={ t with aK:=true,eO:=0 }) ⟨h'.cf,h'.nn,h'.tA,h'.nD,h'.pc,h'.dn,h'.fV,h'.sn,h'.rV,h'.um,h'.qI,h'.tz,by dsimp only;omega⟩ h.qI.2 th h.rV hd hf et (fun _=>⟨mg,gh⟩) (fun e=>(by cases e))
   · split
     · exact⟨zH h' th hd ha hs hf et mg gh _ _,hM.mono (by omega)⟩
     · exact⟨zH h' th hd ha hs hf et mg gh _ _,hM.QH (by omega) _ _ _ (by decide)⟩
theorem Kv (hc:b9 c) (h:nE c k s) (i:cz):nE c k (t.D7 i s):=by
 have u0:∀x,0≤IntKind.u64.wrap x:=fun x=>(ks x).1
 unfold be.D7
 split
 · exact Ky hc h _ (u0 _)
 · split
   · exact J0 h _ _ (u0 _)
   · split
     · exact Qu hc h _
     · split
       · exact P8 hc h _
       · split
         · exact G7 h _
         · split
           · exact G7 h _
           · exact h
theorem Bh (hs:s.aA=1) (i:cz):(t.D7 i s).aA=1:=by
 have key:∀r:aT,(r=s∨r.aA=1)→r.aA=1:=fun r h=>by
  rcases h with rfl|h
  · exact hs
  · exact h
 unfold be.D7
 split
 · exact key _ (HH s _)
 · split
   · exact key _ (Hx s _ _)
   · split
     · exact key _ (NV s _)
     · split
       · exact key _ (Nw s _)
       · split
         · exact key _ (C3 s _)
         · split
           · exact key _ (C3 s _)
           · exact hs
theorem Kz (s:aT) (a:Int):(Eb s a).2.av=s.av:=by unfold Eb;(repeat' split)<;>rfl
theorem Ka (s:aT) (a v:Int):(DH s a v).2.av=s.av:=by unfold DH;split<;>rfl
theorem Qv (s:aT) (a:Int):(Ip s a).2.av=s.av:=by unfold Ip;(repeat' split)<;>rfl
theorem P9 (s:aT) (a:Int):(If s a).2.av=s.av:=by unfold If;(repeat' split)<;>rfl
theorem G8 (s:aT) (a:Int):(zS s a).2.av=s.av:=by unfold zS;(repeat' split)<;>rfl
theorem Bi (hf:∀x∈s.av,0≤x∧x<c.nb) (i:cz):∀x∈(t.D7 i s).av,0≤x∧x<c.nb:=by
 have e:(t.D7 i s).av=s.av:=by
  unfold be.D7
  split
  · exact Kz _ _
  · split
    · exact Ka _ _ _
    · split
      · exact Qv _ _
      · split
        · exact P9 _ _
        · split
          · exact G8 _ _
          · split
            · exact G8 _ _
            · rfl
 rw [e]
 exact hf
theorem BN (hf:∀x∈s.av,0≤x∧x<c.nb) (i:cz):∀x∈(t.rm i s).av,0≤x∧x<c.nb:=by
 have e:(t.rm i s).av=s.av:=by
  unfold be.rm
  split
  · exact G8 _ _
  · split
    · exact Kz _ _
    · exact Ka _ _ _
 rw [e]
 exact hf
theorem xI (hs:s.aA=1) (hb:s.jt=false) {ay:Int} (BC:ay=1∨ay=2):oy (zS s ay).2.aG:=by
 have hf:s.kO 1=true:=by
  unfold aT.jt at hb
  unfold aT.kO
  rw [hs]
  simpa using hb
 unfold zS
 rw [if_pos hf,if_neg (by omega)]
 trivial
theorem Mb (hs:s.aA=1) (i:cz):(t.rm i s).aA=1:=by
 have key:∀r:aT,(r=s∨r.aA=1)→r.aA=1:=fun r h=>by
  rcases h with rfl|h
  · exact hs
  · exact h
 unfold be.rm
 split
 · exact key _ (C3 s _)
 · split
   · exact key _ (HH s _)
   · exact key _ (Hx s _ _)
theorem Mc (hc:b9 c) (h:nE c k s) (i:cz):nE c k (t.rm i s):=by
 have u0:∀x,0≤IntKind.u64.wrap x:=fun x=>(ks x).1
 unfold be.rm
 split
 · exact G7 h _
 · split
   · refine Ky hc h _ ?_
     unfold be.lY
     split<;>exact u0 _
   · refine J0 h _ _ ?_
     unfold be.lY
     split<;>exact u0 _
theorem Jo (hc:b9 c) (hk:k<2^40) (hM:jN c nt k M) (h:ln c nt k t) (hd:t.done=false) (ha:t.iE=none) (hs:t.aK=false) (hf:t.dA=none) (et:t.dt=none) (gh:cJ t.ay t.pc.toNat=none) :
 jM c nt (k+1) (t.kR fF M t.fv).2.2.1∧jN c nt (k+1) (t.kR fF M t.fv).2.2.2:=by
 have h':=h.mono (Nat.le_succ k)
 obtain⟨ld,hi⟩:=h.fv hd
 have qG:=(qV h.nD ld).1 gh
 rw [←hi] at qG
 have WX:=h.tz
 unfold be.kR
 split
 · rename_i h7
   exact A9 hc hk hM (t:={ t with bQ:=t.pc,jP:=t.dC,gB:=t.gB+1 }) ⟨h'.cf,h'.nn,h'.tA,h'.nD,h'.pc,h'.dn,h'.fV,h'.sn,h'.rV,h'.um,h'.qI,by dsimp only;omega,h'.kS⟩ h.qI.2 h.fV h.rV hd hf et (fun e=>(by rw [show t.aK=true from e] at hs;cases hs)) (fun _=>⟨rfl,h7,gh⟩)
 · rename_i h7
   rw [ha]
   dsimp only
   split
   · rename_i mg
     exact KB hc hk hM h hd ha hs hf et gh mg
   · split
     · rename_i tC
       exact Hy hc hM (t:={ t with iE:=none,dA:=some ⟨t.id,t.nt,false,0,0⟩ }) (f:=⟨t.id,t.nt,false,0,0⟩) ⟨h.cf,h.nn,h.tA,h.nD,h.pc,h.dn,h.fV,h.sn,h.rV,h.um,h.qI,h.tz,h.kS⟩ rfl hs hd tC gh rfl rfl h.nn (by dsimp only;omega) (fun _=>rfl) (fun l e=>(by rw [show t.dt=some l from e] at et;cases et))
     · exact⟨MY h hd ⟨h7,qG.1⟩ ha hs hf et gh,hM.mono (by omega)⟩
theorem Jn (hc:b9 c) (hk:k<2^40) (hM:jN c nt k M) (h:ln c nt k t) (hd:t.done=false) (ha:t.iE=some s) (hf:t.dA=none) (et:t.dt=none) (th:t.fV.length+t.dY.length≤2*k) (hR:SH c k t s) (hb:s.jt=false) :
 jM c nt (k+1) (t.kR fF M t.fv).2.2.1∧jN c nt (k+1) (t.kR fF M t.fv).2.2.2:=by
 have h':=h.mono (Nat.le_succ k)
 obtain⟨ld,hi⟩:=h.fv hd
 obtain⟨w1,w2,w3,w4⟩:=hR.zU
 have qG:=(qV h.nD ld).2.1 _ w4
 rw [←hi] at qG
 unfold be.kR
 rw [if_neg qG.1,ha]
 dsimp only
 split
 · rename_i mg
   refine Dm hc hk hM (t:={ t with iE:=some (t.D7 t.fv s) }) ⟨h'.cf,h'.nn,h'.tA,h'.nD,h'.pc,h'.dn,h'.fV,h'.sn,h'.rV,h'.um,h'.qI,h'.tz,h'.kS⟩ th h.sn h.rV hd hf et ⟨Kv hc hR.ok _,Bh hR.st _,Bi hR.xn _,fun e=>(by have e2:t.aK=true:=e;rw [hR.Fy] at e2;cases e2),fun _=>⟨w1,w2,w3,?_⟩⟩
   by_cases h89:t.fv.op=8∨t.fv.op=9
   · right;right
     unfold be.D7
     rw [if_neg (by omega),if_neg (by omega),if_neg (by omega),if_neg (by omega)]
     split
     · exact xI hR.st hb (.inl rfl)
     · rw [if_pos (by omega)]
       exact xI hR.st hb (.inr rfl)
   · exact .inr (.inl ⟨w4,by show t.fv.op=10∨t.fv.op=11∨t.fv.op=14∨t.fv.op=15;omega⟩)
 · rename_i mg
   refine⟨?_,hM.mono (by omega)⟩
   obtain⟨pc,g0,g1,g2,g3,g4,g5,g6,g7,g8,g9,T1,Xv,Q5⟩:=K5 (fF:=fF) h hd ⟨qG.1,by omega⟩
   have gh:cJ t.ay pc.toNat=some t.bQ.toNat:=g3.trans w4
   have EU:¬pc=t.ay.length:=fun e=>by
    rw [show pc.toNat=t.ay.length by omega,(fX h.nD).2.2] at gh
    cases gh
   refine⟨g0.mono (by omega),fun e=>(by rw [g6,ha] at e;cases e),fun s2 e=>?_,fun f e=>(by rw [g8,hf] at e;cases e),fun _=>g9.trans et,fun l e=>(by rw [g9,et] at e;cases e)⟩
   rw [g6,ha] at e
   injection e with e
   subst e
   refine⟨?_,by rw [g4];exact decide_eq_false EU,g8.trans hf,by rw [Xv,Q5];omega⟩
   rw [if_neg (by rw [g7,hb,hR.Fy];simp)]
   exact⟨hR.ok.mono (by omega),hR.st,hR.xn,g7.trans hR.Fy,by rw [g5,T1,g1];exact⟨w1,w2,w3,gh⟩⟩
theorem Ko (hc:b9 c) (hk:k<2^40) (hM:jN c nt k M) (h:jM c nt k t) (hd:t.done=false):jM c nt (k+1) (t.se fF M).2.2.1∧jN c nt (k+1) (t.se fF M).2.2.2:=by
 have om:=h.co
 have vF:=om.mono (Nat.le_succ k)
 have Xk:=om.kS
 unfold be.se
 cases hf:t.dA with
 | some f=>
   obtain⟨g1,g2,g3,g4,g5,g6,g7⟩:=h.V5 f hf
   obtain⟨g8,g9⟩:=h.HZ g1
   exact Hy hc hM om g1 g8 hd g3 g9 hf g4 g5 g6 g7 h.dr
 | none=>
   have et:=h.KS hf
   dsimp only
   cases ha:t.iE with
   | none=>
     obtain⟨g8,g9⟩:=h.HZ ha
     exact Jo hc hk hM om hd ha g8 hf et g9
   | some s=>
     obtain⟨g1,_,_,g2⟩:=h.Be s ha
     dsimp only
     by_cases hb:s.jt=true
     · rw [if_pos hb]
       rw [if_pos (.inl hb)] at g1
       exact Dm hc hk hM vF g2 om.sn om.rV hd hf et g1
     · rw [if_neg hb]
       have jX:s.jt=false:=by simpa using hb
       by_cases hs:t.aK=true
       · rw [if_pos hs]
         rw [if_pos (.inr hs)] at g1
         exact Dm hc hk hM (t:=t.SA t.fv s) ⟨vF.cf,vF.nn,vF.tA,vF.nD,vF.pc,vF.dn,vF.fV,vF.sn,vF.rV,vF.um,vF.qI,vF.tz,by show 0≤t.eO+1∧t.eO+1≤((k+1:Nat):Int);omega⟩ g2 om.sn om.rV hd hf et ⟨Mc hc g1.ok _,Mb g1.st _,BN g1.xn _,g1.Fy,fun e=>(by rw [show t.aK=false from e] at hs;cases hs)⟩
       · rw [if_neg hs]
         rw [if_neg (by rw [jX];simpa using hs)] at g1
         exact Jn hc hk hM om hd ha hf et g2 g1 jX
theorem Bs {id:Int} (R2:0≤id∧id<nt∧nt≤16) {p:List cz} (hp:(dW p).2=0):jM c nt 0 (qW c id nt p):=by
 refine vt ⟨rfl,rfl,R2,hp,⟨Int.le_refl _,by show (0:Int)≤p.length;omega⟩,?_,Nat.zero_le _,Nat.zero_le _,Nat.zero_le _,fun x hx=>(by cases hx),⟨Int.le_refl _,Int.le_refl _⟩,⟨Int.le_refl _,Int.le_refl _⟩,⟨Int.le_refl _,Int.le_refl _⟩⟩ rfl rfl rfl rfl rfl
 show decide (p.length=0)=decide ((0:Int)=p.length)
 by_cases e:p.length=0
 · simp [e]
 · rw [decide_eq_false e,decide_eq_false (by omega)]
theorem jM.mono {k':Nat} (h:jM c nt k t) (hk:k≤k'):jM c nt k' t:=by
 refine⟨h.co.mono hk,h.HZ,fun s e=>?_,h.V5,h.KS,fun l e=>?_⟩
 · obtain⟨g1,g2,g3,g4⟩:=h.Be s e
   refine⟨?_,g2,g3,by omega⟩
   split
   · rename_i hb
     rw [if_pos hb] at g1
     exact⟨g1.ok.mono hk,g1.st,g1.xn,g1.Fy,g1.zU⟩
   · rename_i hb
     rw [if_neg hb] at g1
     exact⟨g1.ok.mono hk,g1.st,g1.xn,g1.Fy,g1.zU⟩
 · obtain⟨g1,g2,g3⟩:=h.dr l e
   exact⟨g1,by omega,g3⟩
end
end
end Go.Stx
