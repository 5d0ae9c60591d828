/-
 The reference's attempt: steps.
-/
import Derived.Test.YtncmjklabcoeaaaGreatD37
import Derived.Test.YtncmjklabcoeaaaGreatD39
import Derived.Test.YtncmjklabcoeaaaGreatD42
set_option linter.unusedVariables false
set_option linter.unusedSimpArgs false
set_option maxRecDepth 20000
set_option maxHeartbeats 4000000
namespace Go.Stx
open Go Go.Proofs
attribute [local irreducible] fj cm aH bB dK ei
section
theorem ze:∀(n:Nat) (l:List Int),l.Nodup→(∀a∈l,0≤a∧a<(n:Int))→l.length≤n
 | 0,l,_,h=>by
   cases l with
   | nil=>simp
   | cons a t=>have:=h a (by simp);omega
 | n+1,l,hn,h=>by
   have h1:=ze n (l.erase (n:Int)) (hn.erase _) fun a ha=>by
    have h2:=(List.Nodup.mem_erase_iff hn).1 ha
    have h3:=h a h2.2
    have h4:=h2.1
    omega
   rw [List.length_erase] at h1
   split at h1<;>omega
variable {c:bG} {nt k:Nat} {M:Mm} {s:aD}
theorem iW.Gy (hc:dt c) (h:iW c k s):ep s:=by
 have gt:=h.cf
 have xv:=hc.nb
 have hw:=hc.aF
 refine⟨gt▸hc,?_,h.aM,?_,h.cc,?_,?_,?_,h.push,gt▸h.set,?_,?_⟩
 · have:=h.G2;omega
 · have:=h.dA;have:=hc.bX;omega
 · intro a ha;have:=h.I6 a ha;omega
 · intro a ha;have:=h.GU a ha;omega
 · have:=h.kN;have:=hc.ac;omega
 · have:=ze c.aF.toNat s.ah h.O6 fun a ha=>by have:=h.O3 a ha;omega
   omega
 · have:=h.EQ;have:=hc.ap;omega
theorem iW.EG (hc:dt c) (h:iW c k s):s.ah.length≤64:=by
 have hw:=hc.aF
 have:=ze c.aF.toNat s.ah h.O6 fun a ha=>by have:=h.O3 a ha;omega
 omega
theorem mu.Q9 (h:mu k s) (ho:s.aj.length≤64):Mj s:=by
 refine⟨by omega,?_⟩
 rcases h with h|⟨l,h1,h2,h3,h4,h5⟩
 · left;rw [h.1];rfl
 · right;exact⟨l,h1,h3.symm⟩
theorem oW.KE (hc:dt c) (h:oW c k s) (hM:oR c nt k M):Mi s M:=by
 have hb:=h.b
 have hC:=hb.Gy hc
 have gt:=hb.cf
 have hd:=h.d
 refine⟨hC,?_⟩
 have ho:=hb.Qt
 cases e:s.aA with
 | bm=>trivial
 | jV l=>
   rw [e] at hd
   cases l with
   | fu a v=>exact hd.2
   | cM b v=>show 0≤b∧b<s.cf.nb;rw [gt];exact hd.2
   | _=>trivial
 | ej=>
   rw [e] at hd
   obtain⟨h0,en,h1,h2⟩:=hd
   exact⟨en,h1⟩
 | bz r u=>
   rw [e] at hd
   obtain⟨h0,h1,h2,h3,h4,h5,h6⟩:=hd
   refine⟨by have:=hb.EG hc;omega,h1,gt▸h2,?_⟩
   cases u with
   | take=>trivial
   | cM b=>show 0≤b∧b<s.cf.nb;rw [gt];exact h4
 | eE p=>
   rw [e] at hd
   obtain⟨h0,h1,h2,h3,h4,h5,h6,h7⟩:=hd
   refine⟨?_,h2,?_⟩
   · have:=hc.ac;omega
   · rw [gt];exact Ce p h6 hc h3 h5
 | fF=>
   rw [e] at hd
   obtain⟨h0,OL,l,h1,h2,h3,h4,h5⟩:=hd
   exact⟨l,h1,by omega,by rw [h2];omega⟩
 | dI=>
   rw [e] at hd
   obtain⟨h0,hl,t,h1,h2,h3⟩:=hd
   exact⟨t,h1⟩
 | dG ck=>
   rw [e] at hd
   exact hd.2.1.1.Q9 ho
 | cN=>
   rw [e] at hd
   exact hd.2.1.1.Q9 ho
 | et w=>
   rw [e] at hd
   obtain⟨_,_,_,_,q,h1,h2⟩:=hd
   have:=hb.aM.xt
   refine⟨by rw [h2];simp only [List.length_drop];omega,by omega⟩
 | cK w=>
   rw [e] at hd
   obtain⟨_,_,hl,_,q,h1,h2⟩:=hd
   show w.os.length=w.ws.length
   rw [h2]
   have:(lB s).length=s.aj.length:=by
    unfold lB
    split
    · simp
    · rcases hl with hl|⟨l,h3,h4,h5,h6,h7⟩
      · rw [hl.1] at h1;simp at h1
      · unfold aD.dH;rw [h3];exact h5
   simp only [List.length_drop]
   omega
 | ij=>trivial
 | fm=>
   rw [e] at hd
   exact hd.2
 | eZ p=>
   rw [e] at hd
   exact hd.2.1
 | fW=>trivial
end
section
open T28 T16
theorem an.So {A:AW} {x y z:It} {L:List It} (h:an A (x::y::z::L)):an A (y::x::L):=by
 have h1:bK A (x.hp*(y.hp*(z.hp*bn L))):=h
 have h2:bK A (z.hp*(y.hp*(x.hp*bn L))):=h1.dp (by ac_rfl)
 exact h2.right
theorem Dq {P:Program} {fn:FuncId} {args:List Value} {X:Nat→It} {A:AW} (h:∀F,an A [.h F]→aH P fn args A (fun v A'=>∃b,v=pv b∧an A' [X b,.h F])) {L:List It} {k:Value→AW→Prop} (hS:an A L) (hk:∀b A',an A' (X b::L)→A'.Wf→k (pv b) A'):aH P fn args A k:=by
 have oG:an A [.h (bn L)]:=by
  unfold an at *
  show bK A (bn L*fa)
  rwa [dx]
 refine bD (h (bn L) oG) ?_
 rintro _ A' ⟨b,rfl,h2⟩ gY _
 refine hk b A' ?_ gY
 unfold an at *
 have h3:bK A' ((X b).hp*(bn L*fa)):=h2
 rwa [dx] at h3
theorem HW (c:bG) (hc:dt c) (t:Int) (A:AW) (L:List It) (hw:A.Wf) (hS:an A L) :
 aH Tryz.prog 11 [c.v,.int .i64 t] A (fun v A'=>∃x:Nat×Nat,v=.tuple #[.agg #[pv x.1,pv x.2],.bool true]∧an A' (.h (bI x.1 (iD c t))::.h (bF x.2 (iD c t))::L)):=by
 refine ab Tryz.func11 rfl (by kernel_rfl) fun _=>?_
 have OD:=fun(A':AW) (F:HP) (gY:A'.Wf) (h:an A' [.h F])=>FH c hc t A' F gY h
 have VG:=fun(A':AW) (F:HP) (gY:A'.Wf) (h:an A' [.h F])=>Jo c hc t A' F gY h
 have mg:=an.jn (o:=.cells [.pointer none,.pointer none] true 1) (an.jn (o:=.cells c.cells true 1) hS hw) (hw.alloc _)
 have gJ:=(hw.alloc (.cells c.cells true 1)).alloc (.cells [.pointer none,.pointer none] true 1)
 simp only [AW.aZ] at mg
 dsimp only [bG.v,bG.cells] at OD VG mg gJ ⊢
 revert hS hw hc;refine Wr trivial (J2 @AW.aa @af.eq_1) (J1 ?_)<;>unhygienic intros
 refine Dq (fun F h=>OD _ F gJ h) mg ?_
 intro a A1 hS hw
 have hq:=ZQ hS hw
 revert hq hS hw;(repeat first|clear hq|clear hS|clear hw|revert hc|revert zn|revert zA|revert R|revert K);refine Wr trivial (J2 @AW.aa @af.eq_1) (J1 ?_)<;>unhygienic intros
 refine Dq (fun F h=>VG _ F hw h) hS ?_
 intro r A2 hS hw
 have hq:=ZQ hS hw
 revert hq hS hw;(repeat first|clear hq|clear hS|clear hw|revert hc|revert zn|revert zA|revert R|revert K);refine Wr trivial (J2 @AW.aa @af.eq_1) (J1 ?_)<;>unhygienic intros
 refine⟨_,by first|(simp [hq,AW.aa,af];done)|(simp [hq,AW.aa,af];rfl),(a,r),rfl,?_⟩
 exact an.So (an.tail (an.jd hS (.s (.s .z))))
end
end Go.Stx
