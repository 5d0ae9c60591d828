/-
 A step of either attempt, out of what always holds.
-/
import Derived.Test.YtejgooipbmnioaaGreatDoorG18
import Derived.Test.YtejgooipbmnioaaGreatDoorG20
import Derived.Test.YtejgooipbmnioaaGreatDoorG19
set_option linter.unusedVariables false
set_option linter.unusedSimpArgs false
set_option linter.unusedSectionVars false
set_option maxRecDepth 20000
set_option maxHeartbeats 4000000
namespace Go.Stx
open Go Go.Proofs
attribute [local irreducible] eg bn aC aV cR df TW cg
section
variable [Gl]
theorem yE:∀(n:Nat) (l:List Int),l.Nodup→(∀a∈l,0≤a∧a<(n:Int))→l.length≤n
 | 0,l,_,h=>by
   cases l with
   | nil=>simp
   | cons a t=>have:=h a (by simp);omega
 | n+1,l,hn,h=>by
   have h1:=yE n (l.erase (n:Int)) (hn.erase _) fun a ha=>by
    have h2:=(List.Nodup.mem_erase_iff hn).1 ha
    have h3:=h a h2.2
    have h4:=h2.1
    omega
   rw [List.length_erase] at h1
   split at h1<;>omega
variable {c:bC} {nt k:Nat} {M:Mm} {s:aT}
theorem iA.NM (hc:b9 c) (h:iA c k s):fA s:=by
 have sx:=h.cf
 have xj:=hc.nb
 have hw:=hc.aQ
 refine⟨sx▸hc,?_,h.bp,?_,h.dq,?_,?_,?_,h.push,sx▸h.set,?_,?_⟩
 · have:=h.Ki;omega
 · have:=h.ew;have:=hc.bN;omega
 · intro a ha;have:=h.Dn a ha;omega
 · intro a ha;have:=h.JU a ha;omega
 · have:=h.kT;have:=hc.ai;omega
 · have:=yE c.aQ.toNat s.reads h.Pe fun a ha=>by have:=h.Pb a ha;omega
   omega
 · have:=h.xn;have:=hc.av;omega
theorem iA.yx (hc:b9 c) (h:iA c k s):s.reads.length≤64:=by
 have hw:=hc.aQ
 have:=yE c.aQ.toNat s.reads h.Pe fun a ha=>by have:=h.Pb a ha;omega
 omega
theorem qn.Rs (h:qn k s) (ho:s.an.length≤64):Mq s:=by
 refine⟨by omega,?_⟩
 rcases h with h|⟨l,h1,h2,h3,h4,h5⟩
 · left;rw [h.1];rfl
 · right;exact⟨l,h1,h3.symm⟩
theorem nE.O6 (hc:b9 c) (h:nE c k s) (hM:jN c nt k M):Dy s M:=by
 have hb:=h.b
 have hC:=hb.NM hc
 have sx:=hb.cf
 have hd:=h.d
 refine⟨hC,?_⟩
 have ho:=hb.Rr
 cases e:s.aG with
 | bK=>trivial
 | gZ l=>
   rw [e] at hd
   cases l with
   | k4 a v=>exact hd.2
   | cM b v=>show 0≤b∧b<s.cf.nb;rw [sx];exact hd.2
   | _=>trivial
 | eN=>
   rw [e] at hd
   obtain⟨h0,en,h1,h2⟩:=hd
   exact⟨en,h1⟩
 | bm r u=>
   rw [e] at hd
   obtain⟨h0,h1,h2,h3,h4,h5,h6⟩:=hd
   refine⟨by have:=hb.yx hc;omega,h1,sx▸h2,?_⟩
   cases u with
   | take=>trivial
   | cM b=>show 0≤b∧b<s.cf.nb;rw [sx];exact h4
 | eL p=>
   rw [e] at hd
   obtain⟨h0,h1,h2,h3,h4,h5,h6,h7⟩:=hd
   refine⟨?_,h2,?_⟩
   · have:=hc.ai;omega
   · rw [sx];exact IP p h6 hc h3 h5
 | eR=>
   rw [e] at hd
   obtain⟨h0,Ic,l,h1,h2,h3,h4,h5⟩:=hd
   exact⟨l,h1,by omega,by rw [h2];omega⟩
 | db=>
   rw [e] at hd
   obtain⟨h0,hl,t,h1,h2,h3⟩:=hd
   exact⟨t,h1⟩
 | dM ck=>
   rw [e] at hd
   exact hd.2.1.1.Rs ho
 | cu=>
   rw [e] at hd
   exact hd.2.1.1.Rs ho
 | ee w=>
   rw [e] at hd
   obtain⟨_,_,_,_,q,h1,h2⟩:=hd
   have:=hb.bp.Gy
   refine⟨by rw [h2];simp only [List.length_drop];omega,by omega⟩
 | cD w=>
   rw [e] at hd
   obtain⟨_,_,hl,_,q,h1,h2⟩:=hd
   show w.os.length=w.ws.length
   rw [h2]
   have:(vk s).length=s.an.length:=by
    unfold vk
    split
    · simp
    · rcases hl with hl|⟨l,h3,h4,h5,h6,h7⟩
      · rw [hl.1] at h1;simp at h1
      · unfold aT.eo;rw [h3];exact h5
   simp only [List.length_drop]
   omega
 | gV=>trivial
 | fL=>
   rw [e] at hd
   exact hd.2
 | eK p=>
   rw [e] at hd
   exact hd.2.1
 | hP=>trivial
end
section
open T6
variable [Gl]
structure nB (c:bC):Prop where
 ok:b9 c
 c0:c.c0=0∨c.c0=1∨c.c0=2
 c1:c.c1=0∨c.c1=1∨c.c1=2
 c2:c.c2=0
 c3:c.c3=0
theorem Hu.ZI {c:bC} (h:Hu c):nB c:=by
 have h1:=h.ok.k0
 have h2:=h.ok.k1
 have h3:=h.c0
 have h4:=h.c1
 exact⟨h.ok,by omega,by omega,h.c2,h.c3⟩
def eH (n0 n1:Int):List Int:=[nh 0 (if 0<n0 then 0 else -1),nh 0 (if 0<n1 then n0 else -1),nh 0 (-1),nh 0 (-1)]
def eQ (n0 n1:Int):List Int:=(if n0=2 then [2,0] else if n0=1 then [0] else [])++(if n1=2 then [n0+2,0] else if n1=1 then [0] else [])
theorem ak.kB {A:AW} {L K:List It} {b:Nat} {k:IntKind} (l:List Int) (n:Nat) (h:ak A L) (hp:ap L (.at b (.cells (l.map (.int k)) true 1)) K) (hn:n=l.length):ak A (.h (au k (.slice (some ⟨b,0,none⟩) n n) l)::K):=by
 subst hn
 unfold ak at h
 rw [hp.aR] at h
 exact au.mk rfl (Nat.le_refl _) (by simp) (by rw [List.drop_zero,List.take_of_length_le (by simp)]) h
set_option maxRecDepth 20000 in
set_option maxHeartbeats 4000000 in
theorem Lg (aQ an base reads bN ai av ax:Int) (aK:Bool) (ok:b9 ⟨aQ,an,base,0,0,0,0,reads,bN,ai,av,ax,aK⟩) (A:AW) (F:HP) (hw:A.Wf) (hS:ak A [.h F]) :
 aC Tryz.prog 92 [(bC.mk aQ an base 0 0 0 0 reads bN ai av ax aK).v] A (fun v A'=>∃vh vn,v=.tuple #[vh,vn]∧ak A' [.h (au .u64 vh (eH 0 0)),.h (au .u64 vn (eQ 0 0)),.h F]):=by
 have hb:=ge _ ok
 refine ab Tryz.func92 rfl (by kernel_rfl) fun _=>?_
 dsimp only [bC.nb,bC.v] at hb ⊢
 simp only [Int.add_zero,Int.zero_add,Int.reduceAdd] at hb
 revert hS hw;refine W (J1 @hb) (J2 @AW.aa @ah.eq_1) (J1 ?_)<;>unhygienic intros
 refine bu 5 ?_
 revert hS hw;(repeat first|clear hS|clear hw|revert hc|revert zn|revert zA|revert R|revert K);refine W (J1 @bF) (J2 @AW.aa @ah.eq_1) (J1 ?_)<;>unhygienic intros
 refine bu 3 ?_
 revert hS hw;(repeat first|clear hS|clear hw|revert hc|revert zn|revert zA|revert R|revert K);refine W (J1 @bF) (J2 @AW.aa @ah.eq_1) (J1 ?_)<;>unhygienic intros
 refine bu 3 ?_
 revert hS hw;(repeat first|clear hS|clear hw|revert hc|revert zn|revert zA|revert R|revert K);refine W (J1 @bF) (J2 @AW.aa @ah.eq_1) (J1 ?_)<;>unhygienic intros
 refine bu 3 ?_
 revert hS hw;(repeat first|clear hS|clear hw|revert hc|revert zn|revert zA|revert R|revert K);refine W (J1 @bF) (J2 @AW.aa @ah.eq_1) (J1 ?_)<;>unhygienic intros
 refine bu 3 ?_
 revert hS hw;(repeat first|clear hS|clear hw|revert hc|revert zn|revert zA|revert R|revert K);refine W (J1 @bF) (J2 @AW.aa @ah.eq_1) (J1 ?_)<;>unhygienic intros
 refine⟨_,by first|(simp;done)|(simp;rfl),.slice (some ⟨A.next+1,0,none⟩) 4 4,.slice (some ⟨A.next+1+1,0,none⟩) 0 0,rfl,?_⟩
 apply ak.bS
 · apply ak.kB (k:=.u64) (b:=A.next+1) (eH 0 0) 4
   · apply ak.kB (k:=.u64) (b:=A.next+1+1) (eQ 0 0) 0
     · repeat' (first|exact hS|exact Nat.le_refl _|with_reducible apply ak.ez|with_reducible apply ak.nv|with_reducible apply AW.jm|with_reducible apply AW.nd|with_reducible apply ap.z|with_reducible apply ap.s|assumption|apply AW.Wf.alloc|apply AW.Wf.set|(simp only [AW.bq,AW.gW];omega)|exact rfl)
     · repeat' (first|exact ap.z|apply ap.s)
     · rfl
   · repeat' (first|exact ap.z|apply ap.s)
   · rfl
 · repeat' (first|apply aD.z|apply aD.s|apply ap.z|apply ap.s)
set_option maxRecDepth 20000 in
set_option maxHeartbeats 4000000 in
theorem Lf (aQ an base reads bN ai av ax:Int) (aK:Bool) (ok:b9 ⟨aQ,an,base,0,1,0,0,reads,bN,ai,av,ax,aK⟩) (A:AW) (F:HP) (hw:A.Wf) (hS:ak A [.h F]) :
 aC Tryz.prog 92 [(bC.mk aQ an base 0 1 0 0 reads bN ai av ax aK).v] A (fun v A'=>∃vh vn,v=.tuple #[vh,vn]∧ak A' [.h (au .u64 vh (eH 0 1)),.h (au .u64 vn (eQ 0 1)),.h F]):=by
 have hb:=ge _ ok
 refine ab Tryz.func92 rfl (by kernel_rfl) fun _=>?_
 dsimp only [bC.nb,bC.v] at hb ⊢
 simp only [Int.add_zero,Int.zero_add,Int.reduceAdd] at hb
 revert hS hw;refine W (J1 @hb) (J2 @AW.aa @ah.eq_1) (J1 ?_)<;>unhygienic intros
 refine bu 5 ?_
 revert hS hw;(repeat first|clear hS|clear hw|revert hc|revert zn|revert zA|revert R|revert K);refine W (J1 @bF) (J2 @AW.aa @ah.eq_1) (J1 ?_)<;>unhygienic intros
 refine bu 3 ?_
 revert hS hw;(repeat first|clear hS|clear hw|revert hc|revert zn|revert zA|revert R|revert K);refine W (J1 @bF) (J2 @AW.aa @ah.eq_1) (J1 ?_)<;>unhygienic intros
 refine bu 3 ?_
 revert hS hw;(repeat first|clear hS|clear hw|revert hc|revert zn|revert zA|revert R|revert K);refine W (J1 @bF) (J2 @AW.aa @ah.eq_1) (J1 ?_)<;>unhygienic intros
 refine bu 3 ?_
 revert hS hw;(repeat first|clear hS|clear hw|revert hc|revert zn|revert zA|revert R|revert K);refine W (J1 @bF) (J2 @AW.aa @ah.eq_1) (J1 ?_)<;>unhygienic intros
 refine bu 3 ?_
 revert hS hw;(repeat first|clear hS|clear hw|revert hc|revert zn|revert zA|revert R|revert K);refine W (J1 @bF) (J2 @AW.aa @ah.eq_1) (J1 ?_)<;>unhygienic intros
 refine⟨_,by first|(simp;done)|(simp;rfl),.slice (some ⟨A.next+1,0,none⟩) 4 4,.slice (some ⟨A.next+1+1,0,none⟩) 1 1,rfl,?_⟩
 apply ak.bS
 · apply ak.kB (k:=.u64) (b:=A.next+1) (eH 0 1) 4
   · apply ak.kB (k:=.u64) (b:=A.next+1+1) (eQ 0 1) 1
     · repeat' (first|exact hS|exact Nat.le_refl _|with_reducible apply ak.ez|with_reducible apply ak.nv|with_reducible apply AW.jm|with_reducible apply AW.nd|with_reducible apply ap.z|with_reducible apply ap.s|assumption|apply AW.Wf.alloc|apply AW.Wf.set|(simp only [AW.bq,AW.gW];omega)|exact rfl)
     · repeat' (first|exact ap.z|apply ap.s)
     · rfl
   · repeat' (first|exact ap.z|apply ap.s)
   · rfl
 · repeat' (first|apply aD.z|apply aD.s|apply ap.z|apply ap.s)
set_option maxRecDepth 20000 in
set_option maxHeartbeats 4000000 in
theorem Le (aQ an base reads bN ai av ax:Int) (aK:Bool) (ok:b9 ⟨aQ,an,base,0,2,0,0,reads,bN,ai,av,ax,aK⟩) (A:AW) (F:HP) (hw:A.Wf) (hS:ak A [.h F]) :
 aC Tryz.prog 92 [(bC.mk aQ an base 0 2 0 0 reads bN ai av ax aK).v] A (fun v A'=>∃vh vn,v=.tuple #[vh,vn]∧ak A' [.h (au .u64 vh (eH 0 2)),.h (au .u64 vn (eQ 0 2)),.h F]):=by
 have hb:=ge _ ok
 refine ab Tryz.func92 rfl (by kernel_rfl) fun _=>?_
 dsimp only [bC.nb,bC.v] at hb ⊢
 simp only [Int.add_zero,Int.zero_add,Int.reduceAdd] at hb
 revert hS hw;refine W (J1 @hb) (J2 @AW.aa @ah.eq_1) (J1 ?_)<;>unhygienic intros
 refine bu 5 ?_
 revert hS hw;(repeat first|clear hS|clear hw|revert hc|revert zn|revert zA|revert R|revert K);refine W (J1 @bF) (J2 @AW.aa @ah.eq_1) (J1 ?_)<;>unhygienic intros
 refine bu 3 ?_
 revert hS hw;(repeat first|clear hS|clear hw|revert hc|revert zn|revert zA|revert R|revert K);refine W (J1 @bF) (J2 @AW.aa @ah.eq_1) (J1 ?_)<;>unhygienic intros
 refine bu 3 ?_
 revert hS hw;(repeat first|clear hS|clear hw|revert hc|revert zn|revert zA|revert R|revert K);refine W (J1 @bF) (J2 @AW.aa @ah.eq_1) (J1 ?_)<;>unhygienic intros
 refine bu 3 ?_
 revert hS hw;(repeat first|clear hS|clear hw|revert hc|revert zn|revert zA|revert R|revert K);refine W (J1 @bF) (J2 @AW.aa @ah.eq_1) (J1 ?_)<;>unhygienic intros
 refine bu 3 ?_
 revert hS hw;(repeat first|clear hS|clear hw|revert hc|revert zn|revert zA|revert R|revert K);refine W (J1 @bF) (J2 @AW.aa @ah.eq_1) (J1 ?_)<;>unhygienic intros
 refine⟨_,by first|(simp;done)|(simp;rfl),.slice (some ⟨A.next+1,0,none⟩) 4 4,.slice (some ⟨A.next+1+1,0,none⟩) 2 2,rfl,?_⟩
 apply ak.bS
 · apply ak.kB (k:=.u64) (b:=A.next+1) (eH 0 2) 4
   · apply ak.kB (k:=.u64) (b:=A.next+1+1) (eQ 0 2) 2
     · repeat' (first|exact hS|exact Nat.le_refl _|with_reducible apply ak.ez|with_reducible apply ak.nv|with_reducible apply AW.jm|with_reducible apply AW.nd|with_reducible apply ap.z|with_reducible apply ap.s|assumption|apply AW.Wf.alloc|apply AW.Wf.set|(simp only [AW.bq,AW.gW];omega)|exact rfl)
     · repeat' (first|exact ap.z|apply ap.s)
     · rfl
   · repeat' (first|exact ap.z|apply ap.s)
   · rfl
 · repeat' (first|apply aD.z|apply aD.s|apply ap.z|apply ap.s)
set_option maxRecDepth 20000 in
set_option maxHeartbeats 4000000 in
theorem Ld (aQ an base reads bN ai av ax:Int) (aK:Bool) (ok:b9 ⟨aQ,an,base,1,0,0,0,reads,bN,ai,av,ax,aK⟩) (A:AW) (F:HP) (hw:A.Wf) (hS:ak A [.h F]) :
 aC Tryz.prog 92 [(bC.mk aQ an base 1 0 0 0 reads bN ai av ax aK).v] A (fun v A'=>∃vh vn,v=.tuple #[vh,vn]∧ak A' [.h (au .u64 vh (eH 1 0)),.h (au .u64 vn (eQ 1 0)),.h F]):=by
 have hb:=ge _ ok
 refine ab Tryz.func92 rfl (by kernel_rfl) fun _=>?_
 dsimp only [bC.nb,bC.v] at hb ⊢
 simp only [Int.add_zero,Int.zero_add,Int.reduceAdd] at hb
 revert hS hw;refine W (J1 @hb) (J2 @AW.aa @ah.eq_1) (J1 ?_)<;>unhygienic intros
 refine bu 5 ?_
 revert hS hw;(repeat first|clear hS|clear hw|revert hc|revert zn|revert zA|revert R|revert K);refine W (J1 @bF) (J2 @AW.aa @ah.eq_1) (J1 ?_)<;>unhygienic intros
 refine bu 3 ?_
 revert hS hw;(repeat first|clear hS|clear hw|revert hc|revert zn|revert zA|revert R|revert K);refine W (J1 @bF) (J2 @AW.aa @ah.eq_1) (J1 ?_)<;>unhygienic intros
 refine bu 3 ?_
 revert hS hw;(repeat first|clear hS|clear hw|revert hc|revert zn|revert zA|revert R|revert K);refine W (J1 @bF) (J2 @AW.aa @ah.eq_1) (J1 ?_)<;>unhygienic intros
 refine bu 3 ?_
 revert hS hw;(repeat first|clear hS|clear hw|revert hc|revert zn|revert zA|revert R|revert K);refine W (J1 @bF) (J2 @AW.aa @ah.eq_1) (J1 ?_)<;>unhygienic intros
 refine bu 3 ?_
 revert hS hw;(repeat first|clear hS|clear hw|revert hc|revert zn|revert zA|revert R|revert K);refine W (J1 @bF) (J2 @AW.aa @ah.eq_1) (J1 ?_)<;>unhygienic intros
 refine⟨_,by first|(simp;done)|(simp;rfl),.slice (some ⟨A.next+1,0,none⟩) 4 4,.slice (some ⟨A.next+1+1,0,none⟩) 1 1,rfl,?_⟩
 apply ak.bS
 · apply ak.kB (k:=.u64) (b:=A.next+1) (eH 1 0) 4
   · apply ak.kB (k:=.u64) (b:=A.next+1+1) (eQ 1 0) 1
     · repeat' (first|exact hS|exact Nat.le_refl _|with_reducible apply ak.ez|with_reducible apply ak.nv|with_reducible apply AW.jm|with_reducible apply AW.nd|with_reducible apply ap.z|with_reducible apply ap.s|assumption|apply AW.Wf.alloc|apply AW.Wf.set|(simp only [AW.bq,AW.gW];omega)|exact rfl)
     · repeat' (first|exact ap.z|apply ap.s)
     · rfl
   · repeat' (first|exact ap.z|apply ap.s)
   · rfl
 · repeat' (first|apply aD.z|apply aD.s|apply ap.z|apply ap.s)
set_option maxRecDepth 20000 in
set_option maxHeartbeats 4000000 in
theorem Lc (aQ an base reads bN ai av ax:Int) (aK:Bool) (ok:b9 ⟨aQ,an,base,1,1,0,0,reads,bN,ai,av,ax,aK⟩) (A:AW) (F:HP) (hw:A.Wf) (hS:ak A [.h F]) :
 aC Tryz.prog 92 [(bC.mk aQ an base 1 1 0 0 reads bN ai av ax aK).v] A (fun v A'=>∃vh vn,v=.tuple #[vh,vn]∧ak A' [.h (au .u64 vh (eH 1 1)),.h (au .u64 vn (eQ 1 1)),.h F]):=by
 have hb:=ge _ ok
 refine ab Tryz.func92 rfl (by kernel_rfl) fun _=>?_
 dsimp only [bC.nb,bC.v] at hb ⊢
 simp only [Int.add_zero,Int.zero_add,Int.reduceAdd] at hb
 revert hS hw;refine W (J1 @hb) (J2 @AW.aa @ah.eq_1) (J1 ?_)<;>unhygienic intros
 refine bu 5 ?_
 revert hS hw;(repeat first|clear hS|clear hw|revert hc|revert zn|revert zA|revert R|revert K);refine W (J1 @bF) (J2 @AW.aa @ah.eq_1) (J1 ?_)<;>unhygienic intros
 refine bu 3 ?_
 revert hS hw;(repeat first|clear hS|clear hw|revert hc|revert zn|revert zA|revert R|revert K);refine W (J1 @bF) (J2 @AW.aa @ah.eq_1) (J1 ?_)<;>unhygienic intros
 refine bu 3 ?_
 revert hS hw;(repeat first|clear hS|clear hw|revert hc|revert zn|revert zA|revert R|revert K);refine W (J1 @bF) (J2 @AW.aa @ah.eq_1) (J1 ?_)<;>unhygienic intros
 refine bu 3 ?_
 revert hS hw;(repeat first|clear hS|clear hw|revert hc|revert zn|revert zA|revert R|revert K);refine W (J1 @bF) (J2 @AW.aa @ah.eq_1) (J1 ?_)<;>unhygienic intros
 refine bu 3 ?_
 revert hS hw;(repeat first|clear hS|clear hw|revert hc|revert zn|revert zA|revert R|revert K);refine W (J1 @bF) (J2 @AW.aa @ah.eq_1) (J1 ?_)<;>unhygienic intros
 refine⟨_,by first|(simp;done)|(simp;rfl),.slice (some ⟨A.next+1,0,none⟩) 4 4,.slice (some ⟨A.next+1+1,0,none⟩) 2 2,rfl,?_⟩
 apply ak.bS
 · apply ak.kB (k:=.u64) (b:=A.next+1) (eH 1 1) 4
   · apply ak.kB (k:=.u64) (b:=A.next+1+1) (eQ 1 1) 2
     · repeat' (first|exact hS|exact Nat.le_refl _|with_reducible apply ak.ez|with_reducible apply ak.nv|with_reducible apply AW.jm|with_reducible apply AW.nd|with_reducible apply ap.z|with_reducible apply ap.s|assumption|apply AW.Wf.alloc|apply AW.Wf.set|(simp only [AW.bq,AW.gW];omega)|exact rfl)
     · repeat' (first|exact ap.z|apply ap.s)
     · rfl
   · repeat' (first|exact ap.z|apply ap.s)
   · rfl
 · repeat' (first|apply aD.z|apply aD.s|apply ap.z|apply ap.s)
set_option maxRecDepth 20000 in
set_option maxHeartbeats 4000000 in
theorem Lb (aQ an base reads bN ai av ax:Int) (aK:Bool) (ok:b9 ⟨aQ,an,base,1,2,0,0,reads,bN,ai,av,ax,aK⟩) (A:AW) (F:HP) (hw:A.Wf) (hS:ak A [.h F]) :
 aC Tryz.prog 92 [(bC.mk aQ an base 1 2 0 0 reads bN ai av ax aK).v] A (fun v A'=>∃vh vn,v=.tuple #[vh,vn]∧ak A' [.h (au .u64 vh (eH 1 2)),.h (au .u64 vn (eQ 1 2)),.h F]):=by
 have hb:=ge _ ok
 refine ab Tryz.func92 rfl (by kernel_rfl) fun _=>?_
 dsimp only [bC.nb,bC.v] at hb ⊢
 simp only [Int.add_zero,Int.zero_add,Int.reduceAdd] at hb
 revert hS hw;refine W (J1 @hb) (J2 @AW.aa @ah.eq_1) (J1 ?_)<;>unhygienic intros
 refine bu 5 ?_
 revert hS hw;(repeat first|clear hS|clear hw|revert hc|revert zn|revert zA|revert R|revert K);refine W (J1 @bF) (J2 @AW.aa @ah.eq_1) (J1 ?_)<;>unhygienic intros
 refine bu 3 ?_
 revert hS hw;(repeat first|clear hS|clear hw|revert hc|revert zn|revert zA|revert R|revert K);refine W (J1 @bF) (J2 @AW.aa @ah.eq_1) (J1 ?_)<;>unhygienic intros
 refine bu 3 ?_
 revert hS hw;(repeat first|clear hS|clear hw|revert hc|revert zn|revert zA|revert R|revert K);refine W (J1 @bF) (J2 @AW.aa @ah.eq_1) (J1 ?_)<;>unhygienic intros
 refine bu 3 ?_
 revert hS hw;(repeat first|clear hS|clear hw|revert hc|revert zn|revert zA|revert R|revert K);refine W (J1 @bF) (J2 @AW.aa @ah.eq_1) (J1 ?_)<;>unhygienic intros
 refine bu 3 ?_
 revert hS hw;(repeat first|clear hS|clear hw|revert hc|revert zn|revert zA|revert R|revert K);refine W (J1 @bF) (J2 @AW.aa @ah.eq_1) (J1 ?_)<;>unhygienic intros
 refine⟨_,by first|(simp;done)|(simp;rfl),.slice (some ⟨A.next+1,0,none⟩) 4 4,.slice (some ⟨A.next+1+1,0,none⟩) 3 3,rfl,?_⟩
 apply ak.bS
 · apply ak.kB (k:=.u64) (b:=A.next+1) (eH 1 2) 4
   · apply ak.kB (k:=.u64) (b:=A.next+1+1) (eQ 1 2) 3
     · repeat' (first|exact hS|exact Nat.le_refl _|with_reducible apply ak.ez|with_reducible apply ak.nv|with_reducible apply AW.jm|with_reducible apply AW.nd|with_reducible apply ap.z|with_reducible apply ap.s|assumption|apply AW.Wf.alloc|apply AW.Wf.set|(simp only [AW.bq,AW.gW];omega)|exact rfl)
     · repeat' (first|exact ap.z|apply ap.s)
     · rfl
   · repeat' (first|exact ap.z|apply ap.s)
   · rfl
 · repeat' (first|apply aD.z|apply aD.s|apply ap.z|apply ap.s)
set_option maxRecDepth 20000 in
set_option maxHeartbeats 4000000 in
theorem La (aQ an base reads bN ai av ax:Int) (aK:Bool) (ok:b9 ⟨aQ,an,base,2,0,0,0,reads,bN,ai,av,ax,aK⟩) (A:AW) (F:HP) (hw:A.Wf) (hS:ak A [.h F]) :
 aC Tryz.prog 92 [(bC.mk aQ an base 2 0 0 0 reads bN ai av ax aK).v] A (fun v A'=>∃vh vn,v=.tuple #[vh,vn]∧ak A' [.h (au .u64 vh (eH 2 0)),.h (au .u64 vn (eQ 2 0)),.h F]):=by
 have hb:=ge _ ok
 refine ab Tryz.func92 rfl (by kernel_rfl) fun _=>?_
 dsimp only [bC.nb,bC.v] at hb ⊢
 simp only [Int.add_zero,Int.zero_add,Int.reduceAdd] at hb
 revert hS hw;refine W (J1 @hb) (J2 @AW.aa @ah.eq_1) (J1 ?_)<;>unhygienic intros
 refine bu 5 ?_
 revert hS hw;(repeat first|clear hS|clear hw|revert hc|revert zn|revert zA|revert R|revert K);refine W (J1 @bF) (J2 @AW.aa @ah.eq_1) (J1 ?_)<;>unhygienic intros
 refine bu 3 ?_
 revert hS hw;(repeat first|clear hS|clear hw|revert hc|revert zn|revert zA|revert R|revert K);refine W (J1 @bF) (J2 @AW.aa @ah.eq_1) (J1 ?_)<;>unhygienic intros
 refine bu 3 ?_
 revert hS hw;(repeat first|clear hS|clear hw|revert hc|revert zn|revert zA|revert R|revert K);refine W (J1 @bF) (J2 @AW.aa @ah.eq_1) (J1 ?_)<;>unhygienic intros
 refine bu 3 ?_
 revert hS hw;(repeat first|clear hS|clear hw|revert hc|revert zn|revert zA|revert R|revert K);refine W (J1 @bF) (J2 @AW.aa @ah.eq_1) (J1 ?_)<;>unhygienic intros
 refine bu 3 ?_
 revert hS hw;(repeat first|clear hS|clear hw|revert hc|revert zn|revert zA|revert R|revert K);refine W (J1 @bF) (J2 @AW.aa @ah.eq_1) (J1 ?_)<;>unhygienic intros
 refine⟨_,by first|(simp;done)|(simp;rfl),.slice (some ⟨A.next+1,0,none⟩) 4 4,.slice (some ⟨A.next+1+1,0,none⟩) 2 2,rfl,?_⟩
 apply ak.bS
 · apply ak.kB (k:=.u64) (b:=A.next+1) (eH 2 0) 4
   · apply ak.kB (k:=.u64) (b:=A.next+1+1) (eQ 2 0) 2
     · repeat' (first|exact hS|exact Nat.le_refl _|with_reducible apply ak.ez|with_reducible apply ak.nv|with_reducible apply AW.jm|with_reducible apply AW.nd|with_reducible apply ap.z|with_reducible apply ap.s|assumption|apply AW.Wf.alloc|apply AW.Wf.set|(simp only [AW.bq,AW.gW];omega)|exact rfl)
     · repeat' (first|exact ap.z|apply ap.s)
     · rfl
   · repeat' (first|exact ap.z|apply ap.s)
   · rfl
 · repeat' (first|apply aD.z|apply aD.s|apply ap.z|apply ap.s)
set_option maxRecDepth 20000 in
set_option maxHeartbeats 4000000 in
theorem K9 (aQ an base reads bN ai av ax:Int) (aK:Bool) (ok:b9 ⟨aQ,an,base,2,1,0,0,reads,bN,ai,av,ax,aK⟩) (A:AW) (F:HP) (hw:A.Wf) (hS:ak A [.h F]) :
 aC Tryz.prog 92 [(bC.mk aQ an base 2 1 0 0 reads bN ai av ax aK).v] A (fun v A'=>∃vh vn,v=.tuple #[vh,vn]∧ak A' [.h (au .u64 vh (eH 2 1)),.h (au .u64 vn (eQ 2 1)),.h F]):=by
 have hb:=ge _ ok
 refine ab Tryz.func92 rfl (by kernel_rfl) fun _=>?_
 dsimp only [bC.nb,bC.v] at hb ⊢
 simp only [Int.add_zero,Int.zero_add,Int.reduceAdd] at hb
 revert hS hw;refine W (J1 @hb) (J2 @AW.aa @ah.eq_1) (J1 ?_)<;>unhygienic intros
 refine bu 5 ?_
 revert hS hw;(repeat first|clear hS|clear hw|revert hc|revert zn|revert zA|revert R|revert K);refine W (J1 @bF) (J2 @AW.aa @ah.eq_1) (J1 ?_)<;>unhygienic intros
 refine bu 3 ?_
 revert hS hw;(repeat first|clear hS|clear hw|revert hc|revert zn|revert zA|revert R|revert K);refine W (J1 @bF) (J2 @AW.aa @ah.eq_1) (J1 ?_)<;>unhygienic intros
 refine bu 3 ?_
 revert hS hw;(repeat first|clear hS|clear hw|revert hc|revert zn|revert zA|revert R|revert K);refine W (J1 @bF) (J2 @AW.aa @ah.eq_1) (J1 ?_)<;>unhygienic intros
 refine bu 3 ?_
 revert hS hw;(repeat first|clear hS|clear hw|revert hc|revert zn|revert zA|revert R|revert K);refine W (J1 @bF) (J2 @AW.aa @ah.eq_1) (J1 ?_)<;>unhygienic intros
 refine bu 3 ?_
 revert hS hw;(repeat first|clear hS|clear hw|revert hc|revert zn|revert zA|revert R|revert K);refine W (J1 @bF) (J2 @AW.aa @ah.eq_1) (J1 ?_)<;>unhygienic intros
 refine⟨_,by first|(simp;done)|(simp;rfl),.slice (some ⟨A.next+1,0,none⟩) 4 4,.slice (some ⟨A.next+1+1,0,none⟩) 3 3,rfl,?_⟩
 apply ak.bS
 · apply ak.kB (k:=.u64) (b:=A.next+1) (eH 2 1) 4
   · apply ak.kB (k:=.u64) (b:=A.next+1+1) (eQ 2 1) 3
     · repeat' (first|exact hS|exact Nat.le_refl _|with_reducible apply ak.ez|with_reducible apply ak.nv|with_reducible apply AW.jm|with_reducible apply AW.nd|with_reducible apply ap.z|with_reducible apply ap.s|assumption|apply AW.Wf.alloc|apply AW.Wf.set|(simp only [AW.bq,AW.gW];omega)|exact rfl)
     · repeat' (first|exact ap.z|apply ap.s)
     · rfl
   · repeat' (first|exact ap.z|apply ap.s)
   · rfl
 · repeat' (first|apply aD.z|apply aD.s|apply ap.z|apply ap.s)
set_option maxRecDepth 20000 in
set_option maxHeartbeats 4000000 in
theorem K8 (aQ an base reads bN ai av ax:Int) (aK:Bool) (ok:b9 ⟨aQ,an,base,2,2,0,0,reads,bN,ai,av,ax,aK⟩) (A:AW) (F:HP) (hw:A.Wf) (hS:ak A [.h F]) :
 aC Tryz.prog 92 [(bC.mk aQ an base 2 2 0 0 reads bN ai av ax aK).v] A (fun v A'=>∃vh vn,v=.tuple #[vh,vn]∧ak A' [.h (au .u64 vh (eH 2 2)),.h (au .u64 vn (eQ 2 2)),.h F]):=by
 have hb:=ge _ ok
 refine ab Tryz.func92 rfl (by kernel_rfl) fun _=>?_
 dsimp only [bC.nb,bC.v] at hb ⊢
 simp only [Int.add_zero,Int.zero_add,Int.reduceAdd] at hb
 revert hS hw;refine W (J1 @hb) (J2 @AW.aa @ah.eq_1) (J1 ?_)<;>unhygienic intros
 refine bu 5 ?_
 revert hS hw;(repeat first|clear hS|clear hw|revert hc|revert zn|revert zA|revert R|revert K);refine W (J1 @bF) (J2 @AW.aa @ah.eq_1) (J1 ?_)<;>unhygienic intros
 refine bu 3 ?_
 revert hS hw;(repeat first|clear hS|clear hw|revert hc|revert zn|revert zA|revert R|revert K);refine W (J1 @bF) (J2 @AW.aa @ah.eq_1) (J1 ?_)<;>unhygienic intros
 refine bu 3 ?_
 revert hS hw;(repeat first|clear hS|clear hw|revert hc|revert zn|revert zA|revert R|revert K);refine W (J1 @bF) (J2 @AW.aa @ah.eq_1) (J1 ?_)<;>unhygienic intros
 refine bu 3 ?_
 revert hS hw;(repeat first|clear hS|clear hw|revert hc|revert zn|revert zA|revert R|revert K);refine W (J1 @bF) (J2 @AW.aa @ah.eq_1) (J1 ?_)<;>unhygienic intros
 refine bu 3 ?_
 revert hS hw;(repeat first|clear hS|clear hw|revert hc|revert zn|revert zA|revert R|revert K);refine W (J1 @bF) (J2 @AW.aa @ah.eq_1) (J1 ?_)<;>unhygienic intros
 refine⟨_,by first|(simp;done)|(simp;rfl),.slice (some ⟨A.next+1,0,none⟩) 4 4,.slice (some ⟨A.next+1+1,0,none⟩) 4 4,rfl,?_⟩
 apply ak.bS
 · apply ak.kB (k:=.u64) (b:=A.next+1) (eH 2 2) 4
   · apply ak.kB (k:=.u64) (b:=A.next+1+1) (eQ 2 2) 4
     · repeat' (first|exact hS|exact Nat.le_refl _|with_reducible apply ak.ez|with_reducible apply ak.nv|with_reducible apply AW.jm|with_reducible apply AW.nd|with_reducible apply ap.z|with_reducible apply ap.s|assumption|apply AW.Wf.alloc|apply AW.Wf.set|(simp only [AW.bq,AW.gW];omega)|exact rfl)
     · repeat' (first|exact ap.z|apply ap.s)
     · rfl
   · repeat' (first|exact ap.z|apply ap.s)
   · rfl
 · repeat' (first|apply aD.z|apply aD.s|apply ap.z|apply ap.s)
theorem Gw (c:bC) (hc:nB c) (A:AW) (F:HP) (hw:A.Wf) (hS:ak A [.h F]) :
 aC Tryz.prog 92 [c.v] A (fun v A'=>∃vh vn,v=.tuple #[vh,vn]∧ak A' [.h (au .u64 vh (eH c.c0 c.c1)),.h (au .u64 vn (eQ c.c0 c.c1)),.h F]):=by
 obtain⟨aQ,an,base,n0,n1,n2,n3,reads,bN,ai,av,ax,aK⟩:=c
 obtain⟨ok,h0,h1,h2,h3⟩:=hc
 dsimp only at h0 h1 h2 h3 ⊢
 subst h2 h3
 rcases h0 with rfl|rfl|rfl<;>rcases h1 with rfl|rfl|rfl
 · exact Lg _ _ _ _ _ _ _ _ _ ok A F hw hS
 · exact Lf _ _ _ _ _ _ _ _ _ ok A F hw hS
 · exact Le _ _ _ _ _ _ _ _ _ ok A F hw hS
 · exact Ld _ _ _ _ _ _ _ _ _ ok A F hw hS
 · exact Lc _ _ _ _ _ _ _ _ _ ok A F hw hS
 · exact Lb _ _ _ _ _ _ _ _ _ ok A F hw hS
 · exact La _ _ _ _ _ _ _ _ _ ok A F hw hS
 · exact K9 _ _ _ _ _ _ _ _ _ ok A F hw hS
 · exact K8 _ _ _ _ _ _ _ _ _ ok A F hw hS
end
end Go.Stx
