/-
 The program's cells: the lists of blocks of a made configuration.
-/
import Derived.Test.YtncmjklabcoeaaaGreatD32
set_option linter.unusedVariables false
set_option linter.unusedSimpArgs false
set_option maxRecDepth 20000
set_option maxHeartbeats 4000000
namespace Go.Stx
open Go Go.Proofs
attribute [local irreducible] fj cm aH bB dK ei
open T0
structure rj (c:bG):Prop where
 ok:dt c
 c0:c.c0=0∨c.c0=1∨c.c0=2
 c1:c.c1=0∨c.c1=1∨c.c1=2
 c2:c.c2=0
 c3:c.c3=0
theorem If.YA {c:bG} (h:If c):rj c:=by
 have h1:=h.ok.k0
 have h2:=h.ok.k1
 have h3:=h.c0
 have h4:=h.c1
 exact⟨h.ok,by omega,by omega,h.c2,h.c3⟩
def fp (n0 n1:Int):List Int:=[mK 0 (if 0<n0 then 0 else -1),mK 0 (if 0<n1 then n0 else -1),mK 0 (-1),mK 0 (-1)]
def fD (n0 n1:Int):List Int:=(if n0=2 then [2,0] else if n0=1 then [0] else [])++(if n1=2 then [n0+2,0] else if n1=1 then [0] else [])
theorem an.lh {A:AW} {L K:List It} {b:Nat} {k:IntKind} (l:List Int) (n:Nat) (h:an A L) (hp:ay L (.at b (.cells (l.map (.int k)) true 1)) K) (hn:n=l.length):an A (.h (ar k (.slice (some ⟨b,0,none⟩) n n) l)::K):=by
 subst hn
 unfold an at h
 rw [hp.bn] at h
 exact ar.mk rfl (Nat.le_refl _) (by simp) (by rw [List.drop_zero,List.take_of_length_le (by simp)]) h
theorem Lj (aF aj base ah bX ac ap ao:Int) (cT:Bool) (ok:dt ⟨aF,aj,base,0,0,0,0,ah,bX,ac,ap,ao,cT⟩) (A:AW) (F:HP) (hw:A.Wf) (hS:an A [.h F]) :
 aH Tryz.prog 121 [(bG.mk aF aj base 0 0 0 0 ah bX ac ap ao cT).v] A (fun v A'=>∃vh vn,v=.tuple #[vh,vn]∧an A' [.h (ar .u64 vh (fp 0 0)),.h (ar .u64 vn (fD 0 0)),.h F]):=by
 have hb:=gU _ ok
 refine ab Tryz.func121 rfl (by kernel_rfl) fun _=>?_
 dsimp only [bG.nb,bG.v] at hb ⊢
 simp only [Int.add_zero,Int.zero_add,Int.reduceAdd] at hb
 revert hS hw;refine W (J1 @hb) (J2 @AW.aa @af.eq_1) (J1 ?_)<;>unhygienic intros
 refine bZ 5 ?_
 revert hS hw;(repeat first|clear hS|clear hw|revert hc|revert zn|revert zA|revert R|revert K);refine W (J1 @cu) (J2 @AW.aa @af.eq_1) (J1 ?_)<;>unhygienic intros
 refine bZ 3 ?_
 revert hS hw;(repeat first|clear hS|clear hw|revert hc|revert zn|revert zA|revert R|revert K);refine W (J1 @cu) (J2 @AW.aa @af.eq_1) (J1 ?_)<;>unhygienic intros
 refine bZ 3 ?_
 revert hS hw;(repeat first|clear hS|clear hw|revert hc|revert zn|revert zA|revert R|revert K);refine W (J1 @cu) (J2 @AW.aa @af.eq_1) (J1 ?_)<;>unhygienic intros
 refine bZ 3 ?_
 revert hS hw;(repeat first|clear hS|clear hw|revert hc|revert zn|revert zA|revert R|revert K);refine W (J1 @cu) (J2 @AW.aa @af.eq_1) (J1 ?_)<;>unhygienic intros
 refine bZ 3 ?_
 revert hS hw;(repeat first|clear hS|clear hw|revert hc|revert zn|revert zA|revert R|revert K);refine W (J1 @cu) (J2 @AW.aa @af.eq_1) (J1 ?_)<;>unhygienic intros
 refine⟨_,by first|(simp;done)|(simp;rfl),.slice (some ⟨A.next+1,0,none⟩) 4 4,.slice (some ⟨A.next+1+1,0,none⟩) 0 0,rfl,?_⟩
 apply an.cC
 · apply an.lh (k:=.u64) (b:=A.next+1) (fp 0 0) 4
   · apply an.lh (k:=.u64) (b:=A.next+1+1) (fD 0 0) 0
     · repeat' (first|exact hS|exact Nat.le_refl _|with_reducible apply an.jd|with_reducible apply an.jZ|with_reducible apply AW.gE|with_reducible apply AW.jU|with_reducible apply ay.z|with_reducible apply ay.s|assumption|apply AW.Wf.alloc|apply AW.Wf.set|(simp only [AW.aZ,AW.dq];omega)|exact rfl)
     · repeat' (first|exact ay.z|apply ay.s)
     · rfl
   · repeat' (first|exact ay.z|apply ay.s)
   · rfl
 · repeat' (first|apply aX.z|apply aX.s|apply ay.z|apply ay.s)
theorem Li (aF aj base ah bX ac ap ao:Int) (cT:Bool) (ok:dt ⟨aF,aj,base,0,1,0,0,ah,bX,ac,ap,ao,cT⟩) (A:AW) (F:HP) (hw:A.Wf) (hS:an A [.h F]) :
 aH Tryz.prog 121 [(bG.mk aF aj base 0 1 0 0 ah bX ac ap ao cT).v] A (fun v A'=>∃vh vn,v=.tuple #[vh,vn]∧an A' [.h (ar .u64 vh (fp 0 1)),.h (ar .u64 vn (fD 0 1)),.h F]):=by
 have hb:=gU _ ok
 refine ab Tryz.func121 rfl (by kernel_rfl) fun _=>?_
 dsimp only [bG.nb,bG.v] at hb ⊢
 simp only [Int.add_zero,Int.zero_add,Int.reduceAdd] at hb
 revert hS hw;refine W (J1 @hb) (J2 @AW.aa @af.eq_1) (J1 ?_)<;>unhygienic intros
 refine bZ 5 ?_
 revert hS hw;(repeat first|clear hS|clear hw|revert hc|revert zn|revert zA|revert R|revert K);refine W (J1 @cu) (J2 @AW.aa @af.eq_1) (J1 ?_)<;>unhygienic intros
 refine bZ 3 ?_
 revert hS hw;(repeat first|clear hS|clear hw|revert hc|revert zn|revert zA|revert R|revert K);refine W (J1 @cu) (J2 @AW.aa @af.eq_1) (J1 ?_)<;>unhygienic intros
 refine bZ 3 ?_
 revert hS hw;(repeat first|clear hS|clear hw|revert hc|revert zn|revert zA|revert R|revert K);refine W (J1 @cu) (J2 @AW.aa @af.eq_1) (J1 ?_)<;>unhygienic intros
 refine bZ 3 ?_
 revert hS hw;(repeat first|clear hS|clear hw|revert hc|revert zn|revert zA|revert R|revert K);refine W (J1 @cu) (J2 @AW.aa @af.eq_1) (J1 ?_)<;>unhygienic intros
 refine bZ 3 ?_
 revert hS hw;(repeat first|clear hS|clear hw|revert hc|revert zn|revert zA|revert R|revert K);refine W (J1 @cu) (J2 @AW.aa @af.eq_1) (J1 ?_)<;>unhygienic intros
 refine⟨_,by first|(simp;done)|(simp;rfl),.slice (some ⟨A.next+1,0,none⟩) 4 4,.slice (some ⟨A.next+1+1,0,none⟩) 1 1,rfl,?_⟩
 apply an.cC
 · apply an.lh (k:=.u64) (b:=A.next+1) (fp 0 1) 4
   · apply an.lh (k:=.u64) (b:=A.next+1+1) (fD 0 1) 1
     · repeat' (first|exact hS|exact Nat.le_refl _|with_reducible apply an.jd|with_reducible apply an.jZ|with_reducible apply AW.gE|with_reducible apply AW.jU|with_reducible apply ay.z|with_reducible apply ay.s|assumption|apply AW.Wf.alloc|apply AW.Wf.set|(simp only [AW.aZ,AW.dq];omega)|exact rfl)
     · repeat' (first|exact ay.z|apply ay.s)
     · rfl
   · repeat' (first|exact ay.z|apply ay.s)
   · rfl
 · repeat' (first|apply aX.z|apply aX.s|apply ay.z|apply ay.s)
theorem Lh (aF aj base ah bX ac ap ao:Int) (cT:Bool) (ok:dt ⟨aF,aj,base,0,2,0,0,ah,bX,ac,ap,ao,cT⟩) (A:AW) (F:HP) (hw:A.Wf) (hS:an A [.h F]) :
 aH Tryz.prog 121 [(bG.mk aF aj base 0 2 0 0 ah bX ac ap ao cT).v] A (fun v A'=>∃vh vn,v=.tuple #[vh,vn]∧an A' [.h (ar .u64 vh (fp 0 2)),.h (ar .u64 vn (fD 0 2)),.h F]):=by
 have hb:=gU _ ok
 refine ab Tryz.func121 rfl (by kernel_rfl) fun _=>?_
 dsimp only [bG.nb,bG.v] at hb ⊢
 simp only [Int.add_zero,Int.zero_add,Int.reduceAdd] at hb
 revert hS hw;refine W (J1 @hb) (J2 @AW.aa @af.eq_1) (J1 ?_)<;>unhygienic intros
 refine bZ 5 ?_
 revert hS hw;(repeat first|clear hS|clear hw|revert hc|revert zn|revert zA|revert R|revert K);refine W (J1 @cu) (J2 @AW.aa @af.eq_1) (J1 ?_)<;>unhygienic intros
 refine bZ 3 ?_
 revert hS hw;(repeat first|clear hS|clear hw|revert hc|revert zn|revert zA|revert R|revert K);refine W (J1 @cu) (J2 @AW.aa @af.eq_1) (J1 ?_)<;>unhygienic intros
 refine bZ 3 ?_
 revert hS hw;(repeat first|clear hS|clear hw|revert hc|revert zn|revert zA|revert R|revert K);refine W (J1 @cu) (J2 @AW.aa @af.eq_1) (J1 ?_)<;>unhygienic intros
 refine bZ 3 ?_
 revert hS hw;(repeat first|clear hS|clear hw|revert hc|revert zn|revert zA|revert R|revert K);refine W (J1 @cu) (J2 @AW.aa @af.eq_1) (J1 ?_)<;>unhygienic intros
 refine bZ 3 ?_
 revert hS hw;(repeat first|clear hS|clear hw|revert hc|revert zn|revert zA|revert R|revert K);refine W (J1 @cu) (J2 @AW.aa @af.eq_1) (J1 ?_)<;>unhygienic intros
 refine⟨_,by first|(simp;done)|(simp;rfl),.slice (some ⟨A.next+1,0,none⟩) 4 4,.slice (some ⟨A.next+1+1,0,none⟩) 2 2,rfl,?_⟩
 apply an.cC
 · apply an.lh (k:=.u64) (b:=A.next+1) (fp 0 2) 4
   · apply an.lh (k:=.u64) (b:=A.next+1+1) (fD 0 2) 2
     · repeat' (first|exact hS|exact Nat.le_refl _|with_reducible apply an.jd|with_reducible apply an.jZ|with_reducible apply AW.gE|with_reducible apply AW.jU|with_reducible apply ay.z|with_reducible apply ay.s|assumption|apply AW.Wf.alloc|apply AW.Wf.set|(simp only [AW.aZ,AW.dq];omega)|exact rfl)
     · repeat' (first|exact ay.z|apply ay.s)
     · rfl
   · repeat' (first|exact ay.z|apply ay.s)
   · rfl
 · repeat' (first|apply aX.z|apply aX.s|apply ay.z|apply ay.s)
theorem Lg (aF aj base ah bX ac ap ao:Int) (cT:Bool) (ok:dt ⟨aF,aj,base,1,0,0,0,ah,bX,ac,ap,ao,cT⟩) (A:AW) (F:HP) (hw:A.Wf) (hS:an A [.h F]) :
 aH Tryz.prog 121 [(bG.mk aF aj base 1 0 0 0 ah bX ac ap ao cT).v] A (fun v A'=>∃vh vn,v=.tuple #[vh,vn]∧an A' [.h (ar .u64 vh (fp 1 0)),.h (ar .u64 vn (fD 1 0)),.h F]):=by
 have hb:=gU _ ok
 refine ab Tryz.func121 rfl (by kernel_rfl) fun _=>?_
 dsimp only [bG.nb,bG.v] at hb ⊢
 simp only [Int.add_zero,Int.zero_add,Int.reduceAdd] at hb
 revert hS hw;refine W (J1 @hb) (J2 @AW.aa @af.eq_1) (J1 ?_)<;>unhygienic intros
 refine bZ 5 ?_
 revert hS hw;(repeat first|clear hS|clear hw|revert hc|revert zn|revert zA|revert R|revert K);refine W (J1 @cu) (J2 @AW.aa @af.eq_1) (J1 ?_)<;>unhygienic intros
 refine bZ 3 ?_
 revert hS hw;(repeat first|clear hS|clear hw|revert hc|revert zn|revert zA|revert R|revert K);refine W (J1 @cu) (J2 @AW.aa @af.eq_1) (J1 ?_)<;>unhygienic intros
 refine bZ 3 ?_
 revert hS hw;(repeat first|clear hS|clear hw|revert hc|revert zn|revert zA|revert R|revert K);refine W (J1 @cu) (J2 @AW.aa @af.eq_1) (J1 ?_)<;>unhygienic intros
 refine bZ 3 ?_
 revert hS hw;(repeat first|clear hS|clear hw|revert hc|revert zn|revert zA|revert R|revert K);refine W (J1 @cu) (J2 @AW.aa @af.eq_1) (J1 ?_)<;>unhygienic intros
 refine bZ 3 ?_
 revert hS hw;(repeat first|clear hS|clear hw|revert hc|revert zn|revert zA|revert R|revert K);refine W (J1 @cu) (J2 @AW.aa @af.eq_1) (J1 ?_)<;>unhygienic intros
 refine⟨_,by first|(simp;done)|(simp;rfl),.slice (some ⟨A.next+1,0,none⟩) 4 4,.slice (some ⟨A.next+1+1,0,none⟩) 1 1,rfl,?_⟩
 apply an.cC
 · apply an.lh (k:=.u64) (b:=A.next+1) (fp 1 0) 4
   · apply an.lh (k:=.u64) (b:=A.next+1+1) (fD 1 0) 1
     · repeat' (first|exact hS|exact Nat.le_refl _|with_reducible apply an.jd|with_reducible apply an.jZ|with_reducible apply AW.gE|with_reducible apply AW.jU|with_reducible apply ay.z|with_reducible apply ay.s|assumption|apply AW.Wf.alloc|apply AW.Wf.set|(simp only [AW.aZ,AW.dq];omega)|exact rfl)
     · repeat' (first|exact ay.z|apply ay.s)
     · rfl
   · repeat' (first|exact ay.z|apply ay.s)
   · rfl
 · repeat' (first|apply aX.z|apply aX.s|apply ay.z|apply ay.s)
theorem Lf (aF aj base ah bX ac ap ao:Int) (cT:Bool) (ok:dt ⟨aF,aj,base,1,1,0,0,ah,bX,ac,ap,ao,cT⟩) (A:AW) (F:HP) (hw:A.Wf) (hS:an A [.h F]) :
 aH Tryz.prog 121 [(bG.mk aF aj base 1 1 0 0 ah bX ac ap ao cT).v] A (fun v A'=>∃vh vn,v=.tuple #[vh,vn]∧an A' [.h (ar .u64 vh (fp 1 1)),.h (ar .u64 vn (fD 1 1)),.h F]):=by
 have hb:=gU _ ok
 refine ab Tryz.func121 rfl (by kernel_rfl) fun _=>?_
 dsimp only [bG.nb,bG.v] at hb ⊢
 simp only [Int.add_zero,Int.zero_add,Int.reduceAdd] at hb
 revert hS hw;refine W (J1 @hb) (J2 @AW.aa @af.eq_1) (J1 ?_)<;>unhygienic intros
 refine bZ 5 ?_
 revert hS hw;(repeat first|clear hS|clear hw|revert hc|revert zn|revert zA|revert R|revert K);refine W (J1 @cu) (J2 @AW.aa @af.eq_1) (J1 ?_)<;>unhygienic intros
 refine bZ 3 ?_
 revert hS hw;(repeat first|clear hS|clear hw|revert hc|revert zn|revert zA|revert R|revert K);refine W (J1 @cu) (J2 @AW.aa @af.eq_1) (J1 ?_)<;>unhygienic intros
 refine bZ 3 ?_
 revert hS hw;(repeat first|clear hS|clear hw|revert hc|revert zn|revert zA|revert R|revert K);refine W (J1 @cu) (J2 @AW.aa @af.eq_1) (J1 ?_)<;>unhygienic intros
 refine bZ 3 ?_
 revert hS hw;(repeat first|clear hS|clear hw|revert hc|revert zn|revert zA|revert R|revert K);refine W (J1 @cu) (J2 @AW.aa @af.eq_1) (J1 ?_)<;>unhygienic intros
 refine bZ 3 ?_
 revert hS hw;(repeat first|clear hS|clear hw|revert hc|revert zn|revert zA|revert R|revert K);refine W (J1 @cu) (J2 @AW.aa @af.eq_1) (J1 ?_)<;>unhygienic intros
 refine⟨_,by first|(simp;done)|(simp;rfl),.slice (some ⟨A.next+1,0,none⟩) 4 4,.slice (some ⟨A.next+1+1,0,none⟩) 2 2,rfl,?_⟩
 apply an.cC
 · apply an.lh (k:=.u64) (b:=A.next+1) (fp 1 1) 4
   · apply an.lh (k:=.u64) (b:=A.next+1+1) (fD 1 1) 2
     · repeat' (first|exact hS|exact Nat.le_refl _|with_reducible apply an.jd|with_reducible apply an.jZ|with_reducible apply AW.gE|with_reducible apply AW.jU|with_reducible apply ay.z|with_reducible apply ay.s|assumption|apply AW.Wf.alloc|apply AW.Wf.set|(simp only [AW.aZ,AW.dq];omega)|exact rfl)
     · repeat' (first|exact ay.z|apply ay.s)
     · rfl
   · repeat' (first|exact ay.z|apply ay.s)
   · rfl
 · repeat' (first|apply aX.z|apply aX.s|apply ay.z|apply ay.s)
theorem Le (aF aj base ah bX ac ap ao:Int) (cT:Bool) (ok:dt ⟨aF,aj,base,1,2,0,0,ah,bX,ac,ap,ao,cT⟩) (A:AW) (F:HP) (hw:A.Wf) (hS:an A [.h F]) :
 aH Tryz.prog 121 [(bG.mk aF aj base 1 2 0 0 ah bX ac ap ao cT).v] A (fun v A'=>∃vh vn,v=.tuple #[vh,vn]∧an A' [.h (ar .u64 vh (fp 1 2)),.h (ar .u64 vn (fD 1 2)),.h F]):=by
 have hb:=gU _ ok
 refine ab Tryz.func121 rfl (by kernel_rfl) fun _=>?_
 dsimp only [bG.nb,bG.v] at hb ⊢
 simp only [Int.add_zero,Int.zero_add,Int.reduceAdd] at hb
 revert hS hw;refine W (J1 @hb) (J2 @AW.aa @af.eq_1) (J1 ?_)<;>unhygienic intros
 refine bZ 5 ?_
 revert hS hw;(repeat first|clear hS|clear hw|revert hc|revert zn|revert zA|revert R|revert K);refine W (J1 @cu) (J2 @AW.aa @af.eq_1) (J1 ?_)<;>unhygienic intros
 refine bZ 3 ?_
 revert hS hw;(repeat first|clear hS|clear hw|revert hc|revert zn|revert zA|revert R|revert K);refine W (J1 @cu) (J2 @AW.aa @af.eq_1) (J1 ?_)<;>unhygienic intros
 refine bZ 3 ?_
 revert hS hw;(repeat first|clear hS|clear hw|revert hc|revert zn|revert zA|revert R|revert K);refine W (J1 @cu) (J2 @AW.aa @af.eq_1) (J1 ?_)<;>unhygienic intros
 refine bZ 3 ?_
 revert hS hw;(repeat first|clear hS|clear hw|revert hc|revert zn|revert zA|revert R|revert K);refine W (J1 @cu) (J2 @AW.aa @af.eq_1) (J1 ?_)<;>unhygienic intros
 refine bZ 3 ?_
 revert hS hw;(repeat first|clear hS|clear hw|revert hc|revert zn|revert zA|revert R|revert K);refine W (J1 @cu) (J2 @AW.aa @af.eq_1) (J1 ?_)<;>unhygienic intros
 refine⟨_,by first|(simp;done)|(simp;rfl),.slice (some ⟨A.next+1,0,none⟩) 4 4,.slice (some ⟨A.next+1+1,0,none⟩) 3 3,rfl,?_⟩
 apply an.cC
 · apply an.lh (k:=.u64) (b:=A.next+1) (fp 1 2) 4
   · apply an.lh (k:=.u64) (b:=A.next+1+1) (fD 1 2) 3
     · repeat' (first|exact hS|exact Nat.le_refl _|with_reducible apply an.jd|with_reducible apply an.jZ|with_reducible apply AW.gE|with_reducible apply AW.jU|with_reducible apply ay.z|with_reducible apply ay.s|assumption|apply AW.Wf.alloc|apply AW.Wf.set|(simp only [AW.aZ,AW.dq];omega)|exact rfl)
     · repeat' (first|exact ay.z|apply ay.s)
     · rfl
   · repeat' (first|exact ay.z|apply ay.s)
   · rfl
 · repeat' (first|apply aX.z|apply aX.s|apply ay.z|apply ay.s)
theorem Ld (aF aj base ah bX ac ap ao:Int) (cT:Bool) (ok:dt ⟨aF,aj,base,2,0,0,0,ah,bX,ac,ap,ao,cT⟩) (A:AW) (F:HP) (hw:A.Wf) (hS:an A [.h F]) :
 aH Tryz.prog 121 [(bG.mk aF aj base 2 0 0 0 ah bX ac ap ao cT).v] A (fun v A'=>∃vh vn,v=.tuple #[vh,vn]∧an A' [.h (ar .u64 vh (fp 2 0)),.h (ar .u64 vn (fD 2 0)),.h F]):=by
 have hb:=gU _ ok
 refine ab Tryz.func121 rfl (by kernel_rfl) fun _=>?_
 dsimp only [bG.nb,bG.v] at hb ⊢
 simp only [Int.add_zero,Int.zero_add,Int.reduceAdd] at hb
 revert hS hw;refine W (J1 @hb) (J2 @AW.aa @af.eq_1) (J1 ?_)<;>unhygienic intros
 refine bZ 5 ?_
 revert hS hw;(repeat first|clear hS|clear hw|revert hc|revert zn|revert zA|revert R|revert K);refine W (J1 @cu) (J2 @AW.aa @af.eq_1) (J1 ?_)<;>unhygienic intros
 refine bZ 3 ?_
 revert hS hw;(repeat first|clear hS|clear hw|revert hc|revert zn|revert zA|revert R|revert K);refine W (J1 @cu) (J2 @AW.aa @af.eq_1) (J1 ?_)<;>unhygienic intros
 refine bZ 3 ?_
 revert hS hw;(repeat first|clear hS|clear hw|revert hc|revert zn|revert zA|revert R|revert K);refine W (J1 @cu) (J2 @AW.aa @af.eq_1) (J1 ?_)<;>unhygienic intros
 refine bZ 3 ?_
 revert hS hw;(repeat first|clear hS|clear hw|revert hc|revert zn|revert zA|revert R|revert K);refine W (J1 @cu) (J2 @AW.aa @af.eq_1) (J1 ?_)<;>unhygienic intros
 refine bZ 3 ?_
 revert hS hw;(repeat first|clear hS|clear hw|revert hc|revert zn|revert zA|revert R|revert K);refine W (J1 @cu) (J2 @AW.aa @af.eq_1) (J1 ?_)<;>unhygienic intros
 refine⟨_,by first|(simp;done)|(simp;rfl),.slice (some ⟨A.next+1,0,none⟩) 4 4,.slice (some ⟨A.next+1+1,0,none⟩) 2 2,rfl,?_⟩
 apply an.cC
 · apply an.lh (k:=.u64) (b:=A.next+1) (fp 2 0) 4
   · apply an.lh (k:=.u64) (b:=A.next+1+1) (fD 2 0) 2
     · repeat' (first|exact hS|exact Nat.le_refl _|with_reducible apply an.jd|with_reducible apply an.jZ|with_reducible apply AW.gE|with_reducible apply AW.jU|with_reducible apply ay.z|with_reducible apply ay.s|assumption|apply AW.Wf.alloc|apply AW.Wf.set|(simp only [AW.aZ,AW.dq];omega)|exact rfl)
     · repeat' (first|exact ay.z|apply ay.s)
     · rfl
   · repeat' (first|exact ay.z|apply ay.s)
   · rfl
 · repeat' (first|apply aX.z|apply aX.s|apply ay.z|apply ay.s)
theorem Lc (aF aj base ah bX ac ap ao:Int) (cT:Bool) (ok:dt ⟨aF,aj,base,2,1,0,0,ah,bX,ac,ap,ao,cT⟩) (A:AW) (F:HP) (hw:A.Wf) (hS:an A [.h F]) :
 aH Tryz.prog 121 [(bG.mk aF aj base 2 1 0 0 ah bX ac ap ao cT).v] A (fun v A'=>∃vh vn,v=.tuple #[vh,vn]∧an A' [.h (ar .u64 vh (fp 2 1)),.h (ar .u64 vn (fD 2 1)),.h F]):=by
 have hb:=gU _ ok
 refine ab Tryz.func121 rfl (by kernel_rfl) fun _=>?_
 dsimp only [bG.nb,bG.v] at hb ⊢
 simp only [Int.add_zero,Int.zero_add,Int.reduceAdd] at hb
 revert hS hw;refine W (J1 @hb) (J2 @AW.aa @af.eq_1) (J1 ?_)<;>unhygienic intros
 refine bZ 5 ?_
 revert hS hw;(repeat first|clear hS|clear hw|revert hc|revert zn|revert zA|revert R|revert K);refine W (J1 @cu) (J2 @AW.aa @af.eq_1) (J1 ?_)<;>unhygienic intros
 refine bZ 3 ?_
 revert hS hw;(repeat first|clear hS|clear hw|revert hc|revert zn|revert zA|revert R|revert K);refine W (J1 @cu) (J2 @AW.aa @af.eq_1) (J1 ?_)<;>unhygienic intros
 refine bZ 3 ?_
 revert hS hw;(repeat first|clear hS|clear hw|revert hc|revert zn|revert zA|revert R|revert K);refine W (J1 @cu) (J2 @AW.aa @af.eq_1) (J1 ?_)<;>unhygienic intros
 refine bZ 3 ?_
 revert hS hw;(repeat first|clear hS|clear hw|revert hc|revert zn|revert zA|revert R|revert K);refine W (J1 @cu) (J2 @AW.aa @af.eq_1) (J1 ?_)<;>unhygienic intros
 refine bZ 3 ?_
 revert hS hw;(repeat first|clear hS|clear hw|revert hc|revert zn|revert zA|revert R|revert K);refine W (J1 @cu) (J2 @AW.aa @af.eq_1) (J1 ?_)<;>unhygienic intros
 refine⟨_,by first|(simp;done)|(simp;rfl),.slice (some ⟨A.next+1,0,none⟩) 4 4,.slice (some ⟨A.next+1+1,0,none⟩) 3 3,rfl,?_⟩
 apply an.cC
 · apply an.lh (k:=.u64) (b:=A.next+1) (fp 2 1) 4
   · apply an.lh (k:=.u64) (b:=A.next+1+1) (fD 2 1) 3
     · repeat' (first|exact hS|exact Nat.le_refl _|with_reducible apply an.jd|with_reducible apply an.jZ|with_reducible apply AW.gE|with_reducible apply AW.jU|with_reducible apply ay.z|with_reducible apply ay.s|assumption|apply AW.Wf.alloc|apply AW.Wf.set|(simp only [AW.aZ,AW.dq];omega)|exact rfl)
     · repeat' (first|exact ay.z|apply ay.s)
     · rfl
   · repeat' (first|exact ay.z|apply ay.s)
   · rfl
 · repeat' (first|apply aX.z|apply aX.s|apply ay.z|apply ay.s)
theorem Lb (aF aj base ah bX ac ap ao:Int) (cT:Bool) (ok:dt ⟨aF,aj,base,2,2,0,0,ah,bX,ac,ap,ao,cT⟩) (A:AW) (F:HP) (hw:A.Wf) (hS:an A [.h F]) :
 aH Tryz.prog 121 [(bG.mk aF aj base 2 2 0 0 ah bX ac ap ao cT).v] A (fun v A'=>∃vh vn,v=.tuple #[vh,vn]∧an A' [.h (ar .u64 vh (fp 2 2)),.h (ar .u64 vn (fD 2 2)),.h F]):=by
 have hb:=gU _ ok
 refine ab Tryz.func121 rfl (by kernel_rfl) fun _=>?_
 dsimp only [bG.nb,bG.v] at hb ⊢
 simp only [Int.add_zero,Int.zero_add,Int.reduceAdd] at hb
 revert hS hw;refine W (J1 @hb) (J2 @AW.aa @af.eq_1) (J1 ?_)<;>unhygienic intros
 refine bZ 5 ?_
 revert hS hw;(repeat first|clear hS|clear hw|revert hc|revert zn|revert zA|revert R|revert K);refine W (J1 @cu) (J2 @AW.aa @af.eq_1) (J1 ?_)<;>unhygienic intros
 refine bZ 3 ?_
 revert hS hw;(repeat first|clear hS|clear hw|revert hc|revert zn|revert zA|revert R|revert K);refine W (J1 @cu) (J2 @AW.aa @af.eq_1) (J1 ?_)<;>unhygienic intros
 refine bZ 3 ?_
 revert hS hw;(repeat first|clear hS|clear hw|revert hc|revert zn|revert zA|revert R|revert K);refine W (J1 @cu) (J2 @AW.aa @af.eq_1) (J1 ?_)<;>unhygienic intros
 refine bZ 3 ?_
 revert hS hw;(repeat first|clear hS|clear hw|revert hc|revert zn|revert zA|revert R|revert K);refine W (J1 @cu) (J2 @AW.aa @af.eq_1) (J1 ?_)<;>unhygienic intros
 refine bZ 3 ?_
 revert hS hw;(repeat first|clear hS|clear hw|revert hc|revert zn|revert zA|revert R|revert K);refine W (J1 @cu) (J2 @AW.aa @af.eq_1) (J1 ?_)<;>unhygienic intros
 refine⟨_,by first|(simp;done)|(simp;rfl),.slice (some ⟨A.next+1,0,none⟩) 4 4,.slice (some ⟨A.next+1+1,0,none⟩) 4 4,rfl,?_⟩
 apply an.cC
 · apply an.lh (k:=.u64) (b:=A.next+1) (fp 2 2) 4
   · apply an.lh (k:=.u64) (b:=A.next+1+1) (fD 2 2) 4
     · repeat' (first|exact hS|exact Nat.le_refl _|with_reducible apply an.jd|with_reducible apply an.jZ|with_reducible apply AW.gE|with_reducible apply AW.jU|with_reducible apply ay.z|with_reducible apply ay.s|assumption|apply AW.Wf.alloc|apply AW.Wf.set|(simp only [AW.aZ,AW.dq];omega)|exact rfl)
     · repeat' (first|exact ay.z|apply ay.s)
     · rfl
   · repeat' (first|exact ay.z|apply ay.s)
   · rfl
 · repeat' (first|apply aX.z|apply aX.s|apply ay.z|apply ay.s)
theorem HE (c:bG) (hc:rj c) (A:AW) (F:HP) (hw:A.Wf) (hS:an A [.h F]) :
 aH Tryz.prog 121 [c.v] A (fun v A'=>∃vh vn,v=.tuple #[vh,vn]∧an A' [.h (ar .u64 vh (fp c.c0 c.c1)),.h (ar .u64 vn (fD c.c0 c.c1)),.h F]):=by
 obtain⟨aF,aj,base,n0,n1,n2,n3,ah,bX,ac,ap,ao,cT⟩:=c
 obtain⟨ok,h0,h1,h2,h3⟩:=hc
 dsimp only at h0 h1 h2 h3 ⊢
 subst h2 h3
 rcases h0 with rfl|rfl|rfl<;>rcases h1 with rfl|rfl|rfl
 · exact Lj _ _ _ _ _ _ _ _ _ ok A F hw hS
 · exact Li _ _ _ _ _ _ _ _ _ ok A F hw hS
 · exact Lh _ _ _ _ _ _ _ _ _ ok A F hw hS
 · exact Lg _ _ _ _ _ _ _ _ _ ok A F hw hS
 · exact Lf _ _ _ _ _ _ _ _ _ ok A F hw hS
 · exact Le _ _ _ _ _ _ _ _ _ ok A F hw hS
 · exact Ld _ _ _ _ _ _ _ _ _ ok A F hw hS
 · exact Lc _ _ _ _ _ _ _ _ _ ok A F hw hS
 · exact Lb _ _ _ _ _ _ _ _ _ ok A F hw hS
end Go.Stx
