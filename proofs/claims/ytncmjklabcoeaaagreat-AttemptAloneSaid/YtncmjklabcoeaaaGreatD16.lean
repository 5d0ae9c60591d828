/-
 Layout at valid configurations, of the program and of the reference.
-/
import Derived.Test.YtncmjklabcoeaaaGreatD10
set_option linter.unusedVariables false
set_option linter.unusedSimpArgs false
set_option maxRecDepth 20000
set_option maxHeartbeats 4000000
namespace Go.Stx
open Go Go.Proofs
attribute [local irreducible] fj cm aH bB dK ei
abbrev K7:List (Nat×Nat):=[(0,0),(1,0),(2,0),(3,0),(4,0),(5,0),(6,0),(7,0)]
abbrev Pe:List (Nat×Nat):=[(0,0),(1,2),(2,0),(3,0),(4,0),(5,0),(6,0),(7,0),(8,0),(9,0),(10,0),(11,0),(12,2),(13,0),(14,0),(15,0)]
open T0
theorem Oh:(2:Int) ^ min 1 IntKind.i64.bits=2:=by decide
theorem SG:(2:Int) ^ min 2 IntKind.i64.bits=4:=by decide
theorem SF:(2:Int) ^ min 3 IntKind.i64.bits=8:=by decide
theorem Vo:(2:Int) ^ min 0 IntKind.i64.bits=1:=by decide
theorem IT (c:bG) (hc:dt c) (A:AW):aH Tryz.prog 214 [c.v] A (fun v A'=>v=.tuple #[.int .i64 c.nb,.int .i64 c.hw,.bool true]∧A=A'):=by
 refine aH.GT (V:=.tuple #[.int .i64 c.nb,.int .i64 c.hw,.bool true]) (eg.tuple (by simp)) (fun hw=>?_) (by kernel_rfl)
 refine ab Tryz.func214 rfl (by kernel_rfl) fun _=>?_
 obtain⟨k0,F0⟩:=hc.k0
 obtain⟨k1,FZ⟩:=hc.k1
 obtain⟨k2,FY⟩:=hc.k2
 obtain⟨k3,FX⟩:=hc.k3
 have kn:=hc.nb
 have e:c.nb=c.c0+c.c1+c.c2+c.c3:=rfl
 have e':c.hw=c.c0+c.c1*2+c.c2*4+c.c3*8:=rfl
 revert hw hc;refine W trivial (J3 @bG.v.eq_1 @AW.aa @af.eq_1) (J1 ?_)<;>unhygienic intros
 refine bZ 5 ?_
 revert hw;(repeat first|clear hw|revert hc|revert zn|revert zA|revert R|revert K);refine W trivial (MK k0 F0 k1 FZ k2 FY k3 FX @bG.v.eq_1 @AW.aa @af.eq_1) (J1 ?_)<;>unhygienic intros
 all_goals(
  refine⟨_,by first|(simp;done)|(simp;rfl),?_,AW.le.alloc _ _⟩
  simp only [Value.tuple.injEq,Array.mk.injEq,List.cons.injEq,Value.int.injEq,Value.bool.injEq,true_and,and_true]
  rw [Oh,SG,SF]
  simp (disch:=omega) only [ak]
  exact⟨e.symm,e'.symm,by simp;omega⟩)
theorem qN (c:bG) (hc:dt c) (A:AW):aH Tryz.prog 120 [c.v] A (fun v A'=>v=.int .i64 0∧A=A'):=by
 refine aH.GT (V:=.int .i64 0) (by simp) (fun hw=>?_) (by kernel_rfl)
 refine ab Tryz.func120 rfl (by kernel_rfl) fun _=>?_
 obtain⟨w0,w1⟩:=hc.aF
 obtain⟨r0,r1⟩:=hc.aj
 obtain⟨k0,F0⟩:=hc.k0
 obtain⟨k1,FZ⟩:=hc.k1
 obtain⟨k2,FY⟩:=hc.k2
 obtain⟨k3,FX⟩:=hc.k3
 obtain⟨b0,b1⟩:=hc.base
 obtain⟨x0,x1⟩:=hc.ah
 obtain⟨y0,y1⟩:=hc.bX
 obtain⟨z0,z1⟩:=hc.ac
 obtain⟨u0,u1⟩:=hc.ap
 obtain⟨t0,t1⟩:=hc.ao
 have kn:=hc.nb
 have kf:=hc.IX
 have e:c.nb=c.c0+c.c1+c.c2+c.c3:=rfl
 have e':c.hw=c.c0+c.c1*2+c.c2*4+c.c3*8:=rfl
 have hh:=IT c hc
 have lm:c.hw≤c.aF-c.base:=kf
 dsimp only [bG.v] at hh ⊢
 revert hw hc;refine W (J2 @hh @EV) (pw w0 w1 r0 r1 b0 b1 x0 x1 y0 y1 z0 z1 u0 (J6 u1 t0 t1 lm @AW.aa @af.eq_1)) (J1 ?_)<;>unhygienic intros
 all_goals exact⟨_,by first|(simp;done)|(simp;rfl),rfl,AW.le.alloc _ _⟩
theorem gU (c:bG) (hc:dt c) (A:AW):aH Tryz.prog 216 [c.v] A (fun v A'=>v=.int .i64 c.nb∧A=A'):=by
 refine aH.GT (V:=.int .i64 c.nb) (by simp) (fun hw=>?_) (by kernel_rfl)
 refine ab Tryz.func216 rfl (by kernel_rfl) fun _=>?_
 have hh:=IT c hc
 have rr:=qN c hc
 dsimp only [bG.v] at hh rr ⊢
 revert hw hc;refine W (J2 @hh @rr) (J2 @AW.aa @af.eq_1) (J1 ?_)<;>unhygienic intros
 all_goals exact⟨_,by first|(simp;done)|(simp;rfl),rfl,AW.le.alloc _ _⟩
theorem wO (c:bG) (hc:dt c) (b:Int) (hb:b<2^62) (A:AW):aH Tryz.prog 230 [c.v,.int .i64 b] A (fun v A'=>v=.tuple #[.int .i64 (sZ c b).1,.int .i64 (sZ c b).2]∧A=A'):=by
 refine aH.GT (V:=.tuple #[.int .i64 (sZ c b).1,.int .i64 (sZ c b).2]) (eg.tuple (by simp)) (fun hw=>?_) (by kernel_rfl)
 refine ab Tryz.func230 rfl (by kernel_rfl) fun _=>?_
 obtain⟨w0,w1⟩:=hc.aF
 obtain⟨r0,r1⟩:=hc.aj
 obtain⟨k0,F0⟩:=hc.k0
 obtain⟨k1,FZ⟩:=hc.k1
 obtain⟨k2,FY⟩:=hc.k2
 obtain⟨k3,FX⟩:=hc.k3
 obtain⟨b0,b1⟩:=hc.base
 obtain⟨x0,x1⟩:=hc.ah
 obtain⟨y0,y1⟩:=hc.bX
 obtain⟨z0,z1⟩:=hc.ac
 obtain⟨u0,u1⟩:=hc.ap
 obtain⟨t0,t1⟩:=hc.ao
 have kn:=hc.nb
 have kf:=hc.IX
 have e:c.nb=c.c0+c.c1+c.c2+c.c3:=rfl
 have e':c.hw=c.c0+c.c1*2+c.c2*4+c.c3*8:=rfl
 have rr:=qN c hc
 have l0:sZ c b=if b<0 then (-1,-1) else if b<c.c0 then (0,c.base+b) else if b-c.c0<c.c1 then (1,c.base+c.c0+(b-c.c0)*2)
  else if b-c.c0-c.c1<c.c2 then (2,c.base+c.c0+c.c1*2+(b-c.c0-c.c1)*4) else if b-c.c0-c.c1-c.c2<c.c3 then (3,c.base+c.c0+c.c1*2+c.c2*4+(b-c.c0-c.c1-c.c2)*8) else (-1,-1):=rfl
 generalize sZ c b=q at *
 dsimp only [bG.v] at rr ⊢
 revert hw hc;refine W (J2 (od K7) @rr) (J2 @AW.aa @af.eq_1) (J2 ?_ ?_)<;>unhygienic intros
 · exact⟨_,by simp;rfl,by rw [l0,if_pos (by assumption)],AW.le.alloc _ _⟩
 refine bZ 5 ?_
 revert hw;(repeat first|clear hw|revert hc|revert zn|revert zA|revert R|revert K);refine W (J1 (od K7)) (Kw k0 F0 k1 FZ k2 FY k3 FX @AW.aa @af.eq_1) (J5 ?_ ?_ ?_ ?_ ?_)<;>unhygienic intros
 all_goals(
  refine⟨_,by first|(simp;done)|(simp;rfl),?_,AW.le.alloc _ _⟩
  rw [l0]
  simp (disch:=omega) only [if_pos,if_neg]
  try rw [Oh]
  try rw [SG]
  try rw [SF]
  try simp (disch:=omega) only [ak])
theorem zZ (c:bG) (hc:dt c) (b:Int) (hb:b<2^62) (A:AW):aH Tryz.prog 161 [c.v,.int .i64 b] A (fun v A'=>v=.int .i64 (ds c b)∧A=A'):=by
 refine aH.GT (V:=.int .i64 (ds c b)) (by simp) (fun hw=>?_) (by kernel_rfl)
 refine ab Tryz.func161 rfl (by kernel_rfl) fun _=>?_
 have rr:=wO c hc b hb
 dsimp only [bG.v] at rr ⊢
 revert hw hc;refine W (J1 @rr) (J2 @AW.aa @af.eq_1) (J1 ?_)<;>unhygienic intros
 exact⟨_,by first|(simp;done)|(simp;rfl),rfl,AW.le.alloc _ _⟩
theorem zP (c:bG) (hc:dt c) (b:Int) (hb:b<2^62) (A:AW):aH Tryz.prog 184 [c.v,.int .i64 b] A (fun v A'=>v=.int .i64 (eL c b)∧A=A'):=by
 refine aH.GT (V:=.int .i64 (eL c b)) (by simp) (fun hw=>?_) (by kernel_rfl)
 refine ab Tryz.func184 rfl (by kernel_rfl) fun _=>?_
 have rr:=wO c hc b hb
 dsimp only [bG.v] at rr ⊢
 revert hw hc;refine W (J1 @rr) (J2 @AW.aa @af.eq_1) (J1 ?_)<;>unhygienic intros
 exact⟨_,by first|(simp;done)|(simp;rfl),rfl,AW.le.alloc _ _⟩
theorem sE (c:bG) (hc:dt c) (a:Int) (A:AW):aH Tryz.prog 132 [c.v,.int .i64 a] A (fun v A'=>v=.int .i64 (fJ c a)∧A=A'):=by
 refine aH.GT (V:=.int .i64 (fJ c a)) (by simp) (fun hw=>?_) (by kernel_rfl)
 refine ab Tryz.func132 rfl (by kernel_rfl) fun _=>?_
 obtain⟨w0,w1⟩:=hc.aF
 obtain⟨r0,r1⟩:=hc.aj
 obtain⟨k0,F0⟩:=hc.k0
 obtain⟨k1,FZ⟩:=hc.k1
 obtain⟨k2,FY⟩:=hc.k2
 obtain⟨k3,FX⟩:=hc.k3
 obtain⟨b0,b1⟩:=hc.base
 obtain⟨x0,x1⟩:=hc.ah
 obtain⟨y0,y1⟩:=hc.bX
 obtain⟨z0,z1⟩:=hc.ac
 obtain⟨u0,u1⟩:=hc.ap
 obtain⟨t0,t1⟩:=hc.ao
 have kn:=hc.nb
 have kf:=hc.IX
 have e:c.nb=c.c0+c.c1+c.c2+c.c3:=rfl
 have e':c.hw=c.c0+c.c1*2+c.c2*4+c.c3*8:=rfl
 have hh:=qN c hc
 have rr:=gU c hc
 dsimp only [bG.v] at hh rr ⊢
 have ke:¬c.aj=0:=by omega
 revert hw hc;refine W (J3 (od Pe) @hh @rr) (J3 ke @AW.aa @af.eq_1) (J3 ?_ ?_ ?_)<;>unhygienic intros
 all_goals(
  refine⟨_,by first|(simp;done)|(simp;rfl),?_,AW.le.alloc _ _⟩
  unfold fJ
  first
  | (rw [if_neg (by simp_all;omega)];done)
  | (rw [if_neg (by omega)];done)
  | (rw [if_pos (by omega)];done))
theorem nL {c:bG} (hc:dt c) (b:Int) (h:0≤b∧b<c.nb):(0≤ds c b∧ds c b≤3)∧0≤eL c b∧eL c b+2 ^ (ds c b).toNat≤c.aF:=by
 obtain⟨w0,w1⟩:=hc.aF
 obtain⟨r0,r1⟩:=hc.aj
 obtain⟨k0,F0⟩:=hc.k0
 obtain⟨k1,FZ⟩:=hc.k1
 obtain⟨k2,FY⟩:=hc.k2
 obtain⟨k3,FX⟩:=hc.k3
 obtain⟨b0,b1⟩:=hc.base
 obtain⟨x0,x1⟩:=hc.ah
 obtain⟨y0,y1⟩:=hc.bX
 obtain⟨z0,z1⟩:=hc.ac
 obtain⟨u0,u1⟩:=hc.ap
 obtain⟨t0,t1⟩:=hc.ao
 have kn:=hc.nb
 have kf:=hc.IX
 have e:c.nb=c.c0+c.c1+c.c2+c.c3:=rfl
 have e':c.hw=c.c0+c.c1*2+c.c2*4+c.c3*8:=rfl
 have lm:c.hw≤c.aF-c.base:=kf
 unfold ds eL sZ
 rw [if_neg (by omega)]
 split
 · simp;omega
 split
 · simp;omega
 split
 · simp;omega
 split
 · simp;omega
 · omega
theorem FW {c:bG} (hc:dt c) (b:Int) (h:¬(0≤b∧b<c.nb)):sZ c b=(-1,-1):=by
 obtain⟨w0,w1⟩:=hc.aF
 obtain⟨r0,r1⟩:=hc.aj
 obtain⟨k0,F0⟩:=hc.k0
 obtain⟨k1,FZ⟩:=hc.k1
 obtain⟨k2,FY⟩:=hc.k2
 obtain⟨k3,FX⟩:=hc.k3
 obtain⟨b0,b1⟩:=hc.base
 obtain⟨x0,x1⟩:=hc.ah
 obtain⟨y0,y1⟩:=hc.bX
 obtain⟨z0,z1⟩:=hc.ac
 obtain⟨u0,u1⟩:=hc.ap
 obtain⟨t0,t1⟩:=hc.ao
 have kn:=hc.nb
 have kf:=hc.IX
 have e:c.nb=c.c0+c.c1+c.c2+c.c3:=rfl
 have e':c.hw=c.c0+c.c1*2+c.c2*4+c.c3*8:=rfl
 unfold sZ
 split
 · rfl
 split
 · omega
 split
 · omega
 split
 · omega
 split
 · omega
 · rfl
theorem Gm {c:bG} (hc:dt c) (b:Int) (h:0≤b∧b+1<c.nb):eL c (b+1)=eL c b+2 ^ (ds c b).toNat:=by
 obtain⟨w0,w1⟩:=hc.aF
 obtain⟨r0,r1⟩:=hc.aj
 obtain⟨k0,F0⟩:=hc.k0
 obtain⟨k1,FZ⟩:=hc.k1
 obtain⟨k2,FY⟩:=hc.k2
 obtain⟨k3,FX⟩:=hc.k3
 obtain⟨b0,b1⟩:=hc.base
 obtain⟨x0,x1⟩:=hc.ah
 obtain⟨y0,y1⟩:=hc.bX
 obtain⟨z0,z1⟩:=hc.ac
 obtain⟨u0,u1⟩:=hc.ap
 obtain⟨t0,t1⟩:=hc.ao
 have kn:=hc.nb
 have kf:=hc.IX
 have e:c.nb=c.c0+c.c1+c.c2+c.c3:=rfl
 have e':c.hw=c.c0+c.c1*2+c.c2*4+c.c3*8:=rfl
 unfold eL ds sZ
 repeat' split
 all_goals(first|omega|(simp;omega))
theorem Gl {c:bG} (hc:dt c) (h:0<c.nb):eL c 0=c.base:=by
 obtain⟨w0,w1⟩:=hc.aF
 obtain⟨r0,r1⟩:=hc.aj
 obtain⟨k0,F0⟩:=hc.k0
 obtain⟨k1,FZ⟩:=hc.k1
 obtain⟨k2,FY⟩:=hc.k2
 obtain⟨k3,FX⟩:=hc.k3
 obtain⟨b0,b1⟩:=hc.base
 obtain⟨x0,x1⟩:=hc.ah
 obtain⟨y0,y1⟩:=hc.bX
 obtain⟨z0,z1⟩:=hc.ac
 obtain⟨u0,u1⟩:=hc.ap
 obtain⟨t0,t1⟩:=hc.ao
 have kn:=hc.nb
 have kf:=hc.IX
 have e:c.nb=c.c0+c.c1+c.c2+c.c3:=rfl
 have e':c.hw=c.c0+c.c1*2+c.c2*4+c.c3*8:=rfl
 unfold eL sZ
 repeat' split
 all_goals(first|omega|(simp;omega))
end Go.Stx
