/-
 The program's attempt: a step, whatever it is doing.
-/
import Derived.Test.YtncmjklabcoeaaaGreatD37
set_option linter.unusedVariables false
set_option linter.unusedSimpArgs false
set_option maxRecDepth 20000
set_option maxHeartbeats 4000000
namespace Go.Stx
open Go Go.Proofs
attribute [local irreducible] fj cm aH bB dK ei
open T23 T16
theorem Jh (b pb:Nat) (s:aD) (M:Mm) (hd:s.aA=.bm):fM b pb s M:=by
 obtain⟨cf,ag,av,ax,value,br,ai,ah,ac,ap,set,aM,ao,aj,aG,aE,am,aA⟩:=s
 dsimp only at hd
 subst hd
 unfold fM
 rw [show cD ⟨cf,ag,av,ax,value,br,ai,ah,ac,ap,set,aM,ao,aj,aG,aE,am,.bm⟩ M=(bq.zero,0,⟨cf,ag,av,ax,value,br,ai,ah,ac,ap,set,aM,ao,aj,aG,aE,am,.bm⟩,M) from rfl]
 intro A F hw hS
 refine ab Tryz.func15 rfl (by kernel_rfl) fun _=>?_
 dsimp only [na,zo] at hS
 obtain⟨⟨bh,aY,az,aJ,aK,m,c0,c1,c2,bx,aw,aB,aV,bQ,bg,cE,aW,aU,aC,bA,bC,cP,bR⟩,hS⟩:=bI.open hS .z
 dsimp only [cg,fq,bW,da,ba.eo,na,zo] at hS
 have hq:=ZO hS hw
 revert hq hS hw;clear hS;have gR:=trivial;refine Wp trivial (J4 @AW.aa @af.eq_1 @aS.eq_1 @bq.v.eq_1) (J1 ?_)<;>unhygienic intros
 refine⟨_,by simp [hq,AW.aa,af];rfl,by simp [bq.v,bq.zero],?_⟩
 apply bI.cC
 (·exact sA)
 (dsimp only [cg,fi,fq,bW,da,ba.eo,bJ,aT,aQ,dT,cY,dV,fC,cZ,cW,bV,dU,dR,fB,dS,na,zo])
 try simp only [h]
 (·first|exact pP|exact kP)
 (·first|exact pP|exact kP)
 all_goals(first|exact 0|exact undef)
theorem CS (b pb:Nat) (s:aD)  (M:Mm) (hd:s.aA=.jV .fy) (hC:ep s):fM b pb s M:=by
 obtain⟨cf,ag,av,ax,value,br,ai,ah,ac,ap,set,aM,ao,aj,aG,aE,am,aA⟩:=s
 dsimp only at hd
 subst hd
 have wR:ep ⟨cf,ag,av,ax,value,br,ai,ah,ac,ap,set,aM,ao,aj,aG,aE,am,.bm⟩:=hC.to rfl rfl rfl rfl rfl rfl rfl rfl
 unfold fM
 rw [show cD ⟨cf,ag,av,ax,value,br,ai,ah,ac,ap,set,aM,ao,aj,aG,aE,am,.jV .fy⟩ M=(bq.zero,0,nK ⟨cf,ag,av,ax,value,br,ai,ah,ac,ap,set,aM,ao,aj,aG,aE,am,.bm⟩ .fy,M) from rfl]
 intro A F hw hS
 refine ab Tryz.func15 rfl (by kernel_rfl) fun _=>?_
 dsimp only [na,zo] at hS
 obtain⟨⟨bh,aY,az,aJ,aK,m,c0,c1,c2,bx,aw,aB,aV,bQ,bg,cE,aW,aU,aC,bA,bC,cP,bR⟩,hS⟩:=bI.open hS .z
 dsimp only [cg,fq,bW,da,ba.eo,na,zo] at hS
 have hq:=ZO hS hw
 revert hq hS hw;clear hS;have gR:=trivial;refine Wp (J1 (Tg.mk (n:=21) (CJ b c0 ⟨cf,ag,av,ax,value,br,ai,ah,ac,ap,set,aM,ao,aj,aG,aE,am,.bm⟩ rfl wR))) (J4 @AW.aa @af.eq_1 @aS.eq_1 @bq.v.eq_1) (J1 ?_)<;>unhygienic intros
 all_goals(
  refine⟨_,by simp [hq,AW.aa,af];rfl,by simp [bq.v,bq.zero,aS],?_⟩
  apply an.cC
  (·exact sA)
  (·first|exact pP|exact kP))
theorem CU (b pb:Nat) (s:aD)  (M:Mm) (hd:s.aA=.jV .Gw) (hC:ep s):fM b pb s M:=by
 obtain⟨cf,ag,av,ax,value,br,ai,ah,ac,ap,set,aM,ao,aj,aG,aE,am,aA⟩:=s
 dsimp only at hd
 subst hd
 have wR:ep ⟨cf,ag,av,ax,value,br,ai,ah,ac,ap,set,aM,ao,aj,aG,aE,am,.bm⟩:=hC.to rfl rfl rfl rfl rfl rfl rfl rfl
 unfold fM
 rw [show cD ⟨cf,ag,av,ax,value,br,ai,ah,ac,ap,set,aM,ao,aj,aG,aE,am,.jV .Gw⟩ M=(bq.zero,0,nK ⟨cf,ag,av,ax,value,br,ai,ah,ac,ap,set,aM,ao,aj,aG,aE,am,.bm⟩ .Gw,M) from rfl]
 intro A F hw hS
 refine ab Tryz.func15 rfl (by kernel_rfl) fun _=>?_
 dsimp only [na,zo] at hS
 obtain⟨⟨bh,aY,az,aJ,aK,m,c0,c1,c2,bx,aw,aB,aV,bQ,bg,cE,aW,aU,aC,bA,bC,cP,bR⟩,hS⟩:=bI.open hS .z
 dsimp only [cg,fq,bW,da,ba.eo,na,zo] at hS
 have hq:=ZO hS hw
 revert hq hS hw;clear hS;have gR:=trivial;refine Wp (J1 (Tg.mk (n:=21) (CL b c0 ⟨cf,ag,av,ax,value,br,ai,ah,ac,ap,set,aM,ao,aj,aG,aE,am,.bm⟩ rfl wR))) (J4 @AW.aa @af.eq_1 @aS.eq_1 @bq.v.eq_1) (J1 ?_)<;>unhygienic intros
 all_goals(
  refine⟨_,by simp [hq,AW.aa,af];rfl,by simp [bq.v,bq.zero,aS],?_⟩
  apply an.cC
  (·exact sA)
  (·first|exact pP|exact kP))
theorem CT (b pb:Nat) (s:aD) (ec:Int) (M:Mm) (hd:s.aA=.jV (.cC ec)) (hC:ep s):fM b pb s M:=by
 obtain⟨cf,ag,av,ax,value,br,ai,ah,ac,ap,set,aM,ao,aj,aG,aE,am,aA⟩:=s
 dsimp only at hd
 subst hd
 have wR:ep ⟨cf,ag,av,ax,value,br,ai,ah,ac,ap,set,aM,ao,aj,aG,aE,am,.bm⟩:=hC.to rfl rfl rfl rfl rfl rfl rfl rfl
 unfold fM
 rw [show cD ⟨cf,ag,av,ax,value,br,ai,ah,ac,ap,set,aM,ao,aj,aG,aE,am,.jV (.cC ec)⟩ M=(bq.zero,0,nK ⟨cf,ag,av,ax,value,br,ai,ah,ac,ap,set,aM,ao,aj,aG,aE,am,.bm⟩ (.cC ec),M) from rfl]
 intro A F hw hS
 refine ab Tryz.func15 rfl (by kernel_rfl) fun _=>?_
 dsimp only [na,zo] at hS
 obtain⟨⟨bh,aY,az,aJ,aK,m,c0,c1,c2,bx,aw,aB,aV,bQ,bg,cE,aW,aU,aC,bA,bC,cP,bR⟩,hS⟩:=bI.open hS .z
 dsimp only [cg,fq,bW,da,ba.eo,na,zo] at hS
 have hq:=ZO hS hw
 revert hq hS hw;clear hS;have gR:=trivial;refine Wp (J1 (Tg.mk (n:=21) (CK b c0 c1 ⟨cf,ag,av,ax,value,br,ai,ah,ac,ap,set,aM,ao,aj,aG,aE,am,.bm⟩ ec rfl wR))) (J4 @AW.aa @af.eq_1 @aS.eq_1 @bq.v.eq_1) (J1 ?_)<;>unhygienic intros
 all_goals(
  refine⟨_,by simp [hq,AW.aa,af];rfl,by simp [bq.v,bq.zero,aS],?_⟩
  apply an.cC
  (·exact sA)
  (·first|exact pP|exact kP))
theorem AK (b pb:Nat) (s:aD) (lv:Int) (M:Mm) (hd:s.aA=.jV (.take lv)) (hC:ep s):fM b pb s M:=by
 obtain⟨cf,ag,av,ax,value,br,ai,ah,ac,ap,set,aM,ao,aj,aG,aE,am,aA⟩:=s
 dsimp only at hd
 subst hd
 have wR:ep ⟨cf,ag,av,ax,value,br,ai,ah,ac,ap,set,aM,ao,aj,aG,aE,am,.bm⟩:=hC.to rfl rfl rfl rfl rfl rfl rfl rfl
 unfold fM
 rw [show cD ⟨cf,ag,av,ax,value,br,ai,ah,ac,ap,set,aM,ao,aj,aG,aE,am,.jV (.take lv)⟩ M=(bq.zero,0,nK ⟨cf,ag,av,ax,value,br,ai,ah,ac,ap,set,aM,ao,aj,aG,aE,am,.bm⟩ (.take lv),M) from rfl]
 intro A F hw hS
 refine ab Tryz.func15 rfl (by kernel_rfl) fun _=>?_
 dsimp only [na,zo] at hS
 obtain⟨⟨bh,aY,az,aJ,aK,m,c0,c1,c2,bx,aw,aB,aV,bQ,bg,cE,aW,aU,aC,bA,bC,cP,bR⟩,hS⟩:=bI.open hS .z
 dsimp only [cg,fq,bW,da,ba.eo,na,zo] at hS
 have hq:=ZO hS hw
 revert hq hS hw;clear hS;have gR:=trivial;refine Wp (J1 (Tg.mk (n:=21) (AH b c0 c1 c2 ⟨cf,ag,av,ax,value,br,ai,ah,ac,ap,set,aM,ao,aj,aG,aE,am,.bm⟩ lv rfl))) (J4 @AW.aa @af.eq_1 @aS.eq_1 @bq.v.eq_1) (J1 ?_)<;>unhygienic intros
 all_goals(
  refine⟨_,by simp [hq,AW.aa,af];rfl,by simp [bq.v,bq.zero,aS],?_⟩
  apply an.cC
  (·exact sA)
  (·first|exact pP|exact kP))
theorem yd (b pb:Nat) (s:aD) (la lv:Int) (M:Mm) (hd:s.aA=.jV (.fu la lv)) (hC:ep s) (Mw:0≤la):fM b pb s M:=by
 obtain⟨cf,ag,av,ax,value,br,ai,ah,ac,ap,set,aM,ao,aj,aG,aE,am,aA⟩:=s
 dsimp only at hd
 subst hd
 have wR:ep ⟨cf,ag,av,ax,value,br,ai,ah,ac,ap,set,aM,ao,aj,aG,aE,am,.bm⟩:=hC.to rfl rfl rfl rfl rfl rfl rfl rfl
 unfold fM
 rw [show cD ⟨cf,ag,av,ax,value,br,ai,ah,ac,ap,set,aM,ao,aj,aG,aE,am,.jV (.fu la lv)⟩ M=(bq.zero,0,nK ⟨cf,ag,av,ax,value,br,ai,ah,ac,ap,set,aM,ao,aj,aG,aE,am,.bm⟩ (.fu la lv),M) from rfl]
 intro A F hw hS
 refine ab Tryz.func15 rfl (by kernel_rfl) fun _=>?_
 dsimp only [na,zo] at hS
 obtain⟨⟨bh,aY,az,aJ,aK,m,c0,c1,c2,bx,aw,aB,aV,bQ,bg,cE,aW,aU,aC,bA,bC,cP,bR⟩,hS⟩:=bI.open hS .z
 dsimp only [cg,fq,bW,da,ba.eo,na,zo] at hS
 have hq:=ZO hS hw
 revert hq hS hw;clear hS;have gR:=trivial;refine Wp (J1 (Tg.mk (n:=21) (xZ b c0 c1 c2 ⟨cf,ag,av,ax,value,br,ai,ah,ac,ap,set,aM,ao,aj,aG,aE,am,.bm⟩ la lv rfl wR Mw))) (J4 @AW.aa @af.eq_1 @aS.eq_1 @bq.v.eq_1) (J1 ?_)<;>unhygienic intros
 all_goals(
  refine⟨_,by simp [hq,AW.aa,af];rfl,by simp [bq.v,bq.zero,aS],?_⟩
  apply an.cC
  (·exact sA)
  (·first|exact pP|exact kP))
theorem AL (b pb:Nat) (s:aD)  (M:Mm) (hd:s.aA=.jV .r9) (hC:ep s):fM b pb s M:=by
 obtain⟨cf,ag,av,ax,value,br,ai,ah,ac,ap,set,aM,ao,aj,aG,aE,am,aA⟩:=s
 dsimp only at hd
 subst hd
 have wR:ep ⟨cf,ag,av,ax,value,br,ai,ah,ac,ap,set,aM,ao,aj,aG,aE,am,.bm⟩:=hC.to rfl rfl rfl rfl rfl rfl rfl rfl
 unfold fM
 rw [show cD ⟨cf,ag,av,ax,value,br,ai,ah,ac,ap,set,aM,ao,aj,aG,aE,am,.jV .r9⟩ M=(bq.zero,0,nK ⟨cf,ag,av,ax,value,br,ai,ah,ac,ap,set,aM,ao,aj,aG,aE,am,.bm⟩ .r9,M) from rfl]
 intro A F hw hS
 refine ab Tryz.func15 rfl (by kernel_rfl) fun _=>?_
 dsimp only [na,zo] at hS
 obtain⟨⟨bh,aY,az,aJ,aK,m,c0,c1,c2,bx,aw,aB,aV,bQ,bg,cE,aW,aU,aC,bA,bC,cP,bR⟩,hS⟩:=bI.open hS .z
 dsimp only [cg,fq,bW,da,ba.eo,na,zo] at hS
 have hq:=ZO hS hw
 revert hq hS hw;clear hS;have gR:=trivial;refine Wp (J1 (Tg.mk (n:=21) (AI b c0 ⟨cf,ag,av,ax,value,br,ai,ah,ac,ap,set,aM,ao,aj,aG,aE,am,.bm⟩ rfl wR))) (J4 @AW.aa @af.eq_1 @aS.eq_1 @bq.v.eq_1) (J1 ?_)<;>unhygienic intros
 all_goals(
  refine⟨_,by simp [hq,AW.aa,af];rfl,by simp [bq.v,bq.zero,aS],?_⟩
  apply an.cC
  (·exact sA)
  (·first|exact pP|exact kP))
theorem ye (b pb:Nat) (s:aD) (lk lv:Int) (M:Mm) (hd:s.aA=.jV (.cM lk lv)) (hC:ep s) (IQ:0≤lk∧lk<s.cf.nb):fM b pb s M:=by
 obtain⟨cf,ag,av,ax,value,br,ai,ah,ac,ap,set,aM,ao,aj,aG,aE,am,aA⟩:=s
 dsimp only at hd
 subst hd
 have wR:ep ⟨cf,ag,av,ax,value,br,ai,ah,ac,ap,set,aM,ao,aj,aG,aE,am,.bm⟩:=hC.to rfl rfl rfl rfl rfl rfl rfl rfl
 unfold fM
 rw [show cD ⟨cf,ag,av,ax,value,br,ai,ah,ac,ap,set,aM,ao,aj,aG,aE,am,.jV (.cM lk lv)⟩ M=(bq.zero,0,nK ⟨cf,ag,av,ax,value,br,ai,ah,ac,ap,set,aM,ao,aj,aG,aE,am,.bm⟩ (.cM lk lv),M) from rfl]
 intro A F hw hS
 refine ab Tryz.func15 rfl (by kernel_rfl) fun _=>?_
 dsimp only [na,zo] at hS
 obtain⟨⟨bh,aY,az,aJ,aK,m,c0,c1,c2,bx,aw,aB,aV,bQ,bg,cE,aW,aU,aC,bA,bC,cP,bR⟩,hS⟩:=bI.open hS .z
 dsimp only [cg,fq,bW,da,ba.eo,na,zo] at hS
 have hq:=ZO hS hw
 revert hq hS hw;clear hS;have gR:=trivial;refine Wp (J1 (Tg.mk (n:=21) (ya b c0 c1 c2 ⟨cf,ag,av,ax,value,br,ai,ah,ac,ap,set,aM,ao,aj,aG,aE,am,.bm⟩ lk lv rfl wR IQ))) (J4 @AW.aa @af.eq_1 @aS.eq_1 @bq.v.eq_1) (J1 ?_)<;>unhygienic intros
 all_goals(
  refine⟨_,by simp [hq,AW.aa,af];rfl,by simp [bq.v,bq.zero,aS],?_⟩
  apply an.cC
  (·exact sA)
  (·first|exact pP|exact kP))
theorem AJ (b pb:Nat) (s:aD) (M:Mm) (hd:s.aA=.ij):fM b pb s M:=by
 obtain⟨cf,ag,av,ax,value,br,ai,ah,ac,ap,set,aM,ao,aj,aG,aE,am,aA⟩:=s
 dsimp only at hd
 subst hd
 unfold fM
 rw [show cD ⟨cf,ag,av,ax,value,br,ai,ah,ac,ap,set,aM,ao,aj,aG,aE,am,.ij⟩ M=(wx M 3 0 (IntKind.u64.wrap (ao+1)),19,⟨cf,ag,av,ax,value,br,ai,ah,ac,ap,set,aM,ao,aj,aG,aE,am,.fm⟩,ww M 3 0 (IntKind.u64.wrap (ao+1))) from rfl]
 intro A F hw hS
 refine ab Tryz.func15 rfl (by kernel_rfl) fun _=>?_
 dsimp only [na,zo] at hS
 obtain⟨⟨bh,aY,az,aJ,aK,m,c0,c1,c2,bx,aw,aB,aV,bQ,bg,cE,aW,aU,aC,bA,bC,cP,bR⟩,hS⟩:=bI.open hS .z
 dsimp only [cg,fq,bW,da,ba.eo,na,zo] at hS
 have hq:=ZO hS hw
 revert hq hS hw;clear hS;have gR:=trivial;refine Wp (J1 (Q2 pb)) (J4 @AW.aa @af.eq_1 @aS.eq_1 @bq.v.eq_1) (J1 ?_)<;>unhygienic intros
 refine⟨_,by simp [hq,AW.aa,af];rfl,by first|(simp [bq.v];done)|(simp [bq.v,h];done),?_⟩
 apply bI.cC
 (·exact sA)
 (dsimp only [cg,fi,fq,bW,da,ba.eo,bJ,aT,aQ,dT,cY,dV,fC,cZ,cW,bV,dU,dR,fB,dS,na,zo])
 try simp only [h]
 (·first|exact pP|exact kP)
 (·first|exact pP|exact kP)
 all_goals(first|exact 0|exact undef)
theorem CQ (b pb:Nat) (s:aD) (t:fL) (M:Mm) (hd:s.aA=.fm) (hC:ep s) (he:s.aE=some t):fM b pb s M:=by
 obtain⟨cf,ag,av,ax,value,br,ai,ah,ac,ap,set,aM,ao,aj,aG,aE,am,aA⟩:=s
 dsimp only at hd
 subst hd
 dsimp only at he
 subst he
 unfold fM
 rw [show cD ⟨cf,ag,av,ax,value,br,ai,ah,ac,ap,set,aM,ao,aj,aG,some t,am,.fm⟩ M=(wx M 5 0 (pg t.eo),20,gg ⟨cf,ag,av,ax,value,br,ai,ah,ac,ap,set,aM,ao,aj,aG,some t,am,.fm⟩,ww M 5 0 (pg t.eo)) from rfl]
 intro A F hw hS
 refine ab Tryz.func15 rfl (by kernel_rfl) fun _=>?_
 dsimp only [na,zo] at hS
 obtain⟨⟨bh,aY,az,aJ,aK,m,c0,c1,c2,bx,aw,aB,aV,bQ,bg,cE,aW,aU,aC,bA,bC,cP,bR⟩,hS⟩:=bI.open hS .z
 dsimp only [cg,fq,bW,da,ba.eo,na,zo] at hS
 have hq:=ZO hS hw
 have hS:=qq.op hS (.s (.s (.s .z)))
 have hq:=ZO hS hw
 revert hq hS hw;clear hq;clear hS;clear hS;have gR:=trivial;refine Wp (J3 (Tg.mk (n:=10) @xX) (Tg.mk (n:=20) (se b ⟨cf,ag,av,ax,value,br,ai,ah,ac,ap,set,aM,ao,aj,aG,some t,am,.fm⟩ 12 .fm hC.cf hC.al hC.push (Nat.lt_of_le_of_lt hC.kN (by decide)))) (Jy pb t.eo M)) (J6 @aQ.eq_1 @aQ.eq_2 @AW.aa @af.eq_1 @aS.eq_1 @bq.v.eq_1) (J1 ?_)<;>unhygienic intros
 all_goals(
  refine⟨_,by simp [hq,AW.aa,af];rfl,by simp [bq.v,bq.zero,aS],?_⟩
  apply an.cC
  (·exact sA)
  (·first|exact pP|exact kP))
theorem CW (b pb:Nat) (s:aD) (M:Mm) (hd:s.aA=.fW):fM b pb s M:=by
 obtain⟨cf,ag,av,ax,value,br,ai,ah,ac,ap,set,aM,ao,aj,aG,aE,am,aA⟩:=s
 dsimp only at hd
 subst hd
 unfold fM
 rw [show cD ⟨cf,ag,av,ax,value,br,ai,ah,ac,ap,set,aM,ao,aj,aG,aE,am,.fW⟩ M=(wx M 6 ag 0,24,⟨cf,ag,2,ax,value,br,ai,ah,ac,ap,set,aM,ao,aj,aG,aE,am,.bm⟩,ww M 6 ag 0) from rfl]
 intro A F hw hS
 refine ab Tryz.func15 rfl (by kernel_rfl) fun _=>?_
 dsimp only [na,zo] at hS
 obtain⟨⟨bh,aY,az,aJ,aK,m,c0,c1,c2,bx,aw,aB,aV,bQ,bg,cE,aW,aU,aC,bA,bC,cP,bR⟩,hS⟩:=bI.open hS .z
 dsimp only [cg,fq,bW,da,ba.eo,na,zo] at hS
 have hq:=ZO hS hw
 revert hq hS hw;clear hS;have gR:=trivial;refine Wp (J1 (HF pb ag M)) (J4 @AW.aa @af.eq_1 @aS.eq_1 @bq.v.eq_1) (J1 ?_)<;>unhygienic intros
 refine⟨_,by simp [hq,AW.aa,af];rfl,by first|(simp [bq.v];done)|(simp [bq.v,h];done),?_⟩
 apply bI.cC
 (·exact sA)
 (dsimp only [cg,fi,fq,bW,da,ba.eo,bJ,aT,aQ,dT,cY,dV,fC,cZ,cW,bV,dU,dR,fB,dS,na,zo])
 try simp only [h]
 (·first|exact pP|exact kP)
 (·first|exact pP|exact kP)
 all_goals(first|exact 0|exact undef)
theorem BZ (b pb:Nat) (s:aD) (M:Mm) (h:Mi s M):fM b pb s M:=by
 obtain⟨hC,hD⟩:=h
 have vP:s.set.length<2^38:=by
  have h1:=hC.set
  have h2:=hC.cf.ah
  omega
 cases hd:s.aA with
 | bm=>exact Jh b pb s M hd
 | jV k=>
   rw [hd] at hD
   cases k with
   | fy=>exact CS b pb s M hd hC
   | Gw=>exact CU b pb s M hd hC
   | cC c=>exact CT b pb s c M hd hC
   | take v=>exact AK b pb s v M hd hC
   | fu a v=>exact yd b pb s a v M hd hC hD
   | r9=>exact AL b pb s M hd hC
   | cM k v=>exact ye b pb s k v M hd hC hD
 | ej=>
   rw [hd] at hD
   obtain⟨e,he⟩:=hD
   exact AM b pb s e M hd he
 | bz c u=>
   rw [hd] at hD
   obtain⟨h1,h2,h3,h4⟩:=hD
   cases u with
   | take=>exact G7 b pb s c M hd hC h1 h2 h3
   | cM k=>exact G8 b pb s c k M hd hC h1 h2 h3 h4
 | eE p=>
   rw [hd] at hD
   exact CP b pb s p M hd hC hD.1 hD.2.1 hD.2.2
 | fF=>
   rw [hd] at hD
   obtain⟨l,h1,h2,h3⟩:=hD
   exact CR b pb s l M hd h1 h2 h3
 | dI=>
   rw [hd] at hD
   obtain⟨t,h1⟩:=hD
   exact CN b pb s t M hd h1 vP
 | dG c=>
   rw [hd] at hD
   exact AO b pb s c M hd hD
 | cN=>
   rw [hd] at hD
   exact AN b pb s M hd hC hD
 | et w=>
   rw [hd] at hD
   exact CM b pb s w M hd hD.1 hD.2
 | cK w=>
   rw [hd] at hD
   exact yc b pb s w M hd hD
 | ij=>exact AJ b pb s M hd
 | fm=>
   rw [hd] at hD
   obtain⟨t,h1⟩:=hD
   exact CQ b pb s t M hd hC h1
 | eZ p=>
   rw [hd] at hD
   exact CO b pb s p M hd hC hD
 | fW=>exact CW b pb s M hd
end Go.Stx
