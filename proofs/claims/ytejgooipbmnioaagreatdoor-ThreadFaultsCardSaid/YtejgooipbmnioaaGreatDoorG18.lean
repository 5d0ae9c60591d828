/-
 The program's attempt: a step.
-/
import Derived.Test.YtejgooipbmnioaaGreatDoorG17
set_option linter.unusedVariables false
set_option linter.unusedSimpArgs false
set_option linter.unusedSectionVars false
set_option maxRecDepth 20000
set_option maxHeartbeats 4000000
namespace Go.Stx
open Go Go.Proofs
attribute [local irreducible] TW cg eg bn aC aV cR df
section
open T17 T10
variable [Gl]
def Mq (s:aT):Prop:=s.an.length<2^20∧(s.an.length=0∨∃l,s.aI=some l∧s.an.length=l.eo.length)
def SI (s:aT):Fu→Prop
 | .k4 a _=>0≤a
 | .cM k _=>0≤k∧k<s.cf.nb
 | _=>True
def SF (s:aT):zM→Prop
 | .take=>True
 | .cM k=>0≤k∧k<s.cf.nb
def Wj (s:aT) (M:Mm):aU→Prop
 | .gZ k=>SI s k
 | .eN=>∃e,s.bL=some e
 | .bm c u=>s.reads.length+1<2^20∧(0≤c.bX∧c.bX≤2)∧c.fO=fD s.cf c.c8∧SF s u
 | .eL p=>s.ai.length<8∧(0≤p.d5∧p.d5≤3)∧(fK p M).2.1.block<s.cf.nb
 | .eR=>∃l,s.aI=some l∧l.eo.length≤l.an.length∧l.an.length<2^38
 | .db=>∃t,s.aH=some t
 | .dM _=>Mq s
 | .cu=>Mq s
 | .ee w=>w.os.length=w.ws.length∧s.an.length<2^20
 | .cD w=>w.os.length=w.ws.length
 | .fL=>∃t,s.aH=some t
 | .eK _=>s.ao<s.ai.length
 | _=>True
structure Dy (s:aT) (M:Mm):Prop where
 c:fA s
 d:Wj s M s.aG
def eY (b pb:Nat) (s:aT) (M:Mm):Prop:=
 aY Tryz.prog 106 [pv b,pv pb] [.h (bf b s),dx pb M] (fun v=>v=.tuple #[(cB s M).1.v,.int .i64 (cB s M).2.1])
  (fun _=>[.h (bf b (cB s M).2.2.1),dx pb (cB s M).2.2.2])
set_option maxRecDepth 20000 in
set_option maxHeartbeats 4000000 in
theorem Ae (b pb:Nat) (s:aT) (en:gH) (M:Mm) (hd:s.aG=.eN) (he:s.bL=some en):eY b pb s M:=by
 obtain⟨cf,am,aA,ay,value,bL,aj,reads,ai,av,set,bp,ax,an,aI,aH,ao,aG⟩:=s
 dsimp only at hd
 subst hd
 dsimp only at he
 subst he
 obtain⟨x,ph,s',M',hr⟩:∃x ph s' M',hW ⟨cf,am,aA,ay,value,some en,aj,reads,ai,av,set,bp,ax,an,aI,aH,ao,.eN⟩ M en=(x,ph,s',M'):=⟨_,_,_,_,rfl⟩
 have gL:=yg b pb ⟨cf,am,aA,ay,value,some en,aj,reads,ai,av,set,bp,ax,an,aI,aH,ao,.eN⟩ en M rfl rfl
 rw [hr] at gL
 unfold eY
 rw [show cB ⟨cf,am,aA,ay,value,some en,aj,reads,ai,av,set,bp,ax,an,aI,aH,ao,.eN⟩ M=hW ⟨cf,am,aA,ay,value,some en,aj,reads,ai,av,set,bp,ax,an,aI,aH,ao,.eN⟩ M en from rfl,hr]
 intro A F hw hS
 refine ab Tryz.func106 rfl (by kernel_rfl) fun _=>?_
 dsimp only [af,ag] at hS
 obtain⟨⟨bD,bJ,aJ,aX,aW,m,c0,c1,c2,aZ,aE,aL,aN,bk,aS,bP,aO,aM,aB,bc,bd,bZ,bl⟩,hS⟩:=bf.open hS .z
 dsimp only [bx,ei,br,b8,aU.dT,af,ag] at hS
 have hq:=eW hS hw
 revert hq hS hw;clear hS;refine Wp (J1 (Tg.mk (n:=21) @gL)) (J4 @AW.aa @ah.eq_1 @bj.eq_1 @ba.v.eq_1) (J1 ?_)<;>unhygienic intros
 all_goals(
  refine⟨_,by simp [hq,AW.aa,ah];rfl,by simp [ba.v,ba.zero,bj],?_⟩
  apply ak.bS
  (·exact sA)
  (·first|exact pP|exact kP))
set_option maxRecDepth 20000 in
set_option maxHeartbeats 4000000 in
theorem FT (b pb:Nat) (s:aT) (c:gN) (M:Mm) (hd:s.aG=.bm c .take) (hC:fA s) (h1:s.reads.length+1<2^20) (h2:0≤c.bX∧c.bX≤2) (h3:c.fO=fD s.cf c.c8):eY b pb s M:=by
 obtain⟨cf,am,aA,ay,value,bL,aj,reads,ai,av,set,bp,ax,an,aI,aH,ao,aG⟩:=s
 dsimp only at hd
 subst hd
 obtain⟨x,ph,s',M',hr⟩:∃x ph s' M',dw ⟨cf,am,aA,ay,value,bL,aj,reads,ai,av,set,bp,ax,an,aI,aH,ao,.bm c .take⟩ M c .take=(x,ph,s',M'):=⟨_,_,_,_,rfl⟩
 have gL:=ye b pb ⟨cf,am,aA,ay,value,bL,aj,reads,ai,av,set,bp,ax,an,aI,aH,ao,.bm c .take⟩ c M rfl hC h1 h2 h3
 rw [hr] at gL
 unfold eY
 rw [show cB ⟨cf,am,aA,ay,value,bL,aj,reads,ai,av,set,bp,ax,an,aI,aH,ao,.bm c .take⟩ M=dw ⟨cf,am,aA,ay,value,bL,aj,reads,ai,av,set,bp,ax,an,aI,aH,ao,.bm c .take⟩ M c .take from rfl,hr]
 intro A F hw hS
 refine ab Tryz.func106 rfl (by kernel_rfl) fun _=>?_
 dsimp only [af,ag] at hS
 obtain⟨⟨bD,bJ,aJ,aX,aW,m,c0,c1,c2,aZ,aE,aL,aN,bk,aS,bP,aO,aM,aB,bc,bd,bZ,bl⟩,hS⟩:=bf.open hS .z
 dsimp only [bx,ei,br,b8,aU.dT,af,ag] at hS
 have hq:=eW hS hw
 revert hq hS hw;clear hS;refine Wp (J1 (Tg.mk (n:=21) @gL)) (J4 @AW.aa @ah.eq_1 @bj.eq_1 @ba.v.eq_1) (J1 ?_)<;>unhygienic intros
 all_goals(
  refine⟨_,by simp [hq,AW.aa,ah];rfl,by simp [ba.v,ba.zero,bj],?_⟩
  apply ak.bS
  (·exact sA)
  (·first|exact pP|exact kP))
set_option maxRecDepth 20000 in
set_option maxHeartbeats 4000000 in
theorem FU (b pb:Nat) (s:aT) (c:gN) (kb:Int) (M:Mm) (hd:s.aG=.bm c (.cM kb)) (hC:fA s) (h1:s.reads.length+1<2^20) (h2:0≤c.bX∧c.bX≤2) (h3:c.fO=fD s.cf c.c8) (h4:0≤kb∧kb<s.cf.nb):eY b pb s M:=by
 obtain⟨cf,am,aA,ay,value,bL,aj,reads,ai,av,set,bp,ax,an,aI,aH,ao,aG⟩:=s
 dsimp only at hd
 subst hd
 obtain⟨x,ph,s',M',hr⟩:∃x ph s' M',dw ⟨cf,am,aA,ay,value,bL,aj,reads,ai,av,set,bp,ax,an,aI,aH,ao,.bm c (.cM kb)⟩ M c (.cM kb)=(x,ph,s',M'):=⟨_,_,_,_,rfl⟩
 have gL:=yf b pb ⟨cf,am,aA,ay,value,bL,aj,reads,ai,av,set,bp,ax,an,aI,aH,ao,.bm c (.cM kb)⟩ c kb M rfl hC h1 h2 h3 h4
 rw [hr] at gL
 unfold eY
 rw [show cB ⟨cf,am,aA,ay,value,bL,aj,reads,ai,av,set,bp,ax,an,aI,aH,ao,.bm c (.cM kb)⟩ M=dw ⟨cf,am,aA,ay,value,bL,aj,reads,ai,av,set,bp,ax,an,aI,aH,ao,.bm c (.cM kb)⟩ M c (.cM kb) from rfl,hr]
 intro A F hw hS
 refine ab Tryz.func106 rfl (by kernel_rfl) fun _=>?_
 dsimp only [af,ag] at hS
 obtain⟨⟨bD,bJ,aJ,aX,aW,m,c0,c1,c2,aZ,aE,aL,aN,bk,aS,bP,aO,aM,aB,bc,bd,bZ,bl⟩,hS⟩:=bf.open hS .z
 dsimp only [bx,ei,br,b8,aU.dT,af,ag] at hS
 have hq:=eW hS hw
 revert hq hS hw;clear hS;refine Wp (J1 (Tg.mk (n:=21) @gL)) (J4 @AW.aa @ah.eq_1 @bj.eq_1 @ba.v.eq_1) (J1 ?_)<;>unhygienic intros
 all_goals(
  refine⟨_,by simp [hq,AW.aa,ah];rfl,by simp [ba.v,ba.zero,bj],?_⟩
  apply ak.bS
  (·exact sA)
  (·first|exact pP|exact kP))
set_option maxRecDepth 20000 in
set_option maxHeartbeats 4000000 in
theorem Cb (b pb:Nat) (s:aT) (p:oO) (M:Mm) (hd:s.aG=.eL p) (hC:fA s) (h1:s.ai.length<8) (h2:0≤p.d5∧p.d5≤3) (h3:(fK p M).2.1.block<s.cf.nb):eY b pb s M:=by
 obtain⟨cf,am,aA,ay,value,bL,aj,reads,ai,av,set,bp,ax,an,aI,aH,ao,aG⟩:=s
 dsimp only at hd
 subst hd
 obtain⟨x,ph,s',M',hr⟩:∃x ph s' M',lN ⟨cf,am,aA,ay,value,bL,aj,reads,ai,av,set,bp,ax,an,aI,aH,ao,.eL p⟩ M p=(x,ph,s',M'):=⟨_,_,_,_,rfl⟩
 have gL:=Ci b pb ⟨cf,am,aA,ay,value,bL,aj,reads,ai,av,set,bp,ax,an,aI,aH,ao,.eL p⟩ p M rfl hC h1 h2 h3 (Eg p M)
 rw [hr] at gL
 unfold eY
 rw [show cB ⟨cf,am,aA,ay,value,bL,aj,reads,ai,av,set,bp,ax,an,aI,aH,ao,.eL p⟩ M=lN ⟨cf,am,aA,ay,value,bL,aj,reads,ai,av,set,bp,ax,an,aI,aH,ao,.eL p⟩ M p from rfl,hr]
 intro A F hw hS
 refine ab Tryz.func106 rfl (by kernel_rfl) fun _=>?_
 dsimp only [af,ag] at hS
 obtain⟨⟨bD,bJ,aJ,aX,aW,m,c0,c1,c2,aZ,aE,aL,aN,bk,aS,bP,aO,aM,aB,bc,bd,bZ,bl⟩,hS⟩:=bf.open hS .z
 dsimp only [bx,ei,br,b8,aU.dT,af,ag] at hS
 have hq:=eW hS hw
 revert hq hS hw;clear hS;refine Wp (J1 (Tg.mk (n:=21) @gL)) (J4 @AW.aa @ah.eq_1 @bj.eq_1 @ba.v.eq_1) (J1 ?_)<;>unhygienic intros
 all_goals(
  refine⟨_,by simp [hq,AW.aa,ah];rfl,by simp [ba.v,ba.zero,bj],?_⟩
  apply ak.bS
  (·exact sA)
  (·first|exact pP|exact kP))
set_option maxRecDepth 20000 in
set_option maxHeartbeats 4000000 in
theorem Cd (b pb:Nat) (s:aT) (l:gy) (M:Mm) (hd:s.aG=.eR) (he:s.aI=some l) (h1:l.eo.length≤l.an.length) (h2:l.an.length<2^38):eY b pb s M:=by
 obtain⟨cf,am,aA,ay,value,bL,aj,reads,ai,av,set,bp,ax,an,aI,aH,ao,aG⟩:=s
 dsimp only at hd
 subst hd
 dsimp only at he
 subst he
 obtain⟨x,ph,s',M',hr⟩:∃x ph s' M',iw ⟨cf,am,aA,ay,value,bL,aj,reads,ai,av,set,bp,ax,an,some l,aH,ao,.eR⟩ M l=(x,ph,s',M'):=⟨_,_,_,_,rfl⟩
 have gL:=Aj b pb ⟨cf,am,aA,ay,value,bL,aj,reads,ai,av,set,bp,ax,an,some l,aH,ao,.eR⟩ l M rfl rfl h1 h2
 rw [hr] at gL
 unfold eY
 rw [show cB ⟨cf,am,aA,ay,value,bL,aj,reads,ai,av,set,bp,ax,an,some l,aH,ao,.eR⟩ M=iw ⟨cf,am,aA,ay,value,bL,aj,reads,ai,av,set,bp,ax,an,some l,aH,ao,.eR⟩ M l from rfl,hr]
 intro A F hw hS
 refine ab Tryz.func106 rfl (by kernel_rfl) fun _=>?_
 dsimp only [af,ag] at hS
 obtain⟨⟨bD,bJ,aJ,aX,aW,m,c0,c1,c2,aZ,aE,aL,aN,bk,aS,bP,aO,aM,aB,bc,bd,bZ,bl⟩,hS⟩:=bf.open hS .z
 dsimp only [bx,ei,br,b8,aU.dT,af,ag] at hS
 have hq:=eW hS hw
 revert hq hS hw;clear hS;refine Wp (J1 (Tg.mk (n:=21) @gL)) (J4 @AW.aa @ah.eq_1 @bj.eq_1 @ba.v.eq_1) (J1 ?_)<;>unhygienic intros
 all_goals(
  refine⟨_,by simp [hq,AW.aa,ah];rfl,by simp [ba.v,ba.zero,bj],?_⟩
  apply ak.bS
  (·exact sA)
  (·first|exact pP|exact kP))
set_option maxRecDepth 20000 in
set_option maxHeartbeats 4000000 in
theorem B9 (b pb:Nat) (s:aT) (t:ju) (M:Mm) (hd:s.aG=.db) (he:s.aH=some t) (h1:s.set.length<2^38):eY b pb s M:=by
 obtain⟨cf,am,aA,ay,value,bL,aj,reads,ai,av,set,bp,ax,an,aI,aH,ao,aG⟩:=s
 dsimp only at hd
 subst hd
 dsimp only at he
 subst he
 obtain⟨x,ph,s',M',hr⟩:∃x ph s' M',go ⟨cf,am,aA,ay,value,bL,aj,reads,ai,av,set,bp,ax,an,aI,some t,ao,.db⟩ M t=(x,ph,s',M'):=⟨_,_,_,_,rfl⟩
 have gL:=Ah b pb ⟨cf,am,aA,ay,value,bL,aj,reads,ai,av,set,bp,ax,an,aI,some t,ao,.db⟩ t M rfl rfl h1
 rw [hr] at gL
 unfold eY
 rw [show cB ⟨cf,am,aA,ay,value,bL,aj,reads,ai,av,set,bp,ax,an,aI,some t,ao,.db⟩ M=go ⟨cf,am,aA,ay,value,bL,aj,reads,ai,av,set,bp,ax,an,aI,some t,ao,.db⟩ M t from rfl,hr]
 intro A F hw hS
 refine ab Tryz.func106 rfl (by kernel_rfl) fun _=>?_
 dsimp only [af,ag] at hS
 obtain⟨⟨bD,bJ,aJ,aX,aW,m,c0,c1,c2,aZ,aE,aL,aN,bk,aS,bP,aO,aM,aB,bc,bd,bZ,bl⟩,hS⟩:=bf.open hS .z
 dsimp only [bx,ei,br,b8,aU.dT,af,ag] at hS
 have hq:=eW hS hw
 revert hq hS hw;clear hS;refine Wp (J1 (Tg.mk (n:=21) @gL)) (J4 @AW.aa @ah.eq_1 @bj.eq_1 @ba.v.eq_1) (J1 ?_)<;>unhygienic intros
 all_goals(
  refine⟨_,by simp [hq,AW.aa,ah];rfl,by simp [ba.v,ba.zero,bj],?_⟩
  apply ak.bS
  (·exact sA)
  (·first|exact pP|exact kP))
set_option maxRecDepth 20000 in
set_option maxHeartbeats 4000000 in
theorem Ag (b pb:Nat) (s:aT) (c:gl) (M:Mm) (hd:s.aG=.dM c) (h1:Mq s):eY b pb s M:=by
 obtain⟨cf,am,aA,ay,value,bL,aj,reads,ai,av,set,bp,ax,an,aI,aH,ao,aG⟩:=s
 dsimp only at hd
 subst hd
 obtain⟨x,ph,s',M',hr⟩:∃x ph s' M',fZ ⟨cf,am,aA,ay,value,bL,aj,reads,ai,av,set,bp,ax,an,aI,aH,ao,.dM c⟩ M c=(x,ph,s',M'):=⟨_,_,_,_,rfl⟩
 have gL:=yh b pb ⟨cf,am,aA,ay,value,bL,aj,reads,ai,av,set,bp,ax,an,aI,aH,ao,.dM c⟩ c M rfl h1.1 h1.2
 rw [hr] at gL
 unfold eY
 rw [show cB ⟨cf,am,aA,ay,value,bL,aj,reads,ai,av,set,bp,ax,an,aI,aH,ao,.dM c⟩ M=fZ ⟨cf,am,aA,ay,value,bL,aj,reads,ai,av,set,bp,ax,an,aI,aH,ao,.dM c⟩ M c from rfl,hr]
 intro A F hw hS
 refine ab Tryz.func106 rfl (by kernel_rfl) fun _=>?_
 dsimp only [af,ag] at hS
 obtain⟨⟨bD,bJ,aJ,aX,aW,m,c0,c1,c2,aZ,aE,aL,aN,bk,aS,bP,aO,aM,aB,bc,bd,bZ,bl⟩,hS⟩:=bf.open hS .z
 dsimp only [bx,ei,br,b8,aU.dT,af,ag] at hS
 have hq:=eW hS hw
 revert hq hS hw;clear hS;refine Wp (J1 (Tg.mk (n:=21) @gL)) (J4 @AW.aa @ah.eq_1 @bj.eq_1 @ba.v.eq_1) (J1 ?_)<;>unhygienic intros
 all_goals(
  refine⟨_,by simp [hq,AW.aa,ah];rfl,by simp [ba.v,ba.zero,bj],?_⟩
  apply ak.bS
  (·exact sA)
  (·first|exact pP|exact kP))
set_option maxRecDepth 20000 in
set_option maxHeartbeats 4000000 in
theorem Af (b pb:Nat) (s:aT)  (M:Mm) (hd:s.aG=.cu) (hC:fA s) (h1:Mq s):eY b pb s M:=by
 obtain⟨cf,am,aA,ay,value,bL,aj,reads,ai,av,set,bp,ax,an,aI,aH,ao,aG⟩:=s
 dsimp only at hd
 subst hd
 obtain⟨x,ph,s',M',hr⟩:∃x ph s' M',fp ⟨cf,am,aA,ay,value,bL,aj,reads,ai,av,set,bp,ax,an,aI,aH,ao,.cu⟩ M=(x,ph,s',M'):=⟨_,_,_,_,rfl⟩
 have gL:=xd b pb ⟨cf,am,aA,ay,value,bL,aj,reads,ai,av,set,bp,ax,an,aI,aH,ao,.cu⟩ M rfl hC h1.1 h1.2
 rw [hr] at gL
 unfold eY
 rw [show cB ⟨cf,am,aA,ay,value,bL,aj,reads,ai,av,set,bp,ax,an,aI,aH,ao,.cu⟩ M=fp ⟨cf,am,aA,ay,value,bL,aj,reads,ai,av,set,bp,ax,an,aI,aH,ao,.cu⟩ M from rfl,hr]
 intro A F hw hS
 refine ab Tryz.func106 rfl (by kernel_rfl) fun _=>?_
 dsimp only [af,ag] at hS
 obtain⟨⟨bD,bJ,aJ,aX,aW,m,c0,c1,c2,aZ,aE,aL,aN,bk,aS,bP,aO,aM,aB,bc,bd,bZ,bl⟩,hS⟩:=bf.open hS .z
 dsimp only [bx,ei,br,b8,aU.dT,af,ag] at hS
 have hq:=eW hS hw
 revert hq hS hw;clear hS;refine Wp (J1 (Tg.mk (n:=21) @gL)) (J4 @AW.aa @ah.eq_1 @bj.eq_1 @ba.v.eq_1) (J1 ?_)<;>unhygienic intros
 all_goals(
  refine⟨_,by simp [hq,AW.aa,ah];rfl,by simp [ba.v,ba.zero,bj],?_⟩
  apply ak.bS
  (·exact sA)
  (·first|exact pP|exact kP))
set_option maxRecDepth 20000 in
set_option maxHeartbeats 4000000 in
theorem B8 (b pb:Nat) (s:aT) (w:iQ) (M:Mm) (hd:s.aG=.ee w) (h1:w.os.length=w.ws.length) (h2:s.an.length<2^20):eY b pb s M:=by
 obtain⟨cf,am,aA,ay,value,bL,aj,reads,ai,av,set,bp,ax,an,aI,aH,ao,aG⟩:=s
 dsimp only at hd
 subst hd
 obtain⟨x,ph,s',M',hr⟩:∃x ph s' M',gn ⟨cf,am,aA,ay,value,bL,aj,reads,ai,av,set,bp,ax,an,aI,aH,ao,.ee w⟩ M w=(x,ph,s',M'):=⟨_,_,_,_,rfl⟩
 have gL:=yd b pb ⟨cf,am,aA,ay,value,bL,aj,reads,ai,av,set,bp,ax,an,aI,aH,ao,.ee w⟩ w M rfl h1 h2
 rw [hr] at gL
 unfold eY
 rw [show cB ⟨cf,am,aA,ay,value,bL,aj,reads,ai,av,set,bp,ax,an,aI,aH,ao,.ee w⟩ M=gn ⟨cf,am,aA,ay,value,bL,aj,reads,ai,av,set,bp,ax,an,aI,aH,ao,.ee w⟩ M w from rfl,hr]
 intro A F hw hS
 refine ab Tryz.func106 rfl (by kernel_rfl) fun _=>?_
 dsimp only [af,ag] at hS
 obtain⟨⟨bD,bJ,aJ,aX,aW,m,c0,c1,c2,aZ,aE,aL,aN,bk,aS,bP,aO,aM,aB,bc,bd,bZ,bl⟩,hS⟩:=bf.open hS .z
 dsimp only [bx,ei,br,b8,aU.dT,af,ag] at hS
 have hq:=eW hS hw
 revert hq hS hw;clear hS;refine Wp (J1 (Tg.mk (n:=21) @gL)) (J4 @AW.aa @ah.eq_1 @bj.eq_1 @ba.v.eq_1) (J1 ?_)<;>unhygienic intros
 all_goals(
  refine⟨_,by simp [hq,AW.aa,ah];rfl,by simp [ba.v,ba.zero,bj],?_⟩
  apply ak.bS
  (·exact sA)
  (·first|exact pP|exact kP))
set_option maxRecDepth 20000 in
set_option maxHeartbeats 4000000 in
theorem ya (b pb:Nat) (s:aT) (w:iQ) (M:Mm) (hd:s.aG=.cD w) (h1:w.os.length=w.ws.length):eY b pb s M:=by
 obtain⟨cf,am,aA,ay,value,bL,aj,reads,ai,av,set,bp,ax,an,aI,aH,ao,aG⟩:=s
 dsimp only at hd
 subst hd
 obtain⟨x,ph,s',M',hr⟩:∃x ph s' M',lL ⟨cf,am,aA,ay,value,bL,aj,reads,ai,av,set,bp,ax,an,aI,aH,ao,.cD w⟩ M w=(x,ph,s',M'):=⟨_,_,_,_,rfl⟩
 have gL:=u6 b pb ⟨cf,am,aA,ay,value,bL,aj,reads,ai,av,set,bp,ax,an,aI,aH,ao,.cD w⟩ w M rfl h1
 rw [hr] at gL
 unfold eY
 rw [show cB ⟨cf,am,aA,ay,value,bL,aj,reads,ai,av,set,bp,ax,an,aI,aH,ao,.cD w⟩ M=lL ⟨cf,am,aA,ay,value,bL,aj,reads,ai,av,set,bp,ax,an,aI,aH,ao,.cD w⟩ M w from rfl,hr]
 intro A F hw hS
 refine ab Tryz.func106 rfl (by kernel_rfl) fun _=>?_
 dsimp only [af,ag] at hS
 obtain⟨⟨bD,bJ,aJ,aX,aW,m,c0,c1,c2,aZ,aE,aL,aN,bk,aS,bP,aO,aM,aB,bc,bd,bZ,bl⟩,hS⟩:=bf.open hS .z
 dsimp only [bx,ei,br,b8,aU.dT,af,ag] at hS
 have hq:=eW hS hw
 revert hq hS hw;clear hS;refine Wp (J1 (Tg.mk (n:=21) @gL)) (J4 @AW.aa @ah.eq_1 @bj.eq_1 @ba.v.eq_1) (J1 ?_)<;>unhygienic intros
 all_goals(
  refine⟨_,by simp [hq,AW.aa,ah];rfl,by simp [ba.v,ba.zero,bj],?_⟩
  apply ak.bS
  (·exact sA)
  (·first|exact pP|exact kP))
set_option maxRecDepth 20000 in
set_option maxHeartbeats 4000000 in
theorem Ca (b pb:Nat) (s:aT) (p:fm) (M:Mm) (hd:s.aG=.eK p) (hC:fA s) (h1:s.ao<s.ai.length):eY b pb s M:=by
 obtain⟨cf,am,aA,ay,value,bL,aj,reads,ai,av,set,bp,ax,an,aI,aH,ao,aG⟩:=s
 dsimp only at hd
 subst hd
 obtain⟨x,ph,s',M',hr⟩:∃x ph s' M',iJ ⟨cf,am,aA,ay,value,bL,aj,reads,ai,av,set,bp,ax,an,aI,aH,ao,.eK p⟩ M p=(x,ph,s',M'):=⟨_,_,_,_,rfl⟩
 have gL:=Ai b pb ⟨cf,am,aA,ay,value,bL,aj,reads,ai,av,set,bp,ax,an,aI,aH,ao,.eK p⟩ p M rfl hC h1
 rw [hr] at gL
 unfold eY
 rw [show cB ⟨cf,am,aA,ay,value,bL,aj,reads,ai,av,set,bp,ax,an,aI,aH,ao,.eK p⟩ M=iJ ⟨cf,am,aA,ay,value,bL,aj,reads,ai,av,set,bp,ax,an,aI,aH,ao,.eK p⟩ M p from rfl,hr]
 intro A F hw hS
 refine ab Tryz.func106 rfl (by kernel_rfl) fun _=>?_
 dsimp only [af,ag] at hS
 obtain⟨⟨bD,bJ,aJ,aX,aW,m,c0,c1,c2,aZ,aE,aL,aN,bk,aS,bP,aO,aM,aB,bc,bd,bZ,bl⟩,hS⟩:=bf.open hS .z
 dsimp only [bx,ei,br,b8,aU.dT,af,ag] at hS
 have hq:=eW hS hw
 revert hq hS hw;clear hS;refine Wp (J1 (Tg.mk (n:=21) @gL)) (J4 @AW.aa @ah.eq_1 @bj.eq_1 @ba.v.eq_1) (J1 ?_)<;>unhygienic intros
 all_goals(
  refine⟨_,by simp [hq,AW.aa,ah];rfl,by simp [ba.v,ba.zero,bj],?_⟩
  apply ak.bS
  (·exact sA)
  (·first|exact pP|exact kP))
end
section
open T17 T10
variable [Gl]
set_option maxRecDepth 20000 in
set_option maxHeartbeats 4000000 in
theorem IG (b pb:Nat) (s:aT) (M:Mm) (hd:s.aG=.bK):eY b pb s M:=by
 obtain⟨cf,am,aA,ay,value,bL,aj,reads,ai,av,set,bp,ax,an,aI,aH,ao,aG⟩:=s
 dsimp only at hd
 subst hd
 unfold eY
 rw [show cB ⟨cf,am,aA,ay,value,bL,aj,reads,ai,av,set,bp,ax,an,aI,aH,ao,.bK⟩ M=(ba.zero,0,⟨cf,am,aA,ay,value,bL,aj,reads,ai,av,set,bp,ax,an,aI,aH,ao,.bK⟩,M) from rfl]
 intro A F hw hS
 refine ab Tryz.func106 rfl (by kernel_rfl) fun _=>?_
 dsimp only [af,ag] at hS
 obtain⟨⟨bD,bJ,aJ,aX,aW,m,c0,c1,c2,aZ,aE,aL,aN,bk,aS,bP,aO,aM,aB,bc,bd,bZ,bl⟩,hS⟩:=bf.open hS .z
 dsimp only [bx,ei,br,b8,aU.dT,af,ag] at hS
 have hq:=eW hS hw
 revert hq hS hw;clear hS;refine Wp trivial (J4 @AW.aa @ah.eq_1 @bj.eq_1 @ba.v.eq_1) (J1 ?_)<;>unhygienic intros
 refine⟨_,by simp [hq,AW.aa,ah];rfl,by simp [ba.v,ba.zero],?_⟩
 apply bf.bS
 (·exact sA)
 (dsimp only [bx,eP,ei,br,b8,aU.dT,ed,cF,cy,dk,cp,dm,eV,cq,cm,bt,dl,dh,eU,di,af,ag])
 try simp only [h]
 (·first|exact pP|exact kP)
 (·first|exact pP|exact kP)
 all_goals(first|exact 0|exact undef)
set_option maxRecDepth 20000 in
set_option maxHeartbeats 4000000 in
theorem Ce (b pb:Nat) (s:aT)  (M:Mm) (hd:s.aG=.gZ .qq) (hC:fA s):eY b pb s M:=by
 obtain⟨cf,am,aA,ay,value,bL,aj,reads,ai,av,set,bp,ax,an,aI,aH,ao,aG⟩:=s
 dsimp only at hd
 subst hd
 have JT:fA ⟨cf,am,aA,ay,value,bL,aj,reads,ai,av,set,bp,ax,an,aI,aH,ao,.bK⟩:=hC.to rfl rfl rfl rfl rfl rfl rfl rfl
 unfold eY
 rw [show cB ⟨cf,am,aA,ay,value,bL,aj,reads,ai,av,set,bp,ax,an,aI,aH,ao,.gZ .qq⟩ M=(ba.zero,0,rU ⟨cf,am,aA,ay,value,bL,aj,reads,ai,av,set,bp,ax,an,aI,aH,ao,.bK⟩ .qq,M) from rfl]
 intro A F hw hS
 refine ab Tryz.func106 rfl (by kernel_rfl) fun _=>?_
 dsimp only [af,ag] at hS
 obtain⟨⟨bD,bJ,aJ,aX,aW,m,c0,c1,c2,aZ,aE,aL,aN,bk,aS,bP,aO,aM,aB,bc,bd,bZ,bl⟩,hS⟩:=bf.open hS .z
 dsimp only [bx,ei,br,b8,aU.dT,af,ag] at hS
 have hq:=eW hS hw
 revert hq hS hw;clear hS;refine Wp (J1 (Tg.mk (n:=21) (BY b c0 ⟨cf,am,aA,ay,value,bL,aj,reads,ai,av,set,bp,ax,an,aI,aH,ao,.bK⟩ rfl JT))) (J4 @AW.aa @ah.eq_1 @bj.eq_1 @ba.v.eq_1) (J1 ?_)<;>unhygienic intros
 all_goals(
  refine⟨_,by simp [hq,AW.aa,ah];rfl,by simp [ba.v,ba.zero,bj],?_⟩
  apply ak.bS
  (·exact sA)
  (·first|exact pP|exact kP))
set_option maxRecDepth 20000 in
set_option maxHeartbeats 4000000 in
theorem Cg (b pb:Nat) (s:aT)  (M:Mm) (hd:s.aG=.gZ .L4) (hC:fA s):eY b pb s M:=by
 obtain⟨cf,am,aA,ay,value,bL,aj,reads,ai,av,set,bp,ax,an,aI,aH,ao,aG⟩:=s
 dsimp only at hd
 subst hd
 have JT:fA ⟨cf,am,aA,ay,value,bL,aj,reads,ai,av,set,bp,ax,an,aI,aH,ao,.bK⟩:=hC.to rfl rfl rfl rfl rfl rfl rfl rfl
 unfold eY
 rw [show cB ⟨cf,am,aA,ay,value,bL,aj,reads,ai,av,set,bp,ax,an,aI,aH,ao,.gZ .L4⟩ M=(ba.zero,0,rU ⟨cf,am,aA,ay,value,bL,aj,reads,ai,av,set,bp,ax,an,aI,aH,ao,.bK⟩ .L4,M) from rfl]
 intro A F hw hS
 refine ab Tryz.func106 rfl (by kernel_rfl) fun _=>?_
 dsimp only [af,ag] at hS
 obtain⟨⟨bD,bJ,aJ,aX,aW,m,c0,c1,c2,aZ,aE,aL,aN,bk,aS,bP,aO,aM,aB,bc,bd,bZ,bl⟩,hS⟩:=bf.open hS .z
 dsimp only [bx,ei,br,b8,aU.dT,af,ag] at hS
 have hq:=eW hS hw
 revert hq hS hw;clear hS;refine Wp (J1 (Tg.mk (n:=21) (B5 b c0 ⟨cf,am,aA,ay,value,bL,aj,reads,ai,av,set,bp,ax,an,aI,aH,ao,.bK⟩ rfl JT))) (J4 @AW.aa @ah.eq_1 @bj.eq_1 @ba.v.eq_1) (J1 ?_)<;>unhygienic intros
 all_goals(
  refine⟨_,by simp [hq,AW.aa,ah];rfl,by simp [ba.v,ba.zero,bj],?_⟩
  apply ak.bS
  (·exact sA)
  (·first|exact pP|exact kP))
set_option maxRecDepth 20000 in
set_option maxHeartbeats 4000000 in
theorem Cf (b pb:Nat) (s:aT) (ec:Int) (M:Mm) (hd:s.aG=.gZ (.bS ec)) (hC:fA s):eY b pb s M:=by
 obtain⟨cf,am,aA,ay,value,bL,aj,reads,ai,av,set,bp,ax,an,aI,aH,ao,aG⟩:=s
 dsimp only at hd
 subst hd
 have JT:fA ⟨cf,am,aA,ay,value,bL,aj,reads,ai,av,set,bp,ax,an,aI,aH,ao,.bK⟩:=hC.to rfl rfl rfl rfl rfl rfl rfl rfl
 unfold eY
 rw [show cB ⟨cf,am,aA,ay,value,bL,aj,reads,ai,av,set,bp,ax,an,aI,aH,ao,.gZ (.bS ec)⟩ M=(ba.zero,0,rU ⟨cf,am,aA,ay,value,bL,aj,reads,ai,av,set,bp,ax,an,aI,aH,ao,.bK⟩ (.bS ec),M) from rfl]
 intro A F hw hS
 refine ab Tryz.func106 rfl (by kernel_rfl) fun _=>?_
 dsimp only [af,ag] at hS
 obtain⟨⟨bD,bJ,aJ,aX,aW,m,c0,c1,c2,aZ,aE,aL,aN,bk,aS,bP,aO,aM,aB,bc,bd,bZ,bl⟩,hS⟩:=bf.open hS .z
 dsimp only [bx,ei,br,b8,aU.dT,af,ag] at hS
 have hq:=eW hS hw
 revert hq hS hw;clear hS;refine Wp (J1 (Tg.mk (n:=21) (BZ b c0 c1 ⟨cf,am,aA,ay,value,bL,aj,reads,ai,av,set,bp,ax,an,aI,aH,ao,.bK⟩ ec rfl JT))) (J4 @AW.aa @ah.eq_1 @bj.eq_1 @ba.v.eq_1) (J1 ?_)<;>unhygienic intros
 all_goals(
  refine⟨_,by simp [hq,AW.aa,ah];rfl,by simp [ba.v,ba.zero,bj],?_⟩
  apply ak.bS
  (·exact sA)
  (·first|exact pP|exact kP))
set_option maxRecDepth 20000 in
set_option maxHeartbeats 4000000 in
theorem Ac (b pb:Nat) (s:aT) (lv:Int) (M:Mm) (hd:s.aG=.gZ (.take lv)) (hC:fA s):eY b pb s M:=by
 obtain⟨cf,am,aA,ay,value,bL,aj,reads,ai,av,set,bp,ax,an,aI,aH,ao,aG⟩:=s
 dsimp only at hd
 subst hd
 have JT:fA ⟨cf,am,aA,ay,value,bL,aj,reads,ai,av,set,bp,ax,an,aI,aH,ao,.bK⟩:=hC.to rfl rfl rfl rfl rfl rfl rfl rfl
 unfold eY
 rw [show cB ⟨cf,am,aA,ay,value,bL,aj,reads,ai,av,set,bp,ax,an,aI,aH,ao,.gZ (.take lv)⟩ M=(ba.zero,0,rU ⟨cf,am,aA,ay,value,bL,aj,reads,ai,av,set,bp,ax,an,aI,aH,ao,.bK⟩ (.take lv),M) from rfl]
 intro A F hw hS
 refine ab Tryz.func106 rfl (by kernel_rfl) fun _=>?_
 dsimp only [af,ag] at hS
 obtain⟨⟨bD,bJ,aJ,aX,aW,m,c0,c1,c2,aZ,aE,aL,aN,bk,aS,bP,aO,aM,aB,bc,bd,bZ,bl⟩,hS⟩:=bf.open hS .z
 dsimp only [bx,ei,br,b8,aU.dT,af,ag] at hS
 have hq:=eW hS hw
 revert hq hS hw;clear hS;refine Wp (J1 (Tg.mk (n:=21) (zX b c0 c1 c2 ⟨cf,am,aA,ay,value,bL,aj,reads,ai,av,set,bp,ax,an,aI,aH,ao,.bK⟩ lv rfl))) (J4 @AW.aa @ah.eq_1 @bj.eq_1 @ba.v.eq_1) (J1 ?_)<;>unhygienic intros
 all_goals(
  refine⟨_,by simp [hq,AW.aa,ah];rfl,by simp [ba.v,ba.zero,bj],?_⟩
  apply ak.bS
  (·exact sA)
  (·first|exact pP|exact kP))
set_option maxRecDepth 20000 in
set_option maxHeartbeats 4000000 in
theorem yb (b pb:Nat) (s:aT) (la lv:Int) (M:Mm) (hd:s.aG=.gZ (.k4 la lv)) (hC:fA s) (Xa:0≤la):eY b pb s M:=by
 obtain⟨cf,am,aA,ay,value,bL,aj,reads,ai,av,set,bp,ax,an,aI,aH,ao,aG⟩:=s
 dsimp only at hd
 subst hd
 have JT:fA ⟨cf,am,aA,ay,value,bL,aj,reads,ai,av,set,bp,ax,an,aI,aH,ao,.bK⟩:=hC.to rfl rfl rfl rfl rfl rfl rfl rfl
 unfold eY
 rw [show cB ⟨cf,am,aA,ay,value,bL,aj,reads,ai,av,set,bp,ax,an,aI,aH,ao,.gZ (.k4 la lv)⟩ M=(ba.zero,0,rU ⟨cf,am,aA,ay,value,bL,aj,reads,ai,av,set,bp,ax,an,aI,aH,ao,.bK⟩ (.k4 la lv),M) from rfl]
 intro A F hw hS
 refine ab Tryz.func106 rfl (by kernel_rfl) fun _=>?_
 dsimp only [af,ag] at hS
 obtain⟨⟨bD,bJ,aJ,aX,aW,m,c0,c1,c2,aZ,aE,aL,aN,bk,aS,bP,aO,aM,aB,bc,bd,bZ,bl⟩,hS⟩:=bf.open hS .z
 dsimp only [bx,ei,br,b8,aU.dT,af,ag] at hS
 have hq:=eW hS hw
 revert hq hS hw;clear hS;refine Wp (J1 (Tg.mk (n:=21) (xW b c0 c1 c2 ⟨cf,am,aA,ay,value,bL,aj,reads,ai,av,set,bp,ax,an,aI,aH,ao,.bK⟩ la lv rfl JT Xa))) (J4 @AW.aa @ah.eq_1 @bj.eq_1 @ba.v.eq_1) (J1 ?_)<;>unhygienic intros
 all_goals(
  refine⟨_,by simp [hq,AW.aa,ah];rfl,by simp [ba.v,ba.zero,bj],?_⟩
  apply ak.bS
  (·exact sA)
  (·first|exact pP|exact kP))
set_option maxRecDepth 20000 in
set_option maxHeartbeats 4000000 in
theorem Ad (b pb:Nat) (s:aT)  (M:Mm) (hd:s.aG=.gZ .y6) (hC:fA s):eY b pb s M:=by
 obtain⟨cf,am,aA,ay,value,bL,aj,reads,ai,av,set,bp,ax,an,aI,aH,ao,aG⟩:=s
 dsimp only at hd
 subst hd
 have JT:fA ⟨cf,am,aA,ay,value,bL,aj,reads,ai,av,set,bp,ax,an,aI,aH,ao,.bK⟩:=hC.to rfl rfl rfl rfl rfl rfl rfl rfl
 unfold eY
 rw [show cB ⟨cf,am,aA,ay,value,bL,aj,reads,ai,av,set,bp,ax,an,aI,aH,ao,.gZ .y6⟩ M=(ba.zero,0,rU ⟨cf,am,aA,ay,value,bL,aj,reads,ai,av,set,bp,ax,an,aI,aH,ao,.bK⟩ .y6,M) from rfl]
 intro A F hw hS
 refine ab Tryz.func106 rfl (by kernel_rfl) fun _=>?_
 dsimp only [af,ag] at hS
 obtain⟨⟨bD,bJ,aJ,aX,aW,m,c0,c1,c2,aZ,aE,aL,aN,bk,aS,bP,aO,aM,aB,bc,bd,bZ,bl⟩,hS⟩:=bf.open hS .z
 dsimp only [bx,ei,br,b8,aU.dT,af,ag] at hS
 have hq:=eW hS hw
 revert hq hS hw;clear hS;refine Wp (J1 (Tg.mk (n:=21) (zY b c0 ⟨cf,am,aA,ay,value,bL,aj,reads,ai,av,set,bp,ax,an,aI,aH,ao,.bK⟩ rfl JT))) (J4 @AW.aa @ah.eq_1 @bj.eq_1 @ba.v.eq_1) (J1 ?_)<;>unhygienic intros
 all_goals(
  refine⟨_,by simp [hq,AW.aa,ah];rfl,by simp [ba.v,ba.zero,bj],?_⟩
  apply ak.bS
  (·exact sA)
  (·first|exact pP|exact kP))
set_option maxRecDepth 20000 in
set_option maxHeartbeats 4000000 in
theorem yc (b pb:Nat) (s:aT) (lk lv:Int) (M:Mm) (hd:s.aG=.gZ (.cM lk lv)) (hC:fA s) (Lx:0≤lk∧lk<s.cf.nb):eY b pb s M:=by
 obtain⟨cf,am,aA,ay,value,bL,aj,reads,ai,av,set,bp,ax,an,aI,aH,ao,aG⟩:=s
 dsimp only at hd
 subst hd
 have JT:fA ⟨cf,am,aA,ay,value,bL,aj,reads,ai,av,set,bp,ax,an,aI,aH,ao,.bK⟩:=hC.to rfl rfl rfl rfl rfl rfl rfl rfl
 unfold eY
 rw [show cB ⟨cf,am,aA,ay,value,bL,aj,reads,ai,av,set,bp,ax,an,aI,aH,ao,.gZ (.cM lk lv)⟩ M=(ba.zero,0,rU ⟨cf,am,aA,ay,value,bL,aj,reads,ai,av,set,bp,ax,an,aI,aH,ao,.bK⟩ (.cM lk lv),M) from rfl]
 intro A F hw hS
 refine ab Tryz.func106 rfl (by kernel_rfl) fun _=>?_
 dsimp only [af,ag] at hS
 obtain⟨⟨bD,bJ,aJ,aX,aW,m,c0,c1,c2,aZ,aE,aL,aN,bk,aS,bP,aO,aM,aB,bc,bd,bZ,bl⟩,hS⟩:=bf.open hS .z
 dsimp only [bx,ei,br,b8,aU.dT,af,ag] at hS
 have hq:=eW hS hw
 revert hq hS hw;clear hS;refine Wp (J1 (Tg.mk (n:=21) (xX b c0 c1 c2 ⟨cf,am,aA,ay,value,bL,aj,reads,ai,av,set,bp,ax,an,aI,aH,ao,.bK⟩ lk lv rfl JT Lx))) (J4 @AW.aa @ah.eq_1 @bj.eq_1 @ba.v.eq_1) (J1 ?_)<;>unhygienic intros
 all_goals(
  refine⟨_,by simp [hq,AW.aa,ah];rfl,by simp [ba.v,ba.zero,bj],?_⟩
  apply ak.bS
  (·exact sA)
  (·first|exact pP|exact kP))
set_option maxRecDepth 20000 in
set_option maxHeartbeats 4000000 in
theorem Ab (b pb:Nat) (s:aT) (M:Mm) (hd:s.aG=.gV):eY b pb s M:=by
 obtain⟨cf,am,aA,ay,value,bL,aj,reads,ai,av,set,bp,ax,an,aI,aH,ao,aG⟩:=s
 dsimp only at hd
 subst hd
 unfold eY
 rw [show cB ⟨cf,am,aA,ay,value,bL,aj,reads,ai,av,set,bp,ax,an,aI,aH,ao,.gV⟩ M=(zN M 3 0 (IntKind.u64.wrap (ax+1)),19,⟨cf,am,aA,ay,value,bL,aj,reads,ai,av,set,bp,ax,an,aI,aH,ao,.fL⟩,Ck M 3 0 (IntKind.u64.wrap (ax+1))) from rfl]
 intro A F hw hS
 refine ab Tryz.func106 rfl (by kernel_rfl) fun _=>?_
 dsimp only [af,ag] at hS
 obtain⟨⟨bD,bJ,aJ,aX,aW,m,c0,c1,c2,aZ,aE,aL,aN,bk,aS,bP,aO,aM,aB,bc,bd,bZ,bl⟩,hS⟩:=bf.open hS .z
 dsimp only [bx,ei,br,b8,aU.dT,af,ag] at hS
 have hq:=eW hS hw
 revert hq hS hw;clear hS;refine Wp (J1 (QC pb)) (J4 @AW.aa @ah.eq_1 @bj.eq_1 @ba.v.eq_1) (J1 ?_)<;>unhygienic intros
 refine⟨_,by simp [hq,AW.aa,ah];rfl,by first|(simp [ba.v];done)|(simp [ba.v,h];done),?_⟩
 apply bf.bS
 (·exact sA)
 (dsimp only [bx,eP,ei,br,b8,aU.dT,ed,cF,cy,dk,cp,dm,eV,cq,cm,bt,dl,dh,eU,di,af,ag])
 try simp only [h]
 (·first|exact pP|exact kP)
 (·first|exact pP|exact kP)
 all_goals(first|exact 0|exact undef)
set_option maxRecDepth 20000 in
set_option maxHeartbeats 4000000 in
theorem Cc (b pb:Nat) (s:aT) (t:ju) (M:Mm) (hd:s.aG=.fL) (hC:fA s) (he:s.aH=some t):eY b pb s M:=by
 obtain⟨cf,am,aA,ay,value,bL,aj,reads,ai,av,set,bp,ax,an,aI,aH,ao,aG⟩:=s
 dsimp only at hd
 subst hd
 dsimp only at he
 subst he
 unfold eY
 rw [show cB ⟨cf,am,aA,ay,value,bL,aj,reads,ai,av,set,bp,ax,an,aI,some t,ao,.fL⟩ M=(zN M 5 0 (yz t.dT),20,gJ ⟨cf,am,aA,ay,value,bL,aj,reads,ai,av,set,bp,ax,an,aI,some t,ao,.fL⟩,Ck M 5 0 (yz t.dT)) from rfl]
 intro A F hw hS
 refine ab Tryz.func106 rfl (by kernel_rfl) fun _=>?_
 dsimp only [af,ag] at hS
 obtain⟨⟨bD,bJ,aJ,aX,aW,m,c0,c1,c2,aZ,aE,aL,aN,bk,aS,bP,aO,aM,aB,bc,bd,bZ,bl⟩,hS⟩:=bf.open hS .z
 dsimp only [bx,ei,br,b8,aU.dT,af,ag] at hS
 have hq:=eW hS hw
 have hS:=ru.op hS (.s (.s (.s .z)))
 have hq:=eW hS hw
 revert hq hS hw;clear hq;clear hS;clear hS;refine Wp (J3 (Tg.mk (n:=10) @xU) (Tg.mk (n:=20) (q8 b ⟨cf,am,aA,ay,value,bL,aj,reads,ai,av,set,bp,ax,an,aI,some t,ao,.fL⟩ 12 .fL hC.cf hC.al hC.push (Nat.lt_of_le_of_lt hC.kT (by decide)))) (IQ pb t.dT M)) (J6 @cy.eq_1 @cy.eq_2 @AW.aa @ah.eq_1 @bj.eq_1 @ba.v.eq_1) (J1 ?_)<;>unhygienic intros
 all_goals(
  refine⟨_,by simp [hq,AW.aa,ah];rfl,by simp [ba.v,ba.zero,bj],?_⟩
  apply ak.bS
  (·exact sA)
  (·first|exact pP|exact kP))
set_option maxRecDepth 20000 in
set_option maxHeartbeats 4000000 in
theorem Ch (b pb:Nat) (s:aT) (M:Mm) (hd:s.aG=.hP):eY b pb s M:=by
 obtain⟨cf,am,aA,ay,value,bL,aj,reads,ai,av,set,bp,ax,an,aI,aH,ao,aG⟩:=s
 dsimp only at hd
 subst hd
 unfold eY
 rw [show cB ⟨cf,am,aA,ay,value,bL,aj,reads,ai,av,set,bp,ax,an,aI,aH,ao,.hP⟩ M=(zN M 6 am 0,24,⟨cf,am,2,ay,value,bL,aj,reads,ai,av,set,bp,ax,an,aI,aH,ao,.bK⟩,Ck M 6 am 0) from rfl]
 intro A F hw hS
 refine ab Tryz.func106 rfl (by kernel_rfl) fun _=>?_
 dsimp only [af,ag] at hS
 obtain⟨⟨bD,bJ,aJ,aX,aW,m,c0,c1,c2,aZ,aE,aL,aN,bk,aS,bP,aO,aM,aB,bc,bd,bZ,bl⟩,hS⟩:=bf.open hS .z
 dsimp only [bx,ei,br,b8,aU.dT,af,ag] at hS
 have hq:=eW hS hw
 revert hq hS hw;clear hS;refine Wp (J1 (Gz pb am M)) (J4 @AW.aa @ah.eq_1 @bj.eq_1 @ba.v.eq_1) (J1 ?_)<;>unhygienic intros
 refine⟨_,by simp [hq,AW.aa,ah];rfl,by first|(simp [ba.v];done)|(simp [ba.v,h];done),?_⟩
 apply bf.bS
 (·exact sA)
 (dsimp only [bx,eP,ei,br,b8,aU.dT,ed,cF,cy,dk,cp,dm,eV,cq,cm,bt,dl,dh,eU,di,af,ag])
 try simp only [h]
 (·first|exact pP|exact kP)
 (·first|exact pP|exact kP)
 all_goals(first|exact 0|exact undef)
theorem II (b pb:Nat) (s:aT) (M:Mm) (h:Dy s M):eY b pb s M:=by
 obtain⟨hC,hD⟩:=h
 have I2:s.set.length<2^38:=by
  have h1:=hC.set
  have h2:=hC.cf.reads
  omega
 cases hd:s.aG with
 | bK=>exact IG b pb s M hd
 | gZ k=>
   rw [hd] at hD
   cases k with
   | qq=>exact Ce b pb s M hd hC
   | L4=>exact Cg b pb s M hd hC
   | bS c=>exact Cf b pb s c M hd hC
   | take v=>exact Ac b pb s v M hd hC
   | k4 a v=>exact yb b pb s a v M hd hC hD
   | y6=>exact Ad b pb s M hd hC
   | cM k v=>exact yc b pb s k v M hd hC hD
 | eN=>
   rw [hd] at hD
   obtain⟨e,he⟩:=hD
   exact Ae b pb s e M hd he
 | bm c u=>
   rw [hd] at hD
   obtain⟨h1,h2,h3,h4⟩:=hD
   cases u with
   | take=>exact FT b pb s c M hd hC h1 h2 h3
   | cM k=>exact FU b pb s c k M hd hC h1 h2 h3 h4
 | eL p=>
   rw [hd] at hD
   exact Cb b pb s p M hd hC hD.1 hD.2.1 hD.2.2
 | eR=>
   rw [hd] at hD
   obtain⟨l,h1,h2,h3⟩:=hD
   exact Cd b pb s l M hd h1 h2 h3
 | db=>
   rw [hd] at hD
   obtain⟨t,h1⟩:=hD
   exact B9 b pb s t M hd h1 I2
 | dM c=>
   rw [hd] at hD
   exact Ag b pb s c M hd hD
 | cu=>
   rw [hd] at hD
   exact Af b pb s M hd hC hD
 | ee w=>
   rw [hd] at hD
   exact B8 b pb s w M hd hD.1 hD.2
 | cD w=>
   rw [hd] at hD
   exact ya b pb s w M hd hD
 | gV=>exact Ab b pb s M hd
 | fL=>
   rw [hd] at hD
   obtain⟨t,h1⟩:=hD
   exact Cc b pb s t M hd hC h1
 | eK p=>
   rw [hd] at hD
   exact Ca b pb s p M hd hC hD
 | hP=>exact Ch b pb s M hd
end
end Go.Stx
