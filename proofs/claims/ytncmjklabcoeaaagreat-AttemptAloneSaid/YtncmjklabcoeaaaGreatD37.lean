/-
 The program's attempt: a step.
-/
import Derived.Test.YtncmjklabcoeaaaGreatD30
import Derived.Test.YtncmjklabcoeaaaGreatD34
import Derived.Test.YtncmjklabcoeaaaGreatD31
import Derived.Test.YtncmjklabcoeaaaGreatD36
set_option linter.unusedVariables false
set_option linter.unusedSimpArgs false
set_option maxRecDepth 20000
set_option maxHeartbeats 4000000
namespace Go.Stx
open Go Go.Proofs
attribute [local irreducible] fj cm aH bB dK ei
open T23 T16
def Mj (s:aD):Prop:=s.aj.length<2^20∧(s.aj.length=0∨∃l,s.aG=some l∧s.aj.length=l.dH.length)
def Su (s:aD):vu→Prop
 | .fu a _=>0≤a
 | .cM k _=>0≤k∧k<s.cf.nb
 | _=>True
def St (s:aD):qX→Prop
 | .take=>True
 | .cM k=>0≤k∧k<s.cf.nb
def U6 (s:aD) (M:Mm):ba→Prop
 | .jV k=>Su s k
 | .ej=>∃e,s.br=some e
 | .bz c u=>s.ah.length+1<2^20∧(0≤c.cj∧c.cj≤2)∧c.dl=fJ s.cf c.cA∧St s u
 | .eE p=>s.ac.length<8∧(0≤p.dB∧p.dB≤3)∧(fx p M).2.1.block<s.cf.nb
 | .fF=>∃l,s.aG=some l∧l.dH.length≤l.aj.length∧l.aj.length<2^38
 | .dI=>∃t,s.aE=some t
 | .dG _=>Mj s
 | .cN=>Mj s
 | .et w=>w.os.length=w.ws.length∧s.aj.length<2^20
 | .cK w=>w.os.length=w.ws.length
 | .fm=>∃t,s.aE=some t
 | .eZ _=>s.am<s.ac.length
 | _=>True
structure Mi (s:aD) (M:Mm):Prop where
 c:ep s
 d:U6 s M s.aA
def fM (b pb:Nat) (s:aD) (M:Mm):Prop:=
 aP Tryz.prog 15 [pv b,pv pb] [.h (bI b s),eb pb M] (fun v=>v=.tuple #[(cD s M).1.v,.int .i64 (cD s M).2.1])
  (fun _=>[.h (bI b (cD s M).2.2.1),eb pb (cD s M).2.2.2])
theorem AM (b pb:Nat) (s:aD) (en:dC) (M:Mm) (hd:s.aA=.ej) (he:s.br=some en):fM b pb s M:=by
 obtain⟨cf,ag,av,ax,value,br,ai,ah,ac,ap,set,aM,ao,aj,aG,aE,am,aA⟩:=s
 dsimp only at hd
 subst hd
 dsimp only at he
 subst he
 obtain⟨x,ph,s',M',hr⟩:∃x ph s' M',gD ⟨cf,ag,av,ax,value,some en,ai,ah,ac,ap,set,aM,ao,aj,aG,aE,am,.ej⟩ M en=(x,ph,s',M'):=⟨_,_,_,_,rfl⟩
 have jE:=yi b pb ⟨cf,ag,av,ax,value,some en,ai,ah,ac,ap,set,aM,ao,aj,aG,aE,am,.ej⟩ en M rfl rfl
 rw [hr] at jE
 unfold fM
 rw [show cD ⟨cf,ag,av,ax,value,some en,ai,ah,ac,ap,set,aM,ao,aj,aG,aE,am,.ej⟩ M=gD ⟨cf,ag,av,ax,value,some en,ai,ah,ac,ap,set,aM,ao,aj,aG,aE,am,.ej⟩ M en from rfl,hr]
 intro A F hw hS
 refine ab Tryz.func15 rfl (by kernel_rfl) fun _=>?_
 dsimp only [na,zo] at hS
 obtain⟨⟨bh,aY,az,aJ,aK,m,c0,c1,c2,bx,aw,aB,aV,bQ,bg,cE,aW,aU,aC,bA,bC,cP,bR⟩,hS⟩:=bI.open hS .z
 dsimp only [cg,fq,bW,da,ba.eo,na,zo] at hS
 have hq:=ZO hS hw
 revert hq hS hw;clear hS;have gR:=trivial;refine Wp (J1 (Tg.mk (n:=21) @jE)) (J4 @AW.aa @af.eq_1 @aS.eq_1 @bq.v.eq_1) (J1 ?_)<;>unhygienic intros
 all_goals(
  refine⟨_,by simp [hq,AW.aa,af];rfl,by simp [bq.v,bq.zero,aS],?_⟩
  apply an.cC
  (·exact sA)
  (·first|exact pP|exact kP))
theorem G7 (b pb:Nat) (s:aD) (c:dY) (M:Mm) (hd:s.aA=.bz c .take) (hC:ep s) (h1:s.ah.length+1<2^20) (h2:0≤c.cj∧c.cj≤2) (h3:c.dl=fJ s.cf c.cA):fM b pb s M:=by
 obtain⟨cf,ag,av,ax,value,br,ai,ah,ac,ap,set,aM,ao,aj,aG,aE,am,aA⟩:=s
 dsimp only at hd
 subst hd
 obtain⟨x,ph,s',M',hr⟩:∃x ph s' M',dZ ⟨cf,ag,av,ax,value,br,ai,ah,ac,ap,set,aM,ao,aj,aG,aE,am,.bz c .take⟩ M c .take=(x,ph,s',M'):=⟨_,_,_,_,rfl⟩
 have jE:=yg b pb ⟨cf,ag,av,ax,value,br,ai,ah,ac,ap,set,aM,ao,aj,aG,aE,am,.bz c .take⟩ c M rfl hC h1 h2 h3
 rw [hr] at jE
 unfold fM
 rw [show cD ⟨cf,ag,av,ax,value,br,ai,ah,ac,ap,set,aM,ao,aj,aG,aE,am,.bz c .take⟩ M=dZ ⟨cf,ag,av,ax,value,br,ai,ah,ac,ap,set,aM,ao,aj,aG,aE,am,.bz c .take⟩ M c .take from rfl,hr]
 intro A F hw hS
 refine ab Tryz.func15 rfl (by kernel_rfl) fun _=>?_
 dsimp only [na,zo] at hS
 obtain⟨⟨bh,aY,az,aJ,aK,m,c0,c1,c2,bx,aw,aB,aV,bQ,bg,cE,aW,aU,aC,bA,bC,cP,bR⟩,hS⟩:=bI.open hS .z
 dsimp only [cg,fq,bW,da,ba.eo,na,zo] at hS
 have hq:=ZO hS hw
 revert hq hS hw;clear hS;have gR:=trivial;refine Wp (J1 (Tg.mk (n:=21) @jE)) (J4 @AW.aa @af.eq_1 @aS.eq_1 @bq.v.eq_1) (J1 ?_)<;>unhygienic intros
 all_goals(
  refine⟨_,by simp [hq,AW.aa,af];rfl,by simp [bq.v,bq.zero,aS],?_⟩
  apply an.cC
  (·exact sA)
  (·first|exact pP|exact kP))
theorem G8 (b pb:Nat) (s:aD) (c:dY) (kb:Int) (M:Mm) (hd:s.aA=.bz c (.cM kb)) (hC:ep s) (h1:s.ah.length+1<2^20) (h2:0≤c.cj∧c.cj≤2) (h3:c.dl=fJ s.cf c.cA) (h4:0≤kb∧kb<s.cf.nb):fM b pb s M:=by
 obtain⟨cf,ag,av,ax,value,br,ai,ah,ac,ap,set,aM,ao,aj,aG,aE,am,aA⟩:=s
 dsimp only at hd
 subst hd
 obtain⟨x,ph,s',M',hr⟩:∃x ph s' M',dZ ⟨cf,ag,av,ax,value,br,ai,ah,ac,ap,set,aM,ao,aj,aG,aE,am,.bz c (.cM kb)⟩ M c (.cM kb)=(x,ph,s',M'):=⟨_,_,_,_,rfl⟩
 have jE:=yh b pb ⟨cf,ag,av,ax,value,br,ai,ah,ac,ap,set,aM,ao,aj,aG,aE,am,.bz c (.cM kb)⟩ c kb M rfl hC h1 h2 h3 h4
 rw [hr] at jE
 unfold fM
 rw [show cD ⟨cf,ag,av,ax,value,br,ai,ah,ac,ap,set,aM,ao,aj,aG,aE,am,.bz c (.cM kb)⟩ M=dZ ⟨cf,ag,av,ax,value,br,ai,ah,ac,ap,set,aM,ao,aj,aG,aE,am,.bz c (.cM kb)⟩ M c (.cM kb) from rfl,hr]
 intro A F hw hS
 refine ab Tryz.func15 rfl (by kernel_rfl) fun _=>?_
 dsimp only [na,zo] at hS
 obtain⟨⟨bh,aY,az,aJ,aK,m,c0,c1,c2,bx,aw,aB,aV,bQ,bg,cE,aW,aU,aC,bA,bC,cP,bR⟩,hS⟩:=bI.open hS .z
 dsimp only [cg,fq,bW,da,ba.eo,na,zo] at hS
 have hq:=ZO hS hw
 revert hq hS hw;clear hS;have gR:=trivial;refine Wp (J1 (Tg.mk (n:=21) @jE)) (J4 @AW.aa @af.eq_1 @aS.eq_1 @bq.v.eq_1) (J1 ?_)<;>unhygienic intros
 all_goals(
  refine⟨_,by simp [hq,AW.aa,af];rfl,by simp [bq.v,bq.zero,aS],?_⟩
  apply an.cC
  (·exact sA)
  (·first|exact pP|exact kP))
theorem CP (b pb:Nat) (s:aD) (p:mN) (M:Mm) (hd:s.aA=.eE p) (hC:ep s) (h1:s.ac.length<8) (h2:0≤p.dB∧p.dB≤3) (h3:(fx p M).2.1.block<s.cf.nb):fM b pb s M:=by
 obtain⟨cf,ag,av,ax,value,br,ai,ah,ac,ap,set,aM,ao,aj,aG,aE,am,aA⟩:=s
 dsimp only at hd
 subst hd
 obtain⟨x,ph,s',M',hr⟩:∃x ph s' M',mE ⟨cf,ag,av,ax,value,br,ai,ah,ac,ap,set,aM,ao,aj,aG,aE,am,.eE p⟩ M p=(x,ph,s',M'):=⟨_,_,_,_,rfl⟩
 have jE:=CX b pb ⟨cf,ag,av,ax,value,br,ai,ah,ac,ap,set,aM,ao,aj,aG,aE,am,.eE p⟩ p M rfl hC h1 h2 h3 (wI p M)
 rw [hr] at jE
 unfold fM
 rw [show cD ⟨cf,ag,av,ax,value,br,ai,ah,ac,ap,set,aM,ao,aj,aG,aE,am,.eE p⟩ M=mE ⟨cf,ag,av,ax,value,br,ai,ah,ac,ap,set,aM,ao,aj,aG,aE,am,.eE p⟩ M p from rfl,hr]
 intro A F hw hS
 refine ab Tryz.func15 rfl (by kernel_rfl) fun _=>?_
 dsimp only [na,zo] at hS
 obtain⟨⟨bh,aY,az,aJ,aK,m,c0,c1,c2,bx,aw,aB,aV,bQ,bg,cE,aW,aU,aC,bA,bC,cP,bR⟩,hS⟩:=bI.open hS .z
 dsimp only [cg,fq,bW,da,ba.eo,na,zo] at hS
 have hq:=ZO hS hw
 revert hq hS hw;clear hS;have gR:=trivial;refine Wp (J1 (Tg.mk (n:=21) @jE)) (J4 @AW.aa @af.eq_1 @aS.eq_1 @bq.v.eq_1) (J1 ?_)<;>unhygienic intros
 all_goals(
  refine⟨_,by simp [hq,AW.aa,af];rfl,by simp [bq.v,bq.zero,aS],?_⟩
  apply an.cC
  (·exact sA)
  (·first|exact pP|exact kP))
theorem CR (b pb:Nat) (s:aD) (l:eM) (M:Mm) (hd:s.aA=.fF) (he:s.aG=some l) (h1:l.dH.length≤l.aj.length) (h2:l.aj.length<2^38):fM b pb s M:=by
 obtain⟨cf,ag,av,ax,value,br,ai,ah,ac,ap,set,aM,ao,aj,aG,aE,am,aA⟩:=s
 dsimp only at hd
 subst hd
 dsimp only at he
 subst he
 obtain⟨x,ph,s',M',hr⟩:∃x ph s' M',jk ⟨cf,ag,av,ax,value,br,ai,ah,ac,ap,set,aM,ao,aj,some l,aE,am,.fF⟩ M l=(x,ph,s',M'):=⟨_,_,_,_,rfl⟩
 have jE:=AR b pb ⟨cf,ag,av,ax,value,br,ai,ah,ac,ap,set,aM,ao,aj,some l,aE,am,.fF⟩ l M rfl rfl h1 h2
 rw [hr] at jE
 unfold fM
 rw [show cD ⟨cf,ag,av,ax,value,br,ai,ah,ac,ap,set,aM,ao,aj,some l,aE,am,.fF⟩ M=jk ⟨cf,ag,av,ax,value,br,ai,ah,ac,ap,set,aM,ao,aj,some l,aE,am,.fF⟩ M l from rfl,hr]
 intro A F hw hS
 refine ab Tryz.func15 rfl (by kernel_rfl) fun _=>?_
 dsimp only [na,zo] at hS
 obtain⟨⟨bh,aY,az,aJ,aK,m,c0,c1,c2,bx,aw,aB,aV,bQ,bg,cE,aW,aU,aC,bA,bC,cP,bR⟩,hS⟩:=bI.open hS .z
 dsimp only [cg,fq,bW,da,ba.eo,na,zo] at hS
 have hq:=ZO hS hw
 revert hq hS hw;clear hS;have gR:=trivial;refine Wp (J1 (Tg.mk (n:=21) @jE)) (J4 @AW.aa @af.eq_1 @aS.eq_1 @bq.v.eq_1) (J1 ?_)<;>unhygienic intros
 all_goals(
  refine⟨_,by simp [hq,AW.aa,af];rfl,by simp [bq.v,bq.zero,aS],?_⟩
  apply an.cC
  (·exact sA)
  (·first|exact pP|exact kP))
theorem CN (b pb:Nat) (s:aD) (t:fL) (M:Mm) (hd:s.aA=.dI) (he:s.aE=some t) (h1:s.set.length<2^38):fM b pb s M:=by
 obtain⟨cf,ag,av,ax,value,br,ai,ah,ac,ap,set,aM,ao,aj,aG,aE,am,aA⟩:=s
 dsimp only at hd
 subst hd
 dsimp only at he
 subst he
 obtain⟨x,ph,s',M',hr⟩:∃x ph s' M',im ⟨cf,ag,av,ax,value,br,ai,ah,ac,ap,set,aM,ao,aj,aG,some t,am,.dI⟩ M t=(x,ph,s',M'):=⟨_,_,_,_,rfl⟩
 have jE:=AP b pb ⟨cf,ag,av,ax,value,br,ai,ah,ac,ap,set,aM,ao,aj,aG,some t,am,.dI⟩ t M rfl rfl h1
 rw [hr] at jE
 unfold fM
 rw [show cD ⟨cf,ag,av,ax,value,br,ai,ah,ac,ap,set,aM,ao,aj,aG,some t,am,.dI⟩ M=im ⟨cf,ag,av,ax,value,br,ai,ah,ac,ap,set,aM,ao,aj,aG,some t,am,.dI⟩ M t from rfl,hr]
 intro A F hw hS
 refine ab Tryz.func15 rfl (by kernel_rfl) fun _=>?_
 dsimp only [na,zo] at hS
 obtain⟨⟨bh,aY,az,aJ,aK,m,c0,c1,c2,bx,aw,aB,aV,bQ,bg,cE,aW,aU,aC,bA,bC,cP,bR⟩,hS⟩:=bI.open hS .z
 dsimp only [cg,fq,bW,da,ba.eo,na,zo] at hS
 have hq:=ZO hS hw
 revert hq hS hw;clear hS;have gR:=trivial;refine Wp (J1 (Tg.mk (n:=21) @jE)) (J4 @AW.aa @af.eq_1 @aS.eq_1 @bq.v.eq_1) (J1 ?_)<;>unhygienic intros
 all_goals(
  refine⟨_,by simp [hq,AW.aa,af];rfl,by simp [bq.v,bq.zero,aS],?_⟩
  apply an.cC
  (·exact sA)
  (·first|exact pP|exact kP))
theorem AO (b pb:Nat) (s:aD) (c:ft) (M:Mm) (hd:s.aA=.dG c) (h1:Mj s):fM b pb s M:=by
 obtain⟨cf,ag,av,ax,value,br,ai,ah,ac,ap,set,aM,ao,aj,aG,aE,am,aA⟩:=s
 dsimp only at hd
 subst hd
 obtain⟨x,ph,s',M',hr⟩:∃x ph s' M',hU ⟨cf,ag,av,ax,value,br,ai,ah,ac,ap,set,aM,ao,aj,aG,aE,am,.dG c⟩ M c=(x,ph,s',M'):=⟨_,_,_,_,rfl⟩
 have jE:=yj b pb ⟨cf,ag,av,ax,value,br,ai,ah,ac,ap,set,aM,ao,aj,aG,aE,am,.dG c⟩ c M rfl h1.1 h1.2
 rw [hr] at jE
 unfold fM
 rw [show cD ⟨cf,ag,av,ax,value,br,ai,ah,ac,ap,set,aM,ao,aj,aG,aE,am,.dG c⟩ M=hU ⟨cf,ag,av,ax,value,br,ai,ah,ac,ap,set,aM,ao,aj,aG,aE,am,.dG c⟩ M c from rfl,hr]
 intro A F hw hS
 refine ab Tryz.func15 rfl (by kernel_rfl) fun _=>?_
 dsimp only [na,zo] at hS
 obtain⟨⟨bh,aY,az,aJ,aK,m,c0,c1,c2,bx,aw,aB,aV,bQ,bg,cE,aW,aU,aC,bA,bC,cP,bR⟩,hS⟩:=bI.open hS .z
 dsimp only [cg,fq,bW,da,ba.eo,na,zo] at hS
 have hq:=ZO hS hw
 revert hq hS hw;clear hS;have gR:=trivial;refine Wp (J1 (Tg.mk (n:=21) @jE)) (J4 @AW.aa @af.eq_1 @aS.eq_1 @bq.v.eq_1) (J1 ?_)<;>unhygienic intros
 all_goals(
  refine⟨_,by simp [hq,AW.aa,af];rfl,by simp [bq.v,bq.zero,aS],?_⟩
  apply an.cC
  (·exact sA)
  (·first|exact pP|exact kP))
theorem AN (b pb:Nat) (s:aD)  (M:Mm) (hd:s.aA=.cN) (hC:ep s) (h1:Mj s):fM b pb s M:=by
 obtain⟨cf,ag,av,ax,value,br,ai,ah,ac,ap,set,aM,ao,aj,aG,aE,am,aA⟩:=s
 dsimp only at hd
 subst hd
 obtain⟨x,ph,s',M',hr⟩:∃x ph s' M',fb ⟨cf,ag,av,ax,value,br,ai,ah,ac,ap,set,aM,ao,aj,aG,aE,am,.cN⟩ M=(x,ph,s',M'):=⟨_,_,_,_,rfl⟩
 have jE:=xk b pb ⟨cf,ag,av,ax,value,br,ai,ah,ac,ap,set,aM,ao,aj,aG,aE,am,.cN⟩ M rfl hC h1.1 h1.2
 rw [hr] at jE
 unfold fM
 rw [show cD ⟨cf,ag,av,ax,value,br,ai,ah,ac,ap,set,aM,ao,aj,aG,aE,am,.cN⟩ M=fb ⟨cf,ag,av,ax,value,br,ai,ah,ac,ap,set,aM,ao,aj,aG,aE,am,.cN⟩ M from rfl,hr]
 intro A F hw hS
 refine ab Tryz.func15 rfl (by kernel_rfl) fun _=>?_
 dsimp only [na,zo] at hS
 obtain⟨⟨bh,aY,az,aJ,aK,m,c0,c1,c2,bx,aw,aB,aV,bQ,bg,cE,aW,aU,aC,bA,bC,cP,bR⟩,hS⟩:=bI.open hS .z
 dsimp only [cg,fq,bW,da,ba.eo,na,zo] at hS
 have hq:=ZO hS hw
 revert hq hS hw;clear hS;have gR:=trivial;refine Wp (J1 (Tg.mk (n:=21) @jE)) (J4 @AW.aa @af.eq_1 @aS.eq_1 @bq.v.eq_1) (J1 ?_)<;>unhygienic intros
 all_goals(
  refine⟨_,by simp [hq,AW.aa,af];rfl,by simp [bq.v,bq.zero,aS],?_⟩
  apply an.cC
  (·exact sA)
  (·first|exact pP|exact kP))
theorem CM (b pb:Nat) (s:aD) (w:gL) (M:Mm) (hd:s.aA=.et w) (h1:w.os.length=w.ws.length) (h2:s.aj.length<2^20):fM b pb s M:=by
 obtain⟨cf,ag,av,ax,value,br,ai,ah,ac,ap,set,aM,ao,aj,aG,aE,am,aA⟩:=s
 dsimp only at hd
 subst hd
 obtain⟨x,ph,s',M',hr⟩:∃x ph s' M',iZ ⟨cf,ag,av,ax,value,br,ai,ah,ac,ap,set,aM,ao,aj,aG,aE,am,.et w⟩ M w=(x,ph,s',M'):=⟨_,_,_,_,rfl⟩
 have jE:=yf b pb ⟨cf,ag,av,ax,value,br,ai,ah,ac,ap,set,aM,ao,aj,aG,aE,am,.et w⟩ w M rfl h1 h2
 rw [hr] at jE
 unfold fM
 rw [show cD ⟨cf,ag,av,ax,value,br,ai,ah,ac,ap,set,aM,ao,aj,aG,aE,am,.et w⟩ M=iZ ⟨cf,ag,av,ax,value,br,ai,ah,ac,ap,set,aM,ao,aj,aG,aE,am,.et w⟩ M w from rfl,hr]
 intro A F hw hS
 refine ab Tryz.func15 rfl (by kernel_rfl) fun _=>?_
 dsimp only [na,zo] at hS
 obtain⟨⟨bh,aY,az,aJ,aK,m,c0,c1,c2,bx,aw,aB,aV,bQ,bg,cE,aW,aU,aC,bA,bC,cP,bR⟩,hS⟩:=bI.open hS .z
 dsimp only [cg,fq,bW,da,ba.eo,na,zo] at hS
 have hq:=ZO hS hw
 revert hq hS hw;clear hS;have gR:=trivial;refine Wp (J1 (Tg.mk (n:=21) @jE)) (J4 @AW.aa @af.eq_1 @aS.eq_1 @bq.v.eq_1) (J1 ?_)<;>unhygienic intros
 all_goals(
  refine⟨_,by simp [hq,AW.aa,af];rfl,by simp [bq.v,bq.zero,aS],?_⟩
  apply an.cC
  (·exact sA)
  (·first|exact pP|exact kP))
theorem yc (b pb:Nat) (s:aD) (w:gL) (M:Mm) (hd:s.aA=.cK w) (h1:w.os.length=w.ws.length):fM b pb s M:=by
 obtain⟨cf,ag,av,ax,value,br,ai,ah,ac,ap,set,aM,ao,aj,aG,aE,am,aA⟩:=s
 dsimp only at hd
 subst hd
 obtain⟨x,ph,s',M',hr⟩:∃x ph s' M',lC ⟨cf,ag,av,ax,value,br,ai,ah,ac,ap,set,aM,ao,aj,aG,aE,am,.cK w⟩ M w=(x,ph,s',M'):=⟨_,_,_,_,rfl⟩
 have jE:=vD b pb ⟨cf,ag,av,ax,value,br,ai,ah,ac,ap,set,aM,ao,aj,aG,aE,am,.cK w⟩ w M rfl h1
 rw [hr] at jE
 unfold fM
 rw [show cD ⟨cf,ag,av,ax,value,br,ai,ah,ac,ap,set,aM,ao,aj,aG,aE,am,.cK w⟩ M=lC ⟨cf,ag,av,ax,value,br,ai,ah,ac,ap,set,aM,ao,aj,aG,aE,am,.cK w⟩ M w from rfl,hr]
 intro A F hw hS
 refine ab Tryz.func15 rfl (by kernel_rfl) fun _=>?_
 dsimp only [na,zo] at hS
 obtain⟨⟨bh,aY,az,aJ,aK,m,c0,c1,c2,bx,aw,aB,aV,bQ,bg,cE,aW,aU,aC,bA,bC,cP,bR⟩,hS⟩:=bI.open hS .z
 dsimp only [cg,fq,bW,da,ba.eo,na,zo] at hS
 have hq:=ZO hS hw
 revert hq hS hw;clear hS;have gR:=trivial;refine Wp (J1 (Tg.mk (n:=21) @jE)) (J4 @AW.aa @af.eq_1 @aS.eq_1 @bq.v.eq_1) (J1 ?_)<;>unhygienic intros
 all_goals(
  refine⟨_,by simp [hq,AW.aa,af];rfl,by simp [bq.v,bq.zero,aS],?_⟩
  apply an.cC
  (·exact sA)
  (·first|exact pP|exact kP))
theorem CO (b pb:Nat) (s:aD) (p:kM) (M:Mm) (hd:s.aA=.eZ p) (hC:ep s) (h1:s.am<s.ac.length):fM b pb s M:=by
 obtain⟨cf,ag,av,ax,value,br,ai,ah,ac,ap,set,aM,ao,aj,aG,aE,am,aA⟩:=s
 dsimp only at hd
 subst hd
 obtain⟨x,ph,s',M',hr⟩:∃x ph s' M',kv ⟨cf,ag,av,ax,value,br,ai,ah,ac,ap,set,aM,ao,aj,aG,aE,am,.eZ p⟩ M p=(x,ph,s',M'):=⟨_,_,_,_,rfl⟩
 have jE:=AQ b pb ⟨cf,ag,av,ax,value,br,ai,ah,ac,ap,set,aM,ao,aj,aG,aE,am,.eZ p⟩ p M rfl hC h1
 rw [hr] at jE
 unfold fM
 rw [show cD ⟨cf,ag,av,ax,value,br,ai,ah,ac,ap,set,aM,ao,aj,aG,aE,am,.eZ p⟩ M=kv ⟨cf,ag,av,ax,value,br,ai,ah,ac,ap,set,aM,ao,aj,aG,aE,am,.eZ p⟩ M p from rfl,hr]
 intro A F hw hS
 refine ab Tryz.func15 rfl (by kernel_rfl) fun _=>?_
 dsimp only [na,zo] at hS
 obtain⟨⟨bh,aY,az,aJ,aK,m,c0,c1,c2,bx,aw,aB,aV,bQ,bg,cE,aW,aU,aC,bA,bC,cP,bR⟩,hS⟩:=bI.open hS .z
 dsimp only [cg,fq,bW,da,ba.eo,na,zo] at hS
 have hq:=ZO hS hw
 revert hq hS hw;clear hS;have gR:=trivial;refine Wp (J1 (Tg.mk (n:=21) @jE)) (J4 @AW.aa @af.eq_1 @aS.eq_1 @bq.v.eq_1) (J1 ?_)<;>unhygienic intros
 all_goals(
  refine⟨_,by simp [hq,AW.aa,af];rfl,by simp [bq.v,bq.zero,aS],?_⟩
  apply an.cC
  (·exact sA)
  (·first|exact pP|exact kP))
end Go.Stx
