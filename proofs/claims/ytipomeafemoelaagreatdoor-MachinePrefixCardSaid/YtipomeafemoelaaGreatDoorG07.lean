/-
 The program's attempt: a step.
-/
import Derived.Test.YtipomeafemoelaaGreatDoorG06
set_option linter.unusedVariables false
set_option linter.unusedSimpArgs false
set_option linter.unusedSectionVars false
set_option maxRecDepth 20000
set_option maxHeartbeats 4000000
namespace Go.Stx
open Go Go.Proofs
attribute [local irreducible] TW bA cM aS ax aH cJ de
section
open T20 T13
variable [Gl]
def RN (s:aM):Prop:=s.ao.length<2^20/\(s.ao.length=0\/∃l,s.aJ=some l/\s.ao.length=l.fe.length)
def ZK (s:aM):JM->Prop
 | .nq a _=>0<=a
 | .dq k _=>0<=k/\k<s.cf.nb
 | _=>True
def ZH (s:aM):DR->Prop
 | .take=>True
 | .dq k=>0<=k/\k<s.cf.nb
def DoOk (s:aM) (M:Mm):br->Prop
 | .je k=>ZK s k
 | .fx=>∃e,s.bY=some e
 | .bh c u=>s.reads.length+1<2^20/\(0<=c.bR/\c.bR<=2)/\c.gE=gz s.cf c.dD/\ZH s u
 | .fw p=>s.ak.length<8/\(0<=p.eH/\p.eH<=3)/\(gG p M).2.1.block<s.cf.nb
 | .fy=>∃l,s.aJ=some l/\l.fe.length<=l.ao.length/\l.ao.length<2^38
 | .dE=>∃t,s.aI=some t
 | .d9 _=>RN s
 | .cH=>RN s
 | .eS w=>w.os.length=w.ws.length/\s.ao.length<2^20
 | .da w=>w.os.length=w.ws.length
 | .gH=>∃t,s.aI=some t
 | .fv _=>s.an<s.ak.length
 | _=>True
structure HD (s:aM) (M:Mm):Prop where
 c:gq s
 d:DoOk s M s.aG
def fE (b pb:Nat) (s:aM) (M:Mm):Prop:=
 bf Tryz.prog 87 [pv b,pv pb] [.h (aX b s),dG pb M] (λv=>v=.tuple #[(cK s M).1.v,.int .i64 (cK s M).2.1])
  (λ_=>[.h (aX b (cK s M).2.2.1),dG pb (cK s M).2.2.2])
theorem Ee (b pb:Nat) (s:aM) (en:iE) (M:Mm) (hd:s.aG=.fx) (he:s.bY=some en):fE b pb s M:=by
 (unhygienic cases s);dsimp only at hd;subst hd;dsimp only at he;subst he;obtain⟨x,ph,s',M',hr⟩:∃x ph s' M',ji ⟨cf,am,aA,az,value,some en,aj,reads,ak,av,set,bu,aw,ao,aJ,aI,an,.fx⟩ M en=(x,ph,s',M'):=⟨_,_,_,_,rfl⟩;have iS:=Cc b pb ⟨cf,am,aA,az,value,some en,aj,reads,ak,av,set,bu,aw,ao,aJ,aI,an,.fx⟩ en M rfl rfl;rw [hr] at iS;unfold fE;rw [show cK ⟨cf,am,aA,az,value,some en,aj,reads,ak,av,set,bu,aw,ao,aJ,aI,an,.fx⟩ M=ji ⟨cf,am,aA,az,value,some en,aj,reads,ak,av,set,bu,aw,ao,aJ,aI,an,.fx⟩ M en from rfl,hr];intro A F hw hS;refine aF Tryz.func87 λ_=>?_;dsimp only [aa,ag] at hS;obtain⟨x0,hS⟩:=aX.open hS .z;(unhygienic cases x0);dsimp only [b9,gZ,cF,ez,br.gf,aa,ag] at hS;have hq:=fC hS hw;revert hq hS hw;clear hS;refine Wp (J1 (Tg.mk (n:=21) @iS)) (J3 bz @be.eq_1 @aW.v.eq_1) ?_<;>(unhygienic intros)
 all_goals(
  refine⟨_,by simp [hq,AW.af,aB];rfl,by simp [aW.v,aW.zero,be],?_⟩;apply ah.bO
  (·exact sA)
  (·first|exact pP|exact kP))
theorem Kc (b pb:Nat) (s:aM) (c:ip) (M:Mm) (hd:s.aG=.bh c .take) (hC:gq s) (h1:s.reads.length+1<2^20) (h2:0<=c.bR/\c.bR<=2) (h3:c.gE=gz s.cf c.dD):fE b pb s M:=by
 (unhygienic cases s);dsimp only at hd;subst hd;obtain⟨x,ph,s',M',hr⟩:∃x ph s' M',dR ⟨cf,am,aA,az,value,bY,aj,reads,ak,av,set,bu,aw,ao,aJ,aI,an,.bh c .take⟩ M c .take=(x,ph,s',M'):=⟨_,_,_,_,rfl⟩;have iS:=Ca b pb ⟨cf,am,aA,az,value,bY,aj,reads,ak,av,set,bu,aw,ao,aJ,aI,an,.bh c .take⟩ c M rfl hC h1 h2 h3;rw [hr] at iS;unfold fE;rw [show cK ⟨cf,am,aA,az,value,bY,aj,reads,ak,av,set,bu,aw,ao,aJ,aI,an,.bh c .take⟩ M=dR ⟨cf,am,aA,az,value,bY,aj,reads,ak,av,set,bu,aw,ao,aJ,aI,an,.bh c .take⟩ M c .take from rfl,hr];intro A F hw hS;refine aF Tryz.func87 λ_=>?_;dsimp only [aa,ag] at hS;obtain⟨x0,hS⟩:=aX.open hS .z;(unhygienic cases x0);dsimp only [b9,gZ,cF,ez,br.gf,aa,ag] at hS;have hq:=fC hS hw;revert hq hS hw;clear hS;refine Wp (J1 (Tg.mk (n:=21) @iS)) (J3 bz @be.eq_1 @aW.v.eq_1) ?_<;>(unhygienic intros)
 all_goals(
  refine⟨_,by simp [hq,AW.af,aB];rfl,by simp [aW.v,aW.zero,be],?_⟩;apply ah.bO
  (·exact sA)
  (·first|exact pP|exact kP))
theorem Kd (b pb:Nat) (s:aM) (c:ip) (kb:Int) (M:Mm) (hd:s.aG=.bh c (.dq kb)) (hC:gq s) (h1:s.reads.length+1<2^20) (h2:0<=c.bR/\c.bR<=2) (h3:c.gE=gz s.cf c.dD) (h4:0<=kb/\kb<s.cf.nb):fE b pb s M:=by
 (unhygienic cases s);dsimp only at hd;subst hd;obtain⟨x,ph,s',M',hr⟩:∃x ph s' M',dR ⟨cf,am,aA,az,value,bY,aj,reads,ak,av,set,bu,aw,ao,aJ,aI,an,.bh c (.dq kb)⟩ M c (.dq kb)=(x,ph,s',M'):=⟨_,_,_,_,rfl⟩;have iS:=Cb b pb ⟨cf,am,aA,az,value,bY,aj,reads,ak,av,set,bu,aw,ao,aJ,aI,an,.bh c (.dq kb)⟩ c kb M rfl hC h1 h2 h3 h4;rw [hr] at iS;unfold fE;rw [show cK ⟨cf,am,aA,az,value,bY,aj,reads,ak,av,set,bu,aw,ao,aJ,aI,an,.bh c (.dq kb)⟩ M=dR ⟨cf,am,aA,az,value,bY,aj,reads,ak,av,set,bu,aw,ao,aJ,aI,an,.bh c (.dq kb)⟩ M c (.dq kb) from rfl,hr];intro A F hw hS;refine aF Tryz.func87 λ_=>?_;dsimp only [aa,ag] at hS;obtain⟨x0,hS⟩:=aX.open hS .z;(unhygienic cases x0);dsimp only [b9,gZ,cF,ez,br.gf,aa,ag] at hS;have hq:=fC hS hw;revert hq hS hw;clear hS;refine Wp (J1 (Tg.mk (n:=21) @iS)) (J3 bz @be.eq_1 @aW.v.eq_1) ?_<;>(unhygienic intros)
 all_goals(
  refine⟨_,by simp [hq,AW.af,aB];rfl,by simp [aW.v,aW.zero,be],?_⟩;apply ah.bO
  (·exact sA)
  (·first|exact pP|exact kP))
theorem Ga (b pb:Nat) (s:aM) (p:qB) (M:Mm) (hd:s.aG=.fw p) (hC:gq s) (h1:s.ak.length<8) (h2:0<=p.eH/\p.eH<=3) (h3:(gG p M).2.1.block<s.cf.nb):fE b pb s M:=by
 (unhygienic cases s);dsimp only at hd;subst hd;obtain⟨x,ph,s',M',hr⟩:∃x ph s' M',ox ⟨cf,am,aA,az,value,bY,aj,reads,ak,av,set,bu,aw,ao,aJ,aI,an,.fw p⟩ M p=(x,ph,s',M'):=⟨_,_,_,_,rfl⟩;have iS:=Gh b pb ⟨cf,am,aA,az,value,bY,aj,reads,ak,av,set,bu,aw,ao,aJ,aI,an,.fw p⟩ p M rfl hC h1 h2 h3 (Io p M);rw [hr] at iS;unfold fE;rw [show cK ⟨cf,am,aA,az,value,bY,aj,reads,ak,av,set,bu,aw,ao,aJ,aI,an,.fw p⟩ M=ox ⟨cf,am,aA,az,value,bY,aj,reads,ak,av,set,bu,aw,ao,aJ,aI,an,.fw p⟩ M p from rfl,hr];intro A F hw hS;refine aF Tryz.func87 λ_=>?_;dsimp only [aa,ag] at hS;obtain⟨x0,hS⟩:=aX.open hS .z;(unhygienic cases x0);dsimp only [b9,gZ,cF,ez,br.gf,aa,ag] at hS;have hq:=fC hS hw;revert hq hS hw;clear hS;refine Wp (J1 (Tg.mk (n:=21) @iS)) (J3 bz @be.eq_1 @aW.v.eq_1) ?_<;>(unhygienic intros)
 all_goals(
  refine⟨_,by simp [hq,AW.af,aB];rfl,by simp [aW.v,aW.zero,be],?_⟩;apply ah.bO
  (·exact sA)
  (·first|exact pP|exact kP))
theorem Gc (b pb:Nat) (s:aM) (l:iH) (M:Mm) (hd:s.aG=.fy) (he:s.aJ=some l) (h1:l.fe.length<=l.ao.length) (h2:l.ao.length<2^38):fE b pb s M:=by
 (unhygienic cases s);dsimp only at hd;subst hd;dsimp only at he;subst he;obtain⟨x,ph,s',M',hr⟩:∃x ph s' M',jD ⟨cf,am,aA,az,value,bY,aj,reads,ak,av,set,bu,aw,ao,some l,aI,an,.fy⟩ M l=(x,ph,s',M'):=⟨_,_,_,_,rfl⟩;have iS:=Ej b pb ⟨cf,am,aA,az,value,bY,aj,reads,ak,av,set,bu,aw,ao,some l,aI,an,.fy⟩ l M rfl rfl h1 h2;rw [hr] at iS;unfold fE;rw [show cK ⟨cf,am,aA,az,value,bY,aj,reads,ak,av,set,bu,aw,ao,some l,aI,an,.fy⟩ M=jD ⟨cf,am,aA,az,value,bY,aj,reads,ak,av,set,bu,aw,ao,some l,aI,an,.fy⟩ M l from rfl,hr];intro A F hw hS;refine aF Tryz.func87 λ_=>?_;dsimp only [aa,ag] at hS;obtain⟨x0,hS⟩:=aX.open hS .z;(unhygienic cases x0);dsimp only [b9,gZ,cF,ez,br.gf,aa,ag] at hS;have hq:=fC hS hw;revert hq hS hw;clear hS;refine Wp (J1 (Tg.mk (n:=21) @iS)) (J3 bz @be.eq_1 @aW.v.eq_1) ?_<;>(unhygienic intros)
 all_goals(
  refine⟨_,by simp [hq,AW.af,aB];rfl,by simp [aW.v,aW.zero,be],?_⟩;apply ah.bO
  (·exact sA)
  (·first|exact pP|exact kP))
theorem F8 (b pb:Nat) (s:aM) (t:kK) (M:Mm) (hd:s.aG=.dE) (he:s.aI=some t) (h1:s.set.length<2^38):fE b pb s M:=by
 (unhygienic cases s);dsimp only at hd;subst hd;dsimp only at he;subst he;obtain⟨x,ph,s',M',hr⟩:∃x ph s' M',iw ⟨cf,am,aA,az,value,bY,aj,reads,ak,av,set,bu,aw,ao,aJ,some t,an,.dE⟩ M t=(x,ph,s',M'):=⟨_,_,_,_,rfl⟩;have iS:=Eh b pb ⟨cf,am,aA,az,value,bY,aj,reads,ak,av,set,bu,aw,ao,aJ,some t,an,.dE⟩ t M rfl rfl h1;rw [hr] at iS;unfold fE;rw [show cK ⟨cf,am,aA,az,value,bY,aj,reads,ak,av,set,bu,aw,ao,aJ,some t,an,.dE⟩ M=iw ⟨cf,am,aA,az,value,bY,aj,reads,ak,av,set,bu,aw,ao,aJ,some t,an,.dE⟩ M t from rfl,hr];intro A F hw hS;refine aF Tryz.func87 λ_=>?_;dsimp only [aa,ag] at hS;obtain⟨x0,hS⟩:=aX.open hS .z;(unhygienic cases x0);dsimp only [b9,gZ,cF,ez,br.gf,aa,ag] at hS;have hq:=fC hS hw;revert hq hS hw;clear hS;refine Wp (J1 (Tg.mk (n:=21) @iS)) (J3 bz @be.eq_1 @aW.v.eq_1) ?_<;>(unhygienic intros)
 all_goals(
  refine⟨_,by simp [hq,AW.af,aB];rfl,by simp [aW.v,aW.zero,be],?_⟩;apply ah.bO
  (·exact sA)
  (·first|exact pP|exact kP))
theorem Eg (b pb:Nat) (s:aM) (c:ij) (M:Mm) (hd:s.aG=.d9 c) (h1:RN s):fE b pb s M:=by
 (unhygienic cases s);dsimp only at hd;subst hd;obtain⟨x,ph,s',M',hr⟩:∃x ph s' M',gT ⟨cf,am,aA,az,value,bY,aj,reads,ak,av,set,bu,aw,ao,aJ,aI,an,.d9 c⟩ M c=(x,ph,s',M'):=⟨_,_,_,_,rfl⟩;have iS:=Cd b pb ⟨cf,am,aA,az,value,bY,aj,reads,ak,av,set,bu,aw,ao,aJ,aI,an,.d9 c⟩ c M rfl h1.1 h1.2;rw [hr] at iS;unfold fE;rw [show cK ⟨cf,am,aA,az,value,bY,aj,reads,ak,av,set,bu,aw,ao,aJ,aI,an,.d9 c⟩ M=gT ⟨cf,am,aA,az,value,bY,aj,reads,ak,av,set,bu,aw,ao,aJ,aI,an,.d9 c⟩ M c from rfl,hr];intro A F hw hS;refine aF Tryz.func87 λ_=>?_;dsimp only [aa,ag] at hS;obtain⟨x0,hS⟩:=aX.open hS .z;(unhygienic cases x0);dsimp only [b9,gZ,cF,ez,br.gf,aa,ag] at hS;have hq:=fC hS hw;revert hq hS hw;clear hS;refine Wp (J1 (Tg.mk (n:=21) @iS)) (J3 bz @be.eq_1 @aW.v.eq_1) ?_<;>(unhygienic intros)
 all_goals(
  refine⟨_,by simp [hq,AW.af,aB];rfl,by simp [aW.v,aW.zero,be],?_⟩;apply ah.bO
  (·exact sA)
  (·first|exact pP|exact kP))
theorem Ef (b pb:Nat) (s:aM)  (M:Mm) (hd:s.aG=.cH) (hC:gq s) (h1:RN s):fE b pb s M:=by
 (unhygienic cases s);dsimp only at hd;subst hd;obtain⟨x,ph,s',M',hr⟩:∃x ph s' M',fY ⟨cf,am,aA,az,value,bY,aj,reads,ak,av,set,bu,aw,ao,aJ,aI,an,.cH⟩ M=(x,ph,s',M'):=⟨_,_,_,_,rfl⟩;have iS:=Be b pb ⟨cf,am,aA,az,value,bY,aj,reads,ak,av,set,bu,aw,ao,aJ,aI,an,.cH⟩ M rfl hC h1.1 h1.2;rw [hr] at iS;unfold fE;rw [show cK ⟨cf,am,aA,az,value,bY,aj,reads,ak,av,set,bu,aw,ao,aJ,aI,an,.cH⟩ M=fY ⟨cf,am,aA,az,value,bY,aj,reads,ak,av,set,bu,aw,ao,aJ,aI,an,.cH⟩ M from rfl,hr];intro A F hw hS;refine aF Tryz.func87 λ_=>?_;dsimp only [aa,ag] at hS;obtain⟨x0,hS⟩:=aX.open hS .z;(unhygienic cases x0);dsimp only [b9,gZ,cF,ez,br.gf,aa,ag] at hS;have hq:=fC hS hw;revert hq hS hw;clear hS;refine Wp (J1 (Tg.mk (n:=21) @iS)) (J3 bz @be.eq_1 @aW.v.eq_1) ?_<;>(unhygienic intros)
 all_goals(
  refine⟨_,by simp [hq,AW.af,aB];rfl,by simp [aW.v,aW.zero,be],?_⟩;apply ah.bO
  (·exact sA)
  (·first|exact pP|exact kP))
theorem F7 (b pb:Nat) (s:aM) (w:kg) (M:Mm) (hd:s.aG=.eS w) (h1:w.os.length=w.ws.length) (h2:s.ao.length<2^20):fE b pb s M:=by
 (unhygienic cases s);dsimp only at hd;subst hd;obtain⟨x,ph,s',M',hr⟩:∃x ph s' M',iv ⟨cf,am,aA,az,value,bY,aj,reads,ak,av,set,bu,aw,ao,aJ,aI,an,.eS w⟩ M w=(x,ph,s',M'):=⟨_,_,_,_,rfl⟩;have iS:=B9 b pb ⟨cf,am,aA,az,value,bY,aj,reads,ak,av,set,bu,aw,ao,aJ,aI,an,.eS w⟩ w M rfl h1 h2;rw [hr] at iS;unfold fE;rw [show cK ⟨cf,am,aA,az,value,bY,aj,reads,ak,av,set,bu,aw,ao,aJ,aI,an,.eS w⟩ M=iv ⟨cf,am,aA,az,value,bY,aj,reads,ak,av,set,bu,aw,ao,aJ,aI,an,.eS w⟩ M w from rfl,hr];intro A F hw hS;refine aF Tryz.func87 λ_=>?_;dsimp only [aa,ag] at hS;obtain⟨x0,hS⟩:=aX.open hS .z;(unhygienic cases x0);dsimp only [b9,gZ,cF,ez,br.gf,aa,ag] at hS;have hq:=fC hS hw;revert hq hS hw;clear hS;refine Wp (J1 (Tg.mk (n:=21) @iS)) (J3 bz @be.eq_1 @aW.v.eq_1) ?_<;>(unhygienic intros)
 all_goals(
  refine⟨_,by simp [hq,AW.af,aB];rfl,by simp [aW.v,aW.zero,be],?_⟩;apply ah.bO
  (·exact sA)
  (·first|exact pP|exact kP))
theorem B6 (b pb:Nat) (s:aM) (w:kg) (M:Mm) (hd:s.aG=.da w) (h1:w.os.length=w.ws.length):fE b pb s M:=by
 (unhygienic cases s);dsimp only at hd;subst hd;obtain⟨x,ph,s',M',hr⟩:∃x ph s' M',oh ⟨cf,am,aA,az,value,bY,aj,reads,ak,av,set,bu,aw,ao,aJ,aI,an,.da w⟩ M w=(x,ph,s',M'):=⟨_,_,_,_,rfl⟩;have iS:=zh b pb ⟨cf,am,aA,az,value,bY,aj,reads,ak,av,set,bu,aw,ao,aJ,aI,an,.da w⟩ w M rfl h1;rw [hr] at iS;unfold fE;rw [show cK ⟨cf,am,aA,az,value,bY,aj,reads,ak,av,set,bu,aw,ao,aJ,aI,an,.da w⟩ M=oh ⟨cf,am,aA,az,value,bY,aj,reads,ak,av,set,bu,aw,ao,aJ,aI,an,.da w⟩ M w from rfl,hr];intro A F hw hS;refine aF Tryz.func87 λ_=>?_;dsimp only [aa,ag] at hS;obtain⟨x0,hS⟩:=aX.open hS .z;(unhygienic cases x0);dsimp only [b9,gZ,cF,ez,br.gf,aa,ag] at hS;have hq:=fC hS hw;revert hq hS hw;clear hS;refine Wp (J1 (Tg.mk (n:=21) @iS)) (J3 bz @be.eq_1 @aW.v.eq_1) ?_<;>(unhygienic intros)
 all_goals(
  refine⟨_,by simp [hq,AW.af,aB];rfl,by simp [aW.v,aW.zero,be],?_⟩;apply ah.bO
  (·exact sA)
  (·first|exact pP|exact kP))
theorem F9 (b pb:Nat) (s:aM) (p:fM) (M:Mm) (hd:s.aG=.fv p) (hC:gq s) (h1:s.an<s.ak.length):fE b pb s M:=by
 (unhygienic cases s);dsimp only at hd;subst hd;obtain⟨x,ph,s',M',hr⟩:∃x ph s' M',jW ⟨cf,am,aA,az,value,bY,aj,reads,ak,av,set,bu,aw,ao,aJ,aI,an,.fv p⟩ M p=(x,ph,s',M'):=⟨_,_,_,_,rfl⟩;have iS:=Ei b pb ⟨cf,am,aA,az,value,bY,aj,reads,ak,av,set,bu,aw,ao,aJ,aI,an,.fv p⟩ p M rfl hC h1;rw [hr] at iS;unfold fE;rw [show cK ⟨cf,am,aA,az,value,bY,aj,reads,ak,av,set,bu,aw,ao,aJ,aI,an,.fv p⟩ M=jW ⟨cf,am,aA,az,value,bY,aj,reads,ak,av,set,bu,aw,ao,aJ,aI,an,.fv p⟩ M p from rfl,hr];intro A F hw hS;refine aF Tryz.func87 λ_=>?_;dsimp only [aa,ag] at hS;obtain⟨x0,hS⟩:=aX.open hS .z;(unhygienic cases x0);dsimp only [b9,gZ,cF,ez,br.gf,aa,ag] at hS;have hq:=fC hS hw;revert hq hS hw;clear hS;refine Wp (J1 (Tg.mk (n:=21) @iS)) (J3 bz @be.eq_1 @aW.v.eq_1) ?_<;>(unhygienic intros)
 all_goals(
  refine⟨_,by simp [hq,AW.af,aB];rfl,by simp [aW.v,aW.zero,be],?_⟩;apply ah.bO
  (·exact sA)
  (·first|exact pP|exact kP))
end
section
open T20 T13
variable [Gl]
theorem Nu (b pb:Nat) (s:aM) (M:Mm) (hd:s.aG=.bF):fE b pb s M:=by
 (unhygienic cases s);dsimp only at hd;subst hd;unfold fE;rw [show cK ⟨cf,am,aA,az,value,bY,aj,reads,ak,av,set,bu,aw,ao,aJ,aI,an,.bF⟩ M=(aW.zero,0,⟨cf,am,aA,az,value,bY,aj,reads,ak,av,set,bu,aw,ao,aJ,aI,an,.bF⟩,M) from rfl];intro A F hw hS;refine aF Tryz.func87 λ_=>?_;dsimp only [aa,ag] at hS;obtain⟨x0,hS⟩:=aX.open hS .z;(unhygienic cases x0);dsimp only [b9,gZ,cF,ez,br.gf,aa,ag] at hS;have hq:=fC hS hw;revert hq hS hw;clear hS;refine Wp cd (J3 bz @be.eq_1 @aW.v.eq_1) ?_<;>(unhygienic intros);refine⟨_,by simp [hq,AW.af,aB];rfl,by simp [aW.v,aW.zero],?_⟩;apply aX.bO
 (·exact sA)
 exact fP
 (·first|exact pP|exact kP)
 all_goals(first|exact 0|exact undef)
theorem Gd (b pb:Nat) (s:aM)  (M:Mm) (hd:s.aG=.je .tk) (hC:gq s):fE b pb s M:=by
 (unhygienic cases s);dsimp only at hd;subst hd;have OY:gq ⟨cf,am,aA,az,value,bY,aj,reads,ak,av,set,bu,aw,ao,aJ,aI,an,.bF⟩:=hC.to rfl rfl rfl rfl rfl rfl rfl rfl;unfold fE;rw [show cK ⟨cf,am,aA,az,value,bY,aj,reads,ak,av,set,bu,aw,ao,aJ,aI,an,.je .tk⟩ M=(aW.zero,0,vB ⟨cf,am,aA,az,value,bY,aj,reads,ak,av,set,bu,aw,ao,aJ,aI,an,.bF⟩ .tk,M) from rfl];intro A F hw hS;refine aF Tryz.func87 λ_=>?_;dsimp only [aa,ag] at hS;obtain⟨x0,hS⟩:=aX.open hS .z;(unhygienic cases x0);dsimp only [b9,gZ,cF,ez,br.gf,aa,ag] at hS;have hq:=fC hS hw;revert hq hS hw;clear hS;refine Wp (J1 (Tg.mk (n:=21) (F1 b c0 ⟨cf,am,aA,az,value,bY,aj,reads,ak,av,set,bu,aw,ao,aJ,aI,an,.bF⟩ rfl OY))) (J3 bz @be.eq_1 @aW.v.eq_1) ?_<;>(unhygienic intros)
 all_goals(
  refine⟨_,by simp [hq,AW.af,aB];rfl,by simp [aW.v,aW.zero,be],?_⟩;apply ah.bO
  (·exact sA)
  (·first|exact pP|exact kP))
theorem Gf (b pb:Nat) (s:aM)  (M:Mm) (hd:s.aG=.je .Rt) (hC:gq s):fE b pb s M:=by
 (unhygienic cases s);dsimp only at hd;subst hd;have OY:gq ⟨cf,am,aA,az,value,bY,aj,reads,ak,av,set,bu,aw,ao,aJ,aI,an,.bF⟩:=hC.to rfl rfl rfl rfl rfl rfl rfl rfl;unfold fE;rw [show cK ⟨cf,am,aA,az,value,bY,aj,reads,ak,av,set,bu,aw,ao,aJ,aI,an,.je .Rt⟩ M=(aW.zero,0,vB ⟨cf,am,aA,az,value,bY,aj,reads,ak,av,set,bu,aw,ao,aJ,aI,an,.bF⟩ .Rt,M) from rfl];intro A F hw hS;refine aF Tryz.func87 λ_=>?_;dsimp only [aa,ag] at hS;obtain⟨x0,hS⟩:=aX.open hS .z;(unhygienic cases x0);dsimp only [b9,gZ,cF,ez,br.gf,aa,ag] at hS;have hq:=fC hS hw;revert hq hS hw;clear hS;refine Wp (J1 (Tg.mk (n:=21) (F3 b c0 ⟨cf,am,aA,az,value,bY,aj,reads,ak,av,set,bu,aw,ao,aJ,aI,an,.bF⟩ rfl OY))) (J3 bz @be.eq_1 @aW.v.eq_1) ?_<;>(unhygienic intros)
 all_goals(
  refine⟨_,by simp [hq,AW.af,aB];rfl,by simp [aW.v,aW.zero,be],?_⟩;apply ah.bO
  (·exact sA)
  (·first|exact pP|exact kP))
theorem Ge (b pb:Nat) (s:aM) (ec:Int) (M:Mm) (hd:s.aG=.je (.bO ec)) (hC:gq s):fE b pb s M:=by
 (unhygienic cases s);dsimp only at hd;subst hd;have OY:gq ⟨cf,am,aA,az,value,bY,aj,reads,ak,av,set,bu,aw,ao,aJ,aI,an,.bF⟩:=hC.to rfl rfl rfl rfl rfl rfl rfl rfl;unfold fE;rw [show cK ⟨cf,am,aA,az,value,bY,aj,reads,ak,av,set,bu,aw,ao,aJ,aI,an,.je (.bO ec)⟩ M=(aW.zero,0,vB ⟨cf,am,aA,az,value,bY,aj,reads,ak,av,set,bu,aw,ao,aJ,aI,an,.bF⟩ (.bO ec),M) from rfl];intro A F hw hS;refine aF Tryz.func87 λ_=>?_;dsimp only [aa,ag] at hS;obtain⟨x0,hS⟩:=aX.open hS .z;(unhygienic cases x0);dsimp only [b9,gZ,cF,ez,br.gf,aa,ag] at hS;have hq:=fC hS hw;revert hq hS hw;clear hS;refine Wp (J1 (Tg.mk (n:=21) (F2 b c0 c1 ⟨cf,am,aA,az,value,bY,aj,reads,ak,av,set,bu,aw,ao,aJ,aI,an,.bF⟩ ec rfl OY))) (J3 bz @be.eq_1 @aW.v.eq_1) ?_<;>(unhygienic intros)
 all_goals(
  refine⟨_,by simp [hq,AW.af,aB];rfl,by simp [aW.v,aW.zero,be],?_⟩;apply ah.bO
  (·exact sA)
  (·first|exact pP|exact kP))
theorem Ec (b pb:Nat) (s:aM) (lv:Int) (M:Mm) (hd:s.aG=.je (.take lv)) (hC:gq s):fE b pb s M:=by
 (unhygienic cases s);dsimp only at hd;subst hd;have OY:gq ⟨cf,am,aA,az,value,bY,aj,reads,ak,av,set,bu,aw,ao,aJ,aI,an,.bF⟩:=hC.to rfl rfl rfl rfl rfl rfl rfl rfl;unfold fE;rw [show cK ⟨cf,am,aA,az,value,bY,aj,reads,ak,av,set,bu,aw,ao,aJ,aI,an,.je (.take lv)⟩ M=(aW.zero,0,vB ⟨cf,am,aA,az,value,bY,aj,reads,ak,av,set,bu,aw,ao,aJ,aI,an,.bF⟩ (.take lv),M) from rfl];intro A F hw hS;refine aF Tryz.func87 λ_=>?_;dsimp only [aa,ag] at hS;obtain⟨x0,hS⟩:=aX.open hS .z;(unhygienic cases x0);dsimp only [b9,gZ,cF,ez,br.gf,aa,ag] at hS;have hq:=fC hS hw;revert hq hS hw;clear hS;refine Wp (J1 (Tg.mk (n:=21) (D8 b c0 c1 c2 ⟨cf,am,aA,az,value,bY,aj,reads,ak,av,set,bu,aw,ao,aJ,aI,an,.bF⟩ lv rfl))) (J3 bz @be.eq_1 @aW.v.eq_1) ?_<;>(unhygienic intros)
 all_goals(
  refine⟨_,by simp [hq,AW.af,aB];rfl,by simp [aW.v,aW.zero,be],?_⟩;apply ah.bO
  (·exact sA)
  (·first|exact pP|exact kP))
theorem B7 (b pb:Nat) (s:aM) (la lv:Int) (M:Mm) (hd:s.aG=.je (.nq la lv)) (hC:gq s) (hla:0<=la):fE b pb s M:=by
 (unhygienic cases s);dsimp only at hd;subst hd;have OY:gq ⟨cf,am,aA,az,value,bY,aj,reads,ak,av,set,bu,aw,ao,aJ,aI,an,.bF⟩:=hC.to rfl rfl rfl rfl rfl rfl rfl rfl;unfold fE;rw [show cK ⟨cf,am,aA,az,value,bY,aj,reads,ak,av,set,bu,aw,ao,aJ,aI,an,.je (.nq la lv)⟩ M=(aW.zero,0,vB ⟨cf,am,aA,az,value,bY,aj,reads,ak,av,set,bu,aw,ao,aJ,aI,an,.bF⟩ (.nq la lv),M) from rfl];intro A F hw hS;refine aF Tryz.func87 λ_=>?_;dsimp only [aa,ag] at hS;obtain⟨x0,hS⟩:=aX.open hS .z;(unhygienic cases x0);dsimp only [b9,gZ,cF,ez,br.gf,aa,ag] at hS;have hq:=fC hS hw;revert hq hS hw;clear hS;refine Wp (J1 (Tg.mk (n:=21) (BW b c0 c1 c2 ⟨cf,am,aA,az,value,bY,aj,reads,ak,av,set,bu,aw,ao,aJ,aI,an,.bF⟩ la lv rfl OY hla))) (J3 bz @be.eq_1 @aW.v.eq_1) ?_<;>(unhygienic intros)
 all_goals(
  refine⟨_,by simp [hq,AW.af,aB];rfl,by simp [aW.v,aW.zero,be],?_⟩;apply ah.bO
  (·exact sA)
  (·first|exact pP|exact kP))
theorem Ed (b pb:Nat) (s:aM)  (M:Mm) (hd:s.aG=.je .Dc) (hC:gq s):fE b pb s M:=by
 (unhygienic cases s);dsimp only at hd;subst hd;have OY:gq ⟨cf,am,aA,az,value,bY,aj,reads,ak,av,set,bu,aw,ao,aJ,aI,an,.bF⟩:=hC.to rfl rfl rfl rfl rfl rfl rfl rfl;unfold fE;rw [show cK ⟨cf,am,aA,az,value,bY,aj,reads,ak,av,set,bu,aw,ao,aJ,aI,an,.je .Dc⟩ M=(aW.zero,0,vB ⟨cf,am,aA,az,value,bY,aj,reads,ak,av,set,bu,aw,ao,aJ,aI,an,.bF⟩ .Dc,M) from rfl];intro A F hw hS;refine aF Tryz.func87 λ_=>?_;dsimp only [aa,ag] at hS;obtain⟨x0,hS⟩:=aX.open hS .z;(unhygienic cases x0);dsimp only [b9,gZ,cF,ez,br.gf,aa,ag] at hS;have hq:=fC hS hw;revert hq hS hw;clear hS;refine Wp (J1 (Tg.mk (n:=21) (D9 b c0 ⟨cf,am,aA,az,value,bY,aj,reads,ak,av,set,bu,aw,ao,aJ,aI,an,.bF⟩ rfl OY))) (J3 bz @be.eq_1 @aW.v.eq_1) ?_<;>(unhygienic intros)
 all_goals(
  refine⟨_,by simp [hq,AW.af,aB];rfl,by simp [aW.v,aW.zero,be],?_⟩;apply ah.bO
  (·exact sA)
  (·first|exact pP|exact kP))
theorem B8 (b pb:Nat) (s:aM) (lk lv:Int) (M:Mm) (hd:s.aG=.je (.dq lk lv)) (hC:gq s) (Qx:0<=lk/\lk<s.cf.nb):fE b pb s M:=by
 (unhygienic cases s);dsimp only at hd;subst hd;have OY:gq ⟨cf,am,aA,az,value,bY,aj,reads,ak,av,set,bu,aw,ao,aJ,aI,an,.bF⟩:=hC.to rfl rfl rfl rfl rfl rfl rfl rfl;unfold fE;rw [show cK ⟨cf,am,aA,az,value,bY,aj,reads,ak,av,set,bu,aw,ao,aJ,aI,an,.je (.dq lk lv)⟩ M=(aW.zero,0,vB ⟨cf,am,aA,az,value,bY,aj,reads,ak,av,set,bu,aw,ao,aJ,aI,an,.bF⟩ (.dq lk lv),M) from rfl];intro A F hw hS;refine aF Tryz.func87 λ_=>?_;dsimp only [aa,ag] at hS;obtain⟨x0,hS⟩:=aX.open hS .z;(unhygienic cases x0);dsimp only [b9,gZ,cF,ez,br.gf,aa,ag] at hS;have hq:=fC hS hw;revert hq hS hw;clear hS;refine Wp (J1 (Tg.mk (n:=21) (BX b c0 c1 c2 ⟨cf,am,aA,az,value,bY,aj,reads,ak,av,set,bu,aw,ao,aJ,aI,an,.bF⟩ lk lv rfl OY Qx))) (J3 bz @be.eq_1 @aW.v.eq_1) ?_<;>(unhygienic intros)
 all_goals(
  refine⟨_,by simp [hq,AW.af,aB];rfl,by simp [aW.v,aW.zero,be],?_⟩;apply ah.bO
  (·exact sA)
  (·first|exact pP|exact kP))
theorem Eb (b pb:Nat) (s:aM) (M:Mm) (hd:s.aG=.jb):fE b pb s M:=by
 (unhygienic cases s);dsimp only at hd;subst hd;unfold fE;rw [show cK ⟨cf,am,aA,az,value,bY,aj,reads,ak,av,set,bu,aw,ao,aJ,aI,an,.jb⟩ M=(DU M 3 0 (IntKind.u64.wrap (aw+1)),19,⟨cf,am,aA,az,value,bY,aj,reads,ak,av,set,bu,aw,ao,aJ,aI,an,.gH⟩,Gj M 3 0 (IntKind.u64.wrap (aw+1))) from rfl];intro A F hw hS;refine aF Tryz.func87 λ_=>?_;dsimp only [aa,ag] at hS;obtain⟨x0,hS⟩:=aX.open hS .z;(unhygienic cases x0);dsimp only [b9,gZ,cF,ez,br.gf,aa,ag] at hS;have hq:=fC hS hw;revert hq hS hw;clear hS;refine Wp (J1 (W2 pb)) (J3 bz @be.eq_1 @aW.v.eq_1) ?_<;>(unhygienic intros);refine⟨_,by simp [hq,AW.af,aB];rfl,by first|(simp [aW.v];done)|(simp [aW.v,h];done),?_⟩;apply aX.bO
 (·exact sA)
 exact fP
 (·first|exact pP|exact kP)
 all_goals(first|exact 0|exact undef)
theorem Gb (b pb:Nat) (s:aM) (t:kK) (M:Mm) (hd:s.aG=.gH) (hC:gq s) (he:s.aI=some t):fE b pb s M:=by
 (unhygienic cases s);dsimp only at hd;subst hd;dsimp only at he;subst he;unfold fE;rw [show cK ⟨cf,am,aA,az,value,bY,aj,reads,ak,av,set,bu,aw,ao,aJ,some t,an,.gH⟩ M=(DU M 5 0 (Cs t.gf),20,iQ ⟨cf,am,aA,az,value,bY,aj,reads,ak,av,set,bu,aw,ao,aJ,some t,an,.gH⟩,Gj M 5 0 (Cs t.gf)) from rfl];intro A F hw hS;refine aF Tryz.func87 λ_=>?_;dsimp only [aa,ag] at hS;obtain⟨x0,hS⟩:=aX.open hS .z;(unhygienic cases x0);dsimp only [b9,gZ,cF,ez,br.gf,aa,ag] at hS;have hq:=fC hS hw;have hS:=uN.op hS (.s (.s (.s .z)));have hq:=fC hS hw;revert hq hS hw;clear hq;clear hS;clear hS;refine Wp (J3 (Tg.mk (n:=10) @BU) (Tg.mk (n:=20) (uv b ⟨cf,am,aA,az,value,bY,aj,reads,ak,av,set,bu,aw,ao,aJ,some t,an,.gH⟩ 12 .gH hC.cf hC.al hC.push (Nat.lt_of_le_of_lt hC.mW (by decide)))) (NK pb t.gf M)) (J5 @ik.eq_1 @ik.eq_2 bz @be.eq_1 @aW.v.eq_1) ?_<;>(unhygienic intros)
 all_goals(
  refine⟨_,by simp [hq,AW.af,aB];rfl,by simp [aW.v,aW.zero,be],?_⟩;apply ah.bO
  (·exact sA)
  (·first|exact pP|exact kP))
theorem Gg (b pb:Nat) (s:aM) (M:Mm) (hd:s.aG=.jf):fE b pb s M:=by
 (unhygienic cases s);dsimp only at hd;subst hd;unfold fE;rw [show cK ⟨cf,am,aA,az,value,bY,aj,reads,ak,av,set,bu,aw,ao,aJ,aI,an,.jf⟩ M=(DU M 6 am 0,24,⟨cf,am,2,az,value,bY,aj,reads,ak,av,set,bu,aw,ao,aJ,aI,an,.bF⟩,Gj M 6 am 0) from rfl];intro A F hw hS;refine aF Tryz.func87 λ_=>?_;dsimp only [aa,ag] at hS;obtain⟨x0,hS⟩:=aX.open hS .z;(unhygienic cases x0);dsimp only [b9,gZ,cF,ez,br.gf,aa,ag] at hS;have hq:=fC hS hw;revert hq hS hw;clear hS;refine Wp (J1 (KV pb am M)) (J3 bz @be.eq_1 @aW.v.eq_1) ?_<;>(unhygienic intros);refine⟨_,by simp [hq,AW.af,aB];rfl,by first|(simp [aW.v];done)|(simp [aW.v,h];done),?_⟩;apply aX.bO
 (·exact sA)
 exact fP
 (·first|exact pP|exact kP)
 all_goals(first|exact 0|exact undef)
theorem Nv (b pb:Nat) (s:aM) (M:Mm) (h:HD s M):fE b pb s M:=by
 obtain⟨hC,hD⟩:=h;have GN:s.set.length<2^38:=by
  have h1:=hC.set;have h2:=hC.cf.reads;omega
 cases hd:s.aG with
 | bF=>exact Nu b pb s M hd
 | je k=>
   rw [hd] at hD;cases k with
   | tk=>exact Gd b pb s M hd hC
   | Rt=>exact Gf b pb s M hd hC
   | bO c=>exact Ge b pb s c M hd hC
   | take v=>exact Ec b pb s v M hd hC
   | nq a v=>exact B7 b pb s a v M hd hC hD
   | Dc=>exact Ed b pb s M hd hC
   | dq k v=>exact B8 b pb s k v M hd hC hD
 | fx=>
   rw [hd] at hD;obtain⟨e,he⟩:=hD;exact Ee b pb s e M hd he
 | bh c u=>
   rw [hd] at hD;obtain⟨h1,h2,h3,h4⟩:=hD;cases u with
   | take=>exact Kc b pb s c M hd hC h1 h2 h3
   | dq k=>exact Kd b pb s c k M hd hC h1 h2 h3 h4
 | fw p=>
   rw [hd] at hD;exact Ga b pb s p M hd hC hD.1 hD.2.1 hD.2.2
 | fy=>
   rw [hd] at hD;obtain⟨l,h1,h2,h3⟩:=hD;exact Gc b pb s l M hd h1 h2 h3
 | dE=>
   rw [hd] at hD;obtain⟨t,h1⟩:=hD;exact F8 b pb s t M hd h1 GN
 | d9 c=>
   rw [hd] at hD;exact Eg b pb s c M hd hD
 | cH=>
   rw [hd] at hD;exact Ef b pb s M hd hC hD
 | eS w=>
   rw [hd] at hD;exact F7 b pb s w M hd hD.1 hD.2
 | da w=>
   rw [hd] at hD;exact B6 b pb s w M hd hD
 | jb=>exact Eb b pb s M hd
 | gH=>
   rw [hd] at hD;obtain⟨t,h1⟩:=hD;exact Gb b pb s t M hd hC h1
 | fv p=>
   rw [hd] at hD;exact F9 b pb s p M hd hC hD
 | jf=>exact Gg b pb s M hd
end
section
open T20 T13
variable [Gl]
theorem ah.lP {A:AW} {L:List It} (h:ah A L):ah A (.h eC::L):=by
 unfold ah at h ⊢;show bk A (eC*aE L);rw [gL];exact h
theorem KI {A:AW} {L:List It} {k:Value->AW->Prop} {w:Nat} (Ql:w<=32) (hw:A.Wf) (hS:ah A L) (hk:∀n A',ah A' (.h (pw n (iy w))::L)->A'.Wf->k (pv n) A'):ax Tryz.prog 213 [.int .i64 w] A k:=by
 refine bD (IJ w Ql A L hw hS) ?_;rintro _ A' ⟨n,rfl,h1⟩ i8 _;exact hk n A' h1 i8
theorem P6 (c:bq) (hc:db c) (t:Int) (A:AW) (F:HP) (hw:A.Wf) (hS:ah A [.h F]) :
 ax Tryz.prog 148 [c.v,.int .i64 t] A (λv A'=>∃b,v=pv b/\ah A' [.h (aX b (fG c t)),.h F]):=by
 refine aF Tryz.func148 λ_=>?_;obtain⟨r0,r1⟩:=hc.reads;obtain⟨w0,w1⟩:=hc.bK;obtain⟨w,Xd⟩:∃w:Nat,c.bK=w:=⟨c.bK.toNat,by omega⟩;dsimp only [bq.v];rw [Xd]
 repeat' (first|(refine jX λR hR=>?_;simp [ai,ar,AW.af,aB];try simp (disch:=omega) only [if_pos,if_neg,ai,ar])|(refine hR _ _ ?_;clear hR R)|(refine hK _ _ ?_;clear hK K)|refine nx ?_|refine wn λK hK=>?_|simp only [wS]|(refine bD (IF c.reads _ ⟨by omega,r1⟩) ?_;rintro _ _ ⟨rfl,rfl⟩ _ _)|(refine ⟨λA' yx=>by simp [AW.af,yx],?_⟩)|(refine ⟨by simp [hq],?_⟩)|(refine U5 (λA'=>A'.bg A.next=some (.cells [.int .i64 c.ba,.int .i64 c.ao,.int .i64 c.base,.int .i64 c.c0,.int .i64 c.c1,.int .i64 c.c2,.int .i64 c.c3,.int .i64 c.reads,.int .i64 w,.int .i64 c.ak,.int .i64 c.av,.int .i64 c.aw,.bool c.aT] true 1)) Tryz.mx [(0,0),(1,0),(3,0),(4,0),(7,1),(8,0),(2,2),(5,3),(6,0),(9,0),(10,2),(11,0)] (by decide +kernel) λK hK=>?_)|(apply KI (by omega);(·exact wA);(·exact sA);((first|rintro _ _ _ hS hw eJ|rintro _ _ hS hw eJ|rintro _ _ hS hw);(try refine⟨eJ,?_⟩);(try dsimp only [AW.aV] at hS);have hq:=Yx hS hw))|(show cM _ _ _ _ _ _;refine nx ?_)|(refine wc rfl (λhc=>?_) (λhc=>?_)<;>(try simp at hc)<;>(try omega)<;>(try (simp [h2] at hc;done))<;>(try (simp [h3] at hc;done))<;>(try (simp [h4] at hc;done)))|(refine ib (λhc=>?_) (λhc=>?_)<;>(try omega)<;>(try simp (disch:=omega) only [if_pos,if_neg])))
 have e:fG c t=⟨c,t,0,0,0,none,false,[],[],[],[],iy w,0,[],none,none,0,.bF⟩:=by unfold fG;rw [Xd]
 have h:=Xd;refine⟨_,by first|rfl|(simp;rfl),_,rfl,?_⟩;rw [e];apply aX.bO;apply ah.uj .i64;apply ah.uj .i64;apply ah.uj .i64;apply ah.uj .i64;apply ah.lP;apply ah.lP;apply ah.lP;apply vM.dA (ef:=c.reads.toNat) (l:=[]) (v:=.slice none 0 0);apply ah.uj .i64
 (·exact sA)
 (·first|exact pP|exact kP)
 (dsimp only [b9,tC,gZ,cF,ez,br.gf,nH,jt,ik,pU,lY,qq,wT,mf,lV,iL,pV,pM,wH,pN,aa,ag])
 simp only [h]
 (·first|exact pP|exact kP)
 (·first|exact pP|exact kP)
 all_goals(first|exact 0|exact undef)
theorem LD (b:Nat) (s:aM) (bR:Int) (d:br) (A:AW) (hw:A.Wf) (hS:ah A [.h (iT b s bR d)]) (hl:s.av.length<2^38) :
 ax Tryz.prog 204 [pv b] A (λu A'=>dx A.next A' .i64 u s.av/\A.le A'):=by
 refine aF Tryz.func204 λ_=>?_;obtain⟨x0,hS⟩:=iT.open hS .z;(unhygienic cases x0);dsimp only [b9,aa,ag] at hS;have hI:=ah.qT hS (.s (.s (.s (.s (.s (.s (.s (.s .z))))))));have hq:=fC hS hw;revert hq hS hw;clear hS;refine Wp cd (J1 @AW.af) ?_<;>(unhygienic intros);refine bD (jq _ _ A hI (by omega)) ?_;rintro u A1 ⟨h1,h2⟩ jg _;refine Wp cd trivial ?_<;>intros;exact⟨_,by first|rfl|(simp;rfl),h1,h2⟩
end
section
open T20 T13
variable [Gl]
def lW (s:aM):List Int:=s.bu.bT.filter (λa=>decide (a<s.cf.ba))
theorem OB {A:AW} {L K:List It} {k:Value->AW->Prop} {v:Value} {l:List Int} (hw:A.Wf) (hS:ah A L) (hp:ay L (.h (ap .i64 v l)) K) (hl:l.length<2^38)
 (hk:∀o c A',ah A' (.h (ap .i64 (.slice o l.length c) l)::L)->A'.Wf->A.le A'->k (.slice o l.length c) A'):ax Tryz.prog 46 [v] A k:=by
 refine bD (jq v l A (ah.qT hS hp) (by omega)) ?_;rintro u A' ⟨h1,h2⟩ i8 _;obtain⟨o,c,rfl,_⟩:=h1.is.bE;exact hk o c A' (ap.gA hS hw h2 h1) i8 h2
theorem HW (b:Nat) (s:aM) (bR:Int) (d:br) (hC:gq s) (f:qC) (A:AW) (F:HP) (hw:A.Wf) (hS:ah A (b9 b s bR d f++[.h F])) :
 ax Tryz.prog 89 [pv b] A (λv A'=>∃u w,v=.tuple #[u,w]/\ah A' (.h (ap .i64 u s.reads)::.h (ap .i64 w (lW s))::(b9 b s bR d f++[.h F]))):=by
 refine aF Tryz.func89 λ_=>?_;have bG:=hC.len;have Uu:=hC.jB;obtain⟨eb,eG,bH,c8,cU,m,c0,c1,c2,df,bn,bU,bW,eh,dg,eV,bX,bV,bd,dh,dk,gt,ei⟩:=f;dsimp only [b9,aa,ag] at hS;have hq:=fC hS hw
 repeat' (first|(refine jX λR hR=>?_;simp [ai,ar,hq,AW.af,aB];try simp (disch:=omega) only [if_pos,if_neg,ai,ar])|(refine hR _ _ ?_;clear hR R)|(refine hK _ _ ?_;clear hK K)|refine nx ?_|refine wn λK hK=>?_|simp only [wS]|(show cM _ _ _ _ _ _;refine nx ?_)|(refine wc rfl (λhc=>?_) (λhc=>?_)<;>(try simp at hc)<;>(try omega)<;>(try (simp [h2] at hc;done))<;>(try (simp [h3] at hc;done))<;>(try (simp [h4] at hc;done)))|(refine ib (λhc=>?_) (λhc=>?_)<;>(try omega)<;>(try simp (disch:=omega) only [if_pos,if_neg])))
 apply sO (n:=eG) (s:=s.bu);exact hw;exact hS
 (·first|exact pP|exact kP)
 omega;intro o1 c3 A1 hS hw _;generalize hn:s.bu.bT=ad at *;revert hq hS hw;(repeat first|clear hq|clear hS|clear hw|revert hc|revert R|revert K);refine Wp cd (J1 bz) ?_<;>(unhygienic intros)
 refine cW (λk fr A'=>A'.Wf/\∃(i:Nat) (v:Value) (q:List Int),q=(ad.take i).filter (λa=>decide (a<s.cf.ba))/\k=ad.length-i/\i<=ad.length/\fr 0=pv b/\fr 3=v/\fr 11=.slice o1 ad.length c3/\fr 12=.int .i64 ad.length/\fr 13=.int .i64 i/\
  ah A' (.h (ap .i64 v q)::.h (ap .i64 (.slice o1 ad.length c3) ad)::(b9 b s bR d ⟨eb,eG,bH,c8,cU,m,c0,c1,c2,df,bn,bU,bW,eh,dg,eV,bX,bV,bd,dh,dk,gt,ei⟩++[.h F]))) ad.length ?_ ?_
 refine⟨hw,0,.slice none 0 0,[],by simp,by simp,by simp,by simp,by simp,by simp,by simp,by simp,?_⟩;exact ah.uj .i64 hS;rintro k fr A' ⟨hw,i,v,q,HO,rfl,hi,h0,h3,D0,FI,MR,hS⟩;have hI:=ah.qT hS (.s .z);have UK:=ah.qT hS .z;have VV:q.length<=i:=by
  rw [HO];have:=List.length_filter_le (λa=>decide (a<s.cf.ba)) (ad.take i);have h9:(ad.take i).length<=i:=by simp;omega
  omega
 obtain⟨ov,cv,rfl,_⟩:=UK.bE;dsimp only [b9,gZ,cF,ez,br.gf,aa,ag] at hS;have hq:=MI hS hw;refine aO ?_;by_cases bL:i<ad.length
 . have gW:(i:Int)<ad.length:=(by omega);have fU:=uR (i:=i);obtain⟨p,bP,rfl,bI,hcell⟩:=hI.at bL;have Us:ad.take (i+1)=ad.take i++[ad[i]]:=List.take_succ_eq_append_getElem bL;by_cases h:ad[i]<s.cf.ba
   . revert hq hS hw;(repeat first|clear hq|clear hS|clear hw|revert hc|revert R|revert K);refine Wu cd (tA h0 h3 D0 FI MR bI hcell h bL gW fU bz) ?_<;>(unhygienic intros);refine⟨ad.length-(i+1),by omega,hw,i+1,_,q++[ad[i]],?_,rfl,by omega,by simp [h0],by simp;rfl,by simp [D0],by simp [FI],by simp,?_⟩;rw [HO,Us,List.filter_append];simp [h];apply ah.bO hS;dsimp only [b9,gZ,cF,ez,br.gf,aa,ag]
     (·first|exact pP|exact kP)
   revert hq hS hw;(repeat first|clear hq|clear hS|clear hw|revert hc|revert R|revert K);refine Wp cd (tA h0 h3 D0 FI MR bI hcell h bL gW fU bz) ?_<;>(unhygienic intros);refine⟨ad.length-(i+1),by omega,hw,i+1,_,q,?_,rfl,by omega,by simp [h0],by simp [h3];rfl,by simp [D0],by simp [FI],by simp,?_⟩;rw [HO,Us,List.filter_append];simp [h];apply ah.bO hS;dsimp only [b9,gZ,cF,ez,br.gf,aa,ag]
   (·first|exact pP|exact kP)
 have Ls:i=ad.length:=by omega
 subst Ls;rw [List.take_length] at HO;revert hq hS hw;(repeat first|clear hq|clear hS|clear hw|revert hc|revert R|revert K);refine Wp (J1 (Tg.mk (n:=11) @OB)) (J6 h0 h3 D0 FI MR bz) ?_<;>(unhygienic intros);refine⟨_,by first|(simp [h3];done)|(simp [h3];rfl),?_⟩;refine⟨_,_,rfl,?_⟩;have VK:lW s=q:=by unfold lW;rw [hn,HO]
 rw [VK];apply ah.bO hS;dsimp only [b9,aa,ag]
 (·first|exact pP|exact kP)
theorem FY (n:Nat) (s:aM) (hC:gq s):dT Tryz.prog 89 [pv n] [.h (aX n s)] (λ(x:(Option Addr×Nat)×Option Addr×Nat) v=>v=.tuple #[.slice x.1.1 s.reads.length x.1.2,.slice x.2.1 (lW s).length x.2.2]) (λx=>[.h (ap .i64 (.slice x.1.1 s.reads.length x.1.2) s.reads),.h (ap .i64 (.slice x.2.1 (lW s).length x.2.2) (lW s)),.h (aX n s)]):=by
 intro A F hw hS;obtain⟨f,hS⟩:=aX.open hS .z;rw [List.append_assoc] at hS;have kL:ah A (b9 n s s.aG.gf s.aG f++[.h (aE (gZ n s.aG f++[.h F]))]):=by
  unfold ah at hS ⊢;rw [fF] at hS ⊢;show bk A (aE (b9 n s s.aG.gf s.aG f)*(aE (gZ n s.aG f++[.h F])*eC));rw [du];exact hS
 refine(HW n s s.aG.gf s.aG hC f A _ hw kL).mono ?_;rintro v A' ⟨u,w,rfl,h⟩;obtain⟨o1,c1,rfl,_⟩:=(ah.qT h .z).bE;obtain⟨o2,c2,rfl,_⟩:=(ah.qT h (.s .z)).bE;refine⟨((o1,c1),o2,c2),rfl,?_⟩;show ah A' [.h (ap .i64 (.slice o1 s.reads.length c1) s.reads),.h (ap .i64 (.slice o2 (lW s).length c2) (lW s)),.h (aX n s),.h F];generalize hu:Value.slice o1 s.reads.length c1=u at h ⊢;generalize hv:Value.slice o2 (lW s).length c2=w at h ⊢;unfold ah at h ⊢;have h3:bk A' (ap .i64 u s.reads*(ap .i64 w (lW s)*aE (b9 n s s.aG.gf s.aG f++[.h (aE (gZ n s.aG f++[.h F]))]))):=h;rw [fF,show aE [It.h (aE (gZ n s.aG f++[.h F]))]=aE (gZ n s.aG f++[.h F]) from du _,fF] at h3;show bk A' (ap .i64 u s.reads*(ap .i64 w (lW s)*(aX n s*(F*eC))));rw [du];have h4:bk A' (aE (b9 n s s.aG.gf s.aG f++gZ n s.aG f)*(ap .i64 u s.reads*(ap .i64 w (lW s)*F))):=by
  rw [fF];refine h3.dK ?_;rw [show aE [It.h F]=F from du F]
  ac_rfl
 have h5:bk A' (aX n s*(ap .i64 u s.reads*(ap .i64 w (lW s)*F))):=by
  show bk A' (pG (λf:qC=>aE (b9 n s s.aG.gf s.aG f++gZ n s.aG f))*_);rw [bk.ex];exact⟨f,h4⟩
 exact h5.dK (by ac_rfl)
end
section
abbrev Mw:List (Nat×Nat):=[(0,0),(1,0),(2,0),(3,0),(4,0),(5,0),(6,0),(7,0),(8,0),(9,2),(10,0)]
open T7
variable [Gl]
structure L6 (c:bq):Prop where
 ok:db c
 ba:4<=c.ba/\c.ba<=12
 ao:c.ao<=8
 base:c.base=2
 c0:c.c0<=2
 c1:c.c1<=2
 c2:c.c2=0
 c3:c.c3=0
 reads:c.reads<=6
 bK:c.bK<=8
 ak:c.ak<=2
 av:c.av<=2
 aw:c.aw<=50
def CG (p0 p1 p2 p3 p4 p5 ck n0 n1:Int):bq:=⟨4+p0,1+p1,2,n0,n1,0,0,1+p2,1+p3,p4,p5,ck,false⟩
theorem Jw (l0 l1 l2 l3 l4:Int):∃c,L6 c/\∀A,ax Tryz.prog 20 [.int .i64 l0,.int .i64 l1,.int .i64 l2,.int .i64 l3,.int .i64 l4] A (λv A'=>v=c.v/\A=A'):=by
 obtain⟨p0,ML⟩:∃p0,ko l0 9=p0:=⟨_,rfl⟩;have qp0:=f8 l0 9 (by omega);have kp0:=λA=>iN l0 9 A (by omega) (by omega);rw [ML] at qp0 kp0;obtain⟨p1,EL⟩:∃p1,ko l1 8=p1:=⟨_,rfl⟩;have qp1:=f8 l1 8 (by omega);have kp1:=λA=>iN l1 8 A (by omega) (by omega);rw [EL] at qp1 kp1;obtain⟨p2,Bm⟩:∃p2,ko l2 6=p2:=⟨_,rfl⟩;have qp2:=f8 l2 6 (by omega);have kp2:=λA=>iN l2 6 A (by omega) (by omega);rw [Bm] at qp2 kp2;obtain⟨p3,YB⟩:∃p3,ko (IntKind.i64.wrap (l2.tdiv 7)) 8=p3:=⟨_,rfl⟩;have qp3:=f8 (IntKind.i64.wrap (l2.tdiv 7)) 8 (by omega);have kp3:=λA=>iN (IntKind.i64.wrap (l2.tdiv 7)) 8 A (by omega) (by omega);rw [YB] at qp3 kp3;obtain⟨p4,hp4⟩:∃p4,ko l3 3=p4:=⟨_,rfl⟩;have qp4:=f8 l3 3 (by omega);have kp4:=λA=>iN l3 3 A (by omega) (by omega);rw [hp4] at qp4 kp4;obtain⟨p5,hp5⟩:∃p5,ko (IntKind.i64.wrap (l3.tdiv 3)) 3=p5:=⟨_,rfl⟩;have qp5:=f8 (IntKind.i64.wrap (l3.tdiv 3)) 3 (by omega);have kp5:=λA=>iN (IntKind.i64.wrap (l3.tdiv 3)) 3 A (by omega) (by omega)
 rw [hp5] at qp5 kp5;obtain⟨p6,YA⟩:∃p6,ko l4 5=p6:=⟨_,rfl⟩;have qp6:=f8 l4 5 (by omega);have kp6:=λA=>iN l4 5 A (by omega) (by omega);rw [YA] at qp6 kp6;obtain⟨p7,hp7⟩:∃p7,ko (IntKind.i64.wrap (l4.tdiv 5)) 4=p7:=⟨_,rfl⟩;have qp7:=f8 (IntKind.i64.wrap (l4.tdiv 5)) 4 (by omega);have kp7:=λA=>iN (IntKind.i64.wrap (l4.tdiv 5)) 4 A (by omega) (by omega);rw [hp7] at qp7 kp7;obtain⟨p8,hp8⟩:∃p8,ko (IntKind.i64.wrap (l3.tdiv 9)) (4+p0-2+1)=p8:=⟨_,rfl⟩;have qp8:=f8 (IntKind.i64.wrap (l3.tdiv 9)) (4+p0-2+1) (by omega);have Yh:=λA=>iN (IntKind.i64.wrap (l3.tdiv 9)) (4+p0-2+1) A (by omega) (by omega);rw [hp8] at qp8 Yh;obtain⟨n0,DX⟩:∃n0,(if 2<p8 then 2 else p8)=n0:=⟨_,rfl⟩;have hn0':0<=n0/\n0<=2/\n0<=4+p0-2:=by
  rw [<-DX];split<;>omega
 obtain⟨m1,GQ⟩:∃m1,(4+p0-2-n0).fdiv 2=m1:=⟨_,rfl⟩;have hm1':0<=m1/\m1*2<=4+p0-2-n0/\m1<=20:=by
  have h9:(4+p0-2-n0).fdiv 2=(4+p0-2-n0) / 2:=Int.fdiv_eq_ediv_of_nonneg _ (by omega);rw [h9] at GQ;omega
 have hmw:IntKind.i64.wrap (m1+1)=m1+1:=ai (by omega) (by omega);obtain⟨p10,hp10⟩:∃p10,ko (IntKind.i64.wrap (l3.tdiv 29)) (m1+1)=p10:=⟨_,rfl⟩;have qp10:=f8 (IntKind.i64.wrap (l3.tdiv 29)) (m1+1) (by omega);have VD:=λA=>iN (IntKind.i64.wrap (l3.tdiv 29)) (m1+1) A (by omega) (by omega);rw [hp10] at qp10 VD;obtain⟨n1,C0⟩:∃n1,(if 2<p10 then 2 else p10)=n1:=⟨_,rfl⟩;have hn1':0<=n1/\n1<=2/\n1<=m1:=by
  rw [<-C0];split<;>omega
 obtain⟨ck,I8⟩:∃ck,(if p6=0 then p7 else 50)=ck:=⟨_,rfl⟩;have hck':0<=ck/\ck<=50:=by
  rw [<-I8];split<;>omega
 have key:∀A:AW,A.Wf->ax Tryz.prog 20 [.int .i64 l0,.int .i64 l1,.int .i64 l2,.int .i64 l3,.int .i64 l4] A (λv A'=>v=(CG p0 p1 p2 p3 p4 p5 ck n0 n1).v/\A.le A'):=by
  intro A hw;refine aF Tryz.func20 λ_=>?_;by_cases h:p6=0
  . rw [if_pos h] at I8;revert hw;refine W (Bs (od Mw) @kp0 @kp1 @kp2 @kp3 @kp4 @kp5 @kp6 @kp7 @Yh) (J7 h DX C0 GQ hmw @Ua bz) ?_<;>(unhygienic intros);refine ii 3 ?_;refine W (J3 (od Mw) @Yh @VD) (J7 h DX C0 GQ hmw @Ua bz) ?_<;>intros;refine⟨_,by simp [AW.af];rfl,by simp [CG,bq.v,DX,C0,I8,AW.af],?_⟩
    repeat' (first|exact AW.le.refl _|refine AW.le.set ?_ (by simp<;>omega) _|refine AW.le.trans ?_ (AW.le.alloc _ _))
  rw [if_neg h] at I8;revert hw;(repeat first|clear hw|revert hc|revert R|revert K);refine W (Bs (od Mw) @kp0 @kp1 @kp2 @kp3 @kp4 @kp5 @kp6 @kp7 @Yh) (J7 h DX C0 GQ hmw @Ua bz) ?_<;>(unhygienic intros);refine ii 3 ?_;refine W (J3 (od Mw) @Yh @VD) (J7 h DX C0 GQ hmw @Ua bz) ?_<;>intros;refine⟨_,by simp [AW.af];rfl,by simp [CG,bq.v,DX,C0,I8,AW.af],?_⟩
  repeat' (first|exact AW.le.refl _|refine AW.le.set ?_ (by simp<;>omega) _|refine AW.le.trans ?_ (AW.le.alloc _ _))
 refine⟨CG p0 p1 p2 p3 p4 p5 ck n0 n1,?_,λA=>ax.qt (V:=(CG p0 p1 p2 p3 p4 p5 ck n0 n1).v) (cL.agg (by simp [CG])) (λhw=>key A hw) (by kernel_rfl)⟩;refine⟨⟨?_,?_,?_,?_,?_,?_,?_,?_,?_,?_,?_,?_,?_,?_⟩,?_,?_,?_,?_,?_,?_,?_,?_,?_,?_,?_,?_⟩<;>(simp only [CG,bq.nb,bq.hw]<;>omega)
end
end Go.Stx
