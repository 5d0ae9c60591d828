/-
 The program's attempt: a step.
-/
import Derived.Test.YtipomeafemoelaaGreatDoorG06
set_option linter.unusedVariables false
set_option linter.unusedSimpArgs false
set_option linter.unusedSectionVars false
set_option maxRecDepth 20000
set_option maxHeartbeats 4000000
open Go.IntKind renaming i64->qg,u64->qd
open Go.Proofs.Tryz renaming func87->qP,prog->qa
open List renaming filter_append->kaH
namespace Go.Stx
open Go Go.Proofs
attribute [local irreducible] TW bG c8 aY aD aO cK da
section
open T20 T13
variable [Gl]
def Ur (s:aJ):Prop:=s.ao.length<2^20/\(s.ao.length=0\/∃l,s.aP=some l/\s.ao.length=l.dT.length)
def LocOk (s:aJ):FN->Prop
 | .lU a _=>0<=a
 | .dg k _=>0<=k/\k<s.cf.nb
 | _=>True
def UseOk (s:aJ):zH->Prop
 | .take=>True
 | .dg k=>0<=k/\k<s.cf.nb
def DoOk (s:aJ) (M:Mm):bD->Prop
 | .iP k=>LocOk s k
 | .ei=>∃e,s.b7=some e
 | .bh c u=>s.reads.length+1<2^20/\(0<=c.bW/\c.bW<=2)/\c.ig=gw s.cf c.dJ/\UseOk s u
 | .eO p=>s.an.length<8/\(0<=p.eE/\p.eE<=3)/\(gg p M).2.1.block<s.cf.nb
 | .eh=>∃l,s.aP=some l/\l.dT.length<=l.ao.length/\l.ao.length<2^38
 | .cU=>∃t,s.aL=some t
 | .cM _=>Ur s
 | .bK=>Ur s
 | .di w=>w.os.length=w.ws.length/\s.ao.length<2^20
 | .bH w=>w.os.length=w.ws.length
 | .ey=>∃t,s.aL=some t
 | .eL _=>s.au<s.an.length
 | _=>True
structure JC (s:aJ) (M:Mm):Prop where
 c:gL s
 d:DoOk s M s.aH
def gb (b pb:Nat) (s:aJ) (M:Mm):Prop:=
 bn qa 87 [pv b,pv pb] [.h (bf b s),dN pb M] (λv=>v=.tuple #[(bC s M).1.v,.int .i64 (bC s M).2.1])
  (λ_=>[.h (bf b (bC s M).2.2.1),dN pb (bC s M).2.2.2])
theorem Ga (b pb:Nat) (s:aJ) (en:iv) (M:Mm) (hd:s.aH=.ei) (he:s.b7=some en):gb b pb s M:=by
 (unhygienic cases s);dsimp only at hd;subst hd;dsimp only at he;subst he;obtain⟨x,ph,s',M',hr⟩:∃x ph s' M',gN ⟨cf,aj,aF,aC,value,some en,am,reads,an,ay,set,bz,aB,ao,aP,aL,au,.ei⟩ M en=(x,ph,s',M'):=⟨_,_,_,_,rfl⟩;have jh:=D5 b pb ⟨cf,aj,aF,aC,value,some en,am,reads,an,ay,set,bz,aB,ao,aP,aL,au,.ei⟩ en M rfl rfl;rw [hr] at jh;unfold gb;rw [show bC ⟨cf,aj,aF,aC,value,some en,am,reads,an,ay,set,bz,aB,ao,aP,aL,au,.ei⟩ M=gN ⟨cf,aj,aF,aC,value,some en,am,reads,an,ay,set,bz,aB,ao,aP,aL,au,.ei⟩ M en from rfl,hr];intro A F hw hS;refine aN qP λ_=>?_;dsimp only [aa,af] at hS;obtain⟨x0,hS⟩:=bf.open hS .z;(unhygienic cases x0);dsimp only [cr,iJ,cZ,eH,bD.fY,aa,af] at hS;have hq:=fZ hS hw;revert hq hS hw;clear hS;refine Wp (J1 (Tg.mk (n:=21) @jh)) (J3 bE @bk.eq_1 @aZ.v.eq_1) ?_<;>(unhygienic intros)
 all_goals(
  refine⟨_,by simp [hq,AW.ab,aG];rfl,by simp [aZ.v,aZ.zero,bk],?_⟩;apply ah.bS
  (·exact sA)
  (·first|exact pP|exact kP))
theorem Mv (b pb:Nat) (s:aJ) (c:iI) (M:Mm) (hd:s.aH=.bh c .take) (hC:gL s) (h1:s.reads.length+1<2^20) (h2:0<=c.bW/\c.bW<=2) (h3:c.ig=gw s.cf c.dJ):gb b pb s M:=by
 (unhygienic cases s);dsimp only at hd;subst hd;obtain⟨x,ph,s',M',hr⟩:∃x ph s' M',du ⟨cf,aj,aF,aC,value,b7,am,reads,an,ay,set,bz,aB,ao,aP,aL,au,.bh c .take⟩ M c .take=(x,ph,s',M'):=⟨_,_,_,_,rfl⟩;have jh:=D3 b pb ⟨cf,aj,aF,aC,value,b7,am,reads,an,ay,set,bz,aB,ao,aP,aL,au,.bh c .take⟩ c M rfl hC h1 h2 h3;rw [hr] at jh;unfold gb;rw [show bC ⟨cf,aj,aF,aC,value,b7,am,reads,an,ay,set,bz,aB,ao,aP,aL,au,.bh c .take⟩ M=du ⟨cf,aj,aF,aC,value,b7,am,reads,an,ay,set,bz,aB,ao,aP,aL,au,.bh c .take⟩ M c .take from rfl,hr];intro A F hw hS;refine aN qP λ_=>?_;dsimp only [aa,af] at hS;obtain⟨x0,hS⟩:=bf.open hS .z;(unhygienic cases x0);dsimp only [cr,iJ,cZ,eH,bD.fY,aa,af] at hS;have hq:=fZ hS hw;revert hq hS hw;clear hS;refine Wp (J1 (Tg.mk (n:=21) @jh)) (J3 bE @bk.eq_1 @aZ.v.eq_1) ?_<;>(unhygienic intros)
 all_goals(
  refine⟨_,by simp [hq,AW.ab,aG];rfl,by simp [aZ.v,aZ.zero,bk],?_⟩;apply ah.bS
  (·exact sA)
  (·first|exact pP|exact kP))
theorem Mw (b pb:Nat) (s:aJ) (c:iI) (kb:Int) (M:Mm) (hd:s.aH=.bh c (.dg kb)) (hC:gL s) (h1:s.reads.length+1<2^20) (h2:0<=c.bW/\c.bW<=2) (h3:c.ig=gw s.cf c.dJ) (h4:0<=kb/\kb<s.cf.nb):gb b pb s M:=by
 (unhygienic cases s);dsimp only at hd;subst hd;obtain⟨x,ph,s',M',hr⟩:∃x ph s' M',du ⟨cf,aj,aF,aC,value,b7,am,reads,an,ay,set,bz,aB,ao,aP,aL,au,.bh c (.dg kb)⟩ M c (.dg kb)=(x,ph,s',M'):=⟨_,_,_,_,rfl⟩;have jh:=D4 b pb ⟨cf,aj,aF,aC,value,b7,am,reads,an,ay,set,bz,aB,ao,aP,aL,au,.bh c (.dg kb)⟩ c kb M rfl hC h1 h2 h3 h4;rw [hr] at jh;unfold gb;rw [show bC ⟨cf,aj,aF,aC,value,b7,am,reads,an,ay,set,bz,aB,ao,aP,aL,au,.bh c (.dg kb)⟩ M=du ⟨cf,aj,aF,aC,value,b7,am,reads,an,ay,set,bz,aB,ao,aP,aL,au,.bh c (.dg kb)⟩ M c (.dg kb) from rfl,hr];intro A F hw hS;refine aN qP λ_=>?_;dsimp only [aa,af] at hS;obtain⟨x0,hS⟩:=bf.open hS .z;(unhygienic cases x0);dsimp only [cr,iJ,cZ,eH,bD.fY,aa,af] at hS;have hq:=fZ hS hw;revert hq hS hw;clear hS;refine Wp (J1 (Tg.mk (n:=21) @jh)) (J3 bE @bk.eq_1 @aZ.v.eq_1) ?_<;>(unhygienic intros)
 all_goals(
  refine⟨_,by simp [hq,AW.ab,aG];rfl,by simp [aZ.v,aZ.zero,bk],?_⟩;apply ah.bS
  (·exact sA)
  (·first|exact pP|exact kP))
theorem H8 (b pb:Nat) (s:aJ) (p:pw) (M:Mm) (hd:s.aH=.eO p) (hC:gL s) (h1:s.an.length<8) (h2:0<=p.eE/\p.eE<=3) (h3:(gg p M).2.1.block<s.cf.nb):gb b pb s M:=by
 (unhygienic cases s);dsimp only at hd;subst hd;obtain⟨x,ph,s',M',hr⟩:∃x ph s' M',lh ⟨cf,aj,aF,aC,value,b7,am,reads,an,ay,set,bz,aB,ao,aP,aL,au,.eO p⟩ M p=(x,ph,s',M'):=⟨_,_,_,_,rfl⟩;have jh:=If b pb ⟨cf,aj,aF,aC,value,b7,am,reads,an,ay,set,bz,aB,ao,aP,aL,au,.eO p⟩ p M rfl hC h1 h2 h3 (Ks p M);rw [hr] at jh;unfold gb;rw [show bC ⟨cf,aj,aF,aC,value,b7,am,reads,an,ay,set,bz,aB,ao,aP,aL,au,.eO p⟩ M=lh ⟨cf,aj,aF,aC,value,b7,am,reads,an,ay,set,bz,aB,ao,aP,aL,au,.eO p⟩ M p from rfl,hr];intro A F hw hS;refine aN qP λ_=>?_;dsimp only [aa,af] at hS;obtain⟨x0,hS⟩:=bf.open hS .z;(unhygienic cases x0);dsimp only [cr,iJ,cZ,eH,bD.fY,aa,af] at hS;have hq:=fZ hS hw;revert hq hS hw;clear hS;refine Wp (J1 (Tg.mk (n:=21) @jh)) (J3 bE @bk.eq_1 @aZ.v.eq_1) ?_<;>(unhygienic intros)
 all_goals(
  refine⟨_,by simp [hq,AW.ab,aG];rfl,by simp [aZ.v,aZ.zero,bk],?_⟩;apply ah.bS
  (·exact sA)
  (·first|exact pP|exact kP))
theorem Ia (b pb:Nat) (s:aJ) (l:ik) (M:Mm) (hd:s.aH=.eh) (he:s.aP=some l) (h1:l.dT.length<=l.ao.length) (h2:l.ao.length<2^38):gb b pb s M:=by
 (unhygienic cases s);dsimp only at hd;subst hd;dsimp only at he;subst he;obtain⟨x,ph,s',M',hr⟩:∃x ph s' M',ip ⟨cf,aj,aF,aC,value,b7,am,reads,an,ay,set,bz,aB,ao,some l,aL,au,.eh⟩ M l=(x,ph,s',M'):=⟨_,_,_,_,rfl⟩;have jh:=Gf b pb ⟨cf,aj,aF,aC,value,b7,am,reads,an,ay,set,bz,aB,ao,some l,aL,au,.eh⟩ l M rfl rfl h1 h2;rw [hr] at jh;unfold gb;rw [show bC ⟨cf,aj,aF,aC,value,b7,am,reads,an,ay,set,bz,aB,ao,some l,aL,au,.eh⟩ M=ip ⟨cf,aj,aF,aC,value,b7,am,reads,an,ay,set,bz,aB,ao,some l,aL,au,.eh⟩ M l from rfl,hr];intro A F hw hS;refine aN qP λ_=>?_;dsimp only [aa,af] at hS;obtain⟨x0,hS⟩:=bf.open hS .z;(unhygienic cases x0);dsimp only [cr,iJ,cZ,eH,bD.fY,aa,af] at hS;have hq:=fZ hS hw;revert hq hS hw;clear hS;refine Wp (J1 (Tg.mk (n:=21) @jh)) (J3 bE @bk.eq_1 @aZ.v.eq_1) ?_<;>(unhygienic intros)
 all_goals(
  refine⟨_,by simp [hq,AW.ab,aG];rfl,by simp [aZ.v,aZ.zero,bk],?_⟩;apply ah.bS
  (·exact sA)
  (·first|exact pP|exact kP))
theorem H6 (b pb:Nat) (s:aJ) (t:iG) (M:Mm) (hd:s.aH=.cU) (he:s.aL=some t) (h1:s.set.length<2^38):gb b pb s M:=by
 (unhygienic cases s);dsimp only at hd;subst hd;dsimp only at he;subst he;obtain⟨x,ph,s',M',hr⟩:∃x ph s' M',gU ⟨cf,aj,aF,aC,value,b7,am,reads,an,ay,set,bz,aB,ao,aP,some t,au,.cU⟩ M t=(x,ph,s',M'):=⟨_,_,_,_,rfl⟩;have jh:=Gd b pb ⟨cf,aj,aF,aC,value,b7,am,reads,an,ay,set,bz,aB,ao,aP,some t,au,.cU⟩ t M rfl rfl h1;rw [hr] at jh;unfold gb;rw [show bC ⟨cf,aj,aF,aC,value,b7,am,reads,an,ay,set,bz,aB,ao,aP,some t,au,.cU⟩ M=gU ⟨cf,aj,aF,aC,value,b7,am,reads,an,ay,set,bz,aB,ao,aP,some t,au,.cU⟩ M t from rfl,hr];intro A F hw hS;refine aN qP λ_=>?_;dsimp only [aa,af] at hS;obtain⟨x0,hS⟩:=bf.open hS .z;(unhygienic cases x0);dsimp only [cr,iJ,cZ,eH,bD.fY,aa,af] at hS;have hq:=fZ hS hw;revert hq hS hw;clear hS;refine Wp (J1 (Tg.mk (n:=21) @jh)) (J3 bE @bk.eq_1 @aZ.v.eq_1) ?_<;>(unhygienic intros)
 all_goals(
  refine⟨_,by simp [hq,AW.ab,aG];rfl,by simp [aZ.v,aZ.zero,bk],?_⟩;apply ah.bS
  (·exact sA)
  (·first|exact pP|exact kP))
theorem Gc (b pb:Nat) (s:aJ) (c:iw) (M:Mm) (hd:s.aH=.cM c) (h1:Ur s):gb b pb s M:=by
 (unhygienic cases s);dsimp only at hd;subst hd;obtain⟨x,ph,s',M',hr⟩:∃x ph s' M',gn ⟨cf,aj,aF,aC,value,b7,am,reads,an,ay,set,bz,aB,ao,aP,aL,au,.cM c⟩ M c=(x,ph,s',M'):=⟨_,_,_,_,rfl⟩;have jh:=D6 b pb ⟨cf,aj,aF,aC,value,b7,am,reads,an,ay,set,bz,aB,ao,aP,aL,au,.cM c⟩ c M rfl h1.1 h1.2;rw [hr] at jh;unfold gb;rw [show bC ⟨cf,aj,aF,aC,value,b7,am,reads,an,ay,set,bz,aB,ao,aP,aL,au,.cM c⟩ M=gn ⟨cf,aj,aF,aC,value,b7,am,reads,an,ay,set,bz,aB,ao,aP,aL,au,.cM c⟩ M c from rfl,hr];intro A F hw hS;refine aN qP λ_=>?_;dsimp only [aa,af] at hS;obtain⟨x0,hS⟩:=bf.open hS .z;(unhygienic cases x0);dsimp only [cr,iJ,cZ,eH,bD.fY,aa,af] at hS;have hq:=fZ hS hw;revert hq hS hw;clear hS;refine Wp (J1 (Tg.mk (n:=21) @jh)) (J3 bE @bk.eq_1 @aZ.v.eq_1) ?_<;>(unhygienic intros)
 all_goals(
  refine⟨_,by simp [hq,AW.ab,aG];rfl,by simp [aZ.v,aZ.zero,bk],?_⟩;apply ah.bS
  (·exact sA)
  (·first|exact pP|exact kP))
theorem Gb (b pb:Nat) (s:aJ)  (M:Mm) (hd:s.aH=.bK) (hC:gL s) (h1:Ur s):gb b pb s M:=by
 (unhygienic cases s);dsimp only at hd;subst hd;obtain⟨x,ph,s',M',hr⟩:∃x ph s' M',ff ⟨cf,aj,aF,aC,value,b7,am,reads,an,ay,set,bz,aB,ao,aP,aL,au,.bK⟩ M=(x,ph,s',M'):=⟨_,_,_,_,rfl⟩;have jh:=C8 b pb ⟨cf,aj,aF,aC,value,b7,am,reads,an,ay,set,bz,aB,ao,aP,aL,au,.bK⟩ M rfl hC h1.1 h1.2;rw [hr] at jh;unfold gb;rw [show bC ⟨cf,aj,aF,aC,value,b7,am,reads,an,ay,set,bz,aB,ao,aP,aL,au,.bK⟩ M=ff ⟨cf,aj,aF,aC,value,b7,am,reads,an,ay,set,bz,aB,ao,aP,aL,au,.bK⟩ M from rfl,hr];intro A F hw hS;refine aN qP λ_=>?_;dsimp only [aa,af] at hS;obtain⟨x0,hS⟩:=bf.open hS .z;(unhygienic cases x0);dsimp only [cr,iJ,cZ,eH,bD.fY,aa,af] at hS;have hq:=fZ hS hw;revert hq hS hw;clear hS;refine Wp (J1 (Tg.mk (n:=21) @jh)) (J3 bE @bk.eq_1 @aZ.v.eq_1) ?_<;>(unhygienic intros)
 all_goals(
  refine⟨_,by simp [hq,AW.ab,aG];rfl,by simp [aZ.v,aZ.zero,bk],?_⟩;apply ah.bS
  (·exact sA)
  (·first|exact pP|exact kP))
theorem H5 (b pb:Nat) (s:aJ) (w:je) (M:Mm) (hd:s.aH=.di w) (h1:w.os.length=w.ws.length) (h2:s.ao.length<2^20):gb b pb s M:=by
 (unhygienic cases s);dsimp only at hd;subst hd;obtain⟨x,ph,s',M',hr⟩:∃x ph s' M',gA ⟨cf,aj,aF,aC,value,b7,am,reads,an,ay,set,bz,aB,ao,aP,aL,au,.di w⟩ M w=(x,ph,s',M'):=⟨_,_,_,_,rfl⟩;have jh:=D2 b pb ⟨cf,aj,aF,aC,value,b7,am,reads,an,ay,set,bz,aB,ao,aP,aL,au,.di w⟩ w M rfl h1 h2;rw [hr] at jh;unfold gb;rw [show bC ⟨cf,aj,aF,aC,value,b7,am,reads,an,ay,set,bz,aB,ao,aP,aL,au,.di w⟩ M=gA ⟨cf,aj,aF,aC,value,b7,am,reads,an,ay,set,bz,aB,ao,aP,aL,au,.di w⟩ M w from rfl,hr];intro A F hw hS;refine aN qP λ_=>?_;dsimp only [aa,af] at hS;obtain⟨x0,hS⟩:=bf.open hS .z;(unhygienic cases x0);dsimp only [cr,iJ,cZ,eH,bD.fY,aa,af] at hS;have hq:=fZ hS hw;revert hq hS hw;clear hS;refine Wp (J1 (Tg.mk (n:=21) @jh)) (J3 bE @bk.eq_1 @aZ.v.eq_1) ?_<;>(unhygienic intros)
 all_goals(
  refine⟨_,by simp [hq,AW.ab,aG];rfl,by simp [aZ.v,aZ.zero,bk],?_⟩;apply ah.bS
  (·exact sA)
  (·first|exact pP|exact kP))
theorem DZ (b pb:Nat) (s:aJ) (w:je) (M:Mm) (hd:s.aH=.bH w) (h1:w.os.length=w.ws.length):gb b pb s M:=by
 (unhygienic cases s);dsimp only at hd;subst hd;obtain⟨x,ph,s',M',hr⟩:∃x ph s' M',mF ⟨cf,aj,aF,aC,value,b7,am,reads,an,ay,set,bz,aB,ao,aP,aL,au,.bH w⟩ M w=(x,ph,s',M'):=⟨_,_,_,_,rfl⟩;have jh:=BA b pb ⟨cf,aj,aF,aC,value,b7,am,reads,an,ay,set,bz,aB,ao,aP,aL,au,.bH w⟩ w M rfl h1;rw [hr] at jh;unfold gb;rw [show bC ⟨cf,aj,aF,aC,value,b7,am,reads,an,ay,set,bz,aB,ao,aP,aL,au,.bH w⟩ M=mF ⟨cf,aj,aF,aC,value,b7,am,reads,an,ay,set,bz,aB,ao,aP,aL,au,.bH w⟩ M w from rfl,hr];intro A F hw hS;refine aN qP λ_=>?_;dsimp only [aa,af] at hS;obtain⟨x0,hS⟩:=bf.open hS .z;(unhygienic cases x0);dsimp only [cr,iJ,cZ,eH,bD.fY,aa,af] at hS;have hq:=fZ hS hw;revert hq hS hw;clear hS;refine Wp (J1 (Tg.mk (n:=21) @jh)) (J3 bE @bk.eq_1 @aZ.v.eq_1) ?_<;>(unhygienic intros)
 all_goals(
  refine⟨_,by simp [hq,AW.ab,aG];rfl,by simp [aZ.v,aZ.zero,bk],?_⟩;apply ah.bS
  (·exact sA)
  (·first|exact pP|exact kP))
theorem H7 (b pb:Nat) (s:aJ) (p:fK) (M:Mm) (hd:s.aH=.eL p) (hC:gL s) (h1:s.au<s.an.length):gb b pb s M:=by
 (unhygienic cases s);dsimp only at hd;subst hd;obtain⟨x,ph,s',M',hr⟩:∃x ph s' M',iL ⟨cf,aj,aF,aC,value,b7,am,reads,an,ay,set,bz,aB,ao,aP,aL,au,.eL p⟩ M p=(x,ph,s',M'):=⟨_,_,_,_,rfl⟩;have jh:=Ge b pb ⟨cf,aj,aF,aC,value,b7,am,reads,an,ay,set,bz,aB,ao,aP,aL,au,.eL p⟩ p M rfl hC h1;rw [hr] at jh;unfold gb;rw [show bC ⟨cf,aj,aF,aC,value,b7,am,reads,an,ay,set,bz,aB,ao,aP,aL,au,.eL p⟩ M=iL ⟨cf,aj,aF,aC,value,b7,am,reads,an,ay,set,bz,aB,ao,aP,aL,au,.eL p⟩ M p from rfl,hr];intro A F hw hS;refine aN qP λ_=>?_;dsimp only [aa,af] at hS;obtain⟨x0,hS⟩:=bf.open hS .z;(unhygienic cases x0);dsimp only [cr,iJ,cZ,eH,bD.fY,aa,af] at hS;have hq:=fZ hS hw;revert hq hS hw;clear hS;refine Wp (J1 (Tg.mk (n:=21) @jh)) (J3 bE @bk.eq_1 @aZ.v.eq_1) ?_<;>(unhygienic intros)
 all_goals(
  refine⟨_,by simp [hq,AW.ab,aG];rfl,by simp [aZ.v,aZ.zero,bk],?_⟩;apply ah.bS
  (·exact sA)
  (·first|exact pP|exact kP))
end
section
open T20 T13
variable [Gl]
theorem PX (b pb:Nat) (s:aJ) (M:Mm) (hd:s.aH=.bF):gb b pb s M:=by
 (unhygienic cases s);dsimp only at hd;subst hd;unfold gb;rw [show bC ⟨cf,aj,aF,aC,value,b7,am,reads,an,ay,set,bz,aB,ao,aP,aL,au,.bF⟩ M=(aZ.zero,0,⟨cf,aj,aF,aC,value,b7,am,reads,an,ay,set,bz,aB,ao,aP,aL,au,.bF⟩,M) from rfl];intro A F hw hS;refine aN qP λ_=>?_;dsimp only [aa,af] at hS;obtain⟨x0,hS⟩:=bf.open hS .z;(unhygienic cases x0);dsimp only [cr,iJ,cZ,eH,bD.fY,aa,af] at hS;have hq:=fZ hS hw;revert hq hS hw;clear hS;refine Wp cF (J3 bE @bk.eq_1 @aZ.v.eq_1) ?_<;>(unhygienic intros);refine⟨_,by simp [hq,AW.ab,aG];rfl,by simp [aZ.v,aZ.zero],?_⟩;apply bf.bS
 (·exact sA)
 exact fP
 (·first|exact pP|exact kP)
 all_goals(first|exact 0|exact undef)
theorem Ib (b pb:Nat) (s:aJ)  (M:Mm) (hd:s.aH=.iP .tR) (hC:gL s):gb b pb s M:=by
 (unhygienic cases s);dsimp only at hd;subst hd;have Ro:gL ⟨cf,aj,aF,aC,value,b7,am,reads,an,ay,set,bz,aB,ao,aP,aL,au,.bF⟩:=hC.to rfl rfl rfl rfl rfl rfl rfl rfl;unfold gb;rw [show bC ⟨cf,aj,aF,aC,value,b7,am,reads,an,ay,set,bz,aB,ao,aP,aL,au,.iP .tR⟩ M=(aZ.zero,0,sj ⟨cf,aj,aF,aC,value,b7,am,reads,an,ay,set,bz,aB,ao,aP,aL,au,.bF⟩ .tR,M) from rfl];intro A F hw hS;refine aN qP λ_=>?_;dsimp only [aa,af] at hS;obtain⟨x0,hS⟩:=bf.open hS .z;(unhygienic cases x0);dsimp only [cr,iJ,cZ,eH,bD.fY,aa,af] at hS;have hq:=fZ hS hw;revert hq hS hw;clear hS;refine Wp (J1 (Tg.mk (n:=21) (HY b c0 ⟨cf,aj,aF,aC,value,b7,am,reads,an,ay,set,bz,aB,ao,aP,aL,au,.bF⟩ rfl Ro))) (J3 bE @bk.eq_1 @aZ.v.eq_1) ?_<;>(unhygienic intros)
 all_goals(
  refine⟨_,by simp [hq,AW.ab,aG];rfl,by simp [aZ.v,aZ.zero,bk],?_⟩;apply ah.bS
  (·exact sA)
  (·first|exact pP|exact kP))
theorem Id (b pb:Nat) (s:aJ)  (M:Mm) (hd:s.aH=.iP .Pr) (hC:gL s):gb b pb s M:=by
 (unhygienic cases s);dsimp only at hd;subst hd;have Ro:gL ⟨cf,aj,aF,aC,value,b7,am,reads,an,ay,set,bz,aB,ao,aP,aL,au,.bF⟩:=hC.to rfl rfl rfl rfl rfl rfl rfl rfl;unfold gb;rw [show bC ⟨cf,aj,aF,aC,value,b7,am,reads,an,ay,set,bz,aB,ao,aP,aL,au,.iP .Pr⟩ M=(aZ.zero,0,sj ⟨cf,aj,aF,aC,value,b7,am,reads,an,ay,set,bz,aB,ao,aP,aL,au,.bF⟩ .Pr,M) from rfl];intro A F hw hS;refine aN qP λ_=>?_;dsimp only [aa,af] at hS;obtain⟨x0,hS⟩:=bf.open hS .z;(unhygienic cases x0);dsimp only [cr,iJ,cZ,eH,bD.fY,aa,af] at hS;have hq:=fZ hS hw;revert hq hS hw;clear hS;refine Wp (J1 (Tg.mk (n:=21) (H0 b c0 ⟨cf,aj,aF,aC,value,b7,am,reads,an,ay,set,bz,aB,ao,aP,aL,au,.bF⟩ rfl Ro))) (J3 bE @bk.eq_1 @aZ.v.eq_1) ?_<;>(unhygienic intros)
 all_goals(
  refine⟨_,by simp [hq,AW.ab,aG];rfl,by simp [aZ.v,aZ.zero,bk],?_⟩;apply ah.bS
  (·exact sA)
  (·first|exact pP|exact kP))
theorem Ic (b pb:Nat) (s:aJ) (ec:Int) (M:Mm) (hd:s.aH=.iP (.bS ec)) (hC:gL s):gb b pb s M:=by
 (unhygienic cases s);dsimp only at hd;subst hd;have Ro:gL ⟨cf,aj,aF,aC,value,b7,am,reads,an,ay,set,bz,aB,ao,aP,aL,au,.bF⟩:=hC.to rfl rfl rfl rfl rfl rfl rfl rfl;unfold gb;rw [show bC ⟨cf,aj,aF,aC,value,b7,am,reads,an,ay,set,bz,aB,ao,aP,aL,au,.iP (.bS ec)⟩ M=(aZ.zero,0,sj ⟨cf,aj,aF,aC,value,b7,am,reads,an,ay,set,bz,aB,ao,aP,aL,au,.bF⟩ (.bS ec),M) from rfl];intro A F hw hS;refine aN qP λ_=>?_;dsimp only [aa,af] at hS;obtain⟨x0,hS⟩:=bf.open hS .z;(unhygienic cases x0);dsimp only [cr,iJ,cZ,eH,bD.fY,aa,af] at hS;have hq:=fZ hS hw;revert hq hS hw;clear hS;refine Wp (J1 (Tg.mk (n:=21) (HZ b c0 c1 ⟨cf,aj,aF,aC,value,b7,am,reads,an,ay,set,bz,aB,ao,aP,aL,au,.bF⟩ ec rfl Ro))) (J3 bE @bk.eq_1 @aZ.v.eq_1) ?_<;>(unhygienic intros)
 all_goals(
  refine⟨_,by simp [hq,AW.ab,aG];rfl,by simp [aZ.v,aZ.zero,bk],?_⟩;apply ah.bS
  (·exact sA)
  (·first|exact pP|exact kP))
theorem F8 (b pb:Nat) (s:aJ) (lv:Int) (M:Mm) (hd:s.aH=.iP (.take lv)) (hC:gL s):gb b pb s M:=by
 (unhygienic cases s);dsimp only at hd;subst hd;have Ro:gL ⟨cf,aj,aF,aC,value,b7,am,reads,an,ay,set,bz,aB,ao,aP,aL,au,.bF⟩:=hC.to rfl rfl rfl rfl rfl rfl rfl rfl;unfold gb;rw [show bC ⟨cf,aj,aF,aC,value,b7,am,reads,an,ay,set,bz,aB,ao,aP,aL,au,.iP (.take lv)⟩ M=(aZ.zero,0,sj ⟨cf,aj,aF,aC,value,b7,am,reads,an,ay,set,bz,aB,ao,aP,aL,au,.bF⟩ (.take lv),M) from rfl];intro A F hw hS;refine aN qP λ_=>?_;dsimp only [aa,af] at hS;obtain⟨x0,hS⟩:=bf.open hS .z;(unhygienic cases x0);dsimp only [cr,iJ,cZ,eH,bD.fY,aa,af] at hS;have hq:=fZ hS hw;revert hq hS hw;clear hS;refine Wp (J1 (Tg.mk (n:=21) (F4 b c0 c1 c2 ⟨cf,aj,aF,aC,value,b7,am,reads,an,ay,set,bz,aB,ao,aP,aL,au,.bF⟩ lv rfl))) (J3 bE @bk.eq_1 @aZ.v.eq_1) ?_<;>(unhygienic intros)
 all_goals(
  refine⟨_,by simp [hq,AW.ab,aG];rfl,by simp [aZ.v,aZ.zero,bk],?_⟩;apply ah.bS
  (·exact sA)
  (·first|exact pP|exact kP))
theorem D0 (b pb:Nat) (s:aJ) (la lv:Int) (M:Mm) (hd:s.aH=.iP (.lU la lv)) (hC:gL s) (hla:0<=la):gb b pb s M:=by
 (unhygienic cases s);dsimp only at hd;subst hd;have Ro:gL ⟨cf,aj,aF,aC,value,b7,am,reads,an,ay,set,bz,aB,ao,aP,aL,au,.bF⟩:=hC.to rfl rfl rfl rfl rfl rfl rfl rfl;unfold gb;rw [show bC ⟨cf,aj,aF,aC,value,b7,am,reads,an,ay,set,bz,aB,ao,aP,aL,au,.iP (.lU la lv)⟩ M=(aZ.zero,0,sj ⟨cf,aj,aF,aC,value,b7,am,reads,an,ay,set,bz,aB,ao,aP,aL,au,.bF⟩ (.lU la lv),M) from rfl];intro A F hw hS;refine aN qP λ_=>?_;dsimp only [aa,af] at hS;obtain⟨x0,hS⟩:=bf.open hS .z;(unhygienic cases x0);dsimp only [cr,iJ,cZ,eH,bD.fY,aa,af] at hS;have hq:=fZ hS hw;revert hq hS hw;clear hS;refine Wp (J1 (Tg.mk (n:=21) (DU b c0 c1 c2 ⟨cf,aj,aF,aC,value,b7,am,reads,an,ay,set,bz,aB,ao,aP,aL,au,.bF⟩ la lv rfl Ro hla))) (J3 bE @bk.eq_1 @aZ.v.eq_1) ?_<;>(unhygienic intros)
 all_goals(
  refine⟨_,by simp [hq,AW.ab,aG];rfl,by simp [aZ.v,aZ.zero,bk],?_⟩;apply ah.bS
  (·exact sA)
  (·first|exact pP|exact kP))
theorem F9 (b pb:Nat) (s:aJ)  (M:Mm) (hd:s.aH=.iP .AS) (hC:gL s):gb b pb s M:=by
 (unhygienic cases s);dsimp only at hd;subst hd;have Ro:gL ⟨cf,aj,aF,aC,value,b7,am,reads,an,ay,set,bz,aB,ao,aP,aL,au,.bF⟩:=hC.to rfl rfl rfl rfl rfl rfl rfl rfl;unfold gb;rw [show bC ⟨cf,aj,aF,aC,value,b7,am,reads,an,ay,set,bz,aB,ao,aP,aL,au,.iP .AS⟩ M=(aZ.zero,0,sj ⟨cf,aj,aF,aC,value,b7,am,reads,an,ay,set,bz,aB,ao,aP,aL,au,.bF⟩ .AS,M) from rfl];intro A F hw hS;refine aN qP λ_=>?_;dsimp only [aa,af] at hS;obtain⟨x0,hS⟩:=bf.open hS .z;(unhygienic cases x0);dsimp only [cr,iJ,cZ,eH,bD.fY,aa,af] at hS;have hq:=fZ hS hw;revert hq hS hw;clear hS;refine Wp (J1 (Tg.mk (n:=21) (F5 b c0 ⟨cf,aj,aF,aC,value,b7,am,reads,an,ay,set,bz,aB,ao,aP,aL,au,.bF⟩ rfl Ro))) (J3 bE @bk.eq_1 @aZ.v.eq_1) ?_<;>(unhygienic intros)
 all_goals(
  refine⟨_,by simp [hq,AW.ab,aG];rfl,by simp [aZ.v,aZ.zero,bk],?_⟩;apply ah.bS
  (·exact sA)
  (·first|exact pP|exact kP))
theorem D1 (b pb:Nat) (s:aJ) (lk lv:Int) (M:Mm) (hd:s.aH=.iP (.dg lk lv)) (hC:gL s) (Tb:0<=lk/\lk<s.cf.nb):gb b pb s M:=by
 (unhygienic cases s);dsimp only at hd;subst hd;have Ro:gL ⟨cf,aj,aF,aC,value,b7,am,reads,an,ay,set,bz,aB,ao,aP,aL,au,.bF⟩:=hC.to rfl rfl rfl rfl rfl rfl rfl rfl;unfold gb;rw [show bC ⟨cf,aj,aF,aC,value,b7,am,reads,an,ay,set,bz,aB,ao,aP,aL,au,.iP (.dg lk lv)⟩ M=(aZ.zero,0,sj ⟨cf,aj,aF,aC,value,b7,am,reads,an,ay,set,bz,aB,ao,aP,aL,au,.bF⟩ (.dg lk lv),M) from rfl];intro A F hw hS;refine aN qP λ_=>?_;dsimp only [aa,af] at hS;obtain⟨x0,hS⟩:=bf.open hS .z;(unhygienic cases x0);dsimp only [cr,iJ,cZ,eH,bD.fY,aa,af] at hS;have hq:=fZ hS hw;revert hq hS hw;clear hS;refine Wp (J1 (Tg.mk (n:=21) (DV b c0 c1 c2 ⟨cf,aj,aF,aC,value,b7,am,reads,an,ay,set,bz,aB,ao,aP,aL,au,.bF⟩ lk lv rfl Ro Tb))) (J3 bE @bk.eq_1 @aZ.v.eq_1) ?_<;>(unhygienic intros)
 all_goals(
  refine⟨_,by simp [hq,AW.ab,aG];rfl,by simp [aZ.v,aZ.zero,bk],?_⟩;apply ah.bS
  (·exact sA)
  (·first|exact pP|exact kP))
theorem F7 (b pb:Nat) (s:aJ) (M:Mm) (hd:s.aH=.fb):gb b pb s M:=by
 (unhygienic cases s);dsimp only at hd;subst hd;unfold gb;rw [show bC ⟨cf,aj,aF,aC,value,b7,am,reads,an,ay,set,bz,aB,ao,aP,aL,au,.fb⟩ M=(Do M 3 0 (qd.wrap (aB+1)),19,⟨cf,aj,aF,aC,value,b7,am,reads,an,ay,set,bz,aB,ao,aP,aL,au,.ey⟩,yb M 3 0 (qd.wrap (aB+1))) from rfl];intro A F hw hS;refine aN qP λ_=>?_;dsimp only [aa,af] at hS;obtain⟨x0,hS⟩:=bf.open hS .z;(unhygienic cases x0);dsimp only [cr,iJ,cZ,eH,bD.fY,aa,af] at hS;have hq:=fZ hS hw;revert hq hS hw;clear hS;refine Wp (J1 (stL pb)) (J3 bE @bk.eq_1 @aZ.v.eq_1) ?_<;>(unhygienic intros);refine⟨_,by simp [hq,AW.ab,aG];rfl,by first|(simp [aZ.v];done)|(simp [aZ.v,h];done),?_⟩;apply bf.bS
 (·exact sA)
 exact fP
 (·first|exact pP|exact kP)
 all_goals(first|exact 0|exact undef)
theorem H9 (b pb:Nat) (s:aJ) (t:iG) (M:Mm) (hd:s.aH=.ey) (hC:gL s) (he:s.aL=some t):gb b pb s M:=by
 (unhygienic cases s);dsimp only at hd;subst hd;dsimp only at he;subst he;unfold gb;rw [show bC ⟨cf,aj,aF,aC,value,b7,am,reads,an,ay,set,bz,aB,ao,aP,some t,au,.ey⟩ M=(Do M 5 0 (pE t.fY),20,gi ⟨cf,aj,aF,aC,value,b7,am,reads,an,ay,set,bz,aB,ao,aP,some t,au,.ey⟩,yb M 5 0 (pE t.fY)) from rfl];intro A F hw hS;refine aN qP λ_=>?_;dsimp only [aa,af] at hS;obtain⟨x0,hS⟩:=bf.open hS .z;(unhygienic cases x0);dsimp only [cr,iJ,cZ,eH,bD.fY,aa,af] at hS;have hq:=fZ hS hw;have hS:=w9.op hS (.s (.s (.s .z)));have hq:=fZ hS hw;revert hq hS hw;clear hq;clear hS;clear hS;refine Wp (J3 (Tg.mk (n:=10) @DS) (Tg.mk (n:=20) (wK b ⟨cf,aj,aF,aC,value,b7,am,reads,an,ay,set,bz,aB,ao,aP,some t,au,.ey⟩ 12 .ey hC.cf hC.al hC.push (Nat.lt_of_le_of_lt hC.nC (by decide)))) (Qd pb t.fY M)) (J5 @iQ.eq_1 @iQ.eq_2 bE @bk.eq_1 @aZ.v.eq_1) ?_<;>(unhygienic intros)
 all_goals(
  refine⟨_,by simp [hq,AW.ab,aG];rfl,by simp [aZ.v,aZ.zero,bk],?_⟩;apply ah.bS
  (·exact sA)
  (·first|exact pP|exact kP))
theorem Ie (b pb:Nat) (s:aJ) (M:Mm) (hd:s.aH=.ic):gb b pb s M:=by
 (unhygienic cases s);dsimp only at hd;subst hd;unfold gb;rw [show bC ⟨cf,aj,aF,aC,value,b7,am,reads,an,ay,set,bz,aB,ao,aP,aL,au,.ic⟩ M=(Do M 6 aj 0,24,⟨cf,aj,2,aC,value,b7,am,reads,an,ay,set,bz,aB,ao,aP,aL,au,.bF⟩,yb M 6 aj 0) from rfl];intro A F hw hS;refine aN qP λ_=>?_;dsimp only [aa,af] at hS;obtain⟨x0,hS⟩:=bf.open hS .z;(unhygienic cases x0);dsimp only [cr,iJ,cZ,eH,bD.fY,aa,af] at hS;have hq:=fZ hS hw;revert hq hS hw;clear hS;refine Wp (J1 (Ng pb aj M)) (J3 bE @bk.eq_1 @aZ.v.eq_1) ?_<;>(unhygienic intros);refine⟨_,by simp [hq,AW.ab,aG];rfl,by first|(simp [aZ.v];done)|(simp [aZ.v,h];done),?_⟩;apply bf.bS
 (·exact sA)
 exact fP
 (·first|exact pP|exact kP)
 all_goals(first|exact 0|exact undef)
theorem PZ (b pb:Nat) (s:aJ) (M:Mm) (h:JC s M):gb b pb s M:=by
 obtain⟨hC,hD⟩:=h;have JL:s.set.length<2^38:=by
  have h1:=hC.set;have h2:=hC.cf.reads;omega
 cases hd:s.aH with
 | bF=>exact PX b pb s M hd
 | iP k=>
   rw [hd] at hD;cases k with
   | tR=>exact Ib b pb s M hd hC
   | Pr=>exact Id b pb s M hd hC
   | bS c=>exact Ic b pb s c M hd hC
   | take v=>exact F8 b pb s v M hd hC
   | lU a v=>exact D0 b pb s a v M hd hC hD
   | AS=>exact F9 b pb s M hd hC
   | dg k v=>exact D1 b pb s k v M hd hC hD
 | ei=>
   rw [hd] at hD;obtain⟨e,he⟩:=hD;exact Ga b pb s e M hd he
 | bh c u=>
   rw [hd] at hD;obtain⟨h1,h2,h3,h4⟩:=hD;cases u with
   | take=>exact Mv b pb s c M hd hC h1 h2 h3
   | dg k=>exact Mw b pb s c k M hd hC h1 h2 h3 h4
 | eO p=>
   rw [hd] at hD;exact H8 b pb s p M hd hC hD.1 hD.2.1 hD.2.2
 | eh=>
   rw [hd] at hD;obtain⟨l,h1,h2,h3⟩:=hD;exact Ia b pb s l M hd h1 h2 h3
 | cU=>
   rw [hd] at hD;obtain⟨t,h1⟩:=hD;exact H6 b pb s t M hd h1 JL
 | cM c=>
   rw [hd] at hD;exact Gc b pb s c M hd hD
 | bK=>
   rw [hd] at hD;exact Gb b pb s M hd hC hD
 | di w=>
   rw [hd] at hD;exact H5 b pb s w M hd hD.1 hD.2
 | bH w=>
   rw [hd] at hD;exact DZ b pb s w M hd hD
 | fb=>exact F7 b pb s M hd
 | ey=>
   rw [hd] at hD;obtain⟨t,h1⟩:=hD;exact H9 b pb s t M hd hC h1
 | eL p=>
   rw [hd] at hD;exact H7 b pb s p M hd hC hD
 | ic=>exact Ie b pb s M hd
end
section
open T20 T13
variable [Gl]
theorem ah.mw {A:AW} {L:List It} (h:ah A L):ah A (.h eZ::L):=by
 unfold ah at h ⊢;show bB A (eZ*aM L);rw [iD];exact h
theorem M2 {A:AW} {L:List It} {k:Value->AW->Prop} {w:Nat} (SR:w<=32) (hw:A.Wf) (hS:ah A L) (hk:∀n A',ah A' (.h (rf n (iX w))::L)->A'.Wf->k (pv n) A'):aD qa 213 [.int .i64 w] A k:=by
 refine bO (KJ w SR A L hw hS) ?_;rintro _ A' ⟨n,rfl,h1⟩ kI _;exact hk n A' h1 kI
theorem Sx (c:br) (hc:cX c) (t:Int) (A:AW) (F:HP) (hw:A.Wf) (hS:ah A [.h F]) :
 aD qa 148 [c.v,.int .i64 t] A (λv A'=>∃b,v=pv b/\ah A' [.h (bf b (eP c t)),.h F]):=by
 refine aN Tryz.func148 λ_=>?_;obtain⟨r0,r1⟩:=hc.reads;obtain⟨w0,w1⟩:=hc.bP;obtain⟨w,hwn⟩:∃w:Nat,c.bP=w:=⟨c.bP.toNat,by omega⟩;dsimp only [br.v];rw [hwn]
 repeat' (first|(refine kY λR hR=>?_;simp [ar,ax,AW.ab,aG];try simp (disch:=omega) only [aA,aw,ar,ax])|(refine hR _ _ ?_;clear hR R)|(refine hK _ _ ?_;clear hK K)|refine nx ?_|refine wn λK hK=>?_|simp only [wS]|(refine bO (KH c.reads _ ⟨by omega,r1⟩) ?_;rintro _ _ ⟨rfl,rfl⟩ _ _)|(refine ⟨λA' AR=>by simp [AW.ab,AR],?_⟩)|(refine ⟨by simp [hq],?_⟩)|(refine XO (λA'=>A'.bp A.next=some (.cells [.int .i64 c.be,.int .i64 c.ao,.int .i64 c.base,.int .i64 c.c0,.int .i64 c.c1,.int .i64 c.c2,.int .i64 c.c3,.int .i64 c.reads,.int .i64 w,.int .i64 c.an,.int .i64 c.ay,.int .i64 c.aB,.bool c.aW] true 1)) Tryz.mx [(0,0),(1,0),(3,0),(4,0),(7,1),(8,0),(2,2),(5,3),(6,0),(9,0),(10,2),(11,0)] (by decide +kernel) λK hK=>?_)|(apply M2 (by omega);(·exact wA);(·exact sA);((first|rintro _ _ _ hS hw fO|rintro _ _ hS hw fO|rintro _ _ hS hw);(try refine⟨fO,?_⟩);(try dsimp only [AW.bd] at hS);have hq:=hqx21 hS hw))|(show c8 _ _ _ _ _ _;refine nx ?_)|(refine wc rfl (λhc=>?_) (λhc=>?_)<;>(try simp at hc)<;>(try omega)<;>(try (simp [h2] at hc;done))<;>(try (simp [h3] at hc;done))<;>(try (simp [h4] at hc;done)))|(refine ib (λhc=>?_) (λhc=>?_)<;>(try omega)<;>(try simp (disch:=omega) only [aA,aw])))
 have e:eP c t=⟨c,t,0,0,0,none,false,[],[],[],[],iX w,0,[],none,none,0,.bF⟩:=by unfold eP;rw [hwn]
 have h:=hwn;refine⟨_,by first|rfl|(simp;rfl),_,rfl,?_⟩;rw [e];apply bf.bS;apply ah.wy .i64;apply ah.wy .i64;apply ah.wy .i64;apply ah.wy .i64;apply ah.mw;apply ah.mw;apply ah.mw;apply xV.dP (eA:=c.reads.toNat) (l:=[]) (v:=.slice none 0 0);apply ah.wy .i64
 (·exact sA)
 (·first|exact pP|exact kP)
 (dsimp only [cr,vM,iJ,cZ,eH,bD.fY,oc,jK,iQ,rE,mt,rZ,yR,my,mo,jc,rF,ru,yG,rx,aa,af])
 simp only [h]
 (·first|exact pP|exact kP)
 (·first|exact pP|exact kP)
 all_goals(first|exact 0|exact undef)
theorem NN (b:Nat) (s:aJ) (bW:Int) (d:bD) (A:AW) (hw:A.Wf) (hS:ah A [.h (jj b s bW d)]) (hl:s.ay.length<2^38) :
 aD qa 204 [pv b] A (λu A'=>fk A.next A' .i64 u s.ay/\A.le A'):=by
 refine aN Tryz.func204 λ_=>?_;obtain⟨x0,hS⟩:=jj.open hS .z;(unhygienic cases x0);dsimp only [cr,aa,af] at hS;have hI:=ah.tE hS (.s (.s (.s (.s (.s (.s (.s (.s .z))))))));have hq:=fZ hS hw;revert hq hS hw;clear hS;refine Wp cF (J1 @AW.ab) ?_<;>(unhygienic intros);refine bO (jH _ _ A hI (by omega)) ?_;rintro u A1 ⟨h1,h2⟩ jx _;refine Wp cF trivial ?_<;>intros;exact⟨_,by first|rfl|(simp;rfl),h1,h2⟩
end
section
open T20 T13
variable [Gl]
def mq (s:aJ):List Int:=s.bz.bL.filter (λa=>decide (a<s.cf.be))
theorem QW {A:AW} {L K:List It} {k:Value->AW->Prop} {v:Value} {l:List Int} (hw:A.Wf) (hS:ah A L) (hp:aE L (.h (av .i64 v l)) K) (hl:l.length<2^38)
 (hk:∀o c A',ah A' (.h (av .i64 (.slice o l.length c) l)::L)->A'.Wf->A.le A'->k (.slice o l.length c) A'):aD qa 46 [v] A k:=by
 refine bO (jH v l A (ah.tE hS hp) (by omega)) ?_;rintro u A' ⟨h1,h2⟩ kI _;obtain⟨o,c,rfl,_⟩:=h1.is.cy;exact hk o c A' (av.iB hS hw h2 h1) kI h2
theorem JU (b:Nat) (s:aJ) (bW:Int) (d:bD) (hC:gL s) (f:sx) (A:AW) (F:HP) (hw:A.Wf) (hS:ah A (cr b s bW d f++[.h F])) :
 aD qa 89 [pv b] A (λv A'=>∃u w,v=.tuple #[u,w]/\ah A' (.h (av .i64 u s.reads)::.h (av .i64 w (mq s))::(cr b s bW d f++[.h F]))):=by
 refine aN Tryz.func89 λ_=>?_;have bX:=hC.len;have W9:=hC.kL;obtain⟨eu,eS,bM,de,db,m,c0,c1,c2,dk,bx,bU,b5,eB,dl,fl,b6,bZ,bj,dm,dw,gQ,eC⟩:=f;dsimp only [cr,aa,af] at hS;have hq:=fZ hS hw
 repeat' (first|(refine kY λR hR=>?_;simp [ar,ax,hq,AW.ab,aG];try simp (disch:=omega) only [aA,aw,ar,ax])|(refine hR _ _ ?_;clear hR R)|(refine hK _ _ ?_;clear hK K)|refine nx ?_|refine wn λK hK=>?_|simp only [wS]|(show c8 _ _ _ _ _ _;refine nx ?_)|(refine wc rfl (λhc=>?_) (λhc=>?_)<;>(try simp at hc)<;>(try omega)<;>(try (simp [h2] at hc;done))<;>(try (simp [h3] at hc;done))<;>(try (simp [h4] at hc;done)))|(refine ib (λhc=>?_) (λhc=>?_)<;>(try omega)<;>(try simp (disch:=omega) only [aA,aw])))
 apply uT (n:=eS) (s:=s.bz);exact hw;exact hS
 (·first|exact pP|exact kP)
 omega;intro o1 c3 A1 hS hw _;generalize hn:s.bz.bL=ad at *;revert hq hS hw;(repeat first|clear hq|clear hS|clear hw|revert hc|revert R|revert K);refine Wp cF (J1 bE) ?_<;>(unhygienic intros)
 refine ef (λk fr A'=>A'.Wf/\∃(i:Nat) (v:Value) (q:List Int),q=(ad.take i).filter (λa=>decide (a<s.cf.be))/\k=ad.length-i/\i<=ad.length/\fr 0=pv b/\fr 3=v/\fr 11=.slice o1 ad.length c3/\fr 12=.int .i64 ad.length/\fr 13=.int .i64 i/\
  ah A' (.h (av .i64 v q)::.h (av .i64 (.slice o1 ad.length c3) ad)::(cr b s bW d ⟨eu,eS,bM,de,db,m,c0,c1,c2,dk,bx,bU,b5,eB,dl,fl,b6,bZ,bj,dm,dw,gQ,eC⟩++[.h F]))) ad.length ?_ ?_
 refine⟨hw,0,.slice none 0 0,[],by simp,by simp,by simp,by simp,by simp,by simp,by simp,by simp,?_⟩;exact ah.wy .i64 hS;rintro k fr A' ⟨hw,i,v,q,Me,rfl,hi,h0,h3,FX,HE,E2,hS⟩;have hI:=ah.tE hS (.s .z);have Xq:=ah.tE hS .z;have hql:q.length<=i:=by
  rw [Me];have:=List.length_filter_le (λa=>decide (a<s.cf.be)) (ad.take i);have h9:(ad.take i).length<=i:=by simp;omega
  omega
 obtain⟨ov,cv,rfl,_⟩:=Xq.cy;dsimp only [cr,iJ,cZ,eH,bD.fY,aa,af] at hS;have hq:=O6 hS hw;refine ba ?_;by_cases cD:i<ad.length
 . have iC:(i:Int)<ad.length:=(by omega);have gS:=By (i:=i);obtain⟨p,b8,rfl,bV,hcell⟩:=hI.at cD;have zM:ad.take (i+1)=ad.take i++[ad[i]]:=List.take_succ_eq_append_getElem cD;by_cases h:ad[i]<s.cf.be
   . revert hq hS hw;(repeat first|clear hq|clear hS|clear hw|revert hc|revert R|revert K);refine Wu cF (xe h0 h3 FX HE E2 bV hcell h cD iC gS bE) ?_<;>(unhygienic intros);refine⟨ad.length-(i+1),by omega,hw,i+1,_,q++[ad[i]],?_,rfl,by omega,by simp [h0],by simp;rfl,by simp [FX],by simp [HE],by simp,?_⟩;rw [Me,zM,kaH];simp [h];apply ah.bS hS;dsimp only [cr,iJ,cZ,eH,bD.fY,aa,af]
     (·first|exact pP|exact kP)
   revert hq hS hw;(repeat first|clear hq|clear hS|clear hw|revert hc|revert R|revert K);refine Wp cF (xe h0 h3 FX HE E2 bV hcell h cD iC gS bE) ?_<;>(unhygienic intros);refine⟨ad.length-(i+1),by omega,hw,i+1,_,q,?_,rfl,by omega,by simp [h0],by simp [h3];rfl,by simp [FX],by simp [HE],by simp,?_⟩;rw [Me,zM,kaH];simp [h];apply ah.bS hS;dsimp only [cr,iJ,cZ,eH,bD.fY,aa,af]
   (·first|exact pP|exact kP)
 have IV:i=ad.length:=by omega
 subst IV;rw [List.take_length] at Me;revert hq hS hw;(repeat first|clear hq|clear hS|clear hw|revert hc|revert R|revert K);refine Wp (J1 (Tg.mk (n:=11) @QW)) (J6 h0 h3 FX HE E2 bE) ?_<;>(unhygienic intros);refine⟨_,by first|(simp [h3];done)|(simp [h3];rfl),?_⟩;refine⟨_,_,rfl,?_⟩;have Yz:mq s=q:=by unfold mq;rw [hn,Me]
 rw [Yz];apply ah.bS hS;dsimp only [cr,aa,af]
 (·first|exact pP|exact kP)
theorem HV (n:Nat) (s:aJ) (hC:gL s):d7 qa 89 [pv n] [.h (bf n s)] (λ(x:(Option Addr×Nat)×Option Addr×Nat) v=>v=.tuple #[.slice x.1.1 s.reads.length x.1.2,.slice x.2.1 (mq s).length x.2.2]) (λx=>[.h (av .i64 (.slice x.1.1 s.reads.length x.1.2) s.reads),.h (av .i64 (.slice x.2.1 (mq s).length x.2.2) (mq s)),.h (bf n s)]):=by
 intro A F hw hS;obtain⟨f,hS⟩:=bf.open hS .z;rw [List.append_assoc] at hS;have kZ:ah A (cr n s s.aH.fY s.aH f++[.h (aM (iJ n s.aH f++[.h F]))]):=by
  unfold ah at hS ⊢;rw [gf] at hS ⊢;show bB A (aM (cr n s s.aH.fY s.aH f)*(aM (iJ n s.aH f++[.h F])*eZ));rw [dO];exact hS
 refine(JU n s s.aH.fY s.aH hC f A _ hw kZ).mono ?_;rintro v A' ⟨u,w,rfl,h⟩;obtain⟨o1,c1,rfl,_⟩:=(ah.tE h .z).cy;obtain⟨o2,c2,rfl,_⟩:=(ah.tE h (.s .z)).cy;refine⟨((o1,c1),o2,c2),rfl,?_⟩;show ah A' [.h (av .i64 (.slice o1 s.reads.length c1) s.reads),.h (av .i64 (.slice o2 (mq s).length c2) (mq s)),.h (bf n s),.h F];generalize hu:Value.slice o1 s.reads.length c1=u at h ⊢;generalize hv:Value.slice o2 (mq s).length c2=w at h ⊢;unfold ah at h ⊢;have h3:bB A' (av .i64 u s.reads*(av .i64 w (mq s)*aM (cr n s s.aH.fY s.aH f++[.h (aM (iJ n s.aH f++[.h F]))]))):=h;rw [gf,show aM [It.h (aM (iJ n s.aH f++[.h F]))]=aM (iJ n s.aH f++[.h F]) from dO _,gf] at h3;show bB A' (av .i64 u s.reads*(av .i64 w (mq s)*(bf n s*(F*eZ))));rw [dO];have h4:bB A' (aM (cr n s s.aH.fY s.aH f++iJ n s.aH f)*(av .i64 u s.reads*(av .i64 w (mq s)*F))):=by
  rw [gf];refine h3.dZ ?_;rw [show aM [It.h F]=F from dO F]
  ac_rfl
 have h5:bB A' (bf n s*(av .i64 u s.reads*(av .i64 w (mq s)*F))):=by
  show bB A' (rO (λf:sx=>aM (cr n s s.aH.fY s.aH f++iJ n s.aH f))*_);rw [bB.ex];exact⟨f,h4⟩
 exact h5.dZ (by ac_rfl)
end
section
abbrev OR:List (Nat×Nat):=[(0,0),(1,0),(2,0),(3,0),(4,0),(5,0),(6,0),(7,0),(8,0),(9,2),(10,0)]
open T7
variable [Gl]
structure Oo (c:br):Prop where
 ok:cX c
 be:4<=c.be/\c.be<=12
 ao:c.ao<=8
 base:c.base=2
 c0:c.c0<=2
 c1:c.c1<=2
 c2:c.c2=0
 c3:c.c3=0
 reads:c.reads<=6
 bP:c.bP<=8
 an:c.an<=2
 ay:c.ay<=2
 aB:c.aB<=50
def EA (p0 p1 p2 p3 p4 p5 ck n0 n1:Int):br:=⟨4+p0,1+p1,2,n0,n1,0,0,1+p2,1+p3,p4,p5,ck,false⟩
theorem LM (l0 l1 l2 l3 l4:Int):∃c,Oo c/\∀A,aD qa 20 [.int .i64 l0,.int .i64 l1,.int .i64 l2,.int .i64 l3,.int .i64 l4] A (λv A'=>v=c.v/\A=A'):=by
 obtain⟨p0,IQ⟩:∃p0,lM l0 9=p0:=⟨_,rfl⟩;have qp0:=gZ l0 9 (by omega);have kp0:=λA=>jD l0 9 A (by omega) (by omega);rw [IQ] at qp0 kp0;obtain⟨p1,EO⟩:∃p1,lM l1 8=p1:=⟨_,rfl⟩;have qp1:=gZ l1 8 (by omega);have kp1:=λA=>jD l1 8 A (by omega) (by omega);rw [EO] at qp1 kp1;obtain⟨p2,GJ⟩:∃p2,lM l2 6=p2:=⟨_,rfl⟩;have qp2:=gZ l2 6 (by omega);have kp2:=λA=>jD l2 6 A (by omega) (by omega);rw [GJ] at qp2 kp2;obtain⟨p3,hp3⟩:∃p3,lM (qg.wrap (l2.tdiv 7)) 8=p3:=⟨_,rfl⟩;have qp3:=gZ (qg.wrap (l2.tdiv 7)) 8 (by omega);have kp3:=λA=>jD (qg.wrap (l2.tdiv 7)) 8 A (by omega) (by omega);rw [hp3] at qp3 kp3;obtain⟨p4,hp4⟩:∃p4,lM l3 3=p4:=⟨_,rfl⟩;have qp4:=gZ l3 3 (by omega);have kp4:=λA=>jD l3 3 A (by omega) (by omega);rw [hp4] at qp4 kp4;obtain⟨p5,hp5⟩:∃p5,lM (qg.wrap (l3.tdiv 3)) 3=p5:=⟨_,rfl⟩;have qp5:=gZ (qg.wrap (l3.tdiv 3)) 3 (by omega);have kp5:=λA=>jD (qg.wrap (l3.tdiv 3)) 3 A (by omega) (by omega)
 rw [hp5] at qp5 kp5;obtain⟨p6,hp6⟩:∃p6,lM l4 5=p6:=⟨_,rfl⟩;have qp6:=gZ l4 5 (by omega);have kp6:=λA=>jD l4 5 A (by omega) (by omega);rw [hp6] at qp6 kp6;obtain⟨p7,hp7⟩:∃p7,lM (qg.wrap (l4.tdiv 5)) 4=p7:=⟨_,rfl⟩;have qp7:=gZ (qg.wrap (l4.tdiv 5)) 4 (by omega);have kp7:=λA=>jD (qg.wrap (l4.tdiv 5)) 4 A (by omega) (by omega);rw [hp7] at qp7 kp7;obtain⟨p8,hp8⟩:∃p8,lM (qg.wrap (l3.tdiv 9)) (4+p0-2+1)=p8:=⟨_,rfl⟩;have qp8:=gZ (qg.wrap (l3.tdiv 9)) (4+p0-2+1) (by omega);have kp8:=λA=>jD (qg.wrap (l3.tdiv 9)) (4+p0-2+1) A (by omega) (by omega);rw [hp8] at qp8 kp8;obtain⟨n0,ES⟩:∃n0,(if 2<p8 then 2 else p8)=n0:=⟨_,rfl⟩;have hn0':0<=n0/\n0<=2/\n0<=4+p0-2:=by
  rw [<-ES];split<;>omega
 obtain⟨m1,IT⟩:∃m1,(4+p0-2-n0).fdiv 2=m1:=⟨_,rfl⟩;have hm1':0<=m1/\m1*2<=4+p0-2-n0/\m1<=20:=by
  have h9:(4+p0-2-n0).fdiv 2=(4+p0-2-n0) / 2:=Int.fdiv_eq_ediv_of_nonneg _ (by omega);rw [h9] at IT;omega
 have hmw:qg.wrap (m1+1)=m1+1:=ar (by omega) (by omega);obtain⟨p10,hp10⟩:∃p10,lM (qg.wrap (l3.tdiv 29)) (m1+1)=p10:=⟨_,rfl⟩;have qp10:=gZ (qg.wrap (l3.tdiv 29)) (m1+1) (by omega);have Ys:=λA=>jD (qg.wrap (l3.tdiv 29)) (m1+1) A (by omega) (by omega);rw [hp10] at qp10 Ys;obtain⟨n1,ER⟩:∃n1,(if 2<p10 then 2 else p10)=n1:=⟨_,rfl⟩;have hn1':0<=n1/\n1<=2/\n1<=m1:=by
  rw [<-ER];split<;>omega
 obtain⟨ck,CL⟩:∃ck,(if p6=0 then p7 else 50)=ck:=⟨_,rfl⟩;have hck':0<=ck/\ck<=50:=by
  rw [<-CL];split<;>omega
 have key:∀A:AW,A.Wf->aD qa 20 [.int .i64 l0,.int .i64 l1,.int .i64 l2,.int .i64 l3,.int .i64 l4] A (λv A'=>v=(EA p0 p1 p2 p3 p4 p5 ck n0 n1).v/\A.le A'):=by
  intro A hw;refine aN Tryz.func20 λ_=>?_;by_cases h:p6=0
  . rw [aA h] at CL;revert hw;refine W (DM (od OR) @kp0 @kp1 @kp2 @kp3 @kp4 @kp5 @kp6 @kp7 @kp8) (J7 h ES ER IT hmw @WO bE) ?_<;>(unhygienic intros);refine iO 3 ?_;refine W (J3 (od OR) @kp8 @Ys) (J7 h ES ER IT hmw @WO bE) ?_<;>intros;refine⟨_,by simp [AW.ab];rfl,by simp [EA,br.v,ES,ER,CL,AW.ab],?_⟩
    repeat' (first|exact AW.le.refl _|refine AW.le.set ?_ (by simp<;>omega) _|refine AW.le.trans ?_ (AW.le.alloc _ _))
  rw [aw h] at CL;revert hw;(repeat first|clear hw|revert hc|revert R|revert K);refine W (DM (od OR) @kp0 @kp1 @kp2 @kp3 @kp4 @kp5 @kp6 @kp7 @kp8) (J7 h ES ER IT hmw @WO bE) ?_<;>(unhygienic intros);refine iO 3 ?_;refine W (J3 (od OR) @kp8 @Ys) (J7 h ES ER IT hmw @WO bE) ?_<;>intros;refine⟨_,by simp [AW.ab];rfl,by simp [EA,br.v,ES,ER,CL,AW.ab],?_⟩
  repeat' (first|exact AW.le.refl _|refine AW.le.set ?_ (by simp<;>omega) _|refine AW.le.trans ?_ (AW.le.alloc _ _))
 refine⟨EA p0 p1 p2 p3 p4 p5 ck n0 n1,?_,λA=>aD.tG (V:=(EA p0 p1 p2 p3 p4 p5 ck n0 n1).v) (dh.agg (by simp [EA])) (λhw=>key A hw) (by kernel_rfl)⟩;refine⟨⟨?_,?_,?_,?_,?_,?_,?_,?_,?_,?_,?_,?_,?_,?_⟩,?_,?_,?_,?_,?_,?_,?_,?_,?_,?_,?_,?_⟩<;>(simp only [EA,br.nb,br.hw]<;>omega)
end
end Go.Stx
