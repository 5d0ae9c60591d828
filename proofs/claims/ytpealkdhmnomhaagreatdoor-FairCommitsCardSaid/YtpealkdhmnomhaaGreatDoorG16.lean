/-
 The program's attempt: a step.
-/
import Derived.Test.YtpealkdhmnomhaaGreatDoorG15
set_option linter.unusedVariables false
set_option linter.unusedSimpArgs false
set_option linter.unusedSectionVars false
set_option maxRecDepth 20000
set_option maxHeartbeats 4000000
open Go.IntKind renaming u64->q8
open Go.Proofs.Tryz renaming func121->ZF,prog->qV
open List renaming filter_append->kbh
open Go renaming Value->qd
open Go.IntKind renaming i64->qa
open Go.Value renaming int->qb,slice->qf,tuple->qA
open Option renaming some->qc
namespace Go.Stx
open Go Go.Proofs
attribute [local irreducible] TW bI cM aV aB aL cU dh
section
open T20 T13
variable [Gl]
def OrOk (s:aI):Prop:=s.av.length<2^20/\(s.av.length=0\/∃l,s.aP=qc l/\s.av.length=l.ey.length)
def LocOk (s:aI):E4->Prop
 | .mI a _=>0<=a
 | .dy k _=>0<=k/\k<s.cf.nb
 | _=>True
def UseOk (s:aI):Ac->Prop
 | .take=>True
 | .dy k=>0<=k/\k<s.cf.nb
def DoOk (s:aI) (M:Mm):bJ->Prop
 | .je k=>LocOk s k
 | .dA=>∃e,s.bT=qc e
 | .bj c u=>s.reads.length+1<2^20/\(0<=c.cr/\c.cr<=2)/\c.iK=gV s.cf c.d8/\UseOk s u
 | .eP p=>s.ar.length<8/\(0<=p.eZ/\p.eZ<=3)/\(gH p M).2.1.block<s.cf.nb
 | .eg=>∃l,s.aP=qc l/\l.ey.length<=l.av.length/\l.av.length<2^38
 | .cY=>∃t,s.aN=qc t
 | .cG _=>OrOk s
 | .bM=>OrOk s
 | .dt w=>w.os.length=w.ws.length/\s.av.length<2^20
 | .bE w=>w.os.length=w.ws.length
 | .eb=>∃t,s.aN=qc t
 | .eC _=>s.ax<s.ar.length
 | _=>True
structure Mf (s:aI) (M:Mm):Prop where
 c:iu s
 d:DoOk s M s.aH
def gF (b pb:Nat) (s:aI) (M:Mm):Prop:=
 bx qV 121 [pv b,pv pb] [.h (bp b s),ei pb M] (λv=>v=qA #[(ba s M).1.v,qb qa (ba s M).2.1])
  (λ_=>[.h (bp b (ba s M).2.2.1),ei pb (ba s M).2.2.2])
theorem Ij (b pb:Nat) (s:aI) (en:gT) (M:Mm) (hd:s.aH=.dA) (he:s.bT=qc en):gF b pb s M:=by
 (unhygienic cases s);dsimp only at hd;subst hd;dsimp only at he;subst he;obtain⟨x,ph,s',M',hr⟩:∃x ph s' M',gK ⟨cf,am,aF,aD,value,qc en,ao,reads,ar,aA,set,bG,aC,av,aP,aN,ax,.dA⟩ M en=(x,ph,s',M'):=⟨_,_,_,_,rfl⟩;have jV:=FP b pb ⟨cf,am,aF,aD,value,qc en,ao,reads,ar,aA,set,bG,aC,av,aP,aN,ax,.dA⟩ en M rfl rfl;rw [hr] at jV;unfold gF;rw [show ba ⟨cf,am,aF,aD,value,qc en,ao,reads,ar,aA,set,bG,aC,av,aP,aN,ax,.dA⟩ M=gK ⟨cf,am,aF,aD,value,qc en,ao,reads,ar,aA,set,bG,aC,av,aP,aN,ax,.dA⟩ M en from rfl,hr];intro A F hw hS;refine aK ZF λ_=>?_;dsimp only [aa,ah] at hS;obtain⟨x0,hS⟩:=bp.open hS .z;(unhygienic cases x0);dsimp only [cX,jk,dk,fi,bJ.gB,aa,ah] at hS;have hq:=gD hS hw;revert hq hS hw;clear hS;refine Wp (J1 (Tg.mk (n:=21) @jV)) (J3 bC @bn.eq_1 @bh.v.eq_1) ?_<;>(unhygienic intros)
 all_goals(
  refine⟨_,by simp [AW.ab];rfl,by simp [bh.v],?_⟩;apply aj.bX
  (·exact sA)
  (·exact pP))
theorem O1 (b pb:Nat) (s:aI) (c:jj) (M:Mm) (hd:s.aH=.bj c .take) (hC:iu s) (h1:s.reads.length+1<2^20) (h2:0<=c.cr/\c.cr<=2) (h3:c.iK=gV s.cf c.d8):gF b pb s M:=by
 (unhygienic cases s);dsimp only at hd;subst hd;obtain⟨x,ph,s',M',hr⟩:∃x ph s' M',dq ⟨cf,am,aF,aD,value,bT,ao,reads,ar,aA,set,bG,aC,av,aP,aN,ax,.bj c .take⟩ M c .take=(x,ph,s',M'):=⟨_,_,_,_,rfl⟩;have jV:=FN b pb ⟨cf,am,aF,aD,value,bT,ao,reads,ar,aA,set,bG,aC,av,aP,aN,ax,.bj c .take⟩ c M rfl hC h1 h2 h3;rw [hr] at jV;unfold gF;rw [show ba ⟨cf,am,aF,aD,value,bT,ao,reads,ar,aA,set,bG,aC,av,aP,aN,ax,.bj c .take⟩ M=dq ⟨cf,am,aF,aD,value,bT,ao,reads,ar,aA,set,bG,aC,av,aP,aN,ax,.bj c .take⟩ M c .take from rfl,hr];intro A F hw hS;refine aK ZF λ_=>?_;dsimp only [aa,ah] at hS;obtain⟨x0,hS⟩:=bp.open hS .z;(unhygienic cases x0);dsimp only [cX,jk,dk,fi,bJ.gB,aa,ah] at hS;have hq:=gD hS hw;revert hq hS hw;clear hS;refine Wp (J1 (Tg.mk (n:=21) @jV)) (J3 bC @bn.eq_1 @bh.v.eq_1) ?_<;>(unhygienic intros)
 all_goals(
  refine⟨_,by simp [AW.ab];rfl,by simp [bh.v],?_⟩;apply aj.bX
  (·exact sA)
  (·exact pP))
theorem O2 (b pb:Nat) (s:aI) (c:jj) (kb:Int) (M:Mm) (hd:s.aH=.bj c (.dy kb)) (hC:iu s) (h1:s.reads.length+1<2^20) (h2:0<=c.cr/\c.cr<=2) (h3:c.iK=gV s.cf c.d8) (h4:0<=kb/\kb<s.cf.nb):gF b pb s M:=by
 (unhygienic cases s);dsimp only at hd;subst hd;obtain⟨x,ph,s',M',hr⟩:∃x ph s' M',dq ⟨cf,am,aF,aD,value,bT,ao,reads,ar,aA,set,bG,aC,av,aP,aN,ax,.bj c (.dy kb)⟩ M c (.dy kb)=(x,ph,s',M'):=⟨_,_,_,_,rfl⟩;have jV:=FO b pb ⟨cf,am,aF,aD,value,bT,ao,reads,ar,aA,set,bG,aC,av,aP,aN,ax,.bj c (.dy kb)⟩ c kb M rfl hC h1 h2 h3 h4;rw [hr] at jV;unfold gF;rw [show ba ⟨cf,am,aF,aD,value,bT,ao,reads,ar,aA,set,bG,aC,av,aP,aN,ax,.bj c (.dy kb)⟩ M=dq ⟨cf,am,aF,aD,value,bT,ao,reads,ar,aA,set,bG,aC,av,aP,aN,ax,.bj c (.dy kb)⟩ M c (.dy kb) from rfl,hr];intro A F hw hS;refine aK ZF λ_=>?_;dsimp only [aa,ah] at hS;obtain⟨x0,hS⟩:=bp.open hS .z;(unhygienic cases x0);dsimp only [cX,jk,dk,fi,bJ.gB,aa,ah] at hS;have hq:=gD hS hw;revert hq hS hw;clear hS;refine Wp (J1 (Tg.mk (n:=21) @jV)) (J3 bC @bn.eq_1 @bh.v.eq_1) ?_<;>(unhygienic intros)
 all_goals(
  refine⟨_,by simp [AW.ab];rfl,by simp [bh.v],?_⟩;apply aj.bX
  (·exact sA)
  (·exact pP))
theorem Kv (b pb:Nat) (s:aI) (p:rM) (M:Mm) (hd:s.aH=.eP p) (hC:iu s) (h1:s.ar.length<8) (h2:0<=p.eZ/\p.eZ<=3) (h3:(gH p M).2.1.block<s.cf.nb):gF b pb s M:=by
 (unhygienic cases s);dsimp only at hd;subst hd;obtain⟨x,ph,s',M',hr⟩:∃x ph s' M',lD ⟨cf,am,aF,aD,value,bT,ao,reads,ar,aA,set,bG,aC,av,aP,aN,ax,.eP p⟩ M p=(x,ph,s',M'):=⟨_,_,_,_,rfl⟩;have jV:=KC b pb ⟨cf,am,aF,aD,value,bT,ao,reads,ar,aA,set,bG,aC,av,aP,aN,ax,.eP p⟩ p M rfl hC h1 h2 h3 (M6 p M);rw [hr] at jV;unfold gF;rw [show ba ⟨cf,am,aF,aD,value,bT,ao,reads,ar,aA,set,bG,aC,av,aP,aN,ax,.eP p⟩ M=lD ⟨cf,am,aF,aD,value,bT,ao,reads,ar,aA,set,bG,aC,av,aP,aN,ax,.eP p⟩ M p from rfl,hr];intro A F hw hS;refine aK ZF λ_=>?_;dsimp only [aa,ah] at hS;obtain⟨x0,hS⟩:=bp.open hS .z;(unhygienic cases x0);dsimp only [cX,jk,dk,fi,bJ.gB,aa,ah] at hS;have hq:=gD hS hw;revert hq hS hw;clear hS;refine Wp (J1 (Tg.mk (n:=21) @jV)) (J3 bC @bn.eq_1 @bh.v.eq_1) ?_<;>(unhygienic intros)
 all_goals(
  refine⟨_,by simp [AW.ab];rfl,by simp [bh.v],?_⟩;apply aj.bX
  (·exact sA)
  (·exact pP))
theorem Kx (b pb:Nat) (s:aI) (l:iI) (M:Mm) (hd:s.aH=.eg) (he:s.aP=qc l) (h1:l.ey.length<=l.av.length) (h2:l.av.length<2^38):gF b pb s M:=by
 (unhygienic cases s);dsimp only at hd;subst hd;dsimp only at he;subst he;obtain⟨x,ph,s',M',hr⟩:∃x ph s' M',iy ⟨cf,am,aF,aD,value,bT,ao,reads,ar,aA,set,bG,aC,av,qc l,aN,ax,.eg⟩ M l=(x,ph,s',M'):=⟨_,_,_,_,rfl⟩;have jV:=Ip b pb ⟨cf,am,aF,aD,value,bT,ao,reads,ar,aA,set,bG,aC,av,qc l,aN,ax,.eg⟩ l M rfl rfl h1 h2;rw [hr] at jV;unfold gF;rw [show ba ⟨cf,am,aF,aD,value,bT,ao,reads,ar,aA,set,bG,aC,av,qc l,aN,ax,.eg⟩ M=iy ⟨cf,am,aF,aD,value,bT,ao,reads,ar,aA,set,bG,aC,av,qc l,aN,ax,.eg⟩ M l from rfl,hr];intro A F hw hS;refine aK ZF λ_=>?_;dsimp only [aa,ah] at hS;obtain⟨x0,hS⟩:=bp.open hS .z;(unhygienic cases x0);dsimp only [cX,jk,dk,fi,bJ.gB,aa,ah] at hS;have hq:=gD hS hw;revert hq hS hw;clear hS;refine Wp (J1 (Tg.mk (n:=21) @jV)) (J3 bC @bn.eq_1 @bh.v.eq_1) ?_<;>(unhygienic intros)
 all_goals(
  refine⟨_,by simp [AW.ab];rfl,by simp [bh.v],?_⟩;apply aj.bX
  (·exact sA)
  (·exact pP))
theorem Kt (b pb:Nat) (s:aI) (t:jh) (M:Mm) (hd:s.aH=.cY) (he:s.aN=qc t) (h1:s.set.length<2^38):gF b pb s M:=by
 (unhygienic cases s);dsimp only at hd;subst hd;dsimp only at he;subst he;obtain⟨x,ph,s',M',hr⟩:∃x ph s' M',ij ⟨cf,am,aF,aD,value,bT,ao,reads,ar,aA,set,bG,aC,av,aP,qc t,ax,.cY⟩ M t=(x,ph,s',M'):=⟨_,_,_,_,rfl⟩;have jV:=Im b pb ⟨cf,am,aF,aD,value,bT,ao,reads,ar,aA,set,bG,aC,av,aP,qc t,ax,.cY⟩ t M rfl rfl h1;rw [hr] at jV;unfold gF;rw [show ba ⟨cf,am,aF,aD,value,bT,ao,reads,ar,aA,set,bG,aC,av,aP,qc t,ax,.cY⟩ M=ij ⟨cf,am,aF,aD,value,bT,ao,reads,ar,aA,set,bG,aC,av,aP,qc t,ax,.cY⟩ M t from rfl,hr];intro A F hw hS;refine aK ZF λ_=>?_;dsimp only [aa,ah] at hS;obtain⟨x0,hS⟩:=bp.open hS .z;(unhygienic cases x0);dsimp only [cX,jk,dk,fi,bJ.gB,aa,ah] at hS;have hq:=gD hS hw;revert hq hS hw;clear hS;refine Wp (J1 (Tg.mk (n:=21) @jV)) (J3 bC @bn.eq_1 @bh.v.eq_1) ?_<;>(unhygienic intros)
 all_goals(
  refine⟨_,by simp [AW.ab];rfl,by simp [bh.v],?_⟩;apply aj.bX
  (·exact sA)
  (·exact pP))
theorem Il (b pb:Nat) (s:aI) (c:iU) (M:Mm) (hd:s.aH=.cG c) (h1:OrOk s):gF b pb s M:=by
 (unhygienic cases s);dsimp only at hd;subst hd;obtain⟨x,ph,s',M',hr⟩:∃x ph s' M',gr ⟨cf,am,aF,aD,value,bT,ao,reads,ar,aA,set,bG,aC,av,aP,aN,ax,.cG c⟩ M c=(x,ph,s',M'):=⟨_,_,_,_,rfl⟩;have jV:=FQ b pb ⟨cf,am,aF,aD,value,bT,ao,reads,ar,aA,set,bG,aC,av,aP,aN,ax,.cG c⟩ c M rfl h1.1 h1.2;rw [hr] at jV;unfold gF;rw [show ba ⟨cf,am,aF,aD,value,bT,ao,reads,ar,aA,set,bG,aC,av,aP,aN,ax,.cG c⟩ M=gr ⟨cf,am,aF,aD,value,bT,ao,reads,ar,aA,set,bG,aC,av,aP,aN,ax,.cG c⟩ M c from rfl,hr];intro A F hw hS;refine aK ZF λ_=>?_;dsimp only [aa,ah] at hS;obtain⟨x0,hS⟩:=bp.open hS .z;(unhygienic cases x0);dsimp only [cX,jk,dk,fi,bJ.gB,aa,ah] at hS;have hq:=gD hS hw;revert hq hS hw;clear hS;refine Wp (J1 (Tg.mk (n:=21) @jV)) (J3 bC @bn.eq_1 @bh.v.eq_1) ?_<;>(unhygienic intros)
 all_goals(
  refine⟨_,by simp [AW.ab];rfl,by simp [bh.v],?_⟩;apply aj.bX
  (·exact sA)
  (·exact pP))
theorem Ik (b pb:Nat) (s:aI)  (M:Mm) (hd:s.aH=.bM) (hC:iu s) (h1:OrOk s):gF b pb s M:=by
 (unhygienic cases s);dsimp only at hd;subst hd;obtain⟨x,ph,s',M',hr⟩:∃x ph s' M',fm ⟨cf,am,aF,aD,value,bT,ao,reads,ar,aA,set,bG,aC,av,aP,aN,ax,.bM⟩ M=(x,ph,s',M'):=⟨_,_,_,_,rfl⟩;have jV:=EL b pb ⟨cf,am,aF,aD,value,bT,ao,reads,ar,aA,set,bG,aC,av,aP,aN,ax,.bM⟩ M rfl hC h1.1 h1.2;rw [hr] at jV;unfold gF;rw [show ba ⟨cf,am,aF,aD,value,bT,ao,reads,ar,aA,set,bG,aC,av,aP,aN,ax,.bM⟩ M=fm ⟨cf,am,aF,aD,value,bT,ao,reads,ar,aA,set,bG,aC,av,aP,aN,ax,.bM⟩ M from rfl,hr];intro A F hw hS;refine aK ZF λ_=>?_;dsimp only [aa,ah] at hS;obtain⟨x0,hS⟩:=bp.open hS .z;(unhygienic cases x0);dsimp only [cX,jk,dk,fi,bJ.gB,aa,ah] at hS;have hq:=gD hS hw;revert hq hS hw;clear hS;refine Wp (J1 (Tg.mk (n:=21) @jV)) (J3 bC @bn.eq_1 @bh.v.eq_1) ?_<;>(unhygienic intros)
 all_goals(
  refine⟨_,by simp [AW.ab];rfl,by simp [bh.v],?_⟩;apply aj.bX
  (·exact sA)
  (·exact pP))
theorem Ks (b pb:Nat) (s:aI) (w:jO) (M:Mm) (hd:s.aH=.dt w) (h1:w.os.length=w.ws.length) (h2:s.av.length<2^20):gF b pb s M:=by
 (unhygienic cases s);dsimp only at hd;subst hd;obtain⟨x,ph,s',M',hr⟩:∃x ph s' M',go ⟨cf,am,aF,aD,value,bT,ao,reads,ar,aA,set,bG,aC,av,aP,aN,ax,.dt w⟩ M w=(x,ph,s',M'):=⟨_,_,_,_,rfl⟩;have jV:=FM b pb ⟨cf,am,aF,aD,value,bT,ao,reads,ar,aA,set,bG,aC,av,aP,aN,ax,.dt w⟩ w M rfl h1 h2;rw [hr] at jV;unfold gF;rw [show ba ⟨cf,am,aF,aD,value,bT,ao,reads,ar,aA,set,bG,aC,av,aP,aN,ax,.dt w⟩ M=go ⟨cf,am,aF,aD,value,bT,ao,reads,ar,aA,set,bG,aC,av,aP,aN,ax,.dt w⟩ M w from rfl,hr];intro A F hw hS;refine aK ZF λ_=>?_;dsimp only [aa,ah] at hS;obtain⟨x0,hS⟩:=bp.open hS .z;(unhygienic cases x0);dsimp only [cX,jk,dk,fi,bJ.gB,aa,ah] at hS;have hq:=gD hS hw;revert hq hS hw;clear hS;refine Wp (J1 (Tg.mk (n:=21) @jV)) (J3 bC @bn.eq_1 @bh.v.eq_1) ?_<;>(unhygienic intros)
 all_goals(
  refine⟨_,by simp [AW.ab];rfl,by simp [bh.v],?_⟩;apply aj.bX
  (·exact sA)
  (·exact pP))
theorem FJ (b pb:Nat) (s:aI) (w:jO) (M:Mm) (hd:s.aH=.bE w) (h1:w.os.length=w.ws.length):gF b pb s M:=by
 (unhygienic cases s);dsimp only at hd;subst hd;obtain⟨x,ph,s',M',hr⟩:∃x ph s' M',nK ⟨cf,am,aF,aD,value,bT,ao,reads,ar,aA,set,bG,aC,av,aP,aN,ax,.bE w⟩ M w=(x,ph,s',M'):=⟨_,_,_,_,rfl⟩;have jV:=Dc b pb ⟨cf,am,aF,aD,value,bT,ao,reads,ar,aA,set,bG,aC,av,aP,aN,ax,.bE w⟩ w M rfl h1;rw [hr] at jV;unfold gF;rw [show ba ⟨cf,am,aF,aD,value,bT,ao,reads,ar,aA,set,bG,aC,av,aP,aN,ax,.bE w⟩ M=nK ⟨cf,am,aF,aD,value,bT,ao,reads,ar,aA,set,bG,aC,av,aP,aN,ax,.bE w⟩ M w from rfl,hr];intro A F hw hS;refine aK ZF λ_=>?_;dsimp only [aa,ah] at hS;obtain⟨x0,hS⟩:=bp.open hS .z;(unhygienic cases x0);dsimp only [cX,jk,dk,fi,bJ.gB,aa,ah] at hS;have hq:=gD hS hw;revert hq hS hw;clear hS;refine Wp (J1 (Tg.mk (n:=21) @jV)) (J3 bC @bn.eq_1 @bh.v.eq_1) ?_<;>(unhygienic intros)
 all_goals(
  refine⟨_,by simp [AW.ab];rfl,by simp [bh.v],?_⟩;apply aj.bX
  (·exact sA)
  (·exact pP))
theorem Ku (b pb:Nat) (s:aI) (p:gs) (M:Mm) (hd:s.aH=.eC p) (hC:iu s) (h1:s.ax<s.ar.length):gF b pb s M:=by
 (unhygienic cases s);dsimp only at hd;subst hd;obtain⟨x,ph,s',M',hr⟩:∃x ph s' M',iD ⟨cf,am,aF,aD,value,bT,ao,reads,ar,aA,set,bG,aC,av,aP,aN,ax,.eC p⟩ M p=(x,ph,s',M'):=⟨_,_,_,_,rfl⟩;have jV:=Io b pb ⟨cf,am,aF,aD,value,bT,ao,reads,ar,aA,set,bG,aC,av,aP,aN,ax,.eC p⟩ p M rfl hC h1;rw [hr] at jV;unfold gF;rw [show ba ⟨cf,am,aF,aD,value,bT,ao,reads,ar,aA,set,bG,aC,av,aP,aN,ax,.eC p⟩ M=iD ⟨cf,am,aF,aD,value,bT,ao,reads,ar,aA,set,bG,aC,av,aP,aN,ax,.eC p⟩ M p from rfl,hr];intro A F hw hS;refine aK ZF λ_=>?_;dsimp only [aa,ah] at hS;obtain⟨x0,hS⟩:=bp.open hS .z;(unhygienic cases x0);dsimp only [cX,jk,dk,fi,bJ.gB,aa,ah] at hS;have hq:=gD hS hw;revert hq hS hw;clear hS;refine Wp (J1 (Tg.mk (n:=21) @jV)) (J3 bC @bn.eq_1 @bh.v.eq_1) ?_<;>(unhygienic intros)
 all_goals(
  refine⟨_,by simp [AW.ab];rfl,by simp [bh.v],?_⟩;apply aj.bX
  (·exact sA)
  (·exact pP))
end
section
open T20 T13
variable [Gl]
theorem SA (b pb:Nat) (s:aI) (M:Mm) (hd:s.aH=.bL):gF b pb s M:=by
 (unhygienic cases s);dsimp only at hd;subst hd;unfold gF;rw [show ba ⟨cf,am,aF,aD,value,bT,ao,reads,ar,aA,set,bG,aC,av,aP,aN,ax,.bL⟩ M=(bh.zero,0,⟨cf,am,aF,aD,value,bT,ao,reads,ar,aA,set,bG,aC,av,aP,aN,ax,.bL⟩,M) from rfl];intro A F hw hS;refine aK ZF λ_=>?_;dsimp only [aa,ah] at hS;obtain⟨x0,hS⟩:=bp.open hS .z;(unhygienic cases x0);dsimp only [cX,jk,dk,fi,bJ.gB,aa,ah] at hS;have hq:=gD hS hw;revert hq hS hw;clear hS;refine Wp cx (J3 bC @bn.eq_1 @bh.v.eq_1) ?_<;>(unhygienic intros);refine⟨_,by simp [AW.ab];rfl,by simp [bh.v,bh.zero],?_⟩;apply bp.bX
 (·exact sA)
 exact fP
 (·exact pP)
 all_goals(exact 0)
theorem Ky (b pb:Nat) (s:aI)  (M:Mm) (hd:s.aH=.je .uY) (hC:iu s):gF b pb s M:=by
 (unhygienic cases s);dsimp only at hd;subst hd;have Ut:iu ⟨cf,am,aF,aD,value,bT,ao,reads,ar,aA,set,bG,aC,av,aP,aN,ax,.bL⟩:=hC.to rfl rfl rfl rfl rfl rfl rfl rfl;unfold gF;rw [show ba ⟨cf,am,aF,aD,value,bT,ao,reads,ar,aA,set,bG,aC,av,aP,aN,ax,.je .uY⟩ M=(bh.zero,0,sh ⟨cf,am,aF,aD,value,bT,ao,reads,ar,aA,set,bG,aC,av,aP,aN,ax,.bL⟩ .uY,M) from rfl];intro A F hw hS;refine aK ZF λ_=>?_;dsimp only [aa,ah] at hS;obtain⟨x0,hS⟩:=bp.open hS .z;(unhygienic cases x0);dsimp only [cX,jk,dk,fi,bJ.gB,aa,ah] at hS;have hq:=gD hS hw;revert hq hS hw;clear hS;refine Wp (J1 (Tg.mk (n:=21) (Kk b c0 ⟨cf,am,aF,aD,value,bT,ao,reads,ar,aA,set,bG,aC,av,aP,aN,ax,.bL⟩ rfl Ut))) (J3 bC @bn.eq_1 @bh.v.eq_1) ?_<;>(unhygienic intros)
 all_goals(
  refine⟨_,by simp [AW.ab];rfl,by simp [bh.v,bh.zero],?_⟩;apply aj.bX
  (·exact sA)
  (·exact pP))
theorem KA (b pb:Nat) (s:aI)  (M:Mm) (hd:s.aH=.je .QF) (hC:iu s):gF b pb s M:=by
 (unhygienic cases s);dsimp only at hd;subst hd;have Ut:iu ⟨cf,am,aF,aD,value,bT,ao,reads,ar,aA,set,bG,aC,av,aP,aN,ax,.bL⟩:=hC.to rfl rfl rfl rfl rfl rfl rfl rfl;unfold gF;rw [show ba ⟨cf,am,aF,aD,value,bT,ao,reads,ar,aA,set,bG,aC,av,aP,aN,ax,.je .QF⟩ M=(bh.zero,0,sh ⟨cf,am,aF,aD,value,bT,ao,reads,ar,aA,set,bG,aC,av,aP,aN,ax,.bL⟩ .QF,M) from rfl];intro A F hw hS;refine aK ZF λ_=>?_;dsimp only [aa,ah] at hS;obtain⟨x0,hS⟩:=bp.open hS .z;(unhygienic cases x0);dsimp only [cX,jk,dk,fi,bJ.gB,aa,ah] at hS;have hq:=gD hS hw;revert hq hS hw;clear hS;refine Wp (J1 (Tg.mk (n:=21) (Km b c0 ⟨cf,am,aF,aD,value,bT,ao,reads,ar,aA,set,bG,aC,av,aP,aN,ax,.bL⟩ rfl Ut))) (J3 bC @bn.eq_1 @bh.v.eq_1) ?_<;>(unhygienic intros)
 all_goals(
  refine⟨_,by simp [AW.ab];rfl,by simp [bh.v,bh.zero],?_⟩;apply aj.bX
  (·exact sA)
  (·exact pP))
theorem Kz (b pb:Nat) (s:aI) (ec:Int) (M:Mm) (hd:s.aH=.je (.bX ec)) (hC:iu s):gF b pb s M:=by
 (unhygienic cases s);dsimp only at hd;subst hd;have Ut:iu ⟨cf,am,aF,aD,value,bT,ao,reads,ar,aA,set,bG,aC,av,aP,aN,ax,.bL⟩:=hC.to rfl rfl rfl rfl rfl rfl rfl rfl;unfold gF;rw [show ba ⟨cf,am,aF,aD,value,bT,ao,reads,ar,aA,set,bG,aC,av,aP,aN,ax,.je (.bX ec)⟩ M=(bh.zero,0,sh ⟨cf,am,aF,aD,value,bT,ao,reads,ar,aA,set,bG,aC,av,aP,aN,ax,.bL⟩ (.bX ec),M) from rfl];intro A F hw hS;refine aK ZF λ_=>?_;dsimp only [aa,ah] at hS;obtain⟨x0,hS⟩:=bp.open hS .z;(unhygienic cases x0);dsimp only [cX,jk,dk,fi,bJ.gB,aa,ah] at hS;have hq:=gD hS hw;revert hq hS hw;clear hS;refine Wp (J1 (Tg.mk (n:=21) (Kl b c0 c1 ⟨cf,am,aF,aD,value,bT,ao,reads,ar,aA,set,bG,aC,av,aP,aN,ax,.bL⟩ ec rfl Ut))) (J3 bC @bn.eq_1 @bh.v.eq_1) ?_<;>(unhygienic intros)
 all_goals(
  refine⟨_,by simp [AW.ab];rfl,by simp [bh.v,bh.zero],?_⟩;apply aj.bX
  (·exact sA)
  (·exact pP))
theorem Ih (b pb:Nat) (s:aI) (lv:Int) (M:Mm) (hd:s.aH=.je (.take lv)) (hC:iu s):gF b pb s M:=by
 (unhygienic cases s);dsimp only at hd;subst hd;have Ut:iu ⟨cf,am,aF,aD,value,bT,ao,reads,ar,aA,set,bG,aC,av,aP,aN,ax,.bL⟩:=hC.to rfl rfl rfl rfl rfl rfl rfl rfl;unfold gF;rw [show ba ⟨cf,am,aF,aD,value,bT,ao,reads,ar,aA,set,bG,aC,av,aP,aN,ax,.je (.take lv)⟩ M=(bh.zero,0,sh ⟨cf,am,aF,aD,value,bT,ao,reads,ar,aA,set,bG,aC,av,aP,aN,ax,.bL⟩ (.take lv),M) from rfl];intro A F hw hS;refine aK ZF λ_=>?_;dsimp only [aa,ah] at hS;obtain⟨x0,hS⟩:=bp.open hS .z;(unhygienic cases x0);dsimp only [cX,jk,dk,fi,bJ.gB,aa,ah] at hS;have hq:=gD hS hw;revert hq hS hw;clear hS;refine Wp (J1 (Tg.mk (n:=21) (Id b c0 c1 c2 ⟨cf,am,aF,aD,value,bT,ao,reads,ar,aA,set,bG,aC,av,aP,aN,ax,.bL⟩ lv rfl))) (J3 bC @bn.eq_1 @bh.v.eq_1) ?_<;>(unhygienic intros)
 all_goals(
  refine⟨_,by simp [AW.ab];rfl,by simp [bh.v,bh.zero],?_⟩;apply aj.bX
  (·exact sA)
  (·exact pP))
theorem FK (b pb:Nat) (s:aI) (la lv:Int) (M:Mm) (hd:s.aH=.je (.mI la lv)) (hC:iu s) (hla:0<=la):gF b pb s M:=by
 (unhygienic cases s);dsimp only at hd;subst hd;have Ut:iu ⟨cf,am,aF,aD,value,bT,ao,reads,ar,aA,set,bG,aC,av,aP,aN,ax,.bL⟩:=hC.to rfl rfl rfl rfl rfl rfl rfl rfl;unfold gF;rw [show ba ⟨cf,am,aF,aD,value,bT,ao,reads,ar,aA,set,bG,aC,av,aP,aN,ax,.je (.mI la lv)⟩ M=(bh.zero,0,sh ⟨cf,am,aF,aD,value,bT,ao,reads,ar,aA,set,bG,aC,av,aP,aN,ax,.bL⟩ (.mI la lv),M) from rfl];intro A F hw hS;refine aK ZF λ_=>?_;dsimp only [aa,ah] at hS;obtain⟨x0,hS⟩:=bp.open hS .z;(unhygienic cases x0);dsimp only [cX,jk,dk,fi,bJ.gB,aa,ah] at hS;have hq:=gD hS hw;revert hq hS hw;clear hS;refine Wp (J1 (Tg.mk (n:=21) (FE b c0 c1 c2 ⟨cf,am,aF,aD,value,bT,ao,reads,ar,aA,set,bG,aC,av,aP,aN,ax,.bL⟩ la lv rfl Ut hla))) (J3 bC @bn.eq_1 @bh.v.eq_1) ?_<;>(unhygienic intros)
 all_goals(
  refine⟨_,by simp [AW.ab];rfl,by simp [bh.v,bh.zero],?_⟩;apply aj.bX
  (·exact sA)
  (·exact pP))
theorem Ii (b pb:Nat) (s:aI)  (M:Mm) (hd:s.aH=.je .Bl) (hC:iu s):gF b pb s M:=by
 (unhygienic cases s);dsimp only at hd;subst hd;have Ut:iu ⟨cf,am,aF,aD,value,bT,ao,reads,ar,aA,set,bG,aC,av,aP,aN,ax,.bL⟩:=hC.to rfl rfl rfl rfl rfl rfl rfl rfl;unfold gF;rw [show ba ⟨cf,am,aF,aD,value,bT,ao,reads,ar,aA,set,bG,aC,av,aP,aN,ax,.je .Bl⟩ M=(bh.zero,0,sh ⟨cf,am,aF,aD,value,bT,ao,reads,ar,aA,set,bG,aC,av,aP,aN,ax,.bL⟩ .Bl,M) from rfl];intro A F hw hS;refine aK ZF λ_=>?_;dsimp only [aa,ah] at hS;obtain⟨x0,hS⟩:=bp.open hS .z;(unhygienic cases x0);dsimp only [cX,jk,dk,fi,bJ.gB,aa,ah] at hS;have hq:=gD hS hw;revert hq hS hw;clear hS;refine Wp (J1 (Tg.mk (n:=21) (Ie b c0 ⟨cf,am,aF,aD,value,bT,ao,reads,ar,aA,set,bG,aC,av,aP,aN,ax,.bL⟩ rfl Ut))) (J3 bC @bn.eq_1 @bh.v.eq_1) ?_<;>(unhygienic intros)
 all_goals(
  refine⟨_,by simp [AW.ab];rfl,by simp [bh.v,bh.zero],?_⟩;apply aj.bX
  (·exact sA)
  (·exact pP))
theorem FL (b pb:Nat) (s:aI) (lk lv:Int) (M:Mm) (hd:s.aH=.je (.dy lk lv)) (hC:iu s) (Wi:0<=lk/\lk<s.cf.nb):gF b pb s M:=by
 (unhygienic cases s);dsimp only at hd;subst hd;have Ut:iu ⟨cf,am,aF,aD,value,bT,ao,reads,ar,aA,set,bG,aC,av,aP,aN,ax,.bL⟩:=hC.to rfl rfl rfl rfl rfl rfl rfl rfl;unfold gF;rw [show ba ⟨cf,am,aF,aD,value,bT,ao,reads,ar,aA,set,bG,aC,av,aP,aN,ax,.je (.dy lk lv)⟩ M=(bh.zero,0,sh ⟨cf,am,aF,aD,value,bT,ao,reads,ar,aA,set,bG,aC,av,aP,aN,ax,.bL⟩ (.dy lk lv),M) from rfl];intro A F hw hS;refine aK ZF λ_=>?_;dsimp only [aa,ah] at hS;obtain⟨x0,hS⟩:=bp.open hS .z;(unhygienic cases x0);dsimp only [cX,jk,dk,fi,bJ.gB,aa,ah] at hS;have hq:=gD hS hw;revert hq hS hw;clear hS;refine Wp (J1 (Tg.mk (n:=21) (FF b c0 c1 c2 ⟨cf,am,aF,aD,value,bT,ao,reads,ar,aA,set,bG,aC,av,aP,aN,ax,.bL⟩ lk lv rfl Ut Wi))) (J3 bC @bn.eq_1 @bh.v.eq_1) ?_<;>(unhygienic intros)
 all_goals(
  refine⟨_,by simp [AW.ab];rfl,by simp [bh.v,bh.zero],?_⟩;apply aj.bX
  (·exact sA)
  (·exact pP))
theorem Ig (b pb:Nat) (s:aI) (M:Mm) (hd:s.aH=.eA):gF b pb s M:=by
 (unhygienic cases s);dsimp only at hd;subst hd;unfold gF;rw [show ba ⟨cf,am,aF,aD,value,bT,ao,reads,ar,aA,set,bG,aC,av,aP,aN,ax,.eA⟩ M=(EM M 3 0 (q8.wrap (aC+1)),19,⟨cf,am,aF,aD,value,bT,ao,reads,ar,aA,set,bG,aC,av,aP,aN,ax,.eb⟩,u7 M 3 0 (q8.wrap (aC+1))) from rfl];intro A F hw hS;refine aK ZF λ_=>?_;dsimp only [aa,ah] at hS;obtain⟨x0,hS⟩:=bp.open hS .z;(unhygienic cases x0);dsimp only [cX,jk,dk,fi,bJ.gB,aa,ah] at hS;have hq:=gD hS hw;revert hq hS hw;clear hS;refine Wp (J1 (stL pb)) (J3 bC @bn.eq_1 @bh.v.eq_1) ?_<;>(unhygienic intros);refine⟨_,by simp [AW.ab];rfl,by (simp [bh.v];done),?_⟩;apply bp.bX
 (·exact sA)
 exact fP
 (·exact pP)
 all_goals(exact 0)
theorem Kw (b pb:Nat) (s:aI) (t:jh) (M:Mm) (hd:s.aH=.eb) (hC:iu s) (he:s.aN=qc t):gF b pb s M:=by
 (unhygienic cases s);dsimp only at hd;subst hd;dsimp only at he;subst he;unfold gF;rw [show ba ⟨cf,am,aF,aD,value,bT,ao,reads,ar,aA,set,bG,aC,av,aP,qc t,ax,.eb⟩ M=(EM M 5 0 (rR t.gB),20,fH ⟨cf,am,aF,aD,value,bT,ao,reads,ar,aA,set,bG,aC,av,aP,qc t,ax,.eb⟩,u7 M 5 0 (rR t.gB)) from rfl];intro A F hw hS;refine aK ZF λ_=>?_;dsimp only [aa,ah] at hS;obtain⟨x0,hS⟩:=bp.open hS .z;(unhygienic cases x0);dsimp only [cX,jk,dk,fi,bJ.gB,aa,ah] at hS;have hq:=gD hS hw;have hS:=y6.op hS (.s (.s (.s .z)));have hq:=gD hS hw;revert hq hS hw;clear hq;clear hS;clear hS;refine Wp (J3 (Tg.mk (n:=10) @FC) (Tg.mk (n:=20) (yD b ⟨cf,am,aF,aD,value,bT,ao,reads,ar,aA,set,bG,aC,av,aP,qc t,ax,.eb⟩ 12 .eb hC.cf hC.al hC.push (Nat.lt_of_le_of_lt hC.oO Yf))) (SU pb t.gB M)) (J5 @ju.eq_1 @ju.eq_2 bC @bn.eq_1 @bh.v.eq_1) ?_<;>(unhygienic intros)
 all_goals(
  refine⟨_,by simp [AW.ab];rfl,by simp [bh.v],?_⟩;apply aj.bX
  (·exact sA)
  (·exact pP))
theorem KB (b pb:Nat) (s:aI) (M:Mm) (hd:s.aH=.gq):gF b pb s M:=by
 (unhygienic cases s);dsimp only at hd;subst hd;unfold gF;rw [show ba ⟨cf,am,aF,aD,value,bT,ao,reads,ar,aA,set,bG,aC,av,aP,aN,ax,.gq⟩ M=(EM M 6 am 0,24,⟨cf,am,2,aD,value,bT,ao,reads,ar,aA,set,bG,aC,av,aP,aN,ax,.bL⟩,u7 M 6 am 0) from rfl];intro A F hw hS;refine aK ZF λ_=>?_;dsimp only [aa,ah] at hS;obtain⟨x0,hS⟩:=bp.open hS .z;(unhygienic cases x0);dsimp only [cX,jk,dk,fi,bJ.gB,aa,ah] at hS;have hq:=gD hS hw;revert hq hS hw;clear hS;refine Wp (J1 (PO pb am M)) (J3 bC @bn.eq_1 @bh.v.eq_1) ?_<;>(unhygienic intros);refine⟨_,by simp [AW.ab];rfl,by (simp [bh.v];done),?_⟩;apply bp.bX
 (·exact sA)
 exact fP
 (·exact pP)
 all_goals(exact 0)
theorem SD (b pb:Nat) (s:aI) (M:Mm) (h:Mf s M):gF b pb s M:=by
 obtain⟨hC,hD⟩:=h;have OO:s.set.length<2^38:=by
  have h1:=hC.set;have h2:=hC.cf.reads;omega
 cases hd:s.aH with
 | bL=>exact SA b pb s M hd
 | je k=>
   rw [hd] at hD;cases k with
   | uY=>exact Ky b pb s M hd hC
   | QF=>exact KA b pb s M hd hC
   | bX c=>exact Kz b pb s c M hd hC
   | take v=>exact Ih b pb s v M hd hC
   | mI a v=>exact FK b pb s a v M hd hC hD
   | Bl=>exact Ii b pb s M hd hC
   | dy k v=>exact FL b pb s k v M hd hC hD
 | dA=>
   rw [hd] at hD;obtain⟨e,he⟩:=hD;exact Ij b pb s e M hd he
 | bj c u=>
   rw [hd] at hD;obtain⟨h1,h2,h3,h4⟩:=hD;cases u with
   | take=>exact O1 b pb s c M hd hC h1 h2 h3
   | dy k=>exact O2 b pb s c k M hd hC h1 h2 h3 h4
 | eP p=>
   rw [hd] at hD;exact Kv b pb s p M hd hC hD.1 hD.2.1 hD.2.2
 | eg=>
   rw [hd] at hD;obtain⟨l,h1,h2,h3⟩:=hD;exact Kx b pb s l M hd h1 h2 h3
 | cY=>
   rw [hd] at hD;obtain⟨t,h1⟩:=hD;exact Kt b pb s t M hd h1 OO
 | cG c=>
   rw [hd] at hD;exact Il b pb s c M hd hD
 | bM=>
   rw [hd] at hD;exact Ik b pb s M hd hC hD
 | dt w=>
   rw [hd] at hD;exact Ks b pb s w M hd hD.1 hD.2
 | bE w=>
   rw [hd] at hD;exact FJ b pb s w M hd hD
 | eA=>exact Ig b pb s M hd
 | eb=>
   rw [hd] at hD;obtain⟨t,h1⟩:=hD;exact Kw b pb s t M hd hC h1
 | eC p=>
   rw [hd] at hD;exact Ku b pb s p M hd hC hD
 | gq=>exact KB b pb s M hd
end
section
open T20 T13
variable [Gl]
theorem aj.nF {A:AW} {L:List It} (h:aj A L):aj A (.h fl::L):=by
 unfold aj at h ⊢;show bB A (fl*aO L);rw [jf];exact h
theorem PA {A:AW} {L:List It} {k:qd->AW->Prop} {w:Nat} (VX:w<=32) (hw:A.Wf) (hS:aj A L) (hk:∀n A',aj A' (.h (sy n (jD w))::L)->A'.Wf->k (pv n) A'):aB qV 246 [qb qa w] A k:=by
 refine bD (No w VX A L hw hS) ?_;rintro _ A' ⟨n,rfl,h1⟩ jN _;exact hk n A' h1 jN
theorem VE (c:aY) (hc:da c) (t:Int) (A:AW) (F:HP) (hw:A.Wf) (hS:aj A [.h F]) :
 aB qV 184 [c.v,qb qa t] A (λv A'=>∃b,v=pv b/\aj A' [.h (bp b (fh c t)),.h F]):=by
 refine aK Tryz.func184 λ_=>?_;obtain⟨r0,r1⟩:=hc.reads;obtain⟨w0,w1⟩:=hc.bU;obtain⟨w,hwn⟩:∃w:Nat,c.bU=w:=⟨c.bU.toNat,by omega⟩;dsimp only [aY.v];rw [hwn]
 repeat' (first|(refine iT λR hR=>?_;simp [AW.ab];try simp (disch:=omega) only [ay,aw,af,an])|(refine hR _ _ ?_;clear hR R)|(refine hK _ _ ?_;clear hK K)|refine nx ?_|refine wn λK hK=>?_|simp only [wS]|(refine bD (Nm c.reads _ ⟨by omega,r1⟩) ?_;rintro _ _ ⟨rfl,rfl⟩ _ _)|(refine ⟨λA' CB=>by simp [CB],?_⟩)|(refine ⟨by simp [hq],?_⟩)|(refine wlS (λA'=>A'.bk A.next=qc (.cells [qb qa c.bg,qb qa c.av,qb qa c.base,qb qa c.c0,qb qa c.c1,qb qa c.c2,qb qa c.c3,qb qa c.reads,qb qa w,qb qa c.ar,qb qa c.aA,qb qa c.aC,.bool c.bd] true 1)) Tryz.mx [(0,0),(1,0),(3,0),(4,0),(7,1),(8,0),(2,2),(5,3),(6,0),(9,0),(10,2),(11,0)] Yc λK hK=>?_)|(apply PA Ya;(·exact wA);(·exact sA);((rintro _ _ hS hw);have hq:=hqx21 hS hw))|(show cM _ _ _ _ _ _;refine nx ?_))
 have e:fh c t=⟨c,t,0,0,0,none,false,[],[],[],[],jD w,0,[],none,none,0,.bL⟩:=by unfold fh;rw [hwn]
 have h:=hwn;refine⟨_,by rfl,_,rfl,?_⟩;rw [e];apply bp.bX;apply aj.vF qa;apply aj.vF qa;apply aj.vF qa;apply aj.vF qa;apply aj.nF;apply aj.nF;apply aj.nF;apply Ae.dJ (eV:=c.reads.toNat) (l:=[]) (v:=qf none 0 0);apply aj.vF qa
 (·exact sA)
 (·exact pP)
 (dsimp only [cX,xI,jk,dk,fi,bJ.gB,pF,kF,ju,sX,nD,tz,AV,nG,nA,jQ,sY,sP,AK,sQ,aa,ah])
 simp only [h]
 (·exact pP)
 (·exact pP)
 all_goals(exact 0)
theorem Ql (b:Nat) (s:aI) (cr:Int) (d:bJ) (A:AW) (hw:A.Wf) (hS:aj A [.h (jY b s cr d)]) (hl:s.aA.length<2^38) :
 aB qV 237 [pv b] A (λu A'=>eE A.next A' qa u s.aA/\A.le A'):=by
 refine aK Tryz.func237 λ_=>?_;obtain⟨x0,hS⟩:=jY.open hS .z;(unhygienic cases x0);dsimp only [cX,aa,ah] at hS;have hI:=aj.tC hS (.s (.s (.s (.s (.s (.s (.s (.s .z))))))));have hq:=gD hS hw;revert hq hS hw;clear hS;refine Wp cx (J1 @AW.ab) ?_<;>(unhygienic intros);refine bD (kC _ _ A hI Ya) ?_;rintro u A1 ⟨h1,h2⟩ iZ _;refine Wp cx trivial ?_<;>intros;exact⟨_,by rfl,h1,h2⟩
end
section
open T20 T13
variable [Gl]
def nB (s:aI):List Int:=s.bG.bZ.filter (λa=>decide (a<s.cf.bg))
theorem TO {A:AW} {L K:List It} {k:qd->AW->Prop} {v:qd} {l:List Int} (hw:A.Wf) (hS:aj A L) (hp:aE L (.h (au qa v l)) K) (hl:l.length<2^38)
 (hk:∀o c A',aj A' (.h (au qa (qf o l.length c) l)::L)->A'.Wf->A.le A'->k (qf o l.length c) A'):aB qV 60 [v] A k:=by
 refine bD (kC v l A (aj.tC hS hp) Ya) ?_;rintro u A' ⟨h1,h2⟩ jN _;obtain⟨o,c,rfl,_⟩:=h1.is.bR;exact hk o c A' (au.jd hS hw h2 h1) jN h2
theorem MB (b:Nat) (s:aI) (cr:Int) (d:bJ) (hC:iu s) (f:tR) (A:AW) (F:HP) (hw:A.Wf) (hS:aj A (cX b s cr d f++[.h F])) :
 aB qV 123 [pv b] A (λv A'=>∃u w,v=qA #[u,w]/\aj A' (.h (au qa u s.reads)::.h (au qa w (nB s))::(cX b s cr d f++[.h F]))):=by
 refine aK Tryz.func123 λ_=>?_;have bW:=hC.len;have hrd:=hC.iJ;obtain⟨eT,fp,b8,dz,dv,m,c0,c1,c2,dE,bF,cF,cJ,fa,dF,fJ,cK,cH,br,dG,dP,iw,fb⟩:=f;dsimp only [cX,aa,ah] at hS;have hq:=gD hS hw
 repeat' (first|(refine iT λR hR=>?_;simp [hq,AW.ab];try simp (disch:=omega) only [ay,aw,af,an])|(refine hR _ _ ?_;clear hR R)|(refine hK _ _ ?_;clear hK K)|refine nx ?_|refine wn λK hK=>?_|simp only [wS]|(show cM _ _ _ _ _ _;refine nx ?_))
 apply wT (n:=fp) (s:=s.bG);exact hw;exact hS
 (·exact kP)
 omega;intro o1 c3 A1 hS hw _;generalize hn:s.bG.bZ=ad at *;revert hq hS hw;(repeat first|clear hS|clear hw|revert R|revert K);refine Wp cx (J1 bC) ?_<;>(unhygienic intros)
 refine df (λk fr A'=>A'.Wf/\∃(i:Nat) (v:qd) (q:List Int),q=(ad.take i).filter (λa=>decide (a<s.cf.bg))/\k=ad.length-i/\i<=ad.length/\fr 0=pv b/\fr 3=v/\fr 11=qf o1 ad.length c3/\fr 12=qb qa ad.length/\fr 13=qb qa i/\
  aj A' (.h (au qa v q)::.h (au qa (qf o1 ad.length c3) ad)::(cX b s cr d ⟨eT,fp,b8,dz,dv,m,c0,c1,c2,dE,bF,cF,cJ,fa,dF,fJ,cK,cH,br,dG,dP,iw,fb⟩++[.h F]))) ad.length ?_ ?_
 refine⟨hw,0,qf none 0 0,[],by simp,by simp,by simp,by simp,by simp,by simp,by simp,by simp,?_⟩;exact aj.vF qa hS;rintro k fr A' ⟨hw,i,v,q,IQ,rfl,hi,h0,h3,H4,JR,N1,hS⟩;have hI:=aj.tC hS (.s .z);have hIv:=aj.tC hS .z;have hql:q.length<=i:=by
  rw [IQ];have:=List.length_filter_le (λa=>decide (a<s.cf.bg)) (ad.take i);have h9:(ad.take i).length<=i:=by simp;omega
  omega
 obtain⟨ov,cv,rfl,_⟩:=hIv.bR;dsimp only [cX,jk,dk,fi,bJ.gB,aa,ah] at hS;have hq:=RI hS hw;refine aT ?_;by_cases bY:i<ad.length
 . have fo:(i:Int)<ad.length:=Ya;have gC:=zd (i:=i);obtain⟨p,bS,rfl,bO,hcell⟩:=hI.at bY;have xP:ad.take (i+1)=ad.take i++[ad[i]]:=List.take_succ_eq_append_getElem bY;by_cases h:ad[i]<s.cf.bg
   . revert hq hS hw;(repeat first|clear hq|clear hS|clear hw);refine Wu cx (vZ h0 h3 H4 JR N1 bO hcell h bY fo gC bC) ?_<;>(unhygienic intros);refine⟨ad.length-(i+1),by omega,hw,i+1,_,q++[ad[i]],?_,rfl,by omega,by simp [h0],by simp;rfl,by simp [H4],by simp [JR],by simp,?_⟩;rw [IQ,xP,kbh];simp [h];apply aj.bX hS;dsimp only [cX,jk,dk,fi,bJ.gB,aa,ah]
     (·exact pP)
   revert hq hS hw;(repeat first|clear hq|clear hS|clear hw);refine Wp cx (vZ h0 h3 H4 JR N1 bO hcell h bY fo gC bC) ?_<;>(unhygienic intros);refine⟨ad.length-(i+1),by omega,hw,i+1,_,q,?_,rfl,by omega,by simp [h0],by simp [h3];rfl,by simp [H4],by simp [JR],by simp,?_⟩;rw [IQ,xP,kbh];simp [h];apply aj.bX hS;dsimp only [cX,jk,dk,fi,bJ.gB,aa,ah]
   (·exact pP)
 have Lu:i=ad.length:=Ya
 subst Lu;rw [List.take_length] at IQ;revert hq hS hw;(repeat first|clear hq|clear hS|clear hw);refine Wp (J1 (Tg.mk (n:=11) @TO)) (J6 h0 h3 H4 JR N1 bC) ?_<;>(unhygienic intros);refine⟨_,by (simp;rfl),?_⟩;refine⟨_,_,rfl,?_⟩;have hwf:nB s=q:=by unfold nB;rw [hn,IQ]
 rw [hwf];apply aj.bX hS;dsimp only [cX,aa,ah]
 (·exact pP)
theorem Kh (n:Nat) (s:aI) (hC:iu s):eI qV 123 [pv n] [.h (bp n s)] (λ(x:(Option Addr×Nat)×Option Addr×Nat) v=>v=qA #[qf x.1.1 s.reads.length x.1.2,qf x.2.1 (nB s).length x.2.2]) (λx=>[.h (au qa (qf x.1.1 s.reads.length x.1.2) s.reads),.h (au qa (qf x.2.1 (nB s).length x.2.2) (nB s)),.h (bp n s)]):=by
 intro A F hw hS;obtain⟨f,hS⟩:=bp.open hS .z;rw [List.append_assoc] at hS;have lO:aj A (cX n s s.aH.gB s.aH f++[.h (aO (jk n s.aH f++[.h F]))]):=by
  unfold aj at hS ⊢;rw [gG] at hS ⊢;show bB A (aO (cX n s s.aH.gB s.aH f)*(aO (jk n s.aH f++[.h F])*fl));rw [dH];exact hS
 refine(MB n s s.aH.gB s.aH hC f A _ hw lO).mono ?_;rintro v A' ⟨u,w,rfl,h⟩;obtain⟨o1,c1,rfl,_⟩:=(aj.tC h .z).bR;obtain⟨o2,c2,rfl,_⟩:=(aj.tC h (.s .z)).bR;refine⟨((o1,c1),o2,c2),rfl,?_⟩;show aj A' [.h (au qa (qf o1 s.reads.length c1) s.reads),.h (au qa (qf o2 (nB s).length c2) (nB s)),.h (bp n s),.h F];generalize hu:Value.slice o1 s.reads.length c1=u at h ⊢;generalize hv:Value.slice o2 (nB s).length c2=w at h ⊢;unfold aj at h ⊢;have h3:bB A' (au qa u s.reads*(au qa w (nB s)*aO (cX n s s.aH.gB s.aH f++[.h (aO (jk n s.aH f++[.h F]))]))):=h;rw [gG,show aO [It.h (aO (jk n s.aH f++[.h F]))]=aO (jk n s.aH f++[.h F]) from dH _,gG] at h3;show bB A' (au qa u s.reads*(au qa w (nB s)*(bp n s*(F*fl))));rw [dH];have h4:bB A' (aO (cX n s s.aH.gB s.aH f++jk n s.aH f)*(au qa u s.reads*(au qa w (nB s)*F))):=by
  rw [gG];refine h3.dD ?_;rw [show aO [It.h F]=F from dH F]
  ac_rfl
 have h5:bB A' (bp n s*(au qa u s.reads*(au qa w (nB s)*F))):=by
  show bB A' (td (λf:tR=>aO (cX n s s.aH.gB s.aH f++jk n s.aH f))*_);rw [bB.ex];exact⟨f,h4⟩
 exact h5.dD Yd
end
end Go.Stx
