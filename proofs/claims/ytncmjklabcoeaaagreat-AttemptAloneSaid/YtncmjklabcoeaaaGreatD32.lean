/-
 Small valid configurations made from any numbers.
-/
import Derived.Test.YtncmjklabcoeaaaGreatD16
set_option linter.unusedVariables false
set_option linter.unusedSimpArgs false
set_option maxRecDepth 20000
set_option maxHeartbeats 4000000
namespace Go.Stx
open Go Go.Proofs
attribute [local irreducible] fj cm aH bB dK ei
abbrev Iw:List (Nat×Nat):=[(0,0),(1,0),(2,0),(3,0),(4,0),(5,0),(6,0),(7,0),(8,0),(9,2),(10,0)]
open T0
structure If (c:bG):Prop where
 ok:dt c
 aF:4≤c.aF∧c.aF≤12
 aj:c.aj≤8
 base:c.base=2
 c0:c.c0≤2
 c1:c.c1≤2
 c2:c.c2=0
 c3:c.c3=0
 ah:c.ah≤6
 bX:c.bX≤8
 ac:c.ac≤2
 ap:c.ap≤2
 ao:c.ao≤50
def zq (p0 p1 p2 p3 p4 p5 ck n0 n1:Int):bG:=⟨4+p0,1+p1,2,n0,n1,0,0,1+p2,1+p3,p4,p5,ck,false⟩
theorem Gs (l0 l1 l2 l3 l4:Int):∃c,If c∧∀A,aH Tryz.prog 9 [.int .i64 l0,.int .i64 l1,.int .i64 l2,.int .i64 l3,.int .i64 l4] A (fun v A'=>v=c.v∧A=A'):=by
 obtain⟨p0,VN⟩:∃p0,eO l0 9=p0:=⟨_,rfl⟩
 have W7:=eU l0 9 (by omega)
 have TJ:=fun A=>eu l0 9 A (by omega) (by omega)
 rw [VN] at W7 TJ
 obtain⟨p1,EM⟩:∃p1,eO l1 8=p1:=⟨_,rfl⟩
 have W6:=eU l1 8 (by omega)
 have TI:=fun A=>eu l1 8 A (by omega) (by omega)
 rw [EM] at W6 TI
 obtain⟨p2,EL⟩:∃p2,eO l2 6=p2:=⟨_,rfl⟩
 have W5:=eU l2 6 (by omega)
 have TH:=fun A=>eu l2 6 A (by omega) (by omega)
 rw [EL] at W5 TH
 obtain⟨p3,Np⟩:∃p3,eO (IntKind.i64.wrap (l2.tdiv 7)) 8=p3:=⟨_,rfl⟩
 have W4:=eU (IntKind.i64.wrap (l2.tdiv 7)) 8 (by omega)
 have TG:=fun A=>eu (IntKind.i64.wrap (l2.tdiv 7)) 8 A (by omega) (by omega)
 rw [Np] at W4 TG
 obtain⟨p4,Kn⟩:∃p4,eO l3 3=p4:=⟨_,rfl⟩
 have W3:=eU l3 3 (by omega)
 have TF:=fun A=>eu l3 3 A (by omega) (by omega)
 rw [Kn] at W3 TF
 obtain⟨p5,No⟩:∃p5,eO (IntKind.i64.wrap (l3.tdiv 3)) 3=p5:=⟨_,rfl⟩
 have W2:=eU (IntKind.i64.wrap (l3.tdiv 3)) 3 (by omega)
 have TE:=fun A=>eu (IntKind.i64.wrap (l3.tdiv 3)) 3 A (by omega) (by omega)
 rw [No] at W2 TE
 obtain⟨p6,XH⟩:∃p6,eO l4 5=p6:=⟨_,rfl⟩
 have W1:=eU l4 5 (by omega)
 have TD:=fun A=>eu l4 5 A (by omega) (by omega)
 rw [XH] at W1 TD
 obtain⟨p7,XF⟩:∃p7,eO (IntKind.i64.wrap (l4.tdiv 5)) 4=p7:=⟨_,rfl⟩
 have W0:=eU (IntKind.i64.wrap (l4.tdiv 5)) 4 (by omega)
 have TC:=fun A=>eu (IntKind.i64.wrap (l4.tdiv 5)) 4 A (by omega) (by omega)
 rw [XF] at W0 TC
 obtain⟨p8,XE⟩:∃p8,eO (IntKind.i64.wrap (l3.tdiv 9)) (4+p0-2+1)=p8:=⟨_,rfl⟩
 have WZ:=eU (IntKind.i64.wrap (l3.tdiv 9)) (4+p0-2+1) (by omega)
 have Rm:=fun A=>eu (IntKind.i64.wrap (l3.tdiv 9)) (4+p0-2+1) A (by omega) (by omega)
 rw [XE] at WZ Rm
 obtain⟨n0,BE⟩:∃n0,(if 2<p8 then 2 else p8)=n0:=⟨_,rfl⟩
 have XU:0≤n0∧n0≤2∧n0≤4+p0-2:=by
  rw [←BE]
  split<;>omega
 obtain⟨m1,DK⟩:∃m1,(4+p0-2-n0).fdiv 2=m1:=⟨_,rfl⟩
 have XW:0≤m1∧m1*2≤4+p0-2-n0∧m1≤20:=by
  have h9:(4+p0-2-n0).fdiv 2=(4+p0-2-n0) / 2:=Int.fdiv_eq_ediv_of_nonneg _ (by omega)
  rw [h9] at DK
  omega
 have SX:IntKind.i64.wrap (m1+1)=m1+1:=ak (by omega) (by omega)
 obtain⟨SI,T9⟩:∃SI,eO (IntKind.i64.wrap (l3.tdiv 29)) (m1+1)=SI:=⟨_,rfl⟩
 have Tt:=eU (IntKind.i64.wrap (l3.tdiv 29)) (m1+1) (by omega)
 have Ph:=fun A=>eu (IntKind.i64.wrap (l3.tdiv 29)) (m1+1) A (by omega) (by omega)
 rw [T9] at Tt Ph
 obtain⟨n1,qh⟩:∃n1,(if 2<SI then 2 else SI)=n1:=⟨_,rfl⟩
 have XT:0≤n1∧n1≤2∧n1≤m1:=by
  rw [←qh]
  split<;>omega
 obtain⟨ck,zJ⟩:∃ck,(if p6=0 then p7 else 50)=ck:=⟨_,rfl⟩
 have Yh:0≤ck∧ck≤50:=by
  rw [←zJ]
  split<;>omega
 have key:∀A:AW,A.Wf→aH Tryz.prog 9 [.int .i64 l0,.int .i64 l1,.int .i64 l2,.int .i64 l3,.int .i64 l4] A (fun v A'=>v=(zq p0 p1 p2 p3 p4 p5 ck n0 n1).v∧A.le A'):=by
  intro A hw
  refine ab Tryz.func9 rfl (by kernel_rfl) fun _=>?_
  by_cases h:p6=0
  · rw [if_pos h] at zJ
    revert hw;refine W (Kw (od Iw) @TJ @TI @TH @TG @TF @TE @TD @TC @Rm) (J8 h BE qh DK SX @Oh @AW.aa @af.eq_1) (J1 ?_)<;>unhygienic intros
    refine bZ 3 ?_
    revert hw;(repeat first|clear hw|revert hc|revert zn|revert zA|revert R|revert K);refine W (J3 (od Iw) @Rm @Ph) (J8 h BE qh DK SX @Oh @AW.aa @af.eq_1) (J1 ?_)<;>unhygienic intros
    refine⟨_,by simp [AW.aa];rfl,by simp [zq,bG.v,BE,qh,zJ,AW.aa],?_⟩
    repeat' (first|exact AW.le.refl _|refine AW.le.set ?_ (by simp<;>omega) _|refine AW.le.trans ?_ (AW.le.alloc _ _))
  · rw [if_neg h] at zJ
    revert hw;(repeat first|clear hw|revert hc|revert zn|revert zA|revert R|revert K);refine W (Kw (od Iw) @TJ @TI @TH @TG @TF @TE @TD @TC @Rm) (J8 h BE qh DK SX @Oh @AW.aa @af.eq_1) (J1 ?_)<;>unhygienic intros
    refine bZ 3 ?_
    revert hw;(repeat first|clear hw|revert hc|revert zn|revert zA|revert R|revert K);refine W (J3 (od Iw) @Rm @Ph) (J8 h BE qh DK SX @Oh @AW.aa @af.eq_1) (J1 ?_)<;>unhygienic intros
    refine⟨_,by simp [AW.aa];rfl,by simp [zq,bG.v,BE,qh,zJ,AW.aa],?_⟩
    repeat' (first|exact AW.le.refl _|refine AW.le.set ?_ (by simp<;>omega) _|refine AW.le.trans ?_ (AW.le.alloc _ _))
 refine⟨zq p0 p1 p2 p3 p4 p5 ck n0 n1,?_,fun A=>aH.GT (V:=(zq p0 p1 p2 p3 p4 p5 ck n0 n1).v) (eg.agg (by simp [zq])) (fun hw=>key A hw) (by kernel_rfl)⟩
 refine⟨⟨?_,?_,?_,?_,?_,?_,?_,?_,?_,?_,?_,?_,?_,?_⟩,?_,?_,?_,?_,?_,?_,?_,?_,?_,?_,?_,?_⟩<;>(simp only [zq,bG.nb,bG.hw]<;>omega)
end Go.Stx
