/-
 The document's forms.
-/
import Derived.Test.YtpealkdhmnomhaaGreatDoorG02
set_option linter.unusedVariables false
set_option linter.unusedSimpArgs false
set_option linter.unusedSectionVars false
set_option maxRecDepth 20000
set_option maxHeartbeats 4000000
open Bool renaming false_eq_true->Zg
open Go.IntKind renaming i64->qY
open Go.Proofs.Tryz renaming prog->qV
open Go.Stx.AW renaming le->Zk
open Go.Stx.AW.le renaming alloc->qW
open Int renaming toNat_natCast->ZQ
open List renaming all_eq_true->Zr,mem_range->Zn
open Bool renaming true->qg
open Go renaming Value->qd
open Go.IntKind renaming i64->qa
open Go.Value renaming bool->qn,int->qb,string->qE,tuple->qA
open Option renaming none->qh,some->qc
namespace Go.Stx
open Go Go.Proofs
attribute [local irreducible] TW bI cM aV aB aL cU dh
section
namespace TGFbC
theorem nO [Gl] {A:AW} {L:List It} {T:Prop} (hS:aj A L) (hw:A.Wf) (h':(aW A L/\bz A L/\cd L)=T:=by first|(dsimp only [aa,ah,aW,bz,cd,ff];done)|exact rfl):T:=h'▸hS.eX hw
end TGFbC
open TGFbC
variable [Gl]
def eu:Nat->List UInt8
 | 1=>[114,105]|2=>[114,115]|3=>[114,115,116,102]|4=>[106]|5=>[114,106]|6=>[114,106]|7=>[97]
 | 10=>[114,115,105]|11=>[114,115,105]|12=>[114,115,105]|13=>[114,115,105]|14=>[114,99]|15=>[114]|17=>[114]
 | _=>[]
theorem gi (hn:Gl.N=4) {k:Nat} (hk:k<18) (A:AW):aB qV 136 [qb qa k] A (λu A'=>u=qE (bs (eu k))/\A=A'):=by
 refine aB.tF (dB.kS rfl) (λhw=>?_) Ye;refine aK Tryz.func136 λ_=>?_;have:k=0\/k=1\/k=2\/k=3\/k=4\/k=5\/k=6\/k=7\/k=8\/k=9\/k=10\/k=11\/k=12\/k=13\/k=14\/k=15\/k=16\/k=17:=Ya
 rcases this with rfl|rfl|rfl|rfl|rfl|rfl|rfl|rfl|rfl|rfl|rfl|rfl|rfl|rfl|rfl|rfl|rfl|rfl
 all_goals(
  all_goals(revert hw;refine W cx (J1 @AW.ab) ?_<;>unhygienic intros)
  exact⟨_,by rfl,rfl,qW A _⟩)
end
section
abbrev iY:List (Nat×Nat):=[(0,0),(1,0),(2,0),(3,2),(4,2),(5,0),(6,0),(7,0),(8,0),(9,0),(10,2),(11,2),(12,0),(13,0),(14,0),(15,0),(16,0),(17,0),(18,2),(19,2),(20,0),(21,0)]
namespace TGFbD
theorem nO [Gl] {A:AW} {L:List It} {T:Prop} (hS:aj A L) (hw:A.Wf) (h':(aW A L/\bz A L/\cd L)=T:=by first|(dsimp only [aa,ah,aW,bz,cd,ff];done)|exact rfl):T:=h'▸hS.eX hw
end TGFbD
open TGFbD
variable [Gl]
theorem letters {k:Nat} (hk:k<18):decide ((114:UInt8)∈eu k)=mZ k/\decide ((115:UInt8)∈eu k)=lj k/\decide ((116:UInt8)∈eu k)=mY k:=by
 have h:((List.range 18).all λk=>(decide ((114:UInt8)∈eu k) == mZ k) && (decide ((115:UInt8)∈eu k) == lj k) && (decide ((116:UInt8)∈eu k) == mY k))=qg:=Ye
 have:=Zr.1 h k (Zn.2 hk);simp only [Bool.and_eq_true,beq_iff_eq] at this;exact⟨this.1.1,this.1.2,this.2⟩
theorem Gr {k:Nat} (hk:k<18) (cy:Int):fG k cy =
 if decide ((105:UInt8)∈eu k)=qg then qg else
 if decide ((102:UInt8)∈eu k)=qg then decide (0<=cy) && decide (cy<=21) else
 if decide ((106:UInt8)∈eu k)=qg then decide (0<=cy) && decide (cy<=64) else
 if decide ((97:UInt8)∈eu k)=qg then decide (1<=cy) && decide (cy<=8) else
 if decide ((99:UInt8)∈eu k)=qg then decide (0<=cy) && decide (cy<=3) else decide (0<=cy) && decide (cy<=0):=by
 have h:k=0\/k=1\/k=2\/k=3\/k=4\/k=5\/k=6\/k=7\/k=8\/k=9\/k=10\/k=11\/k=12\/k=13\/k=14\/k=15\/k=16\/k=17:=Ya
 rcases h with rfl|rfl|rfl|rfl|rfl|rfl|rfl|rfl|rfl|rfl|rfl|rfl|rfl|rfl|rfl|rfl|rfl|rfl
 all_goals
  simp [fG,eu]
  try(rw [Bool.eq_iff_iff];simp;omega)
theorem yh (hn:Gl.N=4) (x:bq) (A:AW):aB qV 100 [.agg (az x).toArray] A (λu A'=>u=qb qa (cW x)/\A=A'):=by
 refine aB.tF (V:=qb qa (cW x)) Yb (λhw=>?_) Ye;refine aK Tryz.func100 λ_=>?_;obtain⟨op,a,b,c,cy⟩:=x;by_cases h1:op<0
 . have he:cW ⟨op,a,b,c,cy⟩=10:=(by unfold cW;rw [ay (.inl h1)]);rw [he];refine W (J1 (od iY)) (J3 h1 bC @az.eq_1) ?_<;>intros
   all_goals(simp [aS,aX,bA,aQ,aR]<;>exact qW A _)
 by_cases h2:18<=op
 . have he:cW ⟨op,a,b,c,cy⟩=10:=(by unfold cW;rw [ay (.inr h2)]);rw [he];refine W (J1 (od iY)) (J4 h1 h2 bC @az.eq_1) ?_<;>intros
   all_goals(simp [aS,aX,bA,aQ,aR]<;>exact qW A _)
 obtain⟨k,rfl⟩:∃k:Nat,op=k:=⟨op.toNat,by omega⟩;have hk:k<18:=Ya
 obtain⟨l1,l2,l3⟩:=letters hk;have Tm:=Gr hk cy;have hs:(eu k).length<2^30:=by unfold eu;split<;>simp
 have c1:∀A,aB qV 138 [qE (bs (eu k)),qb .u8 114] A (λu A'=>u=qn (mZ k)/\A=A'):=λA=>by rw [<-l1];exact oI (eu k) 114 A hs
 have c2:∀A,aB qV 138 [qE (bs (eu k)),qb .u8 115] A (λu A'=>u=qn (lj k)/\A=A'):=λA=>by rw [<-l2];exact oI (eu k) 115 A hs
 have c3:∀A,aB qV 138 [qE (bs (eu k)),qb .u8 116] A (λu A'=>u=qn (mY k)/\A=A'):=λA=>by rw [<-l3];exact oI (eu k) 116 A hs
 generalize Au:decide ((105:UInt8)∈eu k)=d1 at Tm;generalize H2:decide ((102:UInt8)∈eu k)=d2 at Tm;generalize Up:decide ((106:UInt8)∈eu k)=d3 at Tm;generalize hd4:decide ((97:UInt8)∈eu k)=d4 at Tm;generalize Uo:decide ((99:UInt8)∈eu k)=d5 at Tm;have e1:∀A,aB qV 138 [qE (bs (eu k)),qb .u8 105] A (λu A'=>u=qn d1/\A=A'):=λA=>by rw [<-Au];exact oI (eu k) 105 A hs
 have e2:∀A,aB qV 138 [qE (bs (eu k)),qb .u8 102] A (λu A'=>u=qn d2/\A=A'):=λA=>by rw [<-H2];exact oI (eu k) 102 A hs
 have e3:∀A,aB qV 138 [qE (bs (eu k)),qb .u8 106] A (λu A'=>u=qn d3/\A=A'):=λA=>by rw [<-Up];exact oI (eu k) 106 A hs
 have e4:∀A,aB qV 138 [qE (bs (eu k)),qb .u8 97] A (λu A'=>u=qn d4/\A=A'):=λA=>by rw [<-hd4];exact oI (eu k) 97 A hs
 have e5:∀A,aB qV 138 [qE (bs (eu k)),qb .u8 99] A (λu A'=>u=qn d5/\A=A'):=λA=>by rw [<-Uo];exact oI (eu k) 99 A hs
 have j9:¬((18:Int)<=k):=Ya
 have he:cW ⟨k,a,b,c,cy⟩=if (ip a (mZ k) && ip b (lj k) && ip c (mY k)) && fG k cy then 0 else 11:=by unfold cW;rw [aw Yg]
 rw [he,Tm];generalize OP:ip a (mZ k)=ra;generalize GP:ip b (lj k)=rb;generalize zU:ip c (mY k)=rc;have g1:∀A,aB qV 137 [qb qa a,qn (mZ k)] A (λu A'=>u=qn ra/\A=A'):=λA=>by rw [<-OP];exact uB a (mZ k) A
 have g2:∀A,aB qV 137 [qb qa b,qn (lj k)] A (λu A'=>u=qn rb/\A=A'):=λA=>by rw [<-GP];exact uB b (lj k) A
 have g3:∀A,aB qV 137 [qb qa c,qn (mY k)] A (λu A'=>u=qn rc/\A=A'):=λA=>by rw [<-zU];exact uB c (mY k) A
 cases ra with
 | false=>
   refine W (J8 (od iY) (gi hn hk) @c1 @c2 @c3 @g1 @g2 @g3) (J3 j9 bC @az.eq_1) ?_<;>intros
   all_goals(simp [aS,aX,bA,aQ,aR]<;>exact qW A _)
 | true=>cases rb with
   | false=>
     refine Wu (mW (od iY) (gi hn hk) @c1 @c2 @c3 @g1 @g2 @g3 @e1 @e2 @e3 @e4 @e5) (J3 j9 bC @az.eq_1) ?_<;>intros
     all_goals(simp [aS,aX,bA,aQ,aR]<;>exact qW A _)
   | true=>cases rc with
     | false=>
       refine Wu (mW (od iY) (gi hn hk) @c1 @c2 @c3 @g1 @g2 @g3 @e1 @e2 @e3 @e4 @e5) (J3 j9 bC @az.eq_1) ?_<;>intros
       all_goals(simp [aS,aX,bA,aQ,aR]<;>exact qW A _)
     | true=>cases d1 with
       | true=>
         refine Wu (mW (od iY) (gi hn hk) @c1 @c2 @c3 @g1 @g2 @g3 @e1 @e2 @e3 @e4 @e5) (J3 j9 bC @az.eq_1) ?_<;>intros
         all_goals(simp [aS,aX,bA,aQ,aR]<;>exact qW A _)
       | false=>cases d2 with
         | true=>
           by_cases q1:cy<0
           . have q3:¬(0<=cy):=Ya;refine Wu (mW (od iY) (gi hn hk) @c1 @c2 @c3 @g1 @g2 @g3 @e1 @e2 @e3 @e4 @e5) (J5 j9 q1 q3 bC @az.eq_1) ?_<;>intros
             all_goals(simp [aS,aX,bA,aQ,aR,q3]<;>exact qW A _)
           have q3:0<=cy:=Ya;by_cases q2:21<cy
           . have q4:¬(cy<=21):=Ya;refine Wu (mW (od iY) (gi hn hk) @c1 @c2 @c3 @g1 @g2 @g3 @e1 @e2 @e3 @e4 @e5) (J7 j9 q1 q2 q3 q4 bC @az.eq_1) ?_<;>intros
             all_goals(simp [aS,aX,bA,aQ,aR,q3,q4]<;>exact qW A _)
           have q4:cy<=21:=Ya;refine Wu (mW (od iY) (gi hn hk) @c1 @c2 @c3 @g1 @g2 @g3 @e1 @e2 @e3 @e4 @e5) (J7 j9 q1 q2 q3 q4 bC @az.eq_1) ?_<;>intros
           all_goals(simp [aX,bA,aQ,aR,q3,q4]<;>exact qW A _)
         | false=>cases d3 with
           | true=>
             by_cases q1:cy<0
             . have q3:¬(0<=cy):=Ya;refine Wu (mW (od iY) (gi hn hk) @c1 @c2 @c3 @g1 @g2 @g3 @e1 @e2 @e3 @e4 @e5) (J5 j9 q1 q3 bC @az.eq_1) ?_<;>intros
               all_goals(simp [aS,aX,bA,aQ,aR,q3]<;>exact qW A _)
             have q3:0<=cy:=Ya;by_cases q2:64<cy
             . have q4:¬(cy<=64):=Ya;refine Wu (mW (od iY) (gi hn hk) @c1 @c2 @c3 @g1 @g2 @g3 @e1 @e2 @e3 @e4 @e5) (J7 j9 q1 q2 q3 q4 bC @az.eq_1) ?_<;>intros
               all_goals(simp [aS,aX,bA,aQ,aR,q3,q4]<;>exact qW A _)
             have q4:cy<=64:=Ya;refine Wu (mW (od iY) (gi hn hk) @c1 @c2 @c3 @g1 @g2 @g3 @e1 @e2 @e3 @e4 @e5) (J7 j9 q1 q2 q3 q4 bC @az.eq_1) ?_<;>intros
             all_goals(simp [aX,bA,aQ,aR,q3,q4]<;>exact qW A _)
           | false=>cases d4 with
             | true=>
               by_cases q1:cy<1
               . have q3:¬(1<=cy):=Ya;refine Wu (mW (od iY) (gi hn hk) @c1 @c2 @c3 @g1 @g2 @g3 @e1 @e2 @e3 @e4 @e5) (J5 j9 q1 q3 bC @az.eq_1) ?_<;>intros
                 all_goals(simp [aS,aX,bA,aQ,aR,q3]<;>exact qW A _)
               have q3:1<=cy:=Ya;by_cases q2:8<cy
               . have q4:¬(cy<=8):=Ya;refine Wu (mW (od iY) (gi hn hk) @c1 @c2 @c3 @g1 @g2 @g3 @e1 @e2 @e3 @e4 @e5) (J7 j9 q1 q2 q3 q4 bC @az.eq_1) ?_<;>intros
                 all_goals(simp [aS,aX,bA,aQ,aR,q3,q4]<;>exact qW A _)
               have q4:cy<=8:=Ya;refine Wu (mW (od iY) (gi hn hk) @c1 @c2 @c3 @g1 @g2 @g3 @e1 @e2 @e3 @e4 @e5) (J7 j9 q1 q2 q3 q4 bC @az.eq_1) ?_<;>intros
               all_goals(simp [aX,bA,aQ,aR,q3,q4]<;>exact qW A _)
             | false=>cases d5 with
               | true=>
                 by_cases q1:cy<0
                 . have q3:¬(0<=cy):=Ya;refine Wu (mW (od iY) (gi hn hk) @c1 @c2 @c3 @g1 @g2 @g3 @e1 @e2 @e3 @e4 @e5) (J5 j9 q1 q3 bC @az.eq_1) ?_<;>intros
                   all_goals(simp [aS,aX,bA,aQ,aR,q3]<;>exact qW A _)
                 have q3:0<=cy:=Ya;by_cases q2:3<cy
                 . have q4:¬(cy<=3):=Ya;refine Wu (mW (od iY) (gi hn hk) @c1 @c2 @c3 @g1 @g2 @g3 @e1 @e2 @e3 @e4 @e5) (J7 j9 q1 q2 q3 q4 bC @az.eq_1) ?_<;>intros
                   all_goals(simp [aS,aX,bA,aQ,aR,q3,q4]<;>exact qW A _)
                 have q4:cy<=3:=Ya;refine Wu (mW (od iY) (gi hn hk) @c1 @c2 @c3 @g1 @g2 @g3 @e1 @e2 @e3 @e4 @e5) (J7 j9 q1 q2 q3 q4 bC @az.eq_1) ?_<;>intros
                 all_goals(simp [aX,bA,aQ,aR,q3,q4]<;>exact qW A _)
               | false=>
                 by_cases q1:cy<0
                 . have q3:¬(0<=cy):=Ya;refine Wu (mW (od iY) (gi hn hk) @c1 @c2 @c3 @g1 @g2 @g3 @e1 @e2 @e3 @e4 @e5) (J5 j9 q1 q3 bC @az.eq_1) ?_<;>intros
                   all_goals(simp [aS,aX,bA,aQ,aR,q3]<;>exact qW A _)
                 have q3:0<=cy:=Ya;by_cases q2:0<cy
                 . have q4:¬(cy<=0):=Ya;refine Wu (mW (od iY) (gi hn hk) @c1 @c2 @c3 @g1 @g2 @g3 @e1 @e2 @e3 @e4 @e5) (J7 j9 q1 q2 q3 q4 bC @az.eq_1) ?_<;>intros
                   all_goals(simp [aS,aX,bA,aQ,aR,q3,q4]<;>exact qW A _)
                 have q4:cy<=0:=Ya;refine Wu (mW (od iY) (gi hn hk) @c1 @c2 @c3 @g1 @g2 @g3 @e1 @e2 @e3 @e4 @e5) (J7 j9 q1 q2 q3 q4 bC @az.eq_1) ?_<;>intros
                 all_goals(simp [aX,bA,aQ,aR,q3,q4]<;>exact qW A _)
end
section
namespace TGFbE
theorem nO [Gl] {A:AW} {L:List It} {T:Prop} (hS:aj A L) (hw:A.Wf) (h':(aW A L/\bz A L/\cd L)=T:=by first|(dsimp only [aa,ah,aW,bz,cd,ff];done)|exact rfl):T:=h'▸hS.eX hw
end TGFbE
open TGFbE
variable [Gl]
theorem Iy (hn:Gl.N=4) (x:bq) (A:AW):aB qV 101 [.agg (az x).toArray] A (λu A'=>u=qb qa (bH x)/\A=A'):=by
 refine aB.tF (V:=qb qa (bH x)) Yb (λhw=>?_) Ye;refine aK Tryz.func101 λ_=>?_;obtain⟨op,a,b,c,cy⟩:=x;have mg:=λA=>yh hn ⟨op,a,b,c,cy⟩ A;simp only [az] at mg;by_cases h0:cW ⟨op,a,b,c,cy⟩=0
 . rw [h0] at mg;by_cases o8:op=8
   . subst o8;have he:bH ⟨8,a,b,c,cy⟩=1:=Yj;rw [he];refine W (J1 @mg) (J2 @AW.ab @az.eq_1) ?_<;>intros
     all_goals (simp [aS,aX,bA,aQ,aR]<;>exact qW A _)
   by_cases o9:op=9
   . subst o9;have he:bH ⟨9,a,b,c,cy⟩=1:=Yj;rw [he];refine W (J1 @mg) (J3 o8 @AW.ab @az.eq_1) ?_<;>intros
     all_goals (simp [aS,aX,bA,aQ,aR]<;>exact qW A _)
   by_cases oE:op=10
   . subst oE;have he:bH ⟨10,a,b,c,cy⟩=1:=Yj;rw [he];refine W (J1 @mg) (J4 o8 o9 @AW.ab @az.eq_1) ?_<;>intros
     all_goals (simp [aS,aX,bA,aQ,aR]<;>exact qW A _)
   by_cases o11:op=11
   . subst o11;have he:bH ⟨11,a,b,c,cy⟩=1:=Yj;rw [he];refine W (J1 @mg) (J5 o8 o9 oE @AW.ab @az.eq_1) ?_<;>intros
     all_goals (simp [aS,aX,bA,aQ,aR]<;>exact qW A _)
   by_cases o14:op=14
   . subst o14;have he:bH ⟨14,a,b,c,cy⟩=1:=Yj;rw [he];refine W (J1 @mg) (J6 o8 o9 oE o11 @AW.ab @az.eq_1) ?_<;>intros
     all_goals (simp [aS,aX,bA,aQ,aR]<;>exact qW A _)
   by_cases o15:op=15
   . subst o15;have he:bH ⟨15,a,b,c,cy⟩=1:=Yj;rw [he];refine W (J1 @mg) (J7 o8 o9 oE o11 o14 @AW.ab @az.eq_1) ?_<;>intros
     all_goals (simp [aS,aX,bA,aQ,aR]<;>exact qW A _)
   by_cases o7:op=7
   . subst o7;have he:bH ⟨7,a,b,c,cy⟩=2:=Yj;rw [he];refine W (J1 @mg) (J8 o8 o9 oE o11 o14 o15 @AW.ab @az.eq_1) ?_<;>intros
     all_goals (simp [aS,aX,bA,aQ,aR]<;>exact qW A _)
   by_cases o12:op=12
   . subst o12;have he:bH ⟨12,a,b,c,cy⟩=2:=Yj;rw [he];refine W (J1 @mg) (J9 o8 o9 oE o11 o14 o15 o7 @AW.ab @az.eq_1) ?_<;>intros
     all_goals (simp [aS,aX,bA,aQ,aR]<;>exact qW A _)
   by_cases o13:op=13
   . subst o13;have he:bH ⟨13,a,b,c,cy⟩=2:=Yj;rw [he];refine W (J1 @mg) (E5 o8 o9 oE o11 o14 o15 o7 o12 @AW.ab @az.eq_1) ?_<;>intros
     all_goals (simp [aS,aX,bA,aQ,aR]<;>exact qW A _)
   by_cases o16:op=16
   . subst o16;have he:bH ⟨16,a,b,c,cy⟩=2:=Yj;rw [he];refine W (J1 @mg) (H7 o8 o9 oE o11 o14 o15 o7 o12 o13 @AW.ab @az.eq_1) ?_<;>intros
     all_goals (simp [aS,aX,bA,aQ,aR]<;>exact qW A _)
   by_cases o17:op=17
   . subst o17;have he:bH ⟨17,a,b,c,cy⟩=2:=Yj;rw [he];refine W (J1 @mg) (vZ o8 o9 oE o11 o14 o15 o7 o12 o13 o16 @AW.ab @az.eq_1) ?_<;>intros
     all_goals (simp [aS,aX,bA,aQ,aR]<;>exact qW A _)
   have he:bH ⟨op,a,b,c,cy⟩=0:=(by unfold bH;rw [ay h0];dsimp only;rw [aw Ya,aw Ya]);rw [he];refine W (J1 @mg) (mW o8 o9 oE o11 o14 o15 o7 o12 o13 o16 o17 @AW.ab @az.eq_1) ?_<;>intros
   all_goals (simp [aX,bA,aQ,aR]<;>exact qW A _)
 have he:bH ⟨op,a,b,c,cy⟩=0:=by unfold bH;rw [aw h0]
 rw [he];refine W (J1 @mg) (J3 h0 @AW.ab @az.eq_1) ?_<;>intros
 all_goals (simp [aS,aX,bA,aQ,aR]<;>exact qW A _)
theorem Ix (hn:Gl.N=4) (x:bq) (A:AW):aB qV 102 [.agg (az x).toArray] A (λu A'=>u=qA #[qb qa ((eL x).getD 0),qn (eL x).isSome]/\A=A'):=by
 refine aB.tF (V:=qA #[qb qa ((eL x).getD 0),qn (eL x).isSome]) (dB.tuple Yb) (λhw=>?_) Ye;refine aK Tryz.func102 λ_=>?_;obtain⟨op,a,b,c,cy⟩:=x;have mg:=λA=>yh hn ⟨op,a,b,c,cy⟩ A;simp only [az] at mg;by_cases h0:cW ⟨op,a,b,c,cy⟩=0
 . rw [h0] at mg;have hr:0<=op/\op<18:=by
    unfold cW at h0;dsimp only at h0;split at h0;cases h0;omega
   obtain⟨k,hk⟩:∃k:Nat,op=k:=⟨op.toNat,by omega⟩;subst hk;have hk18:k<18:=Ya;have hs:(eu k).length<2^30:=(by unfold eu;split<;>simp);have hj:decide ((106:UInt8)∈eu k)=decide (k=4\/k=5\/k=6):=by
    have h:((List.range 18).all λk=>decide ((106:UInt8)∈eu k) == decide (k=4\/k=5\/k=6))=qg:=Ye
    simpa using Zr.1 h k (Zn.2 hk18)
   have c1:∀A,aB qV 138 [qE (bs (eu k)),qb .u8 106] A (λu A'=>u=qn (decide (k=4\/k=5\/k=6))/\A=A'):=λA=>by rw [<-hj];exact oI (eu k) 106 A hs
   by_cases h4:k=4\/k=5\/k=6
   . have he:eL ⟨(k:Int),a,b,c,cy⟩=qc cy:=YY;rw [he];rw [decide_eq_true h4] at c1;refine W (J3 @mg (gi hn hk18) @c1) (J2 @AW.ab @az.eq_1) ?_<;>intros
     all_goals (simp [aX,bA,aQ,aR]<;>exact qW A _)
   have he:eL ⟨(k:Int),a,b,c,cy⟩=qh:=Xs;rw [he];rw [decide_eq_false h4] at c1;refine W (J3 @mg (gi hn hk18) @c1) (J2 @AW.ab @az.eq_1) ?_<;>intros
   all_goals (simp [aS,aX,bA,aQ,aR]<;>exact qW A _)
 have he:eL ⟨op,a,b,c,cy⟩=qh:=by unfold eL;rw [aw (λh=>h0 h.1)]
 rw [he];refine W (J1 @mg) (J3 h0 @AW.ab @az.eq_1) ?_<;>intros
 all_goals (simp [aS,aX,bA,aQ,aR]<;>exact qW A _)
end
section
namespace TGFbF
theorem nO [Gl] {A:AW} {L:List It} {T:Prop} (hS:aj A L) (hw:A.Wf) (h':(aW A L/\bz A L/\cd L)=T:=by first|(dsimp only [aa,ah,aW,bz,cd,ff];done)|exact rfl):T:=h'▸hS.eX hw
end TGFbF
open TGFbF
variable [Gl]
def fV:Option Nat->Int
 | some b=>b
 | none=>-1
def Ai:Option (Nat×Nat)->qd
 | some (b,c)=>qA #[qb qa b,qb qa c]
 | none=>qA #[qb qa (-1),qb qa (-1)]
theorem Js (v:qd) (p:List bq) (t:Nat) (A:AW) (h:li A v p) (hl:p.length<2^30) (ht:t<=p.length) :
 aB qV 139 [v,qb qa t] A (λu A'=>u=Ai (D4 p t)/\A=A'):=by
 refine aK Tryz.func139 λhw=>?_;obtain⟨o,c,rfl,_⟩:=h.bR;revert hw;refine W cx cx ?_<;>(unhygienic intros)
 refine df (λk fr A'=>A=A'/\∃(i:Nat) (b:Option Nat),k=p.length-i/\i<=p.length/\fr 0=.slice o p.length c/\fr 1=qb qa t/\fr 6=qb qa (fV b)/\fr 7=qb qa i/\
  D4 p t=kQ p t (p.length-i) i b) p.length ?_ ?_
 exact⟨rfl,0,qh,rfl,Nat.zero_le _,rfl,rfl,rfl,rfl,rfl⟩;rintro k fr A' ⟨rfl,i,b,rfl,hi,h0,h1,h6,h7,he⟩;by_cases bY:i<p.length
 . obtain⟨q,bS,rfl,bO,fA,hcell⟩:=h.at bY;have nq:=yn hcell;have gC:=zd (i:=i);have ho:eH p i=p[i].op:=mE (List.getElem?_eq_getElem bY);have dw:p.length-i=(p.length-(i+1))+1:=Ya;rw [dw] at he;unfold kQ at he;cases b with
   | none=>
     simp only [fV] at h6;simp only [ho] at he;by_cases o7:p[i].op=7;rw [ay o7] at he;refine aT ?_;refine W cx (E5 h0 h1 h6 h7 bO nq fA bY gC o7) ?_<;>intros;refine⟨p.length-(i+1),by omega,rfl,i+1,qc i,rfl,by omega,?_,?_,?_,?_,he⟩<;>simp [h0,h1,fV];rw [aw o7] at he;refine aT ?_;refine W cx (E5 h0 h1 h6 h7 bO nq fA bY gC o7) ?_<;>intros;refine⟨p.length-(i+1),by omega,rfl,i+1,qh,rfl,by omega,?_,?_,?_,?_,he⟩<;>simp [h0,h1,h6,fV]
   | some d=>
     simp only [fV] at h6;simp only [ho] at he;have xC:¬((d:Int)<0):=Ya;by_cases o8:p[i].op=8
     . rw [ay o8] at he;by_cases hc:d<=t/\t<=i
       . rw [ay hc] at he;have JP:=hc.1;have yx:=hc.2;refine aT ?_;refine W cx (mW h0 h1 h6 h7 bO nq fA bY gC o8 xC JP yx) ?_<;>intros
         all_goals simp [cZ,aS,aX,bA,aQ,aR,he,Ai]
       rw [aw hc] at he;by_cases JP:d<=t;have yx:¬t<=i:=λx=>hc ⟨JP,x⟩;refine aT ?_;refine W cx (mW h0 h1 h6 h7 bO nq fA bY gC o8 xC JP yx) ?_<;>intros;refine⟨p.length-(i+1),by omega,rfl,i+1,qh,rfl,by omega,?_,?_,?_,?_,he⟩<;>simp [h0,h1,fV];refine aT ?_;refine W cx (vZ h0 h1 h6 h7 bO nq fA bY gC o8 xC JP) ?_<;>intros;refine⟨p.length-(i+1),by omega,rfl,i+1,qh,rfl,by omega,?_,?_,?_,?_,he⟩<;>simp [h0,h1,fV]
     rw [aw o8] at he;refine aT ?_;refine W cx (H7 h0 h1 h6 h7 bO nq fA bY gC o8 xC) ?_<;>intros;refine⟨p.length-(i+1),by omega,rfl,i+1,qc d,rfl,by omega,?_,?_,?_,?_,he⟩<;>simp [h0,h1,h6,fV]
 have tD:i=p.length:=Ya
 subst tD;rw [Nat.sub_self] at he;unfold kQ at he;cases b with
 | none=>
   simp only [fV] at h6;refine aT ?_;refine W cx (J5 h0 h1 h6 h7 bY) ?_<;>intros
   all_goals simp [aX,bA,aQ,aR,he,Ai]
 | some d=>
   simp only [fV] at h6;have xC:¬((d:Int)<0):=Ya;have Au:(0:Int)<=d:=Ya;simp only at he;by_cases JP:d<=t
   . by_cases yx:t<p.length
     . rw [ay ⟨JP,yx⟩] at he;refine aT ?_;refine W cx (J9 h0 h1 h6 h7 bY xC Au JP yx) ?_<;>intros
       all_goals simp [aS,aX,bA,aQ,aR,he,Ai]
     rw [aw (λx=>yx x.2)] at he;refine aT ?_;refine W cx (J9 h0 h1 h6 h7 bY xC Au JP yx) ?_<;>intros
     all_goals simp [aX,bA,aQ,aR,he,Ai]
   rw [aw (λx=>JP x.1)] at he;refine aT ?_;refine W cx (J8 h0 h1 h6 h7 bY xC Au JP) ?_<;>intros
   all_goals simp [aX,bA,aQ,aR,he,Ai]
end
section
namespace TGFbG
theorem nO [Gl] {A:AW} {L:List It} {T:Prop} (hS:aj A L) (hw:A.Wf) (h':(aW A L/\bz A L/\cd L)=T:=by first|(dsimp only [aa,ah,aW,bz,cd,ff];done)|exact rfl):T:=h'▸hS.eX hw
end TGFbG
open TGFbG
variable [Gl]
theorem KQ (v:qd) (p:List bq) (k t:Nat) (A:AW) (h:li A v p) (hl:p.length<2^30) (hk:k<=p.length) :
 aB qV 103 [v,qb qa k,qb qa t] A (λu A'=>u=qn (iB p k t)/\A=A'):=by
 refine aK Tryz.func103 λhw=>?_;obtain⟨o,c,rfl,_⟩:=h.bR;by_cases h1:p.length<t
 . have he:iB p k t=false:=(by unfold iB;rw [ay h1]);rw [he];refine W cx (J1 h1) ?_<;>intros
   all_goals simp [aS,aX,bA,aQ,aR]
 have ht:t<=p.length:=Ya
 have c1:=Js _ p k A h hl hk;have c2:=Js _ p t A h hl ht;cases hs:D4 p k with
 | some bc=>
   obtain⟨b,d⟩:=bc;have hb:¬((b:Int)<0):=Ya;have lF:(0:Int)<=b:=Ya;have he:iB p k t=decide (t<=d):=(by unfold iB;rw [aw h1,hs]);rw [hs] at c1;simp only [Ai] at c1;rw [he];refine W (J1 @c1) (J3 h1 hb lF) ?_<;>intros
   all_goals simp [aS,aX,bA,aQ,aR]
 | none=>
   rw [hs] at c1;simp only [Ai] at c1;cases uI:D4 p t with
   | some bc=>
     obtain⟨b,d⟩:=bc;have hb:¬((b:Int)<0):=Ya;have lF:(0:Int)<=b:=Ya;have he:iB p k t=decide (b=t):=(by unfold iB;rw [aw h1,hs,uI]);rw [uI] at c2;simp only [Ai] at c2;rw [he];refine W (J2 @c1 @c2) (J3 h1 hb lF) ?_<;>intros
     all_goals(simp [aX,bA,aQ,aR]<;>omega)
   | none=>
     have he:iB p k t=qg:=(by unfold iB;rw [aw h1,hs,uI]);rw [uI] at c2;simp only [Ai] at c2;rw [he];refine W (J2 @c1 @c2) (J1 h1) ?_<;>intros
     all_goals simp [aX,bA,aQ,aR]
end
section
namespace TGFbH
theorem nO [Gl] {A:AW} {L:List It} {T:Prop} (hS:aj A L) (hw:A.Wf) (h':(aW A L/\bz A L/\cd L)=T:=by first|(dsimp only [aa,ah,aW,bz,cd,ff];done)|exact rfl):T:=h'▸hS.eX hw
end TGFbH
open TGFbH
variable [Gl]
theorem AW.le.lQ (A:AW) (o:eh) (o':Option eh):A.le ((A.alloc o).set A.next o'):=by
 refine⟨by simp,λi hi=>?_⟩;have h1:¬i=A.next:=Ya
 have h2:¬A.next=i:=Ya
 simp [AW.du,AW.dx,h1]
def rm (x:Nat×Int):qd:=qA #[qb qa x.1,qb qa x.2]
theorem PT {x:bq} (h:cW x=0) (h7:x.op=7):bH x=2:=by
 unfold bH;rw [ay h,aw Ya,ay Ya]
theorem PR {x:bq} (h:cW x=0) (h7:x.op=8):bH x=1:=by
 unfold bH;rw [ay h,ay Ya]
set_option maxHeartbeats 8000000 in
theorem Iz (hn:Gl.N=4) (v:qd) (p:List bq) (A:AW) (h:li A v p) :
 aB qV 69 [v] A (λu A'=>u=rm (na p)/\A=A'):=by
 refine aB.tF (V:=rm (na p)) (dB.tuple Yb) (λhw=>?_) Ye;refine aK Tryz.func69 λ_=>?_;obtain⟨o,c,rfl,_⟩:=h.bR;by_cases hL:64<p.length
 . have he:na p=(0,3):=(by unfold na;rw [ay hL]);rw [he];refine W cx (J1 hL) ?_<;>intros
   all_goals (simp [aS,aX,bA,aQ,aR,rm]<;>exact AW.le.refl A)
 have hl:p.length<2^30:=Ya
 have he:na p=jG (λk _ n=>iB p k (k+1+n.toNat)) (p.drop 0) 0 qh:=by unfold na;rw [aw hL];rfl
 generalize htgt:(λ(k:Nat) (_:Option Nat) (n:Int)=>iB p k (k+1+n.toNat))=Jl at he;have htg:∀k b n,Jl k b n=iB p k (k+1+n.toNat):=by subst htgt;exact λ_ _ _=>rfl
 generalize na p=RR at he ⊢;revert hw;refine W cx (J1 hL) ?_<;>(unhygienic intros)
 refine df (λk fr A'=>A.le A'/\∃(i:Nat) (b:Option Nat),k=p.length-i/\i<=p.length/\(∀d,b=qc d->d<i)/\fr 0=.slice o p.length c/\fr 4=qb qa (fV b)/\fr 5=qb qa i/\
  RR=jG Jl (p.drop i) i b) p.length ?_ ?_
 exact⟨AW.le.refl A,0,qh,rfl,Nat.zero_le _,by simp,rfl,rfl,rfl,he⟩;rintro k fr A' ⟨iN,i,b,rfl,hi,Aa,h0,h4,h5,he⟩;by_cases bY:i<p.length
 . obtain⟨q,bS,wW,bO,uJ,hcell⟩:=(h.le iN hw).at bY;subst wW;have gC:=zd (i:=i);have fz:p.drop i=p[i]::p.drop (i+1):=List.drop_eq_getElem_cons bY;rw [fz] at he;generalize p[i]=x at he hcell;clear fz;have cI:=λB=>yh hn x B;have cP:=λB=>Iy hn x B;have cS:=λB=>Ix hn x B;have cR:=fun(t:Nat) o o'=>KQ _ p i t _ (h.le (iN.trans (Zk.lQ A' o o')) hw) hl Ya;have x7:=PT (x:=x);have x8:=PR (x:=x);have dZ:=yn hcell;unfold jG at he;generalize hE:wH Jl i b x=E at he;generalize hN:Gt i b x=N at he;unfold wH at hE;unfold Gt at hN;obtain⟨op,a,b',c',cy⟩:=x;simp only at hE hN x7 x8 dZ;generalize bH ⟨op,a,b',c',cy⟩=pl at hE cP x7 x8;have hsk:=@wh ⟨op,a,b',c',cy⟩;generalize eL ⟨op,a,b',c',cy⟩=sk at hE cS hsk;have P9:=@GL ⟨op,a,b',c',cy⟩;simp only at hsk P9;generalize cW ⟨op,a,b',c',cy⟩=e at hE cI x7 x8 hsk P9;simp only [az] at hcell cI cP cS;have he4:p.length-i=(p.length-(i+1))+1:=Ya
   by_cases e0:e=0
   rotate_left
   . rw [aw e0] at hE;subst hE;rw [aw e0] at he;refine aT ?_;refine W (J1 @cI) (mW h0 h4 h5 bO dZ hcell uJ bY gC e0 bC @fV.eq_1 @fV.eq_2) ?_<;>intros
     all_goals (simp [cZ,aS,aX,bA,aQ,aR,rm,he]<;>exact iN.trans (Zk.lQ A' _ _))
   subst e0;rw [ay rfl] at hE;cases b with
   | none=>
     simp only [fV] at h4;by_cases ob:op=8
     . subst ob;rw [ay Yb] at hE;subst hE;rw [aw Yf] at he;refine aT ?_;refine W (J3 @cI @cP @cS) (vZ h0 h4 h5 bO dZ hcell uJ bY gC bC @fV.eq_1 @fV.eq_2) ?_<;>intros
       all_goals (simp [cZ,aS,aX,bA,aQ,aR,rm,he]<;>exact iN.trans (Zk.lQ A' _ _))
     rw [aw (by simp [ob])] at hE;by_cases pb:pl=1
     . subst pb;rw [ay Yb] at hE;subst hE;rw [aw Yf] at he;by_cases oo:op=7
       . subst oo;refine aT ?_;revert hw;(repeat revert hc);exact W (J3 @cI @cP @cS) (mW h0 h4 h5 bO dZ hcell uJ bY gC ob bC @fV.eq_1 @fV.eq_2) trivial
         all_goals first|exact iN.trans (Zk.lQ A' _ _)|(simp [cZ,aS,aX,bA,aQ,aR,rm,he]<;>exact iN.trans (Zk.lQ A' _ _))
       skip
       refine aT ?_;refine W (J3 @cI @cP @cS) (y9 h0 h4 h5 bO dZ hcell uJ bY gC ob oo bC @fV.eq_1 @fV.eq_2) ?_<;>intros
       all_goals (simp [cZ,aS,aX,bA,aQ,aR,rm,he]<;>exact iN.trans (Zk.lQ A' _ _))
     rw [aw YF] at hE;cases sk with
     | some n=>
       obtain⟨rfl,-,nq⟩:=hsk rfl;obtain⟨GR,C7⟩:=P9 rfl nq;obtain⟨m,hm⟩:∃m:Nat,n=m:=⟨n.toNat,by omega⟩;subst hm;have GN:qY.wrap (((i+1:Nat):Int)+m)=((i+1+m:Nat):Int):=af Ya Ya;have zT:qY.wrap ((i:Int)+1+m)=((i+1+m:Nat):Int):=af Ya Ya;have W6:=cR (i+1+m);simp only [htg,ZQ] at hE;have o7:¬op=7:=Ya;have o8:¬op=8:=Ya;generalize iB p i (i+1+m)=r at hE W6;by_cases po:pl=2
       . subst po;cases r with
         | false=>
           simp only [Zg,if_false] at hE;subst hE;rw [aw Yf] at he;refine aT ?_;refine W (J4 @cI @cP @cS @W6) (Mg h0 h4 h5 bO dZ hcell uJ bY gC o7 o8 GN zT bC @fV.eq_1 @fV.eq_2) ?_<;>intros
           all_goals (simp [cZ,aS,aX,bA,aQ,aR,rm,he]<;>exact iN.trans (Zk.lQ A' _ _))
         | true=>
           simp only [if_true] at hE;rw [aw o7,aw o8] at hN;subst hE;subst hN;rw [ay rfl] at he;refine aT ?_;refine W (J4 @cI @cP @cS @W6) (Mg h0 h4 h5 bO dZ hcell uJ bY gC o7 o8 GN zT bC @fV.eq_1 @fV.eq_2) ?_<;>intros;refine⟨p.length-(i+1),by omega,iN.trans (Zk.lQ A' _ _),i+1,qh,rfl,by omega,?_,?_,?_,?_,he⟩<;>simp [h0,h4,fV]<;>first|omega|(intro d hd;have:=Aa d hd;omega)|(have:=Aa;simp at this;omega)
       skip
       cases r with
       | false=>
         simp only [Zg,if_false] at hE;subst hE;rw [aw Yf] at he;refine aT ?_;refine W (J4 @cI @cP @cS @W6) (J18 h0 h4 h5 bO dZ hcell uJ bY gC o7 o8 GN zT pb po bC @fV.eq_1 @fV.eq_2) ?_<;>intros
         all_goals (simp [cZ,aS,aX,bA,aQ,aR,rm,he]<;>exact iN.trans (Zk.lQ A' _ _))
       | true=>
         simp only [if_true] at hE;rw [aw o7,aw o8] at hN;subst hE;subst hN;rw [ay rfl] at he;refine aT ?_;refine W (J4 @cI @cP @cS @W6) (J18 h0 h4 h5 bO dZ hcell uJ bY gC o7 o8 GN zT pb po bC @fV.eq_1 @fV.eq_2) ?_<;>intros;refine⟨p.length-(i+1),by omega,iN.trans (Zk.lQ A' _ _),i+1,qh,rfl,by omega,?_,?_,?_,?_,he⟩<;>simp [h0,h4,fV]<;>first|omega|(intro d hd;have:=Aa d hd;omega)|(have:=Aa;simp at this;omega)
     | none=>
       simp only at hE;subst hE;rw [ay rfl] at he;by_cases oo:op=7;have po:=x7 rfl oo;subst po;subst oo;rw [ay rfl] at hN;subst hN;refine aT ?_;refine W (J3 @cI @cP @cS) (mW h0 h4 h5 bO dZ hcell uJ bY gC ob bC @fV.eq_1 @fV.eq_2) ?_<;>intros;refine⟨p.length-(i+1),by omega,iN.trans (Zk.lQ A' _ _),i+1,qc i,rfl,by omega,?_,?_,?_,?_,he⟩<;>simp [h0,fV]<;>first|omega|(intro d hd;have:=Aa d hd;omega)|(have:=Aa;simp at this;omega)
       rw [aw oo,aw ob] at hN;subst hN;by_cases po:pl=2;subst po;refine aT ?_;refine W (J3 @cI @cP @cS) (y9 h0 h4 h5 bO dZ hcell uJ bY gC ob oo bC @fV.eq_1 @fV.eq_2) ?_<;>intros;refine⟨p.length-(i+1),by omega,iN.trans (Zk.lQ A' _ _),i+1,qh,rfl,by omega,?_,?_,?_,?_,he⟩<;>simp [h0,h4,fV]<;>first|omega|(intro d hd;have:=Aa d hd;omega)|(have:=Aa;simp at this;omega)
       skip
       refine aT ?_;refine W (J3 @cI @cP @cS) (Mg h0 h4 h5 bO dZ hcell uJ bY gC ob oo pb po bC @fV.eq_1 @fV.eq_2) ?_<;>intros;refine⟨p.length-(i+1),by omega,iN.trans (Zk.lQ A' _ _),i+1,qh,rfl,by omega,?_,?_,?_,?_,he⟩<;>simp [h0,h4,fV]<;>first|omega|(intro d hd;have:=Aa d hd;omega)|(have:=Aa;simp at this;omega)
   | some d=>
     simp only [fV] at h4;have xC:¬((d:Int)<0):=Ya;have Au:(0:Int)<=d:=Ya;have hdi:=Aa d rfl;by_cases ob:op=7
     . subst ob;rw [ay Yb] at hE;subst hE;rw [aw Yf] at he;refine aT ?_;refine W (J3 @cI @cP @cS) (y9 h0 h4 h5 bO dZ hcell uJ bY gC xC Au bC @fV.eq_1 @fV.eq_2) ?_<;>intros
       all_goals (simp [cZ,aS,aX,bA,aQ,aR,rm,he]<;>exact iN.trans (Zk.lQ A' _ _))
     rw [aw (by simp [ob])] at hE;by_cases pb:pl=2
     . subst pb;rw [ay Yb] at hE;subst hE;rw [aw Yf] at he;by_cases oo:op=8
       . subst oo;refine aT ?_;revert hw;(repeat revert hc);exact W (J3 @cI @cP @cS) (Uc h0 h4 h5 bO dZ hcell uJ bY gC ob xC Au bC @fV.eq_1 @fV.eq_2) trivial
         all_goals first|exact iN.trans (Zk.lQ A' _ _)|(simp [cZ,aS,aX,bA,aQ,aR,rm,he]<;>exact iN.trans (Zk.lQ A' _ _))
       skip
       refine aT ?_;refine W (J3 @cI @cP @cS) (Mg h0 h4 h5 bO dZ hcell uJ bY gC ob oo xC Au bC @fV.eq_1 @fV.eq_2) ?_<;>intros
       all_goals (simp [cZ,aS,aX,bA,aQ,aR,rm,he]<;>exact iN.trans (Zk.lQ A' _ _))
     rw [aw YF] at hE;cases sk with
     | some n=>
       obtain⟨rfl,-,nq⟩:=hsk rfl;obtain⟨GR,C7⟩:=P9 rfl nq;obtain⟨m,hm⟩:∃m:Nat,n=m:=⟨n.toNat,by omega⟩;subst hm;have GN:qY.wrap (((i+1:Nat):Int)+m)=((i+1+m:Nat):Int):=af Ya Ya;have zT:qY.wrap ((i:Int)+1+m)=((i+1+m:Nat):Int):=af Ya Ya;have W6:=cR (i+1+m);simp only [htg,ZQ] at hE;have o7:¬op=7:=Ya;have o8:¬op=8:=Ya;generalize iB p i (i+1+m)=r at hE W6;by_cases po:pl=1
       . subst po;cases r with
         | false=>
           simp only [Zg,if_false] at hE;subst hE;rw [aw Yf] at he;refine aT ?_;refine W (J4 @cI @cP @cS @W6) (J18 h0 h4 h5 bO dZ hcell uJ bY gC o7 o8 GN zT xC Au bC @fV.eq_1 @fV.eq_2) ?_<;>intros
           all_goals (simp [cZ,aS,aX,bA,aQ,aR,rm,he]<;>exact iN.trans (Zk.lQ A' _ _))
         | true=>
           simp only [if_true] at hE;rw [aw o7,aw o8] at hN;subst hE;subst hN;rw [ay rfl] at he;refine aT ?_;refine W (J4 @cI @cP @cS @W6) (J18 h0 h4 h5 bO dZ hcell uJ bY gC o7 o8 GN zT xC Au bC @fV.eq_1 @fV.eq_2) ?_<;>intros;refine⟨p.length-(i+1),by omega,iN.trans (Zk.lQ A' _ _),i+1,qc d,rfl,by omega,?_,?_,?_,?_,he⟩<;>simp [h0,h4,fV]<;>omega
       skip
       cases r with
       | false=>
         simp only [Zg,if_false] at hE;subst hE;rw [aw Yf] at he;refine aT ?_;refine W (J4 @cI @cP @cS @W6) (J19 h0 h4 h5 bO dZ hcell uJ bY gC o7 o8 GN zT xC Au pb po bC (J2 @fV.eq_1 @fV.eq_2)) ?_<;>intros
         all_goals (simp [cZ,aS,aX,bA,aQ,aR,rm,he]<;>exact iN.trans (Zk.lQ A' _ _))
       | true=>
         simp only [if_true] at hE;rw [aw o7,aw o8] at hN;subst hE;subst hN;rw [ay rfl] at he;refine aT ?_;refine W (J4 @cI @cP @cS @W6) (J19 h0 h4 h5 bO dZ hcell uJ bY gC o7 o8 GN zT xC Au pb po bC (J2 @fV.eq_1 @fV.eq_2)) ?_<;>intros;refine⟨p.length-(i+1),by omega,iN.trans (Zk.lQ A' _ _),i+1,qc d,rfl,by omega,?_,?_,?_,?_,he⟩<;>simp [h0,h4,fV]<;>omega
     | none=>
       simp only at hE;subst hE;rw [ay rfl] at he;by_cases oo:op=8;have po:=x8 rfl oo;subst po;subst oo;rw [aw Yf,ay rfl] at hN;subst hN;refine aT ?_;refine W (J3 @cI @cP @cS) (Uc h0 h4 h5 bO dZ hcell uJ bY gC ob xC Au bC @fV.eq_1 @fV.eq_2) ?_<;>intros;refine⟨p.length-(i+1),by omega,iN.trans (Zk.lQ A' _ _),i+1,qh,rfl,by omega,?_,?_,?_,?_,he⟩<;>simp [h0,fV]<;>first|omega|(intro d hd;have:=Aa d hd;omega)|(have:=Aa;simp at this;omega)
       rw [aw ob,aw oo] at hN;subst hN;by_cases po:pl=1;subst po;refine aT ?_;refine W (J3 @cI @cP @cS) (Mg h0 h4 h5 bO dZ hcell uJ bY gC ob oo xC Au bC @fV.eq_1 @fV.eq_2) ?_<;>intros;refine⟨p.length-(i+1),by omega,iN.trans (Zk.lQ A' _ _),i+1,qc d,rfl,by omega,?_,?_,?_,?_,he⟩<;>simp [h0,h4,fV]<;>omega
       skip
       refine aT ?_;refine W (J3 @cI @cP @cS) (J18 h0 h4 h5 bO dZ hcell uJ bY gC ob oo pb po xC Au bC @fV.eq_1 @fV.eq_2) ?_<;>intros;refine⟨p.length-(i+1),by omega,iN.trans (Zk.lQ A' _ _),i+1,qc d,rfl,by omega,?_,?_,?_,?_,he⟩<;>simp [h0,h4,fV]<;>omega
 have tD:i=p.length:=Ya
 subst tD;rw [List.drop_length] at he;unfold jG at he;cases b with
 | none=>
   simp only [fV] at h4;refine aT ?_;refine W cx (J4 h0 h4 h5 bY) ?_<;>intros
   all_goals (simp [aX,bA,aQ,aR,rm,he]<;>exact iN)
 | some d=>
   simp only [fV] at h4;have xC:¬((d:Int)<0):=Ya;have Au:(0:Int)<=d:=Ya;refine aT ?_;refine W cx (J6 h0 h4 h5 bY xC Au) ?_<;>intros
   all_goals (simp [aS,aX,bA,aQ,aR,rm,he]<;>exact iN)
end
end Go.Stx
