/-
 The document's instructions: letters, forms, registers, the check.
-/
import Derived.Test.YtejgooipbmnioaaGreatDoorG26
import Derived.Test.YtejgooipbmnioaaGreatDoorF4
import Derived.Test.YtejgooipbmnioaaGreatDoorF5
set_option linter.unusedVariables false
set_option linter.unusedSimpArgs false
set_option linter.unusedSectionVars false
set_option maxRecDepth 20000
set_option maxHeartbeats 4000000
namespace Go.Stx
open Go Go.Proofs
attribute [local irreducible] TW cg eg bn aC aV cR df
section
namespace TGFbB
theorem jD [Gl] {A:AW} {L:List It} {T:Prop} (hS:ak A L) (hw:A.Wf) (h':(bg A L∧bB A L∧cj L)=T:=by first|(dsimp only [af,ag,bg,bB,cj,eA];done)|exact rfl):T:=h'▸hS.eu hw
end TGFbB
open TGFbB
variable [Gl]
def bs (l:List UInt8):ByteArray:=⟨l.toArray⟩
end
section
variable [Gl]
def xg:Option Nat→Int
 | some b=>b
 | none=>-1
end
section
variable [Gl]
theorem AW.le.BW (A:AW) (o:dK) (o':Option dK):A.le ((A.alloc o).set A.next o'):=by
 refine⟨by simp,fun i hi=>?_⟩
 have h1:¬i=A.next:=by omega
 have h2:¬A.next=i:=by omega
 simp [AW.dX,AW.gi,h1,h2]
def E8 (x:Nat×Int):Value:=.tuple #[.int .i64 x.1,.int .i64 x.2]
end
section
namespace TGFbI
theorem jD [Gl] {A:AW} {L:List It} {T:Prop} (hS:ak A L) (hw:A.Wf) (h':(bg A L∧bB A L∧cj L)=T:=by first|(dsimp only [af,ag,bg,bB,cj,eA];done)|exact rfl):T:=h'▸hS.eu hw
end TGFbI
open TGFbI
open Go.RowKit
variable [Gl]
def iy:List (List UInt8×List UInt8):=[([110,111,112],[]),([99,111,110,115,116],[65,73]),([109,111,118,101],[65,66]),([],[65,66,67]),([106,117,109,112],[73]),([122,101,114,111],[65,73]),
 ([110,111,110,122,101,114,111],[65,73]),([98,101,103,105,110],[73]),([99,111,109,109,105,116],[]),([97,98,111,114,116],[]),([116,114,101,97,100],[65,66,73]),([116,119,114,105,116,101],[65,66,73]),
 ([112,114,101,97,100],[65,66,73]),([112,119,114,105,116,101],[65,66,73]),([97,108,108,111,99],[65,73]),([102,114,101,101],[65]),([102,101,110,99,101],[]),([111,117,116,99,111,109,101],[65])]
def fo:List Value:=iy.flatMap fun x=>[.string (bs x.1),.string (bs x.2)]
def iK (k:Nat):List UInt8:=(iy.getD k ([],[])).2
structure FOK [Gl]:Prop where
 n:Gl.N=4
 ok:Gl.ok 0=true
 Sm:∃e fr,Gl.B 0=some (.cells fo.toArray e fr)
theorem Jj {k:Nat} (hk:k<18):fo[k*2+1]? = some (.string (bs (iK k))):=by
 have h:((List.range 18).all fun k=>match fo[k*2+1]? with|some (.string s)=>decide (s.data.toList=iK k)|_=>false)=true:=by kernel_rfl
 have:=List.all_eq_true.1 h k (List.mem_range.2 hk)
 cases hc:fo[k*2+1]? with
 | none=>rw [hc] at this;cases this
 | some v=>
   rw [hc] at this
   cases v with
   | string s=>
     have h2:s.data.toList=iK k:=by simpa using this
     rw [←h2]
     rfl
   | _=>cases this
theorem V9 {k:Nat} (hk:k<18):decide (0≤Lib.indexByte (iK k) 65)=xT k∧decide (0≤Lib.indexByte (iK k) 66)=qz k∧decide (0≤Lib.indexByte (iK k) 67)=xS k:=by
 have h:((List.range 18).all fun k=>(decide (0≤Lib.indexByte (iK k) 65) == xT k) && (decide (0≤Lib.indexByte (iK k) 66) == qz k) && (decide (0≤Lib.indexByte (iK k) 67) == xS k))=true:=by kernel_rfl
 have:=List.all_eq_true.1 h k (List.mem_range.2 hk)
 simp only [Bool.and_eq_true,beq_iff_eq] at this
 exact⟨this.1.1,this.1.2,this.2⟩
theorem oL (s:List UInt8) (c:UInt8) (A:AW):rz Tryz.prog 201 [.string (bs s),.string ⟨#[c]⟩] A (.bool (decide (0≤Lib.indexByte s c))):=by
 refine⟨by kernel_rfl,rfl,fun m w fE hs hl=>?_⟩
 have e2:fE = #[.string (bs s),.string ⟨#[c]⟩]:=by
  apply Array.ext'
  obtain⟨v1,l1,h1,h2,h3⟩:=hl.kI
  obtain⟨v2,l2,rfl,h4,h5⟩:=h3.kI
  rw [h1,h2.mF rfl,h4.mF rfl,h5.oh]
 subst e2
 refine(Tryz.strings_Contains_one (bs s) c w).mono ?_
 rintro e w' ⟨rfl,rfl⟩
 exact⟨rfl,⟨fun _ _=>rfl,rfl,rfl,rfl,Nat.le_refl _⟩⟩
set_option maxHeartbeats 4000000 in
theorem Et (x:cz) (A:AW):aC Tryz.prog 202 [.agg (aP x).toArray] A (fun u A'=>u=.bool (fQ x.op x.cQ)∧A=A'):=by
 refine aC.DP (V:=.bool (fQ x.op x.cQ)) (by simp) (fun hw=>?_) (by kernel_rfl)
 refine ab Tryz.func202 rfl (by kernel_rfl) fun _=>?_
 obtain⟨op,a,b,c,cQ⟩:=x
 by_cases o1:op=1
 · subst o1
   have he:fQ 1 cQ=true:=by unfold fQ;rfl
   rw [he]
   revert hw;refine W trivial (J2 @AW.aa @aP.eq_1) (J1 ?_)<;>unhygienic intros
   all_goals first|exact AW.le.alloc A _|(simp [bH,bO,cH,bI,bM]<;>exact AW.le.alloc A _)
 by_cases qr:op=10
 · subst qr
   have he:fQ 10 cQ=true:=by unfold fQ;rfl
   rw [he]
   revert hw;(repeat first|clear hw|revert hc|revert zn|revert zA|revert R|revert K);refine W trivial (J3 o1 @AW.aa @aP.eq_1) (J1 ?_)<;>unhygienic intros
   all_goals first|exact AW.le.alloc A _|(simp [bH,bO,cH,bI,bM]<;>exact AW.le.alloc A _)
 by_cases o11:op=11
 · subst o11
   have he:fQ 11 cQ=true:=by unfold fQ;rfl
   rw [he]
   revert hw;(repeat first|clear hw|revert hc|revert zn|revert zA|revert R|revert K);refine W trivial (J4 o1 qr @AW.aa @aP.eq_1) (J1 ?_)<;>unhygienic intros
   all_goals first|exact AW.le.alloc A _|(simp [bH,bO,cH,bI,bM]<;>exact AW.le.alloc A _)
 by_cases o12:op=12
 · subst o12
   have he:fQ 12 cQ=true:=by unfold fQ;rfl
   rw [he]
   revert hw;(repeat first|clear hw|revert hc|revert zn|revert zA|revert R|revert K);refine W trivial (J5 o1 qr o11 @AW.aa @aP.eq_1) (J1 ?_)<;>unhygienic intros
   all_goals first|exact AW.le.alloc A _|(simp [bH,bO,cH,bI,bM]<;>exact AW.le.alloc A _)
 by_cases o13:op=13
 · subst o13
   have he:fQ 13 cQ=true:=by unfold fQ;rfl
   rw [he]
   revert hw;(repeat first|clear hw|revert hc|revert zn|revert zA|revert R|revert K);refine W trivial (J6 o1 qr o11 o12 @AW.aa @aP.eq_1) (J1 ?_)<;>unhygienic intros
   all_goals first|exact AW.le.alloc A _|(simp [bH,bO,cH,bI,bM]<;>exact AW.le.alloc A _)
 by_cases o3:op=3
 · subst o3
   have he:fQ 3 cQ=(decide (0≤cQ) && decide (cQ<22)):=by unfold fQ;rfl
   rw [he]
   by_cases q1:0≤cQ
   · by_cases q2:cQ<22
     · skip
       revert hw;(repeat first|clear hw|revert hc|revert zn|revert zA|revert R|revert K);refine W trivial (J9 o1 qr o11 o12 o13 q1 q2 @AW.aa @aP.eq_1) (J1 ?_)<;>unhygienic intros
       all_goals first|exact AW.le.alloc A _|(simp [bH,bO,cH,bI,bM,q1,q2]<;>exact AW.le.alloc A _)
     · skip
       revert hw;(repeat first|clear hw|revert hc|revert zn|revert zA|revert R|revert K);refine W trivial (J9 o1 qr o11 o12 o13 q1 q2 @AW.aa @aP.eq_1) (J1 ?_)<;>unhygienic intros
       all_goals first|exact AW.le.alloc A _|(simp [bH,bO,cH,bI,bM,q1,q2]<;>exact AW.le.alloc A _)
   · skip
     revert hw;(repeat first|clear hw|revert hc|revert zn|revert zA|revert R|revert K);refine W trivial (J8 o1 qr o11 o12 o13 q1 @AW.aa @aP.eq_1) (J1 ?_)<;>unhygienic intros
     all_goals first|exact AW.le.alloc A _|(simp [bH,bO,cH,bI,bM,q1]<;>exact AW.le.alloc A _)
 by_cases o4:op=4
 · subst o4
   have he:fQ 4 cQ=(decide (0≤cQ) && decide (cQ≤64)):=by unfold fQ;rfl
   rw [he]
   by_cases q1:0≤cQ
   · by_cases q2:cQ≤64
     · skip
       revert hw;(repeat first|clear hw|revert hc|revert zn|revert zA|revert R|revert K);refine W trivial (w8 o1 qr o11 o12 o13 o3 q1 q2 @AW.aa @aP.eq_1) (J1 ?_)<;>unhygienic intros
       all_goals first|exact AW.le.alloc A _|(simp [bH,bO,cH,bI,bM,q1,q2]<;>exact AW.le.alloc A _)
     · skip
       revert hw;(repeat first|clear hw|revert hc|revert zn|revert zA|revert R|revert K);refine W trivial (w8 o1 qr o11 o12 o13 o3 q1 q2 @AW.aa @aP.eq_1) (J1 ?_)<;>unhygienic intros
       all_goals first|exact AW.le.alloc A _|(simp [bH,bO,cH,bI,bM,q1,q2]<;>exact AW.le.alloc A _)
   · skip
     revert hw;(repeat first|clear hw|revert hc|revert zn|revert zA|revert R|revert K);refine W trivial (J9 o1 qr o11 o12 o13 o3 q1 @AW.aa @aP.eq_1) (J1 ?_)<;>unhygienic intros
     all_goals first|exact AW.le.alloc A _|(simp [bH,bO,cH,bI,bM,q1]<;>exact AW.le.alloc A _)
 by_cases o5:op=5
 · subst o5
   have he:fQ 5 cQ=(decide (0≤cQ) && decide (cQ≤64)):=by unfold fQ;rfl
   rw [he]
   by_cases q1:0≤cQ
   · by_cases q2:cQ≤64
     · skip
       revert hw;(repeat first|clear hw|revert hc|revert zn|revert zA|revert R|revert K);refine W trivial (Ix o1 qr o11 o12 o13 o3 o4 q1 q2 @AW.aa @aP.eq_1) (J1 ?_)<;>unhygienic intros
       all_goals first|exact AW.le.alloc A _|(simp [bH,bO,cH,bI,bM,q1,q2]<;>exact AW.le.alloc A _)
     · skip
       revert hw;(repeat first|clear hw|revert hc|revert zn|revert zA|revert R|revert K);refine W trivial (Ix o1 qr o11 o12 o13 o3 o4 q1 q2 @AW.aa @aP.eq_1) (J1 ?_)<;>unhygienic intros
       all_goals first|exact AW.le.alloc A _|(simp [bH,bO,cH,bI,bM,q1,q2]<;>exact AW.le.alloc A _)
   · skip
     revert hw;(repeat first|clear hw|revert hc|revert zn|revert zA|revert R|revert K);refine W trivial (w8 o1 qr o11 o12 o13 o3 o4 q1 @AW.aa @aP.eq_1) (J1 ?_)<;>unhygienic intros
     all_goals first|exact AW.le.alloc A _|(simp [bH,bO,cH,bI,bM,q1]<;>exact AW.le.alloc A _)
 by_cases o6:op=6
 · subst o6
   have he:fQ 6 cQ=(decide (0≤cQ) && decide (cQ≤64)):=by unfold fQ;rfl
   rw [he]
   by_cases q1:0≤cQ
   · by_cases q2:cQ≤64
     · skip
       revert hw;(repeat first|clear hw|revert hc|revert zn|revert zA|revert R|revert K);refine W trivial (AT o1 qr o11 o12 o13 o3 o4 o5 q1 q2 @AW.aa @aP.eq_1) (J1 ?_)<;>unhygienic intros
       all_goals first|exact AW.le.alloc A _|(simp [bH,bO,cH,bI,bM,q1,q2]<;>exact AW.le.alloc A _)
     · skip
       revert hw;(repeat first|clear hw|revert hc|revert zn|revert zA|revert R|revert K);refine W trivial (AT o1 qr o11 o12 o13 o3 o4 o5 q1 q2 @AW.aa @aP.eq_1) (J1 ?_)<;>unhygienic intros
       all_goals first|exact AW.le.alloc A _|(simp [bH,bO,cH,bI,bM,q1,q2]<;>exact AW.le.alloc A _)
   · skip
     revert hw;(repeat first|clear hw|revert hc|revert zn|revert zA|revert R|revert K);refine W trivial (Ix o1 qr o11 o12 o13 o3 o4 o5 q1 @AW.aa @aP.eq_1) (J1 ?_)<;>unhygienic intros
     all_goals first|exact AW.le.alloc A _|(simp [bH,bO,cH,bI,bM,q1]<;>exact AW.le.alloc A _)
 by_cases o7:op=7
 · subst o7
   have he:fQ 7 cQ=(decide (1≤cQ) && decide (cQ≤8)):=by unfold fQ;rfl
   rw [he]
   by_cases q1:1≤cQ
   · by_cases q2:cQ≤8
     · skip
       revert hw;(repeat first|clear hw|revert hc|revert zn|revert zA|revert R|revert K);refine W trivial (rQ o1 qr o11 o12 o13 o3 o4 o5 o6 q1 q2 @AW.aa @aP.eq_1) (J1 ?_)<;>unhygienic intros
       all_goals first|exact AW.le.alloc A _|(simp [bH,bO,cH,bI,bM,q1,q2]<;>exact AW.le.alloc A _)
     · skip
       revert hw;(repeat first|clear hw|revert hc|revert zn|revert zA|revert R|revert K);refine W trivial (rQ o1 qr o11 o12 o13 o3 o4 o5 o6 q1 q2 @AW.aa @aP.eq_1) (J1 ?_)<;>unhygienic intros
       all_goals first|exact AW.le.alloc A _|(simp [bH,bO,cH,bI,bM,q1,q2]<;>exact AW.le.alloc A _)
   · skip
     revert hw;(repeat first|clear hw|revert hc|revert zn|revert zA|revert R|revert K);refine W trivial (AT o1 qr o11 o12 o13 o3 o4 o5 o6 q1 @AW.aa @aP.eq_1) (J1 ?_)<;>unhygienic intros
     all_goals first|exact AW.le.alloc A _|(simp [bH,bO,cH,bI,bM,q1]<;>exact AW.le.alloc A _)
 by_cases o14:op=14
 · subst o14
   have he:fQ 14 cQ=(decide (0≤cQ) && decide (cQ<4)):=by unfold fQ;rfl
   rw [he]
   by_cases q1:0≤cQ
   · by_cases q2:cQ<4
     · skip
       revert hw;(repeat first|clear hw|revert hc|revert zn|revert zA|revert R|revert K);refine W trivial (Dz o1 qr o11 o12 o13 o3 o4 o5 o6 o7 q1 q2 @AW.aa @aP.eq_1) (J1 ?_)<;>unhygienic intros
       all_goals first|exact AW.le.alloc A _|(simp [bH,bO,cH,bI,bM,q1,q2]<;>exact AW.le.alloc A _)
     · skip
       revert hw;(repeat first|clear hw|revert hc|revert zn|revert zA|revert R|revert K);refine W trivial (Dz o1 qr o11 o12 o13 o3 o4 o5 o6 o7 q1 q2 @AW.aa @aP.eq_1) (J1 ?_)<;>unhygienic intros
       all_goals first|exact AW.le.alloc A _|(simp [bH,bO,cH,bI,bM,q1,q2]<;>exact AW.le.alloc A _)
   · skip
     revert hw;(repeat first|clear hw|revert hc|revert zn|revert zA|revert R|revert K);refine W trivial (rQ o1 qr o11 o12 o13 o3 o4 o5 o6 o7 q1 @AW.aa @aP.eq_1) (J1 ?_)<;>unhygienic intros
     all_goals first|exact AW.le.alloc A _|(simp [bH,bO,cH,bI,bM,q1]<;>exact AW.le.alloc A _)
 have he:fQ op cQ=decide (cQ=0):=by
  unfold fQ
  rw [if_neg (by omega),if_neg o3,if_neg (by omega),if_neg o7,if_neg o14]
 rw [he]
 by_cases q1:cQ=0
 · skip
   revert hw;(repeat first|clear hw|revert hc|revert zn|revert zA|revert R|revert K);refine W trivial (Dz o1 qr o11 o12 o13 o3 o4 o5 o6 o7 o14 q1 @AW.aa @aP.eq_1) (J1 ?_)<;>unhygienic intros
   all_goals first|exact AW.le.alloc A _|(simp [bH,bO,cH,bI,bM,q1]<;>exact AW.le.alloc A _)
 · skip
   revert hw;(repeat first|clear hw|revert hc|revert zn|revert zA|revert R|revert K);refine W trivial (Dz o1 qr o11 o12 o13 o3 o4 o5 o6 o7 o14 q1 @AW.aa @aP.eq_1) (J1 ?_)<;>unhygienic intros
   all_goals first|exact AW.le.alloc A _|(simp [bH,bO,cH,bI,bM,q1]<;>exact AW.le.alloc A _)
end
end Go.Stx
