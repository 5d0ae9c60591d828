/-
 A pair of attempts: all their answers agree.
-/
import Derived.Test.YtncmjklabcoeaaaGreatD27
import Derived.Test.YtncmjklabcoeaaaGreatD36
set_option linter.unusedVariables false
set_option linter.unusedSimpArgs false
set_option maxRecDepth 20000
set_option maxHeartbeats 4000000
namespace Go.Stx
open Go Go.Proofs
attribute [local irreducible] fj cm aH bB dK ei
open T0
theorem bI.bu {A:AW} {L K:List It} {b:Nat} {s:aD} (h:an A L) (hp:ay L (.h (bI b s)) K):an A [.h (gW b s s.aA.eo s.aA)]:=by
 obtain⟨f,hS⟩:=bI.open h hp
 rw [List.append_assoc] at hS
 obtain⟨bh,aY,az,aJ,aK,m,c0,c1,c2,bx,aw,aB,aV,bQ,bg,cE,aW,aU,aC,bA,bC,cP,bR⟩:=f
 apply gW.QW hS
 dsimp only [cg,na,zo]
 repeat' (first|apply aX.z|apply aX.s|apply ay.z|apply ay.s)
theorem bI.eA {A:AW} {L K:List It} {b:Nat} {s:aD} (h:an A L) (hp:ay L (.h (bI b s)) K) :
 ∃f va vv vi,A.cy b=some (fi s s.aA.eo s.aA f)∧A.cy f.aY=some (gw s.aM.dA va vv vi)∧cF A .i64 va s.aM.bl∧cF A .i64 f.bx s.ah:=by
 obtain⟨f,hS⟩:=bI.open h hp
 rw [List.append_assoc] at hS
 dsimp only [cg,na,zo] at hS
 obtain⟨va,vv,vi,h0⟩:=fY.open hS (.s (.s (.s (.s (.s .z)))))
 exact⟨f,va,vv,vi,hS.mZ.1,h0.mZ.1,an.gM h0 (.s .z),an.gM hS (.s (.s (.s (.s (.s (.s .z))))))⟩
theorem bF.eA {A:AW} {L K:List It} {b:Nat} {s:aD} (h:an A L) (hp:ay L (.h (bF b s)) K) :
 ∃f va vv vi,A.cy b=some (bH s (eQ s.aA) s.aA f)∧A.cy f.aY=some (gw s.aM.dA va vv vi)∧cF A .i64 va s.aM.bl∧cF A .i64 f.bS s.ah∧cF A .i64 f.aw s.ac∧cF A .i64 f.aB s.ap:=by
 obtain⟨f,hS⟩:=bF.open h hp
 rw [List.append_assoc] at hS
 dsimp only [bE,na,zo] at hS
 have h1:=hS.mZ.1
 have h2:=an.gM hS (.s (.s (.s (.s (.s (.s .z))))))
 have h3:=an.gM hS (.s (.s (.s (.s (.s (.s (.s .z)))))))
 have h4:=an.gM hS (.s (.s (.s (.s (.s (.s (.s (.s .z))))))))
 have mJ:∃va vv vi,A.cy f.aY=some (gw s.aM.dA va vv vi)∧cF A .i64 va s.aM.bl:=by
  unfold cJ at hS
  cases hd:s.aA
  all_goals(
   rw [hd] at hS
   dsimp only [cR,bj,na,zo] at hS
   first
    | (obtain ⟨va,vv,vi,h0⟩:=fY.open hS (.s (.s (.s (.s (.s (.s (.s (.s (.s .z)))))))))
       exact⟨va,vv,vi,h0.mZ.1,an.gM h0 (.s .z)⟩)
    | exact⟨_,_,_,hS.g 9 rfl,an.gM hS (.s (.s (.s (.s (.s (.s (.s (.s (.s (.s .z))))))))))⟩)
 obtain⟨va,vv,vi,h5,h6⟩:=mJ
 exact⟨f,va,vv,vi,h1,h5,h6,h2,h3,h4⟩
end Go.Stx
