/-
 A pair of attempts: all their answers agree.
-/
import Derived.Test.YtncmjklabcoeaaaGreatG27
import Derived.Test.YtncmjklabcoeaaaGreatG36
set_option linter.unusedVariables false
set_option linter.unusedSimpArgs false
set_option maxRecDepth 20000
set_option maxHeartbeats 4000000
namespace Go.Stx
open Go Go.Proofs
attribute [local irreducible] fj cm aH bB dK ei
abbrev qH:List (Nat×Nat):=[(0,0),(1,0),(3,0),(4,0),(2,2),(5,2),(6,0),(7,0),(8,0),(9,0),(11,0),(12,0),(13,0),(14,0),(15,0),(10,2),(16,0),(17,0),(18,0),(19,0),(20,0),(22,0),(23,0),(24,0),(25,0),(26,0),(21,2),(27,0),(28,0),(29,0),(30,0),(31,0),(33,0),(34,0),(35,0),(36,0),(37,0),(32,2),(38,0),(39,0),(40,0),(41,0),(42,0),(44,0),(45,0),(46,0),(47,0),(48,0),(43,2),(49,0),(50,0),(51,0),(52,0),(53,0),(55,0),(56,0),(57,0),(58,0),(59,0),(54,2),(60,0),(61,0),(62,0),(63,0),(64,0),(66,0),(67,0),(68,0),(69,0),(70,0),(65,2),(71,0),(72,0),(73,0),(74,0),(75,0),(76,2),(77,0),(78,0),(79,0),(80,0),(81,2),(82,0),(83,0),(84,0),(85,0),(87,0),(88,0),(89,0),(90,0),(91,0),(86,2),(92,2),(93,0),(94,0),(95,0),(96,0),(98,0),(99,0),(100,0),(101,0),(102,0),(97,2),(103,2),(104,0),(105,0)]
open T0
theorem bI.bu {A:AW} {L K:List It} {b:Nat} {s:aD} (h:an A L) (hp:ay L (.h (bI b s)) K):an A [.h (gW b s s.aA.eo s.aA)]:=by
 obtain⟨f,hS⟩:=bI.open h hp
 rw [List.append_assoc] at hS
 obtain⟨bh,aY,az,aJ,aK,m,c0,c1,c2,bx,aw,aB,aV,bQ,bg,cE,aW,aU,aC,bA,bC,cP,bR⟩:=f
 apply gW.QW hS
 dsimp only [cg,na,zo]
 repeat' (first|apply aX.z|apply aX.s|apply ay.z|apply ay.s)
theorem bI.eA {A:AW} {L K:List It} {b:Nat} {s:aD} (h:an A L) (hp:ay L (.h (bI b s)) K) :
 ∃f va vv vi,A.cy b=some (fi s s.aA.eo s.aA f)∧A.cy f.aY=some (gw s.aM.dA va vv vi)∧cF A .i64 va s.aM.bl∧cF A .i64 f.bx s.ah:=by
 obtain⟨f,hS⟩:=bI.open h hp
 rw [List.append_assoc] at hS
 dsimp only [cg,na,zo] at hS
 obtain⟨va,vv,vi,h0⟩:=fY.open hS (.s (.s (.s (.s (.s .z)))))
 exact⟨f,va,vv,vi,hS.mZ.1,h0.mZ.1,an.gM h0 (.s .z),an.gM hS (.s (.s (.s (.s (.s (.s .z))))))⟩
theorem bF.eA {A:AW} {L K:List It} {b:Nat} {s:aD} (h:an A L) (hp:ay L (.h (bF b s)) K) :
 ∃f va vv vi,A.cy b=some (bH s (eQ s.aA) s.aA f)∧A.cy f.aY=some (gw s.aM.dA va vv vi)∧cF A .i64 va s.aM.bl∧cF A .i64 f.bS s.ah∧cF A .i64 f.aw s.ac∧cF A .i64 f.aB s.ap:=by
 obtain⟨f,hS⟩:=bF.open h hp
 rw [List.append_assoc] at hS
 dsimp only [bE,na,zo] at hS
 have h1:=hS.mZ.1
 have h2:=an.gM hS (.s (.s (.s (.s (.s (.s .z))))))
 have h3:=an.gM hS (.s (.s (.s (.s (.s (.s (.s .z)))))))
 have h4:=an.gM hS (.s (.s (.s (.s (.s (.s (.s (.s .z))))))))
 have mJ:∃va vv vi,A.cy f.aY=some (gw s.aM.dA va vv vi)∧cF A .i64 va s.aM.bl:=by
  unfold cJ at hS
  cases hd:s.aA
  all_goals(
   rw [hd] at hS
   dsimp only [cR,bj,na,zo] at hS
   first
    | (obtain ⟨va,vv,vi,h0⟩:=fY.open hS (.s (.s (.s (.s (.s (.s (.s (.s (.s .z)))))))))
       exact⟨va,vv,vi,h0.mZ.1,an.gM h0 (.s .z)⟩)
    | exact⟨_,_,_,hS.g 9 rfl,an.gM hS (.s (.s (.s (.s (.s (.s (.s (.s (.s (.s .z))))))))))⟩)
 obtain⟨va,vv,vi,h5,h6⟩:=mJ
 exact⟨f,va,vv,vi,h1,h5,h6,h2,h3,h4⟩
theorem MY (s:aD):(!decide (eQ s.aA=0))=s.Gu:=by
 have:=ur s.aA
 simp [this,aD.Gu]
theorem pU (a r:Nat) (s:aD) (hC:ep s) :
 aP Tryz.prog 34 [.agg #[pv a,pv r]] [.h (bI a s),.h (bF r s)] (fun v=>v=.bool true) (fun _=>[.h (bI a s),.h (bF r s)]):=by
 intro A F hw hS
 refine ab Tryz.func34 rfl (by kernel_rfl) fun _=>?_
 have cU:=hC.len
 have Mt:=hC.EG
 have uZ:=hC.kN
 have QF:=hC.EQ
 obtain⟨f,va,vv,vi,ga,gl,ia,is⟩:=bI.eA hS .z
 obtain⟨g,wa,wv,wi,gr,gm,ja,js,Xk,Xj⟩:=bF.eA hS (.s .z)
 have hB:=bI.bu hS .z
 have k1:=fun(A':AW) (h:A.le A')=>ET a s _ _ f va vv vi A' (h.iU hw ga) (h.iU hw gl) (ia.le h hw) (is.le h hw) cU Mt
 have k2:=fun(A':AW) (h:A.le A')=>C4 r s _ _ g wa wv wi A' (h.iU hw gr) (h.iU hw gm) (ja.le h hw) (js.le h hw) cU Mt
 have b1:=fun(A':AW) (h:A.le A') (gY:A'.Wf)=>Cx a s _ A' gY (hB.le hw h)
 have b2:=fun(A':AW) (h:A.le A') (gY:A'.Wf)=>yk a s _ _ A' gY (hB.le hw h)
 have b3:=fun(A':AW) (h:A.le A') (gY:A'.Wf)=>Cw a s _ _ A' gY (hB.le hw h)
 have b4:=fun(A':AW) (h:A.le A') (gY:A'.Wf)=>GZ a s _ _ A' gY (hB.le hw h)
 have b5:=fun(A':AW) (h:A.le A') (gY:A'.Wf)=>nS a s _ _ A' gY (hB.le hw h)
 have b6:=fun(A':AW) (h:A.le A') (gY:A'.Wf)=>DW a s _ _ A' gY (hB.le hw h)
 have b7:=fun(A':AW) (h:A.le A') (gY:A'.Wf)=>lu a s _ _ A' gY (hB.le hw h)
 have b8:=fun(A':AW) (h:A.le A') (gY:A'.Wf)=>GG a s _ _ A' gY (hB.le hw h) (by omega)
 have b9:=fun(A':AW) (h:A.le A') (gY:A'.Wf)=>HX a s _ _ A' gY (hB.le hw h) (by omega)
 have r1:=fun(A':AW) (h:A.le A')=>rK r _ (eQ s.aA) rfl A' (h.iU hw gr)
 rw [MY] at r1
 dsimp only [bH] at gr
 revert hS hw;refine W (J1 (od qH)) (J2 @AW.aa @af.eq_1) (J1 ?_)<;>unhygienic intros
 refine bD (k1 _ ?_) ?_
 · exact(AW.le.alloc _ _).trans (AW.le.refl _)
 rintro _ A1 ⟨u1,w1,rfl,i1,i2,l1⟩ gJ _
 have m1:A.le A1:=(AW.le.alloc _ _).trans l1
 have x1:=l1.iU (hw.alloc _) (AW.gO A _)
 have Wn:=m1.iU hw gr
 revert hS hw;(repeat first|clear hS|clear hw|revert hc|revert zn|revert zA|revert R|revert K);refine W (J1 (od qH)) (J4 x1 Wn @AW.aa @af.eq_1) (J1 ?_)<;>unhygienic intros
 refine bD (k2 A1 m1) ?_
 rintro _ A2 ⟨u2,w2,rfl,j1,j2,l2⟩ it _
 have Nb:(vB s).length<2^62:=by
  have:=List.length_filter_le (fun a=>decide (a<s.cf.aF)) s.aM.bl
  unfold vB
  omega
 have m2:=m1.trans l2
 have x2:=l2.iU gJ x1
 have Wm:=l2.iU gJ Wn
 have Xn:=i1.le l2 gJ
 have Xm:=i2.le l2 gJ
 revert hS hw;(repeat first|clear hS|clear hw|revert hc|revert zn|revert zA|revert R|revert K);refine W (MK (od qH) (b1 _ m2 it) (r1 _ m2) (b2 _ m2 it) (b3 _ m2 it) (b4 _ m2 it) (b5 _ m2 it) (b6 _ m2 it) (b7 _ m2 it) (sO _ _ _ _ A2 Xn j1 (by omega)) (sO _ _ _ _ A2 Xm j2 Nb)) (J4 x2 Wm @AW.aa @af.eq_1) (J1 ?_)<;>unhygienic intros
 refine bD (b8 A2 m2 it) ?_
 rintro u3 A3 ⟨o3,l3⟩ qr _
 have m3:=m2.trans l3
 have x3:=l3.iU it x2
 have Wl:=l3.iU it Wm
 refine⟨l3,?_⟩
 repeat' (first
 | (refine il fun R hR=>?_;simp [ak,au,x3,Wl,AW.aa,af];try simp (disch:=omega) only [if_pos,if_neg,ak,au])
 | (refine hR _ _ ?_;clear hR R)|(refine hK _ _ ?_;clear hK K)|refine nx ?_
 | refine wn fun K hK=>?_
 | simp only [wS,qH]
 | refine wl Tryz.mx qH (by decide +kernel) fun K hK=>?_
 | (refine bD (sO _ _ _ _ A3 o3.is (Xk.le m3 hw) (by omega)) ?_;rintro _ _ ⟨rfl,rfl⟩ _ _)
 | refine wb ?_|refine wr ?_|refine wk ?_|refine we ?_|refine ws ?_|refine wq ?_
 | (refine wc rfl (fun hc=>?_) (fun hc=>?_)<;>(try simp at hc)<;>(try omega))
 | (refine ib (fun hc=>?_) (fun hc=>?_)<;>(try omega)<;>(try simp (disch:=omega) only [if_pos,if_neg])))
 refine bD (b9 A3 m3 qr) ?_
 rintro u4 A4 ⟨o4,l4⟩ IJ _
 have m4:=m3.trans l4
 have x4:=l4.iU qr x3
 have Yy:=l4.iU qr Wl
 refine⟨l4,?_⟩
 repeat' (first
 | (refine il fun R hR=>?_;simp [ak,au,x4,Yy,AW.aa,af];try simp (disch:=omega) only [if_pos,if_neg,ak,au])
 | (refine hR _ _ ?_;clear hR R)|(refine hK _ _ ?_;clear hK K)|refine nx ?_
 | refine wn fun K hK=>?_
 | simp only [wS,qH]
 | refine wl Tryz.mx qH (by decide +kernel) fun K hK=>?_
 | (refine bD (sO _ _ _ _ A4 o4.is (Xj.le m4 hw) (by omega)) ?_;rintro _ _ ⟨rfl,rfl⟩ _ _)
 | refine wb ?_|refine wr ?_|refine wk ?_|refine we ?_|refine ws ?_|refine wq ?_
 | (refine wc rfl (fun hc=>?_) (fun hc=>?_)<;>(try simp at hc)<;>(try omega))
 | (refine ib (fun hc=>?_) (fun hc=>?_)<;>(try omega)<;>(try simp (disch:=omega) only [if_pos,if_neg])))
 refine⟨_,by first|(simp;done)|(simp;rfl),by first|rfl|simp,hS.le hw m4⟩
end Go.Stx
