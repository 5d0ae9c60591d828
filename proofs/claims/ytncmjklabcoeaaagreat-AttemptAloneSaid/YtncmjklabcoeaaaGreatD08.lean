/-
 The program's machine that locks.
-/
import Derived.Test.YtncmjklabcoeaaaGreatD05
import Derived.Test.YtncmjklabcoeaaaGreatD02
set_option linter.unusedVariables false
set_option linter.unusedSimpArgs false
set_option maxRecDepth 20000
set_option maxHeartbeats 4000000
namespace Go.Stx
open Go Go.Proofs
attribute [local irreducible] fj cm aH bB dK ei TW hN
section
abbrev KZ:List (Nat×Nat):=[(0,0),(1,0),(2,0),(3,0),(4,0),(5,0),(6,0),(7,0),(8,0),(9,0),(10,0),(11,0)]
abbrev oA:List (Nat×Nat):=[(0,0),(1,0),(2,0),(3,0),(4,0),(5,0),(6,0),(7,0),(8,0),(9,0),(10,0),(11,0),(12,3),(13,0),(14,0),(15,0),(16,3)]
abbrev oz:List (Nat×Nat):=[(0,0),(1,0),(2,0),(3,0),(4,0),(5,0),(6,2),(7,0),(8,0),(9,0),(10,3),(11,0),(12,0),(13,3)]
abbrev oy:List (Nat×Nat):=[(0,0),(1,0),(2,0),(3,0),(4,0),(5,0),(6,0),(7,0),(8,0),(9,0),(10,0),(11,0),(12,0),(13,0),(14,0),(15,0),(16,0),(17,0),(18,0),(19,0),(20,0),(21,0),(22,0),(23,0),(24,0),(25,0),(26,0),(27,3),(28,0),(29,0),(30,0),(31,3)]
abbrev qd:List (Nat×Nat):=[(0,0),(1,0),(2,0),(3,0),(4,0),(5,0),(6,0),(7,0),(8,0),(9,2),(10,3),(11,0),(12,0),(13,3)]
open T0
structure eM where
 ag:Int
 aj:List Int
 dH:List Int
 d8:Int
 fg:Bool
def eM.done (s:eM):Bool:=decide (s.dH.length=s.aj.length)
def gG (b:Nat) (s:eM):HP:=rt fun vo:Value=>rt fun vw:Value=>
 pt b (.cells [.int .i64 s.ag,vo,vw,.int .u64 s.d8,.bool s.fg] true 1)*(ar .i64 vo s.aj*ar .u64 vw s.dH)
theorem gG.open {A:AW} {b:Nat} {s:eM} {F:HP} (h:bK A (gG b s*F)) :
 ∃vo vw,bK A (pt b (.cells [.int .i64 s.ag,vo,vw,.int .u64 s.d8,.bool s.fg] true 1)*(ar .i64 vo s.aj*(ar .u64 vw s.dH*F))):=by
 unfold gG at h
 rw [bK.ex] at h
 obtain⟨vo,h⟩:=h
 rw [bK.ex] at h
 obtain⟨vw,h⟩:=h
 exact⟨vo,vw,h.dp (by ac_rfl)⟩
theorem gG.eh {A:AW} {b:Nat} {s:eM} {F:HP} {vo vw:Value} (h:bK A (pt b (.cells [.int .i64 s.ag,vo,vw,.int .u64 s.d8,.bool s.fg] true 1)*(ar .i64 vo s.aj*(ar .u64 vw s.dH*F)))) :
 bK A (gG b s*F):=by
 unfold gG
 rw [bK.ex]
 refine⟨vo,?_⟩
 rw [bK.ex]
 exact⟨vw,h.dp (by ac_rfl)⟩
theorem mw (b:Nat) (s:eM) (A:AW) (F:HP) (h:bK A (gG b s*F)) :
 aH Tryz.prog 138 [.pointer (some ⟨b,0,none⟩)] A (fun v A'=>v=.bool s.done∧A=A'):=by
 refine ab Tryz.func138 rfl (by kernel_rfl) fun hw=>?_
 obtain⟨vo,vw,hS⟩:=gG.open h
 obtain⟨oo,co,rfl,_⟩:=(ar.is hS.right).cL
 obtain⟨ow,cw,rfl,_⟩:=(ar.is hS.right.right).cL
 have hg:=hS.cy
 revert hS hw;refine W (J1 (od KZ)) (J2 hg @AW.aa) (J1 ?_)<;>unhygienic intros
 simp [eM.done]
 omega
def ew (s:eM):Int:=s.aj.getD s.dH.length 0
def jD (s:eM):Int:=IntKind.u64.wrap (IntKind.u64.wrap (s.d8+IntKind.u64.wrap s.ag)+1)
def dF (s:eM) (M:Nat→List Int):bq×eM×(Nat→List Int):=
 if s.done=true then (bq.zero,s,M)
 else if s.fg=false then
  let a:=de M 1 2 (ew s) gF
  (a,{ s with d8:=a.fI,fg:=decide (iF a.fI<0) },M)
 else
  let a:=de M 3 2 (ew s) (hQ s.d8 (jD s))
  (a,{ s with fg:=false,dH:=if a.done=true then s.dH++[s.d8] else s.dH },kd M 2 (ew s) (hQ s.d8 (jD s)))
theorem Bz (b pb:Nat) (s:eM) (M:Nat→List Int) (cU:s.dH.length≤s.aj.length) (DJ:s.aj.length<2^38) :
 ka Tryz.prog 137 [.pointer (some ⟨b,0,none⟩),.pointer (some ⟨pb,0,none⟩)] (gG b s*eI pb M)
  (fun v=>rc (v=(dF s M).1.v)*(gG b (dF s M).2.1*eI pb (dF s M).2.2)):=by
 intro A F hw l9
 refine ab Tryz.func137 rfl (by kernel_rfl) fun _=>?_
 rw [HP.cq] at l9
 have mg:=((l9.alloc hw (.cells aS true 1)).alloc (hw.alloc _) (.cells aS true 1))
 have lp:bK ((A.alloc (.cells aS true 1)).alloc (.cells aS true 1)) (gG b s*(eI pb M*(pt (A.next+1) (.cells aS true 1)*(pt A.next (.cells aS true 1)*F)))):=mg.dp (by simp only [AW.aZ];ac_rfl)
 by_cases hdone:s.done=true
 · revert hw;refine W (J5 (od oA) (od oz) (od oy) (od qd) (mw b s _ _ lp)) (J4 hdone @AW.aa @af.eq_1 @aS.eq_1) (J1 ?_)<;>unhygienic intros
   have dn:dF s M=(bq.zero,s,M):=by unfold dF;rw [if_pos hdone]
   rw [dn]
   refine⟨_,by simp [AW.fZ,AW.dW,AW.aa,af];rfl,bK.post (by simp [bq.v,bq.zero]) ?_⟩
   rw [HP.cq]
   exact l9.le hw ((((AW.le.alloc A _).trans (AW.le.alloc _ _)).set (Nat.le_refl _) _))
 · have tT:s.done=false:=by simpa using hdone
   have dQ:s.dH.length<s.aj.length:=by
    have:¬s.dH.length=s.aj.length:=by simpa [eM.done] using hdone
    omega
   have ey:(s.dH.length:Int)<s.aj.length:=by omega
   obtain⟨vo,vw,ru⟩:=gG.open l9
   have hg:=ru.cy
   have tq:bK A (ar .i64 vo s.aj*(pt b (.cells [.int .i64 s.ag,vo,vw,.int .u64 s.d8,.bool s.fg] true 1)*(ar .u64 vw s.dH*(eI pb M*F)))):=ru.dp (by ac_rfl)
   obtain⟨bo,off,c,dh,rfl,_,nM,GQ,_,_⟩:=ar.at tq dQ
   obtain⟨ow,cw,rfl,_⟩:=(ar.is ru.right.right).cL
   obtain⟨nb,IB⟩:=hw.dH hg
   obtain⟨no,Kh⟩:=hw.dH nM
   have mn:s.aj[s.dH.length]=ew s:=by unfold ew;rw [List.getD_eq_getElem?_getD,List.getElem?_eq_getElem dQ];rfl
   rw [mn] at GQ
   cases uT:s.fg
   · rw [uT] at hg
     revert hw;(repeat first|clear hw|revert hc|revert zn|revert zA|revert R|revert K);refine W (J5 (od oA) (od oz) (od oy) (od qd) (mw b s _ _ lp)) (Mk tT hg nM GQ nb IB no Kh dQ ey @AW.aa @af.eq_1 @aS.eq_1) (J1 ?_)<;>unhygienic intros
     have rl:bK _ (eI pb M*(gG b s*(pt (A.next+1) (.cells aS true 1)*(pt A.next (.cells aS true 1)*F)))):=lp.dp (by ac_rfl)
     refine(FQ pb M 2 (ew s)).use ((hw.alloc _).alloc _) rl rfl ?_
     intro v A2 ta it tR
     obtain⟨rfl,pQ⟩:=ta.jT
     clear ta
     have dn:dF s M=(de M 1 2 (ew s) gF,{ s with d8:=(de M 1 2 (ew s) gF).fI,fg:=decide (iF (de M 1 2 (ew s) gF).fI<0) },M):=by
      unfold dF;rw [if_neg hdone,if_pos uT]
     generalize de M 1 2 (ew s) gF=a at dn pQ ⊢
     have EP:bK A2 (gG b s*(pt (A.next+1) (.cells aS true 1)*(pt A.next (.cells aS true 1)*(eI pb M*F)))):=pQ.dp (by ac_rfl)
     obtain⟨px,nY,HU⟩:=gG.open EP
     have r7:bK A2 (pt b (.cells [.int .i64 s.ag,px,nY,.int .u64 s.d8,.bool s.fg] true 1)*(pt (A.next+1) (.cells aS true 1)*(pt A.next (.cells aS true 1)*(ar .i64 px s.aj*(ar .u64 nY s.dH*(eI pb M*F)))))):=HU.dp (by ac_rfl)
     have qt:=r7.cy
     have tp:=r7.right.cy
     have pN:=r7.right.right.cy
     have n1:=r7.ne
     have n2:=r7.Om
     have n3:=r7.right.ne
     revert hw;(repeat first|clear hw|revert hc|revert zn|revert zA|revert R|revert K);refine W (J5 (od oA) (od oz) (od oy) (od qd) @uw) (pw qt tp pN n1 n2 n3 uT (Ne.symm n1) (Ne.symm n2) (Ne.symm n3) @AW.aa @af.eq_1 @aS.eq_1 @bq.v.eq_1) (J1 ?_)<;>unhygienic intros
     refine⟨_,by simp [AW.fZ,AW.dW,AW.aa,af];rfl,bK.post (by rw [dn];simp [bq.v]) ?_⟩
     rw [dn,HP.cq]
     refine gG.eh (vo:=px) (vw:=nY) (bK.Ct r7 (by simp [AW.dW,n1,n2]) (fun j x h1 h2 h3 hx=>?_))
     simp [AW.dW,h1,h2,h3,hx]
   · rw [uT] at hg
     revert hw;(repeat first|clear hw|revert hc|revert zn|revert zA|revert R|revert K);refine W (J5 (od oA) (od oz) (od oy) (od qd) (mw b s _ _ lp)) (Mk tT hg nM GQ nb IB no Kh dQ ey @AW.aa @af.eq_1 @aS.eq_1) (J1 ?_)<;>unhygienic intros
     have rl:bK _ (eI pb M*(gG b s*(pt (A.next+1) (.cells aS true 1)*(pt A.next (.cells aS true 1)*F)))):=lp.dp (by ac_rfl)
     refine(FP pb M 2 (ew s) _ _).use ((hw.alloc _).alloc _) rl rfl ?_
     intro v A2 ta it tR
     obtain⟨rfl,pQ⟩:=ta.jT
     clear ta
     have dn:dF s M=(de M 3 2 (ew s) (hQ s.d8 (jD s)),{ s with fg:=false,dH:=if (de M 3 2 (ew s) (hQ s.d8 (jD s))).done=true then s.dH++[s.d8] else s.dH },kd M 2 (ew s) (hQ s.d8 (jD s))):=by
      unfold dF;rw [if_neg hdone,if_neg (by simp [uT])]
     have jM:IntKind.u64.wrap (IntKind.u64.wrap (s.d8+IntKind.u64.wrap s.ag)+1)=jD s:=rfl
     rw [jM] at pQ ⊢
     generalize de M 3 2 (ew s) (hQ s.d8 (jD s))=a at dn pQ ⊢
     generalize kd M 2 (ew s) (hQ s.d8 (jD s))=M' at dn pQ
     have EP:bK A2 (gG b s*(pt (A.next+1) (.cells aS true 1)*(pt A.next (.cells aS true 1)*(eI pb M'*F)))):=pQ.dp (by ac_rfl)
     obtain⟨px,nY,HU⟩:=gG.open EP
     have r7:bK A2 (pt b (.cells [.int .i64 s.ag,px,nY,.int .u64 s.d8,.bool s.fg] true 1)*(pt (A.next+1) (.cells aS true 1)*(pt A.next (.cells aS true 1)*(ar .i64 px s.aj*(ar .u64 nY s.dH*(eI pb M'*F)))))):=HU.dp (by ac_rfl)
     have qt:=r7.cy
     have tp:=r7.right.cy
     have pN:=r7.right.right.cy
     have n1:=r7.ne
     have n2:=r7.Om
     have n3:=r7.right.ne
     cases jx:a.done
     · revert hw;(repeat first|clear hw|revert hc|revert zn|revert zA|revert R|revert K);refine W (J4 (od oA) (od oz) (od oy) (od qd)) (pw qt tp pN n1 n2 n3 uT jx (Ne.symm n1) (Ne.symm n2) (Ne.symm n3) @AW.aa @af.eq_1 (J2 @aS.eq_1 @bq.v.eq_1)) (J1 ?_)<;>unhygienic intros
       refine⟨_,by simp [AW.fZ,AW.dW,AW.aa,af];rfl,bK.post (by rw [dn];simp [bq.v,jx]) ?_⟩
       rw [dn,HP.cq]
       simp only [jx,Bool.false_eq_true,if_false]
       refine gG.eh (vo:=px) (vw:=nY) (bK.Ct r7 (by simp [AW.dW,n1,n2]) (fun j x h1 h2 h3 hx=>?_))
       simp [AW.dW,h1,h2,h3,hx]
     · revert hw;(repeat first|clear hw|revert hc|revert zn|revert zA|revert R|revert K);refine W (J3 (od oA) (od oz) (od oy)) (pw qt tp pN n1 n2 n3 uT jx (Ne.symm n1) (Ne.symm n2) (Ne.symm n3) @AW.aa @af.eq_1 (J2 @aS.eq_1 @bq.v.eq_1)) (J1 ?_)<;>unhygienic intros
       refine I2 (fun A3=>A3.Wf∧bK A3 (pt b (.cells [.int .i64 s.ag,px,nY,.int .u64 s.d8,.bool false] true 1)*(pt (A.next+1) (.cells a.cells true 1)*(pt A.next (.cells aS true 1)*(ar .i64 px s.aj*(ar .u64 nY s.dH*(eI pb M'*F))))))) ?_ ?_
       · refine⟨(it.set _ (it.lt tp)).set _ (it.lt qt),bK.QY r7 (by simp [AW.dW]) (by simp [AW.dW,Ne.symm n1,bq.cells,jx]) (by simp [AW.dW,Ne.symm n2,Ne.symm n3,pN,aS]) (fun j x h1 h2 h3 hx=>by simp [AW.dW,h1,h2,h3,hx])⟩
       rintro A3 ⟨qr,qk⟩
       have JL:=qk.cy
       have PS:=qk.right.cy
       have PT:=qk.right.right.cy
       obtain⟨v',A4,e1,k7,IJ,_⟩:=ar.append (P:=Tryz.prog) (t:=43) s.d8 Tryz.underlying43 Tryz.info45 Tryz.zero45 rfl rfl
        (qk.dp (by ac_rfl):bK A3 (ar .u64 nY s.dH*(pt b (.cells [.int .i64 s.ag,px,nY,.int .u64 s.d8,.bool false] true 1)*(pt (A.next+1) (.cells a.cells true 1)*(pt A.next (.cells aS true 1)*(ar .i64 px s.aj*(eI pb M'*F)))))))
        (by omega) (by simp) qr
       have DO:bK A4 (pt b (.cells [.int .i64 s.ag,px,nY,.int .u64 s.d8,.bool false] true 1)*(pt (A.next+1) (.cells a.cells true 1)*(pt A.next (.cells aS true 1)*(ar .i64 px s.aj*(ar .u64 v' (s.dH++[s.d8])*(eI pb M'*F)))))):=k7.dp (by ac_rfl)
       have PP:=DO.cy
       have PQ:=DO.right.cy
       have PR:=DO.right.right.cy
       obtain⟨o3,Ri,xH⟩:True∧(b=A3.next)=False∧∀k,(b=A3.next+k)=False:=⟨trivial,(qr.dH JL).1,(qr.dH JL).2⟩
       have Mr:∃o c,v'=.slice o (s.dH.length+1) c:=by
        obtain⟨o,c,h,_⟩:=(ar.is k7).cL
        exact⟨o,c,by simpa using h⟩
       obtain⟨o',c',rfl⟩:=Mr
       revert hw;(repeat first|clear hw|revert hc|revert zn|revert zA|revert R|revert K);refine W (J4 (od oA) (od oz) (od oy) (od qd)) (pw JL PS PT PP PQ PR n1 n2 n3 Ri xH e1 jx (J8 (Ne.symm n1) (Ne.symm n2) (Ne.symm n3) @AW.aa @af.eq_1 @aS.eq_1 @bq.v.eq_1 @bq.cells.eq_1)) (J1 ?_)<;>unhygienic intros
       refine⟨_,by simp [AW.fZ,AW.dW,AW.aa,af];rfl,bK.post (by rw [dn];simp [bq.v,jx]) ?_⟩
       rw [dn,HP.cq]
       simp only [jx,if_true]
       refine gG.eh (vo:=px) (vw:=.slice o' (s.dH.length+1) c') (bK.Ct DO (by simp [AW.dW,n1,n2]) (fun j x h1 h2 h3 hx=>?_))
       simp [AW.dW,h1,h2,h3,hx]
end
section
open T0
structure gL where
 os:List Int
 ws:List Int
def gV (b:Nat) (s:gL):HP:=rt fun vo:Value=>rt fun vw:Value=>
 pt b (.cells [vo,vw] true 1)*(ar .i64 vo s.os*ar .u64 vw s.ws)
theorem gV.open {A:AW} {b:Nat} {s:gL} {F:HP} (h:bK A (gV b s*F)) :
 ∃vo vw,bK A (pt b (.cells [vo,vw] true 1)*(ar .i64 vo s.os*(ar .u64 vw s.ws*F))):=by
 unfold gV at h
 rw [bK.ex] at h
 obtain⟨vo,h⟩:=h
 rw [bK.ex] at h
 obtain⟨vw,h⟩:=h
 exact⟨vo,vw,h.dp (by ac_rfl)⟩
theorem gV.eh {A:AW} {b:Nat} {s:gL} {F:HP} {vo vw:Value} (h:bK A (pt b (.cells [vo,vw] true 1)*(ar .i64 vo s.os*(ar .u64 vw s.ws*F)))) :
 bK A (gV b s*F):=by
 unfold gV
 rw [bK.ex]
 refine⟨vo,?_⟩
 rw [bK.ex]
 exact⟨vw,h.dp (by ac_rfl)⟩
def gL.done (s:gL):Bool:=decide (s.os.length=0)
theorem qD (b:Nat) (s:gL) (A:AW) (F:HP) (h:bK A (gV b s*F)) :
 aH Tryz.prog 157 [.pointer (some ⟨b,0,none⟩)] A (fun v A'=>v=.bool s.done∧A=A'):=by
 refine ab Tryz.func157 rfl (by kernel_rfl) fun hw=>?_
 obtain⟨vo,vw,hS⟩:=gV.open h
 obtain⟨oo,co,rfl,_⟩:=(ar.is hS.right).cL
 obtain⟨ow,cw,rfl,_⟩:=(ar.is hS.right.right).cL
 have hg:=hS.cy
 revert hS hw;refine W trivial (J2 hg @AW.aa) (J1 ?_)<;>unhygienic intros
 simp [gL.done]
theorem ar.tail {P:Program} {A:AW} {t e:TypeId} {i:TypeInfo} {k k1:IntKind} {o:Option Addr} {n c:Nat} {x:Int} {l:List Int} {F:HP}
 (hu:P.underlying t=some (.slice e)) (hi:P.info? e=some i) (hs:i.size=1) (h:bK A (ar k (.slice o n c) (x::l)*F)) :
 ∃q,o=some q∧∃v',(∀A':AW,A'.cy q.block=A.cy q.block→vX P A' t (.slice o n c) (some (.int k1 1)) none none=some v')∧bK A (ar k v' l*F):=by
 rcases jo.cases h with ⟨_,h0,_⟩|⟨b,off,c',dh,hv,h1,h2,h3,h4⟩
 · simp at h0
 · injection hv with vN Kl EJ
   subst vN Kl EJ
   have OM:1≤c:=by simp at h1;omega
   have e1:(1:Int)≤(l.length:Int)+1:=by omega
   refine⟨_,rfl,.slice (some ⟨b,off+1,none⟩) l.length (c-1),fun A' hA=>?_,?_⟩
   · have hg:=h4.cy
     rw [←hA] at hg
     simp [hu,hi,hs,eB,hg,e1]
   · simp only [List.length_cons,Nat.mul_one] at h1 h2 h3
     refine ar.mk rfl (by omega) (by omega) ?_ h4
     rw [List.drop_eq_getElem_cons (by omega),List.map_cons,List.take_succ_cons] at h3
     exact(List.cons.inj h3).2
theorem ar.tl {A:AW} {k:IntKind} {v:Value} {x:Int} {l:List Int} {F:HP} (h:bK A (ar k v (x::l)*F)) :
 ∃b off c dh,v=.slice (some ⟨b,off,none⟩) (l.length+1) c∧A.cy b=some (.cells dh true 1)∧(∀j o F',F=pt j o*F'→b≠j)∧(∀j o i o' F',F=pt j o*(pt i o'*F')→b≠i)∧bK A (ar k (.slice (some ⟨b,off+1,none⟩) l.length (c-1)) l*F):=by
 rcases jo.cases h with ⟨_,h0,_⟩|⟨b,off,c,dh,rfl,h1,h2,h3,h4⟩
 · simp at h0
 · refine⟨b,off,c,dh,by simp,h4.cy,fun j o F' e=>by subst e;exact h4.ne,fun j o i o' F' e=>by subst e;exact h4.Om,?_⟩
   simp only [List.length_cons,Nat.mul_one] at h1 h2 h3
   refine ar.mk rfl (by omega) (by omega) ?_ h4
   rw [List.drop_eq_getElem_cons (by omega),List.map_cons,List.take_succ_cons] at h3
   exact(List.cons.inj h3).2
def j3 (s:gL) (M:Nat→List Int):bq×gL×(Nat→List Int):=
 if s.done=true then (bq.zero,s,M)
 else (de M 2 2 (s.os.getD 0 0) (eD (s.ws.getD 0 0)),⟨s.os.tail,s.ws.tail⟩,kd M 2 (s.os.getD 0 0) (eD (s.ws.getD 0 0)))
theorem Di (b pb:Nat) (s:gL) (M:Nat→List Int) (cU:s.os.length=s.ws.length) :
 ka Tryz.prog 156 [.pointer (some ⟨b,0,none⟩),.pointer (some ⟨pb,0,none⟩)] (gV b s*eI pb M)
  (fun v=>rc (v=(j3 s M).1.v)*(gV b (j3 s M).2.1*eI pb (j3 s M).2.2)):=by
 intro A F hw l9
 refine ab Tryz.func156 rfl (by kernel_rfl) fun _=>?_
 rw [HP.cq] at l9
 have mg:=(l9.alloc hw (.cells aS true 1))
 have lp:bK (A.alloc (.cells aS true 1)) (gV b s*(eI pb M*(pt A.next (.cells aS true 1)*F))):=mg.dp (by ac_rfl)
 by_cases hdone:s.done=true
 · have hd:=qD b s _ _ lp
   rw [hdone] at hd
   revert hw;refine Wx (J2 (⟨⟩:Ts (fun _=>True) [0,0,0,0,0,0,0,0,0,0,0,0,0,3,0,0,0,2,3,0] (.bu 0 (.bu 1 (.bu 2 (.bu 3 (.bu 4 (.bu 5 (.bu 6 (.bu 7 (.bu 8 (.bu 9 (.bu 10 (.bu 11 (.bu 12 (.sC 13 (.bu 14 (.bu 15 (.bu 16 (.bu 17 (.bu 18 (.bu 19 .nil)))))) 17 (.bu 13 (.bu 14 (.bu 15 (.bu 16 (.bu 18 (.bu 19 .nil))))))))))))))))))))) @hd) (J3 @AW.aa @af.eq_1 @aS.eq_1) (J1 ?_)<;>unhygienic intros
   have dn:j3 s M=(bq.zero,s,M):=by unfold j3;rw [if_pos hdone]
   rw [dn]
   refine⟨_,by simp [AW.aa,af];rfl,bK.post (by simp [bq.v,bq.zero]) ?_⟩
   rw [HP.cq]
   exact l9.le hw ((AW.le.alloc A _).set (Nat.le_refl _) _)
 · have hd:=qD b s _ _ lp
   rw [show s.done=false by simpa using hdone] at hd
   obtain⟨os,ws⟩:=s
   cases os with
   | nil=>simp [gL.done] at hdone
   | cons o os=>
   cases ws with
   | nil=>simp at cU
   | cons x ws=>
   have dn:j3 ⟨o::os,x::ws⟩ M=(de M 2 2 o (eD x),⟨os,ws⟩,kd M 2 o (eD x)):=by
    unfold j3;rw [if_neg hdone];rfl
   obtain⟨vo,vw,ru⟩:=gV.open l9
   have hg:=ru.cy
   have tq:bK A (ar .i64 vo (o::os)*(pt b (.cells [vo,vw] true 1)*(ar .u64 vw (x::ws)*(eI pb M*F)))):=ru.dp (by ac_rfl)
   have UM:bK A (ar .u64 vw (x::ws)*(pt b (.cells [vo,vw] true 1)*(ar .i64 vo (o::os)*(eI pb M*F)))):=ru.dp (by ac_rfl)
   obtain⟨bo,off,c,dh,rfl,_,nM,GQ,_,_⟩:=ar.at tq (j:=0) (by simp)
   obtain⟨bw,Ty,cw,Tm,rfl,_,My,IU,_,_⟩:=ar.at UM (j:=0) (by simp)
   obtain⟨nb,IB⟩:=hw.dH hg
   obtain⟨no,Kh⟩:=hw.dH nM
   obtain⟨nw,Rd⟩:=hw.dH My
   simp at nM GQ My IU
   revert hw;(repeat first|clear hw|revert hc|revert zn|revert zA|revert R|revert K);refine Wx (J2 @hd (⟨⟩:Ts (fun _=>True) [0,0,0,0,0,0,0,0,0,0,0,0,0,3,0,0,0,2,3,3] (.bu 0 (.bu 1 (.bu 2 (.bu 3 (.bu 4 (.bu 5 (.bu 6 (.bu 7 (.bu 8 (.bu 9 (.bu 10 (.bu 11 (.bu 12 (.sC 13 (.bu 14 (.bu 15 (.bu 16 (.bu 17 (.bu 18 (.bu 19 .nil)))))) 17 (.bu 13 (.bu 14 (.bu 15 (.bu 16 (.bu 18 (.bu 19 .nil)))))))))))))))))))))) (pw hg nM GQ My IU nb IB no Kh nw Rd @AW.aa @af.eq_1 @aS.eq_1) (J2 ?_ ?_)<;>unhygienic intros
   · have rl:bK _ (eI pb M*(gV b ⟨o::os,x::ws⟩*(pt A.next (.cells aS true 1)*F))):=lp.dp (by ac_rfl)
     refine(qe pb M 2 o x).use (hw.alloc _) rl rfl ?_
     intro v A2 ta it tR
     obtain⟨rfl,pQ⟩:=ta.jT
     clear ta
     generalize de M 2 2 o (eD x)=a at dn pQ ⊢
     generalize kd M 2 o (eD x)=M' at dn pQ
     generalize ni M 2 o=er at pQ ⊢
     have EP:bK A2 (gV b ⟨o::os,x::ws⟩*(pt A.next (.cells aS true 1)*(eI pb M'*F))):=pQ.dp (by ac_rfl)
     obtain⟨px,nY,HU⟩:=gV.open EP
     obtain⟨Ad,y6,zX,KI,rfl,oF,HQ,LC,r7⟩:=ar.tl (HU.dp (by ac_rfl):bK A2 (ar .i64 px (o::os)*(pt b (.cells [px,nY] true 1)*(ar .u64 nY (x::ws)*(pt A.next (.cells aS true 1)*(eI pb M'*F))))))
     obtain⟨D0,Dp,DX,yD,rfl,qL,HO,LA,qk⟩:=ar.tl (r7.dp (by ac_rfl):bK A2 (ar .u64 nY (x::ws)*(pt b (.cells [.slice (some ⟨Ad,y6,none⟩) (os.length+1) zX,nY] true 1)*(ar .i64 (.slice (some ⟨Ad,y6+1,none⟩) os.length (zX-1)) os*(pt A.next (.cells aS true 1)*(eI pb M'*F))))))
     have k7:=(qk.dp (by ac_rfl):bK A2 (pt b (.cells [.slice (some ⟨Ad,y6,none⟩) (os.length+1) zX,.slice (some ⟨D0,Dp,none⟩) (ws.length+1) DX] true 1)*(pt A.next (.cells aS true 1)*(ar .i64 (.slice (some ⟨Ad,y6+1,none⟩) os.length (zX-1)) os*(ar .u64 (.slice (some ⟨D0,Dp+1,none⟩) ws.length (DX-1)) ws*(eI pb M'*F))))))
     have qt:=k7.cy
     have pN:=k7.right.cy
     have n1:=k7.ne
     obtain⟨pm,tL⟩:=it.dH qt
     obtain⟨Hu,tJ⟩:=it.dH oF
     obtain⟨Ht,tI⟩:=it.dH qL
     obtain⟨zi,tM⟩:=it.dH pN
     have e1:(1:Int)≤(os.length:Int)+1:=by omega
     have e2:(1:Int)≤(ws.length:Int)+1:=by omega
     have n2:=HQ _ _ _ rfl
     have n3:=HO _ _ _ rfl
     have Dz:A2.next≠b:=fun e=>by rw [←e] at pm;simp at pm
     have FO:A2.next≠A.next:=fun e=>by rw [←e] at zi;simp at zi
     repeat' (first
     | (refine il fun R hR=>?_;simp [ak,au,AW.aa,af,aS,qt,pN,oF,qL,n1,Ne.symm n1,n2,n3,Ne.symm n2,Ne.symm n3,pm,tL,Hu,tJ,Ht,tI,zi,tM,e1,e2,Dz,FO,bq.v,eB];try simp (disch:=omega) only [if_pos,if_neg,ak,au])
     | (refine hR _ _ ?_;clear hR R)|(refine hK _ _ ?_;clear hK K)|refine nx ?_
     | (refine EZ fun R hR=>?_;simp [ak,au,AW.aa,af,aS,qt,pN,oF,qL,n1,Ne.symm n1,n2,n3,Ne.symm n2,Ne.symm n3,pm,tL,Hu,tJ,Ht,tI,zi,tM,e1,e2,Dz,FO,bq.v,eB];try simp (disch:=omega) only [if_pos,if_neg,ak,au])
     | (refine EF (fun R hR=>?_) (fun R hR=>?_)<;>(simp [ak,au,AW.aa,af,aS,qt,pN,oF,qL,n1,Ne.symm n1,n2,n3,Ne.symm n2,Ne.symm n3,pm,tL,Hu,tJ,Ht,tI,zi,tM,e1,e2,Dz,FO,bq.v,eB];try simp (disch:=omega) only [if_pos,if_neg,ak,au]))
     | refine EY ?_
     | refine wn fun K hK=>?_
     | simp only [wS]
     | simp only [hN,nC,jt,Option.map_none,Option.map_some,List.getElem?_toArray,List.getElem?_cons_zero,List.getElem?_cons_succ,List.getD_cons_zero,List.getD_cons_succ,Option.bind_some]
     | (refine ⟨fun A' kL=>by rw [kL]<;>rfl,?_⟩)
     | (refine AC (fun A'=>A'.cy D0=some (.cells yD true 1)) Tryz.mx [(0,0),(1,0),(2,0),(3,0),(4,0),(5,0),(6,0),(7,0),(8,0),(9,0),(10,0),(11,1),(12,0),(13,0),(14,3),(15,0),(16,0),(17,3)] (by decide +kernel) fun K hK=>?_)
     | ((refine wt (fun _=>True) Tryz.mx [] .nil (by decide +kernel) ?_<;>fail))
     | refine wb ?_|refine wr ?_|refine wk ?_|refine we ?_|refine ws ?_|refine wq ?_
     | (refine wc rfl (fun hc=>?_) (fun hc=>?_)<;>(try simp at hc)<;>(try omega))
     | (refine ib (fun hc=>?_) (fun hc=>?_)<;>(try omega)<;>(try simp (disch:=omega) only [if_pos,if_neg])))
     refine⟨_,by simp [AW.aa,af,Dz,FO];rfl,bK.post (by rw [dn];simp [bq.v]) ?_⟩
     rw [dn,HP.cq]
     refine gV.eh (vo:=.slice (some ⟨Ad,y6+1,none⟩) os.length (zX-1)) (vw:=.slice (some ⟨D0,Dp+1,none⟩) ws.length (DX-1)) (bK.Gp k7 (by simp [AW.dW,n1,Dz]) (fun j x h1 h2 hx=>?_))
     have hj:=(it.dH hx).1
     simp [AW.dW,h1,h2,hx,hj]
   · have rl:bK _ (eI pb M*(gV b ⟨o::os,x::ws⟩*(pt (A.next+1) (.cells aS true 1)*(pt A.next (.cells aS true 1)*F)))):=((lp.alloc (hw.alloc _) (.cells aS true 1)).dp (by simp only [AW.aZ];ac_rfl))
     refine(qe pb M 2 o x).use ((hw.alloc _).alloc _) rl rfl ?_
     intro v A2 ta it tR
     obtain⟨rfl,pQ⟩:=ta.jT
     clear ta
     generalize de M 2 2 o (eD x)=a at dn pQ ⊢
     generalize kd M 2 o (eD x)=M' at dn pQ
     generalize ni M 2 o=er at pQ ⊢
     have EP:bK A2 (gV b ⟨o::os,x::ws⟩*(pt (A.next+1) (.cells aS true 1)*(pt A.next (.cells aS true 1)*(eI pb M'*F)))):=pQ.dp (by ac_rfl)
     obtain⟨px,nY,HU⟩:=gV.open EP
     obtain⟨Ad,y6,zX,KI,rfl,oF,HQ,LC,r7⟩:=ar.tl (HU.dp (by ac_rfl):bK A2 (ar .i64 px (o::os)*(pt b (.cells [px,nY] true 1)*(pt (A.next+1) (.cells aS true 1)*(ar .u64 nY (x::ws)*(pt A.next (.cells aS true 1)*(eI pb M'*F)))))))
     obtain⟨D0,Dp,DX,yD,rfl,qL,HO,LA,qk⟩:=ar.tl (r7.dp (by ac_rfl):bK A2 (ar .u64 nY (x::ws)*(pt b (.cells [.slice (some ⟨Ad,y6,none⟩) (os.length+1) zX,nY] true 1)*(pt (A.next+1) (.cells aS true 1)*(ar .i64 (.slice (some ⟨Ad,y6+1,none⟩) os.length (zX-1)) os*(pt A.next (.cells aS true 1)*(eI pb M'*F)))))))
     have k7:=(qk.dp (by ac_rfl):bK A2 (pt b (.cells [.slice (some ⟨Ad,y6,none⟩) (os.length+1) zX,.slice (some ⟨D0,Dp,none⟩) (ws.length+1) DX] true 1)*(pt (A.next+1) (.cells aS true 1)*(pt A.next (.cells aS true 1)*(ar .i64 (.slice (some ⟨Ad,y6+1,none⟩) os.length (zX-1)) os*(ar .u64 (.slice (some ⟨D0,Dp+1,none⟩) ws.length (DX-1)) ws*(eI pb M'*F)))))))
     have qt:=k7.cy
     have tp:=k7.right.cy
     have pN:=k7.right.right.cy
     have n1:=k7.Om
     have n4:=k7.ne
     have n5:=k7.right.ne
     obtain⟨zh,Hy⟩:=it.dH tp
     obtain⟨pm,tL⟩:=it.dH qt
     obtain⟨Hu,tJ⟩:=it.dH oF
     obtain⟨Ht,tI⟩:=it.dH qL
     obtain⟨zi,tM⟩:=it.dH pN
     have e1:(1:Int)≤(os.length:Int)+1:=by omega
     have e2:(1:Int)≤(ws.length:Int)+1:=by omega
     have n2:=HQ _ _ _ rfl
     have n3:=HO _ _ _ rfl
     have n6:=LC _ _ _ _ _ rfl
     have n7:=LA _ _ _ _ _ rfl
     have Dz:A2.next≠b:=fun e=>by rw [←e] at pm;simp at pm
     have FO:A2.next≠A.next:=fun e=>by rw [←e] at zi;simp at zi
     repeat' (first
     | (refine il fun R hR=>?_;simp [ak,au,AW.aa,af,aS,qt,pN,tp,n6,n7,Ne.symm n6,Ne.symm n7,n4,n5,Ne.symm n4,Ne.symm n5,zh,Hy,oF,qL,n1,Ne.symm n1,n2,n3,Ne.symm n2,Ne.symm n3,pm,tL,Hu,tJ,Ht,tI,zi,tM,e1,e2,Dz,FO,bq.v,eB];try simp (disch:=omega) only [if_pos,if_neg,ak,au])
     | (refine hR _ _ ?_;clear hR R)|(refine hK _ _ ?_;clear hK K)|refine nx ?_
     | (refine EZ fun R hR=>?_;simp [ak,au,AW.aa,af,aS,qt,pN,tp,n6,n7,Ne.symm n6,Ne.symm n7,n4,n5,Ne.symm n4,Ne.symm n5,zh,Hy,oF,qL,n1,Ne.symm n1,n2,n3,Ne.symm n2,Ne.symm n3,pm,tL,Hu,tJ,Ht,tI,zi,tM,e1,e2,Dz,FO,bq.v,eB];try simp (disch:=omega) only [if_pos,if_neg,ak,au])
     | (refine EF (fun R hR=>?_) (fun R hR=>?_)<;>(simp [ak,au,AW.aa,af,aS,qt,pN,tp,n6,n7,Ne.symm n6,Ne.symm n7,n4,n5,Ne.symm n4,Ne.symm n5,zh,Hy,oF,qL,n1,Ne.symm n1,n2,n3,Ne.symm n2,Ne.symm n3,pm,tL,Hu,tJ,Ht,tI,zi,tM,e1,e2,Dz,FO,bq.v,eB];try simp (disch:=omega) only [if_pos,if_neg,ak,au]))
     | refine EY ?_
     | refine wn fun K hK=>?_
     | simp only [wS]
     | simp only [hN,nC,jt,Option.map_none,Option.map_some,List.getElem?_toArray,List.getElem?_cons_zero,List.getElem?_cons_succ,List.getD_cons_zero,List.getD_cons_succ,Option.bind_some]
     | (refine ⟨fun A' kL=>by rw [kL]<;>rfl,?_⟩)
     | (refine AC (fun A'=>A'.cy D0=some (.cells yD true 1)) Tryz.mx [(0,0),(1,0),(2,0),(3,0),(4,0),(5,0),(6,0),(7,0),(8,0),(9,0),(10,0),(11,1),(12,0),(13,0),(14,3),(15,0),(16,0),(17,3)] (by decide +kernel) fun K hK=>?_)
     | ((refine wt (fun _=>True) Tryz.mx [] .nil (by decide +kernel) ?_<;>fail))
     | refine wb ?_|refine wr ?_|refine wk ?_|refine we ?_|refine ws ?_|refine wq ?_
     | (refine wc rfl (fun hc=>?_) (fun hc=>?_)<;>(try simp at hc)<;>(try omega))
     | (refine ib (fun hc=>?_) (fun hc=>?_)<;>(try omega)<;>(try simp (disch:=omega) only [if_pos,if_neg])))
     refine⟨_,by simp [AW.aa,af,n1,n4,n5,Ne.symm n1,Ne.symm n4,Ne.symm n5];rfl,bK.post (by rw [dn];simp [bq.v]) ?_⟩
     rw [dn,HP.cq]
     refine gV.eh (vo:=.slice (some ⟨Ad,y6+1,none⟩) os.length (zX-1)) (vw:=.slice (some ⟨D0,Dp+1,none⟩) ws.length (DX-1)) (bK.Ct k7 (by simp [AW.dW,n1,n4]) (fun j x h1 h2 h3 hx=>?_))
     simp [AW.dW,h1,h2,h3,hx]
end
section
open T0
theorem rA (b:Nat) (s:gL) (A:AW) (F:HP) (h:bK A (gV b s*F)) :
 aH Tryz.prog 153 [.pointer (some ⟨b,0,none⟩)] A (fun v A'=>v=.bool s.done∧A=A'):=by
 refine ab Tryz.func153 rfl (by kernel_rfl) fun hw=>?_
 obtain⟨vo,vw,hS⟩:=gV.open h
 obtain⟨oo,co,rfl,_⟩:=(ar.is hS.right).cL
 obtain⟨ow,cw,rfl,_⟩:=(ar.is hS.right.right).cL
 have hg:=hS.cy
 revert hS hw;refine W trivial (J2 hg @AW.aa) (J1 ?_)<;>unhygienic intros
 simp [gL.done]
def lq (s:gL) (M:Nat→List Int):bq×gL×(Nat→List Int):=
 if s.done=true then (bq.zero,s,M)
 else (de M 2 1 (s.os.getD 0 0) (eD (s.ws.getD 0 0)),⟨s.os.tail,s.ws.tail⟩,kd M 1 (s.os.getD 0 0) (eD (s.ws.getD 0 0)))
theorem ES (b pb:Nat) (s:gL) (M:Nat→List Int) (cU:s.os.length=s.ws.length) :
 ka Tryz.prog 152 [.pointer (some ⟨b,0,none⟩),.pointer (some ⟨pb,0,none⟩)] (gV b s*eI pb M)
  (fun v=>rc (v=(lq s M).1.v)*(gV b (lq s M).2.1*eI pb (lq s M).2.2)):=by
 intro A F hw l9
 refine ab Tryz.func152 rfl (by kernel_rfl) fun _=>?_
 rw [HP.cq] at l9
 have mg:=(l9.alloc hw (.cells aS true 1))
 have lp:bK (A.alloc (.cells aS true 1)) (gV b s*(eI pb M*(pt A.next (.cells aS true 1)*F))):=mg.dp (by ac_rfl)
 by_cases hdone:s.done=true
 · have hd:=rA b s _ _ lp
   rw [hdone] at hd
   revert hw;refine Wx (J2 (⟨⟩:Ts (fun _=>True) [0,0,0,0,0,0,0,0,0,0,0,0,0,3,0,0,0,2,3,0] (.bu 0 (.bu 1 (.bu 2 (.bu 3 (.bu 4 (.bu 5 (.bu 6 (.bu 7 (.bu 8 (.bu 9 (.bu 10 (.bu 11 (.bu 12 (.sC 13 (.bu 14 (.bu 15 (.bu 16 (.bu 17 (.bu 18 (.bu 19 .nil)))))) 17 (.bu 13 (.bu 14 (.bu 15 (.bu 16 (.bu 18 (.bu 19 .nil))))))))))))))))))))) @hd) (J3 @AW.aa @af.eq_1 @aS.eq_1) (J1 ?_)<;>unhygienic intros
   have dn:lq s M=(bq.zero,s,M):=by unfold lq;rw [if_pos hdone]
   rw [dn]
   refine⟨_,by simp [AW.aa,af];rfl,bK.post (by simp [bq.v,bq.zero]) ?_⟩
   rw [HP.cq]
   exact l9.le hw ((AW.le.alloc A _).set (Nat.le_refl _) _)
 · have hd:=rA b s _ _ lp
   rw [show s.done=false by simpa using hdone] at hd
   obtain⟨os,ws⟩:=s
   cases os with
   | nil=>simp [gL.done] at hdone
   | cons o os=>
   cases ws with
   | nil=>simp at cU
   | cons x ws=>
   have dn:lq ⟨o::os,x::ws⟩ M=(de M 2 1 o (eD x),⟨os,ws⟩,kd M 1 o (eD x)):=by
    unfold lq;rw [if_neg hdone];rfl
   obtain⟨vo,vw,ru⟩:=gV.open l9
   have hg:=ru.cy
   have tq:bK A (ar .i64 vo (o::os)*(pt b (.cells [vo,vw] true 1)*(ar .u64 vw (x::ws)*(eI pb M*F)))):=ru.dp (by ac_rfl)
   have UM:bK A (ar .u64 vw (x::ws)*(pt b (.cells [vo,vw] true 1)*(ar .i64 vo (o::os)*(eI pb M*F)))):=ru.dp (by ac_rfl)
   obtain⟨bo,off,c,dh,rfl,_,nM,GQ,_,_⟩:=ar.at tq (j:=0) (by simp)
   obtain⟨bw,Ty,cw,Tm,rfl,_,My,IU,_,_⟩:=ar.at UM (j:=0) (by simp)
   obtain⟨nb,IB⟩:=hw.dH hg
   obtain⟨no,Kh⟩:=hw.dH nM
   obtain⟨nw,Rd⟩:=hw.dH My
   simp at nM GQ My IU
   revert hw;(repeat first|clear hw|revert hc|revert zn|revert zA|revert R|revert K);refine Wx (J2 @hd (⟨⟩:Ts (fun _=>True) [0,0,0,0,0,0,0,0,0,0,0,0,0,3,0,0,0,2,3,3] (.bu 0 (.bu 1 (.bu 2 (.bu 3 (.bu 4 (.bu 5 (.bu 6 (.bu 7 (.bu 8 (.bu 9 (.bu 10 (.bu 11 (.bu 12 (.sC 13 (.bu 14 (.bu 15 (.bu 16 (.bu 17 (.bu 18 (.bu 19 .nil)))))) 17 (.bu 13 (.bu 14 (.bu 15 (.bu 16 (.bu 18 (.bu 19 .nil)))))))))))))))))))))) (pw hg nM GQ My IU nb IB no Kh nw Rd @AW.aa @af.eq_1 @aS.eq_1) (J2 ?_ ?_)<;>unhygienic intros
   · have rl:bK _ (eI pb M*(gV b ⟨o::os,x::ws⟩*(pt A.next (.cells aS true 1)*F))):=lp.dp (by ac_rfl)
     refine(qe pb M 1 o x).use (hw.alloc _) rl rfl ?_
     intro v A2 ta it tR
     obtain⟨rfl,pQ⟩:=ta.jT
     clear ta
     generalize de M 2 1 o (eD x)=a at dn pQ ⊢
     generalize kd M 1 o (eD x)=M' at dn pQ
     generalize ni M 2 o=er at pQ ⊢
     have EP:bK A2 (gV b ⟨o::os,x::ws⟩*(pt A.next (.cells aS true 1)*(eI pb M'*F))):=pQ.dp (by ac_rfl)
     obtain⟨px,nY,HU⟩:=gV.open EP
     obtain⟨Ad,y6,zX,KI,rfl,oF,HQ,LC,r7⟩:=ar.tl (HU.dp (by ac_rfl):bK A2 (ar .i64 px (o::os)*(pt b (.cells [px,nY] true 1)*(ar .u64 nY (x::ws)*(pt A.next (.cells aS true 1)*(eI pb M'*F))))))
     obtain⟨D0,Dp,DX,yD,rfl,qL,HO,LA,qk⟩:=ar.tl (r7.dp (by ac_rfl):bK A2 (ar .u64 nY (x::ws)*(pt b (.cells [.slice (some ⟨Ad,y6,none⟩) (os.length+1) zX,nY] true 1)*(ar .i64 (.slice (some ⟨Ad,y6+1,none⟩) os.length (zX-1)) os*(pt A.next (.cells aS true 1)*(eI pb M'*F))))))
     have k7:=(qk.dp (by ac_rfl):bK A2 (pt b (.cells [.slice (some ⟨Ad,y6,none⟩) (os.length+1) zX,.slice (some ⟨D0,Dp,none⟩) (ws.length+1) DX] true 1)*(pt A.next (.cells aS true 1)*(ar .i64 (.slice (some ⟨Ad,y6+1,none⟩) os.length (zX-1)) os*(ar .u64 (.slice (some ⟨D0,Dp+1,none⟩) ws.length (DX-1)) ws*(eI pb M'*F))))))
     have qt:=k7.cy
     have pN:=k7.right.cy
     have n1:=k7.ne
     obtain⟨pm,tL⟩:=it.dH qt
     obtain⟨Hu,tJ⟩:=it.dH oF
     obtain⟨Ht,tI⟩:=it.dH qL
     obtain⟨zi,tM⟩:=it.dH pN
     have e1:(1:Int)≤(os.length:Int)+1:=by omega
     have e2:(1:Int)≤(ws.length:Int)+1:=by omega
     have n2:=HQ _ _ _ rfl
     have n3:=HO _ _ _ rfl
     have Dz:A2.next≠b:=fun e=>by rw [←e] at pm;simp at pm
     have FO:A2.next≠A.next:=fun e=>by rw [←e] at zi;simp at zi
     repeat' (first
     | (refine il fun R hR=>?_;simp [ak,au,AW.aa,af,aS,qt,pN,oF,qL,n1,Ne.symm n1,n2,n3,Ne.symm n2,Ne.symm n3,pm,tL,Hu,tJ,Ht,tI,zi,tM,e1,e2,Dz,FO,bq.v,eB];try simp (disch:=omega) only [if_pos,if_neg,ak,au])
     | (refine hR _ _ ?_;clear hR R)|(refine hK _ _ ?_;clear hK K)|refine nx ?_
     | (refine EZ fun R hR=>?_;simp [ak,au,AW.aa,af,aS,qt,pN,oF,qL,n1,Ne.symm n1,n2,n3,Ne.symm n2,Ne.symm n3,pm,tL,Hu,tJ,Ht,tI,zi,tM,e1,e2,Dz,FO,bq.v,eB];try simp (disch:=omega) only [if_pos,if_neg,ak,au])
     | (refine EF (fun R hR=>?_) (fun R hR=>?_)<;>(simp [ak,au,AW.aa,af,aS,qt,pN,oF,qL,n1,Ne.symm n1,n2,n3,Ne.symm n2,Ne.symm n3,pm,tL,Hu,tJ,Ht,tI,zi,tM,e1,e2,Dz,FO,bq.v,eB];try simp (disch:=omega) only [if_pos,if_neg,ak,au]))
     | refine EY ?_
     | refine wn fun K hK=>?_
     | simp only [wS]
     | simp only [hN,nC,jt,Option.map_none,Option.map_some,List.getElem?_toArray,List.getElem?_cons_zero,List.getElem?_cons_succ,List.getD_cons_zero,List.getD_cons_succ,Option.bind_some]
     | (refine ⟨fun A' kL=>by rw [kL]<;>rfl,?_⟩)
     | (refine AC (fun A'=>A'.cy D0=some (.cells yD true 1)) Tryz.mx [(0,0),(1,0),(2,0),(3,0),(4,0),(5,0),(6,0),(7,0),(8,0),(9,0),(10,0),(11,1),(12,0),(13,0),(14,3),(15,0),(16,0),(17,3)] (by decide +kernel) fun K hK=>?_)
     | ((refine wt (fun _=>True) Tryz.mx [] .nil (by decide +kernel) ?_<;>fail))
     | refine wb ?_|refine wr ?_|refine wk ?_|refine we ?_|refine ws ?_|refine wq ?_
     | (refine wc rfl (fun hc=>?_) (fun hc=>?_)<;>(try simp at hc)<;>(try omega))
     | (refine ib (fun hc=>?_) (fun hc=>?_)<;>(try omega)<;>(try simp (disch:=omega) only [if_pos,if_neg])))
     refine⟨_,by simp [AW.aa,af,Dz,FO];rfl,bK.post (by rw [dn];simp [bq.v]) ?_⟩
     rw [dn,HP.cq]
     refine gV.eh (vo:=.slice (some ⟨Ad,y6+1,none⟩) os.length (zX-1)) (vw:=.slice (some ⟨D0,Dp+1,none⟩) ws.length (DX-1)) (bK.Gp k7 (by simp [AW.dW,n1,Dz]) (fun j x h1 h2 hx=>?_))
     have hj:=(it.dH hx).1
     simp [AW.dW,h1,h2,hx,hj]
   · have rl:bK _ (eI pb M*(gV b ⟨o::os,x::ws⟩*(pt (A.next+1) (.cells aS true 1)*(pt A.next (.cells aS true 1)*F)))):=((lp.alloc (hw.alloc _) (.cells aS true 1)).dp (by simp only [AW.aZ];ac_rfl))
     refine(qe pb M 1 o x).use ((hw.alloc _).alloc _) rl rfl ?_
     intro v A2 ta it tR
     obtain⟨rfl,pQ⟩:=ta.jT
     clear ta
     generalize de M 2 1 o (eD x)=a at dn pQ ⊢
     generalize kd M 1 o (eD x)=M' at dn pQ
     generalize ni M 2 o=er at pQ ⊢
     have EP:bK A2 (gV b ⟨o::os,x::ws⟩*(pt (A.next+1) (.cells aS true 1)*(pt A.next (.cells aS true 1)*(eI pb M'*F)))):=pQ.dp (by ac_rfl)
     obtain⟨px,nY,HU⟩:=gV.open EP
     obtain⟨Ad,y6,zX,KI,rfl,oF,HQ,LC,r7⟩:=ar.tl (HU.dp (by ac_rfl):bK A2 (ar .i64 px (o::os)*(pt b (.cells [px,nY] true 1)*(pt (A.next+1) (.cells aS true 1)*(ar .u64 nY (x::ws)*(pt A.next (.cells aS true 1)*(eI pb M'*F)))))))
     obtain⟨D0,Dp,DX,yD,rfl,qL,HO,LA,qk⟩:=ar.tl (r7.dp (by ac_rfl):bK A2 (ar .u64 nY (x::ws)*(pt b (.cells [.slice (some ⟨Ad,y6,none⟩) (os.length+1) zX,nY] true 1)*(pt (A.next+1) (.cells aS true 1)*(ar .i64 (.slice (some ⟨Ad,y6+1,none⟩) os.length (zX-1)) os*(pt A.next (.cells aS true 1)*(eI pb M'*F)))))))
     have k7:=(qk.dp (by ac_rfl):bK A2 (pt b (.cells [.slice (some ⟨Ad,y6,none⟩) (os.length+1) zX,.slice (some ⟨D0,Dp,none⟩) (ws.length+1) DX] true 1)*(pt (A.next+1) (.cells aS true 1)*(pt A.next (.cells aS true 1)*(ar .i64 (.slice (some ⟨Ad,y6+1,none⟩) os.length (zX-1)) os*(ar .u64 (.slice (some ⟨D0,Dp+1,none⟩) ws.length (DX-1)) ws*(eI pb M'*F)))))))
     have qt:=k7.cy
     have tp:=k7.right.cy
     have pN:=k7.right.right.cy
     have n1:=k7.Om
     have n4:=k7.ne
     have n5:=k7.right.ne
     obtain⟨zh,Hy⟩:=it.dH tp
     obtain⟨pm,tL⟩:=it.dH qt
     obtain⟨Hu,tJ⟩:=it.dH oF
     obtain⟨Ht,tI⟩:=it.dH qL
     obtain⟨zi,tM⟩:=it.dH pN
     have e1:(1:Int)≤(os.length:Int)+1:=by omega
     have e2:(1:Int)≤(ws.length:Int)+1:=by omega
     have n2:=HQ _ _ _ rfl
     have n3:=HO _ _ _ rfl
     have n6:=LC _ _ _ _ _ rfl
     have n7:=LA _ _ _ _ _ rfl
     have Dz:A2.next≠b:=fun e=>by rw [←e] at pm;simp at pm
     have FO:A2.next≠A.next:=fun e=>by rw [←e] at zi;simp at zi
     repeat' (first
     | (refine il fun R hR=>?_;simp [ak,au,AW.aa,af,aS,qt,pN,tp,n6,n7,Ne.symm n6,Ne.symm n7,n4,n5,Ne.symm n4,Ne.symm n5,zh,Hy,oF,qL,n1,Ne.symm n1,n2,n3,Ne.symm n2,Ne.symm n3,pm,tL,Hu,tJ,Ht,tI,zi,tM,e1,e2,Dz,FO,bq.v,eB];try simp (disch:=omega) only [if_pos,if_neg,ak,au])
     | (refine hR _ _ ?_;clear hR R)|(refine hK _ _ ?_;clear hK K)|refine nx ?_
     | (refine EZ fun R hR=>?_;simp [ak,au,AW.aa,af,aS,qt,pN,tp,n6,n7,Ne.symm n6,Ne.symm n7,n4,n5,Ne.symm n4,Ne.symm n5,zh,Hy,oF,qL,n1,Ne.symm n1,n2,n3,Ne.symm n2,Ne.symm n3,pm,tL,Hu,tJ,Ht,tI,zi,tM,e1,e2,Dz,FO,bq.v,eB];try simp (disch:=omega) only [if_pos,if_neg,ak,au])
     | (refine EF (fun R hR=>?_) (fun R hR=>?_)<;>(simp [ak,au,AW.aa,af,aS,qt,pN,tp,n6,n7,Ne.symm n6,Ne.symm n7,n4,n5,Ne.symm n4,Ne.symm n5,zh,Hy,oF,qL,n1,Ne.symm n1,n2,n3,Ne.symm n2,Ne.symm n3,pm,tL,Hu,tJ,Ht,tI,zi,tM,e1,e2,Dz,FO,bq.v,eB];try simp (disch:=omega) only [if_pos,if_neg,ak,au]))
     | refine EY ?_
     | refine wn fun K hK=>?_
     | simp only [wS]
     | simp only [hN,nC,jt,Option.map_none,Option.map_some,List.getElem?_toArray,List.getElem?_cons_zero,List.getElem?_cons_succ,List.getD_cons_zero,List.getD_cons_succ,Option.bind_some]
     | (refine ⟨fun A' kL=>by rw [kL]<;>rfl,?_⟩)
     | (refine AC (fun A'=>A'.cy D0=some (.cells yD true 1)) Tryz.mx [(0,0),(1,0),(2,0),(3,0),(4,0),(5,0),(6,0),(7,0),(8,0),(9,0),(10,0),(11,1),(12,0),(13,0),(14,3),(15,0),(16,0),(17,3)] (by decide +kernel) fun K hK=>?_)
     | ((refine wt (fun _=>True) Tryz.mx [] .nil (by decide +kernel) ?_<;>fail))
     | refine wb ?_|refine wr ?_|refine wk ?_|refine we ?_|refine ws ?_|refine wq ?_
     | (refine wc rfl (fun hc=>?_) (fun hc=>?_)<;>(try simp at hc)<;>(try omega))
     | (refine ib (fun hc=>?_) (fun hc=>?_)<;>(try omega)<;>(try simp (disch:=omega) only [if_pos,if_neg])))
     refine⟨_,by simp [AW.aa,af,n1,n4,n5,Ne.symm n1,Ne.symm n4,Ne.symm n5];rfl,bK.post (by rw [dn];simp [bq.v]) ?_⟩
     rw [dn,HP.cq]
     refine gV.eh (vo:=.slice (some ⟨Ad,y6+1,none⟩) os.length (zX-1)) (vw:=.slice (some ⟨D0,Dp+1,none⟩) ws.length (DX-1)) (bK.Ct k7 (by simp [AW.dW,n1,n4]) (fun j x h1 h2 h3 hx=>?_))
     simp [AW.dW,h1,h2,h3,hx]
end
section
abbrev nU:List (Nat×Nat):=[(0,0),(1,0),(2,0),(3,0),(4,0),(6,0),(7,0),(8,0),(9,0),(10,0),(12,0),(13,0),(14,0),(15,0),(16,0),(17,0),(18,0),(19,0),(20,0),(21,0),(22,0),(23,0),(24,0),(25,0),(26,0),(27,0),(28,0),(29,0),(30,0),(31,0),(32,0),(33,0),(34,0),(35,0),(36,0),(37,0),(39,0),(40,0),(41,0),(42,0),(43,0),(45,0),(46,0),(47,0),(48,0),(49,0),(5,2),(11,2),(38,2),(44,2),(50,2),(51,0),(52,3)]
open T0
theorem eI.eA {A:AW} {pb:Nat} {M:Nat→List Int} {F:HP} (h:bK A (eI pb M*F)) :
 ∃(r:Nat) (pY:List (Value×Value)) (vs:Nat→Value),A.cy pb=some (.cells [.map (some r)] true 1)∧A.cy r=some (.map pY true)∧(∀k:Nat,k<8→∃q,gx (.int .i64) (.int .i64 ((k:Int)+1)) pY 0=some (some (q,vs k)))∧∀k:Nat,k<8→cF A .u64 (vs k) (M k):=by
 obtain⟨r,vs,hS⟩:=eI.open h
 have NC:=hS.cy
 obtain⟨pY,NB,re,_⟩:=fX.eA hS.right
 refine⟨r,pY,vs,NC,NB,fun k hk=>re .i64 _ _ ?_,fun k hk=>?_⟩
 · have:(1:Int)≤k+1∧(k:Int)+1≤8:=by omega
   simp only [sY,if_pos this]
   congr 2
   omega
 · exact ar.is (bK.pick (f:=fun k=>ar .u64 (vs k) (M k)) hS.right.right hk)
def q8 (A:AW) (v:Value) (M:Nat→List Int):Prop:=
 ∃v0 v1 v5 v6 v7,v=.agg #[v0,v1,.int .u64 ((M 2).getD 0 0),.int .u64 ((M 3).getD 0 0),.int .u64 ((M 4).getD 0 0),v5,v6,v7]∧
  cF A .u64 v0 (M 0)∧cF A .u64 v1 (M 1)∧cF A .u64 v5 (M 5)∧cF A .u64 v6 (M 6)∧cF A .u64 v7 (M 7)
def BC:List Value:=[.slice none 0 0,.slice none 0 0,.int .u64 0,.int .u64 0,.int .u64 0,.slice none 0 0,.slice none 0 0,.slice none 0 0]
theorem zy (pb:Nat) (M:Nat→List Int) (A:AW) (F:HP) (h:bK A (eI pb M*F)) (cU:∀k,k<8→(M k).length<2^39) (h2:0<(M 2).length) (h3:0<(M 3).length) (h4:0<(M 4).length) :
 aH Tryz.prog 20 [.pointer (some ⟨pb,0,none⟩)] A (fun v A'=>q8 A' v M∧A.le A'):=by
 refine ab Tryz.func20 rfl (by kernel_rfl) fun hw=>?_
 obtain⟨r,pY,vs,NC,NB,re,OI⟩:=eI.eA h
 obtain⟨q0,f0⟩:=re 0 (by omega)
 have f0:gx (.int .i64) (.int .i64 1) pY 0=some (some (q0,vs 0)):=f0
 obtain⟨q1,f1⟩:=re 1 (by omega)
 have f1:gx (.int .i64) (.int .i64 2) pY 0=some (some (q1,vs 1)):=f1
 obtain⟨q2,f2⟩:=re 2 (by omega)
 have f2:gx (.int .i64) (.int .i64 3) pY 0=some (some (q2,vs 2)):=f2
 obtain⟨q3,f3⟩:=re 3 (by omega)
 have f3:gx (.int .i64) (.int .i64 4) pY 0=some (some (q3,vs 3)):=f3
 obtain⟨q4,f4⟩:=re 4 (by omega)
 have f4:gx (.int .i64) (.int .i64 5) pY 0=some (some (q4,vs 4)):=f4
 obtain⟨q5,f5⟩:=re 5 (by omega)
 have f5:gx (.int .i64) (.int .i64 6) pY 0=some (some (q5,vs 5)):=f5
 obtain⟨q6,f6⟩:=re 6 (by omega)
 have f6:gx (.int .i64) (.int .i64 7) pY 0=some (some (q6,vs 6)):=f6
 obtain⟨q7,f7⟩:=re 7 (by omega)
 have f7:gx (.int .i64) (.int .i64 8) pY 0=some (some (q7,vs 7)):=f7
 obtain⟨np,Rf⟩:=hw.dH NC
 obtain⟨nr,Re⟩:=hw.dH NB
 have i2:=OI 2 (by omega)
 have i3:=OI 3 (by omega)
 have i4:=OI 4 (by omega)
 obtain⟨o2,c2,e2,_⟩:=i2.cL
 obtain⟨o3,c3,e3,_⟩:=i3.cL
 obtain⟨o4,c4,e4,_⟩:=i4.cL
 rw [e2] at i2 f2
 rw [e3] at i3 f3
 rw [e4] at i4 f4
 obtain⟨p2,r2,w2,rfl,g2,d2⟩:=i2.Ku h2
 obtain⟨n2,Xh⟩:=hw.dH g2
 obtain⟨p3,r3,w3,rfl,g3,d3⟩:=i3.Ku h3
 obtain⟨n3,Ri⟩:=hw.dH g3
 obtain⟨p4,r4,w4,rfl,g4,d4⟩:=i4.Ku h4
 obtain⟨n4,Xg⟩:=hw.dH g4
 simp only [Nat.add_zero] at d2 d3 d4
 revert hw;refine W (J1 (od nU)) (pw NC NB np Rf nr Re f0 f1 f2 f3 f4 f5 f6 (pw f7 g2 g3 g4 d2 d3 d4 n2 n3 n4 Xh Ri Xg (J4 h2 h3 h4 @AW.aa))) (J1 ?_)<;>unhygienic intros
 have Vx:A.le (A.alloc (.cells BC true 1)):=AW.le.alloc A _
 have Nf:=hw.alloc (.cells BC true 1)
 have X6:(A.alloc (.cells BC true 1)).cy A.next=some (.cells BC true 1):=AW.gO _ _
 refine bD (ir (vs 0) (M 0) (A.alloc (.cells BC true 1)) ((OI 0 (by omega)).le Vx hw) (cU 0 (by omega))) ?_
 rintro v0 B0 ⟨Vn,m0⟩ Vf _
 obtain⟨Xd,YL,rfl,_⟩:=Vn.is.cL
 have Vy:=Vx.trans m0
 have z0:=m0.iU Nf X6
 refine⟨m0,?_⟩
 revert hw;(repeat first|clear hw|revert hc|revert zn|revert zA|revert R|revert K);refine W (J1 (od nU)) (J4 z0 @AW.aa @af.eq_1 @BC.eq_1) (J1 ?_)<;>unhygienic intros
 refine bD (ir (vs 1) (M 1) _ ((OI 1 (by omega)).le Vy hw) (cU 1 (by omega))) ?_
 rintro v1 B1 ⟨Vm,m1⟩ Ti _
 obtain⟨Xc,YK,rfl,_⟩:=Vm.is.cL
 have Vw:=Vy.trans m1
 have z1:=m1.iU Vf z0
 refine⟨m1,?_⟩
 revert hw;(repeat first|clear hw|revert hc|revert zn|revert zA|revert R|revert K);refine W (J1 (od nU)) (J4 z1 @AW.aa @af.eq_1 @BC.eq_1) (J1 ?_)<;>unhygienic intros
 refine bD (ir (vs 5) (M 5) _ ((OI 5 (by omega)).le Vw hw) (cU 5 (by omega))) ?_
 rintro v5 B2 ⟨Vl,m5⟩ Sx _
 obtain⟨Xa,YI,rfl,_⟩:=Vl.is.cL
 have Vv:=Vw.trans m5
 have z2:=m5.iU Ti z1
 refine⟨m5,?_⟩
 revert hw;(repeat first|clear hw|revert hc|revert zn|revert zA|revert R|revert K);refine W (J1 (od nU)) (J4 z2 @AW.aa @af.eq_1 @BC.eq_1) (J1 ?_)<;>unhygienic intros
 refine bD (ir (vs 6) (M 6) _ ((OI 6 (by omega)).le Vv hw) (cU 6 (by omega))) ?_
 rintro v6 B3 ⟨Vk,m6⟩ QV _
 obtain⟨W9,YH,rfl,_⟩:=Vk.is.cL
 have Vu:=Vv.trans m6
 have z3:=m6.iU Sx z2
 refine⟨m6,?_⟩
 revert hw;(repeat first|clear hw|revert hc|revert zn|revert zA|revert R|revert K);refine W (J1 (od nU)) (J4 z3 @AW.aa @af.eq_1 @BC.eq_1) (J1 ?_)<;>unhygienic intros
 refine bD (ir (vs 7) (M 7) _ ((OI 7 (by omega)).le Vu hw) (cU 7 (by omega))) ?_
 rintro v7 B4 ⟨Vj,m7⟩ Y8 _
 obtain⟨W8,YG,rfl,_⟩:=Vj.is.cL
 have Xi:=Vu.trans m7
 have z4:=m7.iU QV z3
 refine⟨m7,?_⟩
 revert hw;(repeat first|clear hw|revert hc|revert zn|revert zA|revert R|revert K);refine W (J1 (od nU)) (J4 z4 @AW.aa @af.eq_1 @BC.eq_1) (J1 ?_)<;>unhygienic intros
 have gd:∀(l:List Int) (h:0<l.length),l[0]=l.getD 0 0:=fun l hl=>by
  rw [List.getD_eq_getElem?_getD,List.getElem?_eq_getElem hl];rfl
 have hB:A.next+1≤B0.next∧B0.next≤B1.next∧B1.next≤B2.next∧B2.next≤B3.next∧B3.next≤B4.next:=⟨m0.next,m1.next,m5.next,m6.next,m7.next⟩
 have iU:∀{v:Value} {l:List Int} {n:Nat} (x:ef),A.next<n→dk n B4 .u64 v l→cF (B4.set A.next (some x)) .u64 v l:=by
  intro v l n x hn ho
  rcases ho with ⟨e1,e2,e3⟩|⟨p,c,dh,e1,e2,e3,e4,e5,e6,e7⟩
  · exact .inl ⟨⟨none,e1⟩,e2,e3⟩
  · exact .inr ⟨p,c,dh,true,1,e1,e2,by rw [AW.cX (by omega)];exact e5,rfl,e6,e7⟩
 refine⟨_,by first|(simp [AW.dW,AW.aa];done)|(simp [AW.dW,AW.aa];rfl),⟨.slice Xd (M 0).length YL,.slice Xc (M 1).length YK,.slice Xa (M 5).length YI,.slice W9 (M 6).length YH,.slice W8 (M 7).length YG,?_,?_,?_,?_,?_,?_⟩,?_⟩
 · rw [gd _ h2,gd _ h3,gd _ h4]
 · exact iU _ (by simp) ((((Vn.le m1 Vf).le m5 Ti).le m6 Sx).le m7 QV)
 · exact iU _ (by omega) (((Vm.le m5 Ti).le m6 Sx).le m7 QV)
 · exact iU _ (by omega) ((Vl.le m6 Sx).le m7 QV)
 · exact iU _ (by omega) (Vk.le m7 QV)
 · exact iU _ (by omega) Vj
 · exact Xi.set (Nat.le_refl _) _
end
end Go.Stx
