/-
 The program's cells: what each operation on them does.
-/
import Derived.Test.YtncmjklabcoeaaaGreatD01
set_option linter.unusedVariables false
set_option linter.unusedSimpArgs false
set_option maxRecDepth 20000
set_option maxHeartbeats 4000000
namespace Go.Stx
open Go Go.Proofs
attribute [local irreducible] fj cm aH bB dK ei
open T0
def sY (vs:Nat→Value) (a:Int):Option Value:=if 1≤a∧a≤8 then some (vs (a-1).toNat) else none
def eI (pb:Nat) (M:Nat→List Int):HP:=
 rt fun r:Nat=>rt fun vs:Nat→Value=>
  pt pb (.cells [.map (some r)] true 1)*(fX .i64 r (sY vs)*j8 (fun k=>ar .u64 (vs k) (M k)) 8)
theorem eI.open {A:AW} {pb:Nat} {M:Nat→List Int} {F:HP} (h:bK A (eI pb M*F)) :
 ∃r vs,bK A (pt pb (.cells [.map (some r)] true 1)*(fX .i64 r (sY vs)*(j8 (fun k=>ar .u64 (vs k) (M k)) 8*F))):=by
 unfold eI at h
 rw [bK.ex] at h
 obtain⟨r,h⟩:=h
 rw [bK.ex] at h
 obtain⟨vs,h⟩:=h
 rw [HP.cq,HP.cq] at h
 exact⟨r,vs,h⟩
theorem eI.eh {A:AW} {pb:Nat} {M:Nat→List Int} {F:HP} {r:Nat} {vs:Nat→Value} (h:bK A (pt pb (.cells [.map (some r)] true 1)*(fX .i64 r (sY vs)*(j8 (fun k=>ar .u64 (vs k) (M k)) 8*F)))) :
 bK A (eI pb M*F):=by
 unfold eI
 rw [bK.ex]
 refine⟨r,?_⟩
 rw [bK.ex]
 refine⟨vs,?_⟩
 rw [HP.cq,HP.cq]
 exact h
structure bq where
 eV:Int
 cell:Int
 cc:Int
 fI:Int
 put:Int
 done:Bool
deriving DecidableEq
def bq.v (a:bq):Value:=.agg #[.int .i64 a.eV,.int .i64 a.cell,.int .i64 a.cc,.int .u64 a.fI,.int .u64 a.put,.bool a.done]
def bq.cells (a:bq):List Value:=[.int .i64 a.eV,.int .i64 a.cell,.int .i64 a.cc,.int .u64 a.fI,.int .u64 a.put,.bool a.done]
def bq.zero:bq:=⟨0,0,0,0,0,false⟩
def eJ (M:Nat→List Int) (cell:Int):List Int:=if 1≤cell∧cell≤8 then M (cell-1).toNat else []
def setRow (M:Nat→List Int) (cell cc v:Int):Nat→List Int:=fun k=>if k=(cell-1).toNat then (M k).set cc.toNat v else M k
def dw (M:Nat→List Int) (cell cc:Int):Bool:=decide (0≤cc∧cc<(eJ M cell).length)
def de (M:Nat→List Int) (eV cell cc:Int) (g:Int→Int×Bool):bq:=
 if dw M cell cc=true then
  let fI:=(eJ M cell).getD cc.toNat 0
  ⟨eV,cell,cc,fI,if (g fI).2=true then (g fI).1 else fI,(g fI).2⟩
 else bq.zero
def ni (M:Nat→List Int) (cell cc:Int):Int:=if dw M cell cc=true then 0 else 60
def M2 (M:Nat→List Int) (eV cell cc:Int) (g:Int→Int×Bool):Value:=.tuple #[(de M eV cell cc g).v,.int .i64 (ni M cell cc)]
def kd (M:Nat→List Int) (cell cc:Int) (g:Int→Int×Bool):Nat→List Int:=
 if dw M cell cc=true∧(g ((eJ M cell).getD cc.toNat 0)).2=true then setRow M cell cc (g ((eJ M cell).getD cc.toNat 0)).1 else M
def aS:List Value:=[.int .i64 0,.int .i64 0,.int .i64 0,.int .u64 0,.int .u64 0,.bool false]
theorem nG (pb:Nat) (M:Nat→List Int) (eV cell cc:Int) (fc:FuncId) (fs cs:Array Value) (C:HP) (g:Int→Int×Bool)
 (iz:∀dH,ka Tryz.prog fc (fs.toList++.int .u64 dH::cs.toList) C (fun v=>rc (v=.tuple #[.int .u64 (g dH).1,.bool (g dH).2])*C)) :
 ka Tryz.prog 158 [.pointer (some ⟨pb,0,none⟩),.int .i64 eV,.int .i64 cell,.int .i64 cc,.func (.func fc) fs cs] (eI pb M*C)
  (fun v=>rc (v=M2 M eV cell cc g)*(eI pb (kd M cell cc g)*C)):=by
 intro A F Nf hS
 refine ab Tryz.func158 rfl (by kernel_rfl) fun hw=>?_
 rw [HP.cq] at hS
 obtain⟨r,vs,hS⟩:=eI.open hS
 have NC:=hS.cy
 have lp:bK A (fX .i64 r (sY vs)*(pt pb (.cells [.map (some r)] true 1)*(j8 (fun k=>ar .u64 (vs k) (M k)) 8*(C*F)))):=hS.dp (by ac_rfl)
 obtain⟨pY,NB,re,LB,ru,V7⟩:=fX.eA lp
 obtain⟨np,Rf⟩:=hw.dH NC
 obtain⟨nr,Re⟩:=hw.dH NB
 by_cases dg:1≤cell∧cell≤8
 · obtain⟨k,hk⟩:∃k,k=(cell-1).toNat:=⟨_,rfl⟩
   have eH:eJ M cell=M k:=by rw [hk];exact if_pos dg
   have wP:=re .i64 cell (vs k) (by simp [sY,dg,hk])
   obtain⟨q,wP⟩:=wP
   have VV:k<8:=by omega
   have rl:bK A (ar .u64 (vs k) (M k)*(j8 (pz (fun k=>ar .u64 (vs k) (M k)) k fa) 8*(pt pb (.cells [.map (some r)] true 1)*(fX .i64 r (sY vs)*(C*F))))):=
    bK.pick (f:=fun k=>ar .u64 (vs k) (M k)) (F:=pt pb (.cells [.map (some r)] true 1)*(fX .i64 r (sY vs)*(C*F))) (hS.dp (by ac_rfl)) VV
   by_cases tm:0≤cc∧cc<(M k).length
   · have Pk:dw M cell cc=true:=by simpa [dw,eH] using tm
     obtain⟨j,hj⟩:∃j,j=cc.toNat:=⟨_,rfl⟩
     have vz:j<(M k).length:=by omega
     have mn:cc=(j:Int):=by omega
     subst mn
     have PI:(j:Int)<(M k).length:=by omega
     obtain⟨b,off,c,dh,hv,P2,qt,P1,lm,_⟩:=ar.at rl vz
     rw [hv] at wP
     have PN:(eJ M cell).getD (j:Int).toNat 0=(M k)[j]:=by rw [eH,←hj,List.getD_eq_getElem?_getD,List.getElem?_eq_getElem vz];rfl
     obtain⟨nb,IB⟩:=hw.dH qt
     revert hS hw;clear hS;refine W trivial (pw NC NB qt P1 wP np Rf nr Re nb IB PI vz (J2 @AW.aa @af.eq_1)) (J1 ?_)<;>unhygienic intros
     have mg:bK (A.alloc (.cells aS true 1)) (C*(pt A.next (.cells aS true 1)*(ar .u64 (vs k) (M k)*(j8 (pz (fun k=>ar .u64 (vs k) (M k)) k fa) 8*(pt pb (.cells [.map (some r)] true 1)*(fX .i64 r (sY vs)*F)))))):=
      (rl.alloc hw _).dp (by ac_rfl)
     refine(iz _).use (hw.alloc _) mg rfl ?_
     intro v A2 pQ it _
     obtain⟨rfl,ta⟩:=pQ.jT
     clear pQ
     have ru:bK A2 (ar .u64 (vs k) (M k)*(pt A.next (.cells aS true 1)*(C*(j8 (pz (fun k=>ar .u64 (vs k) (M k)) k fa) 8*(pt pb (.cells [.map (some r)] true 1)*(fX .i64 r (sY vs)*F)))))):=ta.dp (by ac_rfl)
     have VY:=(show bK A2 (pt A.next (.cells aS true 1)*(ar .u64 (vs k) (M k)*(C*(j8 (pz (fun k=>ar .u64 (vs k) (M k)) k fa) 8*(pt pb (.cells [.map (some r)] true 1)*(fX .i64 r (sY vs)*F)))))) from ta.dp (by ac_rfl)).cy
     clear qt P1 lm
     obtain⟨b',Xe,c',MW,Mr,_,qt,P1,lm,fz⟩:=ar.at ru vz
     rw [hv] at Mr
     injection Mr with e1 e2 e3
     injection e1 with e1
     injection e1 with e1 e4
     subst e1;subst e4;subst e3
     have ke:(b=A.next)=False:=nb
     have RE:(A.next=b)=False:=eq_false fun e=>by rw [e] at ke;simp at ke
     have cC:∀(A3:AW) (L:List Int) (x:ef),bK A3 (ar .u64 (vs k) L*(pt A.next (.cells aS true 1)*(C*(j8 (pz (fun k=>ar .u64 (vs k) (M k)) k fa) 8*(pt pb (.cells [.map (some r)] true 1)*(fX .i64 r (sY vs)*F))))))→
      bK (A3.set A.next (some x)) (eI pb (fun q=>if q=k then L else M q)*(C*F)):=by
      intro A3 L x h
      have h1:bK A3 (pt A.next (.cells aS true 1)*(ar .u64 (vs k) L*(j8 (pz (fun k=>ar .u64 (vs k) (M k)) k fa) 8*(pt pb (.cells [.map (some r)] true 1)*(fX .i64 r (sY vs)*(C*F)))))):=h.dp (by ac_rfl)
      have h2:=bK.put (f:=fun k=>ar .u64 (vs k) (M k)) (h1.set x).right VV
      have e:pz (fun k=>ar .u64 (vs k) (M k)) k (ar .u64 (vs k) L)=fun q=>ar .u64 (vs q) (if q=k then L else M q):=by
       funext q
       simp only [pz]
       split
       · rename_i e;rw [e]
       · rfl
      rw [e] at h2
      exact eI.eh (r:=r) (vs:=vs) (h2.dp (by ac_rfl))
     have UH:off+j+1≤MW.length:=by omega
     have Mu:M2 M eV cell (j:Int) g=.tuple #[(bq.mk eV cell j (M k)[j] (if (g (M k)[j]).2=true then (g (M k)[j]).1 else (M k)[j]) (g (M k)[j]).2).v,.int .i64 0]:=by
      unfold M2 de ni;rw [if_pos Pk,if_pos Pk,PN]
     cases pM:(g (M k)[j]).2
     · repeat' (first
     | (refine il fun R hR=>?_;simp [ak,au,VY,qt,P1,ke,RE,AW.aa,af,PI,vz,aS,pM];try simp (disch:=omega) only [if_pos,if_neg,ak,au])
     | (refine hR _ _ ?_;clear hR R)|(refine hK _ _ ?_;clear hK K)|refine nx ?_
     | refine wn fun K hK=>?_
     | simp only [wS]
     | refine wb ?_|refine wr ?_|refine wk ?_|refine we ?_|refine ws ?_|refine wq ?_
     | (refine wc rfl (fun hc=>?_) (fun hc=>?_)<;>(try simp at hc)<;>(try omega))
     | (refine ib (fun hc=>?_) (fun hc=>?_)<;>(try omega)<;>(try simp (disch:=omega) only [if_pos,if_neg])))
       refine⟨_,by simp [AW.fZ,AW.dW,AW.aa,af];rfl,bK.post (by simp [Mu,bq.v,pM]) ?_⟩
       have hM:kd M cell (j:Int) g=fun q=>if q=k then M k else M q:=by
        funext q
        simp only [kd,PN,pM]
        simp only [Bool.false_eq_true,and_false,if_false]
        split
        · rename_i e;rw [e]
        · rfl
       rw [hM,HP.cq]
       exact cC A2 (M k) _ ru
     · have UE:(MW.set (off+j) (Value.int .u64 (g (M k)[j]).1))[off+j]? = some (Value.int .u64 (g (M k)[j]).1):=List.getElem?_set_self (by omega)
       revert hS hw;(repeat first|clear hS|clear hw|revert hc|revert zn|revert zA|revert R|revert K);refine W trivial (Mk VY qt P1 UE ke RE UH PI vz pM @AW.aa @af.eq_1 @aS.eq_1) (J1 ?_)<;>unhygienic intros
       refine⟨_,by simp [AW.fZ,AW.dW,AW.aa,af];rfl,bK.post (by simp [Mu,bq.v,pM]) ?_⟩
       have hM:kd M cell (j:Int) g=fun q=>if q=k then (M k).set j (g (M k)[j]).1 else M q:=by
        have e0:kd M cell (j:Int) g=setRow M cell j (g (M k)[j]).1:=by unfold kd;rw [PN,if_pos ⟨Pk,pM⟩]
        rw [e0]
        funext q
        simp only [setRow,←hk,←hj]
        by_cases e:q=k
        · rw [if_pos e,if_pos e,e]
        · rw [if_neg e,if_neg e]
       rw [hM,HP.cq]
       exact cC _ _ _ (fz _)
   · obtain⟨o,c,hv,_⟩:=(ar.is rl).cL
     rw [hv] at wP
     have xJ:dw M cell cc=false:=by simpa [dw,eH] using tm
     repeat' (first
     | (refine il fun R hR=>?_;simp [ak,au,NC,NB,wP,np,Rf,nr,Re,AW.aa,af,tm];try simp (disch:=omega) only [if_pos,if_neg,ak,au])
     | (refine hR _ _ ?_;clear hR R)|(refine hK _ _ ?_;clear hK K)|refine nx ?_
     | refine wn fun K hK=>?_
     | simp only [wS]
     | refine wb ?_|refine wr ?_|refine wk ?_|refine we ?_|refine ws ?_|refine wq ?_
     | (refine wc rfl (fun hc=>?_) (fun hc=>?_)<;>(try simp at hc)<;>(try omega))
     | (refine ib (fun hc=>?_) (fun hc=>?_)<;>(try omega)<;>(try simp (disch:=omega) only [if_pos,if_neg])))
     all_goals
      refine⟨_,by simp [AW.fZ,AW.dW,AW.aa,af];rfl,bK.post (by simp [M2,de,ni,xJ,bq.v,bq.zero]) ?_⟩
      have hM:kd M cell cc g=M:=by simp [kd,xJ]
      rw [hM,HP.cq]
      exact(eI.eh hS).le hw (((AW.le.alloc A _).set (Nat.le_refl _) _))
 · have wP:=LB .i64 cell (by simp [sY,dg])
   have eH:eJ M cell=[]:=if_neg dg
   have xJ:dw M cell cc=false:=by simp [dw,eH]
   repeat' (first
   | (refine il fun R hR=>?_;simp [ak,au,NC,NB,wP,np,Rf,nr,Re,AW.aa,af];try simp (disch:=omega) only [if_pos,if_neg,ak,au])
   | (refine hR _ _ ?_;clear hR R)|(refine hK _ _ ?_;clear hK K)|refine nx ?_
   | refine wn fun K hK=>?_
   | simp only [wS]
   | refine wb ?_|refine wr ?_|refine wk ?_|refine we ?_|refine ws ?_|refine wq ?_
   | (refine wc rfl (fun hc=>?_) (fun hc=>?_)<;>(try simp at hc)<;>(try omega))
   | (refine ib (fun hc=>?_) (fun hc=>?_)<;>(try omega)<;>(try simp (disch:=omega) only [if_pos,if_neg])))
   all_goals first
    | (exfalso;omega)
    | (refine ⟨_,(by simp [AW.fZ,AW.dW,AW.aa,af];rfl),bK.post (by simp [M2,de,ni,xJ,bq.v,bq.zero]) ?_⟩
       have hM:kd M cell cc g=M:=by simp [kd,xJ]
       rw [hM,HP.cq]
       exact(eI.eh hS).le hw (((AW.le.alloc A _).set (Nat.le_refl _) _)))
end Go.Stx
