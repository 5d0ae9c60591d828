/-
 The reference's machine that stores.
-/
import Derived.Test.YtncmjklabcoeaaaGreatG11
import Derived.Test.YtncmjklabcoeaaaGreatG09
import Derived.Test.YtncmjklabcoeaaaGreatG08
set_option linter.unusedVariables false
set_option linter.unusedSimpArgs false
set_option maxRecDepth 20000
set_option maxHeartbeats 4000000
namespace Go.Stx
open Go Go.Proofs
attribute [local irreducible] fj cm aH bB dK ei
section
abbrev Fy:List (Nat×Nat):=[(0,0),(1,0),(2,0),(3,0),(4,0),(5,0),(6,0),(7,0),(8,2),(9,0)]
abbrev KW:List (Nat×Nat):=[(0,0),(1,0),(2,0),(3,0),(4,0),(5,0),(6,0),(7,0),(8,0),(9,0),(10,0)]
abbrev zb:List (Nat×Nat):=[(0,0),(1,0),(2,0),(3,0),(4,0),(5,0),(6,0),(7,0),(8,0),(9,0),(10,0),(11,0),(12,0),(13,0),(14,0),(15,0),(16,0),(17,0),(18,0),(19,0),(20,0),(21,0),(22,0),(23,0),(24,0),(25,0),(26,0),(27,3),(28,3)]
open T0
def gp (cell:Int) (vo vw:Value) (cj:Nat):ef:=.cells [.int .i64 cell,vo,vw,.int .i64 cj] true 1
theorem oB (cell:Int) (o o':Option Addr) (n c c':Nat) (A:AW) (hc:n≤c) (LL:n≤c') :
 aH Tryz.prog 204 [.int .i64 cell,.slice o n c,.slice o' n c'] A (fun v A'=>v=.pointer (some ⟨A.next,0,none⟩)∧A'=A.alloc (gp cell (.slice o n c) (.slice o' n c') 0)):=by
 refine ab Tryz.func204 rfl (by kernel_rfl) fun _=>?_
 rcases o with _|p<;>rcases o' with _|q
 all_goals
  repeat' (first
  | (refine il fun R hR=>?_;simp [ak,au,eB,hc,LL];try simp (disch:=omega) only [if_pos,if_neg,ak,au])
  | (refine hR _ _ ?_;clear hR R)|(refine hK _ _ ?_;clear hK K)|refine nx ?_
  | refine wn fun K hK=>?_
  | simp only [wS,Fy]
  | refine wl Tryz.mx Fy (by decide +kernel) fun K hK=>?_
  | refine wb ?_|refine wr ?_|refine wk ?_|refine we ?_|refine ws ?_|refine wq ?_
  | (refine wc rfl (fun hc=>?_) (fun hc=>?_)<;>(try simp at hc)<;>(try omega))
  | (refine ib (fun hc=>?_) (fun hc=>?_)<;>(try omega)<;>(try simp (disch:=omega) only [if_pos,if_neg])))
  exact⟨_,by first|(simp;done)|(simp;rfl),rfl,rfl⟩
theorem kW (b:Nat) (cell:Int) (vo vw:Value) (o:Option Addr) (n c k:Nat) (A:AW) (hv:vo=.slice o n c) (hg:A.cy b=some (gp cell vo vw k)) :
 aH Tryz.prog 102 [.pointer (some ⟨b,0,none⟩)] A (fun v A'=>v=.bool (decide (k=n))∧A=A'):=by
 refine ab Tryz.func102 rfl (by kernel_rfl) fun hw=>?_
 subst hv
 unfold gp at hg
 revert hw;refine W (J1 (od KW)) (J2 hg @AW.aa) (J1 ?_)<;>unhygienic intros
 simp
 omega
theorem ar.Wu {A:AW} {k:IntKind} {v:Value} {l:List Int} {F:HP} (h:bK A (ar k v l*F)) {j:Nat} (hj:j<l.length) :
 ∃b off c dh,v=.slice (some ⟨b,off,none⟩) l.length c∧A.cy b=some (.cells dh true 1)∧dh[off+j]? = some (.int k (l.getD j 0))∧∀i o F',F=pt i o*F'→b≠i:=by
 rcases jo.cases h with ⟨_,h0,_⟩|⟨b,off,c,dh,rfl,h1,h2,h3,h4⟩
 · omega
 · rw [Nat.mul_one] at h2 h3
   refine⟨b,off,c,dh,rfl,h4.cy,?_,fun i o F' e=>by subst e;exact h4.ne⟩
   have:dh[off+j]? = (l.map (Value.int k))[j]?:=by rw [h3,List.getElem?_take_of_lt hj,List.getElem?_drop]
   rw [this,List.getElem?_map,List.getElem?_eq_getElem hj,List.getD_eq_getElem?_getD,List.getElem?_eq_getElem hj];rfl
def kl (cell:Int) (cc aF:List Int) (k:Nat) (M:Nat→List Int):bq×Nat×(Nat→List Int):=
 if k=cc.length then (bq.zero,k,M)
 else (de M 2 cell (cc.getD k 0) (eD (aF.getD k 0)),k+1,kd M cell (cc.getD k 0) (eD (aF.getD k 0)))
def lY (b:Nat) (cell:Int) (vo vw:Value) (k:Nat) (cc aF:List Int):HP:=pt b (gp cell vo vw k)*(ar .i64 vo cc*ar .u64 vw aF)
theorem xj (cf:bG) (b mb:Nat) (cell:Int) (vo vw:Value) (k:Nat) (cc aF:List Int) (M:Nat→List Int) (hM:fE M) (he:cc.length=aF.length) (hk:k≤cc.length) (hl:cc.length<2^38) :
 ka Tryz.prog 101 [.pointer (some ⟨b,0,none⟩),.pointer (some ⟨mb,0,none⟩)] (lY b cell vo vw k cc aF*eX cf mb M)
  (fun v=>rc (v=(kl cell cc aF k M).1.v)*(lY b cell vo vw (kl cell cc aF k M).2.1 cc aF*eX cf mb (kl cell cc aF k M).2.2)):=by
 intro A F hw l9
 refine ab Tryz.func101 rfl (by kernel_rfl) fun _=>?_
 rw [HP.cq] at l9
 have lp:bK (A.alloc (.cells aS true 1)) (pt b (gp cell vo vw k)*(pt A.next (.cells aS true 1)*(ar .i64 vo cc*(ar .u64 vw aF*(eX cf mb M*F))))):=(l9.alloc hw (.cells aS true 1)).dp (by unfold lY;ac_rfl)
 have ru:bK A (pt b (gp cell vo vw k)*(ar .i64 vo cc*(ar .u64 vw aF*(eX cf mb M*F)))):=l9.dp (by unfold lY;ac_rfl)
 have hg:=ru.cy
 obtain⟨nb,IB⟩:=hw.dH hg
 have Xx:bK A (ar .i64 vo cc*(pt b (gp cell vo vw k)*(ar .u64 vw aF*(eX cf mb M*F)))):=ru.dp (by ac_rfl)
 have Xw:bK A (ar .u64 vw aF*(pt b (gp cell vo vw k)*(ar .i64 vo cc*(eX cf mb M*F)))):=ru.dp (by ac_rfl)
 obtain⟨o,c,rfl,_⟩:=(ar.is lp.right.right).cL
 have hd:=kW b cell _ vw o _ c k _ rfl lp.cy
 by_cases hdone:k=cc.length
 · rw [decide_eq_true hdone] at hd
   revert hw;refine W (J2 (od zb) @hd) (J3 @AW.aa @af.eq_1 @aS.eq_1) (J1 ?_)<;>unhygienic intros
   have dn:kl cell cc aF k M=(bq.zero,k,M):=by unfold kl;rw [if_pos hdone]
   rw [dn]
   refine⟨_,by simp [AW.aa,af];rfl,bK.post (by simp [bq.v,bq.zero]) ?_⟩
   rw [HP.cq]
   exact l9.le hw ((AW.le.alloc A _).set (Nat.le_refl _) _)
 · rw [decide_eq_false hdone] at hd
   have dQ:k<cc.length:=by omega
   have RI:k<aF.length:=by omega
   obtain⟨bo,oo,co,ro,e1,nM,GQ,xJ⟩:=ar.Wu Xx dQ
   injection e1 with e1 _ e2
   subst e1 e2
   obtain⟨bw,ow,cw,rw,rfl,My,IU,OD⟩:=ar.Wu Xw RI
   have n2:=xJ _ _ _ rfl
   have n3:=OD _ _ _ rfl
   obtain⟨no,Kh⟩:=hw.dH nM
   obtain⟨nw,Rd⟩:=hw.dH My
   have dn:kl cell cc aF k M=(de M 2 cell (cc.getD k 0) (eD (aF.getD k 0)),k+1,kd M cell (cc.getD k 0) (eD (aF.getD k 0))):=by unfold kl;rw [if_neg hdone]
   generalize aF.getD k 0=y at *
   generalize cc.getD k 0=x at *
   unfold gp at hg
   have ey:(k:Int)<cc.length:=by omega
   have Uk:(k:Int)<aF.length:=by omega
   revert hw;(repeat first|clear hw|revert hc|revert zn|revert zA|revert R|revert K);refine W (J2 (od zb) @hd) (pw hg nb IB no Kh nw Rd n2 n3 nM My GQ IU (J9 dQ RI ey Uk (Ne.symm n2) (Ne.symm n3) @AW.aa @af.eq_1 @aS.eq_1)) (J1 ?_)<;>unhygienic intros
   have rl:bK ((A.alloc (.cells aS true 1)).set b (some (gp cell (.slice (some ⟨bo,oo,none⟩) cc.length c) (.slice (some ⟨bw,ow,none⟩) aF.length cw) (k+1))))
    (eX cf mb M*(pt A.next (.cells aS true 1)*(lY b cell (.slice (some ⟨bo,oo,none⟩) cc.length c) (.slice (some ⟨bw,ow,none⟩) aF.length cw) (k+1) cc aF*F))):=(lp.set (gp cell (.slice (some ⟨bo,oo,none⟩) cc.length c) (.slice (some ⟨bw,ow,none⟩) aF.length cw) (k+1))).dp (by unfold lY;ac_rfl)
   refine(Fg cf mb M cell x y hM).use ((hw.alloc _).set _ ((hw.alloc _).lt lp.cy)) rl rfl ?_
   intro v A2 ta it tR
   obtain⟨rfl,pQ⟩:=ta.jT
   clear ta
   generalize de M 2 cell x (eD y)=a at dn pQ ⊢
   generalize kd M cell x (eD y)=M' at dn pQ
   have EP:bK A2 (pt A.next (.cells aS true 1)*(lY b cell (.slice (some ⟨bo,oo,none⟩) cc.length c) (.slice (some ⟨bw,ow,none⟩) aF.length cw) (k+1) cc aF*(eX cf mb M'*F))):=pQ.dp (by ac_rfl)
   have pN:=EP.cy
   revert hw;(repeat first|clear hw|revert hc|revert zn|revert zA|revert R|revert K);refine W (J1 (od zb)) (J5 pN @AW.aa @af.eq_1 @aS.eq_1 @bq.v.eq_1) (J1 ?_)<;>unhygienic intros
   refine⟨_,by simp [AW.aa,af];rfl,bK.post (by rw [dn];simp [bq.v]) ?_⟩
   rw [dn,HP.cq]
   exact(EP.set _).right
end
section
open T10
def gw (dA:Nat) (va vv vi:Value):ef:=.cells [.int .i64 dA,va,vv,vi] true 1
def sf (l:List Int) (a:Int):Int:=match lU l a with
 | some e=>e
 | none=>-1
theorem LW {l:List Int} {a:Int} {i:Nat} (hi:i<l.length) (he:l[i]=a) (hj:∀j,j<i→l[j]?≠some a):lU l a=some i:=by
 unfold lU
 rw [List.findIdx?_eq_some_iff_getElem]
 refine⟨hi,by simpa using he,fun j jW=>?_⟩
 have:=hj j jW
 rw [List.getElem?_eq_getElem (by omega)] at this
 simpa using this
theorem LV {l:List Int} {a:Int} (hj:∀j,j<l.length→l[j]?≠some a):lU l a=none:=by
 unfold lU
 rw [List.findIdx?_eq_none_iff]
 intro x hx
 obtain⟨j,h1,h2⟩:=List.getElem_of_mem hx
 have:=hj j h1
 rw [List.getElem?_eq_getElem h1,h2] at this
 simpa using this
theorem yQ (b dA:Nat) (va vv vi:Value) (l:List Int) (a:Int) (A:AW) (hg:A.cy b=some (gw dA va vv vi)) (h:cF A .i64 va l) (hl:l.length<2^62) :
 eF 238 [.pointer (some ⟨b,0,none⟩),.int .i64 a] A (.int .i64 (sf l a)):=by
 refine ab Tryz.func238 rfl (by kernel_rfl) fun _=>?_
 obtain⟨o,c,rfl,_⟩:=h.cL
 dsimp only [gw] at hg
 refine W trivial trivial (J1 ?_)<;>unhygienic intros
 refine ed (fun k fr A'=>A=A'∧∃i:Nat,k=l.length-i∧i≤l.length∧fr 0=.pointer (some ⟨b,0,none⟩)∧fr 1=.int .i64 a∧fr 5=.int .i64 i∧∀j,j<i→l[j]?≠some a) l.length ?_ ?_
 · refine⟨rfl,0,by simp,by simp,rfl,rfl,rfl,by simp⟩
 · rintro k fr A' ⟨rfl,i,rfl,hi,h0,h1,h8,hj⟩
   by_cases dQ:i<l.length
   · obtain⟨p,dh,rfl,eH,dg⟩:=h.at dQ
     have mc:IntKind.i64.wrap ((i:Int)+1)=((i+1:Nat):Int):=ak (by omega) (by omega)
     refine eW ?_
     (repeat first|revert hc|revert zn|revert zA|revert R|revert K);refine W trivial (J9 hg h0 h1 h8 eH dg dQ mc @AW.aa) (J2 ?_ ?_)<;>unhygienic intros
     · refine⟨_,rfl,?_,rfl⟩
       have hx:l[i]=a:=by simp_all
       simp [sf,LW dQ hx hj]
     · refine⟨l.length-(i+1),by omega,rfl,i+1,rfl,by omega,?_,?_,?_,?_⟩
       · simp [h0]
       · simp [h1]
       · simp
       · intro j i9
         by_cases e:j=i
         · subst e
           rw [List.getElem?_eq_getElem dQ]
           intro e2
           injection e2 with e2
           simp_all
         · exact hj j (by omega)
   · refine eW ?_
     (repeat first|revert hc|revert zn|revert zA|revert R|revert K);refine W trivial (J6 hg h0 h1 h8 dQ @AW.aa) (J1 ?_)<;>unhygienic intros
     refine⟨_,rfl,?_,rfl⟩
     simp [sf,LV (l:=l) (a:=a) (fun j i9=>hj j (by omega))]
theorem Dc (b:Nat) (va vv vi:Value) (s:ln) (a:Int) (A:AW) (iK:jq s) (hg:A.cy b=some (gw s.dA va vv vi)) (h:cF A .i64 va s.bl) (h':cF A .u64 vv s.df) (hl:s.bl.length<2^62) :
 eF 189 [.pointer (some ⟨b,0,none⟩),.int .i64 a] A (.tuple #[.int .u64 (eC s a).1,.bool (eC s a).2]):=by
 refine ab Tryz.func189 rfl (by kernel_rfl) fun _=>?_
 have hf:=yQ b s.dA va vv vi s.bl a A hg h hl
 have EO:=hg
 dsimp only [gw] at EO
 cases s8:lU s.bl a with
 | none=>
   have MA:sf s.bl a = -1:=by simp [sf,s8]
   rw [MA] at hf
   refine W (J1 @hf) (J2 EO @AW.aa) (J1 ?_)<;>unhygienic intros
   exact⟨_,rfl,by simp [eC,s8],rfl⟩
 | some e=>
   have MA:sf s.bl a=e:=by simp [sf,s8]
   rw [MA] at hf
   have dQ:e<s.df.length:=by rw [iK.xt];exact(mq s8).1
   obtain⟨o',c',rfl,_⟩:=h'.cL
   obtain⟨p,dh,rfl,eH,dg⟩:=h'.at dQ
   (repeat first|revert hc|revert zn|revert zA|revert R|revert K);refine W (J1 @hf) (J5 EO eH dg dQ @AW.aa) (J1 ?_)<;>unhygienic intros
   refine⟨_,rfl,?_,rfl⟩
   simp [eC,s8,List.getElem?_eq_getElem dQ]
end
section
abbrev Ds:List (Nat×Nat):=[(0,0),(1,0),(3,0),(4,0),(5,0),(6,0),(7,0),(2,2),(8,2),(9,0)]
open T0
theorem q8.le {A B:AW} {v:Value} {M:Nat→List Int} (h:q8 A v M) (hl:A.le B) (hw:A.Wf):q8 B v M:=by
 obtain⟨v0,v1,v5,v6,v7,e,i0,i1,i5,i6,i7⟩:=h
 exact⟨v0,v1,v5,v6,v7,e,i0.le hl hw,i1.le hl hw,i5.le hl hw,i6.le hl hw,i7.le hl hw⟩
theorem BB (va vb:Value) (M:Nat→List Int) (A:AW) (ha:q8 A va M) (hb:q8 A vb M) (cU:∀k,k<8→(M k).length<2^39) :
 aH Tryz.prog 116 [va,vb] A (fun v A'=>v=.bool true∧A.le A'):=by
 refine ab Tryz.func116 rfl (by kernel_rfl) fun hw=>?_
 obtain⟨a0,a1,a5,a6,a7,rfl,i0,i1,i5,i6,i7⟩:=ha
 obtain⟨b0,b1,b5,b6,b7,rfl,j0,j1,j5,j6,j7⟩:=hb
 have l2:∀x y,A.le ((A.alloc x).alloc y):=fun x y=>(AW.le.alloc A x).trans (AW.le.alloc _ y)
 have m0:=cU 0 (by omega)
 have m1:=cU 1 (by omega)
 have m5:=cU 5 (by omega)
 have m6:=cU 6 (by omega)
 have m7:=cU 7 (by omega)
 repeat' (first
 | (refine il fun R hR=>?_;simp [ak,au,AW.aa];try simp (disch:=omega) only [if_pos,if_neg,ak,au])
 | (refine hR _ _ ?_;clear hR R)|(refine hK _ _ ?_;clear hK K)|refine nx ?_
 | refine wn fun K hK=>?_
 | simp only [wS]
 | (refine bD (nX a0 b0 (M 0) (M 0) _ (i0.le (l2 _ _) hw) (j0.le (l2 _ _) hw) (by omega)) ?_;rintro _ _ ⟨rfl,rfl⟩ _ _)
 | (refine bD (nX a1 b1 (M 1) (M 1) _ (i1.le (l2 _ _) hw) (j1.le (l2 _ _) hw) (by omega)) ?_;rintro _ _ ⟨rfl,rfl⟩ _ _)
 | (refine bD (nX a5 b5 (M 5) (M 5) _ (i5.le (l2 _ _) hw) (j5.le (l2 _ _) hw) (by omega)) ?_;rintro _ _ ⟨rfl,rfl⟩ _ _)
 | (refine bD (nX a6 b6 (M 6) (M 6) _ (i6.le (l2 _ _) hw) (j6.le (l2 _ _) hw) (by omega)) ?_;rintro _ _ ⟨rfl,rfl⟩ _ _)
 | (refine bD (nX a7 b7 (M 7) (M 7) _ (i7.le (l2 _ _) hw) (j7.le (l2 _ _) hw) (by omega)) ?_;rintro _ _ ⟨rfl,rfl⟩ _ _)
 | refine wb ?_|refine wr ?_|refine wk ?_|refine we ?_|refine ws ?_|refine wq ?_
 | (refine wc rfl (fun hc=>?_) (fun hc=>?_)<;>(try simp at hc)<;>(try omega))
 | (refine ib (fun hc=>?_) (fun hc=>?_)<;>(try omega)<;>(try simp (disch:=omega) only [if_pos,if_neg])))
 refine⟨_,by first|(simp;done)|(simp;rfl),by first|rfl|simp,l2 _ _⟩
theorem kF {A:AW} {k:IntKind} {v:Value} {l:List Int} {R Q:HP} (h:bK A R) (e:R=ar k v l*Q):cF A k v l:=ar.is (h.dp e)
theorem eX.Ot {A:AW} {cf:bG} {mb:Nat} {M:Nat→List Int} {F:HP} (h:bK A (eX cf mb M*F)) :
 ∃v0 v1 v5 v6 v7,A.cy mb=some (.cells (cf.cells++[v0,v1,.int .u64 ((M 2).getD 0 0),.int .u64 ((M 3).getD 0 0),.int .u64 ((M 4).getD 0 0),v5,v6,v7]) true 1)∧
  q8 A (.agg #[v0,v1,.int .u64 ((M 2).getD 0 0),.int .u64 ((M 3).getD 0 0),.int .u64 ((M 4).getD 0 0),v5,v6,v7]) M:=by
 unfold eX at h
 rw [bK.ex] at h
 obtain⟨⟨v0,v1,v5,v6,v7⟩,h⟩:=h
 dsimp only at h
 rw [HP.cq] at h
 have hr:=h.right
 refine⟨v0,v1,v5,v6,v7,h.cy,v0,v1,v5,v6,v7,rfl,?_,?_,?_,?_,?_⟩
 · exact kF hr (Q:=ar .u64 v1 (M 1)*(ar .u64 v5 (M 5)*(ar .u64 v6 (M 6)*ar .u64 v7 (M 7)))*F) (by ac_rfl)
 · exact kF hr (Q:=ar .u64 v0 (M 0)*(ar .u64 v5 (M 5)*(ar .u64 v6 (M 6)*ar .u64 v7 (M 7)))*F) (by ac_rfl)
 · exact kF hr (Q:=ar .u64 v1 (M 1)*(ar .u64 v0 (M 0)*(ar .u64 v6 (M 6)*ar .u64 v7 (M 7)))*F) (by ac_rfl)
 · exact kF hr (Q:=ar .u64 v1 (M 1)*(ar .u64 v5 (M 5)*(ar .u64 v0 (M 0)*ar .u64 v7 (M 7)))*F) (by ac_rfl)
 · exact kF hr (Q:=ar .u64 v1 (M 1)*(ar .u64 v5 (M 5)*(ar .u64 v6 (M 6)*ar .u64 v0 (M 0)))*F) (by ac_rfl)
theorem Bt (cf:bG) (pb mb:Nat) (M:Nat→List Int) (A:AW) (F:HP) (h:bK A (eI pb M*(eX cf mb M*F))) (cU:∀k,k<8→(M k).length<2^39) (hM:fE M) :
 aH Tryz.prog 35 [.agg #[.pointer (some ⟨pb,0,none⟩),.pointer (some ⟨mb,0,none⟩)]] A (fun v A'=>v=.bool true∧A.le A'):=by
 refine ab Tryz.func35 rfl (by kernel_rfl) fun hw=>?_
 obtain⟨v0,v1,v5,v6,v7,hg,X3⟩:=eX.Ot (h.dp (by ac_rfl):bK A (eX cf mb M*(eI pb M*F)))
 obtain⟨nm,Xf⟩:=hw.dH hg
 have l1:∀x,A.le (A.alloc x):=fun x=>AW.le.alloc A x
 obtain⟨m2,m3,m4⟩:=hM
 simp only [bG.cells,na,zo] at hg
 revert hw;refine W (J1 (od Ds)) (J4 hg nm Xf @AW.aa) (J1 ?_)<;>unhygienic intros
 refine bD (zy pb M _ _ (h.iU hw _) cU (by omega) (by omega) (by omega)) ?_
 rintro u A2 ⟨i1,l2⟩ w2 _
 refine⟨l2,?_⟩
 have pM:=((l1 _).trans l2).iU hw hg
 have xz:=l2.iU (hw.alloc _) (AW.gO A _)
 have Uu:=X3.le ((l1 _).trans l2) hw
 revert hw;(repeat first|clear hw|revert hc|revert zn|revert zA|revert R|revert K);refine W (J1 (od Ds)) (J3 pM xz @AW.aa) (J1 ?_)<;>unhygienic intros
 refine bD (BB u _ M A2 i1 Uu cU) ?_
 rintro _ A3 ⟨rfl,l3⟩ w3 _
 refine⟨l3,?_⟩
 revert hw;(repeat first|clear hw|revert hc|revert zn|revert zA|revert R|revert K);refine W (J1 (od Ds)) (J1 @AW.aa) (J1 ?_)<;>unhygienic intros
 refine⟨_,by first|(simp;done)|(simp;rfl),by first|rfl|simp,((l1 _).trans l2).trans l3⟩
end
end Go.Stx
