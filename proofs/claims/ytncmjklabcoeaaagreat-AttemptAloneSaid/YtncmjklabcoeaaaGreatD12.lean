/-
 The reference's machine that stores.
-/
import Derived.Test.YtncmjklabcoeaaaGreatD11
import Derived.Test.YtncmjklabcoeaaaGreatD09
import Derived.Test.YtncmjklabcoeaaaGreatD08
set_option linter.unusedVariables false
set_option linter.unusedSimpArgs false
set_option maxRecDepth 20000
set_option maxHeartbeats 4000000
namespace Go.Stx
open Go Go.Proofs
attribute [local irreducible] fj cm aH bB dK ei
section
open T0
def gp (cell:Int) (vo vw:Value) (cj:Nat):ef:=.cells [.int .i64 cell,vo,vw,.int .i64 cj] true 1
end
section
open T10
def gw (dA:Nat) (va vv vi:Value):ef:=.cells [.int .i64 dA,va,vv,vi] true 1
def sf (l:List Int) (a:Int):Int:=match lU l a with
 | some e=>e
 | none=>-1
theorem LW {l:List Int} {a:Int} {i:Nat} (hi:i<l.length) (he:l[i]=a) (hj:∀j,j<i→l[j]?≠some a):lU l a=some i:=by
 unfold lU
 rw [List.findIdx?_eq_some_iff_getElem]
 refine⟨hi,by simpa using he,fun j jW=>?_⟩
 have:=hj j jW
 rw [List.getElem?_eq_getElem (by omega)] at this
 simpa using this
theorem LV {l:List Int} {a:Int} (hj:∀j,j<l.length→l[j]?≠some a):lU l a=none:=by
 unfold lU
 rw [List.findIdx?_eq_none_iff]
 intro x hx
 obtain⟨j,h1,h2⟩:=List.getElem_of_mem hx
 have:=hj j h1
 rw [List.getElem?_eq_getElem h1,h2] at this
 simpa using this
theorem yQ (b dA:Nat) (va vv vi:Value) (l:List Int) (a:Int) (A:AW) (hg:A.cy b=some (gw dA va vv vi)) (h:cF A .i64 va l) (hl:l.length<2^62) :
 eF 238 [.pointer (some ⟨b,0,none⟩),.int .i64 a] A (.int .i64 (sf l a)):=by
 refine ab Tryz.func238 rfl (by kernel_rfl) fun _=>?_
 obtain⟨o,c,rfl,_⟩:=h.cL
 dsimp only [gw] at hg
 refine W trivial trivial (J1 ?_)<;>unhygienic intros
 refine ed (fun k fr A'=>A=A'∧∃i:Nat,k=l.length-i∧i≤l.length∧fr 0=.pointer (some ⟨b,0,none⟩)∧fr 1=.int .i64 a∧fr 5=.int .i64 i∧∀j,j<i→l[j]?≠some a) l.length ?_ ?_
 · refine⟨rfl,0,by simp,by simp,rfl,rfl,rfl,by simp⟩
 · rintro k fr A' ⟨rfl,i,rfl,hi,h0,h1,h8,hj⟩
   by_cases dQ:i<l.length
   · obtain⟨p,dh,rfl,eH,dg⟩:=h.at dQ
     have mc:IntKind.i64.wrap ((i:Int)+1)=((i+1:Nat):Int):=ak (by omega) (by omega)
     refine eW ?_
     (repeat first|revert hc|revert zn|revert zA|revert R|revert K);refine W trivial (J9 hg h0 h1 h8 eH dg dQ mc @AW.aa) (J2 ?_ ?_)<;>unhygienic intros
     · refine⟨_,rfl,?_,rfl⟩
       have hx:l[i]=a:=by simp_all
       simp [sf,LW dQ hx hj]
     · refine⟨l.length-(i+1),by omega,rfl,i+1,rfl,by omega,?_,?_,?_,?_⟩
       · simp [h0]
       · simp [h1]
       · simp
       · intro j i9
         by_cases e:j=i
         · subst e
           rw [List.getElem?_eq_getElem dQ]
           intro e2
           injection e2 with e2
           simp_all
         · exact hj j (by omega)
   · refine eW ?_
     (repeat first|revert hc|revert zn|revert zA|revert R|revert K);refine W trivial (J6 hg h0 h1 h8 dQ @AW.aa) (J1 ?_)<;>unhygienic intros
     refine⟨_,rfl,?_,rfl⟩
     simp [sf,LV (l:=l) (a:=a) (fun j i9=>hj j (by omega))]
theorem Dc (b:Nat) (va vv vi:Value) (s:ln) (a:Int) (A:AW) (iK:jq s) (hg:A.cy b=some (gw s.dA va vv vi)) (h:cF A .i64 va s.bl) (h':cF A .u64 vv s.df) (hl:s.bl.length<2^62) :
 eF 189 [.pointer (some ⟨b,0,none⟩),.int .i64 a] A (.tuple #[.int .u64 (eC s a).1,.bool (eC s a).2]):=by
 refine ab Tryz.func189 rfl (by kernel_rfl) fun _=>?_
 have hf:=yQ b s.dA va vv vi s.bl a A hg h hl
 have EO:=hg
 dsimp only [gw] at EO
 cases s8:lU s.bl a with
 | none=>
   have MA:sf s.bl a = -1:=by simp [sf,s8]
   rw [MA] at hf
   refine W (J1 @hf) (J2 EO @AW.aa) (J1 ?_)<;>unhygienic intros
   exact⟨_,rfl,by simp [eC,s8],rfl⟩
 | some e=>
   have MA:sf s.bl a=e:=by simp [sf,s8]
   rw [MA] at hf
   have dQ:e<s.df.length:=by rw [iK.xt];exact(mq s8).1
   obtain⟨o',c',rfl,_⟩:=h'.cL
   obtain⟨p,dh,rfl,eH,dg⟩:=h'.at dQ
   (repeat first|revert hc|revert zn|revert zA|revert R|revert K);refine W (J1 @hf) (J5 EO eH dg dQ @AW.aa) (J1 ?_)<;>unhygienic intros
   refine⟨_,rfl,?_,rfl⟩
   simp [eC,s8,List.getElem?_eq_getElem dQ]
end
section
open T0
theorem q8.le {A B:AW} {v:Value} {M:Nat→List Int} (h:q8 A v M) (hl:A.le B) (hw:A.Wf):q8 B v M:=by
 obtain⟨v0,v1,v5,v6,v7,e,i0,i1,i5,i6,i7⟩:=h
 exact⟨v0,v1,v5,v6,v7,e,i0.le hl hw,i1.le hl hw,i5.le hl hw,i6.le hl hw,i7.le hl hw⟩
theorem kF {A:AW} {k:IntKind} {v:Value} {l:List Int} {R Q:HP} (h:bK A R) (e:R=ar k v l*Q):cF A k v l:=ar.is (h.dp e)
theorem eX.Ot {A:AW} {cf:bG} {mb:Nat} {M:Nat→List Int} {F:HP} (h:bK A (eX cf mb M*F)) :
 ∃v0 v1 v5 v6 v7,A.cy mb=some (.cells (cf.cells++[v0,v1,.int .u64 ((M 2).getD 0 0),.int .u64 ((M 3).getD 0 0),.int .u64 ((M 4).getD 0 0),v5,v6,v7]) true 1)∧
  q8 A (.agg #[v0,v1,.int .u64 ((M 2).getD 0 0),.int .u64 ((M 3).getD 0 0),.int .u64 ((M 4).getD 0 0),v5,v6,v7]) M:=by
 unfold eX at h
 rw [bK.ex] at h
 obtain⟨⟨v0,v1,v5,v6,v7⟩,h⟩:=h
 dsimp only at h
 rw [HP.cq] at h
 have hr:=h.right
 refine⟨v0,v1,v5,v6,v7,h.cy,v0,v1,v5,v6,v7,rfl,?_,?_,?_,?_,?_⟩
 · exact kF hr (Q:=ar .u64 v1 (M 1)*(ar .u64 v5 (M 5)*(ar .u64 v6 (M 6)*ar .u64 v7 (M 7)))*F) (by ac_rfl)
 · exact kF hr (Q:=ar .u64 v0 (M 0)*(ar .u64 v5 (M 5)*(ar .u64 v6 (M 6)*ar .u64 v7 (M 7)))*F) (by ac_rfl)
 · exact kF hr (Q:=ar .u64 v1 (M 1)*(ar .u64 v0 (M 0)*(ar .u64 v6 (M 6)*ar .u64 v7 (M 7)))*F) (by ac_rfl)
 · exact kF hr (Q:=ar .u64 v1 (M 1)*(ar .u64 v5 (M 5)*(ar .u64 v0 (M 0)*ar .u64 v7 (M 7)))*F) (by ac_rfl)
 · exact kF hr (Q:=ar .u64 v1 (M 1)*(ar .u64 v5 (M 5)*(ar .u64 v6 (M 6)*ar .u64 v0 (M 0)))*F) (by ac_rfl)
end
end Go.Stx
