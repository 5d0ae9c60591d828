/-
 The reference's cells, under any configuration.
-/
import Derived.Test.YtncmjklabcoeaaaGreatD07
import Derived.Test.YtncmjklabcoeaaaGreatD05
set_option linter.unusedVariables false
set_option linter.unusedSimpArgs false
set_option maxRecDepth 20000
set_option maxHeartbeats 4000000
namespace Go.Stx
open Go Go.Proofs
attribute [local irreducible] fj cm aH bB dK ei
open T0
def eX (cf:bG) (mb:Nat) (M:Nat→List Int):HP:=
 rt fun v:Value×Value×Value×Value×Value=>
  pt mb (.cells (cf.cells++[v.1,v.2.1,.int .u64 ((M 2).getD 0 0),.int .u64 ((M 3).getD 0 0),.int .u64 ((M 4).getD 0 0),v.2.2.1,v.2.2.2.1,v.2.2.2.2]) true 1) *
   (ar .u64 v.1 (M 0)*(ar .u64 v.2.1 (M 1)*(ar .u64 v.2.2.1 (M 5)*(ar .u64 v.2.2.2.1 (M 6)*ar .u64 v.2.2.2.2 (M 7)))))
theorem eX.open {A:AW} {cf:bG} {mb:Nat} {M:Nat→List Int} {F:HP} (h:bK A (eX cf mb M*F)) :
 ∃v0 v1 v5 v6 v7,bK A (pt mb (.cells (cf.cells++[v0,v1,.int .u64 ((M 2).getD 0 0),.int .u64 ((M 3).getD 0 0),.int .u64 ((M 4).getD 0 0),v5,v6,v7]) true 1) *
  (ar .u64 v0 (M 0)*(ar .u64 v1 (M 1)*(ar .u64 v5 (M 5)*(ar .u64 v6 (M 6)*(ar .u64 v7 (M 7)*F)))))):=by
 unfold eX at h
 rw [bK.ex] at h
 obtain⟨⟨v0,v1,v5,v6,v7⟩,h⟩:=h
 exact⟨v0,v1,v5,v6,v7,h.dp (by dsimp only;ac_rfl)⟩
theorem eX.eh {A:AW} {cf:bG} {mb:Nat} {M:Nat→List Int} {F:HP} {v0 v1 v5 v6 v7:Value} (h:bK A (pt mb (.cells (cf.cells++[v0,v1,.int .u64 ((M 2).getD 0 0),.int .u64 ((M 3).getD 0 0),.int .u64 ((M 4).getD 0 0),v5,v6,v7]) true 1) *
 (ar .u64 v0 (M 0)*(ar .u64 v1 (M 1)*(ar .u64 v5 (M 5)*(ar .u64 v6 (M 6)*(ar .u64 v7 (M 7)*F))))))):bK A (eX cf mb M*F):=by
 unfold eX
 rw [bK.ex]
 exact⟨(v0,v1,v5,v6,v7),h.dp (by dsimp only;ac_rfl)⟩
def fE (M:Nat→List Int):Prop:=(M 2).length=1∧(M 3).length=1∧(M 4).length=1
theorem uo (cf:bG) (mb:Nat) (M:Nat→List Int) (cell:Int) (A:AW) (F:HP) (h:bK A (eX cf mb M*F)) (hM:fE M) :
 aH Tryz.prog 242 [.pointer (some ⟨mb,0,none⟩),.int .i64 cell] A (fun v A'=>v=.int .i64 (eJ M cell).length∧A=A'):=by
 refine ab Tryz.func242 rfl (by kernel_rfl) fun hw=>?_
 obtain⟨v0,v1,v5,v6,v7,hS⟩:=eX.open h
 obtain⟨o0,c0,rfl,_⟩:=(ar.is hS.right).cL
 obtain⟨o1,c1,rfl,_⟩:=(ar.is hS.right.right).cL
 obtain⟨o5,c5,rfl,_⟩:=(ar.is hS.right.right.right).cL
 obtain⟨o6,c6,rfl,_⟩:=(ar.is hS.right.right.right.right).cL
 obtain⟨o7,c7,rfl,_⟩:=(ar.is hS.right.right.right.right.right).cL
 have hg:=hS.cy
 by_cases hc:cell=1∨cell=2∨cell=3∨cell=4∨cell=5∨cell=6∨cell=7∨cell=8
 · rcases hc with rfl|rfl|rfl|rfl|rfl|rfl|rfl|rfl
   all_goals
    all_goals(revert hS hw;refine W trivial (J3 hg @AW.aa @bG.cells.eq_1) (J1 ?_)<;>unhygienic intros)
    all_goals simp [eJ,hM.1,hM.2.1,hM.2.2]
 · have e1:¬cell=1:=fun e=>hc (by simp [e])
   have e2:¬cell=2:=fun e=>hc (by simp [e])
   have e3:¬cell=3:=fun e=>hc (by simp [e])
   have e4:¬cell=4:=fun e=>hc (by simp [e])
   have e5:¬cell=5:=fun e=>hc (by simp [e])
   have e6:¬cell=6:=fun e=>hc (by simp [e])
   have e7:¬cell=7:=fun e=>hc (by simp [e])
   have e8:¬cell=8:=fun e=>hc (by simp [e])
   have hr:eJ M cell=[]:=if_neg (by omega)
   revert hS hw;(repeat first|clear hS|clear hw|revert hc|revert zn|revert zA|revert R|revert K);refine W trivial (MK hg e1 e2 e3 e4 e5 e6 e7 e8 @AW.aa @bG.cells.eq_1) (J1 ?_)<;>unhygienic intros
   all_goals simp [hr]
theorem ju (cf:bG) (mb:Nat) (M:Nat→List Int) (cell cc:Int) (A:AW) (F:HP) (h:bK A (eX cf mb M*F)) (hM:fE M) :
 aH Tryz.prog 205 [.pointer (some ⟨mb,0,none⟩),.int .i64 cell,.int .i64 cc] A (fun v A'=>v=.bool (dw M cell cc)∧A=A'):=by
 refine ab Tryz.func205 rfl (by kernel_rfl) fun hw=>?_
 by_cases h0:0≤cc
 · revert hw;refine W (J1 (uo cf mb M cell _ _ h hM)) (J1 h0) (J1 ?_)<;>unhygienic intros
   all_goals simp [dw,h0]
 · revert hw;(repeat first|clear hw|revert hc|revert zn|revert zA|revert R|revert K);refine W (J1 (uo cf mb M cell _ _ h hM)) (J1 h0) (J1 ?_)<;>unhygienic intros
   all_goals simp [dw,h0]
theorem mD (cf:bG) (mb:Nat) (M:Nat→List Int) (cell cc:Int) (A:AW) (F:HP) (h:bK A (eX cf mb M*F)) (hM:fE M) (hh:dw M cell cc=true) :
 aH Tryz.prog 241 [.pointer (some ⟨mb,0,none⟩),.int .i64 cell,.int .i64 cc] A (fun v A'=>v=.int .u64 ((eJ M cell).getD cc.toNat 0)∧A=A'):=by
 refine ab Tryz.func241 rfl (by kernel_rfl) fun hw=>?_
 obtain⟨v0,v1,v5,v6,v7,hS⟩:=eX.open h
 have i0:=ar.is hS.right
 have i1:=ar.is hS.right.right
 have i5:=ar.is hS.right.right.right
 have i6:=ar.is hS.right.right.right.right
 have i7:=ar.is hS.right.right.right.right.right
 obtain⟨o0,c0,rfl,_⟩:=i0.cL
 obtain⟨o1,c1,rfl,_⟩:=i1.cL
 obtain⟨o5,c5,rfl,_⟩:=i5.cL
 obtain⟨o6,c6,rfl,_⟩:=i6.cL
 obtain⟨o7,c7,rfl,_⟩:=i7.cL
 have hg:=hS.cy
 have hd:0≤cc∧cc<(eJ M cell).length:=by simpa [dw] using hh
 obtain⟨j,rfl⟩:∃j:Nat,cc=j:=⟨cc.toNat,by omega⟩
 have hj:j<(eJ M cell).length:=by omega
 have Mz:∀{l:List Int} (h:j<l.length),l.getD (j:Int).toNat 0=l[j]:=fun {l} h=>by rw [Int.toNat_natCast,List.getD_eq_getElem?_getD,List.getElem?_eq_getElem h];rfl
 have hc:cell=1∨cell=2∨cell=3∨cell=4∨cell=5∨cell=6∨cell=7∨cell=8:=by
  by_cases hh:1≤cell∧cell≤8
  · omega
  · rw [eJ,if_neg hh] at hj;simp at hj
 rcases hc with rfl|rfl|rfl|rfl|rfl|rfl|rfl|rfl
 · have i9:j<(M 0).length:=hj
   have jW:(j:Int)<(M 0).length:=by omega
   obtain⟨p,dh,own,rfl,g,d⟩:=i0.Ku i9
   revert hS hw;refine W trivial (J7 hg g d i9 jW @AW.aa @bG.cells.eq_1) (J1 ?_)<;>unhygienic intros
   simp only [eJ];simp [Mz i9,i9]
 · have i9:j<(M 1).length:=hj
   have jW:(j:Int)<(M 1).length:=by omega
   obtain⟨p,dh,own,rfl,g,d⟩:=i1.Ku i9
   revert hS hw;(repeat first|clear hS|clear hw|revert hc|revert zn|revert zA|revert R|revert K);refine W trivial (J7 hg g d i9 jW @AW.aa @bG.cells.eq_1) (J1 ?_)<;>unhygienic intros
   simp only [eJ];simp [Mz i9,i9]
 · have i9:j<(M 2).length:=hj
   have LE:j=0:=by rw [hM.1] at i9;omega
   subst LE
   revert hS hw;(repeat first|clear hS|clear hw|revert hc|revert zn|revert zA|revert R|revert K);refine W trivial (J3 hg @AW.aa @bG.cells.eq_1) (J1 ?_)<;>unhygienic intros
   simp [eJ]
 · have i9:j<(M 3).length:=hj
   have LE:j=0:=by rw [hM.2.1] at i9;omega
   subst LE
   revert hS hw;(repeat first|clear hS|clear hw|revert hc|revert zn|revert zA|revert R|revert K);refine W trivial (J3 hg @AW.aa @bG.cells.eq_1) (J1 ?_)<;>unhygienic intros
   simp [eJ]
 · have i9:j<(M 4).length:=hj
   have LE:j=0:=by rw [hM.2.2] at i9;omega
   subst LE
   revert hS hw;(repeat first|clear hS|clear hw|revert hc|revert zn|revert zA|revert R|revert K);refine W trivial (J3 hg @AW.aa @bG.cells.eq_1) (J1 ?_)<;>unhygienic intros
   simp [eJ]
 · have i9:j<(M 5).length:=hj
   have jW:(j:Int)<(M 5).length:=by omega
   obtain⟨p,dh,own,rfl,g,d⟩:=i5.Ku i9
   revert hS hw;(repeat first|clear hS|clear hw|revert hc|revert zn|revert zA|revert R|revert K);refine W trivial (J7 hg g d i9 jW @AW.aa @bG.cells.eq_1) (J1 ?_)<;>unhygienic intros
   simp only [eJ];simp [Mz i9,i9]
 · have i9:j<(M 6).length:=hj
   have jW:(j:Int)<(M 6).length:=by omega
   obtain⟨p,dh,own,rfl,g,d⟩:=i6.Ku i9
   revert hS hw;(repeat first|clear hS|clear hw|revert hc|revert zn|revert zA|revert R|revert K);refine W trivial (J7 hg g d i9 jW @AW.aa @bG.cells.eq_1) (J1 ?_)<;>unhygienic intros
   simp only [eJ];simp [Mz i9,i9]
 · have i9:j<(M 7).length:=hj
   have jW:(j:Int)<(M 7).length:=by omega
   obtain⟨p,dh,own,rfl,g,d⟩:=i7.Ku i9
   revert hS hw;(repeat first|clear hS|clear hw|revert hc|revert zn|revert zA|revert R|revert K);refine W trivial (J7 hg g d i9 jW @AW.aa @bG.cells.eq_1) (J1 ?_)<;>unhygienic intros
   simp only [eJ];simp [Mz i9,i9]
theorem Fh (cf:bG) (mb:Nat) (M:Nat→List Int) (cell cc y:Int) (hM:fE M) (hh:dw M cell cc=true) :
 ka Tryz.prog 243 [.pointer (some ⟨mb,0,none⟩),.int .i64 cell,.int .i64 cc,.int .u64 y] (eX cf mb M) (fun _=>eX cf mb (setRow M cell cc y)):=by
 intro A F hw h
 refine ab Tryz.func243 rfl (by kernel_rfl) fun _=>?_
 obtain⟨v0,v1,v5,v6,v7,hS⟩:=eX.open h
 have hg:=hS.cy
 have hd:0≤cc∧cc<(eJ M cell).length:=by simpa [dw] using hh
 obtain⟨j,rfl⟩:∃j:Nat,cc=j:=⟨cc.toNat,by omega⟩
 have hj:j<(eJ M cell).length:=by omega
 have hc:cell=1∨cell=2∨cell=3∨cell=4∨cell=5∨cell=6∨cell=7∨cell=8:=by
  by_cases hh:1≤cell∧cell≤8
  · omega
  · rw [eJ,if_neg hh] at hj;simp at hj
 have bu:∀l:List Int,l.length=1→(l.set 0 y).getD 0 0=y:=fun l hl=>by
  match l,hl with
  | [x],_=>rfl
 rcases hc with rfl|rfl|rfl|rfl|rfl|rfl|rfl|rfl
 · have i9:j<(M 0).length:=hj
   have jW:(j:Int)<(M 0).length:=by omega
   have NK:bK A (ar .u64 v0 (M 0)*(pt mb (.cells (cf.cells++[v0,v1,.int .u64 ((M 2).getD 0 0),.int .u64 ((M 3).getD 0 0),.int .u64 ((M 4).getD 0 0),v5,v6,v7]) true 1)*(ar .u64 v1 (M 1)*(ar .u64 v5 (M 5)*(ar .u64 v6 (M 6)*(ar .u64 v7 (M 7)*F)))))):=hS.dp (by ac_rfl)
   obtain⟨b,off,c,dh,hv,_,gb,db,lm,fz⟩:=ar.at NK i9
   have DN:off+j+1≤dh.length:=by omega
   have pM:=hg
   rw [hv] at pM
   revert hS hw;refine W trivial (J9 pM gb db i9 jW DN @AW.aa @af.eq_1 @bG.cells.eq_1) (J1 ?_)<;>unhygienic intros
   refine⟨_,by first|(simp;done)|(simp;rfl),?_⟩
   refine eX.eh (v0:=v0) (v1:=v1) (v5:=v5) (v6:=v6) (v7:=v7) ?_
   exact(fz y).dp (by simp only [setRow,Int.toNat_natCast];simp;ac_rfl)
 · have i9:j<(M 1).length:=hj
   have jW:(j:Int)<(M 1).length:=by omega
   have NK:bK A (ar .u64 v1 (M 1)*(pt mb (.cells (cf.cells++[v0,v1,.int .u64 ((M 2).getD 0 0),.int .u64 ((M 3).getD 0 0),.int .u64 ((M 4).getD 0 0),v5,v6,v7]) true 1)*(ar .u64 v0 (M 0)*(ar .u64 v5 (M 5)*(ar .u64 v6 (M 6)*(ar .u64 v7 (M 7)*F)))))):=hS.dp (by ac_rfl)
   obtain⟨b,off,c,dh,hv,_,gb,db,lm,fz⟩:=ar.at NK i9
   have DN:off+j+1≤dh.length:=by omega
   have pM:=hg
   rw [hv] at pM
   revert hS hw;(repeat first|clear hS|clear hw|revert hc|revert zn|revert zA|revert R|revert K);refine W trivial (J9 pM gb db i9 jW DN @AW.aa @af.eq_1 @bG.cells.eq_1) (J1 ?_)<;>unhygienic intros
   refine⟨_,by first|(simp;done)|(simp;rfl),?_⟩
   refine eX.eh (v0:=v0) (v1:=v1) (v5:=v5) (v6:=v6) (v7:=v7) ?_
   exact(fz y).dp (by simp only [setRow,Int.toNat_natCast];simp;ac_rfl)
 · have LE:j=0:=by have i9:j<(M 2).length:=hj;rw [hM.1] at i9;omega
   subst LE
   revert hS hw;(repeat first|clear hS|clear hw|revert hc|revert zn|revert zA|revert R|revert K);refine W trivial (J4 hg @AW.aa @af.eq_1 @bG.cells.eq_1) (J1 ?_)<;>unhygienic intros
   refine⟨_,by first|(simp;done)|(simp;rfl),?_⟩
   refine eX.eh (v0:=v0) (v1:=v1) (v5:=v5) (v6:=v6) (v7:=v7) ?_
   have e1:=bu (M 2) hM.1
   refine(hS.set _).dp ?_
   simp only [setRow,Int.toNat_natCast]
   rw [List.getD_eq_getElem?_getD] at e1
   simp [e1,bG.cells]
 · have LE:j=0:=by have i9:j<(M 3).length:=hj;rw [hM.2.1] at i9;omega
   subst LE
   revert hS hw;(repeat first|clear hS|clear hw|revert hc|revert zn|revert zA|revert R|revert K);refine W trivial (J4 hg @AW.aa @af.eq_1 @bG.cells.eq_1) (J1 ?_)<;>unhygienic intros
   refine⟨_,by first|(simp;done)|(simp;rfl),?_⟩
   refine eX.eh (v0:=v0) (v1:=v1) (v5:=v5) (v6:=v6) (v7:=v7) ?_
   have e1:=bu (M 3) hM.2.1
   refine(hS.set _).dp ?_
   simp only [setRow,Int.toNat_natCast]
   rw [List.getD_eq_getElem?_getD] at e1
   simp [e1,bG.cells]
 · have LE:j=0:=by have i9:j<(M 4).length:=hj;rw [hM.2.2] at i9;omega
   subst LE
   revert hS hw;(repeat first|clear hS|clear hw|revert hc|revert zn|revert zA|revert R|revert K);refine W trivial (J4 hg @AW.aa @af.eq_1 @bG.cells.eq_1) (J1 ?_)<;>unhygienic intros
   refine⟨_,by first|(simp;done)|(simp;rfl),?_⟩
   refine eX.eh (v0:=v0) (v1:=v1) (v5:=v5) (v6:=v6) (v7:=v7) ?_
   have e1:=bu (M 4) hM.2.2
   refine(hS.set _).dp ?_
   simp only [setRow,Int.toNat_natCast]
   rw [List.getD_eq_getElem?_getD] at e1
   simp [e1,bG.cells]
 · have i9:j<(M 5).length:=hj
   have jW:(j:Int)<(M 5).length:=by omega
   have NK:bK A (ar .u64 v5 (M 5)*(pt mb (.cells (cf.cells++[v0,v1,.int .u64 ((M 2).getD 0 0),.int .u64 ((M 3).getD 0 0),.int .u64 ((M 4).getD 0 0),v5,v6,v7]) true 1)*(ar .u64 v0 (M 0)*(ar .u64 v1 (M 1)*(ar .u64 v6 (M 6)*(ar .u64 v7 (M 7)*F)))))):=hS.dp (by ac_rfl)
   obtain⟨b,off,c,dh,hv,_,gb,db,lm,fz⟩:=ar.at NK i9
   have DN:off+j+1≤dh.length:=by omega
   have pM:=hg
   rw [hv] at pM
   revert hS hw;(repeat first|clear hS|clear hw|revert hc|revert zn|revert zA|revert R|revert K);refine W trivial (J9 pM gb db i9 jW DN @AW.aa @af.eq_1 @bG.cells.eq_1) (J1 ?_)<;>unhygienic intros
   refine⟨_,by first|(simp;done)|(simp;rfl),?_⟩
   refine eX.eh (v0:=v0) (v1:=v1) (v5:=v5) (v6:=v6) (v7:=v7) ?_
   exact(fz y).dp (by simp only [setRow,Int.toNat_natCast];simp;ac_rfl)
 · have i9:j<(M 6).length:=hj
   have jW:(j:Int)<(M 6).length:=by omega
   have NK:bK A (ar .u64 v6 (M 6)*(pt mb (.cells (cf.cells++[v0,v1,.int .u64 ((M 2).getD 0 0),.int .u64 ((M 3).getD 0 0),.int .u64 ((M 4).getD 0 0),v5,v6,v7]) true 1)*(ar .u64 v0 (M 0)*(ar .u64 v1 (M 1)*(ar .u64 v5 (M 5)*(ar .u64 v7 (M 7)*F)))))):=hS.dp (by ac_rfl)
   obtain⟨b,off,c,dh,hv,_,gb,db,lm,fz⟩:=ar.at NK i9
   have DN:off+j+1≤dh.length:=by omega
   have pM:=hg
   rw [hv] at pM
   revert hS hw;(repeat first|clear hS|clear hw|revert hc|revert zn|revert zA|revert R|revert K);refine W trivial (J9 pM gb db i9 jW DN @AW.aa @af.eq_1 @bG.cells.eq_1) (J1 ?_)<;>unhygienic intros
   refine⟨_,by first|(simp;done)|(simp;rfl),?_⟩
   refine eX.eh (v0:=v0) (v1:=v1) (v5:=v5) (v6:=v6) (v7:=v7) ?_
   exact(fz y).dp (by simp only [setRow,Int.toNat_natCast];simp;ac_rfl)
 · have i9:j<(M 7).length:=hj
   have jW:(j:Int)<(M 7).length:=by omega
   have NK:bK A (ar .u64 v7 (M 7)*(pt mb (.cells (cf.cells++[v0,v1,.int .u64 ((M 2).getD 0 0),.int .u64 ((M 3).getD 0 0),.int .u64 ((M 4).getD 0 0),v5,v6,v7]) true 1)*(ar .u64 v0 (M 0)*(ar .u64 v1 (M 1)*(ar .u64 v5 (M 5)*(ar .u64 v6 (M 6)*F)))))):=hS.dp (by ac_rfl)
   obtain⟨b,off,c,dh,hv,_,gb,db,lm,fz⟩:=ar.at NK i9
   have DN:off+j+1≤dh.length:=by omega
   have pM:=hg
   rw [hv] at pM
   revert hS hw;(repeat first|clear hS|clear hw|revert hc|revert zn|revert zA|revert R|revert K);refine W trivial (J9 pM gb db i9 jW DN @AW.aa @af.eq_1 @bG.cells.eq_1) (J1 ?_)<;>unhygienic intros
   refine⟨_,by first|(simp;done)|(simp;rfl),?_⟩
   refine eX.eh (v0:=v0) (v1:=v1) (v5:=v5) (v6:=v6) (v7:=v7) ?_
   exact(fz y).dp (by simp only [setRow,Int.toNat_natCast];simp;ac_rfl)
def oh (M:Nat→List Int) (eV cell cc:Int) (wr:Bool) (y:Int):bq:=
 let fI:=(eJ M cell).getD cc.toNat 0
 ⟨eV,cell,cc,fI,if wr=true then y else fI,if wr=true then true else decide (eV=1)⟩
theorem Jn {M:Nat→List Int} {cell cc y:Int} (hh:dw M cell cc=true):(eJ (setRow M cell cc y) cell).getD cc.toNat 0=y:=by
 have hd:0≤cc∧cc<(eJ M cell).length:=by simpa [dw] using hh
 have hc:1≤cell∧cell≤8:=by
  by_cases h:1≤cell∧cell≤8
  · exact h
  · rw [eJ,if_neg h] at hd;simp at hd;omega
 have hr:eJ M cell=M (cell-1).toNat:=if_pos hc
 rw [hr] at hd
 have:eJ (setRow M cell cc y) cell=(M (cell-1).toNat).set cc.toNat y:=by
  simp [eJ,hc,setRow]
 rw [this,List.getD_eq_getElem?_getD,List.getElem?_set_self (by omega)]
 rfl
theorem Jr {M:Nat→List Int} (h:fE M) (cell cc y:Int):fE (setRow M cell cc y):=by
 unfold fE setRow
 refine⟨?_,?_,?_⟩<;>(split<;>simp [h.1,h.2.1,h.2.2])
theorem qE (cf:bG) (mb:Nat) (M:Nat→List Int) (eV cell cc y:Int) (wr:Bool) (hM:fE M) (hh:dw M cell cc=true) :
 ka Tryz.prog 206 [.pointer (some ⟨mb,0,none⟩),.int .i64 eV,.int .i64 cell,.int .i64 cc,.bool wr,.int .u64 y] (eX cf mb M)
  (fun v=>rc (v=(oh M eV cell cc wr y).v)*eX cf mb (if wr=true then setRow M cell cc y else M)):=by
 intro A F hw h
 refine ab Tryz.func206 rfl (by kernel_rfl) fun _=>?_
 cases wr
 · repeat' (first
 | (refine il fun R hR=>?_;simp [ak,au,af,AW.aa,aS];try simp (disch:=omega) only [if_pos,if_neg,ak,au])
 | (refine hR _ _ ?_;clear hR R)|(refine hK _ _ ?_;clear hK K)|refine nx ?_
 | refine wn fun K hK=>?_
 | simp only [wS]
 | (refine bD (mD cf mb M cell cc _ _ (h.le hw (by repeat' (first|exact AW.le.refl _|refine AW.le.set ?_ (by simp<;>omega) _|refine AW.le.trans ?_ (AW.le.alloc _ _)))) hM hh) ?_;rintro _ _ ⟨rfl,rfl⟩ _ _)
 | refine wb ?_|refine wr ?_|refine wk ?_|refine we ?_|refine ws ?_|refine wq ?_
 | (refine wc rfl (fun hc=>?_) (fun hc=>?_)<;>(try simp at hc)<;>(try omega))
 | (refine ib (fun hc=>?_) (fun hc=>?_)<;>(try omega)<;>(try simp (disch:=omega) only [if_pos,if_neg])))
   refine⟨_,by first|(simp [AW.aa];done)|(simp [AW.aa];rfl),bK.post (by simp [oh,bq.v]) ?_⟩
   simp only [Bool.false_eq_true,if_false]
   exact h.le hw (by repeat' (first|exact AW.le.refl _|refine AW.le.set ?_ (by simp<;>omega) _|refine AW.le.trans ?_ (AW.le.alloc _ _)))
 · have gJ:=hw.alloc (.cells aS true 1)
   have it:=gJ.alloc (.cells aS true 1)
   have s1:=(h.alloc hw (.cells aS true 1)).alloc gJ (.cells aS true 1)
   simp only [AW.aZ] at s1
   repeat' (first
   | (refine il fun R hR=>?_;simp [ak,au,af,AW.aa,aS];try simp (disch:=omega) only [if_pos,if_neg,ak,au])
   | (refine hR _ _ ?_;clear hR R)|(refine hK _ _ ?_;clear hK K)|refine nx ?_
   | refine wn fun K hK=>?_
   | simp only [wS]
   | (refine bD (mD cf mb M cell cc _ _ (h.le hw (by repeat' (first|exact AW.le.refl _|refine AW.le.set ?_ (by simp<;>omega) _|refine AW.le.trans ?_ (AW.le.alloc _ _)))) hM hh) ?_;rintro _ _ ⟨rfl,rfl⟩ _ _)
   | refine wb ?_|refine wr ?_|refine wk ?_|refine we ?_|refine ws ?_|refine wq ?_
   | (refine wc rfl (fun hc=>?_) (fun hc=>?_)<;>(try simp at hc)<;>(try omega))
   | (refine ib (fun hc=>?_) (fun hc=>?_)<;>(try omega)<;>(try simp (disch:=omega) only [if_pos,if_neg])))
   have s2:=s1.set (.cells [.int .i64 eV,.int .i64 cell,.int .i64 cc,.int .u64 ((eJ M cell)[cc.toNat]?.getD 0),.int .u64 0,.bool true] true 1)
   have s3:bK _ (eX cf mb M*(pt (A.next+1) (.cells [.int .i64 eV,.int .i64 cell,.int .i64 cc,.int .u64 ((eJ M cell)[cc.toNat]?.getD 0),.int .u64 0,.bool true] true 1)*(pt A.next (.cells aS true 1)*F))):=s2.dp (by ac_rfl)
   have qr:=it.set (i:=A.next+1) (some (.cells [.int .i64 eV,.int .i64 cell,.int .i64 cc,.int .u64 ((eJ M cell)[cc.toNat]?.getD 0),.int .u64 0,.bool true] true 1)) (by simp)
   refine(Fh cf mb M cell cc y hM hh).use qr s3 rfl ?_
   intro v A3 s4 IJ _
   have PM:dw (setRow M cell cc y) cell cc=true:=by
    have hd:0≤cc∧cc<(eJ M cell).length:=by simpa [dw] using hh
    have:(eJ (setRow M cell cc y) cell).length=(eJ M cell).length:=by
     unfold eJ setRow
     split
     · simp
     · rfl
    simp [dw,this,hd]
   have hv:=Jn (y:=y) hh
   have s5:bK A3 (pt (A.next+1) (.cells [.int .i64 eV,.int .i64 cell,.int .i64 cc,.int .u64 ((eJ M cell)[cc.toNat]?.getD 0),.int .u64 0,.bool true] true 1)*(pt A.next (.cells aS true 1)*(eX cf mb (setRow M cell cc y)*F))):=s4.dp (by ac_rfl)
   have g1:=s5.cy
   have g0:=s5.right.cy
   have n1:=s5.ne
   rw [List.getD_eq_getElem?_getD] at hv
   revert hw;(repeat first|clear hw|revert hc|revert zn|revert zA|revert R|revert K);refine W (J1 (mD cf mb (setRow M cell cc y) cell cc _ _ s4 (Jr hM _ _ _) PM)) (J8 g0 g1 n1 hv (Ne.symm n1) @af.eq_1 @AW.aa @aS.eq_1) (J1 ?_)<;>unhygienic intros
   refine⟨_,by first|(simp [AW.aa];done)|(simp [AW.aa];rfl),bK.post (by simp [oh,bq.v]) ?_⟩
   simp only [if_true]
   exact bK.Sf s5 (fun j x h1 h2 hx=>by simp [AW.dW,h1,h2,hx])
theorem Ir (cf:bG) (mb:Nat) (M:Nat→List Int) (cell cc:Int) (hM:fE M) :
 ka Tryz.prog 185 [.pointer (some ⟨mb,0,none⟩),.int .i64 cell,.int .i64 cc] (eX cf mb M)
  (fun v=>rc (v=(de M 1 cell cc gF).v)*eX cf mb (kd M cell cc gF)):=by
 intro A F hw h
 refine ab Tryz.func185 rfl (by kernel_rfl) fun _=>?_
 have h1:bK (A.alloc (.cells aS true 1)) (eX cf mb M*(pt A.next (.cells aS true 1)*F)):=(h.alloc hw (.cells aS true 1)).dp (by ac_rfl)
 have gJ:=hw.alloc (.cells aS true 1)
 cases hh:dw M cell cc
 · have ea:de M 1 cell cc gF=bq.zero:=by simp [de,hh]
   have em:kd M cell cc gF=M:=by simp [kd,hh]
   revert hw;refine W (J1 (ju cf mb M cell cc _ _ h1 hM)) (J4 hh @af.eq_1 @AW.aa @aS.eq_1) (J1 ?_)<;>unhygienic intros
   refine⟨_,by first|(simp [AW.aa];done)|(simp [AW.aa];rfl),bK.post (by rw [ea];rfl) ?_⟩
   rw [em]
   exact h.le hw (by repeat' (first|exact AW.le.refl _|refine AW.le.set ?_ (by simp<;>omega) _|refine AW.le.trans ?_ (AW.le.alloc _ _)))
 · revert hw;(repeat first|clear hw|revert hc|revert zn|revert zA|revert R|revert K);refine W (J1 (ju cf mb M cell cc _ _ h1 hM)) (J4 hh @af.eq_1 @AW.aa @aS.eq_1) (J1 ?_)<;>unhygienic intros
   refine(qE cf mb M 1 cell cc 0 false hM hh).use gJ h1 rfl ?_
   intro v A3 s4 IJ _
   obtain⟨rfl,s5⟩:=s4.jT
   clear s4
   have ea:oh M 1 cell cc false 0=de M 1 cell cc gF:=by simp [oh,de,hh,gF]
   have em:kd M cell cc gF=M:=uy (by intro o _;rfl)
   rw [ea] at *
   simp only [Bool.false_eq_true,if_false] at s5
   rw [←em] at s5
   have s6:bK A3 (pt A.next (.cells aS true 1)*(eX cf mb (kd M cell cc gF)*F)):=s5.dp (by ac_rfl)
   have g0:=s6.cy
   revert hw;(repeat first|clear hw|revert hc|revert zn|revert zA|revert R|revert K);refine W trivial (J5 g0 @af.eq_1 @AW.aa @aS.eq_1 @bq.v.eq_1) (J1 ?_)<;>unhygienic intros
   refine⟨_,by first|(simp [AW.aa];done)|(simp [AW.aa];rfl),bK.post (by simp [bq.v]) ?_⟩
   exact(s6.set _).right
theorem Fg (cf:bG) (mb:Nat) (M:Nat→List Int) (cell cc x:Int) (hM:fE M) :
 ka Tryz.prog 103 [.pointer (some ⟨mb,0,none⟩),.int .i64 cell,.int .i64 cc,.int .u64 x] (eX cf mb M)
  (fun v=>rc (v=(de M 2 cell cc (eD x)).v)*eX cf mb (kd M cell cc (eD x))):=by
 intro A F hw h
 refine ab Tryz.func103 rfl (by kernel_rfl) fun _=>?_
 have h1:bK (A.alloc (.cells aS true 1)) (eX cf mb M*(pt A.next (.cells aS true 1)*F)):=(h.alloc hw (.cells aS true 1)).dp (by ac_rfl)
 have gJ:=hw.alloc (.cells aS true 1)
 cases hh:dw M cell cc
 · have ea:de M 2 cell cc (eD x)=bq.zero:=by simp [de,hh]
   have em:kd M cell cc (eD x)=M:=by simp [kd,hh]
   revert hw;refine W (J1 (ju cf mb M cell cc _ _ h1 hM)) (J4 hh @af.eq_1 @AW.aa @aS.eq_1) (J1 ?_)<;>unhygienic intros
   refine⟨_,by first|(simp [AW.aa];done)|(simp [AW.aa];rfl),bK.post (by rw [ea];rfl) ?_⟩
   rw [em]
   exact h.le hw (by repeat' (first|exact AW.le.refl _|refine AW.le.set ?_ (by simp<;>omega) _|refine AW.le.trans ?_ (AW.le.alloc _ _)))
 · revert hw;(repeat first|clear hw|revert hc|revert zn|revert zA|revert R|revert K);refine W (J1 (ju cf mb M cell cc _ _ h1 hM)) (J4 hh @af.eq_1 @AW.aa @aS.eq_1) (J1 ?_)<;>unhygienic intros
   refine(qE cf mb M 2 cell cc x true hM hh).use gJ h1 rfl ?_
   intro v A3 s4 IJ _
   obtain⟨rfl,s5⟩:=s4.jT
   clear s4
   have ea:oh M 2 cell cc true x=de M 2 cell cc (eD x):=by simp [oh,de,hh,eD]
   have em:kd M cell cc (eD x)=setRow M cell cc x:=by simp [kd,hh,eD]
   rw [ea] at *
   simp only [if_true] at s5
   rw [←em] at s5
   have s6:bK A3 (pt A.next (.cells aS true 1)*(eX cf mb (kd M cell cc (eD x))*F)):=s5.dp (by ac_rfl)
   have g0:=s6.cy
   revert hw;(repeat first|clear hw|revert hc|revert zn|revert zA|revert R|revert K);refine W trivial (J5 g0 @af.eq_1 @AW.aa @aS.eq_1 @bq.v.eq_1) (J1 ?_)<;>unhygienic intros
   refine⟨_,by first|(simp [AW.aa];done)|(simp [AW.aa];rfl),bK.post (by simp [bq.v]) ?_⟩
   exact(s6.set _).right
theorem Iq (cf:bG) (mb:Nat) (M:Nat→List Int) (cell cc dH x:Int) (hM:fE M) :
 ka Tryz.prog 198 [.pointer (some ⟨mb,0,none⟩),.int .i64 cell,.int .i64 cc,.int .u64 dH,.int .u64 x] (eX cf mb M)
  (fun v=>rc (v=(de M 3 cell cc (hQ dH x)).v)*eX cf mb (kd M cell cc (hQ dH x))):=by
 intro A F hw h
 refine ab Tryz.func198 rfl (by kernel_rfl) fun _=>?_
 have h1:bK (A.alloc (.cells aS true 1)) (eX cf mb M*(pt A.next (.cells aS true 1)*F)):=(h.alloc hw (.cells aS true 1)).dp (by ac_rfl)
 have gJ:=hw.alloc (.cells aS true 1)
 cases hh:dw M cell cc
 · have ea:de M 3 cell cc (hQ dH x)=bq.zero:=by simp [de,hh]
   have em:kd M cell cc (hQ dH x)=M:=by simp [kd,hh]
   revert hw;refine W (J1 (ju cf mb M cell cc _ _ h1 hM)) (J4 hh @af.eq_1 @AW.aa @aS.eq_1) (J1 ?_)<;>unhygienic intros
   refine⟨_,by first|(simp [AW.aa];done)|(simp [AW.aa];rfl),bK.post (by rw [ea];rfl) ?_⟩
   rw [em]
   exact h.le hw (by repeat' (first|exact AW.le.refl _|refine AW.le.set ?_ (by simp<;>omega) _|refine AW.le.trans ?_ (AW.le.alloc _ _)))
 · revert hw;(repeat first|clear hw|revert hc|revert zn|revert zA|revert R|revert K);refine W (J2 (ju cf mb M cell cc _ _ h1 hM) (mD cf mb M cell cc _ _ h1 hM hh)) (J4 hh @af.eq_1 @AW.aa @aS.eq_1) (J1 ?_)<;>unhygienic intros
   refine(qE cf mb M 3 cell cc x (decide ((eJ M cell).getD cc.toNat 0=dH)) hM hh).use gJ h1 rfl ?_
   intro v A3 s4 IJ _
   obtain⟨rfl,s5⟩:=s4.jT
   clear s4
   have ea:oh M 3 cell cc (decide ((eJ M cell).getD cc.toNat 0=dH)) x=de M 3 cell cc (hQ dH x):=by simp [oh,de,hh,hQ]
   have em:kd M cell cc (hQ dH x)=if decide ((eJ M cell).getD cc.toNat 0=dH)=true then setRow M cell cc x else M:=by simp [kd,hh,hQ]
   rw [ea] at *
   rw [←em] at s5
   have s6:bK A3 (pt A.next (.cells aS true 1)*(eX cf mb (kd M cell cc (hQ dH x))*F)):=s5.dp (by ac_rfl)
   have g0:=s6.cy
   revert hw;(repeat first|clear hw|revert hc|revert zn|revert zA|revert R|revert K);refine W trivial (J5 g0 @af.eq_1 @AW.aa @aS.eq_1 @bq.v.eq_1) (J1 ?_)<;>unhygienic intros
   refine⟨_,by first|(simp [AW.aa];done)|(simp [AW.aa];rfl),bK.post (by simp [bq.v]) ?_⟩
   exact(s6.set _).right
def fw (cf:bG) (mb:Nat) (M:Mm):It:=.h (eX cf mb M)
theorem kp (cf:bG) (mb:Nat) (M:Mm):bn [fw cf mb M]=eX cf mb M:=by show eX cf mb M*fa=_;rw [dx]
theorem E7 (cf:bG) (mb:Nat) (M:Mm) (hM:fE M) (cell cc x:Int):aP Tryz.prog 103 [.pointer (some ⟨mb,0,none⟩),.int .i64 cell,.int .i64 cc,.int .u64 x] [fw cf mb M]
 (fun v=>v=(wx M cell cc x).v) (fun _=>[fw cf mb (ww M cell cc x)]):=
 aP.jK (Fg cf mb M cell cc x hM) (kp cf mb M) fun v=>by rw [kp];rfl
end Go.Stx
