/-
 The reference's machines: entering, taking a turn, lists of blocks, reading.
-/
import Derived.Test.YtncmjklabcoeaaaGreatG15
import Derived.Test.YtncmjklabcoeaaaGreatG11
set_option linter.unusedVariables false
set_option linter.unusedSimpArgs false
set_option maxRecDepth 20000
set_option maxHeartbeats 4000000
namespace Go.Stx
open Go Go.Proofs
attribute [local irreducible] TW hN fj cm aH bB dK ei
abbrev zd:List (Nat×Nat):=[(0,0),(1,0),(2,0),(3,0),(4,0),(5,0),(6,0),(7,0),(8,0),(9,0),(10,0),(11,3)]
abbrev FB:List (Nat×Nat):=[(0,0),(1,0),(2,0),(3,0),(4,0),(5,0),(6,0),(7,0),(8,0),(9,0),(10,2),(11,0),(12,0),(13,0),(14,0),(15,0)]
abbrev FA:List (Nat×Nat):=[(0,0),(1,0),(2,0),(3,0),(4,0),(5,0),(6,0),(7,0),(8,0),(9,2),(10,0),(11,0),(12,3),(13,3)]
abbrev Fz:List (Nat×Nat):=[(0,0),(1,0),(2,0),(3,0),(4,0),(5,0),(6,0),(7,0),(8,2),(9,0),(10,0),(11,0),(12,0),(13,0)]
abbrev KY:List (Nat×Nat):=[(0,0),(1,0),(2,2),(3,0),(4,0),(5,0),(6,0),(8,0),(9,0),(10,0),(11,0),(7,2),(12,0),(13,0)]
abbrev KX:List (Nat×Nat):=[(0,0),(1,0),(2,0),(3,0),(4,0),(5,0),(6,0)]
open T5
def eY (s:dC):ef:=.cells [.int .i64 s.ag,.int .i64 s.cj,.int .i64 s.kc] true 1
def iy (s:fL):ef:=.cells [.int .i64 s.eo,.bool s.done] true 1
def kQ (s:mN):ef:=.cells [.int .i64 s.dB,.int .i64 s.cj,.int .u64 s.eP,.int .u64 s.next,.int .i64 s.block] true 1
def gj (s:kM):ef:=.cells [.int .i64 s.dB,.int .i64 s.block,.int .i64 s.cj,.int .u64 s.eP] true 1
def dY.Bo (s:dY):Int:=if s.cj=3∧s.du=true then 4 else s.cj
def gA (s:dY):ef:=.cells [.int .i64 s.cA,.int .i64 s.dl,.int .i64 s.rv,.int .i64 s.Bo,.int .u64 s.d8,.int .u64 s.value] true 1
theorem yG (t:Int) (A:AW):aH Tryz.prog 76 [.int .i64 t] A (fun v A'=>v=.pointer (some ⟨A.next,0,none⟩)∧A'=A.alloc (eY ⟨t,0,0⟩)):=by
 refine ab Tryz.func76 rfl (by kernel_rfl) fun _=>?_
 refine W trivial trivial (J1 ?_)<;>unhygienic intros
 exact⟨_,rfl,rfl,rfl⟩
theorem mV (cf:bG) (b mb:Nat) (s:dC) (M:Mm) (hM:fE M) (hb:0≤s.cj∧s.cj≤3) (hc:s.cj=2→qW (IntKind.i64.wrap s.ao)=IntKind.u64.wrap (s.ao+2)) :
 aP Tryz.prog 85 [.pointer (some ⟨b,0,none⟩),.pointer (some ⟨mb,0,none⟩)] [.at b (eY s),fw cf mb M]
  (fun v=>v=(go s M).1.v) (fun _=>[.at b (eY (go s M).2.1),fw cf mb (go s M).2.2]):=by
 intro A F hw hS
 refine ab Tryz.func85 rfl (by kernel_rfl) fun _=>?_
 dsimp only [na,zo] at hS
 have hq:=ZS hS hw
 rcases wV s M with ⟨h,e⟩|⟨h,e⟩|⟨h,e⟩|⟨h,e⟩
 · revert hq hS hw hc;refine W (J2 (E7 cf mb _ hM) (xp cf mb _ hM)) (J6 h @AW.aa @af.eq_1 @aS.eq_1 @bq.v.eq_1 @dC.kc.eq_1) (J1 ?_)<;>unhygienic intros
   all_goals(
    try rw [e]
    refine⟨_,by simp [hq,AW.aa,af];rfl,by simp [bq.v,bq.zero,h],?_⟩
    apply an.cC
    (·exact sA)
    (·repeat' (first|apply aX.z|apply aX.s|apply ay.z|(apply ay.Au;simp [eY,iy,kQ,gj,gA,dC.kc,fL.eo,dY.Bo,h];done)|apply ay.s)))
 · revert hq hS hw;(repeat first|clear hq|clear hS|clear hw|revert hc|revert zn|revert zA|revert R|revert K);refine W (J2 (E7 cf mb _ hM) (xp cf mb _ hM)) (J6 h @AW.aa @af.eq_1 @aS.eq_1 @bq.v.eq_1 @dC.kc.eq_1) (J1 ?_)<;>unhygienic intros
   all_goals(
    try rw [e]
    refine⟨_,by simp [hq,AW.aa,af];rfl,by simp [bq.v,bq.zero,h],?_⟩
    apply an.cC
    (·exact sA)
    (·repeat' (first|apply aX.z|apply aX.s|apply ay.z|(apply ay.Au;simp [eY,iy,kQ,gj,gA,dC.kc,fL.eo,dY.Bo,h];done)|apply ay.s)))
 · have LL:=hc h
   rw [←LL] at e
   revert hq hS hw;(repeat first|clear hq|clear hS|clear hw|revert hc|revert zn|revert zA|revert R|revert K);refine W (J3 @Dk (E7 cf mb _ hM) (xp cf mb _ hM)) (J6 h @AW.aa @af.eq_1 @aS.eq_1 @bq.v.eq_1 @dC.kc.eq_1) (J1 ?_)<;>unhygienic intros
   all_goals(
    try rw [e]
    refine⟨_,by simp [hq,AW.aa,af];rfl,by simp [bq.v,bq.zero,h],?_⟩
    apply an.cC
    (·exact sA)
    (·repeat' (first|apply aX.z|apply aX.s|apply ay.z|(apply ay.Au;simp [eY,iy,kQ,gj,gA,dC.kc,fL.eo,dY.Bo,h];done)|apply ay.s)))
 · have h3:s.cj=3:=by omega
   revert hq hS hw;(repeat first|clear hq|clear hS|clear hw|revert hc|revert zn|revert zA|revert R|revert K);refine W (J2 (E7 cf mb _ hM) (xp cf mb _ hM)) (J6 h3 @AW.aa @af.eq_1 @aS.eq_1 @bq.v.eq_1 @dC.kc.eq_1) (J1 ?_)<;>unhygienic intros
   all_goals(
    rw [e]
    refine⟨_,by simp [hq,AW.aa,af];rfl,by simp [bq.v,bq.zero,h],?_⟩
    apply an.cC
    (·exact sA)
    (·repeat' (first|apply aX.z|apply aX.s|apply ay.z|(apply ay.Au;simp [eY,dC.kc,h3];done)|apply ay.s)))
theorem Bd (A:AW):aH Tryz.prog 200 [] A (fun v A'=>v=.pointer (some ⟨A.next,0,none⟩)∧A'=A.alloc (iy ⟨false,0,false⟩)):=by
 refine ab Tryz.func200 rfl (by kernel_rfl) fun _=>?_
 refine W trivial trivial (J1 ?_)<;>unhygienic intros
 exact⟨_,rfl,rfl,rfl⟩
theorem yt (cf:bG) (b mb:Nat) (s:fL) (M:Mm) (hM:fE M) (ht:s.pT=true→0≤IntKind.i64.wrap s.gP∧IntKind.u64.wrap (IntKind.i64.wrap s.gP)=s.gP) :
 aP Tryz.prog 96 [.pointer (some ⟨b,0,none⟩),.pointer (some ⟨mb,0,none⟩)] [.at b (iy s),fw cf mb M]
  (fun v=>v=(gn s M).1.v) (fun _=>[.at b (iy (gn s M).2.1),fw cf mb (gn s M).2.2]):=by
 intro A F hw hS
 refine ab Tryz.func96 rfl (by kernel_rfl) fun _=>?_
 dsimp only [na,zo] at hS
 have hq:=ZS hS hw
 rcases xW s M with ⟨h,e⟩|⟨h,e⟩|⟨h,e⟩
 · revert hq hS hw;refine W (J3 (od zd) (Pa cf mb _ hM) (xp cf mb _ hM)) (J6 h @AW.aa @af.eq_1 @aS.eq_1 @bq.v.eq_1 @fL.eo.eq_1) (J1 ?_)<;>unhygienic intros
   all_goals(
    try rw [e]
    refine⟨_,by simp [hq,AW.aa,af];rfl,by simp [bq.v,bq.zero,h],?_⟩
    apply an.cC
    (·exact sA)
    (·repeat' (first|apply aX.z|apply aX.s|apply ay.z|(apply ay.Au;simp [eY,iy,kQ,gj,gA,dC.kc,fL.eo,dY.Bo,h];done)|apply ay.s)))
 · revert hq hS hw;(repeat first|clear hq|clear hS|clear hw|revert hc|revert zn|revert zA|revert R|revert K);refine W (J3 (od zd) (Pa cf mb _ hM) (xp cf mb _ hM)) (J6 h @AW.aa @af.eq_1 @aS.eq_1 @bq.v.eq_1 @fL.eo.eq_1) (J1 ?_)<;>unhygienic intros
   all_goals(
    try rw [e]
    refine⟨_,by simp [hq,AW.aa,af];rfl,by simp [bq.v,bq.zero,h],?_⟩
    apply an.cC
    (·exact sA)
    (·repeat' (first|apply aX.z|apply aX.s|apply ay.z|(apply ay.Au;simp [eY,iy,kQ,gj,gA,dC.kc,fL.eo,dY.Bo,h];done)|apply ay.s)))
 · obtain⟨h4,h5⟩:=ht h.2
   have h6:¬IntKind.i64.wrap s.gP<0:=by omega
   revert hq hS hw;(repeat first|clear hq|clear hS|clear hw|revert hc|revert zn|revert zA|revert R|revert K);refine W (J3 (od zd) (Pa cf mb _ hM) (xp cf mb _ hM)) (J8 h h5 h6 @AW.aa @af.eq_1 @aS.eq_1 @bq.v.eq_1 @fL.eo.eq_1) (J1 ?_)<;>unhygienic intros
   all_goals(
    try rw [e]
    refine⟨_,by simp [hq,AW.aa,af];rfl,by simp [bq.v,bq.zero,h],?_⟩
    apply an.cC
    (·exact sA)
    (·repeat' (first|apply aX.z|apply aX.s|apply ay.z|(apply ay.Au;simp [eY,iy,kQ,gj,gA,dC.kc,fL.eo,dY.Bo,h];done)|apply ay.s)))
theorem C9 (c:Int) (A:AW):aH Tryz.prog 84 [.int .i64 c] A (fun v A'=>v=.pointer (some ⟨A.next,0,none⟩)∧A'=A.alloc (kQ ⟨c,0,0,0,-1⟩)):=by
 refine ab Tryz.func84 rfl (by kernel_rfl) fun _=>?_
 refine W trivial trivial (J1 ?_)<;>unhygienic intros
 exact⟨_,rfl,rfl,rfl⟩
theorem Bb (cf:bG) (b mb:Nat) (s:mN) (M:Mm) (hM:fE M) :
 aP Tryz.prog 91 [.pointer (some ⟨b,0,none⟩),.pointer (some ⟨mb,0,none⟩)] [.at b (kQ s),fw cf mb M]
  (fun v=>v=(fx s M).1.v) (fun _=>[.at b (kQ (fx s M).2.1),fw cf mb (fx s M).2.2]):=by
 intro A F hw hS
 refine ab Tryz.func91 rfl (by kernel_rfl) fun _=>?_
 dsimp only [na,zo] at hS
 have hq:=ZS hS hw
 rcases vK s M with ⟨h,e⟩|⟨h,e⟩|⟨h,e⟩|⟨w,h,e⟩|⟨w,h,e⟩|⟨h,e⟩
 repeat' (first
 | (refine il fun R hR=>?_;simp [ak,au,hq,h,AW.aa,af,aS,bq.v];try simp (disch:=omega) only [if_pos,if_neg,ak,au])
 | (refine hR _ _ ?_;clear hR R)|(refine hK _ _ ?_;clear hK K)|refine nx ?_
 | (refine EZ fun R hR=>?_;simp [ak,au,hq,h,AW.aa,af,aS,bq.v];try simp (disch:=omega) only [if_pos,if_neg,ak,au])
 | (refine EF (fun R hR=>?_) (fun R hR=>?_)<;>(simp [ak,au,hq,h,AW.aa,af,aS,bq.v];try simp (disch:=omega) only [if_pos,if_neg,ak,au]))
 | refine EY ?_
 | refine wn fun K hK=>?_
 | simp only [wS,FB]
 | simp only [hN,nC,jt,Option.map_none,Option.map_some,List.getElem?_toArray,List.getElem?_cons_zero,List.getElem?_cons_succ,List.getD_cons_zero,List.getD_cons_succ,Option.bind_some]
 | refine wl Tryz.mx FB (by decide +kernel) fun K hK=>?_
 | refine wt (fun _=>True) Tryz.mx [0,0,0,0,0,0,0,0,0,0,3,2,3] (.bu 0 (.bu 1 (.bu 2 (.bu 3 (.bu 4 (.bu 5 (.bu 6 (.bu 7 (.bu 8 (.bu 9 (.sC 10 (.bu 11 (.bu 12 .nil)) 11 (.bu 10 (.bu 12 .nil))))))))))))) (by decide +kernel) fun K hK=>?_
 | (refine bD (B8 _ _) ?_;rintro _ _ ⟨rfl,rfl⟩ _ _)
 | (refine bD (yX _ _ _) ?_<;>rintro _ _ ⟨⟨ee,rfl⟩,rfl⟩ _ _)
 | (apply aP.el (Q5 cf mb _ hM _ _ _ _);(·exact wA);(·exact sA);(·first|exact pA|exact kA);rintro _ _ rfl hS hw _;have hS:=lA hS;have hq:=ZS hS hw)
 | (apply aP.el (xp cf mb _ hM _ _);(·exact wA);(·exact sA);(·first|exact pA|exact kA);rintro _ _ rfl hS hw _;have hS:=lA hS;have hq:=ZS hS hw)
 | refine wb ?_|refine wr ?_|refine wk ?_|refine we ?_|refine ws ?_|refine wq ?_
 | (refine wc rfl (fun hc=>?_) (fun hc=>?_)<;>(try simp at hc)<;>(try omega))
 | (refine ib (fun hc=>?_) (fun hc=>?_)<;>(try omega)<;>(try simp (disch:=omega) only [if_pos,if_neg])))
 all_goals(
  try rw [e]
  refine⟨_,by simp [hq,AW.aa,af];rfl,by simp [bq.v,bq.zero,h],?_⟩
  apply an.cC
  (·exact sA)
  (·repeat' (first|apply aX.z|apply aX.s|apply ay.z|(apply ay.Au;simp [eY,iy,kQ,gj,gA,dC.kc,fL.eo,dY.Bo,h];done)|apply ay.s)))
theorem Bf (c k:Int) (A:AW):aH Tryz.prog 244 [.int .i64 c,.int .i64 k] A (fun v A'=>v=.pointer (some ⟨A.next,0,none⟩)∧A'=A.alloc (gj ⟨c,k,0,0⟩)):=by
 refine ab Tryz.func244 rfl (by kernel_rfl) fun _=>?_
 refine W trivial trivial (J1 ?_)<;>unhygienic intros
 exact⟨_,rfl,rfl,rfl⟩
theorem oc (cf:bG) (b mb:Nat) (s:kM) (M:Mm) (hM:fE M) :
 aP Tryz.prog 208 [.pointer (some ⟨b,0,none⟩),.pointer (some ⟨mb,0,none⟩)] [.at b (gj s),fw cf mb M]
  (fun v=>v=(dE s M).1.v) (fun _=>[.at b (gj (dE s M).2.1),fw cf mb (dE s M).2.2]):=by
 intro A F hw hS
 refine ab Tryz.func208 rfl (by kernel_rfl) fun _=>?_
 dsimp only [na,zo] at hS
 have hq:=ZS hS hw
 rcases yY s M with ⟨h,e⟩|⟨h,e⟩|⟨h,e⟩|⟨h,e⟩|⟨h,e⟩
 all_goals(try simp only [Fq] at e)
 repeat' (first
 | (refine il fun R hR=>?_;simp [ak,au,hq,h,AW.aa,af,aS,bq.v];try simp (disch:=omega) only [if_pos,if_neg,ak,au])
 | (refine hR _ _ ?_;clear hR R)|(refine hK _ _ ?_;clear hK K)|refine nx ?_
 | (refine EZ fun R hR=>?_;simp [ak,au,hq,h,AW.aa,af,aS,bq.v];try simp (disch:=omega) only [if_pos,if_neg,ak,au])
 | (refine EF (fun R hR=>?_) (fun R hR=>?_)<;>(simp [ak,au,hq,h,AW.aa,af,aS,bq.v];try simp (disch:=omega) only [if_pos,if_neg,ak,au]))
 | refine EY ?_
 | refine wn fun K hK=>?_
 | simp only [wS,FA,Fz]
 | simp only [hN,nC,jt,Option.map_none,Option.map_some,List.getElem?_toArray,List.getElem?_cons_zero,List.getElem?_cons_succ,List.getD_cons_zero,List.getD_cons_succ,Option.bind_some]
 | refine wl Tryz.mx FA (by decide +kernel) fun K hK=>?_
 | refine wl Tryz.mx Fz (by decide +kernel) fun K hK=>?_
 | refine wt (fun _=>True) Tryz.mx [0,0,0,0,0,0,0,0,0,0,3,2,3] (.bu 0 (.bu 1 (.bu 2 (.bu 3 (.bu 4 (.bu 5 (.bu 6 (.bu 7 (.bu 8 (.bu 9 (.sC 10 (.bu 11 (.bu 12 .nil)) 11 (.bu 10 (.bu 12 .nil))))))))))))) (by decide +kernel) fun K hK=>?_
 | (refine bD (B8 _ _) ?_;rintro _ _ ⟨rfl,rfl⟩ _ _)
 | (refine bD (yX _ _ _) ?_<;>rintro _ _ ⟨⟨ee,rfl⟩,rfl⟩ _ _)
 | (apply aP.el (Q5 cf mb _ hM _ _ _ _);(·exact wA);(·exact sA);(·first|exact pA|exact kA);rintro _ _ rfl hS hw _;have hS:=lA hS;have hq:=ZS hS hw)
 | (apply aP.el (E7 cf mb _ hM _ _ _);(·exact wA);(·exact sA);(·first|exact pA|exact kA);rintro _ _ rfl hS hw _;have hS:=lA hS;have hq:=ZS hS hw)
 | (apply aP.el (xp cf mb _ hM _ _);(·exact wA);(·exact sA);(·first|exact pA|exact kA);rintro _ _ rfl hS hw _;have hS:=lA hS;have hq:=ZS hS hw)
 | refine wb ?_|refine wr ?_|refine wk ?_|refine we ?_|refine ws ?_|refine wq ?_
 | (refine wc rfl (fun hc=>?_) (fun hc=>?_)<;>(try simp at hc)<;>(try omega))
 | (refine ib (fun hc=>?_) (fun hc=>?_)<;>(try omega)<;>(try simp (disch:=omega) only [if_pos,if_neg])))
 all_goals(
  try rw [e]
  refine⟨_,by simp [hq,AW.aa,af];rfl,by simp [bq.v,bq.zero,h],?_⟩
  apply an.cC
  (·exact sA)
  (·repeat' (first|apply aX.z|apply aX.s|apply ay.z|(apply ay.Au;simp [eY,iy,kQ,gj,gA,dC.kc,fL.eo,dY.Bo,h];done)|apply ay.s)))
theorem Be (a o r:Int) (A:AW):aH Tryz.prog 235 [.int .i64 a,.int .i64 o,.int .i64 r] A (fun v A'=>v=.pointer (some ⟨A.next,0,none⟩)∧A'=A.alloc (gA ⟨a,o,r,0,0,0,false⟩)):=by
 refine ab Tryz.func235 rfl (by kernel_rfl) fun _=>?_
 refine W trivial trivial (J1 ?_)<;>unhygienic intros
 exact⟨_,rfl,rfl,rfl⟩
theorem Fj (s:dY) (M:Mm) :
 ((s.cj=0∧0≤iF (gX M 2 s.dl).fI)∧cB s M=(gX M 2 s.dl,{ s with d8:=(gX M 2 s.dl).fI,du:=true,cj:=3 },M)) ∨
 (((s.cj=0∧¬0≤iF (gX M 2 s.dl).fI)∧s.rv<ge (gX M 2 s.dl).fI)∧cB s M=(gX M 2 s.dl,{ s with d8:=(gX M 2 s.dl).fI,du:=true,cj:=3 },M)) ∨
 (((s.cj=0∧¬0≤iF (gX M 2 s.dl).fI)∧¬s.rv<ge (gX M 2 s.dl).fI)∧cB s M=(gX M 2 s.dl,{ s with d8:=(gX M 2 s.dl).fI,cj:=1 },M)) ∨
 (s.cj=1∧cB s M=(gX M 1 s.cA,{ s with value:=(gX M 1 s.cA).fI,cj:=2 },M)) ∨
 ((s.cj=2∧(gX M 2 s.dl).fI=s.d8)∧cB s M=(gX M 2 s.dl,{ s with du:=false,cj:=3 },M)) ∨
 ((s.cj=2∧¬(gX M 2 s.dl).fI=s.d8)∧cB s M=(gX M 2 s.dl,{ s with du:=true,cj:=3 },M)) ∨
 ((¬s.cj=0∧¬s.cj=1∧¬s.cj=2)∧cB s M=(bq.zero,s,M)):=by
 rcases mh s M with h|h|h|h|⟨h,e⟩|h
 · exact .inl h
 · exact .inr (.inl h)
 · exact .inr (.inr (.inl h))
 · exact .inr (.inr (.inr (.inl h)))
 · by_cases hx:(gX M 2 s.dl).fI=s.d8
   · exact .inr (.inr (.inr (.inr (.inl ⟨⟨h,hx⟩,by rw [e];simp [hx]⟩))))
   · exact .inr (.inr (.inr (.inr (.inr (.inl ⟨⟨h,hx⟩,by rw [e];simp [hx]⟩)))))
 · exact .inr (.inr (.inr (.inr (.inr (.inr h)))))
theorem yA (cf:bG) (b mb:Nat) (s:dY) (M:Mm) (hM:fE M) (hs:s.du=true→s.cj=3) :
 aP Tryz.prog 88 [.pointer (some ⟨b,0,none⟩),.pointer (some ⟨mb,0,none⟩)] [.at b (gA s),fw cf mb M]
  (fun v=>v=(cB s M).1.v) (fun _=>[.at b (gA (cB s M).2.1),fw cf mb (cB s M).2.2]):=by
 intro A F hw hS
 refine ab Tryz.func88 rfl (by kernel_rfl) fun _=>?_
 dsimp only [na,zo] at hS
 have hq:=ZS hS hw
 rcases Fj s M with ⟨h,e⟩|⟨h,e⟩|⟨h,e⟩|⟨h,e⟩|⟨h,e⟩|⟨h,e⟩|⟨h,e⟩
 all_goals(revert hq hS hw;refine W (J5 (od KY) (od KX) @uk @pB (xp cf mb _ hM)) (J6 h @dY.Bo.eq_1 @AW.aa @af.eq_1 @aS.eq_1 @bq.v.eq_1) (J1 ?_)<;>unhygienic intros)
 all_goals(
  try rw [e]
  refine⟨_,by simp [hq,AW.aa,af];rfl,by simp [bq.v,bq.zero,h],?_⟩
  apply an.cC
  (·exact sA)
  (·repeat' (first|apply aX.z|apply aX.s|apply ay.z|(apply ay.Au;simp [eY,iy,kQ,gj,gA,dC.kc,fL.eo,dY.Bo,h];done)|apply ay.s)))
end Go.Stx
