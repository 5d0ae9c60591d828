/-
 The program's machines: giving a block back, reading.
-/
import Derived.Test.YtncmjklabcoeaaaGreatD09
set_option linter.unusedVariables false
set_option linter.unusedSimpArgs false
set_option maxRecDepth 20000
set_option maxHeartbeats 4000000
namespace Go.Stx
open Go Go.Proofs
attribute [local irreducible] fj cm aH bB dK ei
abbrev K4:List (Nat×Nat):=[(0,0),(1,0),(2,0),(3,0),(4,0),(5,0),(6,0),(7,0),(8,0),(9,2),(10,0),(11,0),(12,3),(13,0),(14,0),(15,0),(16,3)]
abbrev K3:List (Nat×Nat):=[(0,0),(1,0),(2,0),(3,0),(4,0),(5,0),(6,0),(7,0),(8,2),(9,0),(10,0),(11,0),(12,0),(13,0)]
abbrev K1:List (Nat×Nat):=[(0,0),(1,0),(2,0),(3,0),(4,0),(5,0),(6,0),(7,0),(8,0),(9,0),(10,3),(11,0),(12,0),(13,0),(14,3)]
abbrev FE:List (Nat×Nat):=[(0,0),(1,0),(2,0),(3,0),(4,2),(5,0),(6,0),(7,0),(8,0),(9,0),(10,0),(12,0),(13,0),(14,0),(15,0),(11,2),(16,0),(17,0)]
abbrev FD:List (Nat×Nat):=[(0,0),(1,0),(2,0),(3,0),(4,0),(5,0),(6,0),(7,0),(8,0),(9,0),(10,0),(11,3),(12,0),(13,0),(14,3)]
open T1
theorem Dx (c k:Int) (A:AW):aH Tryz.prog 160 [.int .i64 c,.int .i64 k] A (fun v A'=>v=.pointer (some ⟨A.next,0,none⟩)∧A'=A.alloc (j4 ⟨c,k,0,0⟩)):=by
 refine ab Tryz.func160 rfl (by kernel_rfl) fun _=>?_
 refine W trivial trivial (J1 ?_)<;>unhygienic intros
 exact⟨_,rfl,rfl,rfl⟩
theorem Bq (b:Nat) (s:kM) (A:AW) (hg:A.cy b=some (j4 s)):eF 163 [.pointer (some ⟨b,0,none⟩)] A (.bool (decide (s.cj=3))):=by
 refine ab Tryz.func163 rfl (by kernel_rfl) fun _=>?_
 dsimp only [j4] at hg
 refine W trivial (J2 hg @AW.aa) (J1 ?_)<;>unhygienic intros
 exact⟨_,rfl,rfl,rfl⟩
def Fq (s:kM):Int:=IntKind.u64.wrap (IntKind.i64.wrap (iu s.eP+1))
theorem yY (s:kM) (M:Mm) :
 (s.cj=0∧dE s M=(gX M 7 s.dB,{ s with eP:=(gX M 7 s.dB).fI,cj:=1 },M)) ∨
 (s.cj=1∧dE s M=(wx M 8 s.block (Fq s),{ s with cj:=2 },ww M 8 s.block (Fq s))) ∨
 ((s.cj=2∧(Aw M 7 s.dB s.eP (lV s.eP s.block)).done=true)∧dE s M=(Aw M 7 s.dB s.eP (lV s.eP s.block),{ s with cj:=3 },Mo M 7 s.dB s.eP (lV s.eP s.block))) ∨
 ((s.cj=2∧(Aw M 7 s.dB s.eP (lV s.eP s.block)).done=false)∧dE s M=(Aw M 7 s.dB s.eP (lV s.eP s.block),{ s with cj:=0 },Mo M 7 s.dB s.eP (lV s.eP s.block))) ∨
 ((¬s.cj=0∧¬s.cj=1∧¬s.cj=2)∧dE s M=(bq.zero,s,M)):=by
 unfold dE
 by_cases h0:s.cj=0
 · simp [h0]
 by_cases h1:s.cj=1
 · simp [h1,Fq]
 by_cases h2:s.cj=2
 · cases h3:(Aw M 7 s.dB s.eP (lV s.eP s.block)).done<;>simp [h2,h3]
 simp [h0,h1,h2]
theorem Bp (b pb:Nat) (s:kM) (M:Mm) :
 aP Tryz.prog 162 [.pointer (some ⟨b,0,none⟩),.pointer (some ⟨pb,0,none⟩)] [.at b (j4 s),eb pb M]
  (fun v=>v=(dE s M).1.v) (fun _=>[.at b (j4 (dE s M).2.1),eb pb (dE s M).2.2]):=by
 intro A F hw hS
 refine ab Tryz.func162 rfl (by kernel_rfl) fun _=>?_
 have hq:=ZV hS hw
 rcases yY s M with ⟨h,e⟩|⟨h,e⟩|⟨h,e⟩|⟨h,e⟩|⟨h,e⟩
 all_goals(try simp only [Fq] at e)
 all_goals(revert hq hS hw;refine W (J8 (od K4) (od K3) (od K1) @Cd @yZ (Vg pb) (Q2 pb) (Pg pb)) (J5 h @AW.aa @af.eq_1 @aS.eq_1 @bq.v.eq_1) (J1 ?_)<;>unhygienic intros)
 all_goals(
  try rw [e]
  refine⟨_,by simp [hq,AW.aa,af];rfl,by simp [bq.v,bq.zero,h],?_⟩
  apply an.cC
  (·exact sA)
  (·repeat' (first|apply aX.z|apply aX.s|apply ay.z|(apply ay.Au;simp [gk,iL,ll,j4,gS,h];done)|apply ay.s)))
theorem tg (b:Nat) (s:dY) (A:AW) (hg:A.cy b=some (gS s)):eF 128 [.pointer (some ⟨b,0,none⟩)] A (.bool s.done):=by
 refine ab Tryz.func128 rfl (by kernel_rfl) fun _=>?_
 dsimp only [gS] at hg
 refine W trivial (J2 hg @AW.aa) (J1 ?_)<;>unhygienic intros
 exact⟨_,rfl,rfl,rfl⟩
theorem uq (b:Nat) (s:dY) (A:AW) (hg:A.cy b=some (gS s)):eF 129 [.pointer (some ⟨b,0,none⟩)] A (.bool s.du):=by
 refine ab Tryz.func129 rfl (by kernel_rfl) fun _=>?_
 dsimp only [gS] at hg
 refine W trivial (J2 hg @AW.aa) (J1 ?_)<;>unhygienic intros
 exact⟨_,rfl,rfl,rfl⟩
theorem yW (b:Nat) (s:dY) (A:AW) (hg:A.cy b=some (gS s)):eF 133 [.pointer (some ⟨b,0,none⟩)] A (.int .u64 s.val):=by
 refine ab Tryz.func133 rfl (by kernel_rfl) fun _=>?_
 have EO:=hg
 dsimp only [gS] at EO
 by_cases h1:s.cj=3<;>cases h2:s.du
 all_goals(refine W (J1 (tg b s _ hg)) (J5 EO h1 h2 @dY.done.eq_1 @AW.aa) (J1 ?_)<;>unhygienic intros)
 all_goals exact⟨_,rfl,by simp [dY.val,h1,h2],rfl⟩
theorem mh (s:dY) (M:Mm) :
 ((s.cj=0∧0≤iF (gX M 2 s.dl).fI)∧cB s M=(gX M 2 s.dl,{ s with d8:=(gX M 2 s.dl).fI,du:=true,cj:=3 },M)) ∨
 (((s.cj=0∧¬0≤iF (gX M 2 s.dl).fI)∧s.rv<ge (gX M 2 s.dl).fI)∧cB s M=(gX M 2 s.dl,{ s with d8:=(gX M 2 s.dl).fI,du:=true,cj:=3 },M)) ∨
 (((s.cj=0∧¬0≤iF (gX M 2 s.dl).fI)∧¬s.rv<ge (gX M 2 s.dl).fI)∧cB s M=(gX M 2 s.dl,{ s with d8:=(gX M 2 s.dl).fI,cj:=1 },M)) ∨
 (s.cj=1∧cB s M=(gX M 1 s.cA,{ s with value:=(gX M 1 s.cA).fI,cj:=2 },M)) ∨
 (s.cj=2∧cB s M=(gX M 2 s.dl,{ s with du:=decide ((gX M 2 s.dl).fI≠s.d8),cj:=3 },M)) ∨
 ((¬s.cj=0∧¬s.cj=1∧¬s.cj=2)∧cB s M=(bq.zero,s,M)):=by
 unfold cB
 by_cases h0:s.cj=0
 · by_cases h1:0≤iF (gX M 2 s.dl).fI<;>by_cases h2:s.rv<ge (gX M 2 s.dl).fI<;>simp [h0,h1,h2]
 by_cases h1:s.cj=1
 · simp [h1]
 by_cases h2:s.cj=2
 · simp [h2]
 simp [h0,h1,h2]
theorem tf (b pb:Nat) (s:dY) (M:Mm) :
 aP Tryz.prog 127 [.pointer (some ⟨b,0,none⟩),.pointer (some ⟨pb,0,none⟩)] [.at b (gS s),eb pb M]
  (fun v=>v=(cB s M).1.v) (fun _=>[.at b (gS (cB s M).2.1),eb pb (cB s M).2.2]):=by
 intro A F hw hS
 refine ab Tryz.func127 rfl (by kernel_rfl) fun _=>?_
 have hq:=ZV hS hw
 rcases mh s M with ⟨h,e⟩|⟨h,e⟩|⟨h,e⟩|⟨h,e⟩|⟨h,e⟩|⟨h,e⟩
 repeat' (first
 | (refine il fun R hR=>?_;simp [ak,au,hq,h,AW.aa,af,aS,bq.v];try simp (disch:=omega) only [if_pos,if_neg,ak,au])
 | (refine hR _ _ ?_;clear hR R)|(refine hK _ _ ?_;clear hK K)|refine nx ?_
 | refine wn fun K hK=>?_
 | simp only [wS,FE,FD]
 | refine wl Tryz.mx FE (by decide +kernel) fun K hK=>?_
 | refine wl Tryz.mx FD (by decide +kernel) fun K hK=>?_
 | (refine bD (uw _ _) ?_;rintro _ _ ⟨rfl,rfl⟩ _ _)
 | (refine bD (th _ _) ?_;rintro _ _ ⟨rfl,rfl⟩ _ _)
 | (refine ⟨fun A' kL=>by simp [AW.aa,kL],?_⟩)
 | (refine AC (fun A'=>A'.cy (A.next+1)=some (.cells (N9 (gX M 2 s.dl)) true 1)) Tryz.mx [(0,0),(1,0),(2,0),(3,0),(4,0),(5,0),(6,0),(7,0),(8,0),(9,0),(10,0),(11,3),(12,0),(13,0),(14,3)] (by decide +kernel) fun K hK=>?_)
 | (apply aP.el (Pg pb _ _ _);(·exact wA);(·exact sA);(·first|exact pA|exact kA);rintro _ _ rfl hS hw _;have hS:=lA hS;have hq:=ZV hS hw)
 | refine wb ?_|refine wr ?_|refine wk ?_|refine we ?_|refine ws ?_|refine wq ?_
 | (refine wc rfl (fun hc=>?_) (fun hc=>?_)<;>(try simp at hc)<;>(try omega))
 | (refine ib (fun hc=>?_) (fun hc=>?_)<;>(try omega)<;>(try simp (disch:=omega) only [if_pos,if_neg])))
 all_goals(
  try rw [e]
  refine⟨_,by simp [hq,AW.aa,af];rfl,by simp [bq.v,bq.zero,h],?_⟩
  apply an.cC
  (·exact sA)
  (·repeat' (first|apply aX.z|apply aX.s|apply ay.z|(apply ay.Au;simp [gk,iL,ll,j4,gS,h];done)|apply ay.s)))
end Go.Stx
