/-
 The program's machines: entering, taking a turn, lists of blocks, reading.
-/
import Derived.Test.YtncmjklabcoeaaaGreatD05
set_option linter.unusedVariables false
set_option linter.unusedSimpArgs false
set_option maxRecDepth 20000
set_option maxHeartbeats 4000000
namespace Go.Stx
open Go Go.Proofs
attribute [local irreducible] fj cm aH bB dK ei
abbrev FF:List (Nat×Nat):=[(0,0),(1,0),(2,0),(3,0),(4,0),(5,0),(6,0),(7,0),(8,0),(9,0),(10,3),(11,0),(12,0),(13,0),(14,3)]
abbrev K6:List (Nat×Nat):=[(0,0),(1,0),(2,0),(3,0),(4,0),(5,0),(6,0),(7,0),(8,0),(9,0),(10,3)]
abbrev K5:List (Nat×Nat):=[(0,0),(1,0),(2,0),(3,0),(4,0),(5,0),(6,0),(7,0),(8,0),(9,0),(10,2),(11,0),(12,0),(13,0),(14,0),(15,0)]
open T1
def gk (s:dC):ef:=.cells [.int .i64 s.ag,.int .i64 s.cj,.int .u64 s.ao] true 1
def iL (s:fL):ef:=.cells [.bool s.pT,.int .u64 s.gP,.bool s.done] true 1
def ll (s:mN):ef:=.cells [.int .i64 s.dB,.int .i64 s.cj,.int .u64 s.eP,.int .u64 s.next,.int .i64 s.block] true 1
def j4 (s:kM):ef:=.cells [.int .i64 s.dB,.int .i64 s.block,.int .i64 s.cj,.int .u64 s.eP] true 1
def gS (s:dY):ef:=.cells [.int .i64 s.cA,.int .i64 s.dl,.int .i64 s.rv,.int .i64 s.cj,.int .u64 s.d8,.int .u64 s.value,.bool s.du] true 1
abbrev N9 (a:bq):List Value:=[.int .i64 a.eV,.int .i64 a.cell,.int .i64 a.cc,.int .u64 a.fI,.int .u64 a.put,.bool a.done]
def eF (f:FuncId) (args:List Value) (A:AW) (u:Value):Prop:=aH Tryz.prog f args A fun v A'=>v=u∧A=A'
theorem Bv (t:Int) (A:AW):aH Tryz.prog 42 [.int .i64 t] A (fun v A'=>v=.pointer (some ⟨A.next,0,none⟩)∧A'=A.alloc (gk ⟨t,0,0⟩)):=by
 refine ab Tryz.func42 rfl (by kernel_rfl) fun _=>?_
 refine W trivial trivial (J1 ?_)<;>unhygienic intros
 exact⟨_,rfl,rfl,rfl⟩
theorem zV (b:Nat) (s:dC) (A:AW) (hg:A.cy b=some (gk s)):eF 126 [.pointer (some ⟨b,0,none⟩)] A (.bool (decide (s.cj=3))):=by
 refine ab Tryz.func126 rfl (by kernel_rfl) fun _=>?_
 dsimp only [gk] at hg
 refine W trivial (J2 hg @AW.aa) (J1 ?_)<;>unhygienic intros
 exact⟨_,rfl,rfl,rfl⟩
theorem sj (b:Nat) (s:dC) (A:AW) (hg:A.cy b=some (gk s)):eF 124 [.pointer (some ⟨b,0,none⟩)] A (.int .i64 s.kc):=by
 refine ab Tryz.func124 rfl (by kernel_rfl) fun _=>?_
 dsimp only [gk] at hg
 refine W trivial (J2 hg @AW.aa) (J2 ?_ ?_)<;>unhygienic intros
 all_goals exact⟨_,rfl,by first|(simp [dC.kc, *];done)|(simp [dC.kc];omega),rfl⟩
theorem wV (s:dC) (M:Mm):(s.cj=0∧go s M=(wx M 6 s.ag 1,{ s with cj:=1 },ww M 6 s.ag 1)) ∨
 (s.cj=1∧go s M=(gX M 3 0,{ s with cj:=2,ao:=(gX M 3 0).fI },M)) ∨
 (s.cj=2∧go s M=(wx M 6 s.ag (IntKind.u64.wrap (s.ao+2)),{ s with cj:=3 },ww M 6 s.ag (IntKind.u64.wrap (s.ao+2)))) ∨
 ((¬s.cj=0∧¬s.cj=1∧¬s.cj=2)∧go s M=(bq.zero,s,M)):=by
 unfold go
 by_cases h0:s.cj=0
 · simp [h0]
 by_cases h1:s.cj=1
 · simp [h1]
 by_cases h2:s.cj=2
 · simp [h2]
 simp [h0,h1,h2]
theorem zU (b pb:Nat) (s:dC) (M:Mm) :
 aP Tryz.prog 125 [.pointer (some ⟨b,0,none⟩),.pointer (some ⟨pb,0,none⟩)] [.at b (gk s),eb pb M]
  (fun v=>v=(go s M).1.v) (fun _=>[.at b (gk (go s M).2.1),eb pb (go s M).2.2]):=by
 intro A F hw hS
 refine ab Tryz.func125 rfl (by kernel_rfl) fun _=>?_
 have hq:=ZV hS hw
 rcases wV s M with ⟨h,e⟩|⟨h,e⟩|⟨h,e⟩|⟨h,e⟩
 all_goals(revert hq hS hw;refine W (J3 (od FF) (Q2 pb) (Pg pb)) (J5 h @AW.aa @af.eq_1 @aS.eq_1 @bq.v.eq_1) (J1 ?_)<;>unhygienic intros)
 all_goals(
  try rw [e]
  refine⟨_,by simp [hq,AW.aa,af];rfl,by simp [bq.v,bq.zero,h],?_⟩
  apply an.cC
  (·exact sA)
  (·repeat' (first|apply aX.z|apply aX.s|apply ay.z|(apply ay.Au;simp [gk,iL,ll,j4,gS,h];done)|apply ay.s)))
theorem HF (pb:Nat) (t:Int) (M:Mm) :
 aP Tryz.prog 57 [.pointer (some ⟨pb,0,none⟩),.int .i64 t] [eb pb M] (fun v=>v=(wx M 6 t 0).v) (fun _=>[eb pb (ww M 6 t 0)]):=by
 intro A F hw hS
 refine ab Tryz.func57 rfl (by kernel_rfl) fun _=>?_
 have hq:=ZV hS hw
 have h:True:=trivial
 have e:True=True:=rfl
 revert hq hS hw;refine W (J1 (Q2 pb)) (J4 @AW.aa @af.eq_1 @aS.eq_1 @bq.v.eq_1) (J1 ?_)<;>unhygienic intros
 all_goals(
  try rw [e]
  refine⟨_,by simp [hq,AW.aa,af];rfl,by simp [bq.v,bq.zero,h],?_⟩
  apply an.cC
  (·exact sA)
  (·repeat' (first|apply aX.z|apply aX.s|apply ay.z|(apply ay.Au;simp [gk,iL,ll,j4,gS,h];done)|apply ay.s)))
theorem Jy (pb:Nat) (t:Int) (M:Mm) :
 aP Tryz.prog 53 [.pointer (some ⟨pb,0,none⟩),.int .i64 t] [eb pb M] (fun v=>v=(wx M 5 0 (pg t)).v) (fun _=>[eb pb (ww M 5 0 (pg t))]):=by
 intro A F hw hS
 refine ab Tryz.func53 rfl (by kernel_rfl) fun _=>?_
 have hq:=ZV hS hw
 have h:True:=trivial
 have e:pg t=IntKind.u64.wrap (IntKind.u64.wrap t+1):=rfl
 revert hq hS hw;refine W (J1 (Q2 pb)) (J4 @AW.aa @af.eq_1 @aS.eq_1 @bq.v.eq_1) (J1 ?_)<;>unhygienic intros
 all_goals(
  try rw [e]
  refine⟨_,by simp [hq,AW.aa,af];rfl,by simp [bq.v,bq.zero,h],?_⟩
  apply an.cC
  (·exact sA)
  (·repeat' (first|apply aX.z|apply aX.s|apply ay.z|(apply ay.Au;simp [gk,iL,ll,j4,gS,h];done)|apply ay.s)))
theorem lP (A:AW):aH Tryz.prog 139 [] A (fun v A'=>v=.pointer (some ⟨A.next,0,none⟩)∧A'=A.alloc (iL ⟨false,0,false⟩)):=by
 refine ab Tryz.func139 rfl (by kernel_rfl) fun _=>?_
 refine W trivial trivial (J1 ?_)<;>unhygienic intros
 exact⟨_,rfl,rfl,rfl⟩
theorem AF (b:Nat) (s:fL) (A:AW) (hg:A.cy b=some (iL s)):eF 141 [.pointer (some ⟨b,0,none⟩)] A (.bool s.done):=by
 refine ab Tryz.func141 rfl (by kernel_rfl) fun _=>?_
 dsimp only [iL] at hg
 refine W trivial (J2 hg @AW.aa) (J1 ?_)<;>unhygienic intros
 exact⟨_,rfl,rfl,rfl⟩
theorem xi (b:Nat) (s:fL) (A:AW) (hg:A.cy b=some (iL s)):eF 54 [.pointer (some ⟨b,0,none⟩)] A (.int .i64 s.eo):=by
 refine ab Tryz.func54 rfl (by kernel_rfl) fun _=>?_
 dsimp only [iL] at hg
 refine W trivial (J2 hg @AW.aa) (J2 ?_ ?_)<;>unhygienic intros
 all_goals exact⟨_,rfl,by simp_all [fL.eo],rfl⟩
theorem xW (s:fL) (M:Mm):(s.done=true∧gn s M=(bq.zero,s,M)) ∨
 ((s.done=false∧s.pT=false)∧gn s M=(N8 M 4 0 1,{ s with pT:=true,gP:=(N8 M 4 0 1).fI },Tf M 4 0 1)) ∨
 ((s.done=false∧s.pT=true)∧gn s M=(gX M 5 0,{ s with done:=decide ((gX M 5 0).fI=s.gP) },M)):=by
 unfold gn
 cases h0:s.done<;>cases h1:s.pT<;>simp
theorem AE (b pb:Nat) (s:fL) (M:Mm) :
 aP Tryz.prog 140 [.pointer (some ⟨b,0,none⟩),.pointer (some ⟨pb,0,none⟩)] [.at b (iL s),eb pb M]
  (fun v=>v=(gn s M).1.v) (fun _=>[.at b (iL (gn s M).2.1),eb pb (gn s M).2.2]):=by
 intro A F hw hS
 refine ab Tryz.func140 rfl (by kernel_rfl) fun _=>?_
 have hq:=ZV hS hw
 rcases xW s M with ⟨h,e⟩|⟨h,e⟩|⟨h,e⟩
 all_goals(revert hq hS hw;refine Wx (J4 (od K6) (⟨⟩:Os (fun A'=>A'.cy (A.next+1)=some (.cells (N9 (N8 M 4 0 1)) true 1)) [(0,0),(1,0),(2,0),(3,1),(4,0),(5,0),(6,3),(7,0),(8,0),(9,3)]) (YV pb) (Pg pb)) (J5 h @AW.aa @af.eq_1 @aS.eq_1 @bq.v.eq_1) (J1 ?_)<;>unhygienic intros)
 all_goals(
  try rw [e]
  refine⟨_,by simp [hq,AW.aa,af];rfl,by simp [bq.v,bq.zero,h],?_⟩
  apply an.cC
  (·exact sA)
  (·repeat' (first|apply aX.z|apply aX.s|apply ay.z|(apply ay.Au;simp [gk,iL,ll,j4,gS,h];done)|apply ay.s)))
theorem Dn (b:Nat) (s:mN) (A:AW) (hg:A.cy b=some (ll s)):eF 135 [.pointer (some ⟨b,0,none⟩)] A (.bool (decide (s.cj=3))):=by
 refine ab Tryz.func135 rfl (by kernel_rfl) fun _=>?_
 dsimp only [ll] at hg
 refine W trivial (J2 hg @AW.aa) (J1 ?_)<;>unhygienic intros
 exact⟨_,rfl,rfl,rfl⟩
theorem Br (b:Nat) (s:mN) (A:AW) (hg:A.cy b=some (ll s)):eF 183 [.pointer (some ⟨b,0,none⟩)] A (.int .i64 s.block):=by
 refine ab Tryz.func183 rfl (by kernel_rfl) fun _=>?_
 dsimp only [ll] at hg
 refine W trivial (J2 hg @AW.aa) (J1 ?_)<;>unhygienic intros
 exact⟨_,rfl,rfl,rfl⟩
theorem vK (s:mN) (M:Mm) :
 ((s.cj=0∧iu (gX M 7 s.dB).fI<0)∧fx s M=(gX M 7 s.dB,{ s with eP:=(gX M 7 s.dB).fI,cj:=3 },M)) ∨
 ((s.cj=0∧¬iu (gX M 7 s.dB).fI<0)∧fx s M=(gX M 7 s.dB,{ s with eP:=(gX M 7 s.dB).fI,cj:=1 },M)) ∨
 (s.cj=1∧fx s M=(gX M 8 (iu s.eP),{ s with next:=(gX M 8 (iu s.eP)).fI,cj:=2 },M)) ∨
 (∃w,((s.cj=2∧lV s.eP (IntKind.i64.wrap (IntKind.i64.wrap s.next-1))=w)∧(Aw M 7 s.dB s.eP w).done=true)∧fx s M=(Aw M 7 s.dB s.eP w,{ s with cj:=3,block:=iu s.eP },Mo M 7 s.dB s.eP w)) ∨
 (∃w,((s.cj=2∧lV s.eP (IntKind.i64.wrap (IntKind.i64.wrap s.next-1))=w)∧(Aw M 7 s.dB s.eP w).done=false)∧fx s M=(Aw M 7 s.dB s.eP w,{ s with cj:=0 },Mo M 7 s.dB s.eP w)) ∨
 ((¬s.cj=0∧¬s.cj=1∧¬s.cj=2)∧fx s M=(bq.zero,s,M)):=by
 unfold fx
 by_cases h0:s.cj=0
 · by_cases h1:iu (gX M 7 s.dB).fI<0<;>simp [h0,h1]
 by_cases h1:s.cj=1
 · simp [h1]
 by_cases h2:s.cj=2
 · cases h3:(Aw M 7 s.dB s.eP (lV s.eP (IntKind.i64.wrap (IntKind.i64.wrap s.next-1)))).done<;>(simp [h2,h3];exact⟨_,⟨rfl,h3⟩,rfl,rfl⟩)
 simp [h0,h1,h2]
theorem Dm (b pb:Nat) (s:mN) (M:Mm) :
 aP Tryz.prog 134 [.pointer (some ⟨b,0,none⟩),.pointer (some ⟨pb,0,none⟩)] [.at b (ll s),eb pb M]
  (fun v=>v=(fx s M).1.v) (fun _=>[.at b (ll (fx s M).2.1),eb pb (fx s M).2.2]):=by
 intro A F hw hS
 refine ab Tryz.func134 rfl (by kernel_rfl) fun _=>?_
 have hq:=ZV hS hw
 rcases vK s M with ⟨h,e⟩|⟨h,e⟩|⟨h,e⟩|⟨w,h,e⟩|⟨w,h,e⟩|⟨h,e⟩
 all_goals(revert hq hS hw;refine W (J6 (od K5) (od FF) @Cd @yZ (Vg pb) (Pg pb)) (J5 h @AW.aa @af.eq_1 @aS.eq_1 @bq.v.eq_1) (J1 ?_)<;>unhygienic intros)
 all_goals(
  try rw [e]
  refine⟨_,by simp [hq,AW.aa,af];rfl,by simp [bq.v,bq.zero,h],?_⟩
  apply an.cC
  (·exact sA)
  (·repeat' (first|apply aX.z|apply aX.s|apply ay.z|(apply ay.Au;simp [gk,iL,ll,j4,gS,h];done)|apply ay.s)))
end Go.Stx
