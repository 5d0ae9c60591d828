/-
 The program's machines: entering, taking a turn, lists of blocks, reading.
-/
import Derived.Test.YtejgooipbmnioaaGreatDoorG02
set_option linter.unusedVariables false
set_option linter.unusedSimpArgs false
set_option linter.unusedSectionVars false
set_option maxRecDepth 20000
set_option maxHeartbeats 4000000
namespace Go.Stx
open Go Go.Proofs
attribute [local irreducible] TW cg eg bn aC aV cR df
section
abbrev Es:List (Nat×Nat):=[(0,0),(1,0),(2,0),(3,0),(4,0),(5,0),(6,0),(7,0),(8,0),(9,0),(10,3),(11,0),(12,0),(13,0),(14,3)]
abbrev KQ:List (Nat×Nat):=[(0,0),(1,0),(2,0),(3,0),(4,0),(5,0),(6,0),(7,0),(8,0),(9,0),(10,3)]
abbrev KP:List (Nat×Nat):=[(0,0),(1,0),(2,0),(3,0),(4,0),(5,0),(6,0),(7,0),(8,0),(9,0),(10,2),(11,0),(12,0),(13,0),(14,0),(15,0)]
open T0
variable [Gl]
def fJ (s:gH):dK:=.cells [.int .i64 s.am,.int .i64 s.bX,.int .u64 s.ax] true 1
def iu (s:ju):dK:=.cells [.bool s.wj,.int .u64 s.je,.bool s.done] true 1
def kY (s:oO):dK:=.cells [.int .i64 s.d5,.int .i64 s.bX,.int .u64 s.head,.int .u64 s.next,.int .i64 s.block] true 1
def fN (s:fm):dK:=.cells [.int .i64 s.d5,.int .i64 s.block,.int .i64 s.bX,.int .u64 s.head] true 1
def gm (s:gN):dK:=.cells [.int .i64 s.c8,.int .i64 s.fO,.int .i64 s.rv,.int .i64 s.bX,.int .u64 s.dY,.int .u64 s.value,.bool s.gb] true 1
abbrev Qw (a:ba):List Value:=[.int .i64 a.fY,.int .i64 a.cell,.int .i64 a.dq,.int .u64 a.fg,.int .u64 a.put,.bool a.done]
def eF (f:FuncId) (args:List Value) (A:AW) (u:Value):Prop:=aC Tryz.prog f args A fun v A'=>v=u∧A=A'
theorem Ar (t:Int) (A:AW):aC Tryz.prog 260 [.int .i64 t] A (fun v A'=>v=.pointer (some ⟨A.next,0,none⟩)∧A'=A.alloc (fJ ⟨t,0,0⟩)):=by
 refine ab Tryz.func260 rfl (by kernel_rfl) fun _=>?_
 refine W trivial trivial (J1 ?_)<;>unhygienic intros
 exact⟨_,rfl,rfl,rfl⟩
theorem ze (b:Nat) (s:gH) (A:AW) (hg:A.bR b=some (fJ s)):eF 214 [.pointer (some ⟨b,0,none⟩)] A (.bool (decide (s.bX=3))):=by
 refine ab Tryz.func214 rfl (by kernel_rfl) fun _=>?_
 dsimp only [fJ] at hg
 refine W trivial (J2 hg @AW.aa) (J1 ?_)<;>unhygienic intros
 exact⟨_,rfl,rfl,rfl⟩
theorem rh (b:Nat) (s:gH) (A:AW) (hg:A.bR b=some (fJ s)):eF 212 [.pointer (some ⟨b,0,none⟩)] A (.int .i64 s.Cn):=by
 refine ab Tryz.func212 rfl (by kernel_rfl) fun _=>?_
 dsimp only [fJ] at hg
 refine W trivial (J2 hg @AW.aa) (J2 ?_ ?_)<;>unhygienic intros
 all_goals exact⟨_,rfl,by first|(simp [gH.Cn, *];done)|(simp [gH.Cn];omega),rfl⟩
theorem E9 (s:gH) (M:Mm):(s.bX=0∧gj s M=(zN M 6 s.am 1,{ s with bX:=1 },Ck M 6 s.am 1)) ∨
 (s.bX=1∧gj s M=(gI M 3 0,{ s with bX:=2,ax:=(gI M 3 0).fg },M)) ∨
 (s.bX=2∧gj s M=(zN M 6 s.am (IntKind.u64.wrap (s.ax+2)),{ s with bX:=3 },Ck M 6 s.am (IntKind.u64.wrap (s.ax+2)))) ∨
 ((¬s.bX=0∧¬s.bX=1∧¬s.bX=2)∧gj s M=(ba.zero,s,M)):=by
 unfold gj
 by_cases h0:s.bX=0
 · simp [h0]
 by_cases h1:s.bX=1
 · simp [h1]
 by_cases h2:s.bX=2
 · simp [h2]
 simp [h0,h1,h2]
set_option maxHeartbeats 1000000 in
theorem zd (b pb:Nat) (s:gH) (M:Mm) :
 aY Tryz.prog 213 [.pointer (some ⟨b,0,none⟩),.pointer (some ⟨pb,0,none⟩)] [.at b (fJ s),dx pb M]
  (fun v=>v=(gj s M).1.v) (fun _=>[.at b (fJ (gj s M).2.1),dx pb (gj s M).2.2]):=by
 intro A F hw hS
 refine ab Tryz.func213 rfl (by kernel_rfl) fun _=>?_
 have hq:=EQ hS hw
 rcases E9 s M with ⟨h,e⟩|⟨h,e⟩|⟨h,e⟩|⟨h,e⟩
 all_goals(revert hq hS hw;refine W (J3 (od Es) (QC pb) (Lk pb)) (J5 h @AW.aa @ah.eq_1 @bj.eq_1 @ba.v.eq_1) (J1 ?_)<;>unhygienic intros)
 all_goals(
  try rw [e]
  refine⟨_,by simp [hq,AW.aa,ah];rfl,by simp [ba.v,ba.zero,h],?_⟩
  apply ak.bS
  (·exact sA)
  (·repeat' (first|apply aD.z|apply aD.s|apply ap.z|(apply ap.DF;simp [fJ,iu,kY,fN,gm,h];done)|apply ap.s)))
theorem Gz (pb:Nat) (t:Int) (M:Mm) :
 aY Tryz.prog 161 [.pointer (some ⟨pb,0,none⟩),.int .i64 t] [dx pb M] (fun v=>v=(zN M 6 t 0).v) (fun _=>[dx pb (Ck M 6 t 0)]):=by
 intro A F hw hS
 refine ab Tryz.func161 rfl (by kernel_rfl) fun _=>?_
 have hq:=EQ hS hw
 have h:True:=trivial
 have e:True=True:=rfl
 revert hq hS hw;refine W (J1 (QC pb)) (J4 @AW.aa @ah.eq_1 @bj.eq_1 @ba.v.eq_1) (J1 ?_)<;>unhygienic intros
 all_goals(
  try rw [e]
  refine⟨_,by simp [hq,AW.aa,ah];rfl,by simp [ba.v,ba.zero,h],?_⟩
  apply ak.bS
  (·exact sA)
  (·repeat' (first|apply aD.z|apply aD.s|apply ap.z|(apply ap.DF;simp [fJ,iu,kY,fN,gm,h];done)|apply ap.s)))
theorem IQ (pb:Nat) (t:Int) (M:Mm) :
 aY Tryz.prog 157 [.pointer (some ⟨pb,0,none⟩),.int .i64 t] [dx pb M] (fun v=>v=(zN M 5 0 (yz t)).v) (fun _=>[dx pb (Ck M 5 0 (yz t))]):=by
 intro A F hw hS
 refine ab Tryz.func157 rfl (by kernel_rfl) fun _=>?_
 have hq:=EQ hS hw
 have h:True:=trivial
 have e:yz t=IntKind.u64.wrap (IntKind.u64.wrap t+1):=rfl
 revert hq hS hw;refine W (J1 (QC pb)) (J4 @AW.aa @ah.eq_1 @bj.eq_1 @ba.v.eq_1) (J1 ?_)<;>unhygienic intros
 all_goals(
  try rw [e]
  refine⟨_,by simp [hq,AW.aa,ah];rfl,by simp [ba.v,ba.zero,h],?_⟩
  apply ak.bS
  (·exact sA)
  (·repeat' (first|apply aD.z|apply aD.s|apply ap.z|(apply ap.DF;simp [fJ,iu,kY,fN,gm,h];done)|apply ap.s)))
theorem kG (A:AW):aC Tryz.prog 228 [] A (fun v A'=>v=.pointer (some ⟨A.next,0,none⟩)∧A'=A.alloc (iu ⟨false,0,false⟩)):=by
 refine ab Tryz.func228 rfl (by kernel_rfl) fun _=>?_
 refine W trivial trivial (J1 ?_)<;>unhygienic intros
 exact⟨_,rfl,rfl,rfl⟩
theorem zW (b:Nat) (s:ju) (A:AW) (hg:A.bR b=some (iu s)):eF 230 [.pointer (some ⟨b,0,none⟩)] A (.bool s.done):=by
 refine ab Tryz.func230 rfl (by kernel_rfl) fun _=>?_
 dsimp only [iu] at hg
 refine W trivial (J2 hg @AW.aa) (J1 ?_)<;>unhygienic intros
 exact⟨_,rfl,rfl,rfl⟩
theorem w9 (b:Nat) (s:ju) (A:AW) (hg:A.bR b=some (iu s)):eF 158 [.pointer (some ⟨b,0,none⟩)] A (.int .i64 s.dT):=by
 refine ab Tryz.func158 rfl (by kernel_rfl) fun _=>?_
 dsimp only [iu] at hg
 refine W trivial (J2 hg @AW.aa) (J2 ?_ ?_)<;>unhygienic intros
 all_goals exact⟨_,rfl,by simp_all [ju.dT],rfl⟩
theorem FP (s:ju) (M:Mm):(s.done=true∧gU s M=(ba.zero,s,M)) ∨
 ((s.done=false∧s.wj=false)∧gU s M=(Ra M 4 0 1,{ s with wj:=true,je:=(Ra M 4 0 1).fg },Wd M 4 0 1)) ∨
 ((s.done=false∧s.wj=true)∧gU s M=(gI M 5 0,{ s with done:=decide ((gI M 5 0).fg=s.je) },M)):=by
 unfold gU
 cases h0:s.done<;>cases h1:s.wj<;>simp
set_option maxHeartbeats 1000000 in
theorem zV (b pb:Nat) (s:ju) (M:Mm) :
 aY Tryz.prog 229 [.pointer (some ⟨b,0,none⟩),.pointer (some ⟨pb,0,none⟩)] [.at b (iu s),dx pb M]
  (fun v=>v=(gU s M).1.v) (fun _=>[.at b (iu (gU s M).2.1),dx pb (gU s M).2.2]):=by
 intro A F hw hS
 refine ab Tryz.func229 rfl (by kernel_rfl) fun _=>?_
 have hq:=EQ hS hw
 rcases FP s M with ⟨h,e⟩|⟨h,e⟩|⟨h,e⟩
 all_goals(revert hq hS hw;refine Wu (J4 (od KQ) (⟨⟩:Os (fun A'=>A'.bR (A.next+1)=some (.cells (Qw (Ra M 4 0 1)) true 1)) [(0,0),(1,0),(2,0),(3,1),(4,0),(5,0),(6,3),(7,0),(8,0),(9,3)]) (ZX pb) (Lk pb)) (J5 h @AW.aa @ah.eq_1 @bj.eq_1 @ba.v.eq_1) (J1 ?_)<;>unhygienic intros)
 all_goals(
  try rw [e]
  refine⟨_,by simp [hq,AW.aa,ah];rfl,by simp [ba.v,ba.zero,h],?_⟩
  apply ak.bS
  (·exact sA)
  (·repeat' (first|apply aD.z|apply aD.s|apply ap.z|(apply ap.DF;simp [fJ,iu,kY,fN,gm,h];done)|apply ap.s)))
theorem Ey (c:Int) (A:AW):aC Tryz.prog 262 [.int .i64 c] A (fun v A'=>v=.pointer (some ⟨A.next,0,none⟩)∧A'=A.alloc (kY ⟨c,0,0,0,-1⟩)):=by
 refine ab Tryz.func262 rfl (by kernel_rfl) fun _=>?_
 refine W trivial trivial (J1 ?_)<;>unhygienic intros
 exact⟨_,rfl,rfl,rfl⟩
theorem Cy (b:Nat) (s:oO) (A:AW) (hg:A.bR b=some (kY s)):eF 224 [.pointer (some ⟨b,0,none⟩)] A (.bool (decide (s.bX=3))):=by
 refine ab Tryz.func224 rfl (by kernel_rfl) fun _=>?_
 dsimp only [kY] at hg
 refine W trivial (J2 hg @AW.aa) (J1 ?_)<;>unhygienic intros
 exact⟨_,rfl,rfl,rfl⟩
theorem Am (b:Nat) (s:oO) (A:AW) (hg:A.bR b=some (kY s)):eF 294 [.pointer (some ⟨b,0,none⟩)] A (.int .i64 s.block):=by
 refine ab Tryz.func294 rfl (by kernel_rfl) fun _=>?_
 dsimp only [kY] at hg
 refine W trivial (J2 hg @AW.aa) (J1 ?_)<;>unhygienic intros
 exact⟨_,rfl,rfl,rfl⟩
theorem Bo (s:oO) (M:Mm) :
 ((s.bX=0∧gP (gI M 7 s.d5).fg<0)∧fK s M=(gI M 7 s.d5,{ s with head:=(gI M 7 s.d5).fg,bX:=3 },M)) ∨
 ((s.bX=0∧¬gP (gI M 7 s.d5).fg<0)∧fK s M=(gI M 7 s.d5,{ s with head:=(gI M 7 s.d5).fg,bX:=1 },M)) ∨
 (s.bX=1∧fK s M=(gI M 8 (gP s.head),{ s with next:=(gI M 8 (gP s.head)).fg,bX:=2 },M)) ∨
 (∃w,((s.bX=2∧lS s.head (IntKind.i64.wrap (IntKind.i64.wrap s.next-1))=w)∧(Aa M 7 s.d5 s.head w).done=true)∧fK s M=(Aa M 7 s.d5 s.head w,{ s with bX:=3,block:=gP s.head },ML M 7 s.d5 s.head w)) ∨
 (∃w,((s.bX=2∧lS s.head (IntKind.i64.wrap (IntKind.i64.wrap s.next-1))=w)∧(Aa M 7 s.d5 s.head w).done=false)∧fK s M=(Aa M 7 s.d5 s.head w,{ s with bX:=0 },ML M 7 s.d5 s.head w)) ∨
 ((¬s.bX=0∧¬s.bX=1∧¬s.bX=2)∧fK s M=(ba.zero,s,M)):=by
 unfold fK
 by_cases h0:s.bX=0
 · by_cases h1:gP (gI M 7 s.d5).fg<0<;>simp [h0,h1]
 by_cases h1:s.bX=1
 · simp [h1]
 by_cases h2:s.bX=2
 · cases h3:(Aa M 7 s.d5 s.head (lS s.head (IntKind.i64.wrap (IntKind.i64.wrap s.next-1)))).done<;>(simp [h2,h3];exact⟨_,⟨rfl,h3⟩,rfl,rfl⟩)
 simp [h0,h1,h2]
set_option maxHeartbeats 1000000 in
theorem Cx (b pb:Nat) (s:oO) (M:Mm) :
 aY Tryz.prog 223 [.pointer (some ⟨b,0,none⟩),.pointer (some ⟨pb,0,none⟩)] [.at b (kY s),dx pb M]
  (fun v=>v=(fK s M).1.v) (fun _=>[.at b (kY (fK s M).2.1),dx pb (fK s M).2.2]):=by
 intro A F hw hS
 refine ab Tryz.func223 rfl (by kernel_rfl) fun _=>?_
 have hq:=EQ hS hw
 rcases Bo s M with ⟨h,e⟩|⟨h,e⟩|⟨h,e⟩|⟨w,h,e⟩|⟨w,h,e⟩|⟨h,e⟩
 all_goals(revert hq hS hw;refine W (J6 (od KP) (od Es) @Bn @yy (Wy pb) (Lk pb)) (J5 h @AW.aa @ah.eq_1 @bj.eq_1 @ba.v.eq_1) (J1 ?_)<;>unhygienic intros)
 all_goals(
  try rw [e]
  refine⟨_,by simp [hq,AW.aa,ah];rfl,by simp [ba.v,ba.zero,h],?_⟩
  apply ak.bS
  (·exact sA)
  (·repeat' (first|apply aD.z|apply aD.s|apply ap.z|(apply ap.DF;simp [fJ,iu,kY,fN,gm,h];done)|apply ap.s)))
end
section
abbrev Eo:List (Nat×Nat):=[(0,0),(1,0),(2,0),(4,0),(5,0),(6,0),(7,0),(3,2),(8,0),(9,0),(10,0),(11,3)]
open T2
variable [Gl]
theorem ak.Sl {A:AW} {L K:List It} {x:It} (h:ak A L) (e:ap L x K):ak A (x::K):=by
 unfold ak at *
 rw [e.aR] at h
 exact h
theorem ak.Rt {A:AW} {L K:List It} {k:IntKind} {v:Value} {x:Int} {l:List Int} (h:ak A L) (hp:ap L (.h (au k v (x::l))) K) :
 ∃b off c cK,v=.slice (some ⟨b,off,none⟩) (l.length+1) c∧l.length+1≤c∧off+(l.length+1)≤cK.length∧cK[off]? = some (.int k x)∧
  (∀A' K',ak A' (.at b (.cells cK true 1)::K')→ak A' (.h (au k (.slice (some ⟨b,off+1,none⟩) l.length (c-1)) l)::K'))∧
  (∀A' K',ak A' (.at b (.cells cK true 1)::K')→ak A' (.h (au k v (x::l))::K'))∧ak A (.at b (.cells cK true 1)::K):=by
 have h1:bz A (au k v (x::l)*aR K):=by
  have h0:=h
  unfold ak at h0
  rw [hp.aR] at h0
  exact h0
 rcases d9.cases h1 with ⟨_,h0,_⟩|⟨b,off,c,cK,rfl,h2,h3,h4,h5⟩
 · simp at h0
 · simp only [List.length_cons,Nat.mul_one] at h2 h3 h4
   have h6:=h4
   rw [List.drop_eq_getElem_cons (by omega),List.map_cons,List.take_succ_cons] at h6
   have h7:=List.cons.inj h6
   refine⟨b,off,c,cK,rfl,h2,h3,?_,fun A' K' hh=>?_,fun A' K' hh=>?_,h5⟩
   · rw [List.getElem?_eq_getElem (by omega),←h7.1]
   · exact au.mk rfl (by omega) (by omega) h7.2 hh
   · exact au.mk (by simp) (by simpa using h2) (by simpa using h3) (by simpa using h4) hh
def io (b:Nat) (s:gl):HP:=nI fun v:Value=>pt b (.cells [v,.int .i64 s.rv,.bool s.ik] true 1)*au .i64 v s.an
theorem io.open {A:AW} {L K:List It} {b:Nat} {s:gl} (h:ak A L) (hp:ap L (.h (io b s)) K) :
 ∃v,ak A (.at b (.cells [v,.int .i64 s.rv,.bool s.ik] true 1)::.h (au .i64 v s.an)::K):=by
 unfold ak at h
 rw [hp.aR] at h
 have h1:bz A (io b s*aR K):=h
 unfold io at h1
 rw [bz.ex] at h1
 obtain⟨v,h2⟩:=h1
 exact⟨v,h2.dH (by show _=pt b _*(au .i64 v s.an*aR K);rw [HP.cl])⟩
theorem io.dR {A:AW} {L K:List It} {b:Nat} {s:gl} {v:Value} (h:ak A L) (hp:aD L [.at b (.cells [v,.int .i64 s.rv,.bool s.ik] true 1),.h (au .i64 v s.an)] K):ak A (.h (io b s)::K):=by
 unfold ak at h
 rw [hp.aR] at h
 show bz A (io b s*aR K)
 unfold io
 rw [bz.ex]
 exact⟨v,h.dH (by show pt b _*(au .i64 v s.an*eG)*aR K=_;rw [dg])⟩
theorem ak.nH {A:AW} {L K:List It} {k:IntKind} {v:Value} {l:List Int} (h:ak A L) (hp:ap L (.h (au k v l)) K):dB A k v l:=by
 unfold ak at h
 rw [hp.aR] at h
 exact au.is h
theorem nq (b:Nat) (o:Option Addr) (n c:Nat) (rv:Int) (f:Bool) (A:AW) (hg:A.bR b=some (.cells [.slice o n c,.int .i64 rv,.bool f] true 1)) :
 eF 234 [.pointer (some ⟨b,0,none⟩)] A (.bool (f || decide (n=0))):=by
 refine ab Tryz.func234 rfl (by kernel_rfl) fun _=>?_
 cases f
 all_goals(refine W trivial (J2 hg @AW.aa) (J1 ?_)<;>unhygienic intros)
 all_goals exact⟨_,rfl,by simp;try omega,rfl⟩
set_option maxHeartbeats 1000000 in
theorem zm (b pb:Nat) (s:gl) (M:Mm) :
 aY Tryz.prog 235 [.pointer (some ⟨b,0,none⟩),.pointer (some ⟨pb,0,none⟩)] [.h (io b s),dx pb M]
  (fun v=>v=(jG s M).1.v) (fun _=>[.h (io b (jG s M).2.1),dx pb (jG s M).2.2]):=by
 intro A F hw cY
 refine ab Tryz.func235 rfl (by kernel_rfl) fun _=>?_
 obtain⟨vo,hS⟩:=io.open cY .z
 obtain⟨oo,co,rfl,_⟩:=(ak.nH hS (.s .z)).dJ
 obtain⟨os,rv,ik⟩:=s
 by_cases hd:(ik || decide (os.length=0))=true
 · have hq:=jC hS hw
   have yW:∀A',A'.bR b=some (.cells [.slice oo os.length co,.int .i64 rv,.bool ik] true 1)→eF 234 [.pointer (some ⟨b,0,none⟩)] A' (.bool true):=fun A' h=>by
    have:=nq b oo os.length co rv ik A' h
    rwa [hd] at this
   have e:jG ⟨os,rv,ik⟩ M=(ba.zero,⟨os,rv,ik⟩,M):=if_pos hd
   revert hq hS hw;refine W (J2 (od Eo) @yW) (J5 hd @AW.aa @ah.eq_1 @bj.eq_1 @ba.v.eq_1) (J1 ?_)<;>unhygienic intros
   rw [e]
   refine⟨_,by simp [hq,AW.aa,ah];rfl,by simp [ba.v,ba.zero],?_⟩
   apply ak.bS
   · apply io.dR (b:=b) (s:=⟨os,rv,ik⟩) (v:=.slice oo os.length co)
     (·exact sA)
     (·repeat' (first|apply aD.z|apply aD.s|apply ap.z|(apply ap.DF;simp;done)|apply ap.s))
   (·repeat' (first|apply aD.z|apply aD.s|apply ap.z|(apply ap.DF;simp;done)|apply ap.s))
 · obtain⟨hf,hn⟩:ik=false∧¬os.length=0:=by simpa using hd
   subst hf
   cases os with
   | nil=>simp at hn
   | cons o os=>
   obtain⟨bo,off,c,cK,hv,TU,DO,dG,WY,hwh,hS⟩:=ak.Rt hS (.s .z)
   injection hv with Lo U2 QN
   subst Lo;subst QN
   have yW:∀A',A'.bR b=some (.cells [.slice (some ⟨bo,off,none⟩) (os.length+1) co,.int .i64 rv,.bool false] true 1)→eF 234 [.pointer (some ⟨b,0,none⟩)] A' (.bool false):=fun A' h=>nq b _ _ co rv false A' h
   have e:jG ⟨o::os,rv,false⟩ M=(gI M 2 o,⟨os,rv,decide (rv<jO (gI M 2 o).fg)⟩,M):=if_neg hd
   have hq:=jC hS hw
   revert hq hS hw;(repeat first|clear hq|clear hS|clear hw|revert hc|revert zn|revert zA|revert R|revert K);refine W (J4 (od Eo) @yW @sj (Lk pb)) (J6 dG @d8.eq_1 @AW.aa @ah.eq_1 @bj.eq_1 @ba.v.eq_1) (J1 ?_)<;>unhygienic intros
   rw [e]
   refine⟨_,by simp [hq,AW.aa,ah];rfl,by simp [ba.v,ba.zero],?_⟩
   apply ak.bS
   · apply io.dR (b:=b) (s:=⟨os,rv,decide (rv<jO (gI M 2 o).fg)⟩) (v:=.slice (some ⟨bo,off+1,none⟩) os.length (co-1))
     · apply WY
       apply ak.Sl
       (·exact sA)
       (·repeat' (first|apply aD.z|apply aD.s|apply ap.z|(apply ap.DF;simp;done)|apply ap.s))
     (·repeat' (first|apply aD.z|apply aD.s|apply ap.z|(apply ap.DF;simp;done)|apply ap.s))
   (·repeat' (first|apply aD.z|apply aD.s|apply ap.z|(apply ap.DF;simp;done)|apply ap.s))
end
section
namespace TRefO
theorem jD [Gl] {A:AW} {L:List It} {T:Prop} (hS:ak A L) (hw:A.Wf) (h':(bg A L∧bB A L∧cj L)=T:=by first|(dsimp only [af,ag,bg,bB,cj,eA];done)|exact rfl):T:=h'▸hS.eu hw
end TRefO
open TRefO
variable [Gl]
def Mn (cf:bC) (mb:Nat) (M:Nat→List Int):HP:=
 nI fun v:Value×Value×Value×Value×Value=>
  pt mb (.cells (cf.cells++[v.1,v.2.1,.int .u64 ((M 2).getD 0 0),.int .u64 ((M 3).getD 0 0),.int .u64 ((M 4).getD 0 0),v.2.2.1,v.2.2.2.1,v.2.2.2.2]) true 1) *
   (au .u64 v.1 (M 0)*(au .u64 v.2.1 (M 1)*(au .u64 v.2.2.1 (M 5)*(au .u64 v.2.2.2.1 (M 6)*au .u64 v.2.2.2.2 (M 7)))))
theorem Mn.dR {A:AW} {cf:bC} {mb:Nat} {M:Nat→List Int} {F:HP} {v0 v1 v5 v6 v7:Value} (h:bz A (pt mb (.cells (cf.cells++[v0,v1,.int .u64 ((M 2).getD 0 0),.int .u64 ((M 3).getD 0 0),.int .u64 ((M 4).getD 0 0),v5,v6,v7]) true 1) *
 (au .u64 v0 (M 0)*(au .u64 v1 (M 1)*(au .u64 v5 (M 5)*(au .u64 v6 (M 6)*(au .u64 v7 (M 7)*F))))))):bz A (Mn cf mb M*F):=by
 unfold Mn
 rw [bz.ex]
 exact⟨(v0,v1,v5,v6,v7),h.dH (by dsimp only;ac_rfl)⟩
def F8 (cf:bC) (mb:Nat) (M:Mm):It:=.h (Mn cf mb M)
end
section
open T4
variable [Gl]
def mO (a:ba):Int:=if a.cell=8 then 9 else if a.fY=3 then 10 else 8
def gF (a:ba):Int:=if a.cell=8 then 22 else if a.fY=3 then 23 else 21
theorem Ej (a:ba) (A:AW) (hw:A.Wf):aC Tryz.prog 225 [a.v] A (fun v A'=>v=.int .i64 (mO a)∧A.le A'):=by
 refine ab Tryz.func225 rfl (by kernel_rfl) fun _=>?_
 by_cases h1:a.cell=8<;>by_cases h2:a.fY=3
 all_goals(revert hw;refine W trivial (J5 h1 h2 @AW.aa @ah.eq_1 @ba.v.eq_1) (J1 ?_)<;>unhygienic intros)
 all_goals exact⟨_,rfl,by simp [mO,h1,h2],AW.le.alloc _ _⟩
theorem Cz (a:ba) (A:AW) (hw:A.Wf):aC Tryz.prog 102 [a.v] A (fun v A'=>v=.int .i64 (gF a)∧A.le A'):=by
 refine ab Tryz.func102 rfl (by kernel_rfl) fun _=>?_
 by_cases h1:a.cell=8<;>by_cases h2:a.fY=3
 all_goals(revert hw;refine W trivial (J5 h1 h2 @AW.aa @ah.eq_1 @ba.v.eq_1) (J1 ?_)<;>unhygienic intros)
 all_goals exact⟨_,rfl,by simp [gF,h1,h2],AW.le.alloc _ _⟩
theorem GE (v:Value) (l:List Int) (x:Int) (A:AW) (h:dB A .i64 v l) (hl:l.length<2^62) :
 aC Tryz.prog 284 [v,.int .i64 x] A (fun u A'=>(∃r:Int,u=.int .i64 r∧(0≤r↔x∈l))∧A=A'):=by
 refine ab Tryz.func284 rfl (by kernel_rfl) fun _=>?_
 obtain⟨o,c,rfl,_⟩:=h.dJ
 refine W trivial trivial (J1 ?_)<;>unhygienic intros
 refine eS (fun k fr A'=>A=A'∧∃i:Nat,k=l.length-i∧i≤l.length∧fr 0=.slice o l.length c∧fr 1=.int .i64 x∧fr 7=.int .i64 l.length∧fr 8=.int .i64 i∧∀j,j<i→l[j]?≠some x) l.length ?_ ?_
 · refine⟨rfl,0,by simp,by simp,rfl,rfl,rfl,rfl,by simp⟩
 · rintro k fr A' ⟨rfl,i,rfl,hi,h0,h1,h7,h8,hj⟩
   by_cases dO:i<l.length
   · obtain⟨p,cK,rfl,dG,bA⟩:=h.at dO
     have mf:IntKind.i64.wrap ((i:Int)+1)=((i+1:Nat):Int):=aw (by omega) (by omega)
     refine dI ?_
     (repeat first|revert hc|revert zn|revert zA|revert R|revert K);refine W trivial (J8 h0 h1 h7 h8 dG bA dO mf) (J2 ?_ ?_)<;>unhygienic intros
     · refine⟨_,rfl,⟨(i:Int),by simp,?_⟩,rfl⟩
       have hx:l[i]=x:=by simp_all
       exact⟨fun _=>hx▸List.getElem_mem dO,fun _=>by omega⟩
     · refine⟨l.length-(i+1),by omega,rfl,i+1,rfl,by omega,?_,?_,?_,?_,?_⟩
       · simp [h0]
       · simp [h1]
       · simp [h7]
       · simp
       · intro j vC
         by_cases e:j=i
         · subst e
           rw [List.getElem?_eq_getElem dO]
           intro e2
           injection e2 with e2
           simp_all
         · exact hj j (by omega)
   · refine dI ?_
     (repeat first|revert hc|revert zn|revert zA|revert R|revert K);refine W trivial (J5 h0 h1 h7 h8 dO) (J1 ?_)<;>unhygienic intros
     refine⟨_,rfl,⟨-1,by simp,?_⟩,rfl⟩
     refine⟨fun h=>by omega,fun hm=>?_⟩
     obtain⟨j,H8,DM⟩:=List.getElem_of_mem hm
     exact absurd (by rw [List.getElem?_eq_getElem H8,DM]) (hj j (by omega))
theorem sF (v:Value) (l:List Int) (x:Int) (A:AW) (h:dB A .i64 v l) (hl:l.length<2^62) :
 eF 219 [v,.int .i64 x] A (.bool (decide (x∈l))):=by
 refine ab Tryz.func219 rfl (by kernel_rfl) fun _=>?_
 repeat' (first
 | (refine jx fun R hR=>?_;simp [aw,az];try simp (disch:=omega) only [if_pos,if_neg,aw,az])
 | (refine hR _ _ ?_;clear hR R)|(refine hK _ _ ?_;clear hK K)|refine nx ?_
 | refine wn fun K hK=>?_
 | simp only [wS]
 | (refine bT (GE v l x _ h hl) ?_<;>rintro _ _ ⟨⟨r,rfl,hr⟩,rfl⟩ _ _)
 | refine wb ?_|refine wr ?_|refine wk ?_|refine we ?_|refine ws ?_|refine wq ?_
 | (refine wc rfl (fun hc=>?_) (fun hc=>?_)<;>(try simp at hc)<;>(try omega))
 | (refine ib (fun hc=>?_) (fun hc=>?_)<;>(try omega)<;>(try simp (disch:=omega) only [if_pos,if_neg])))
 exact⟨_,rfl,by simp [hr],rfl⟩
end
section
abbrev yD:List (Nat×Nat):=[(0,0),(1,0),(2,0),(3,0),(4,0),(5,0),(6,0),(7,0),(8,0),(9,0),(10,0)]
open T4
variable [Gl]
theorem ak.append {P:Program} {A:AW} {L K:List It} {t e:TypeId} {i:TypeInfo} {z:Value} {v:Value} {k:IntKind} {l:List Int} (h:ak A L) (hp:ap L (.h (au k v l)) K) (y:Int)
 (hu:P.underlying t=some (.slice e)) (hi:P.info? e=some i) (hz:i.zero=some z) (fH:i.size=1) (mr:z.cells.size=1) (bW:l.length<2 ^ 40) (vI:i.bytes≤8) (hw:A.Wf) :
 ∃v' A',fC P (A.alloc (.cells [.int k y] true 1)) t t v (.slice (some ⟨A.next,0,none⟩) 1 1)=some (v',A')∧ak A' (.h (au k v' (l++[y]))::K)∧A'.Wf∧A.next≤A'.next∧∃o c,v'=.slice o (l.length+1) c:=by
 have h1:bz A (au k v l*aR K):=by
  unfold ak at h
  rw [hp.aR] at h
  exact h
 obtain⟨v',A',e1,h2,h3,h4⟩:=au.append (P:=P) (t:=t) y hu hi hz fH mr h1 bW vI hw
 obtain⟨o,c,h5,_⟩:=(au.is h2).dJ
 exact⟨v',A',e1,h2,h3,h4,o,c,by simpa using h5⟩
def qN (ew:Nat) (v:Value):dK:=.cells [.int .i64 ew,v] true 1
def rZ (b:Nat) (ew:Nat) (l:List Int):HP:=nI fun v:Value=>pt b (qN ew v)*au .i64 v l
def dF (ew:Nat) (l:List Int) (x:Int):Bool×List Int:=if x∈l then (true,l) else if ew≤l.length then (false,l) else (true,l++[x])
theorem rZ.open {A:AW} {L K:List It} {b ew:Nat} {l:List Int} (h:ak A L) (hp:ap L (.h (rZ b ew l)) K):∃v,ak A (.at b (qN ew v)::.h (au .i64 v l)::K):=by
 unfold ak at h
 rw [hp.aR] at h
 have h1:bz A (rZ b ew l*aR K):=h
 unfold rZ at h1
 rw [bz.ex] at h1
 obtain⟨v,h2⟩:=h1
 exact⟨v,h2.dH (by show _=pt b _*(au .i64 v l*aR K);rw [HP.cl])⟩
theorem rZ.dR {A:AW} {L K:List It} {b ew:Nat} {l:List Int} {v:Value} (h:ak A L) (hp:aD L [.at b (qN ew v),.h (au .i64 v l)] K):ak A (.h (rZ b ew l)::K):=by
 unfold ak at h
 rw [hp.aR] at h
 show bz A (rZ b ew l*aR K)
 unfold rZ
 rw [bz.ex]
 exact⟨v,h.dH (by show pt b _*(au .i64 v l*eG)*aR K=_;rw [dg])⟩
theorem D6 (b ew:Nat) (v:Value) (l:List Int) (x:Int) (A:AW) (hg:A.bR b=some (qN ew v)) (h:dB A .i64 v l) (hl:l.length<2^62) :
 eF 285 [.pointer (some ⟨b,0,none⟩),.int .i64 x] A (.bool (decide (x∈l))):=by
 refine ab Tryz.func285 rfl (by kernel_rfl) fun _=>?_
 dsimp only [qN] at hg
 refine W (J1 (sF v l x _ h hl)) (J2 hg @AW.aa) (J1 ?_)<;>unhygienic intros
 all_goals exact⟨_,rfl,rfl,rfl⟩
set_option maxHeartbeats 1000000 in
theorem j8 (b ew:Nat) (l:List Int) (x:Int) (hc:l.length≤ew) (DO:ew≤32) :
 aY Tryz.prog 220 [.pointer (some ⟨b,0,none⟩),.int .i64 x] [.h (rZ b ew l)] (fun u=>u=.bool (dF ew l x).1) (fun _=>[.h (rZ b ew (dF ew l x).2)]):=by
 intro A F hw cY
 refine ab Tryz.func220 rfl (by kernel_rfl) fun _=>?_
 obtain⟨vo,hS⟩:=rZ.open cY .z
 have hI:=ak.nH hS (.s .z)
 have uW:=hS.g 0 rfl
 have hg:=uW
 dsimp only [qN] at hg
 obtain⟨oo,co,rfl,_⟩:=hI.dJ
 have ti:=D6 b ew _ l x A uW hI (by omega)
 by_cases h1:x∈l
 · rw [decide_eq_true h1] at ti
   have e:dF ew l x=(true,l):=if_pos h1
   revert hS hw;(try revert hc);refine W (J2 (od yD) @ti) (J3 hg h1 @AW.aa) (J1 ?_)<;>unhygienic intros
   refine⟨_,rfl,by simp [e],?_⟩
   rw [e]
   exact cY
 rw [decide_eq_false h1] at ti
 by_cases h2:ew≤l.length
 · have e:dF ew l x=(false,l):=by unfold dF;rw [if_neg h1,if_pos h2]
   have h3:(ew:Int)≤l.length:=by omega
   skip
   revert hS hw;(repeat first|clear hS|clear hw|revert hc|revert zn|revert zA|revert R|revert K);refine W (J2 (od yD) @ti) (J4 hg h1 h3 @AW.aa) (J1 ?_)<;>unhygienic intros
   refine⟨_,rfl,by simp [e],?_⟩
   rw [e]
   exact cY
 have e:dF ew l x=(true,l++[x]):=by unfold dF;rw [if_neg h1,if_neg h2]
 have h3:¬(ew:Int)≤l.length:=by omega
 have h4:¬(l.length:Int)=ew:=by omega
 obtain⟨v',A',e1,ke,kl,_,o2,c2,rfl⟩:=ak.append (P:=Tryz.prog) (t:=23) hS (.s .z) x Tryz.underlying23 Tryz.info3 Tryz.zero3 rfl rfl (by omega) (by simp) hw
 have GR:=ke.g 1 rfl
 dsimp only [qN] at GR
 revert hS hw;(repeat first|clear hS|clear hw|revert hc|revert zn|revert zA|revert R|revert K);refine W (J2 (od yD) @ti) (J8 hg h1 h3 h4 e1 GR @AW.aa @ah.eq_1) (J1 ?_)<;>unhygienic intros
 refine⟨_,by first|rfl|(simp;rfl),by simp [e],?_⟩
 rw [e]
 exact rZ.dR (v:=.slice o2 (l.length+1) c2) (ak.ez ke (.s .z)) (.s .z (.s .z .z))
end
end Go.Stx
