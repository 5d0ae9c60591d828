/-
 The program's machines: giving a block back, reading.
-/
import Derived.Test.YtejgooipbmnioaaGreatDoorG08
set_option linter.unusedVariables false
set_option linter.unusedSimpArgs false
set_option linter.unusedSectionVars false
set_option maxRecDepth 20000
set_option maxHeartbeats 4000000
namespace Go.Stx
open Go Go.Proofs
attribute [local irreducible] TW cg eg bn aC aV cR df
section
abbrev KO:List (Nat×Nat):=[(0,0),(1,0),(2,0),(3,0),(4,0),(5,0),(6,0),(7,0),(8,0),(9,2),(10,0),(11,0),(12,3),(13,0),(14,0),(15,0),(16,3)]
abbrev KN:List (Nat×Nat):=[(0,0),(1,0),(2,0),(3,0),(4,0),(5,0),(6,0),(7,0),(8,2),(9,0),(10,0),(11,0),(12,0),(13,0)]
abbrev KM:List (Nat×Nat):=[(0,0),(1,0),(2,0),(3,0),(4,0),(5,0),(6,0),(7,0),(8,0),(9,0),(10,3),(11,0),(12,0),(13,0),(14,3)]
abbrev Er:List (Nat×Nat):=[(0,0),(1,0),(2,0),(3,0),(4,2),(5,0),(6,0),(7,0),(8,0),(9,0),(10,0),(12,0),(13,0),(14,0),(15,0),(11,2),(16,0),(17,0)]
abbrev Ep:List (Nat×Nat):=[(0,0),(1,0),(2,0),(3,0),(4,0),(5,0),(6,0),(7,0),(8,0),(9,0),(10,0),(11,3),(12,0),(13,0),(14,3)]
open T0
variable [Gl]
theorem uh (c k:Int) (A:AW):aC Tryz.prog 143 [.int .i64 c,.int .i64 k] A (fun v A'=>v=.pointer (some ⟨A.next,0,none⟩)∧A'=A.alloc (fN ⟨c,k,0,0⟩)):=by
 refine ab Tryz.func143 rfl (by kernel_rfl) fun _=>?_
 refine W trivial trivial (J1 ?_)<;>unhygienic intros
 exact⟨_,rfl,rfl,rfl⟩
theorem sl (b:Nat) (s:fm) (A:AW) (hg:A.bR b=some (fN s)):eF 146 [.pointer (some ⟨b,0,none⟩)] A (.bool (decide (s.bX=3))):=by
 refine ab Tryz.func146 rfl (by kernel_rfl) fun _=>?_
 dsimp only [fN] at hg
 refine W trivial (J2 hg @AW.aa) (J1 ?_)<;>unhygienic intros
 exact⟨_,rfl,rfl,rfl⟩
def HI (s:fm):Int:=IntKind.u64.wrap (IntKind.i64.wrap (gP s.head+1))
theorem Ga (s:fm) (M:Mm) :
 (s.bX=0∧dP s M=(gI M 7 s.d5,{ s with head:=(gI M 7 s.d5).fg,bX:=1 },M)) ∨
 (s.bX=1∧dP s M=(zN M 8 s.block (HI s),{ s with bX:=2 },Ck M 8 s.block (HI s))) ∨
 ((s.bX=2∧(Aa M 7 s.d5 s.head (lS s.head s.block)).done=true)∧dP s M=(Aa M 7 s.d5 s.head (lS s.head s.block),{ s with bX:=3 },ML M 7 s.d5 s.head (lS s.head s.block))) ∨
 ((s.bX=2∧(Aa M 7 s.d5 s.head (lS s.head s.block)).done=false)∧dP s M=(Aa M 7 s.d5 s.head (lS s.head s.block),{ s with bX:=0 },ML M 7 s.d5 s.head (lS s.head s.block))) ∨
 ((¬s.bX=0∧¬s.bX=1∧¬s.bX=2)∧dP s M=(ba.zero,s,M)):=by
 unfold dP
 by_cases h0:s.bX=0
 · simp [h0]
 by_cases h1:s.bX=1
 · simp [h1,HI]
 by_cases h2:s.bX=2
 · cases h3:(Aa M 7 s.d5 s.head (lS s.head s.block)).done<;>simp [h2,h3]
 simp [h0,h1,h2]
set_option maxHeartbeats 1000000 in
theorem oB (b pb:Nat) (s:fm) (M:Mm) :
 aY Tryz.prog 145 [.pointer (some ⟨b,0,none⟩),.pointer (some ⟨pb,0,none⟩)] [.at b (fN s),dx pb M]
  (fun v=>v=(dP s M).1.v) (fun _=>[.at b (fN (dP s M).2.1),dx pb (dP s M).2.2]):=by
 intro A F hw hS
 refine ab Tryz.func145 rfl (by kernel_rfl) fun _=>?_
 have hq:=EQ hS hw
 rcases Ga s M with ⟨h,e⟩|⟨h,e⟩|⟨h,e⟩|⟨h,e⟩|⟨h,e⟩
 all_goals(try simp only [HI] at e)
 all_goals(revert hq hS hw;refine W (J8 (od KO) (od KN) (od KM) @Bn @yy (Wy pb) (QC pb) (Lk pb)) (J5 h @AW.aa @ah.eq_1 @bj.eq_1 @ba.v.eq_1) (J1 ?_)<;>unhygienic intros)
 all_goals(
  try rw [e]
  refine⟨_,by simp [hq,AW.aa,ah];rfl,by simp [ba.v,ba.zero,h],?_⟩
  apply ak.bS
  (·exact sA)
  (·repeat' (first|apply aD.z|apply aD.s|apply ap.z|(apply ap.DF;simp [fJ,iu,kY,fN,gm,h];done)|apply ap.s)))
theorem sh (b:Nat) (s:gN) (A:AW) (hg:A.bR b=some (gm s)):eF 216 [.pointer (some ⟨b,0,none⟩)] A (.bool s.done):=by
 refine ab Tryz.func216 rfl (by kernel_rfl) fun _=>?_
 dsimp only [gm] at hg
 refine W trivial (J2 hg @AW.aa) (J1 ?_)<;>unhygienic intros
 exact⟨_,rfl,rfl,rfl⟩
theorem tL (b:Nat) (s:gN) (A:AW) (hg:A.bR b=some (gm s)):eF 217 [.pointer (some ⟨b,0,none⟩)] A (.bool s.gb):=by
 refine ab Tryz.func217 rfl (by kernel_rfl) fun _=>?_
 dsimp only [gm] at hg
 refine W trivial (J2 hg @AW.aa) (J1 ?_)<;>unhygienic intros
 exact⟨_,rfl,rfl,rfl⟩
theorem yw (b:Nat) (s:gN) (A:AW) (hg:A.bR b=some (gm s)):eF 222 [.pointer (some ⟨b,0,none⟩)] A (.int .u64 s.val):=by
 refine ab Tryz.func222 rfl (by kernel_rfl) fun _=>?_
 have H9:=hg
 dsimp only [gm] at H9
 by_cases h1:s.bX=3<;>cases h2:s.gb
 all_goals(refine W (J1 (sh b s _ hg)) (J5 H9 h1 h2 @gN.done.eq_1 @AW.aa) (J1 ?_)<;>unhygienic intros)
 all_goals exact⟨_,rfl,by simp [gN.val,h1,h2],rfl⟩
theorem mZ (s:gN) (M:Mm) :
 ((s.bX=0∧0≤kJ (gI M 2 s.fO).fg)∧dE s M=(gI M 2 s.fO,{ s with dY:=(gI M 2 s.fO).fg,gb:=true,bX:=3 },M)) ∨
 (((s.bX=0∧¬0≤kJ (gI M 2 s.fO).fg)∧s.rv<jO (gI M 2 s.fO).fg)∧dE s M=(gI M 2 s.fO,{ s with dY:=(gI M 2 s.fO).fg,gb:=true,bX:=3 },M)) ∨
 (((s.bX=0∧¬0≤kJ (gI M 2 s.fO).fg)∧¬s.rv<jO (gI M 2 s.fO).fg)∧dE s M=(gI M 2 s.fO,{ s with dY:=(gI M 2 s.fO).fg,bX:=1 },M)) ∨
 (s.bX=1∧dE s M=(gI M 1 s.c8,{ s with value:=(gI M 1 s.c8).fg,bX:=2 },M)) ∨
 (s.bX=2∧dE s M=(gI M 2 s.fO,{ s with gb:=decide ((gI M 2 s.fO).fg≠s.dY),bX:=3 },M)) ∨
 ((¬s.bX=0∧¬s.bX=1∧¬s.bX=2)∧dE s M=(ba.zero,s,M)):=by
 unfold dE
 by_cases h0:s.bX=0
 · by_cases h1:0≤kJ (gI M 2 s.fO).fg<;>by_cases h2:s.rv<jO (gI M 2 s.fO).fg<;>simp [h0,h1,h2]
 by_cases h1:s.bX=1
 · simp [h1]
 by_cases h2:s.bX=2
 · simp [h2]
 simp [h0,h1,h2]
set_option maxHeartbeats 1000000 in
theorem sf (b pb:Nat) (s:gN) (M:Mm) :
 aY Tryz.prog 215 [.pointer (some ⟨b,0,none⟩),.pointer (some ⟨pb,0,none⟩)] [.at b (gm s),dx pb M]
  (fun v=>v=(dE s M).1.v) (fun _=>[.at b (gm (dE s M).2.1),dx pb (dE s M).2.2]):=by
 intro A F hw hS
 refine ab Tryz.func215 rfl (by kernel_rfl) fun _=>?_
 have hq:=EQ hS hw
 rcases mZ s M with ⟨h,e⟩|⟨h,e⟩|⟨h,e⟩|⟨h,e⟩|⟨h,e⟩|⟨h,e⟩
 repeat' (first
 | (refine jx fun R hR=>?_;simp [aw,az,hq,h,AW.aa,ah,bj,ba.v];try simp (disch:=omega) only [if_pos,if_neg,aw,az])
 | (refine hR _ _ ?_;clear hR R)|(refine hK _ _ ?_;clear hK K)|refine nx ?_
 | refine wn fun K hK=>?_
 | simp only [wS,Er,Ep]
 | refine wl Tryz.mx Er (by decide +kernel) fun K hK=>?_
 | refine wl Tryz.mx Ep (by decide +kernel) fun K hK=>?_
 | (refine bT (tQ _ _) ?_;rintro _ _ ⟨rfl,rfl⟩ _ _)
 | (refine bT (sj _ _) ?_;rintro _ _ ⟨rfl,rfl⟩ _ _)
 | (refine ⟨fun A' uy=>by simp [AW.aa,uy],?_⟩)
 | (refine O2 (fun A'=>A'.bR (A.next+1)=some (.cells (Qw (gI M 2 s.fO)) true 1)) Tryz.mx [(0,0),(1,0),(2,0),(3,0),(4,0),(5,0),(6,0),(7,0),(8,0),(9,0),(10,0),(11,3),(12,0),(13,0),(14,3)] (by decide +kernel) fun K hK=>?_)
 | (apply aY.cA (Lk pb _ _ _);(·exact wA);(·exact sA);(·first|exact pA|exact kA);rintro _ _ rfl hS hw _;have hS:=lA hS;have hq:=EQ hS hw)
 | refine wb ?_|refine wr ?_|refine wk ?_|refine we ?_|refine ws ?_|refine wq ?_
 | (refine wc rfl (fun hc=>?_) (fun hc=>?_)<;>(try simp at hc)<;>(try omega))
 | (refine ib (fun hc=>?_) (fun hc=>?_)<;>(try omega)<;>(try simp (disch:=omega) only [if_pos,if_neg])))
 all_goals(
  try rw [e]
  refine⟨_,by simp [hq,AW.aa,ah];rfl,by simp [ba.v,ba.zero,h],?_⟩
  apply ak.bS
  (·exact sA)
  (·repeat' (first|apply aD.z|apply aD.s|apply ap.z|(apply ap.DF;simp [fJ,iu,kY,fN,gm,h];done)|apply ap.s)))
end
section
abbrev pe:List (Nat×Nat):=[(0,0),(1,0),(2,0),(4,0),(5,0),(6,0),(3,2),(7,2),(8,0),(9,2),(10,0)]
open T6
variable [Gl]
set_option maxRecDepth 20000 in
set_option maxHeartbeats 1000000 in
theorem Ap (vi vw:Value) (l ws:List Int) (A:AW) (F:HP) (h:dB A .i64 vi l) (h':dB A .u64 vw ws) (he:l.length=ws.length) (hl:l.length<2^38) (hw:A.Wf) (hS:bz A F) :
 aC Tryz.prog 245 [vi,vw] A (fun v A'=>∃b,v=.pointer (some ⟨b,0,none⟩)∧bz A' (gg b ⟨l,ws⟩*F)∧A.le A'):=by
 refine ab Tryz.func245 rfl (by kernel_rfl) fun _=>?_
 obtain⟨o,c,rfl,hc⟩:=h.dJ
 obtain⟨o',c',rfl,P1⟩:=h'.dJ
 rw [←he] at h' P1 ⊢
 rcases o with _|p<;>rcases o' with _|q
 all_goals
  all_goals(revert hS hw;(try revert hc);refine W (J1 (od pe)) (J1 @d8.eq_1) (J1 ?_)<;>unhygienic intros)
  refine bT (js _ l A h (by omega)) ?_
  rintro u A1 ⟨h1,h2⟩ iV _
  refine⟨h2,?_⟩
  obtain⟨o1,c1,rfl,_⟩:=h1.is.dJ
  all_goals(revert hS hw;(repeat first|clear hS|clear hw|revert hc|revert zn|revert zA|revert R|revert K);refine W (J1 (od pe)) (J1 @d8.eq_1) (J1 ?_)<;>unhygienic intros)
  refine bT (gw _ ws A1 (dB.le h2 hw h') (by omega)) ?_
  rintro u2 A2 ⟨h3,h4⟩ kl _
  refine⟨h4,?_⟩
  obtain⟨o2,c2,rfl,_⟩:=h3.is.dJ
  all_goals(revert hS hw;(repeat first|clear hS|clear hw|revert hc|revert zn|revert zA|revert R|revert K);refine W (J1 (od pe)) (J1 @d8.eq_1) (J1 ?_)<;>unhygienic intros)
  refine⟨_,by first|(simp;done)|(simp;rfl),A2.next,rfl,?_,(h2.trans h4).trans (AW.le.alloc _ _)⟩
  have ij:=(au.gG (au.gG hS hw h2 h1) iV h4 h3).alloc kl (.cells [.slice o1 l.length c1,.slice o2 ws.length c2] true 1)
  refine gg.dR (vo:=.slice o1 l.length c1) (vw:=.slice o2 ws.length c2) ?_
  exact ij.dH (by show _=pt A2.next (.cells [.slice o1 l.length c1,.slice o2 ws.length c2] true 1)*(au .i64 (.slice o1 l.length c1) l*(au .u64 (.slice o2 ws.length c2) ws*F));ac_rfl)
set_option maxRecDepth 20000 in
set_option maxHeartbeats 1000000 in
theorem Ev (vi vw:Value) (l ws:List Int) (A:AW) (F:HP) (h:dB A .i64 vi l) (h':dB A .u64 vw ws) (he:l.length=ws.length) (hl:l.length<2^38) (hw:A.Wf) (hS:bz A F) :
 aC Tryz.prog 239 [vi,vw] A (fun v A'=>∃b,v=.pointer (some ⟨b,0,none⟩)∧bz A' (gg b ⟨l,ws⟩*F)∧A.le A'):=by
 refine ab Tryz.func239 rfl (by kernel_rfl) fun _=>?_
 obtain⟨o,c,rfl,hc⟩:=h.dJ
 obtain⟨o',c',rfl,P1⟩:=h'.dJ
 rw [←he] at h' P1 ⊢
 rcases o with _|p<;>rcases o' with _|q
 all_goals
  all_goals(revert hS hw;(try revert hc);refine W (J1 (od pe)) (J1 @d8.eq_1) (J1 ?_)<;>unhygienic intros)
  refine bT (js _ l A h (by omega)) ?_
  rintro u A1 ⟨h1,h2⟩ iV _
  refine⟨h2,?_⟩
  obtain⟨o1,c1,rfl,_⟩:=h1.is.dJ
  all_goals(revert hS hw;(repeat first|clear hS|clear hw|revert hc|revert zn|revert zA|revert R|revert K);refine W (J1 (od pe)) (J1 @d8.eq_1) (J1 ?_)<;>unhygienic intros)
  refine bT (gw _ ws A1 (dB.le h2 hw h') (by omega)) ?_
  rintro u2 A2 ⟨h3,h4⟩ kl _
  refine⟨h4,?_⟩
  obtain⟨o2,c2,rfl,_⟩:=h3.is.dJ
  all_goals(revert hS hw;(repeat first|clear hS|clear hw|revert hc|revert zn|revert zA|revert R|revert K);refine W (J1 (od pe)) (J1 @d8.eq_1) (J1 ?_)<;>unhygienic intros)
  refine⟨_,by first|(simp;done)|(simp;rfl),A2.next,rfl,?_,(h2.trans h4).trans (AW.le.alloc _ _)⟩
  have ij:=(au.gG (au.gG hS hw h2 h1) iV h4 h3).alloc kl (.cells [.slice o1 l.length c1,.slice o2 ws.length c2] true 1)
  refine gg.dR (vo:=.slice o1 l.length c1) (vw:=.slice o2 ws.length c2) ?_
  exact ij.dH (by show _=pt A2.next (.cells [.slice o1 l.length c1,.slice o2 ws.length c2] true 1)*(au .i64 (.slice o1 l.length c1) l*(au .u64 (.slice o2 ws.length c2) ws*F));ac_rfl)
end
section
open T6
variable [Gl]
theorem CI (t:Int) (vi:Value) (l:List Int) (A:AW) (F:HP) (h:dB A .i64 vi l) (hl:l.length<2^38) (hw:A.Wf) (hS:bz A F) :
 aC Tryz.prog 254 [.int .i64 t,vi] A (fun v A'=>∃b,v=.pointer (some ⟨b,0,none⟩)∧bz A' (fW b ⟨t,dV l,[],0,false⟩*F)):=by
 refine ab Tryz.func254 rfl (by kernel_rfl) fun _=>?_
 revert hS hw;refine W trivial trivial (J1 ?_)<;>unhygienic intros
 refine bT (wu vi l A h (by omega)) ?_
 rintro u A1 ⟨h1,h2⟩ iV _
 obtain⟨o,c,rfl,_⟩:=h1.is.dJ
 revert hS hw;(repeat first|clear hS|clear hw|revert hc|revert zn|revert zA|revert R|revert K);refine W trivial trivial (J1 ?_)<;>unhygienic intros
 refine⟨_,by first|(simp;done)|(simp;rfl),A1.next,rfl,?_⟩
 have ij:=(au.gG hS hw h2 h1).alloc iV (.cells [.int .i64 t,.slice o (dV l).length c,.slice none 0 0,.int .u64 0,.bool false] true 1)
 refine fW.dR (vo:=.slice o (dV l).length c) (vw:=.slice none 0 0) ?_
 have h0:=au.nil (k:=.u64) ij
 exact h0.dH (by show _=pt A1.next (.cells [.int .i64 t,.slice o (dV l).length c,.slice none 0 0,.int .u64 0,.bool false] true 1)*(au .i64 (.slice o (dV l).length c) (dV l)*(au .u64 (.slice none 0 0) []*F));ac_rfl)
end
section
variable [Gl]
abbrev pv (n:Nat):Value:=.pointer (some ⟨n,0,none⟩)
abbrev bh (v:Value):dK:=.cells [v] true 1
structure nL where
 bD:Nat
 bJ:Nat
 aJ:Nat
 aX:Nat
 aW:Nat
 m:Nat
 c0:Nat
 c1:Nat
 c2:Nat
 aZ:Value
 aE:Value
 aL:Value
 aN:Value
 bk:Value
 aS:Value
 bP:Value
 aO:Value
 aM:Value
 aB:Value
 bc:Value
 bd:Value
 bZ:Value
 bl:Value
def ed:Option gH→Nat→Value|none,_=>.pointer none|some _,n=>pv n
def cF:Option gy→Nat→Value|none,_=>.pointer none|some _,n=>pv n
def cy:Option ju→Nat→Value|none,_=>.pointer none|some _,n=>pv n
def dk:aU→nL→Value | .bm _ _,f=>pv f.m|_,f=>f.bk
def cp:aU→nL→Value | .bm r _,_=>.int .i64 r.bX|_,f=>f.aS
def dm:aU→nL→Value | .bm r _,_=>.int .i64 r.c8|_,f=>f.bl
def eV:aU→nL→Value | .eL _,f=>pv f.m|_,f=>f.bP
def cq:aU→nL→Value | .dM _,f=>pv f.m|_,f=>f.aO
def cm:aU→nL→Value | .ee _,f=>pv f.m|_,f=>f.aM
def bt:aU→nL→Value | .cD _,f=>pv f.m|_,f=>f.aB
def dl:aU→nL→Value | .eK _,f=>pv f.m|_,f=>f.bc
def di:Fu→nL→Value
 | .qq,f=>.func (.func 172) #[] #[pv f.c0]
 | .L4,f=>.func (.func 266) #[] #[pv f.c0]
 | .bS _,f=>.func (.func 169) #[] #[pv f.c0,pv f.c1]
 | .take _,f=>.func (.func 175) #[] #[pv f.c0,pv f.c1]
 | .k4 _ _,f=>.func (.func 178) #[] #[pv f.c0,pv f.c1,pv f.c2]
 | .y6,f=>.func (.func 261) #[] #[pv f.c0]
 | .cM _ _,f=>.func (.func 267) #[] #[pv f.c0,pv f.c1,pv f.c2]
def dh:aU→nL→Value
 | .gZ k,f=>di k f
 | .eL _,f=>.func (.func 263) #[] #[pv f.c0,pv f.c1]
 | _,f=>f.bd
def eU:aU→nL→Value
 | .bm _ .take,f=>.func (.func 173) #[] #[pv f.c0]
 | .bm _ (.cM _),f=>.func (.func 269) #[] #[pv f.c0,pv f.c1]
 | _,f=>f.bZ
def eP (s:aT) (bX:Int) (d:aU) (f:nL):dK:=.cells [pv f.bD,pv f.bJ,f.aZ,f.aE,f.aL,
 ed s.bL f.aJ,dk d f,cp d f,eV d f,cF s.aI f.aX,cy s.aH f.aW,cq d f,cm d f,bt d f,dl d f,
 .int .i64 s.cf.aQ,.int .i64 s.cf.an,.int .i64 s.cf.base,.int .i64 s.cf.c0,.int .i64 s.cf.c1,.int .i64 s.cf.c2,.int .i64 s.cf.c3,.int .i64 s.cf.reads,.int .i64 s.cf.bN,.int .i64 s.cf.ai,.int .i64 s.cf.av,.int .i64 s.cf.ax,.bool s.cf.aK,
 .int .i64 s.am,.int .i64 s.aA,.int .i64 s.ay,.int .i64 bX,dh d f,eU d f,dm d f,.int .u64 s.value,f.aN,.int .u64 s.ax,.bool s.aj,.int .i64 s.ao] true 1
def Fw:Option gH→Nat→HP|none,_=>eG|some e,n=>pt n (fJ e)
def qm:Option gy→Nat→HP|none,_=>eG|some l,n=>fW n l
def ru:Option ju→Nat→HP|none,_=>eG|some t,n=>pt n (iu t)
def br (b:Nat):Fu→nL→List It
 | .qq,f | .L4,f | .y6,f=>[.at f.c0 (bh (pv b))]
 | .bS ay,f=>[.at f.c0 (bh (pv b)),.at f.c1 (bh (.int .i64 ay))]
 | .take v,f=>[.at f.c0 (bh (.func (.func 173) #[] #[pv f.c2])),.at f.c1 (bh (.int .u64 v)),.at f.c2 (bh (pv b))]
 | .k4 a v,f=>[.at f.c0 (bh (pv b)),.at f.c1 (bh (.int .u64 a)),.at f.c2 (bh (.int .u64 v))]
 | .cM k v,f=>[.at f.c0 (bh (pv b)),.at f.c1 (bh (.int .i64 k)),.at f.c2 (bh (.int .u64 v))]
def b8 (b:Nat):zM→nL→List It
 | .take,f=>[.at f.c0 (bh (pv b))]
 | .cM k,f=>[.at f.c0 (bh (pv b)),.at f.c1 (bh (.int .i64 k))]
def ei (b:Nat):aU→nL→List It
 | .gZ k,f=>br b k f
 | .bm r u,f=>.at f.m (gm r)::b8 b u f
 | .eL p,f=>[.at f.m (kY p),.at f.c0 (bh (pv b)),.at f.c1 (bh (.int .i64 p.d5))]
 | .dM c,f=>[.h (io f.m c)]
 | .ee w,f=>[.h (gg f.m w)]
 | .cD w,f=>[.h (gg f.m w)]
 | .eK p,f=>[.at f.m (fN p)]
 | _,_=>[]
def bx (b:Nat) (s:aT) (bX:Int) (d:aU) (f:nL):List It:=[.at b (eP s bX d f),.h (Fw s.bL f.aJ),.h (qm s.aI f.aX),.h (ru s.aH f.aW),
 .h (rZ f.bD s.cf.reads.toNat s.set),.h (mK f.bJ s.bp),.h (au .i64 f.aZ s.reads),.h (au .i64 f.aE s.ai),.h (au .i64 f.aL s.av),.h (au .i64 f.aN s.an)]
def gM (b:Nat) (s:aT) (bX:Int) (d:aU):HP:=nI fun f:nL=>aR (bx b s bX d f)
def bf (b:Nat) (s:aT):HP:=nI fun f:nL=>aR (bx b s s.aG.dT s.aG f++ei b s.aG f)
theorem ap.aH {n:Nat} {t:ju} {L:List It}:ap (.at n (iu t)::L) (.h (ru (some t) n)) L:=.e rfl
theorem ap.bL {n:Nat} {t:gH} {L:List It}:ap (.at n (fJ t)::L) (.h (Fw (some t) n)) L:=.e rfl
theorem ap.KH {n:Nat} {t:gy} {L:List It}:ap (.h (fW n t)::L) (.h (qm (some t) n)) L:=.e rfl
section
variable {A:AW} {L K:List It} {b:Nat} {s:aT} {bX:Int} {d:aU}
theorem gM.open (h:ak A L) (hp:ap L (.h (gM b s bX d)) K):∃f,ak A (bx b s bX d f++K):=jE h hp
theorem bf.open (h:ak A L) (hp:ap L (.h (bf b s)) K):∃f,ak A (bx b s s.aG.dT s.aG f++ei b s.aG f++K):=jE h hp
theorem gM.dR {bD bJ aJ aX aW m c0 c1 c2:Nat} {aZ aE aL aN bk aS bP aO aM aB bc bd bZ bl:Value} (h:ak A L)
 (e:aD L (bx b s bX d ⟨bD,bJ,aJ,aX,aW,m,c0,c1,c2,aZ,aE,aL,aN,bk,aS,bP,aO,aM,aB,bc,bd,bZ,bl⟩) K):ak A (.h (gM b s bX d)::K):=ii ⟨bD,bJ,aJ,aX,aW,m,c0,c1,c2,aZ,aE,aL,aN,bk,aS,bP,aO,aM,aB,bc,bd,bZ,bl⟩ h e
theorem bf.dR {bD bJ aJ aX aW m c0 c1 c2:Nat} {aZ aE aL aN bk aS bP aO aM aB bc bd bZ bl:Value} (h:ak A L)
 (e:aD L (bx b s s.aG.dT s.aG ⟨bD,bJ,aJ,aX,aW,m,c0,c1,c2,aZ,aE,aL,aN,bk,aS,bP,aO,aM,aB,bc,bd,bZ,bl⟩++ei b s.aG ⟨bD,bJ,aJ,aX,aW,m,c0,c1,c2,aZ,aE,aL,aN,bk,aS,bP,aO,aM,aB,bc,bd,bZ,bl⟩) K):ak A (.h (bf b s)::K):=ii ⟨bD,bJ,aJ,aX,aW,m,c0,c1,c2,aZ,aE,aL,aN,bk,aS,bP,aO,aM,aB,bc,bd,bZ,bl⟩ h e
theorem bf.bS {bD bJ aJ aX aW m c0 c1 c2:Nat} {aZ aE aL aN bk aS bP aO aM aB bc bd bZ bl:Value} {G K2:List It} (h:ak A L)
 (e:aD L (bx b s s.aG.dT s.aG ⟨bD,bJ,aJ,aX,aW,m,c0,c1,c2,aZ,aE,aL,aN,bk,aS,bP,aO,aM,aB,bc,bd,bZ,bl⟩++ei b s.aG ⟨bD,bJ,aJ,aX,aW,m,c0,c1,c2,aZ,aE,aL,aN,bk,aS,bP,aO,aM,aB,bc,bd,bZ,bl⟩) K) (e2:aD K G K2):ak A (.h (bf b s)::G):=
 ak.bS (bf.dR h e) (.s .z e2)
theorem gM.Ud {bD bJ aJ aX aW m c0 c1 c2:Nat} {aZ aE aL aN bk aS bP aO aM aB bc bd bZ bl:Value} (h:ak A L)
 (e:aD L (bx b s bX d ⟨bD,bJ,aJ,aX,aW,m,c0,c1,c2,aZ,aE,aL,aN,bk,aS,bP,aO,aM,aB,bc,bd,bZ,bl⟩) K):ak A [.h (gM b s bX d)]:=ak.bS (gM.dR h e) (.s .z .z)
theorem bf.Ms (h:ak A L) (hp:ap L (.h (bf b s)) K):ak A (.h (gM b s s.aG.dT s.aG)::K):=by
 obtain⟨f,h⟩:=bf.open h hp
 have h1:ak A (bx b s s.aG.dT s.aG f++(ei b s.aG f++K)):=by rw [←List.append_assoc];exact h
 have h2:ak A (.h (gM b s s.aG.dT s.aG)::(ei b s.aG f++K)):=ii (g:=bx b s s.aG.dT s.aG) f h1 (by
  repeat' (first|apply aD.z|apply aD.s|apply ap.z))
 unfold ak at h2 ⊢
 have h3:bz A (gM b s s.aG.dT s.aG*aR (ei b s.aG f++K)):=h2
 rw [eZ] at h3
 have h4:bz A (aR (ei b s.aG f)*(gM b s s.aG.dT s.aG*aR K)):=h3.dH (by ac_rfl)
 exact bz.right h4
theorem aY.qz {P:Program} {f:FuncId} {args:List Value} {nG:List It} {φ:Value→Prop} {post:Value→List It} (hc:aY P f args (.h (gM b s bX d)::nG) φ post) {bD bJ aJ aX aW m c0 c1 c2:Nat} {aZ aE aL aN bk aS bP aO aM aB bc bd bZ bl:Value} {K0:List It} {k:Value→AW→Prop} (hw:A.Wf) (hS:ak A L)
 (e:aD L (bx b s bX d ⟨bD,bJ,aJ,aX,aW,m,c0,c1,c2,aZ,aE,aL,aN,bk,aS,bP,aO,aM,aB,bc,bd,bZ,bl⟩) K0) (e2:aD K0 nG K) (hk:∀v A',φ v→ak A' (post v++K)→A'.Wf→A.next≤A'.next→k v A'):aC P f args A k:=
 aY.cA hc hw (gM.dR hS e) (.s .z e2) hk
theorem aY.Ke {P:Program} {f:FuncId} {args:List Value} {nG:List It} {φ:Value→Prop} {post:Value→List It} (hc:aY P f args (.h (bf b s)::nG) φ post) {bD bJ aJ aX aW m c0 c1 c2:Nat} {aZ aE aL aN bk aS bP aO aM aB bc bd bZ bl:Value} {K0:List It} {k:Value→AW→Prop} (hw:A.Wf) (hS:ak A L)
 (e:aD L (bx b s s.aG.dT s.aG ⟨bD,bJ,aJ,aX,aW,m,c0,c1,c2,aZ,aE,aL,aN,bk,aS,bP,aO,aM,aB,bc,bd,bZ,bl⟩++ei b s.aG ⟨bD,bJ,aJ,aX,aW,m,c0,c1,c2,aZ,aE,aL,aN,bk,aS,bP,aO,aM,aB,bc,bd,bZ,bl⟩) K0) (e2:aD K0 nG K) (hk:∀v A',φ v→ak A' (post v++K)→A'.Wf→A.next≤A'.next→k v A'):aC P f args A k:=
 aY.cA hc hw (bf.dR hS e) (.s .z e2) hk
theorem Fw.op {n:Nat} {e:gH} (h:ak A L) (hp:ap L (.h (Fw (some e) n)) K):ak A (.at n (fJ e)::K):=by
 unfold ak at h ⊢
 rw [hp.aR] at h
 exact h
theorem ru.op {n:Nat} {e:ju} (h:ak A L) (hp:ap L (.h (ru (some e) n)) K):ak A (.at n (iu e)::K):=by
 unfold ak at h ⊢
 rw [hp.aR] at h
 exact h
theorem qm.op {n:Nat} {e:gy} (h:ak A L) (hp:ap L (.h (qm (some e) n)) K):ak A (.h (fW n e)::K):=by
 unfold ak at h ⊢
 rw [hp.aR] at h
 exact h
theorem wN {f:FuncId} {args:List Value} {V:Value} {b:Nat} {s:aT} {bX:Int} {d:aU} (hC:∀A':AW,A'.Wf→ak A' [.h (gM b s bX d)]→eF f args A' V)
 {A:AW} {L K0:List It} {bD bJ aJ aX aW m c0 c1 c2:Nat} {aZ aE aL aN bk aS bP aO aM aB bc bd bZ bl:Value} {k:Value→AW→Prop} (hw:A.Wf) (hS:ak A L) (e:aD L (bx b s bX d ⟨bD,bJ,aJ,aX,aW,m,c0,c1,c2,aZ,aE,aL,aN,bk,aS,bP,aO,aM,aB,bc,bd,bZ,bl⟩) K0) (hk:k V A):aC Tryz.prog f args A k:=by
 refine bT (hC A hw (gM.Ud hS e)) ?_
 rintro _ _ ⟨rfl,rfl⟩ _ _
 exact hk
end
theorem pP {L G K:List It} (h':aD L G K:=by first|((repeat' (first|apply aD.z|apply aD.s|apply ap.z|apply ap.aH|apply ap.bL|apply ap.KH|apply ap.s));done)|fail):aD L G K:=h'
theorem kP {L K:List It} {x:It} (h':ap L x K:=by first|((repeat' (first|apply aD.z|apply aD.s|apply ap.z|apply ap.aH|apply ap.bL|apply ap.KH|apply ap.s));done)|fail):ap L x K:=h'
theorem fP {L G K:List It} (h':aD L G K:=by first|((dsimp only [bx,eP,dk,cp,dm,eV,cq,cm,bt,dl,dh,eU,di,ed,cF,cy,ei,br,b8,aU.dT,af,ag]);(try simp only [h]);(repeat' (first|apply aD.z|apply aD.s|apply ap.z|apply ap.aH|apply ap.bL|apply ap.KH|apply ap.s));done)|fail):aD L G K:=h'
end
end Go.Stx
