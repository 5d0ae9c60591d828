/-
 The program's attempt: what its closures do.
-/
import Derived.Test.YtncmjklabcoeaaaGreatD20
import Derived.Test.YtncmjklabcoeaaaGreatD22
set_option linter.unusedVariables false
set_option linter.unusedSimpArgs false
set_option maxRecDepth 20000
set_option maxHeartbeats 4000000
namespace Go.Stx
open Go Go.Proofs
attribute [local irreducible] fj cm aH bB dK ei
section
open T15 T16
theorem an.gR {A:AW} {L K:List It} {i:Nat} {o:ef} (h:an A L) (hp:ay L (.at i o) K):A.cy i=some o:=by
 unfold an at h
 rw [hp.bn] at h
 exact bK.cy h
theorem nB (b c:Nat) (s:aD) (v:Int) (hd:s.aA=.bm) :
 aP Tryz.prog 171 [.int .u64 v,pv c] [.h (bI b s),.at c (bu (pv b))] (fun _=>True) (fun _=>[.h (bI b { s with value:=v })]):=by
 obtain⟨cf,ag,av,ax,value,br,ai,ah,ac,ap,set,aM,ao,aj,aG,aE,am,aA⟩:=s
 dsimp only at hd
 subst hd
 intro A F hw hS
 refine ab Tryz.func171 rfl (by kernel_rfl) fun _=>?_
 dsimp only [na,zo] at hS
 obtain⟨⟨bh,aY,az,aJ,aK,m,c0,c1,c2,bx,aw,aB,aV,bQ,bg,cE,aW,aU,aC,bA,bC,cP,bR⟩,hS⟩:=bI.open hS .z
 dsimp only [cg,fq,bW,da,ba.eo,na,zo] at hS
 have hq:=ZN hS hw
 revert hq hS hw;clear hS;refine Wp trivial (J2 @AW.aa @af.eq_1) (J1 ?_)<;>unhygienic intros
 refine⟨_,by first|rfl|(simp;rfl),trivial,?_⟩
 apply bI.cC
 (·exact sA)
 (dsimp only [cg,fi,fq,bW,da,ba.eo,bJ,aT,aQ,dT,cY,dV,fC,cZ,cW,bV,dU,dR,fB,dS,na,zo])
 try simp only [h]
 (·first|exact pP|exact kP)
 (·first|exact pP|exact kP)
 all_goals(first|exact 0|exact undef)
theorem py (b c c':Nat) (s:aD) (k v:Int) (hd:s.aA=.bm) (hC:ep s) (hk:0≤k∧k<s.cf.nb) :
 aP Tryz.prog 181 [.int .u64 v,pv c,pv c'] [.h (bI b s),.at c (bu (pv b)),.at c' (bu (.int .i64 k))] (fun _=>True) (fun _=>[.h (bI b (jX s k v))]):=by
 intro A F hw hS
 refine ab Tryz.func181 rfl (by kernel_rfl) fun _=>?_
 dsimp only [na,zo] at hS
 have hq:=ZQ hS hw
 revert hq hS hw;refine Wp (J1 (zO b s k v hd hC hk)) (J2 @AW.aa @af.eq_1) (J1 ?_)<;>unhygienic intros
 refine⟨_,by first|rfl|(simp;rfl),trivial,?_⟩
 apply an.cC
 (·exact sA)
 (·first|exact pP|exact kP)
theorem CJ (b c:Nat) (s:aD) (hd:s.aA=.bm) (hC:ep s) :
 aP Tryz.prog 170 [pv c] [.h (bI b s),.at c (bu (pv b))] (fun _=>True) (fun _=>[.h (bI b (nN s 7))]):=by
 intro A F hw hS
 refine ab Tryz.func170 rfl (by kernel_rfl) fun _=>?_
 dsimp only [na,zo] at hS
 have hq:=ZQ hS hw
 revert hq hS hw;refine Wp (J1 (sk b s 7 hd hC)) (J2 @AW.aa @af.eq_1) (J1 ?_)<;>unhygienic intros
 refine⟨_,by first|rfl|(simp;rfl),trivial,?_⟩
 apply an.cC
 (·exact sA)
 (·first|exact pP|exact kP)
theorem CL (b c:Nat) (s:aD) (hd:s.aA=.bm) (hC:ep s) :
 aP Tryz.prog 178 [pv c] [.h (bI b s),.at c (bu (pv b))] (fun _=>True) (fun _=>[.h (bI b (nN s 8))]):=by
 intro A F hw hS
 refine ab Tryz.func178 rfl (by kernel_rfl) fun _=>?_
 dsimp only [na,zo] at hS
 have hq:=ZQ hS hw
 revert hq hS hw;refine Wp (J1 (sk b s 8 hd hC)) (J2 @AW.aa @af.eq_1) (J1 ?_)<;>unhygienic intros
 refine⟨_,by first|rfl|(simp;rfl),trivial,?_⟩
 apply an.cC
 (·exact sA)
 (·first|exact pP|exact kP)
theorem CK (b c c':Nat) (s:aD) (ax:Int) (hd:s.aA=.bm) (hC:ep s) :
 aP Tryz.prog 64 [pv c,pv c'] [.h (bI b s),.at c (bu (pv b)),.at c' (bu (.int .i64 ax))] (fun _=>True) (fun _=>[.h (bI b (nN s ax))]):=by
 intro A F hw hS
 refine ab Tryz.func64 rfl (by kernel_rfl) fun _=>?_
 dsimp only [na,zo] at hS
 have hq:=ZQ hS hw
 revert hq hS hw;refine Wp (J1 (sk b s ax hd hC)) (J2 @AW.aa @af.eq_1) (J1 ?_)<;>unhygienic intros
 refine⟨_,by first|rfl|(simp;rfl),trivial,?_⟩
 apply an.cC
 (·exact sA)
 (·first|exact pP|exact kP)
theorem AI (b c:Nat) (s:aD) (hd:s.aA=.bm) (hC:ep s) :
 aP Tryz.prog 77 [pv c] [.h (bI b s),.at c (bu (pv b))] (fun _=>True) (fun _=>[.h (bI b (gy s 3))]):=by
 have hu:aP Tryz.prog 78 [pv b,.int .i64 3] [.h (bI b s)] (fun _=>True) (fun _=>[.h (bI b (gy s 3))]):=fun A F hw hS=>
  (iO b s s.aA.eo 3 s.aA hC.cf hC.al hC.push (Nat.lt_of_le_of_lt hC.kN (by decide))) A F hw (bI.Tk hS .z)
 intro A F hw hS
 refine ab Tryz.func77 rfl (by kernel_rfl) fun _=>?_
 dsimp only [na,zo] at hS
 have hq:=ZQ hS hw
 revert hq hS hw;refine Wp (J1 @hu) (J2 @AW.aa @af.eq_1) (J1 ?_)<;>unhygienic intros
 refine⟨_,by first|rfl|(simp;rfl),trivial,?_⟩
 apply an.cC
 (·exact sA)
 (·first|exact pP|exact kP)
theorem ya (b c c' c2:Nat) (s:aD) (k v:Int) (hd:s.aA=.bm) (hC:ep s) (hk:0≤k∧k<s.cf.nb) :
 aP Tryz.prog 179 [pv c,pv c',pv c2] [.h (bI b s),.at c (bu (pv b)),.at c' (bu (.int .i64 k)),.at c2 (bu (.int .u64 v))] (fun _=>True) (fun _=>[.h (bI b (jX s k v))]):=by
 intro A F hw hS
 refine ab Tryz.func179 rfl (by kernel_rfl) fun _=>?_
 dsimp only [na,zo] at hS
 have hq:=ZQ hS hw
 revert hq hS hw;refine Wp (J1 (zO b s k v hd hC hk)) (J2 @AW.aa @af.eq_1) (J1 ?_)<;>unhygienic intros
 refine⟨_,by first|rfl|(simp;rfl),trivial,?_⟩
 apply an.cC
 (·exact sA)
 (·first|exact pP|exact kP)
theorem AH (b c c' c2:Nat) (s:aD) (v:Int) (hd:s.aA=.bm) :
 aP Tryz.prog 173 [pv c,pv c'] [.h (bI b s),.at c (bu (.func (.func 171) #[] #[pv c2])),.at c' (bu (.int .u64 v)),.at c2 (bu (pv b))] (fun _=>True) (fun _=>[.h (bI b { s with value:=v })]):=by
 intro A F hw hS
 refine ab Tryz.func173 rfl (by kernel_rfl) fun _=>?_
 dsimp only [na,zo] at hS
 have hq:=ZQ hS hw
 revert hq hS hw;refine Wp (J1 (nB b c2 s v hd)) (J2 @AW.aa @af.eq_1) (J1 ?_)<;>unhygienic intros
 refine⟨_,by first|rfl|(simp;rfl),trivial,?_⟩
 apply an.cC
 (·exact sA)
 (·first|exact pP|exact kP)
theorem xZ (b c c' c2:Nat) (s:aD) (a v:Int) (hd:s.aA=.bm) (hC:ep s) (ha:0≤a) :
 aP Tryz.prog 59 [pv c,pv c',pv c2] [.h (bI b s),.at c (bu (pv b)),.at c' (bu (.int .u64 a)),.at c2 (bu (.int .u64 v))] (fun _=>True) (fun _=>[.h (bI b (nK s (.fu a v)))]):=by
 have Nc:=hC.cf.aF
 have ho:∀A',A'.Wf→an A' [.h (bI b s)]→eF 60 [pv b,.int .u64 a] A' (.bool (decide (s.cf.aF≤a))):=fun A' h1 h2=>nF b s s.aA.eo a s.aA hC.cf A' h1 (bI.Tk h2 .z)
 by_cases h:s.cf.aF≤a
 · have e:nK s (.fu a v)=nN s 7:=if_pos h
   rw [e]
   intro A F hw hS
   refine ab Tryz.func59 rfl (by kernel_rfl) fun _=>?_
   dsimp only [na,zo] at hS
   have hq:=ZQ hS hw
   revert hq hS hw;refine Wp (J2 (Tg.mk (n:=10) (fun {A L K k}=>wX (A:=A) (L:=L) (K:=K) (k:=k) ho)) (sk b s 7 hd hC)) (J3 h @AW.aa @af.eq_1) (J1 ?_)<;>unhygienic intros
   refine⟨_,by first|rfl|(simp;rfl),trivial,?_⟩
   apply an.cC
   (·exact sA)
   (·first|exact pP|exact kP)
 · have e:nK s (.fu a v)=(iI s a v).2:=if_neg h
   rw [e]
   have Nd:IntKind.i64.wrap a=a:=ak (by omega) (by omega)
   intro A F hw hS
   refine ab Tryz.func59 rfl (by kernel_rfl) fun _=>?_
   dsimp only [na,zo] at hS
   have hq:=ZQ hS hw
   revert hq hS hw;(repeat first|clear hq|clear hS|clear hw|revert hc|revert zn|revert zA|revert R|revert K);refine Wp (J2 (Tg.mk (n:=10) (fun {A L K k}=>wX (A:=A) (L:=L) (K:=K) (k:=k) ho)) (rL b s a v hd hC ha)) (J4 h Nd @AW.aa @af.eq_1) (J1 ?_)<;>unhygienic intros
   refine⟨_,by first|rfl|(simp;rfl),trivial,?_⟩
   apply an.cC
   (·exact sA)
   (·first|exact pP|exact kP)
theorem yb (b m c c':Nat) (s:aD) (p:mN) (hC:ep { s with aA:=.bm }) (uZ:s.ac.length<8) (hp:p.block<s.cf.nb) (iz:0≤p.dB∧p.dB≤3) :
 aP Tryz.prog 80 [pv c,pv c'] [.h (Kd b { s with aA:=.bm } 0 p),.at c (bu (pv b)),.at c' (bu (.int .i64 p.dB))] (fun _=>True) (fun _=>[.h (bI b (fV { s with aA:=.bm } p.dB p.block))]):=by
 intro A F hw hS
 refine ab Tryz.func80 rfl (by kernel_rfl) fun _=>?_
 dsimp only [na,zo] at hS
 have hq:=ZQ hS hw
 revert hq hS hw;refine Wp (J1 (Al b s p hC uZ hp iz)) (J2 @AW.aa @af.eq_1) (J1 ?_)<;>unhygienic intros
 refine⟨_,by first|rfl|(simp;rfl),trivial,?_⟩
 apply an.cC
 (·exact sA)
 (·first|exact pP|exact kP)
end
section
abbrev Iz:List (Nat×Nat):=[(0,0),(1,0),(2,2),(3,3),(4,0)]
open T20 T16
theorem HB (b pb:Nat) (s:eM) (M:Mm) (cU:s.dH.length≤s.aj.length) (DJ:s.aj.length<2^38) :
 aP Tryz.prog 137 [pv b,pv pb] [.h (gG b s),eb pb M] (fun v=>v=(dF s M).1.v) (fun _=>[.h (gG b (dF s M).2.1),eb pb (dF s M).2.2]):=
 aP.jK (Bz b pb s M cU DJ) (by show gG b s*(eI pb M*fa)=_;rw [dx]) (fun v=>by show _=rc _*(gG b _*(eI pb _*fa));rw [dx])
theorem Jq (b pb:Nat) (s:gL) (M:Mm) (cU:s.os.length=s.ws.length) :
 aP Tryz.prog 156 [pv b,pv pb] [.h (gV b s),eb pb M] (fun v=>v=(j3 s M).1.v) (fun _=>[.h (gV b (j3 s M).2.1),eb pb (j3 s M).2.2]):=
 aP.jK (Di b pb s M cU) (by show gV b s*(eI pb M*fa)=_;rw [dx]) (fun v=>by show _=rc _*(gV b _*(eI pb _*fa));rw [dx])
theorem Ky (b pb:Nat) (s:gL) (M:Mm) (cU:s.os.length=s.ws.length) :
 aP Tryz.prog 152 [pv b,pv pb] [.h (gV b s),eb pb M] (fun v=>v=(lq s M).1.v) (fun _=>[.h (gV b (lq s M).2.1),eb pb (lq s M).2.2]):=
 aP.jK (ES b pb s M cU) (by show gV b s*(eI pb M*fa)=_;rw [dx]) (fun v=>by show _=rc _*(gV b _*(eI pb _*fa));rw [dx])
section
variable {A:AW} {L K:List It} {k:Value→AW→Prop} {n:Nat}
theorem yq {P:HP} (hS:an A L) (hp:ay L (.h P) K):bK A (P*bn K):=by
 unfold an at hS
 rw [hp.bn] at hS
 exact hS
theorem nJ {s:eM} (hw:A.Wf) (hS:an A L) (hp:ay L (.h (gG n s)) K) (hk:k (.bool s.done) A):aH Tryz.prog 138 [pv n] A k:=by
 refine bD (mw n s A _ (yq hS hp)) ?_
 rintro _ _ ⟨rfl,rfl⟩ _ _
 exact hk
theorem rI {s:gL} (hw:A.Wf) (hS:an A L) (hp:ay L (.h (gV n s)) K) (hk:k (.bool s.done) A):aH Tryz.prog 157 [pv n] A k:=by
 refine bD (qD n s A _ (yq hS hp)) ?_
 rintro _ _ ⟨rfl,rfl⟩ _ _
 exact hk
theorem xR {s:gL} (hw:A.Wf) (hS:an A L) (hp:ay L (.h (gV n s)) K) (hk:k (.bool s.done) A):aH Tryz.prog 153 [pv n] A k:=by
 refine bD (rA n s A _ (yq hS hp)) ?_
 rintro _ _ ⟨rfl,rfl⟩ _ _
 exact hk
theorem jR {s:ft} (hw:A.Wf) (hS:an A L) (hp:ay L (.h (iV n s)) K) (hk:k (.bool s.done) A):aH Tryz.prog 144 [pv n] A k:=by
 obtain⟨v,h0⟩:=iV.open hS hp
 obtain⟨o,c,rfl,_⟩:=(an.gM h0 (.s .z)).cL
 refine bD (oJ n o _ c s.rv s.ii A (h0.g 0 rfl)) ?_
 rintro _ _ ⟨rfl,rfl⟩ _ _
 exact hk
theorem vV (b:Nat) (v:Value) (rv:Int) (f:Bool) (A:AW) (hg:A.cy b=some (.cells [v,.int .i64 rv,.bool f] true 1)):eF 146 [pv b] A (.bool f):=by
 refine ab Tryz.func146 rfl (by kernel_rfl) fun _=>?_
 refine Wp trivial (J2 hg @AW.aa) (J1 ?_)<;>unhygienic intros
 exact⟨_,rfl,rfl,rfl⟩
theorem m9 {s:ft} (hw:A.Wf) (hS:an A L) (hp:ay L (.h (iV n s)) K) (hk:k (.bool s.ii) A):aH Tryz.prog 146 [pv n] A k:=by
 obtain⟨v,h0⟩:=iV.open hS hp
 refine bD (vV n v s.rv s.ii A (h0.g 0 rfl)) ?_
 rintro _ _ ⟨rfl,rfl⟩ _ _
 exact hk
theorem pG {s:dC} (hw:A.Wf) (hS:an A L) (hp:ay L (.at n (gk s)) K) (hk:k (.int .i64 s.kc) A):aH Tryz.prog 124 [pv n] A k:=by
 refine bD (sj n s A (an.gR hS hp)) ?_
 rintro _ _ ⟨rfl,rfl⟩ _ _
 exact hk
theorem pH {s:dC} (hw:A.Wf) (hS:an A L) (hp:ay L (.at n (gk s)) K) (hk:k (.bool (decide (s.cj=3))) A):aH Tryz.prog 126 [pv n] A k:=by
 refine bD (zV n s A (an.gR hS hp)) ?_
 rintro _ _ ⟨rfl,rfl⟩ _ _
 exact hk
theorem wJ {s:mN} (hw:A.Wf) (hS:an A L) (hp:ay L (.at n (ll s)) K) (hk:k (.bool (decide (s.cj=3))) A):aH Tryz.prog 135 [pv n] A k:=by
 refine bD (Dn n s A (an.gR hS hp)) ?_
 rintro _ _ ⟨rfl,rfl⟩ _ _
 exact hk
theorem uu {s:kM} (hw:A.Wf) (hS:an A L) (hp:ay L (.at n (j4 s)) K) (hk:k (.bool (decide (s.cj=3))) A):aH Tryz.prog 163 [pv n] A k:=by
 refine bD (Bq n s A (an.gR hS hp)) ?_
 rintro _ _ ⟨rfl,rfl⟩ _ _
 exact hk
theorem kH {s:fL} (hw:A.Wf) (hS:an A L) (hp:ay L (.at n (iL s)) K) (hk:k (.bool s.done) A):aH Tryz.prog 141 [pv n] A k:=by
 refine bD (AF n s A (an.gR hS hp)) ?_
 rintro _ _ ⟨rfl,rfl⟩ _ _
 exact hk
theorem xX {s:fL} (hw:A.Wf) (hS:an A L) (hp:ay L (.at n (iL s)) K) (hk:k (.int .i64 s.eo) A):aH Tryz.prog 54 [pv n] A k:=by
 refine bD (xi n s A (an.gR hS hp)) ?_
 rintro _ _ ⟨rfl,rfl⟩ _ _
 exact hk
theorem eT {s:dY} (hw:A.Wf) (hS:an A L) (hp:ay L (.at n (gS s)) K) (hk:k (.bool s.done) A):aH Tryz.prog 128 [pv n] A k:=by
 refine bD (tg n s A (an.gR hS hp)) ?_
 rintro _ _ ⟨rfl,rfl⟩ _ _
 exact hk
theorem d9 {s:dY} (hw:A.Wf) (hS:an A L) (hp:ay L (.at n (gS s)) K) (hk:k (.bool s.du) A):aH Tryz.prog 129 [pv n] A k:=by
 refine bD (uq n s A (an.gR hS hp)) ?_
 rintro _ _ ⟨rfl,rfl⟩ _ _
 exact hk
theorem jO {s:dY} (hw:A.Wf) (hS:an A L) (hp:ay L (.at n (gS s)) K) (hk:k (.int .u64 s.val) A):aH Tryz.prog 133 [pv n] A k:=by
 refine bD (yW n s A (an.gR hS hp)) ?_
 rintro _ _ ⟨rfl,rfl⟩ _ _
 exact hk
theorem ux {a:bq} (hw:A.Wf) (hS:an A L) (hk:∀(u:Unit) A',an A' L→A'.Wf→A.le A'→k (.int .i64 (gZ a)) A'):aH Tryz.prog 136 [a.v] A k:=by
 refine bD (Fu a A hw) ?_
 rintro _ A' ⟨rfl,h1⟩ gY _
 exact hk () A' (hS.le hw h1) gY h1
theorem tj {a:bq} (hw:A.Wf) (hS:an A L) (hk:∀(u:Unit) A',an A' L→A'.Wf→A.le A'→k (.int .i64 (gu a)) A'):aH Tryz.prog 164 [a.v] A k:=by
 refine bD (Do a A hw) ?_
 rintro _ A' ⟨rfl,h1⟩ gY _
 exact hk () A' (hS.le hw h1) gY h1
end
theorem yi (b pb:Nat) (s:aD) (en:dC) (M:Mm) (hd:s.aA=.ej) (he:s.br=some en) :
 aP Tryz.prog 43 [pv b,pv pb] [.h (bI b s),eb pb M] (fun v=>v=.tuple #[(gD s M en).1.v,.int .i64 (gD s M en).2.1])
  (fun _=>[.h (bI b (gD s M en).2.2.1),eb pb (gD s M en).2.2.2]):=by
 obtain⟨cf,ag,av,ax,value,br,ai,ah,ac,ap,set,aM,ao,aj,aG,aE,am,aA⟩:=s
 dsimp only at hd
 subst hd
 dsimp only at he
 subst he
 obtain⟨x,e',M',hr⟩:∃x e' M',go en M=(x,e',M'):=⟨_,_,_,rfl⟩
 have dz:=fun n=>zU n pb en M
 rw [hr] at dz
 by_cases h:e'.cj=3
 · have e:gD ⟨cf,ag,av,ax,value,some en,ai,ah,ac,ap,set,aM,ao,aj,aG,aE,am,.ej⟩ M en=(x,4,⟨cf,ag,av,ax,value,some e',ai,ah,ac,ap,set,aM,ao,aj,aG,aE,am,.bm⟩,M'):=by
    unfold gD;rw [hr];exact if_pos h
   rw [e]
   intro A F hw hS
   refine ab Tryz.func43 rfl (by kernel_rfl) fun _=>?_
   dsimp only [na,zo] at hS
   obtain⟨⟨bh,aY,az,aJ,aK,m,c0,c1,c2,bx,aw,aB,aV,bQ,bg,cE,aW,aU,aC,bA,bC,cP,bR⟩,hS⟩:=bI.open hS .z
   dsimp only [cg,fq,bW,da,ba.eo,na,zo] at hS
   have hS:=BS.op hS (.s .z)
   have hq:=ZN hS hw
   revert hq hS hw;clear hS;clear hS;refine Wp (J3 (Tg.mk (n:=10) @pG) (Tg.mk (n:=10) @pH) (dz az)) (J7 h @bJ.eq_1 @bJ.eq_2 @AW.aa @af.eq_1 @aS.eq_1 @bq.v.eq_1) (J1 ?_)<;>unhygienic intros
   refine⟨_,by simp [hq,AW.aa,af];rfl,by simp [bq.v],?_⟩
   apply bI.cC
   (·exact sA)
   (dsimp only [cg,fi,fq,bW,da,ba.eo,bJ,aT,aQ,dT,cY,dV,fC,cZ,cW,bV,dU,dR,fB,dS,na,zo])
   try simp only [h]
   (·first|exact pP|exact kP)
   (·first|exact pP|exact kP)
   all_goals(first|exact 0|exact undef)
 · by_cases h2:en.kc=e'.kc
   · have e:gD ⟨cf,ag,av,ax,value,some en,ai,ah,ac,ap,set,aM,ao,aj,aG,aE,am,.ej⟩ M en=(x,2,⟨cf,ag,av,ax,value,some e',ai,ah,ac,ap,set,aM,ao,aj,aG,aE,am,.ej⟩,M'):=by
      unfold gD;rw [hr];dsimp only;rw [if_neg h,if_neg (by simp [h2])]
     rw [e]
     intro A F hw hS
     refine ab Tryz.func43 rfl (by kernel_rfl) fun _=>?_
     dsimp only [na,zo] at hS
     obtain⟨⟨bh,aY,az,aJ,aK,m,c0,c1,c2,bx,aw,aB,aV,bQ,bg,cE,aW,aU,aC,bA,bC,cP,bR⟩,hS⟩:=bI.open hS .z
     dsimp only [cg,fq,bW,da,ba.eo,na,zo] at hS
     have hS:=BS.op hS (.s .z)
     have hq:=ZN hS hw
     revert hq hS hw;(repeat first|clear hq|clear hS|clear hw|revert hc|revert zn|revert zA|revert R|revert K);refine Wp (J3 (Tg.mk (n:=10) @pG) (Tg.mk (n:=10) @pH) (dz az)) (J8 h h2 @bJ.eq_1 @bJ.eq_2 @AW.aa @af.eq_1 @aS.eq_1 @bq.v.eq_1) (J1 ?_)<;>unhygienic intros
     refine⟨_,by simp [hq,AW.aa,af];rfl,by simp [bq.v],?_⟩
     apply bI.cC
     (·exact sA)
     (dsimp only [cg,fi,fq,bW,da,ba.eo,bJ,aT,aQ,dT,cY,dV,fC,cZ,cW,bV,dU,dR,fB,dS,na,zo])
     try simp only [h]
     (·first|exact pP|exact kP)
     (·first|exact pP|exact kP)
     all_goals(first|exact 0|exact undef)
   · have e:gD ⟨cf,ag,av,ax,value,some en,ai,ah,ac,ap,set,aM,ao,aj,aG,aE,am,.ej⟩ M en=(x,3,⟨cf,ag,av,ax,value,some e',ai,ah,ac,ap,set,aM,ao,aj,aG,aE,am,.ej⟩,M'):=by
      unfold gD;rw [hr];dsimp only;rw [if_neg h,if_pos h2]
     rw [e]
     intro A F hw hS
     refine ab Tryz.func43 rfl (by kernel_rfl) fun _=>?_
     dsimp only [na,zo] at hS
     obtain⟨⟨bh,aY,az,aJ,aK,m,c0,c1,c2,bx,aw,aB,aV,bQ,bg,cE,aW,aU,aC,bA,bC,cP,bR⟩,hS⟩:=bI.open hS .z
     dsimp only [cg,fq,bW,da,ba.eo,na,zo] at hS
     have hS:=BS.op hS (.s .z)
     have hq:=ZN hS hw
     revert hq hS hw;(repeat first|clear hq|clear hS|clear hw|revert hc|revert zn|revert zA|revert R|revert K);refine Wp (J3 (Tg.mk (n:=10) @pG) (Tg.mk (n:=10) @pH) (dz az)) (J8 h h2 @bJ.eq_1 @bJ.eq_2 @AW.aa @af.eq_1 @aS.eq_1 @bq.v.eq_1) (J1 ?_)<;>unhygienic intros
     refine⟨_,by simp [hq,AW.aa,af];rfl,by simp [bq.v],?_⟩
     apply bI.cC
     (·exact sA)
     (dsimp only [cg,fi,fq,bW,da,ba.eo,bJ,aT,aQ,dT,cY,dV,fC,cZ,cW,bV,dU,dR,fB,dS,na,zo])
     try simp only [h]
     (·first|exact pP|exact kP)
     (·first|exact pP|exact kP)
     all_goals(first|exact 0|exact undef)
theorem AQ (b pb:Nat) (s:aD) (p:kM) (M:Mm) (hd:s.aA=.eZ p) (hC:ep s) (JH:s.am<s.ac.length) :
 aP Tryz.prog 56 [pv b,pv pb] [.h (bI b s),eb pb M] (fun v=>v=.tuple #[(kv s M p).1.v,.int .i64 (kv s M p).2.1])
  (fun _=>[.h (bI b (kv s M p).2.2.1),eb pb (kv s M p).2.2.2]):=by
 obtain⟨cf,ag,av,ax,value,br,ai,ah,ac,ap,set,aM,ao,aj,aG,aE,am,aA⟩:=s
 dsimp only at hd
 subst hd
 dsimp only at JH
 have uZ:=hC.kN
 dsimp only at uZ
 obtain⟨x,p',M',hr⟩:∃x e' M',dE p M=(x,e',M'):=⟨_,_,_,rfl⟩
 have dz:=fun n=>Bp n pb p M
 rw [hr] at dz
 have VB:IntKind.i64.wrap ((am:Int)+1)=((am+1:Nat):Int):=ak (by omega) (by omega)
 by_cases h:p'.cj=3
 · have e:kv ⟨cf,ag,av,ax,value,br,ai,ah,ac,ap,set,aM,ao,aj,aG,aE,am,.eZ p⟩ M p=(x,gu x,gg ⟨cf,ag,av,ax,value,br,ai,ah,ac,ap,set,aM,ao,aj,aG,aE,am+1,.eZ p'⟩,M'):=by
    unfold kv;rw [hr];dsimp only;rw [if_pos h]
   rw [e]
   intro A F hw hS
   refine ab Tryz.func56 rfl (by kernel_rfl) fun _=>?_
   dsimp only [na,zo] at hS
   obtain⟨⟨bh,aY,az,aJ,aK,m,c0,c1,c2,bx,aw,aB,aV,bQ,bg,cE,aW,aU,aC,bA,bC,cP,bR⟩,hS⟩:=bI.open hS .z
   dsimp only [cg,fq,bW,da,ba.eo,na,zo] at hS
   have hq:=ZN hS hw
   revert hq hS hw;clear hS;refine Wp (J5 (Tg.mk (n:=10) @uu) (Tg.mk (n:=20) (se b ⟨cf,ag,av,ax,value,br,ai,ah,ac,ap,set,aM,ao,aj,aG,aE,am+1,.eZ p'⟩ 13 (.eZ p') hC.cf hC.al JH (Nat.lt_of_le_of_lt hC.kN (by decide)))) (Tg.mk (n:=19) (fun {A L k}=>tj (A:=A) (L:=L) (k:=k) (a:=x))) (od Iz) (dz m)) (J6 h VB @AW.aa @af.eq_1 @aS.eq_1 @bq.v.eq_1) (J1 ?_)<;>unhygienic intros
   refine⟨_,by simp [hq,AW.aa,af];rfl,by simp [bq.v],?_⟩
   apply an.cC
   (·exact sA)
   (·first|exact pP|exact kP)
 · have e:kv ⟨cf,ag,av,ax,value,br,ai,ah,ac,ap,set,aM,ao,aj,aG,aE,am,.eZ p⟩ M p=(x,gu x,⟨cf,ag,av,ax,value,br,ai,ah,ac,ap,set,aM,ao,aj,aG,aE,am,.eZ p'⟩,M'):=by
    unfold kv;rw [hr];dsimp only;rw [if_neg h]
   rw [e]
   intro A F hw hS
   refine ab Tryz.func56 rfl (by kernel_rfl) fun _=>?_
   dsimp only [na,zo] at hS
   obtain⟨⟨bh,aY,az,aJ,aK,m,c0,c1,c2,bx,aw,aB,aV,bQ,bg,cE,aW,aU,aC,bA,bC,cP,bR⟩,hS⟩:=bI.open hS .z
   dsimp only [cg,fq,bW,da,ba.eo,na,zo] at hS
   have hq:=ZN hS hw
   revert hq hS hw;(repeat first|clear hq|clear hS|clear hw|revert hc|revert zn|revert zA|revert R|revert K);refine Wp (J4 (Tg.mk (n:=10) @uu) (Tg.mk (n:=19) (fun {A L k}=>tj (A:=A) (L:=L) (k:=k) (a:=x))) (od Iz) (dz m)) (J6 h VB @AW.aa @af.eq_1 @aS.eq_1 @bq.v.eq_1) (J1 ?_)<;>unhygienic intros
   refine⟨_,by simp [hq,AW.aa,af];rfl,by simp [bq.v],?_⟩
   apply bI.cC
   (·exact sA)
   (dsimp only [cg,fi,fq,bW,da,ba.eo,bJ,aT,aQ,dT,cY,dV,fC,cZ,cW,bV,dU,dR,fB,dS,na,zo])
   try simp only [h]
   (·first|exact pP|exact kP)
   (·first|exact pP|exact kP)
   all_goals(first|exact 0|exact undef)
end
end Go.Stx
