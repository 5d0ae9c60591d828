/-
 The program's attempt: what its closures do.
-/
import Derived.Test.YtejgooipbmnioaaGreatDoorG12
set_option linter.unusedVariables false
set_option linter.unusedSimpArgs false
set_option linter.unusedSectionVars false
set_option maxRecDepth 20000
set_option maxHeartbeats 4000000
namespace Go.Stx
open Go Go.Proofs
attribute [local irreducible] TW cg eg bn aC aV cR df
section
open T9 T10
variable [Gl]
theorem ak.gR {A:AW} {L K:List It} {i:Nat} {o:dK} (h:ak A L) (hp:ap L (.at i o) K):A.bR i=some o:=by
 unfold ak at h
 rw [hp.aR] at h
 exact bz.bR h
set_option maxRecDepth 20000 in
set_option maxHeartbeats 1000000 in
theorem mz (b c:Nat) (s:aT) (v:Int) (hd:s.aG=.bK) :
 aY Tryz.prog 173 [.int .u64 v,pv c] [.h (bf b s),.at c (bh (pv b))] (fun _=>True) (fun _=>[.h (bf b { s with value:=v })]):=by
 obtain⟨cf,am,aA,ay,value,bL,aj,reads,ai,av,set,bp,ax,an,aI,aH,ao,aG⟩:=s
 dsimp only at hd
 subst hd
 intro A F hw hS
 refine ab Tryz.func173 rfl (by kernel_rfl) fun _=>?_
 dsimp only [af,ag] at hS
 obtain⟨⟨bD,bJ,aJ,aX,aW,m,c0,c1,c2,aZ,aE,aL,aN,bk,aS,bP,aO,aM,aB,bc,bd,bZ,bl⟩,hS⟩:=bf.open hS .z
 dsimp only [bx,ei,br,b8,aU.dT,af,ag] at hS
 have hq:=dZ hS hw
 revert hq hS hw;clear hS;refine Wp trivial (J2 @AW.aa @ah.eq_1) (J1 ?_)<;>unhygienic intros
 refine⟨_,by first|rfl|(simp;rfl),trivial,?_⟩
 apply bf.bS
 (·exact sA)
 (dsimp only [bx,eP,ei,br,b8,aU.dT,ed,cF,cy,dk,cp,dm,eV,cq,cm,bt,dl,dh,eU,di,af,ag])
 try simp only [h]
 (·first|exact pP|exact kP)
 (·first|exact pP|exact kP)
 all_goals(first|exact 0|exact undef)
set_option maxRecDepth 20000 in
theorem oz (b c c':Nat) (s:aT) (k v:Int) (hd:s.aG=.bK) (hC:fA s) (hk:0≤k∧k<s.cf.nb) :
 aY Tryz.prog 269 [.int .u64 v,pv c,pv c'] [.h (bf b s),.at c (bh (pv b)),.at c' (bh (.int .i64 k))] (fun _=>True) (fun _=>[.h (bf b (jK s k v))]):=by
 intro A F hw hS
 refine ab Tryz.func269 rfl (by kernel_rfl) fun _=>?_
 dsimp only [af,ag] at hS
 have hq:=eD hS hw
 revert hq hS hw;refine Wp (J1 (y7 b s k v hd hC hk)) (J2 @AW.aa @ah.eq_1) (J1 ?_)<;>unhygienic intros
 refine⟨_,by first|rfl|(simp;rfl),trivial,?_⟩
 apply ak.bS
 (·exact sA)
 (·first|exact pP|exact kP)
set_option maxRecDepth 20000 in
theorem BY (b c:Nat) (s:aT) (hd:s.aG=.bK) (hC:fA s) :
 aY Tryz.prog 172 [pv c] [.h (bf b s),.at c (bh (pv b))] (fun _=>True) (fun _=>[.h (bf b (nk s 7))]):=by
 intro A F hw hS
 refine ab Tryz.func172 rfl (by kernel_rfl) fun _=>?_
 dsimp only [af,ag] at hS
 have hq:=eD hS hw
 revert hq hS hw;refine Wp (J1 (rj b s 7 hd hC)) (J2 @AW.aa @ah.eq_1) (J1 ?_)<;>unhygienic intros
 refine⟨_,by first|rfl|(simp;rfl),trivial,?_⟩
 apply ak.bS
 (·exact sA)
 (·first|exact pP|exact kP)
set_option maxRecDepth 20000 in
theorem B5 (b c:Nat) (s:aT) (hd:s.aG=.bK) (hC:fA s) :
 aY Tryz.prog 266 [pv c] [.h (bf b s),.at c (bh (pv b))] (fun _=>True) (fun _=>[.h (bf b (nk s 8))]):=by
 intro A F hw hS
 refine ab Tryz.func266 rfl (by kernel_rfl) fun _=>?_
 dsimp only [af,ag] at hS
 have hq:=eD hS hw
 revert hq hS hw;refine Wp (J1 (rj b s 8 hd hC)) (J2 @AW.aa @ah.eq_1) (J1 ?_)<;>unhygienic intros
 refine⟨_,by first|rfl|(simp;rfl),trivial,?_⟩
 apply ak.bS
 (·exact sA)
 (·first|exact pP|exact kP)
set_option maxRecDepth 20000 in
theorem BZ (b c c':Nat) (s:aT) (ay:Int) (hd:s.aG=.bK) (hC:fA s) :
 aY Tryz.prog 169 [pv c,pv c'] [.h (bf b s),.at c (bh (pv b)),.at c' (bh (.int .i64 ay))] (fun _=>True) (fun _=>[.h (bf b (nk s ay))]):=by
 intro A F hw hS
 refine ab Tryz.func169 rfl (by kernel_rfl) fun _=>?_
 dsimp only [af,ag] at hS
 have hq:=eD hS hw
 revert hq hS hw;refine Wp (J1 (rj b s ay hd hC)) (J2 @AW.aa @ah.eq_1) (J1 ?_)<;>unhygienic intros
 refine⟨_,by first|rfl|(simp;rfl),trivial,?_⟩
 apply ak.bS
 (·exact sA)
 (·first|exact pP|exact kP)
set_option maxRecDepth 20000 in
theorem zY (b c:Nat) (s:aT) (hd:s.aG=.bK) (hC:fA s) :
 aY Tryz.prog 261 [pv c] [.h (bf b s),.at c (bh (pv b))] (fun _=>True) (fun _=>[.h (bf b (iY s 3))]):=by
 have hu:aY Tryz.prog 218 [pv b,.int .i64 3] [.h (bf b s)] (fun _=>True) (fun _=>[.h (bf b (iY s 3))]):=fun A F hw hS=>
  (gT b s s.aG.dT 3 s.aG hC.cf hC.al hC.push (Nat.lt_of_le_of_lt hC.kT (by decide))) A F hw (bf.Ms hS .z)
 intro A F hw hS
 refine ab Tryz.func261 rfl (by kernel_rfl) fun _=>?_
 dsimp only [af,ag] at hS
 have hq:=eD hS hw
 revert hq hS hw;refine Wp (J1 @hu) (J2 @AW.aa @ah.eq_1) (J1 ?_)<;>unhygienic intros
 refine⟨_,by first|rfl|(simp;rfl),trivial,?_⟩
 apply ak.bS
 (·exact sA)
 (·first|exact pP|exact kP)
set_option maxRecDepth 20000 in
theorem xX (b c c' c2:Nat) (s:aT) (k v:Int) (hd:s.aG=.bK) (hC:fA s) (hk:0≤k∧k<s.cf.nb) :
 aY Tryz.prog 267 [pv c,pv c',pv c2] [.h (bf b s),.at c (bh (pv b)),.at c' (bh (.int .i64 k)),.at c2 (bh (.int .u64 v))] (fun _=>True) (fun _=>[.h (bf b (jK s k v))]):=by
 intro A F hw hS
 refine ab Tryz.func267 rfl (by kernel_rfl) fun _=>?_
 dsimp only [af,ag] at hS
 have hq:=eD hS hw
 revert hq hS hw;refine Wp (J1 (y7 b s k v hd hC hk)) (J2 @AW.aa @ah.eq_1) (J1 ?_)<;>unhygienic intros
 refine⟨_,by first|rfl|(simp;rfl),trivial,?_⟩
 apply ak.bS
 (·exact sA)
 (·first|exact pP|exact kP)
set_option maxRecDepth 20000 in
theorem zX (b c c' c2:Nat) (s:aT) (v:Int) (hd:s.aG=.bK) :
 aY Tryz.prog 175 [pv c,pv c'] [.h (bf b s),.at c (bh (.func (.func 173) #[] #[pv c2])),.at c' (bh (.int .u64 v)),.at c2 (bh (pv b))] (fun _=>True) (fun _=>[.h (bf b { s with value:=v })]):=by
 intro A F hw hS
 refine ab Tryz.func175 rfl (by kernel_rfl) fun _=>?_
 dsimp only [af,ag] at hS
 have hq:=eD hS hw
 revert hq hS hw;refine Wp (J1 (mz b c2 s v hd)) (J2 @AW.aa @ah.eq_1) (J1 ?_)<;>unhygienic intros
 refine⟨_,by first|rfl|(simp;rfl),trivial,?_⟩
 apply ak.bS
 (·exact sA)
 (·first|exact pP|exact kP)
set_option maxRecDepth 20000 in
set_option maxHeartbeats 1000000 in
theorem xW (b c c' c2:Nat) (s:aT) (a v:Int) (hd:s.aG=.bK) (hC:fA s) (ha:0≤a) :
 aY Tryz.prog 178 [pv c,pv c',pv c2] [.h (bf b s),.at c (bh (pv b)),.at c' (bh (.int .u64 a)),.at c2 (bh (.int .u64 v))] (fun _=>True) (fun _=>[.h (bf b (rU s (.k4 a v)))]):=by
 have JN:=hC.cf.aQ
 have ho:∀A',A'.Wf→ak A' [.h (bf b s)]→eF 171 [pv b,.int .u64 a] A' (.bool (decide (s.cf.aQ≤a))):=fun A' h1 h2=>mB b s s.aG.dT a s.aG hC.cf A' h1 (bf.Ms h2 .z)
 by_cases h:s.cf.aQ≤a
 · have e:rU s (.k4 a v)=nk s 7:=if_pos h
   rw [e]
   intro A F hw hS
   refine ab Tryz.func178 rfl (by kernel_rfl) fun _=>?_
   dsimp only [af,ag] at hS
   have hq:=eD hS hw
   revert hq hS hw;refine Wp (J2 (Tg.mk (n:=10) (fun {A L K k}=>ej (A:=A) (L:=L) (K:=K) (k:=k) ho)) (rj b s 7 hd hC)) (J3 h @AW.aa @ah.eq_1) (J1 ?_)<;>unhygienic intros
   refine⟨_,by first|rfl|(simp;rfl),trivial,?_⟩
   apply ak.bS
   (·exact sA)
   (·first|exact pP|exact kP)
 · have e:rU s (.k4 a v)=(jj s a v).2:=if_neg h
   rw [e]
   have PB:IntKind.i64.wrap a=a:=aw (by omega) (by omega)
   intro A F hw hS
   refine ab Tryz.func178 rfl (by kernel_rfl) fun _=>?_
   dsimp only [af,ag] at hS
   have hq:=eD hS hw
   revert hq hS hw;(repeat first|clear hq|clear hS|clear hw|revert hc|revert zn|revert zA|revert R|revert K);refine Wp (J2 (Tg.mk (n:=10) (fun {A L K k}=>ej (A:=A) (L:=L) (K:=K) (k:=k) ho)) (qS b s a v hd hC ha)) (J4 h PB @AW.aa @ah.eq_1) (J1 ?_)<;>unhygienic intros
   refine⟨_,by first|rfl|(simp;rfl),trivial,?_⟩
   apply ak.bS
   (·exact sA)
   (·first|exact pP|exact kP)
set_option maxRecDepth 20000 in
theorem xY (b m c c':Nat) (s:aT) (p:oO) (hC:fA { s with aG:=.bK }) (rX:s.ai.length<8) (hp:p.block<s.cf.nb) (i8:0≤p.d5∧p.d5≤3) :
 aY Tryz.prog 263 [pv c,pv c'] [.h (JF b { s with aG:=.bK } 0 p),.at c (bh (pv b)),.at c' (bh (.int .i64 p.d5))] (fun _=>True) (fun _=>[.h (bf b (fU { s with aG:=.bK } p.d5 p.block))]):=by
 intro A F hw hS
 refine ab Tryz.func263 rfl (by kernel_rfl) fun _=>?_
 dsimp only [af,ag] at hS
 have hq:=eD hS hw
 revert hq hS hw;refine Wp (J1 (zF b s p hC rX hp i8)) (J2 @AW.aa @ah.eq_1) (J1 ?_)<;>unhygienic intros
 refine⟨_,by first|rfl|(simp;rfl),trivial,?_⟩
 apply ak.bS
 (·exact sA)
 (·first|exact pP|exact kP)
end
section
abbrev HW:List (Nat×Nat):=[(0,0),(1,0),(2,2),(3,3),(4,0)]
open T14 T10
variable [Gl]
theorem Gs (b pb:Nat) (s:gy) (M:Mm) (bW:s.eo.length≤s.an.length) (Ng:s.an.length<2^38) :
 aY Tryz.prog 226 [pv b,pv pb] [.h (fW b s),dx pb M] (fun v=>v=(eC s M).1.v) (fun _=>[.h (fW b (eC s M).2.1),dx pb (eC s M).2.2]):=
 aY.m8 (Av b pb s M bW Ng) (by show fW b s*(dS pb M*eG)=_;rw [dg]) (fun v=>by show _=zQ _*(fW b _*(dS pb _*eG));rw [dg])
theorem IL (b pb:Nat) (s:iQ) (M:Mm) (bW:s.os.length=s.ws.length) :
 aY Tryz.prog 246 [pv b,pv pb] [.h (gg b s),dx pb M] (fun v=>v=(jz s M).1.v) (fun _=>[.h (gg b (jz s M).2.1),dx pb (jz s M).2.2]):=
 aY.m8 (Cw b pb s M bW) (by show gg b s*(dS pb M*eG)=_;rw [dg]) (fun v=>by show _=zQ _*(gg b _*(dS pb _*eG));rw [dg])
theorem Kb (b pb:Nat) (s:iQ) (M:Mm) (bW:s.os.length=s.ws.length) :
 aY Tryz.prog 241 [pv b,pv pb] [.h (gg b s),dx pb M] (fun v=>v=(lf s M).1.v) (fun _=>[.h (gg b (lf s M).2.1),dx pb (lf s M).2.2]):=
 aY.m8 (DT b pb s M bW) (by show gg b s*(dS pb M*eG)=_;rw [dg]) (fun v=>by show _=zQ _*(gg b _*(dS pb _*eG));rw [dg])
section
variable {A:AW} {L K:List It} {k:Value→AW→Prop} {n:Nat}
theorem yn {P:HP} (hS:ak A L) (hp:ap L (.h P) K):bz A (P*aR K):=by
 unfold ak at hS
 rw [hp.aR] at hS
 exact hS
theorem mE {s:gy} (hw:A.Wf) (hS:ak A L) (hp:ap L (.h (fW n s)) K) (hk:k (.bool s.done) A):aC Tryz.prog 227 [pv n] A k:=by
 refine bT (lF n s A _ (yn hS hp)) ?_
 rintro _ _ ⟨rfl,rfl⟩ _ _
 exact hk
theorem qR {s:iQ} (hw:A.Wf) (hS:ak A L) (hp:ap L (.h (gg n s)) K) (hk:k (.bool s.done) A):aC Tryz.prog 247 [pv n] A k:=by
 refine bT (pK n s A _ (yn hS hp)) ?_
 rintro _ _ ⟨rfl,rfl⟩ _ _
 exact hk
theorem xP {s:iQ} (hw:A.Wf) (hS:ak A L) (hp:ap L (.h (gg n s)) K) (hk:k (.bool s.done) A):aC Tryz.prog 242 [pv n] A k:=by
 refine bT (qK n s A _ (yn hS hp)) ?_
 rintro _ _ ⟨rfl,rfl⟩ _ _
 exact hk
theorem iW {s:gl} (hw:A.Wf) (hS:ak A L) (hp:ap L (.h (io n s)) K) (hk:k (.bool s.done) A):aC Tryz.prog 234 [pv n] A k:=by
 obtain⟨v,h0⟩:=io.open hS hp
 obtain⟨o,c,rfl,_⟩:=(ak.nH h0 (.s .z)).dJ
 refine bT (nq n o _ c s.rv s.ik A (h0.g 0 rfl)) ?_
 rintro _ _ ⟨rfl,rfl⟩ _ _
 exact hk
theorem vN (b:Nat) (v:Value) (rv:Int) (f:Bool) (A:AW) (hg:A.bR b=some (.cells [v,.int .i64 rv,.bool f] true 1)):eF 236 [pv b] A (.bool f):=by
 refine ab Tryz.func236 rfl (by kernel_rfl) fun _=>?_
 refine Wp trivial (J2 hg @AW.aa) (J1 ?_)<;>unhygienic intros
 exact⟨_,rfl,rfl,rfl⟩
theorem mi {s:gl} (hw:A.Wf) (hS:ak A L) (hp:ap L (.h (io n s)) K) (hk:k (.bool s.ik) A):aC Tryz.prog 236 [pv n] A k:=by
 obtain⟨v,h0⟩:=io.open hS hp
 refine bT (vN n v s.rv s.ik A (h0.g 0 rfl)) ?_
 rintro _ _ ⟨rfl,rfl⟩ _ _
 exact hk
theorem oI {s:gH} (hw:A.Wf) (hS:ak A L) (hp:ap L (.at n (fJ s)) K) (hk:k (.int .i64 s.Cn) A):aC Tryz.prog 212 [pv n] A k:=by
 refine bT (rh n s A (ak.gR hS hp)) ?_
 rintro _ _ ⟨rfl,rfl⟩ _ _
 exact hk
theorem oJ {s:gH} (hw:A.Wf) (hS:ak A L) (hp:ap L (.at n (fJ s)) K) (hk:k (.bool (decide (s.bX=3))) A):aC Tryz.prog 214 [pv n] A k:=by
 refine bT (ze n s A (ak.gR hS hp)) ?_
 rintro _ _ ⟨rfl,rfl⟩ _ _
 exact hk
theorem wx {s:oO} (hw:A.Wf) (hS:ak A L) (hp:ap L (.at n (kY s)) K) (hk:k (.bool (decide (s.bX=3))) A):aC Tryz.prog 224 [pv n] A k:=by
 refine bT (Cy n s A (ak.gR hS hp)) ?_
 rintro _ _ ⟨rfl,rfl⟩ _ _
 exact hk
theorem tO {s:fm} (hw:A.Wf) (hS:ak A L) (hp:ap L (.at n (fN s)) K) (hk:k (.bool (decide (s.bX=3))) A):aC Tryz.prog 146 [pv n] A k:=by
 refine bT (sl n s A (ak.gR hS hp)) ?_
 rintro _ _ ⟨rfl,rfl⟩ _ _
 exact hk
theorem jy {s:ju} (hw:A.Wf) (hS:ak A L) (hp:ap L (.at n (iu s)) K) (hk:k (.bool s.done) A):aC Tryz.prog 230 [pv n] A k:=by
 refine bT (zW n s A (ak.gR hS hp)) ?_
 rintro _ _ ⟨rfl,rfl⟩ _ _
 exact hk
theorem xU {s:ju} (hw:A.Wf) (hS:ak A L) (hp:ap L (.at n (iu s)) K) (hk:k (.int .i64 s.dT) A):aC Tryz.prog 158 [pv n] A k:=by
 refine bT (w9 n s A (ak.gR hS hp)) ?_
 rintro _ _ ⟨rfl,rfl⟩ _ _
 exact hk
theorem d7 {s:gN} (hw:A.Wf) (hS:ak A L) (hp:ap L (.at n (gm s)) K) (hk:k (.bool s.done) A):aC Tryz.prog 216 [pv n] A k:=by
 refine bT (sh n s A (ak.gR hS hp)) ?_
 rintro _ _ ⟨rfl,rfl⟩ _ _
 exact hk
theorem ds {s:gN} (hw:A.Wf) (hS:ak A L) (hp:ap L (.at n (gm s)) K) (hk:k (.bool s.gb) A):aC Tryz.prog 217 [pv n] A k:=by
 refine bT (tL n s A (ak.gR hS hp)) ?_
 rintro _ _ ⟨rfl,rfl⟩ _ _
 exact hk
theorem iS {s:gN} (hw:A.Wf) (hS:ak A L) (hp:ap L (.at n (gm s)) K) (hk:k (.int .u64 s.val) A):aC Tryz.prog 222 [pv n] A k:=by
 refine bT (yw n s A (ak.gR hS hp)) ?_
 rintro _ _ ⟨rfl,rfl⟩ _ _
 exact hk
theorem tR {a:ba} (hw:A.Wf) (hS:ak A L) (hk:∀(u:Unit) A',ak A' L→A'.Wf→A.le A'→k (.int .i64 (mO a)) A'):aC Tryz.prog 225 [a.v] A k:=by
 refine bT (Ej a A hw) ?_
 rintro _ A' ⟨rfl,h1⟩ km _
 exact hk () A' (hS.le hw h1) km h1
theorem sr {a:ba} (hw:A.Wf) (hS:ak A L) (hk:∀(u:Unit) A',ak A' L→A'.Wf→A.le A'→k (.int .i64 (gF a)) A'):aC Tryz.prog 102 [a.v] A k:=by
 refine bT (Cz a A hw) ?_
 rintro _ A' ⟨rfl,h1⟩ km _
 exact hk () A' (hS.le hw h1) km h1
end
set_option maxRecDepth 20000 in
set_option maxHeartbeats 4000000 in
theorem yg (b pb:Nat) (s:aT) (en:gH) (M:Mm) (hd:s.aG=.eN) (he:s.bL=some en) :
 aY Tryz.prog 147 [pv b,pv pb] [.h (bf b s),dx pb M] (fun v=>v=.tuple #[(hW s M en).1.v,.int .i64 (hW s M en).2.1])
  (fun _=>[.h (bf b (hW s M en).2.2.1),dx pb (hW s M en).2.2.2]):=by
 obtain⟨cf,am,aA,ay,value,bL,aj,reads,ai,av,set,bp,ax,an,aI,aH,ao,aG⟩:=s
 dsimp only at hd
 subst hd
 dsimp only at he
 subst he
 obtain⟨x,e',M',hr⟩:∃x e' M',gj en M=(x,e',M'):=⟨_,_,_,rfl⟩
 have cL:=fun n=>zd n pb en M
 rw [hr] at cL
 by_cases h:e'.bX=3
 · have e:hW ⟨cf,am,aA,ay,value,some en,aj,reads,ai,av,set,bp,ax,an,aI,aH,ao,.eN⟩ M en=(x,4,⟨cf,am,aA,ay,value,some e',aj,reads,ai,av,set,bp,ax,an,aI,aH,ao,.bK⟩,M'):=by
    unfold hW;rw [hr];exact if_pos h
   rw [e]
   intro A F hw hS
   refine ab Tryz.func147 rfl (by kernel_rfl) fun _=>?_
   dsimp only [af,ag] at hS
   obtain⟨⟨bD,bJ,aJ,aX,aW,m,c0,c1,c2,aZ,aE,aL,aN,bk,aS,bP,aO,aM,aB,bc,bd,bZ,bl⟩,hS⟩:=bf.open hS .z
   dsimp only [bx,ei,br,b8,aU.dT,af,ag] at hS
   have hS:=Fw.op hS (.s .z)
   have hq:=dZ hS hw
   revert hq hS hw;clear hS;clear hS;refine Wp (J3 (Tg.mk (n:=10) @oI) (Tg.mk (n:=10) @oJ) (cL aJ)) (J7 h @ed.eq_1 @ed.eq_2 @AW.aa @ah.eq_1 @bj.eq_1 @ba.v.eq_1) (J1 ?_)<;>unhygienic intros
   refine⟨_,by simp [hq,AW.aa,ah];rfl,by simp [ba.v],?_⟩
   apply bf.bS
   (·exact sA)
   (dsimp only [bx,eP,ei,br,b8,aU.dT,ed,cF,cy,dk,cp,dm,eV,cq,cm,bt,dl,dh,eU,di,af,ag])
   try simp only [h]
   (·first|exact pP|exact kP)
   (·first|exact pP|exact kP)
   all_goals(first|exact 0|exact undef)
 · by_cases h2:en.Cn=e'.Cn
   · have e:hW ⟨cf,am,aA,ay,value,some en,aj,reads,ai,av,set,bp,ax,an,aI,aH,ao,.eN⟩ M en=(x,2,⟨cf,am,aA,ay,value,some e',aj,reads,ai,av,set,bp,ax,an,aI,aH,ao,.eN⟩,M'):=by
      unfold hW;rw [hr];dsimp only;rw [if_neg h,if_neg (by simp [h2])]
     rw [e]
     intro A F hw hS
     refine ab Tryz.func147 rfl (by kernel_rfl) fun _=>?_
     dsimp only [af,ag] at hS
     obtain⟨⟨bD,bJ,aJ,aX,aW,m,c0,c1,c2,aZ,aE,aL,aN,bk,aS,bP,aO,aM,aB,bc,bd,bZ,bl⟩,hS⟩:=bf.open hS .z
     dsimp only [bx,ei,br,b8,aU.dT,af,ag] at hS
     have hS:=Fw.op hS (.s .z)
     have hq:=dZ hS hw
     revert hq hS hw;(repeat first|clear hq|clear hS|clear hw|revert hc|revert zn|revert zA|revert R|revert K);refine Wp (J3 (Tg.mk (n:=10) @oI) (Tg.mk (n:=10) @oJ) (cL aJ)) (J8 h h2 @ed.eq_1 @ed.eq_2 @AW.aa @ah.eq_1 @bj.eq_1 @ba.v.eq_1) (J1 ?_)<;>unhygienic intros
     refine⟨_,by simp [hq,AW.aa,ah];rfl,by simp [ba.v],?_⟩
     apply bf.bS
     (·exact sA)
     (dsimp only [bx,eP,ei,br,b8,aU.dT,ed,cF,cy,dk,cp,dm,eV,cq,cm,bt,dl,dh,eU,di,af,ag])
     try simp only [h]
     (·first|exact pP|exact kP)
     (·first|exact pP|exact kP)
     all_goals(first|exact 0|exact undef)
   · have e:hW ⟨cf,am,aA,ay,value,some en,aj,reads,ai,av,set,bp,ax,an,aI,aH,ao,.eN⟩ M en=(x,3,⟨cf,am,aA,ay,value,some e',aj,reads,ai,av,set,bp,ax,an,aI,aH,ao,.eN⟩,M'):=by
      unfold hW;rw [hr];dsimp only;rw [if_neg h,if_pos h2]
     rw [e]
     intro A F hw hS
     refine ab Tryz.func147 rfl (by kernel_rfl) fun _=>?_
     dsimp only [af,ag] at hS
     obtain⟨⟨bD,bJ,aJ,aX,aW,m,c0,c1,c2,aZ,aE,aL,aN,bk,aS,bP,aO,aM,aB,bc,bd,bZ,bl⟩,hS⟩:=bf.open hS .z
     dsimp only [bx,ei,br,b8,aU.dT,af,ag] at hS
     have hS:=Fw.op hS (.s .z)
     have hq:=dZ hS hw
     revert hq hS hw;(repeat first|clear hq|clear hS|clear hw|revert hc|revert zn|revert zA|revert R|revert K);refine Wp (J3 (Tg.mk (n:=10) @oI) (Tg.mk (n:=10) @oJ) (cL aJ)) (J8 h h2 @ed.eq_1 @ed.eq_2 @AW.aa @ah.eq_1 @bj.eq_1 @ba.v.eq_1) (J1 ?_)<;>unhygienic intros
     refine⟨_,by simp [hq,AW.aa,ah];rfl,by simp [ba.v],?_⟩
     apply bf.bS
     (·exact sA)
     (dsimp only [bx,eP,ei,br,b8,aU.dT,ed,cF,cy,dk,cp,dm,eV,cq,cm,bt,dl,dh,eU,di,af,ag])
     try simp only [h]
     (·first|exact pP|exact kP)
     (·first|exact pP|exact kP)
     all_goals(first|exact 0|exact undef)
set_option maxRecDepth 20000 in
set_option maxHeartbeats 4000000 in
theorem Ai (b pb:Nat) (s:aT) (p:fm) (M:Mm) (hd:s.aG=.eK p) (hC:fA s) (W3:s.ao<s.ai.length) :
 aY Tryz.prog 160 [pv b,pv pb] [.h (bf b s),dx pb M] (fun v=>v=.tuple #[(iJ s M p).1.v,.int .i64 (iJ s M p).2.1])
  (fun _=>[.h (bf b (iJ s M p).2.2.1),dx pb (iJ s M p).2.2.2]):=by
 obtain⟨cf,am,aA,ay,value,bL,aj,reads,ai,av,set,bp,ax,an,aI,aH,ao,aG⟩:=s
 dsimp only at hd
 subst hd
 dsimp only at W3
 have rX:=hC.kT
 dsimp only at rX
 obtain⟨x,p',M',hr⟩:∃x e' M',dP p M=(x,e',M'):=⟨_,_,_,rfl⟩
 have cL:=fun n=>oB n pb p M
 rw [hr] at cL
 have H3:IntKind.i64.wrap ((ao:Int)+1)=((ao+1:Nat):Int):=aw (by omega) (by omega)
 by_cases h:p'.bX=3
 · have e:iJ ⟨cf,am,aA,ay,value,bL,aj,reads,ai,av,set,bp,ax,an,aI,aH,ao,.eK p⟩ M p=(x,gF x,gJ ⟨cf,am,aA,ay,value,bL,aj,reads,ai,av,set,bp,ax,an,aI,aH,ao+1,.eK p'⟩,M'):=by
    unfold iJ;rw [hr];dsimp only;rw [if_pos h]
   rw [e]
   intro A F hw hS
   refine ab Tryz.func160 rfl (by kernel_rfl) fun _=>?_
   dsimp only [af,ag] at hS
   obtain⟨⟨bD,bJ,aJ,aX,aW,m,c0,c1,c2,aZ,aE,aL,aN,bk,aS,bP,aO,aM,aB,bc,bd,bZ,bl⟩,hS⟩:=bf.open hS .z
   dsimp only [bx,ei,br,b8,aU.dT,af,ag] at hS
   have hq:=dZ hS hw
   revert hq hS hw;clear hS;refine Wp (J5 (Tg.mk (n:=10) @tO) (Tg.mk (n:=20) (q8 b ⟨cf,am,aA,ay,value,bL,aj,reads,ai,av,set,bp,ax,an,aI,aH,ao+1,.eK p'⟩ 13 (.eK p') hC.cf hC.al W3 (Nat.lt_of_le_of_lt hC.kT (by decide)))) (Tg.mk (n:=19) (fun {A L k}=>sr (A:=A) (L:=L) (k:=k) (a:=x))) (od HW) (cL m)) (J6 h H3 @AW.aa @ah.eq_1 @bj.eq_1 @ba.v.eq_1) (J1 ?_)<;>unhygienic intros
   refine⟨_,by simp [hq,AW.aa,ah];rfl,by simp [ba.v],?_⟩
   apply ak.bS
   (·exact sA)
   (·first|exact pP|exact kP)
 · have e:iJ ⟨cf,am,aA,ay,value,bL,aj,reads,ai,av,set,bp,ax,an,aI,aH,ao,.eK p⟩ M p=(x,gF x,⟨cf,am,aA,ay,value,bL,aj,reads,ai,av,set,bp,ax,an,aI,aH,ao,.eK p'⟩,M'):=by
    unfold iJ;rw [hr];dsimp only;rw [if_neg h]
   rw [e]
   intro A F hw hS
   refine ab Tryz.func160 rfl (by kernel_rfl) fun _=>?_
   dsimp only [af,ag] at hS
   obtain⟨⟨bD,bJ,aJ,aX,aW,m,c0,c1,c2,aZ,aE,aL,aN,bk,aS,bP,aO,aM,aB,bc,bd,bZ,bl⟩,hS⟩:=bf.open hS .z
   dsimp only [bx,ei,br,b8,aU.dT,af,ag] at hS
   have hq:=dZ hS hw
   revert hq hS hw;(repeat first|clear hq|clear hS|clear hw|revert hc|revert zn|revert zA|revert R|revert K);refine Wp (J4 (Tg.mk (n:=10) @tO) (Tg.mk (n:=19) (fun {A L k}=>sr (A:=A) (L:=L) (k:=k) (a:=x))) (od HW) (cL m)) (J6 h H3 @AW.aa @ah.eq_1 @bj.eq_1 @ba.v.eq_1) (J1 ?_)<;>unhygienic intros
   refine⟨_,by simp [hq,AW.aa,ah];rfl,by simp [ba.v],?_⟩
   apply bf.bS
   (·exact sA)
   (dsimp only [bx,eP,ei,br,b8,aU.dT,ed,cF,cy,dk,cp,dm,eV,cq,cm,bt,dl,dh,eU,di,af,ag])
   try simp only [h]
   (·first|exact pP|exact kP)
   (·first|exact pP|exact kP)
   all_goals(first|exact 0|exact undef)
end
end Go.Stx
