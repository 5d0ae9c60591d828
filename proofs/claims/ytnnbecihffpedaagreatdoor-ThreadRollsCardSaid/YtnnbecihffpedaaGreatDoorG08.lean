/-
 The program's attempt: what its closures do.
-/
import Derived.Test.YtnnbecihffpedaaGreatDoorG07
set_option linter.unusedVariables false
set_option linter.unusedSimpArgs false
set_option linter.unusedSectionVars false
set_option maxRecDepth 20000
set_option maxHeartbeats 4000000
namespace Go.Stx
open Go Go.Proofs
attribute [local irreducible] TW bC cB aW az aG bZ cz
section
open T12 T13
variable [Gl]
theorem ah.gR {A:AW} {L K:List It} {i:Nat} {o:dG} (h:ah A L) (hp:aB L (.at i o) K):A.bt i=some o:=by
 unfold ah at h;rw [hp.aL] at h;exact bn.bt h
theorem nF (b c:Nat) (s:aF) (v:Int) (hd:s.aC=.bq) :
 bf Tryz.prog 135 [.int .u64 v,pv c] [.h (aX b s),.at c (aY (pv b))] (λ_=>True) (λ_=>[.h (aX b { s with value:=v })]):=by
 (unhygienic cases s);dsimp only at hd;subst hd;intro A F hw hS;refine aH Tryz.func135 λ_=>?_;dsimp only [aa,af] at hS;obtain⟨x0,hS⟩:=aX.open hS .z;(unhygienic cases x0);dsimp only [bW,gH,b9,dZ,bm.fA,aa,af] at hS;have hq:=ed hS hw;revert hq hS hw;clear hS;refine Wp cy (J1 bF) ?_<;>(unhygienic intros);refine⟨_,by first|rfl|(simp;rfl),trivial,?_⟩;apply aX.bI
 (·exact sA)
 exact fP
 (·first|exact pP|exact kP)
 all_goals(first|exact 0|exact undef)
theorem pM (b c c':Nat) (s:aF) (k v:Int) (hd:s.aC=.bq) (hC:fN s) (hk:0<=k/\k<s.cf.nb) :
 bf Tryz.prog 231 [.int .u64 v,pv c,pv c'] [.h (aX b s),.at c (aY (pv b)),.at c' (aY (.int .i64 k))] (λ_=>True) (λ_=>[.h (aX b (jG s k v))]):=by
 intro A F hw hS;refine aH Tryz.func231 λ_=>?_;dsimp only [aa,af] at hS;have hq:=eO hS hw;revert hq hS hw;refine Wp (J1 (Ch b s k v hd hC hk)) (J1 bF) ?_<;>(unhygienic intros);refine⟨_,by first|rfl|(simp;rfl),trivial,?_⟩;apply ah.bI
 (·exact sA)
 (·first|exact pP|exact kP)
theorem E8 (b c:Nat) (s:aF) (hd:s.aC=.bq) (hC:fN s) :
 bf Tryz.prog 134 [pv c] [.h (aX b s),.at c (aY (pv b))] (λ_=>True) (λ_=>[.h (aX b (lZ s 7))]):=by
 intro A F hw hS;refine aH Tryz.func134 λ_=>?_;dsimp only [aa,af] at hS;have hq:=eO hS hw;revert hq hS hw;refine Wp (J1 (tT b s 7 hd hC)) (J1 bF) ?_<;>(unhygienic intros);refine⟨_,by first|rfl|(simp;rfl),trivial,?_⟩;apply ah.bI
 (·exact sA)
 (·first|exact pP|exact kP)
theorem Fa (b c:Nat) (s:aF) (hd:s.aC=.bq) (hC:fN s) :
 bf Tryz.prog 228 [pv c] [.h (aX b s),.at c (aY (pv b))] (λ_=>True) (λ_=>[.h (aX b (lZ s 8))]):=by
 intro A F hw hS;refine aH Tryz.func228 λ_=>?_;dsimp only [aa,af] at hS;have hq:=eO hS hw;revert hq hS hw;refine Wp (J1 (tT b s 8 hd hC)) (J1 bF) ?_<;>(unhygienic intros);refine⟨_,by first|rfl|(simp;rfl),trivial,?_⟩;apply ah.bI
 (·exact sA)
 (·first|exact pP|exact kP)
theorem E9 (b c c':Nat) (s:aF) (av:Int) (hd:s.aC=.bq) (hC:fN s) :
 bf Tryz.prog 131 [pv c,pv c'] [.h (aX b s),.at c (aY (pv b)),.at c' (aY (.int .i64 av))] (λ_=>True) (λ_=>[.h (aX b (lZ s av))]):=by
 intro A F hw hS;refine aH Tryz.func131 λ_=>?_;dsimp only [aa,af] at hS;have hq:=eO hS hw;revert hq hS hw;refine Wp (J1 (tT b s av hd hC)) (J1 bF) ?_<;>(unhygienic intros);refine⟨_,by first|rfl|(simp;rfl),trivial,?_⟩;apply ah.bI
 (·exact sA)
 (·first|exact pP|exact kP)
theorem De (b c:Nat) (s:aF) (hd:s.aC=.bq) (hC:fN s) :
 bf Tryz.prog 223 [pv c] [.h (aX b s),.at c (aY (pv b))] (λ_=>True) (λ_=>[.h (aX b (iL s 3))]):=by
 have hu:bf Tryz.prog 180 [pv b,.int .i64 3] [.h (aX b s)] (λ_=>True) (λ_=>[.h (aX b (iL s 3))]):=λA F hw hS=>
  (iz b s s.aC.fA 3 s.aC hC.cf hC.al hC.push (Nat.lt_of_le_of_lt hC.ln (by decide))) A F hw (aX.Qz hS .z)
 intro A F hw hS;refine aH Tryz.func223 λ_=>?_;dsimp only [aa,af] at hS;have hq:=eO hS hw;revert hq hS hw;refine Wp (J1 @hu) (J1 bF) ?_<;>(unhygienic intros);refine⟨_,by first|rfl|(simp;rfl),trivial,?_⟩;apply ah.bI
 (·exact sA)
 (·first|exact pP|exact kP)
theorem AY (b c c' c2:Nat) (s:aF) (k v:Int) (hd:s.aC=.bq) (hC:fN s) (hk:0<=k/\k<s.cf.nb) :
 bf Tryz.prog 229 [pv c,pv c',pv c2] [.h (aX b s),.at c (aY (pv b)),.at c' (aY (.int .i64 k)),.at c2 (aY (.int .u64 v))] (λ_=>True) (λ_=>[.h (aX b (jG s k v))]):=by
 intro A F hw hS;refine aH Tryz.func229 λ_=>?_;dsimp only [aa,af] at hS;have hq:=eO hS hw;revert hq hS hw;refine Wp (J1 (Ch b s k v hd hC hk)) (J1 bF) ?_<;>(unhygienic intros);refine⟨_,by first|rfl|(simp;rfl),trivial,?_⟩;apply ah.bI
 (·exact sA)
 (·first|exact pP|exact kP)
theorem Dd (b c c' c2:Nat) (s:aF) (v:Int) (hd:s.aC=.bq) :
 bf Tryz.prog 137 [pv c,pv c'] [.h (aX b s),.at c (aY (.func (.func 135) #[] #[pv c2])),.at c' (aY (.int .u64 v)),.at c2 (aY (pv b))] (λ_=>True) (λ_=>[.h (aX b { s with value:=v })]):=by
 intro A F hw hS;refine aH Tryz.func137 λ_=>?_;dsimp only [aa,af] at hS;have hq:=eO hS hw;revert hq hS hw;refine Wp (J1 (nF b c2 s v hd)) (J1 bF) ?_<;>(unhygienic intros);refine⟨_,by first|rfl|(simp;rfl),trivial,?_⟩;apply ah.bI
 (·exact sA)
 (·first|exact pP|exact kP)
theorem AX (b c c' c2:Nat) (s:aF) (a v:Int) (hd:s.aC=.bq) (hC:fN s) (ha:0<=a) :
 bf Tryz.prog 140 [pv c,pv c',pv c2] [.h (aX b s),.at c (aY (pv b)),.at c' (aY (.int .u64 a)),.at c2 (aY (.int .u64 v))] (λ_=>True) (λ_=>[.h (aX b (sY s (.kX a v)))]):=by
 have QD:=hC.cf.aR;have ho:∀A',A'.Wf->ah A' [.h (aX b s)]->et 133 [pv b,.int .u64 a] A' (.bool (decide (s.cf.aR<=a))):=λA' h1 h2=>nH b s s.aC.fA a s.aC hC.cf A' h1 (aX.Qz h2 .z);by_cases h:s.cf.aR<=a;have e:sY s (.kX a v)=lZ s 7:=ay h;rw [e];intro A F hw hS;refine aH Tryz.func140 λ_=>?_;dsimp only [aa,af] at hS;have hq:=eO hS hw;revert hq hS hw;refine Wp (J2 (Tg.mk (n:=10) (λ{A L K k}=>eF (A:=A) (L:=L) (K:=K) (k:=k) ho)) (tT b s 7 hd hC)) (J2 h bF) ?_<;>(unhygienic intros);refine⟨_,by first|rfl|(simp;rfl),trivial,?_⟩;apply ah.bI
 (·exact sA)
 (·first|exact pP|exact kP)
 have e:sY s (.kX a v)=(ia s a v).2:=ap h;rw [e];have Uq:IntKind.i64.wrap a=a:=an (by omega) (by omega);intro A F hw hS;refine aH Tryz.func140 λ_=>?_;dsimp only [aa,af] at hS;have hq:=eO hS hw;revert hq hS hw;(repeat first|clear hq|clear hS|clear hw|revert hc|revert R|revert K);refine Wp (J2 (Tg.mk (n:=10) (λ{A L K k}=>eF (A:=A) (L:=L) (K:=K) (k:=k) ho)) (tA b s a v hd hC ha)) (J3 h Uq bF) ?_<;>(unhygienic intros);refine⟨_,by first|rfl|(simp;rfl),trivial,?_⟩;apply ah.bI
 (·exact sA)
 (·first|exact pP|exact kP)
theorem AZ (b m c c':Nat) (s:aF) (p:nQ) (hC:fN { s with aC:=.bq }) (sS:s.ag.length<8) (hp:p.block<s.cf.nb) (iR:0<=p.dC/\p.dC<=3) :
 bf Tryz.prog 225 [pv c,pv c'] [.h (NP b { s with aC:=.bq } 0 p),.at c (aY (pv b)),.at c' (aY (.int .i64 p.dC))] (λ_=>True) (λ_=>[.h (aX b (fu { s with aC:=.bq } p.dC p.block))]):=by
 intro A F hw hS;refine aH Tryz.func225 λ_=>?_;dsimp only [aa,af] at hS;have hq:=eO hS hw;revert hq hS hw;refine Wp (J1 (CS b s p hC sS hp iR)) (J1 bF) ?_<;>(unhygienic intros);refine⟨_,by first|rfl|(simp;rfl),trivial,?_⟩;apply ah.bI
 (·exact sA)
 (·first|exact pP|exact kP)
end
section
abbrev LE:List (Nat×Nat):=[(0,0),(1,0),(2,2),(3,3),(4,0)]
open T17 T13
variable [Gl]
theorem JI (b pb:Nat) (s:hW) (M:Mm) (b6:s.eL.length<=s.am.length) (RD:s.am.length<2^38) :
 bf Tryz.prog 188 [pv b,pv pb] [.h (gz b s),dH pb M] (λv=>v=(eN s M).1.v) (λ_=>[.h (gz b (eN s M).2.1),dH pb (eN s M).2.2]):=
 bf.oB (DH b pb s M b6 RD) (by show gz b s*(eu pb M*eP)=_;rw [dt]) (λv=>by show _=C5 _*(gz b _*(eu pb _*eP));rw [dt])
theorem MC (b pb:Nat) (s:jx) (M:Mm) (b6:s.os.length=s.ws.length) :
 bf Tryz.prog 208 [pv b,pv pb] [.h (gG b s),dH pb M] (λv=>v=(j7 s M).1.v) (λ_=>[.h (gG b (j7 s M).2.1),dH pb (j7 s M).2.2]):=
 bf.oB (FC b pb s M b6) (by show gG b s*(eu pb M*eP)=_;rw [dt]) (λv=>by show _=C5 _*(gG b _*(eu pb _*eP));rw [dt])
theorem Of (b pb:Nat) (s:jx) (M:Mm) (b6:s.os.length=s.ws.length) :
 bf Tryz.prog 203 [pv b,pv pb] [.h (gG b s),dH pb M] (λv=>v=(mi s M).1.v) (λ_=>[.h (gG b (mi s M).2.1),dH pb (mi s M).2.2]):=
 bf.oB (GZ b pb s M b6) (by show gG b s*(eu pb M*eP)=_;rw [dt]) (λv=>by show _=C5 _*(gG b _*(eu pb _*eP));rw [dt])
section
variable {A:AW} {L K:List It} {k:Value->AW->Prop} {n:Nat}
theorem Bs {P:HP} (hS:ah A L) (hp:aB L (.h P) K):bn A (P*aL K):=by
 unfold ah at hS;rw [hp.aL] at hS;exact hS
theorem nK {s:hW} (hw:A.Wf) (hS:ah A L) (hp:aB L (.h (gz n s)) K) (hk:k (.bool s.done) A):az Tryz.prog 189 [pv n] A k:=by
 refine bV (mJ n s A _ (Bs hS hp)) ?_;rintro _ _ ⟨rfl,rfl⟩ _ _;exact hk
theorem tw {s:jx} (hw:A.Wf) (hS:ah A L) (hp:aB L (.h (gG n s)) K) (hk:k (.bool s.done) A):az Tryz.prog 209 [pv n] A k:=by
 refine bV (r9 n s A _ (Bs hS hp)) ?_;rintro _ _ ⟨rfl,rfl⟩ _ _;exact hk
theorem AS {s:jx} (hw:A.Wf) (hS:ah A L) (hp:aB L (.h (gG n s)) K) (hk:k (.bool s.done) A):az Tryz.prog 204 [pv n] A k:=by
 refine bV (tm n s A _ (Bs hS hp)) ?_;rintro _ _ ⟨rfl,rfl⟩ _ _;exact hk
theorem jD {s:gw} (hw:A.Wf) (hS:ah A L) (hp:aB L (.h (iK n s)) K) (hk:k (.bool s.done) A):az Tryz.prog 196 [pv n] A k:=by
 obtain⟨v,h0⟩:=iK.open hS hp;obtain⟨o,c,rfl,_⟩:=(ah.pG h0 (.s .z)).dO;refine bV (oM n o _ c s.rv s.iw A (h0.g 0 rfl)) ?_;rintro _ _ ⟨rfl,rfl⟩ _ _;exact hk
theorem yY (b:Nat) (v:Value) (rv:Int) (f:Bool) (A:AW) (hg:A.bt b=some (.cells [v,.int .i64 rv,.bool f] true 1)):et 198 [pv b] A (.bool f):=by
 refine aH Tryz.func198 λ_=>?_;refine Wp cy (J2 hg @AW.ab) ?_<;>intros;exact⟨_,rfl,rfl,rfl⟩
theorem ng {s:gw} (hw:A.Wf) (hS:ah A L) (hp:aB L (.h (iK n s)) K) (hk:k (.bool s.iw) A):az Tryz.prog 198 [pv n] A k:=by
 obtain⟨v,h0⟩:=iK.open hS hp;refine bV (yY n v s.rv s.iw A (h0.g 0 rfl)) ?_;rintro _ _ ⟨rfl,rfl⟩ _ _;exact hk
theorem pZ {s:gn} (hw:A.Wf) (hS:ah A L) (hp:aB L (.at n (gm s)) K) (hk:k (.int .i64 s.Ae) A):az Tryz.prog 174 [pv n] A k:=by
 refine bV (tR n s A (ah.gR hS hp)) ?_;rintro _ _ ⟨rfl,rfl⟩ _ _;exact hk
theorem p9 {s:gn} (hw:A.Wf) (hS:ah A L) (hp:aB L (.at n (gm s)) K) (hk:k (.bool (decide (s.br=3))) A):az Tryz.prog 176 [pv n] A k:=by
 refine bV (Cn n s A (ah.gR hS hp)) ?_;rintro _ _ ⟨rfl,rfl⟩ _ _;exact hk
theorem zt {s:nQ} (hw:A.Wf) (hS:ah A L) (hp:aB L (.at n (lX s)) K) (hk:k (.bool (decide (s.br=3))) A):az Tryz.prog 186 [pv n] A k:=by
 refine bV (FH n s A (ah.gR hS hp)) ?_;rintro _ _ ⟨rfl,rfl⟩ _ _;exact hk
theorem xd {s:eZ} (hw:A.Wf) (hS:ah A L) (hp:aB L (.at n (gt s)) K) (hk:k (.bool (decide (s.br=3))) A):az Tryz.prog 108 [pv n] A k:=by
 refine bV (uZ n s A (ah.gR hS hp)) ?_;rintro _ _ ⟨rfl,rfl⟩ _ _;exact hk
theorem j6 {s:jw} (hw:A.Wf) (hS:ah A L) (hp:aB L (.at n (iU s)) K) (hk:k (.bool s.done) A):az Tryz.prog 192 [pv n] A k:=by
 refine bV (Dc n s A (ah.gR hS hp)) ?_;rintro _ _ ⟨rfl,rfl⟩ _ _;exact hk
theorem AU {s:jw} (hw:A.Wf) (hS:ah A L) (hp:aB L (.at n (iU s)) K) (hk:k (.int .i64 s.fA) A):az Tryz.prog 120 [pv n] A k:=by
 refine bV (Ac n s A (ah.gR hS hp)) ?_;rintro _ _ ⟨rfl,rfl⟩ _ _;exact hk
theorem eg {s:fV} (hw:A.Wf) (hS:ah A L) (hp:aB L (.at n (gO s)) K) (hk:k (.bool s.done) A):az Tryz.prog 178 [pv n] A k:=by
 refine bV (uX n s A (ah.gR hS hp)) ?_;rintro _ _ ⟨rfl,rfl⟩ _ _;exact hk
theorem dD {s:fV} (hw:A.Wf) (hS:ah A L) (hp:aB L (.at n (gO s)) K) (hk:k (.bool s.dh) A):az Tryz.prog 179 [pv n] A k:=by
 refine bV (wZ n s A (ah.gR hS hp)) ?_;rintro _ _ ⟨rfl,rfl⟩ _ _;exact hk
theorem jy {s:fV} (hw:A.Wf) (hS:ah A L) (hp:aB L (.at n (gO s)) K) (hk:k (.int .u64 s.val) A):az Tryz.prog 184 [pv n] A k:=by
 refine bV (Bz n s A (ah.gR hS hp)) ?_;rintro _ _ ⟨rfl,rfl⟩ _ _;exact hk
theorem xg {a:aU} (hw:A.Wf) (hS:ah A L) (hk:∀(u:Unit) A',ah A' L->A'.Wf->A.le A'->k (.int .i64 (nU a)) A'):az Tryz.prog 187 [a.v] A k:=by
 refine bV (Hr a A hw) ?_;rintro _ A' ⟨rfl,h1⟩ lp _;exact hk () A' (hS.le hw h1) lp h1
theorem u4 {a:aU} (hw:A.Wf) (hS:ah A L) (hk:∀(u:Unit) A',ah A' L->A'.Wf->A.le A'->k (.int .i64 (gL a)) A'):az Tryz.prog 65 [a.v] A k:=by
 refine bV (FI a A hw) ?_;rintro _ A' ⟨rfl,h1⟩ lp _;exact hk () A' (hS.le hw h1) lp h1
end
theorem Bj (b pb:Nat) (s:aF) (en:gn) (M:Mm) (hd:s.aC=.cW) (he:s.bS=some en) :
 bf Tryz.prog 109 [pv b,pv pb] [.h (aX b s),dH pb M] (λv=>v=.tuple #[(gC s M en).1.v,.int .i64 (gC s M en).2.1])
  (λ_=>[.h (aX b (gC s M en).2.2.1),dH pb (gC s M en).2.2.2]):=by
 (unhygienic cases s);dsimp only at hd;subst hd;dsimp only at he;subst he;obtain⟨x,e',M',hr⟩:∃x e' M',eG en M=(x,e',M'):=⟨_,_,_,rfl⟩;have de:=λn=>Cm n pb en M;rw [hr] at de;by_cases h:e'.br=3
 . have e:gC ⟨cf,ak,aA,av,value,some en,ai,reads,ag,ar,set,bp,aw,am,aJ,aI,aj,.cW⟩ M en=(x,4,⟨cf,ak,aA,av,value,some e',ai,reads,ag,ar,set,bp,aw,am,aJ,aI,aj,.bq⟩,M'):=by
    unfold gC;rw [hr];exact ay h
   rw [e];intro A F hw hS;refine aH Tryz.func109 λ_=>?_;dsimp only [aa,af] at hS;obtain⟨x0,hS⟩:=aX.open hS .z;(unhygienic cases x0);dsimp only [bW,gH,b9,dZ,bm.fA,aa,af] at hS;have hS:=IQ.op hS (.s .z);have hq:=ed hS hw;revert hq hS hw;clear hS;clear hS;refine Wp (J3 (Tg.mk (n:=10) @pZ) (Tg.mk (n:=10) @p9) (de bG)) (J6 h @mv.eq_1 @mv.eq_2 bF @bd.eq_1 @aU.v.eq_1) ?_<;>(unhygienic intros);refine⟨_,by simp [hq,AW.ab,aD];rfl,by simp [aU.v],?_⟩;apply aX.bI
   (·exact sA)
   exact fP
   (·first|exact pP|exact kP)
   all_goals(first|exact 0|exact undef)
 by_cases h2:en.Ae=e'.Ae
 . have e:gC ⟨cf,ak,aA,av,value,some en,ai,reads,ag,ar,set,bp,aw,am,aJ,aI,aj,.cW⟩ M en=(x,2,⟨cf,ak,aA,av,value,some e',ai,reads,ag,ar,set,bp,aw,am,aJ,aI,aj,.cW⟩,M'):=by
    unfold gC;rw [hr];dsimp only;rw [ap h,ap (by simp [h2])]
   rw [e];intro A F hw hS;refine aH Tryz.func109 λ_=>?_;dsimp only [aa,af] at hS;obtain⟨x0,hS⟩:=aX.open hS .z;(unhygienic cases x0);dsimp only [bW,gH,b9,dZ,bm.fA,aa,af] at hS;have hS:=IQ.op hS (.s .z);have hq:=ed hS hw;revert hq hS hw;(repeat first|clear hq|clear hS|clear hw|revert hc|revert R|revert K);refine Wp (J3 (Tg.mk (n:=10) @pZ) (Tg.mk (n:=10) @p9) (de bG)) (J7 h h2 @mv.eq_1 @mv.eq_2 bF @bd.eq_1 @aU.v.eq_1) ?_<;>(unhygienic intros);refine⟨_,by simp [hq,AW.ab,aD];rfl,by simp [aU.v],?_⟩;apply aX.bI
   (·exact sA)
   exact fP
   (·first|exact pP|exact kP)
   all_goals(first|exact 0|exact undef)
 have e:gC ⟨cf,ak,aA,av,value,some en,ai,reads,ag,ar,set,bp,aw,am,aJ,aI,aj,.cW⟩ M en=(x,3,⟨cf,ak,aA,av,value,some e',ai,reads,ag,ar,set,bp,aw,am,aJ,aI,aj,.cW⟩,M'):=by
  unfold gC;rw [hr];dsimp only;rw [ap h,ay h2]
 rw [e];intro A F hw hS;refine aH Tryz.func109 λ_=>?_;dsimp only [aa,af] at hS;obtain⟨x0,hS⟩:=aX.open hS .z;(unhygienic cases x0);dsimp only [bW,gH,b9,dZ,bm.fA,aa,af] at hS;have hS:=IQ.op hS (.s .z);have hq:=ed hS hw;revert hq hS hw;(repeat first|clear hq|clear hS|clear hw|revert hc|revert R|revert K);refine Wp (J3 (Tg.mk (n:=10) @pZ) (Tg.mk (n:=10) @p9) (de bG)) (J7 h h2 @mv.eq_1 @mv.eq_2 bF @bd.eq_1 @aU.v.eq_1) ?_<;>(unhygienic intros);refine⟨_,by simp [hq,AW.ab,aD];rfl,by simp [aU.v],?_⟩;apply aX.bI
 (·exact sA)
 exact fP
 (·first|exact pP|exact kP)
 all_goals(first|exact 0|exact undef)
theorem Do (b pb:Nat) (s:aF) (p:eZ) (M:Mm) (hd:s.aC=.dX p) (hC:fN s) (NZ:s.aj<s.ag.length) :
 bf Tryz.prog 122 [pv b,pv pb] [.h (aX b s),dH pb M] (λv=>v=.tuple #[(gU s M p).1.v,.int .i64 (gU s M p).2.1])
  (λ_=>[.h (aX b (gU s M p).2.2.1),dH pb (gU s M p).2.2.2]):=by
 (unhygienic cases s);dsimp only at hd;subst hd;dsimp only at NZ;have sS:=hC.ln;dsimp only at sS;obtain⟨x,p',M',hr⟩:∃x e' M',ct p M=(x,e',M'):=⟨_,_,_,rfl⟩;have de:=λn=>pQ n pb p M;rw [hr] at de;have LL:IntKind.i64.wrap ((aj:Int)+1)=((aj+1:Nat):Int):=an (by omega) (by omega);by_cases h:p'.br=3;have e:gU ⟨cf,ak,aA,av,value,bS,ai,reads,ag,ar,set,bp,aw,am,aJ,aI,aj,.dX p⟩ M p=(x,gL x,fC ⟨cf,ak,aA,av,value,bS,ai,reads,ag,ar,set,bp,aw,am,aJ,aI,aj+1,.dX p'⟩,M'):=by
  unfold gU;rw [hr];dsimp only;rw [ay h]
 rw [e];intro A F hw hS;refine aH Tryz.func122 λ_=>?_;dsimp only [aa,af] at hS;obtain⟨x0,hS⟩:=aX.open hS .z;(unhygienic cases x0);dsimp only [bW,gH,b9,dZ,bm.fA,aa,af] at hS;have hq:=ed hS hw;revert hq hS hw;clear hS;refine Wp (J5 (Tg.mk (n:=10) @xd) (Tg.mk (n:=20) (tL b ⟨cf,ak,aA,av,value,bS,ai,reads,ag,ar,set,bp,aw,am,aJ,aI,aj+1,.dX p'⟩ 13 (.dX p') hC.cf hC.al NZ (Nat.lt_of_le_of_lt hC.ln (by decide)))) (Tg.mk (n:=19) (λ{A L k}=>u4 (A:=A) (L:=L) (k:=k) (a:=x))) (od LE) (de m)) (J5 h LL bF @bd.eq_1 @aU.v.eq_1) ?_<;>(unhygienic intros);refine⟨_,by simp [hq,AW.ab,aD];rfl,by simp [aU.v],?_⟩;apply ah.bI
 (·exact sA)
 (·first|exact pP|exact kP)
 have e:gU ⟨cf,ak,aA,av,value,bS,ai,reads,ag,ar,set,bp,aw,am,aJ,aI,aj,.dX p⟩ M p=(x,gL x,⟨cf,ak,aA,av,value,bS,ai,reads,ag,ar,set,bp,aw,am,aJ,aI,aj,.dX p'⟩,M'):=by
  unfold gU;rw [hr];dsimp only;rw [ap h]
 rw [e];intro A F hw hS;refine aH Tryz.func122 λ_=>?_;dsimp only [aa,af] at hS;obtain⟨x0,hS⟩:=aX.open hS .z;(unhygienic cases x0);dsimp only [bW,gH,b9,dZ,bm.fA,aa,af] at hS;have hq:=ed hS hw;revert hq hS hw;(repeat first|clear hq|clear hS|clear hw|revert hc|revert R|revert K);refine Wp (J4 (Tg.mk (n:=10) @xd) (Tg.mk (n:=19) (λ{A L k}=>u4 (A:=A) (L:=L) (k:=k) (a:=x))) (od LE) (de m)) (J5 h LL bF @bd.eq_1 @aU.v.eq_1) ?_<;>(unhygienic intros);refine⟨_,by simp [hq,AW.ab,aD];rfl,by simp [aU.v],?_⟩;apply aX.bI
 (·exact sA)
 exact fP
 (·first|exact pP|exact kP)
 all_goals(first|exact 0|exact undef)
end
section
abbrev LD:List (Nat×Nat):=[(0,0),(1,0),(2,2),(3,3),(4,0)]
open T17 T13
variable [Gl]
theorem Fp (b pb:Nat) (s:aF) (p:nQ) (M:Mm) (hd:s.aC=.eh p) (hC:fN s) (sS:s.ag.length<8) (iR:0<=p.dC/\p.dC<=3) (B6:(dY p M).2.1.block<s.cf.nb) (jV:(dY p M).2.1.dC=p.dC) :
 bf Tryz.prog 111 [pv b,pv pb] [.h (aX b s),dH pb M] (λv=>v=.tuple #[(ki s M p).1.v,.int .i64 (ki s M p).2.1])
  (λ_=>[.h (aX b (ki s M p).2.2.1),dH pb (ki s M p).2.2.2]):=by
 (unhygienic cases s);dsimp only at hd;subst hd;dsimp only at sS B6;obtain⟨x,p',M',hr⟩:∃x e' M',dY p M=(x,e',M'):=⟨_,_,_,rfl⟩;have de:=λn=>FG n pb p M;rw [hr] at de B6 jV;dsimp only at B6 jV;by_cases h:p'.br=3
 . have e:ki ⟨cf,ak,aA,av,value,bS,ai,reads,ag,ar,set,bp,aw,am,aJ,aI,aj,.eh p⟩ M p=(x,nU x,fu ⟨cf,ak,aA,av,value,bS,ai,reads,ag,ar,set,bp,aw,am,aJ,aI,aj,.bq⟩ p.dC p'.block,M'):=by
    unfold ki;rw [hr];dsimp only;rw [ay h]
   rw [e];have SQ:=λm c c'=>AZ b m c c' ⟨cf,ak,aA,av,value,bS,ai,reads,ag,ar,set,bp,aw,am,aJ,aI,aj,.bq⟩ p' ⟨hC.cf,hC.Om,hC.bp,hC.ee,hC.dm,hC.Gx,hC.NH,hC.ln,hC.push,hC.set,hC.BA,hC.An⟩ sS B6 (by rw [jV];exact iR);rw [jV] at SQ;intro A F hw hS;refine aH Tryz.func111 λ_=>?_;dsimp only [aa,af] at hS;obtain⟨x0,hS⟩:=aX.open hS .z;(unhygienic cases x0);dsimp only [bW,gH,b9,dZ,bm.fA,aa,af] at hS;have hq:=ed hS hw;revert hq hS hw;clear hS;refine Wp (J5 (Tg.mk (n:=10) @zt) (Tg.mk (n:=22) (SQ m c0 c1)) (Tg.mk (n:=19) (λ{A L k}=>xg (A:=A) (L:=L) (k:=k) (a:=x))) (od LD) (de m)) (J4 h bF @bd.eq_1 @aU.v.eq_1) ?_<;>(unhygienic intros);refine⟨_,by simp [hq,AW.ab,aD];rfl,by first|(simp [aU.v];done)|(simp [aU.v,h];done),?_⟩;apply ah.bI
   (·exact sA)
   (·first|exact pP|exact kP)
 have e:ki ⟨cf,ak,aA,av,value,bS,ai,reads,ag,ar,set,bp,aw,am,aJ,aI,aj,.eh p⟩ M p=(x,nU x,⟨cf,ak,aA,av,value,bS,ai,reads,ag,ar,set,bp,aw,am,aJ,aI,aj,.eh p'⟩,M'):=by
  unfold ki;rw [hr];dsimp only;rw [ap h]
 rw [e];intro A F hw hS;refine aH Tryz.func111 λ_=>?_;dsimp only [aa,af] at hS;obtain⟨x0,hS⟩:=aX.open hS .z;(unhygienic cases x0);dsimp only [bW,gH,b9,dZ,bm.fA,aa,af] at hS;rw [<-jV] at hS;have hq:=ed hS hw;revert hq hS hw;(repeat first|clear hq|clear hS|clear hw|revert hc|revert R|revert K);refine Wp (J4 (Tg.mk (n:=10) @zt) (Tg.mk (n:=19) (λ{A L k}=>xg (A:=A) (L:=L) (k:=k) (a:=x))) (od LD) (de m)) (J4 h bF @bd.eq_1 @aU.v.eq_1) ?_<;>(unhygienic intros);refine⟨_,by simp [hq,AW.ab,aD];rfl,by first|(simp [aU.v];done)|(simp [aU.v,h];done),?_⟩;apply aX.bI
 (·exact sA)
 exact fP
 (·first|exact pP|exact kP)
 all_goals(first|exact 0|exact undef)
theorem Dp (b pb:Nat) (s:aF) (l:hW) (M:Mm) (hd:s.aC=.ei) (hl:s.aJ=some l) (b6:l.eL.length<=l.am.length) (RD:l.am.length<2^38) :
 bf Tryz.prog 112 [pv b,pv pb] [.h (aX b s),dH pb M] (λv=>v=.tuple #[(iZ s M l).1.v,.int .i64 (iZ s M l).2.1])
  (λ_=>[.h (aX b (iZ s M l).2.2.1),dH pb (iZ s M l).2.2.2]):=by
 (unhygienic cases s);dsimp only at hd;subst hd;dsimp only at hl;subst hl;obtain⟨x,l',M',hr⟩:∃x e' M',eN l M=(x,e',M'):=⟨_,_,_,rfl⟩;have de:=λn=>JI n pb l M b6 RD;rw [hr] at de;by_cases h:x.gd=3<;>cases h2:l'.done
 . have e:iZ ⟨cf,ak,aA,av,value,bS,ai,reads,ag,ar,set,bp,aw,am,some l,aI,aj,.ei⟩ M l=(x,12,⟨cf,ak,aA,av,value,bS,ai,reads,ag,ar,set,bp,aw,am,some l',aI,aj,.ei⟩,M'):=by
    unfold iZ;rw [hr];dsimp only;rw [h2];simp [h]
   rw [e];intro A F hw hS;refine aH Tryz.func112 λ_=>?_;dsimp only [aa,af] at hS;obtain⟨x0,hS⟩:=aX.open hS .z;(unhygienic cases x0);dsimp only [bW,gH,b9,dZ,bm.fA,aa,af] at hS;have hS:=sM.op hS (.s (.s .z));have hq:=ed hS hw;revert hq hS hw;clear hS;clear hS;refine Wp (J3 (Tg.mk (n:=10) @nK) @lI (de cJ)) (J7 h h2 @iM.eq_1 @iM.eq_2 bF @bd.eq_1 @aU.v.eq_1) ?_<;>(unhygienic intros);refine⟨_,by simp [hq,AW.ab,aD];rfl,by first|(simp [aU.v];done)|(simp [aU.v,h];done),?_⟩;apply aX.bI
   (·exact sA)
   exact fP
   (·first|exact pP|exact kP)
   all_goals(first|exact 0|exact undef)
 . have e:iZ ⟨cf,ak,aA,av,value,bS,ai,reads,ag,ar,set,bp,aw,am,some l,aI,aj,.ei⟩ M l=(x,12,⟨cf,ak,aA,av,value,bS,ai,reads,ag,ar,set,bp,aw,am,some l',some ⟨false,0,false⟩,aj,.cq⟩,M'):=by
    unfold iZ;rw [hr];dsimp only;rw [h2];simp [h]
   rw [e];intro A F hw hS;refine aH Tryz.func112 λ_=>?_;dsimp only [aa,af] at hS;obtain⟨x0,hS⟩:=aX.open hS .z;(unhygienic cases x0);dsimp only [bW,gH,b9,dZ,bm.fA,aa,af] at hS;have hS:=sM.op hS (.s (.s .z));have hq:=ed hS hw;revert hq hS hw;(repeat first|clear hq|clear hS|clear hw|revert hc|revert R|revert K);refine Wp (J3 (Tg.mk (n:=10) @nK) @lI (de cJ)) (J7 h h2 @iM.eq_1 @iM.eq_2 bF @bd.eq_1 @aU.v.eq_1) ?_<;>(unhygienic intros);refine⟨_,by simp [hq,AW.ab,aD];rfl,by first|(simp [aU.v];done)|(simp [aU.v,h];done),?_⟩;apply aX.bI
   (·exact sA)
   exact fP
   (·first|exact pP|exact kP)
   all_goals(first|exact 0|exact undef)
 . have e:iZ ⟨cf,ak,aA,av,value,bS,ai,reads,ag,ar,set,bp,aw,am,some l,aI,aj,.ei⟩ M l=(x,11,⟨cf,ak,aA,av,value,bS,ai,reads,ag,ar,set,bp,aw,am,some l',aI,aj,.ei⟩,M'):=by
    unfold iZ;rw [hr];dsimp only;rw [h2];simp [h]
   rw [e];intro A F hw hS;refine aH Tryz.func112 λ_=>?_;dsimp only [aa,af] at hS;obtain⟨x0,hS⟩:=aX.open hS .z;(unhygienic cases x0);dsimp only [bW,gH,b9,dZ,bm.fA,aa,af] at hS;have hS:=sM.op hS (.s (.s .z));have hq:=ed hS hw;revert hq hS hw;(repeat first|clear hq|clear hS|clear hw|revert hc|revert R|revert K);refine Wp (J3 (Tg.mk (n:=10) @nK) @lI (de cJ)) (J7 h h2 @iM.eq_1 @iM.eq_2 bF @bd.eq_1 @aU.v.eq_1) ?_<;>(unhygienic intros);refine⟨_,by simp [hq,AW.ab,aD];rfl,by first|(simp [aU.v];done)|(simp [aU.v,h];done),?_⟩;apply aX.bI
   (·exact sA)
   exact fP
   (·first|exact pP|exact kP)
   all_goals(first|exact 0|exact undef)
 have e:iZ ⟨cf,ak,aA,av,value,bS,ai,reads,ag,ar,set,bp,aw,am,some l,aI,aj,.ei⟩ M l=(x,11,⟨cf,ak,aA,av,value,bS,ai,reads,ag,ar,set,bp,aw,am,some l',some ⟨false,0,false⟩,aj,.cq⟩,M'):=by
  unfold iZ;rw [hr];dsimp only;rw [h2];simp [h]
 rw [e];intro A F hw hS;refine aH Tryz.func112 λ_=>?_;dsimp only [aa,af] at hS;obtain⟨x0,hS⟩:=aX.open hS .z;(unhygienic cases x0);dsimp only [bW,gH,b9,dZ,bm.fA,aa,af] at hS;have hS:=sM.op hS (.s (.s .z));have hq:=ed hS hw;revert hq hS hw;(repeat first|clear hq|clear hS|clear hw|revert hc|revert R|revert K);refine Wp (J3 (Tg.mk (n:=10) @nK) @lI (de cJ)) (J7 h h2 @iM.eq_1 @iM.eq_2 bF @bd.eq_1 @aU.v.eq_1) ?_<;>(unhygienic intros);refine⟨_,by simp [hq,AW.ab,aD];rfl,by first|(simp [aU.v];done)|(simp [aU.v,h];done),?_⟩;apply aX.bI
 (·exact sA)
 exact fP
 (·first|exact pP|exact kP)
 all_goals(first|exact 0|exact undef)
theorem fD {A:AW} {L K:List It} {k:Value->AW->Prop} {v:Value} {l:List Int} {x:Int} (hw:A.Wf) (hS:ah A L) (hp:aB L (.h (au .i64 v l)) K) (hl:l.length<2^38) (hk:k (.bool (decide (x∈l))) A) :
 az Tryz.prog 181 [v,.int .i64 x] A k:=by
 refine bV (vq v l x A (ah.pG hS hp) (by omega)) ?_;rintro _ _ ⟨rfl,rfl⟩ _ _;exact hk
end
section
open T17 T13
variable [Gl]
theorem Dn (b pb:Nat) (s:aF) (t:jw) (M:Mm) (hd:s.aC=.cq) (hl:s.aI=some t) (Kb:s.set.length<2^38) :
 bf Tryz.prog 113 [pv b,pv pb] [.h (aX b s),dH pb M] (λv=>v=.tuple #[(gi s M t).1.v,.int .i64 (gi s M t).2.1])
  (λ_=>[.h (aX b (gi s M t).2.2.1),dH pb (gi s M t).2.2.2]):=by
 (unhygienic cases s);dsimp only at hd;subst hd;dsimp only at hl Kb;subst hl;obtain⟨x,t',M',hr⟩:∃x e' M',fJ t M=(x,e',M'):=⟨_,_,_,rfl⟩;have de:=λn=>Db n pb t M;rw [hr] at de;by_cases h:x.gd=4<;>cases h2:t'.done
 . have e:gi ⟨cf,ak,aA,av,value,bS,ai,reads,ag,ar,set,bp,aw,am,aJ,some t,aj,.cq⟩ M t=(x,13,⟨cf,ak,aA,av,value,bS,ai,reads,ag,ar,set,bp,aw,am,aJ,some t',aj,.cq⟩,M'):=by
    unfold gi;rw [hr];dsimp only;rw [h2];simp [h]
   rw [e];intro A F hw hS;refine aH Tryz.func113 λ_=>?_;dsimp only [aa,af] at hS;obtain⟨x0,hS⟩:=aX.open hS .z;(unhygienic cases x0);dsimp only [bW,gH,b9,dZ,bm.fA,aa,af] at hS;have hS:=uf.op hS (.s (.s (.s .z)));have hq:=ed hS hw;revert hq hS hw;clear hS;clear hS;refine Wp (J2 (Tg.mk (n:=10) @j6) (de cA)) (J7 h h2 @gN.eq_1 @gN.eq_2 bF @bd.eq_1 @aU.v.eq_1) ?_<;>(unhygienic intros);refine⟨_,by simp [hq,AW.ab,aD];rfl,by first|(simp [aU.v];done)|(simp [aU.v,h];done),?_⟩;apply aX.bI
   (·exact sA)
   exact fP
   (·first|exact pP|exact kP)
   all_goals(first|exact 0|exact undef)
 . by_cases h3:set.length=0
   . have e:gi ⟨cf,ak,aA,av,value,bS,ai,reads,ag,ar,set,bp,aw,am,aJ,some t,aj,.cq⟩ M t=(x,13,⟨cf,ak,aA,av,value,bS,ai,reads,ag,ar,set,bp,aw,am,aJ,some t',aj,.bJ⟩,M'):=by
      unfold gi;rw [hr];dsimp only;rw [h2];simp [h,h3]
     rw [e];intro A F hw hS;refine aH Tryz.func113 λ_=>?_;dsimp only [aa,af] at hS;obtain⟨x0,hS⟩:=aX.open hS .z;(unhygienic cases x0);dsimp only [bW,gH,b9,dZ,bm.fA,aa,af] at hS;have hS:=uf.op hS (.s (.s (.s .z)));have hq:=ed hS hw;have h4:∀rv,(gw.mk set rv false).done=true:=λrv=>by simp [gw.done,h3]
     revert hq hS hw;(repeat first|clear hq|clear hS|clear hw|revert hc|revert R|revert K);refine Wp (J6 (Tg.mk (n:=10) @j6) (Tg.mk (n:=11) @pk) (Tg.mk (n:=11) @nJ) (Tg.mk (n:=30) (λA' h1 h2=>rp b ⟨cf,ak,aA,av,value,bS,ai,reads,ag,ar,set,bp,aw,am,aJ,some t',aj,.cq⟩ 6 .cq A' h1 h2)) (Tg.mk (n:=10) @jD) (de cA)) (J8 h h2 h4 @gN.eq_1 @gN.eq_2 bF @bd.eq_1 @aU.v.eq_1) ?_<;>(unhygienic intros);refine⟨_,by simp [hq,AW.ab,aD];rfl,by first|(simp [aU.v];done)|(simp [aU.v,h];done),?_⟩;apply aX.bI
     (·exact sA)
     exact fP
     (·first|exact pP|exact kP)
     all_goals(first|exact 0|exact undef)
   have e:gi ⟨cf,ak,aA,av,value,bS,ai,reads,ag,ar,set,bp,aw,am,aJ,some t,aj,.cq⟩ M t=(x,13,⟨cf,ak,aA,av,value,bS,ai,reads,ag,ar,set,bp,aw,am,aJ,some t',aj,.cG ⟨set,aF.rv ⟨cf,ak,aA,av,value,bS,ai,reads,ag,ar,set,bp,aw,am,aJ,some t',aj,.cq⟩,false⟩⟩,M'):=by
    unfold gi;rw [hr];dsimp only;rw [h2];simp [h,h3,aF.rv]
   rw [e];intro A F hw hS;refine aH Tryz.func113 λ_=>?_;dsimp only [aa,af] at hS;obtain⟨x0,hS⟩:=aX.open hS .z;(unhygienic cases x0);dsimp only [bW,gH,b9,dZ,bm.fA,aa,af] at hS;have hS:=uf.op hS (.s (.s (.s .z)));have hq:=ed hS hw;have h4:∀rv,(gw.mk set rv false).done=false:=λrv=>by simp [gw.done];exact λh=>h3 (by rw [h];rfl)
   revert hq hS hw;(repeat first|clear hq|clear hS|clear hw|revert hc|revert R|revert K);refine Wp (J6 (Tg.mk (n:=10) @j6) (Tg.mk (n:=11) @pk) (Tg.mk (n:=11) @nJ) (Tg.mk (n:=30) (λA' h1 h2=>rp b ⟨cf,ak,aA,av,value,bS,ai,reads,ag,ar,set,bp,aw,am,aJ,some t',aj,.cq⟩ 6 .cq A' h1 h2)) (Tg.mk (n:=10) @jD) (de cA)) (J8 h h2 h4 @gN.eq_1 @gN.eq_2 bF @bd.eq_1 @aU.v.eq_1) ?_<;>(unhygienic intros);refine⟨_,by simp [hq,AW.ab,aD];rfl,by first|(simp [aU.v];done)|(simp [aU.v,h];done),?_⟩;apply aX.bI
   (·exact sA)
   exact fP
   (·first|exact pP|exact kP)
   all_goals(first|exact 0|exact undef)
 . have e:gi ⟨cf,ak,aA,av,value,bS,ai,reads,ag,ar,set,bp,aw,am,aJ,some t,aj,.cq⟩ M t=(x,14,⟨cf,ak,aA,av,value,bS,ai,reads,ag,ar,set,bp,aw,am,aJ,some t',aj,.cq⟩,M'):=by
    unfold gi;rw [hr];dsimp only;rw [h2];simp [h]
   rw [e];intro A F hw hS;refine aH Tryz.func113 λ_=>?_;dsimp only [aa,af] at hS;obtain⟨x0,hS⟩:=aX.open hS .z;(unhygienic cases x0);dsimp only [bW,gH,b9,dZ,bm.fA,aa,af] at hS;have hS:=uf.op hS (.s (.s (.s .z)));have hq:=ed hS hw;revert hq hS hw;(repeat first|clear hq|clear hS|clear hw|revert hc|revert R|revert K);refine Wp (J2 (Tg.mk (n:=10) @j6) (de cA)) (J7 h h2 @gN.eq_1 @gN.eq_2 bF @bd.eq_1 @aU.v.eq_1) ?_<;>(unhygienic intros);refine⟨_,by simp [hq,AW.ab,aD];rfl,by first|(simp [aU.v];done)|(simp [aU.v,h];done),?_⟩;apply aX.bI
   (·exact sA)
   exact fP
   (·first|exact pP|exact kP)
   all_goals(first|exact 0|exact undef)
 by_cases h3:set.length=0
 . have e:gi ⟨cf,ak,aA,av,value,bS,ai,reads,ag,ar,set,bp,aw,am,aJ,some t,aj,.cq⟩ M t=(x,14,⟨cf,ak,aA,av,value,bS,ai,reads,ag,ar,set,bp,aw,am,aJ,some t',aj,.bJ⟩,M'):=by
    unfold gi;rw [hr];dsimp only;rw [h2];simp [h,h3]
   rw [e];intro A F hw hS;refine aH Tryz.func113 λ_=>?_;dsimp only [aa,af] at hS;obtain⟨x0,hS⟩:=aX.open hS .z;(unhygienic cases x0);dsimp only [bW,gH,b9,dZ,bm.fA,aa,af] at hS;have hS:=uf.op hS (.s (.s (.s .z)));have hq:=ed hS hw;have h4:∀rv,(gw.mk set rv false).done=true:=λrv=>by simp [gw.done,h3]
   revert hq hS hw;(repeat first|clear hq|clear hS|clear hw|revert hc|revert R|revert K);refine Wp (J6 (Tg.mk (n:=10) @j6) (Tg.mk (n:=11) @pk) (Tg.mk (n:=11) @nJ) (Tg.mk (n:=30) (λA' h1 h2=>rp b ⟨cf,ak,aA,av,value,bS,ai,reads,ag,ar,set,bp,aw,am,aJ,some t',aj,.cq⟩ 6 .cq A' h1 h2)) (Tg.mk (n:=10) @jD) (de cA)) (J8 h h2 h4 @gN.eq_1 @gN.eq_2 bF @bd.eq_1 @aU.v.eq_1) ?_<;>(unhygienic intros);refine⟨_,by simp [hq,AW.ab,aD];rfl,by first|(simp [aU.v];done)|(simp [aU.v,h];done),?_⟩;apply aX.bI
   (·exact sA)
   exact fP
   (·first|exact pP|exact kP)
   all_goals(first|exact 0|exact undef)
 have e:gi ⟨cf,ak,aA,av,value,bS,ai,reads,ag,ar,set,bp,aw,am,aJ,some t,aj,.cq⟩ M t=(x,14,⟨cf,ak,aA,av,value,bS,ai,reads,ag,ar,set,bp,aw,am,aJ,some t',aj,.cG ⟨set,aF.rv ⟨cf,ak,aA,av,value,bS,ai,reads,ag,ar,set,bp,aw,am,aJ,some t',aj,.cq⟩,false⟩⟩,M'):=by
  unfold gi;rw [hr];dsimp only;rw [h2];simp [h,h3,aF.rv]
 rw [e];intro A F hw hS;refine aH Tryz.func113 λ_=>?_;dsimp only [aa,af] at hS;obtain⟨x0,hS⟩:=aX.open hS .z;(unhygienic cases x0);dsimp only [bW,gH,b9,dZ,bm.fA,aa,af] at hS;have hS:=uf.op hS (.s (.s (.s .z)));have hq:=ed hS hw;have h4:∀rv,(gw.mk set rv false).done=false:=λrv=>by simp [gw.done];exact λh=>h3 (by rw [h];rfl)
 revert hq hS hw;(repeat first|clear hq|clear hS|clear hw|revert hc|revert R|revert K);refine Wp (J6 (Tg.mk (n:=10) @j6) (Tg.mk (n:=11) @pk) (Tg.mk (n:=11) @nJ) (Tg.mk (n:=30) (λA' h1 h2=>rp b ⟨cf,ak,aA,av,value,bS,ai,reads,ag,ar,set,bp,aw,am,aJ,some t',aj,.cq⟩ 6 .cq A' h1 h2)) (Tg.mk (n:=10) @jD) (de cA)) (J8 h h2 h4 @gN.eq_1 @gN.eq_2 bF @bd.eq_1 @aU.v.eq_1) ?_<;>(unhygienic intros);refine⟨_,by simp [hq,AW.ab,aD];rfl,by first|(simp [aU.v];done)|(simp [aU.v,h];done),?_⟩;apply aX.bI
 (·exact sA)
 exact fP
 (·first|exact pP|exact kP)
 all_goals(first|exact 0|exact undef)
theorem Bk (b pb:Nat) (s:aF) (c:gw) (M:Mm) (hd:s.aC=.cG c) (SY:s.am.length<2^20) (PA:s.am.length=0\/∃l,s.aJ=some l/\s.am.length=l.eL.length) :
 bf Tryz.prog 114 [pv b,pv pb] [.h (aX b s),dH pb M] (λv=>v=.tuple #[(fO s M c).1.v,.int .i64 (fO s M c).2.1])
  (λ_=>[.h (aX b (fO s M c).2.2.1),dH pb (fO s M c).2.2.2]):=by
 (unhygienic cases s);dsimp only at hd;subst hd;dsimp only at SY PA;obtain⟨x,c',M',hr⟩:∃x e' M',iA c M=(x,e',M'):=⟨_,_,_,rfl⟩;have de:=λn=>Cy n pb c M;rw [hr] at de;cases h2:c'.iw
 . cases h3:c'.done
   . have e:fO ⟨cf,ak,aA,av,value,bS,ai,reads,ag,ar,set,bp,aw,am,aJ,aI,aj,.cG c⟩ M c=(x,15,⟨cf,ak,aA,av,value,bS,ai,reads,ag,ar,set,bp,aw,am,aJ,aI,aj,.cG c'⟩,M'):=by
      unfold fO;rw [hr];dsimp only;rw [h2,h3];simp
     rw [e];intro A F hw hS;refine aH Tryz.func114 λ_=>?_;dsimp only [aa,af] at hS;obtain⟨x0,hS⟩:=aX.open hS .z;(unhygienic cases x0);dsimp only [bW,gH,b9,dZ,bm.fA,aa,af] at hS;have hq:=ed hS hw;revert hq hS hw;clear hS;refine Wp (J3 (Tg.mk (n:=10) @ng) (Tg.mk (n:=10) @jD) (de m)) (J5 h2 h3 bF @bd.eq_1 @aU.v.eq_1) ?_<;>(unhygienic intros);refine⟨_,by simp [hq,AW.ab,aD];rfl,by first|(simp [aU.v];done)|(simp [aU.v,h];done),?_⟩;apply aX.bI
     (·exact sA)
     exact fP
     (·first|exact pP|exact kP)
     all_goals(first|exact 0|exact undef)
   have e:fO ⟨cf,ak,aA,av,value,bS,ai,reads,ag,ar,set,bp,aw,am,aJ,aI,aj,.cG c⟩ M c=(x,15,⟨cf,ak,aA,av,value,bS,ai,reads,ag,ar,set,bp,aw,am,aJ,aI,aj,.bJ⟩,M'):=by
    unfold fO;rw [hr];dsimp only;rw [h2,h3];simp
   rw [e];intro A F hw hS;refine aH Tryz.func114 λ_=>?_;dsimp only [aa,af] at hS;obtain⟨x0,hS⟩:=aX.open hS .z;(unhygienic cases x0);dsimp only [bW,gH,b9,dZ,bm.fA,aa,af] at hS;have hq:=ed hS hw;revert hq hS hw;(repeat first|clear hq|clear hS|clear hw|revert hc|revert R|revert K);refine Wp (J3 (Tg.mk (n:=10) @ng) (Tg.mk (n:=10) @jD) (de m)) (J5 h2 h3 bF @bd.eq_1 @aU.v.eq_1) ?_<;>(unhygienic intros);refine⟨_,by simp [hq,AW.ab,aD];rfl,by first|(simp [aU.v];done)|(simp [aU.v,h];done),?_⟩;apply aX.bI
   (·exact sA)
   exact fP
   (·first|exact pP|exact kP)
   all_goals(first|exact 0|exact undef)
 have e:fO ⟨cf,ak,aA,av,value,bS,ai,reads,ag,ar,set,bp,aw,am,aJ,aI,aj,.cG c⟩ M c=(x,15,fK ⟨cf,ak,aA,9,value,bS,ai,reads,ag,ar,set,bp,aw,am,aJ,aI,aj,.cG c'⟩,M'):=by
  unfold fO;rw [hr];dsimp only;rw [h2];simp
 rw [e];intro A F hw hS;refine aH Tryz.func114 λ_=>?_;dsimp only [aa,af] at hS;obtain⟨x0,hS⟩:=aX.open hS .z;(unhygienic cases x0);dsimp only [bW,gH,b9,dZ,bm.fA,aa,af] at hS;have hq:=ed hS hw
 repeat' (first|(refine jK λR hR=>?_;simp [an,ax,hq,h2,AW.ab,aD,bd,aU.v];try simp (disch:=omega) only [ay,ap,an,ax])|(refine hR _ _ ?_;clear hR R)|(refine hK _ _ ?_;clear hK K)|refine nx ?_|refine wn λK hK=>?_|simp only [wS]|(apply bf.eH (de m);(·exact wA);(·exact sA);(·first|exact pP|exact kP);rintro _ _ rfl hS hw _;have hS:=lA hS;have hq:=zE hS hw)|(apply ng;(·exact wA);(·exact sA);(·first|exact pP|exact kP);)|(apply bf.jd (rZ b ⟨cf,ak,aA,9,value,bS,ai,reads,ag,ar,set,bp,aw,am,aJ,aI,aj,.cG c'⟩ 7 (.cG c') (by exact SY) (by exact PA));(·exact wA);(·exact sA);(·exact fP);(·first|exact pP|exact kP);(rintro _ _ _ hS hw _;have hS:=lA hS);(try (have hq:=zE hS hw));all_goals(try (first|exact 0|exact undef)))|(show cB _ _ _ _ _ _;refine nx ?_)|(refine wc rfl (λhc=>?_) (λhc=>?_)<;>(try simp at hc)<;>(try omega)<;>(try (simp [h2] at hc;done))<;>(try (simp [h3] at hc;done))<;>(try (simp [h4] at hc;done)))|(refine ib (λhc=>?_) (λhc=>?_)<;>(try omega)<;>(try simp (disch:=omega) only [ay,ap])))
 refine⟨_,by simp [hq,AW.ab,aD];rfl,by first|(simp [aU.v];done)|(simp [aU.v,h];done),?_⟩;apply ah.bI
 (·exact sA)
 (·first|exact pP|exact kP)
end
section
abbrev xq:List (Nat×Nat):=[(0,0),(1,2),(2,0),(3,0),(4,0),(5,0),(6,0),(7,0),(8,0),(9,0),(10,0),(11,0),(12,0),(13,0),(14,0)]
abbrev xp:List (Nat×Nat):=[(0,0),(1,0),(2,0),(3,0),(4,0),(5,0),(6,0),(8,0),(9,0),(10,0),(11,0),(12,0),(7,2),(13,2),(14,2),(15,0),(16,0),(17,3),(18,0),(19,0),(20,0),(21,3)]
open T17 T13
variable [Gl]
theorem yw (b pb:Nat) (s:aF) (w:jx) (M:Mm) (hd:s.aC=.bX w) (b6:w.os.length=w.ws.length) :
 bf Tryz.prog 117 [pv b,pv pb] [.h (aX b s),dH pb M] (λv=>v=.tuple #[(mP s M w).1.v,.int .i64 (mP s M w).2.1])
  (λ_=>[.h (aX b (mP s M w).2.2.1),dH pb (mP s M w).2.2.2]):=by
 (unhygienic cases s);dsimp only at hd;subst hd;obtain⟨x,w',M',hr⟩:∃x e' M',j7 w M=(x,e',M'):=⟨_,_,_,rfl⟩;have de:=λn=>MC n pb w M b6;rw [hr] at de;have WP:∀dd,aF.sX ⟨cf,ak,aA,av,value,bS,ai,reads,ag,ar,set,bp,aw,am,aJ,aI,aj,dd⟩=aF.sX ⟨cf,ak,aA,av,value,bS,ai,reads,ag,ar,set,bp,aw,am,aJ,aI,aj,.bX w⟩:=λdd=>rfl;obtain⟨vr,Ur⟩:∃vr,aF.sX ⟨cf,ak,aA,av,value,bS,ai,reads,ag,ar,set,bp,aw,am,aJ,aI,aj,.bX w⟩=vr:=⟨_,rfl⟩;rw [Ur] at WP;cases h2:w'.done
 . have e:mP ⟨cf,ak,aA,av,value,bS,ai,reads,ag,ar,set,bp,aw,am,aJ,aI,aj,.bX w⟩ M w=(x,18,⟨cf,ak,aA,av,value,bS,ai,reads,ag,ar,set,bp,aw,am,aJ,aI,aj,.bX w'⟩,M'):=by
    unfold mP;rw [hr];dsimp only;rw [h2];simp
   rw [e];intro A F hw hS;refine aH Tryz.func117 λ_=>?_;dsimp only [aa,af] at hS;obtain⟨x0,hS⟩:=aX.open hS .z;(unhygienic cases x0);dsimp only [bW,gH,b9,dZ,bm.fA,aa,af] at hS;have hq:=ed hS hw;revert hq hS hw;clear hS;refine Wp (J2 (Tg.mk (n:=10) @tw) (de m)) (J4 h2 bF @bd.eq_1 @aU.v.eq_1) ?_<;>(unhygienic intros);refine⟨_,by simp [hq,AW.ab,aD];rfl,by first|(simp [aU.v];done)|(simp [aU.v,h];done),?_⟩;apply aX.bI
   (·exact sA)
   exact fP
   (·first|exact pP|exact kP)
   all_goals(first|exact 0|exact undef)
 by_cases h:0<=vr
 . have e:mP ⟨cf,ak,aA,av,value,bS,ai,reads,ag,ar,set,bp,aw,am,aJ,aI,aj,.bX w⟩ M w=(x,18,⟨cf,ak,aA,av,value,bS,ai,reads,ag,ar,set,bp,aw,am,aJ,aI,aj,.gr⟩,M'):=by
    unfold mP;rw [hr];dsimp only;rw [h2,Ur,ay rfl,ay h]
   rw [e];intro A F hw hS;refine aH Tryz.func117 λ_=>?_;dsimp only [aa,af] at hS;obtain⟨x0,hS⟩:=aX.open hS .z;(unhygienic cases x0);dsimp only [bW,gH,b9,dZ,bm.fA,aa,af] at hS;have hq:=ed hS hw;revert hq hS hw;(repeat first|clear hq|clear hS|clear hw|revert hc|revert R|revert K);refine Wp (J3 (Tg.mk (n:=10) @tw) (Tg.mk (n:=30) (λA' h1 h2=>nE b ⟨cf,ak,aA,av,value,bS,ai,reads,ag,ar,set,bp,aw,am,aJ,aI,aj,.bX w'⟩ 12 (.bX w') A' h1 h2)) (de m)) (J6 h h2 WP bF @bd.eq_1 @aU.v.eq_1) ?_<;>(unhygienic intros);refine⟨_,by simp [hq,AW.ab,aD];rfl,by first|(simp [aU.v];done)|(simp [aU.v,h];done),?_⟩;apply aX.bI
   (·exact sA)
   exact fP
   (·first|exact pP|exact kP)
   all_goals(first|exact 0|exact undef)
 have e:mP ⟨cf,ak,aA,av,value,bS,ai,reads,ag,ar,set,bp,aw,am,aJ,aI,aj,.bX w⟩ M w=(x,18,⟨cf,ak,aA,av,value,bS,ai,reads,ag,ar,set,bp,aw,am,aJ,aI,aj,.eT⟩,M'):=by
  unfold mP;rw [hr];dsimp only;rw [h2,Ur,ay rfl,ap h]
 rw [e];intro A F hw hS;refine aH Tryz.func117 λ_=>?_;dsimp only [aa,af] at hS;obtain⟨x0,hS⟩:=aX.open hS .z;(unhygienic cases x0);dsimp only [bW,gH,b9,dZ,bm.fA,aa,af] at hS;have hq:=ed hS hw;revert hq hS hw;(repeat first|clear hq|clear hS|clear hw|revert hc|revert R|revert K);refine Wp (J3 (Tg.mk (n:=10) @tw) (Tg.mk (n:=30) (λA' h1 h2=>nE b ⟨cf,ak,aA,av,value,bS,ai,reads,ag,ar,set,bp,aw,am,aJ,aI,aj,.bX w'⟩ 12 (.bX w') A' h1 h2)) (de m)) (J6 h h2 WP bF @bd.eq_1 @aU.v.eq_1) ?_<;>(unhygienic intros);refine⟨_,by simp [hq,AW.ab,aD];rfl,by first|(simp [aU.v];done)|(simp [aU.v,h];done),?_⟩;apply aX.bI
 (·exact sA)
 exact fP
 (·first|exact pP|exact kP)
 all_goals(first|exact 0|exact undef)
theorem Ad (b pb:Nat) (s:aF)  (M:Mm) (hd:s.aC=.bJ) (hC:fN s) (SY:s.am.length<2^20) (PA:s.am.length=0\/∃l,s.aJ=some l/\s.am.length=l.eL.length) :
 bf Tryz.prog 115 [pv b,pv pb] [.h (aX b s),dH pb M] (λv=>v=.tuple #[(fb s M).1.v,.int .i64 (fb s M).2.1])
  (λ_=>[.h (aX b (fb s M).2.2.1),dH pb (fb s M).2.2.2]):=by
 (unhygienic cases s);dsimp only at hd;subst hd;dsimp only at SY PA;have b6:=hC.len;have hvl:=hC.bp.JO;dsimp only at b6 hvl;obtain⟨x,hx⟩:∃x,gy M 3 0=x:=⟨_,rfl⟩;have de:=Pg pb M 3 0;rw [hx] at de;obtain⟨t0,t1⟩:=hC.cf.aw;dsimp only at t0 t1;have Up:IntKind.u64.wrap cf.aw=cf.aw:=ax (by omega) (by omega);cases h3:aF.fU ⟨cf,ak,aA,av,value,bS,ai,reads,ag,ar,set,bp,aw,am,aJ,aI,aj,.bJ⟩
 . have h4:∀ck dc,aF.fU ⟨cf,ak,aA,av,value,bS,dc,reads,ag,ar,set,bp,ck,am,aJ,aI,aj,.bJ⟩=false:=λ_ _=>h3;have e:fb ⟨cf,ak,aA,av,value,bS,ai,reads,ag,ar,set,bp,aw,am,aJ,aI,aj,.bJ⟩ M=(x,16,fK ⟨cf,ak,aA,av,value,bS,true,reads,ag,ar,set,bp,x.eV,am,aJ,aI,aj,.bJ⟩,M):=by
    unfold fb;rw [hx,h3];simp
   rw [e];intro A F hw hS;refine aH Tryz.func115 λ_=>?_;dsimp only [aa,af] at hS;obtain⟨x0,hS⟩:=aX.open hS .z;(unhygienic cases x0);dsimp only [bW,gH,b9,dZ,bm.fA,aa,af] at hS;have hq:=ed hS hw
   repeat' (first|(refine jK λR hR=>?_;simp [an,ax,hq,h4,AW.ab,aD,bd,aU.v];try simp (disch:=omega) only [ay,ap,an,ax])|(refine hR _ _ ?_;clear hR R)|(refine hK _ _ ?_;clear hK K)|refine nx ?_|refine wn λK hK=>?_|simp only [wS,xq,xp]|refine wl Tryz.mx xq (by decide +kernel) λK hK=>?_|refine wl Tryz.mx xp (by decide +kernel) λK hK=>?_|(apply bf.eH (de);(·exact wA);(·exact sA);(·first|exact pP|exact kP);rintro _ _ rfl hS hw _;have hS:=lA hS;have hq:=zE hS hw)|(apply zL (λA' h1 h2=>jN b ⟨cf,ak,aA,av,value,bS,ai,reads,ag,ar,set,bp,x.eV,am,aJ,aI,aj,.bJ⟩ 8 .bJ A' h1 h2);(·exact wA);(·exact sA);(·exact fP);all_goals(try (first|exact 0|exact undef)))|(apply zL (λA' h1 h2=>jN b ⟨cf,ak,aA,av,value,bS,true,reads,ag,ar,set,bp,x.eV,am,aJ,aI,aj,.bJ⟩ 8 .bJ A' h1 h2);(·exact wA);(·exact sA);(·exact fP);all_goals(try (first|exact 0|exact undef)))|(apply bf.jd (rZ b ⟨cf,ak,aA,av,value,bS,true,reads,ag,ar,set,bp,x.eV,am,aJ,aI,aj,.bJ⟩ 8 .bJ SY PA);(·exact wA);(·exact sA);(·exact fP);(·first|exact pP|exact kP);(rintro _ _ _ hS hw _;have hS:=lA hS);(try (have hq:=zE hS hw));all_goals(try (first|exact 0|exact undef)))|(show cB _ _ _ _ _ _;refine nx ?_)|(refine wc rfl (λhc=>?_) (λhc=>?_)<;>(try simp at hc)<;>(try omega)<;>(try (simp [h2] at hc;done))<;>(try (simp [h3] at hc;done))<;>(try (simp [h4] at hc;done)))|(refine ib (λhc=>?_) (λhc=>?_)<;>(try omega)<;>(try simp (disch:=omega) only [ay,ap])))
   refine⟨_,by simp [hq,AW.ab,aD];rfl,by first|(simp [aU.v];done)|(simp [aU.v,h];done),?_⟩;apply ah.bI
   (·exact sA)
   (·first|exact pP|exact kP)
 have h4:∀ck dc,aF.fU ⟨cf,ak,aA,av,value,bS,dc,reads,ag,ar,set,bp,ck,am,aJ,aI,aj,.bJ⟩=true:=λ_ _=>h3;by_cases h:cf.aw<=x.eV
 . have e:fb ⟨cf,ak,aA,av,value,bS,ai,reads,ag,ar,set,bp,aw,am,aJ,aI,aj,.bJ⟩ M=(x,16,fK ⟨cf,ak,aA,6,value,bS,ai,reads,ag,ar,set,bp,x.eV,am,aJ,aI,aj,.bJ⟩,M):=by
    unfold fb;rw [hx,h3,Up];simp [h]
   rw [e];intro A F hw hS;refine aH Tryz.func115 λ_=>?_;dsimp only [aa,af] at hS;obtain⟨x0,hS⟩:=aX.open hS .z;(unhygienic cases x0);dsimp only [bW,gH,b9,dZ,bm.fA,aa,af] at hS;have hq:=ed hS hw;revert hq hS hw;(repeat first|clear hq|clear hS|clear hw|revert hc|revert R|revert K);refine Wp (J5 (Tg.mk (n:=30) (λA' h1 h2=>jN b ⟨cf,ak,aA,av,value,bS,ai,reads,ag,ar,set,bp,x.eV,am,aJ,aI,aj,.bJ⟩ 8 .bJ A' h1 h2)) (Tg.mk (n:=20) (rZ b ⟨cf,ak,aA,6,value,bS,ai,reads,ag,ar,set,bp,x.eV,am,aJ,aI,aj,.bJ⟩ 8 .bJ SY PA)) (od xq) (od xp) @de) (J6 h h4 Up bF @bd.eq_1 @aU.v.eq_1) ?_<;>(unhygienic intros);refine⟨_,by simp [hq,AW.ab,aD];rfl,by first|(simp [aU.v];done)|(simp [aU.v,h];done),?_⟩;apply ah.bI
   (·exact sA)
   (·first|exact pP|exact kP)
 have e:fb ⟨cf,ak,aA,av,value,bS,ai,reads,ag,ar,set,bp,aw,am,aJ,aI,aj,.bJ⟩ M=(x,16,⟨cf,ak,aA,av,value,bS,true,reads,ag,ar,set,bp,x.eV,am,aJ,aI,aj,.dI ⟨bp.bK,bp.eM⟩⟩,M):=by
  unfold fb;rw [hx,h3,Up];simp [h]
 rw [e];intro A F hw hS;refine aH Tryz.func115 λ_=>?_;dsimp only [aa,af] at hS;obtain⟨x0,hS⟩:=aX.open hS .z;(unhygienic cases x0);dsimp only [bW,gH,b9,dZ,bm.fA,aa,af] at hS;have hq:=ed hS hw
 repeat' (first|(refine jK λR hR=>?_;simp [an,ax,hq,h,h4,Up,AW.ab,aD,bd,aU.v];try simp (disch:=omega) only [ay,ap,an,ax])|(refine hR _ _ ?_;clear hR R)|(refine hK _ _ ?_;clear hK K)|refine nx ?_|refine wn λK hK=>?_|simp only [wS,xq,xp]|refine wl Tryz.mx xq (by decide +kernel) λK hK=>?_|refine wl Tryz.mx xp (by decide +kernel) λK hK=>?_|(apply bf.eH (de);(·exact wA);(·exact sA);(·first|exact pP|exact kP);rintro _ _ rfl hS hw _;have hS:=lA hS;have hq:=zE hS hw)|(apply zL (λA' h1 h2=>jN b ⟨cf,ak,aA,av,value,bS,ai,reads,ag,ar,set,bp,x.eV,am,aJ,aI,aj,.bJ⟩ 8 .bJ A' h1 h2);(·exact wA);(·exact sA);(·exact fP);all_goals(try (first|exact 0|exact undef)))|(apply zL (λA' h1 h2=>jN b ⟨cf,ak,aA,av,value,bS,true,reads,ag,ar,set,bp,x.eV,am,aJ,aI,aj,.bJ⟩ 8 .bJ A' h1 h2);(·exact wA);(·exact sA);(·exact fP);all_goals(try (first|exact 0|exact undef)))|(apply sw;(·exact wA);(·exact sA);(·first|exact pP|exact kP);(·first|omega|(simp;omega)|(simp [hq];done));((first|rintro _ _ _ hS hw fo|rintro _ _ hS hw fo|rintro _ _ hS hw);(try refine⟨fo,?_⟩);(try dsimp only [AW.bx] at hS);have hq:=zE hS hw))|(apply DF;(·exact wA);(·exact sA);(·first|exact pP|exact kP);(·first|omega|(simp;omega)|(simp [hq];done));((first|rintro _ _ _ hS hw fo|rintro _ _ hS hw fo|rintro _ _ hS hw);(try refine⟨fo,?_⟩);(try dsimp only [AW.bx] at hS);have hq:=zE hS hw))|(apply FN;(·exact wA);(·exact sA);(·first|exact pP|exact kP);(·first|exact pP|exact kP);(·first|omega|(simp;omega)|(simp [hq];done));(·first|omega|(simp;omega)|(simp [hq];done));((first|rintro _ _ _ hS hw fo|rintro _ _ hS hw fo|rintro _ _ hS hw);(try refine⟨fo,?_⟩);(try dsimp only [AW.bx] at hS);have hq:=zE hS hw))|(show cB _ _ _ _ _ _;refine nx ?_)|(refine wc rfl (λhc=>?_) (λhc=>?_)<;>(try simp at hc)<;>(try omega)<;>(try (simp [h2] at hc;done))<;>(try (simp [h3] at hc;done))<;>(try (simp [h4] at hc;done)))|(refine ib (λhc=>?_) (λhc=>?_)<;>(try omega)<;>(try simp (disch:=omega) only [ay,ap])))
 refine⟨_,by simp [hq,AW.ab,aD];rfl,by first|(simp [aU.v];done)|(simp [aU.v,h];done),?_⟩;apply aX.bI
 (·exact sA)
 exact fP
 (·first|exact pP|exact kP)
 all_goals(first|exact 0|exact undef)
end
section
open T17 T13
variable [Gl]
theorem au.O4 {A:AW} {F:HP} (kk:IntKind) (n:Nat) (h:bn A F) (hw:A.Wf):bn (A.alloc (.cells (eJ [.int kk 0] n) true 1)) (au kk (.slice (some ⟨A.next,0,none⟩) n n) (List.replicate n 0)*F):=by
 have b6:(eJ [Value.int kk 0] n).length=n:=by simp [iF]
 have hcs:(List.replicate n (0:Int)).map (Value.int kk)=eJ [Value.int kk 0] n:=by
  clear b6
  induction n with
  | zero=>rfl
  | succ n ih=>rw [List.replicate_succ,List.map_cons,ih];rfl
 refine au.mk (by simp) (by simp) (by simp [b6]) ?_ (h.alloc hw _);rw [hcs,List.drop_zero,List.take_of_length_le (by simp [b6])]
theorem ah.O4 {A:AW} {L:List It} (kk:IntKind) (n:Nat) (h:ah A L) (hw:A.Wf):ah (A.alloc (.cells (eJ [.int kk 0] n) true 1)) (.h (au kk (.slice (some ⟨A.next,0,none⟩) n n) (List.replicate n 0))::L):=au.O4 kk n h hw
theorem Bg (b pb:Nat) (s:aF) (w:jx) (M:Mm) (hd:s.aC=.dI w) (b6:w.os.length=w.ws.length) (SY:s.am.length<2^20) :
 bf Tryz.prog 116 [pv b,pv pb] [.h (aX b s),dH pb M] (λv=>v=.tuple #[(gS s M w).1.v,.int .i64 (gS s M w).2.1])
  (λ_=>[.h (aX b (gS s M w).2.2.1),dH pb (gS s M w).2.2.2]):=by
 (unhygienic cases s);dsimp only at hd;subst hd;dsimp only at SY;obtain⟨x,w',M',hr⟩:∃x e' M',mi w M=(x,e',M'):=⟨_,_,_,rfl⟩;have de:=λn=>Of n pb w M b6;rw [hr] at de;obtain⟨vr,Ur⟩:∃vr,aF.sX ⟨cf,ak,aA,av,value,bS,ai,reads,ag,ar,set,bp,aw,am,aJ,aI,aj,.dI w⟩=vr:=⟨_,rfl⟩;have WP:aF.sX ⟨cf,ak,aA,av,value,bS,ai,reads,ag,ar,set,bp,aw,am,aJ,aI,aj,.dI w'⟩=vr:=Ur;cases h2:w'.done
 . have e:gS ⟨cf,ak,aA,av,value,bS,ai,reads,ag,ar,set,bp,aw,am,aJ,aI,aj,.dI w⟩ M w=(x,17,⟨cf,ak,aA,av,value,bS,ai,reads,ag,ar,set,bp,aw,am,aJ,aI,aj,.dI w'⟩,M'):=by
    unfold gS;rw [hr];dsimp only;rw [h2];simp
   rw [e];intro A F hw hS;refine aH Tryz.func116 λ_=>?_;dsimp only [aa,af] at hS;obtain⟨x0,hS⟩:=aX.open hS .z;(unhygienic cases x0);dsimp only [bW,gH,b9,dZ,bm.fA,aa,af] at hS;have hq:=ff hS hw;revert hq hS hw;clear hS;refine Wp (J2 (Tg.mk (n:=10) @AS) (de m)) (J4 h2 bF @bd.eq_1 @aU.v.eq_1) ?_<;>(unhygienic intros);refine⟨_,by simp [hq,AW.ab,aD];rfl,by first|(simp [aU.v];done)|(simp [aU.v,h];done),?_⟩;apply aX.bI
   (·exact sA)
   exact fP
   (·first|exact pP|exact kP)
   all_goals(first|exact 0|exact undef)
 have e:gS ⟨cf,ak,aA,av,value,bS,ai,reads,ag,ar,set,bp,aw,am,aJ,aI,aj,.dI w⟩ M w=(x,17,⟨cf,ak,aA,av,value,bS,ai,reads,ag,ar,set,bp,aw,am,aJ,aI,aj,.bX ⟨am,List.replicate am.length (lO vr)⟩⟩,M'):=by
  unfold gS;rw [hr];dsimp only;rw [h2,ay rfl,Ur]
 rw [e];intro A F hw hS;refine aH Tryz.func116 λ_=>?_;dsimp only [aa,af] at hS;obtain⟨x0,hS⟩:=aX.open hS .z;(unhygienic cases x0);dsimp only [bW,gH,b9,dZ,bm.fA,aa,af] at hS;obtain⟨oo,co,rfl,_⟩:=(ah.pG hS (.s (.s (.s (.s (.s (.s (.s (.s (.s .z)))))))))).dO;have hq:=ff hS hw;revert hq hS hw;(repeat first|clear hq|clear hS|clear hw|revert hc|revert R|revert K);refine Wp cy (J3 bF @bd.eq_1 @aU.v.eq_1) ?_<;>(unhygienic intros);apply bf.eH (de m)
 (·exact wA)
 (·exact sA)
 (·first|exact pP|exact kP)
 rintro _ A1 rfl hS hw _;have hS:=lA hS;have hq:=ff hS hw;revert hq hS hw;(repeat first|clear hq|clear hS|clear hw|revert hc|revert R|revert K);refine Wp (J1 (Tg.mk (n:=10) @AS)) (J4 h2 bF @bd.eq_1 @aU.v.eq_1) ?_<;>(unhygienic intros);obtain⟨n,hn⟩:∃n,am.length=n:=⟨_,rfl⟩;have hinv:∀i,i<=n->List.replicate i (lO vr)++List.replicate (n-i) 0=(List.replicate i (lO vr)++List.replicate (n-i) (0:Int)):=λ_ _=>rfl
 refine dW (λk fr A'=>A'.Wf/\∃i:Nat,k=n-i/\i<=n/\fr 0=pv b/\fr 4=.pointer (some ⟨A.next,0,none⟩)/\fr 6=.pointer (some ⟨A1.next,0,none⟩)/\fr 7=.slice (some ⟨A1.next+1,0,none⟩) n n/\fr 29=.int .i64 n/\fr 30=.int .i64 i/\
  ah A' (.h (au .u64 (.slice (some ⟨A1.next+1,0,none⟩) n n) (List.replicate i (lO vr)++List.replicate (n-i) 0))::.at A1.next (.cells [.int .i64 x.gd,.int .i64 x.cell,.int .i64 x.dm,.int .u64 x.eV,.int .u64 x.put,.bool x.done] true 1)::.at A.next (.cells bd true 1)::.h (gG m w')::dH pb M'::(bW b ⟨cf,ak,aA,av,value,bS,ai,reads,ag,ar,set,bp,aw,am,aJ,aI,aj,.dI w'⟩ 9 (.dI w') ⟨dP,d9,bG,cJ,cA,m,c0,c1,c2,cX,bj,bO,.slice oo am.length co,dQ,cY,eB,bR,bP,aZ,cZ,db,fR,dR⟩++[.h F]))) n ?_ ?_
 refine⟨?_,0,by simp,by simp,by simp,by simp,by simp,by simp [hn],by simp [hn],by simp,?_⟩
 (·exact wA)
 simp only [List.replicate_zero,af,Nat.sub_zero];rw [<-hn];apply ah.bI;apply ah.O4
 (·exact sA)
 (·exact wA)
 (dsimp only [bW,gH,b9,dZ,bm.fA,oz,kR,oR,vU,kV,kN,ig,oA,oe,vF,og,aa,af])
 (·first|exact pP|exact kP)
 rintro k fr A' ⟨hw,i,rfl,hi,h0,h4',h6,h7,Wb,U0,hS⟩;dsimp only [bW,gH,b9,dZ,bm.fA,oz,kR,oR,vU,kV,kN,ig,oA,oe,vF,og,aa,af] at hS;refine bh ?_;by_cases cF:i<n
 . have fZ:(i:Int)<n:=(by omega);have hP:=D9 (i:=i);have hll:(List.replicate i (lO vr)++List.replicate (n-i) (0:Int)).length=n:=(by simp;omega);obtain⟨bv,Re,cv,TP,hv,hbv,cH,kc,iI⟩:=ah.Ls hS .z (j:=i) (by omega);rw [hll] at hv hbv;injection hv with Pn hv2 Us;injection Pn with Pn;injection Pn with Pn hv4 _;subst Pn;subst hv4;have mT:=hS;have hS:=iI;have hq:=ff hS hw;have LS:i<TP.length:=(by omega);simp only [Nat.zero_add] at cH kc;revert hq hS hw;(repeat first|clear hq|clear hS|clear hw|revert hc|revert R|revert K);refine Wp (J2 (Tg.mk (n:=30) (λA' h1 h2=>nE b ⟨cf,ak,aA,av,value,bS,ai,reads,ag,ar,set,bp,aw,am,aJ,aI,aj,.dI w'⟩ 9 (.dI w') A' h1 h2)) @Jx) (kM h0 h4' h6 h7 Wb U0 WP cF fZ hP cH LS bF) ?_<;>(unhygienic intros);refine⟨n-(i+1),by omega,hw.set _ (ah.WK hS hw .z (Nat.le_refl _)),i+1,rfl,by omega,by simp [h0],by simp [h4'],by simp [h6],by simp [h7],by simp [Wb],by simp,?_⟩;have h9:=kc (lO vr) _ _ (ah.fp hS .z)
   have e9:(List.replicate i (lO vr)++List.replicate (n-i) (0:Int)).set i (lO vr)=List.replicate (i+1) (lO vr)++List.replicate (n-(i+1)) 0:=by
    rw [List.set_append_right _ _ (by simp)];simp only [List.length_replicate,Nat.sub_self];rw [show n-i=(n-(i+1))+1 by omega,List.replicate_succ,List.set_cons_zero,List.replicate_succ',List.append_assoc];rfl
   rw [e9] at h9;exact h9
 have Ki:i=n:=by omega
 subst Ki;simp only [Nat.sub_self,List.replicate_zero,List.append_nil] at hS;have hq:=ff hS hw;revert hq hS hw;(repeat first|clear hq|clear hS|clear hw|revert hc|revert R|revert K);refine Wp (J1 (Tg.mk (n:=12) @tE)) (J7 h0 h4' h6 h7 Wb U0 bF) ?_<;>(unhygienic intros);rw [show List.replicate am.length (lO vr)=List.replicate i (lO vr) by rw [hn]];refine⟨_,by simp [hq,h4',AW.ab,aD];rfl,by simp [aU.v,bd],?_⟩;apply aX.bI
 (·exact sA)
 exact fP
 (·first|exact pP|exact kP)
 all_goals(first|exact 0|exact undef)
end
section
abbrev pF:List (Nat×Nat):=[(0,0),(1,0),(2,0),(3,0),(4,0),(5,0),(6,0),(7,0),(8,0),(9,0),(10,0),(11,0),(12,0),(13,0),(14,0),(15,0),(16,0),(17,0),(18,0),(19,0),(20,2),(21,0),(22,0)]
abbrev pE:List (Nat×Nat):=[(0,0),(1,0),(2,0),(3,0),(4,0),(5,0),(6,0),(7,0),(8,0),(9,0),(10,2),(11,3),(12,0),(13,0),(14,0),(15,3)]
abbrev pD:List (Nat×Nat):=[(0,0),(1,0),(2,0),(3,0),(4,0),(5,0),(6,0),(7,0),(8,0),(9,0),(10,0),(11,0),(12,0),(13,2),(14,3),(15,0)]
abbrev pC:List (Nat×Nat):=[(0,0),(1,0),(2,0),(3,0),(4,0),(5,0),(6,0),(7,0),(8,0),(9,2),(10,3)]
open T20 T13
variable [Gl]
set_option maxHeartbeats 16000000 in
theorem Bh (b pb:Nat) (s:aF) (c:fV) (M:Mm) (hd:s.aC=.aP c .take) (hC:fN s) (WU:s.reads.length+1<2^20) (hca:0<=c.br/\c.br<=2) (zG:c.fw=fF s.cf c.cg) :
 bf Tryz.prog 110 [pv b,pv pb] [.h (aX b s),dH pb M] (λv=>v=.tuple #[(dq s M c .take).1.v,.int .i64 (dq s M c .take).2.1])
  (λ_=>[.h (aX b (dq s M c .take).2.2.1),dH pb (dq s M c .take).2.2.2]):=by
 (unhygienic cases s);dsimp only at hd;subst hd
 skip
 dsimp only at zG WU;obtain⟨VT,Ux⟩:=hC.cf.reads;have kc:=hC.set;dsimp only at VT Ux kc;have wz:cf.reads.toNat<=32:=by omega
 obtain⟨x,c',M',hr⟩:∃x e' M',dg c M=(x,e',M'):=⟨_,_,_,rfl⟩;have de:=λn=>uW n pb c M;rw [hr] at de;have ED:IntKind.i64.wrap (5+c.br)=5+c.br:=an (by omega) (by omega);have i5:IntKind.i64.wrap (c.br+1)=c.br+1:=an (by omega) (by omega);have nc:¬c'.br=3->c'.br=c.br+1:=by
  intro hn;have NX:(dg c M).2.1=c':=by rw [hr]
  rcases oy c M with ⟨h,e⟩|⟨h,e⟩|⟨h,e⟩|⟨h,e⟩|⟨h,e⟩|⟨h,e⟩<;>(rw [e] at NX;subst NX;dsimp only at hn ⊢;try omega)
 have yT:c'.cg=c.cg:=by
  have NX:(dg c M).2.1=c':=by rw [hr]
  rcases oy c M with ⟨h,e⟩|⟨h,e⟩|⟨h,e⟩|⟨h,e⟩|⟨h,e⟩|⟨h,e⟩<;>(rw [e] at NX;subst NX;rfl)
 have mf:=ul cf hC.cf c.cg;dsimp only [bH.v] at mf;cases h2:c'.done
 . have h3:¬c'.br=3:=by simpa [fV.done] using h2
   have e:dq ⟨cf,ak,aA,av,value,bS,ai,reads,ag,ar,set,bp,aw,am,aJ,aI,aj,.aP c .take⟩ M c .take=(x,5+c.br,⟨cf,ak,aA,av,value,bS,ai,reads,ag,ar,set,bp,aw,am,aJ,aI,aj,.aP c' .take⟩,M'):=by
    unfold dq;rw [hr];dsimp only;rw [h2];simp
   rw [e];intro A F hw hS;refine aH Tryz.func110 λ_=>?_;dsimp only [aa,af] at hS;obtain⟨x0,hS⟩:=aX.open hS .z;(unhygienic cases x0);dsimp only [bW,gH,b9,dZ,bm.fA,aa,af] at hS;have hq:=ff hS hw;revert hq hS hw;clear hS;refine Wu (J7 (Tg.mk (n:=10) @eg) (od pF) (od pE) (od pD) (od pC) (de m) (⟨⟩:Ts (λA'=>A'.bt b=some (.cells [pv dP,pv d9,cX,bj,bO,mv bS bG,pv m,.int .i64 c.br,eB,iM aJ cJ,gN aI cA,bR,bP,aZ,cZ,.int .i64 cf.aR,.int .i64 cf.am,.int .i64 cf.base,.int .i64 cf.c0,.int .i64 cf.c1,.int .i64 cf.c2,.int .i64 cf.c3,.int .i64 cf.reads,.int .i64 cf.cM,.int .i64 cf.ag,.int .i64 cf.ar,.int .i64 cf.aw,.bool cf.aT,.int .i64 ak,.int .i64 aA,.int .i64 av,.int .i64 3,db,.func (.func 135) #[] #[pv c0],.int .i64 c.cg,.int .u64 value,bQ,.int .u64 aw,.bool ai,.int .i64 aj] true 1)) [0,0,0,0,0,0,3,0,0,0,0,1,0,2,3,0] (.aY 0 (.aY 1 (.aY 2 (.aY 3 (.aY 4 (.aY 5 (.aY 7 (.aY 8 (.aY 9 (.aY 10 (.aY 11 (.aY 12 (.uS 6 (.aY 13 (.aY 14 (.aY 15 .nil))) 13 (.aY 6 (.aY 14 (.aY 15 .nil)))))))))))))))))) (J6 h2 ED i5 bF @bd.eq_1 @aU.v.eq_1) (J2 ?_ ?_)<;>(unhygienic intros)
   all_goals(have h:c'.br=c.br+1/\c'.cg=c.cg:=⟨nc h3,yT⟩)
   all_goals(
    refine⟨_,by simp [hq,AW.ab,aD];rfl,by simp [aU.v],?_⟩;apply aX.bI
    (·exact sA)
    exact fP
    (·first|exact pP|exact kP)
    all_goals(first|exact 0|exact undef))
 cases h4:c'.dh
 . by_cases h5:c.cg<cf.aR
   . by_cases h6:c.cg∈reads
     . have h7:(if c.cg<cf.aR/\¬c.cg∈reads then (⟨cf,ak,aA,av,value,bS,ai,reads++[c.cg],ag,ar,set,bp,aw,am,aJ,aI,aj,.aP c' .take⟩:aF) else ⟨cf,ak,aA,av,value,bS,ai,reads,ag,ar,set,bp,aw,am,aJ,aI,aj,.aP c' .take⟩)=⟨cf,ak,aA,av,value,bS,ai,reads,ag,ar,set,bp,aw,am,aJ,aI,aj,.aP c' .take⟩:=ap (λh=>h.2 h6);obtain⟨q,l2,rC⟩:∃q l2,dy cf.reads.toNat set c.fw=(q,l2):=⟨_,_,rfl⟩;have gJ:=λn=>k7 n cf.reads.toNat set (fF cf c.cg) kc wz;rw [<-zG,rC] at gJ;dsimp only at gJ;have Kg:l2.length<=cf.reads.toNat:=by
        have h9:(dy cf.reads.toNat set c.fw).2=l2:=(by rw [rC]);rw [<-h9];unfold dy;split;exact kc;split;exact kc;simp;omega
       have DP:q=false->l2=set:=by
        intro MX;have h9:(dy cf.reads.toNat set c.fw).2=l2:=(by rw [rC]);have h8:(dy cf.reads.toNat set c.fw).1=q:=(by rw [rC]);rw [<-h9];rw [MX] at h8;unfold dy at h8 ⊢;split;rfl;split;rfl;rename_i g1 g2;rw [ap g1,ap g2] at h8;cases h8
       cases q
       . have PD:=DP rfl;subst l2;have e:dq ⟨cf,ak,aA,av,value,bS,ai,reads,ag,ar,set,bp,aw,am,aJ,aI,aj,.aP c .take⟩ M c .take=(x,5+c.br,iL ⟨cf,ak,aA,av,value,bS,ai,reads,ag,ar,set,bp,aw,am,aJ,aI,aj,.aP c' .take⟩ 3,M'):=by
          unfold dq;rw [hr];dsimp only;rw [h2,h4,rC,h7];rfl
         rw [e];intro A F hw hS;refine aH Tryz.func110 λ_=>?_;dsimp only [aa,af] at hS;obtain⟨x0,hS⟩:=aX.open hS .z;(unhygienic cases x0);dsimp only [bW,gH,b9,dZ,bm.fA,aa,af] at hS;have hq:=ff hS hw;rw [zG] at gJ;revert hq hS hw;(repeat first|clear hq|clear hS|clear hw|revert hc|revert R|revert K);refine Wu (rL (Tg.mk (n:=10) @eg) (Tg.mk (n:=10) @dD) (Tg.mk (n:=14) @fD) (Tg.mk (n:=20) (iz b ⟨cf,ak,aA,av,value,bS,ai,reads,ag,ar,set,bp,aw,am,aJ,aI,aj,.aP c' .take⟩ 3 3 .bq hC.cf hC.al hC.push (Nat.lt_of_le_of_lt hC.ln (by decide)))) (od pF) (od pE) (od pD) (od pC) @mf (de m) (gJ dP) (⟨⟩:Ts (λA'=>A'.bt b=some (.cells [pv dP,pv d9,cX,bj,bO,mv bS bG,pv m,.int .i64 c.br,eB,iM aJ cJ,gN aI cA,bR,bP,aZ,cZ,.int .i64 cf.aR,.int .i64 cf.am,.int .i64 cf.base,.int .i64 cf.c0,.int .i64 cf.c1,.int .i64 cf.c2,.int .i64 cf.c3,.int .i64 cf.reads,.int .i64 cf.cM,.int .i64 cf.ag,.int .i64 cf.ar,.int .i64 cf.aw,.bool cf.aT,.int .i64 ak,.int .i64 aA,.int .i64 av,.int .i64 3,db,.func (.func 135) #[] #[pv c0],.int .i64 c.cg,.int .u64 value,bQ,.int .u64 aw,.bool ai,.int .i64 aj] true 1)) [0,0,0,0,0,0,3,0,0,0,0,1,0,2,3,0] (.aY 0 (.aY 1 (.aY 2 (.aY 3 (.aY 4 (.aY 5 (.aY 7 (.aY 8 (.aY 9 (.aY 10 (.aY 11 (.aY 12 (.uS 6 (.aY 13 (.aY 14 (.aY 15 .nil))) 13 (.aY 6 (.aY 14 (.aY 15 .nil)))))))))))))))))) (J9 h2 h4 h5 h6 ED i5 bF @bd.eq_1 @aU.v.eq_1) (J2 ?_ ?_)<;>(unhygienic intros)
         all_goals(
          refine⟨_,by simp [hq,AW.ab,aD];rfl,by simp [aU.v],?_⟩;apply ah.bI
          (·exact sA)
          (·first|exact pP|exact kP))
       have e:dq ⟨cf,ak,aA,av,value,bS,ai,reads,ag,ar,set,bp,aw,am,aJ,aI,aj,.aP c .take⟩ M c .take=(x,5+c.br,Ab ⟨cf,ak,aA,av,value,bS,ai,reads,ag,ar,l2,bp,aw,am,aJ,aI,aj,.bq⟩ c'.val .take,M'):=by
        unfold dq;rw [hr];dsimp only;rw [h2,h4,rC,h7];rfl
       rw [e];intro A F hw hS;refine aH Tryz.func110 λ_=>?_;dsimp only [aa,af] at hS;obtain⟨x0,hS⟩:=aX.open hS .z;(unhygienic cases x0);dsimp only [bW,gH,b9,dZ,bm.fA,aa,af] at hS;have hq:=ff hS hw;rw [zG] at gJ;revert hq hS hw;(repeat first|clear hq|clear hS|clear hw|revert hc|revert R|revert K);refine Wu (kM (Tg.mk (n:=10) @eg) (Tg.mk (n:=10) @dD) (Tg.mk (n:=14) @fD) (Tg.mk (n:=10) @jy) (Tg.mk (n:=21) (nF b c0 ⟨cf,ak,aA,av,value,bS,ai,reads,ag,ar,l2,bp,aw,am,aJ,aI,aj,.bq⟩ c'.val rfl)) (od pF) (od pE) (od pD) (od pC) @mf (de m) (gJ dP) (⟨⟩:Ts (λA'=>A'.bt b=some (.cells [pv dP,pv d9,cX,bj,bO,mv bS bG,pv m,.int .i64 c.br,eB,iM aJ cJ,gN aI cA,bR,bP,aZ,cZ,.int .i64 cf.aR,.int .i64 cf.am,.int .i64 cf.base,.int .i64 cf.c0,.int .i64 cf.c1,.int .i64 cf.c2,.int .i64 cf.c3,.int .i64 cf.reads,.int .i64 cf.cM,.int .i64 cf.ag,.int .i64 cf.ar,.int .i64 cf.aw,.bool cf.aT,.int .i64 ak,.int .i64 aA,.int .i64 av,.int .i64 3,db,.func (.func 135) #[] #[pv c0],.int .i64 c.cg,.int .u64 value,bQ,.int .u64 aw,.bool ai,.int .i64 aj] true 1)) [0,0,0,0,0,0,3,0,0,0,0,1,0,2,3,0] (.aY 0 (.aY 1 (.aY 2 (.aY 3 (.aY 4 (.aY 5 (.aY 7 (.aY 8 (.aY 9 (.aY 10 (.aY 11 (.aY 12 (.uS 6 (.aY 13 (.aY 14 (.aY 15 .nil))) 13 (.aY 6 (.aY 14 (.aY 15 .nil)))))))))))))))))) (J9 h2 h4 h5 h6 ED i5 bF @bd.eq_1 @aU.v.eq_1) (J2 ?_ ?_)<;>(unhygienic intros)
       all_goals(
        refine⟨_,by simp [hq,AW.ab,aD];rfl,by simp [aU.v],?_⟩;apply ah.bI
        (·exact sA)
        (·first|exact pP|exact kP))
     have h7:(if c.cg<cf.aR/\¬c.cg∈reads then (⟨cf,ak,aA,av,value,bS,ai,reads++[c.cg],ag,ar,set,bp,aw,am,aJ,aI,aj,.aP c' .take⟩:aF) else ⟨cf,ak,aA,av,value,bS,ai,reads,ag,ar,set,bp,aw,am,aJ,aI,aj,.aP c' .take⟩)=⟨cf,ak,aA,av,value,bS,ai,reads++[c.cg],ag,ar,set,bp,aw,am,aJ,aI,aj,.aP c' .take⟩:=ay ⟨h5,h6⟩;obtain⟨q,l2,rC⟩:∃q l2,dy cf.reads.toNat set c.fw=(q,l2):=⟨_,_,rfl⟩;have gJ:=λn=>k7 n cf.reads.toNat set (fF cf c.cg) kc wz;rw [<-zG,rC] at gJ;dsimp only at gJ;have Kg:l2.length<=cf.reads.toNat:=by
      have h9:(dy cf.reads.toNat set c.fw).2=l2:=(by rw [rC]);rw [<-h9];unfold dy;split;exact kc;split;exact kc;simp;omega
     have DP:q=false->l2=set:=by
      intro MX;have h9:(dy cf.reads.toNat set c.fw).2=l2:=(by rw [rC]);have h8:(dy cf.reads.toNat set c.fw).1=q:=(by rw [rC]);rw [<-h9];rw [MX] at h8;unfold dy at h8 ⊢;split;rfl;split;rfl;rename_i g1 g2;rw [ap g1,ap g2] at h8;cases h8
     cases q
     . have PD:=DP rfl;subst l2;have e:dq ⟨cf,ak,aA,av,value,bS,ai,reads,ag,ar,set,bp,aw,am,aJ,aI,aj,.aP c .take⟩ M c .take=(x,5+c.br,iL ⟨cf,ak,aA,av,value,bS,ai,reads++[c.cg],ag,ar,set,bp,aw,am,aJ,aI,aj,.aP c' .take⟩ 3,M'):=by
        unfold dq;rw [hr];dsimp only;rw [h2,h4,rC,h7];rfl
       rw [e];intro A F hw hS;refine aH Tryz.func110 λ_=>?_;dsimp only [aa,af] at hS;obtain⟨x0,hS⟩:=aX.open hS .z;(unhygienic cases x0);dsimp only [bW,gH,b9,dZ,bm.fA,aa,af] at hS;have hq:=ff hS hw;rw [zG] at gJ;revert hq hS hw;(repeat first|clear hq|clear hS|clear hw|revert hc|revert R|revert K);refine Wu (rL (Tg.mk (n:=10) @eg) (Tg.mk (n:=10) @dD) (Tg.mk (n:=14) @fD) (Tg.mk (n:=20) (iz b ⟨cf,ak,aA,av,value,bS,ai,reads++[c.cg],ag,ar,set,bp,aw,am,aJ,aI,aj,.aP c' .take⟩ 3 3 .bq hC.cf hC.al hC.push (Nat.lt_of_le_of_lt hC.ln (by decide)))) (od pF) (od pE) (od pD) (od pC) @mf (de m) (gJ dP) (⟨⟩:Ts (λA'=>A'.bt b=some (.cells [pv dP,pv d9,cX,bj,bO,mv bS bG,pv m,.int .i64 c.br,eB,iM aJ cJ,gN aI cA,bR,bP,aZ,cZ,.int .i64 cf.aR,.int .i64 cf.am,.int .i64 cf.base,.int .i64 cf.c0,.int .i64 cf.c1,.int .i64 cf.c2,.int .i64 cf.c3,.int .i64 cf.reads,.int .i64 cf.cM,.int .i64 cf.ag,.int .i64 cf.ar,.int .i64 cf.aw,.bool cf.aT,.int .i64 ak,.int .i64 aA,.int .i64 av,.int .i64 3,db,.func (.func 135) #[] #[pv c0],.int .i64 c.cg,.int .u64 value,bQ,.int .u64 aw,.bool ai,.int .i64 aj] true 1)) [0,0,0,0,0,0,3,0,0,0,0,1,0,2,3,0] (.aY 0 (.aY 1 (.aY 2 (.aY 3 (.aY 4 (.aY 5 (.aY 7 (.aY 8 (.aY 9 (.aY 10 (.aY 11 (.aY 12 (.uS 6 (.aY 13 (.aY 14 (.aY 15 .nil))) 13 (.aY 6 (.aY 14 (.aY 15 .nil)))))))))))))))))) (J9 h2 h4 h5 h6 ED i5 bF @bd.eq_1 @aU.v.eq_1) (J2 ?_ ?_)<;>(unhygienic intros)
       all_goals(
        refine⟨_,by simp [hq,AW.ab,aD];rfl,by simp [aU.v],?_⟩;apply ah.bI
        (·exact sA)
        (·first|exact pP|exact kP))
     have e:dq ⟨cf,ak,aA,av,value,bS,ai,reads,ag,ar,set,bp,aw,am,aJ,aI,aj,.aP c .take⟩ M c .take=(x,5+c.br,Ab ⟨cf,ak,aA,av,value,bS,ai,reads++[c.cg],ag,ar,l2,bp,aw,am,aJ,aI,aj,.bq⟩ c'.val .take,M'):=by
      unfold dq;rw [hr];dsimp only;rw [h2,h4,rC,h7];rfl
     rw [e];intro A F hw hS;refine aH Tryz.func110 λ_=>?_;dsimp only [aa,af] at hS;obtain⟨x0,hS⟩:=aX.open hS .z;(unhygienic cases x0);dsimp only [bW,gH,b9,dZ,bm.fA,aa,af] at hS;have hq:=ff hS hw;rw [zG] at gJ;revert hq hS hw;(repeat first|clear hq|clear hS|clear hw|revert hc|revert R|revert K);refine Wu (kM (Tg.mk (n:=10) @eg) (Tg.mk (n:=10) @dD) (Tg.mk (n:=14) @fD) (Tg.mk (n:=10) @jy) (Tg.mk (n:=21) (nF b c0 ⟨cf,ak,aA,av,value,bS,ai,reads++[c.cg],ag,ar,l2,bp,aw,am,aJ,aI,aj,.bq⟩ c'.val rfl)) (od pF) (od pE) (od pD) (od pC) @mf (de m) (gJ dP) (⟨⟩:Ts (λA'=>A'.bt b=some (.cells [pv dP,pv d9,cX,bj,bO,mv bS bG,pv m,.int .i64 c.br,eB,iM aJ cJ,gN aI cA,bR,bP,aZ,cZ,.int .i64 cf.aR,.int .i64 cf.am,.int .i64 cf.base,.int .i64 cf.c0,.int .i64 cf.c1,.int .i64 cf.c2,.int .i64 cf.c3,.int .i64 cf.reads,.int .i64 cf.cM,.int .i64 cf.ag,.int .i64 cf.ar,.int .i64 cf.aw,.bool cf.aT,.int .i64 ak,.int .i64 aA,.int .i64 av,.int .i64 3,db,.func (.func 135) #[] #[pv c0],.int .i64 c.cg,.int .u64 value,bQ,.int .u64 aw,.bool ai,.int .i64 aj] true 1)) [0,0,0,0,0,0,3,0,0,0,0,1,0,2,3,0] (.aY 0 (.aY 1 (.aY 2 (.aY 3 (.aY 4 (.aY 5 (.aY 7 (.aY 8 (.aY 9 (.aY 10 (.aY 11 (.aY 12 (.uS 6 (.aY 13 (.aY 14 (.aY 15 .nil))) 13 (.aY 6 (.aY 14 (.aY 15 .nil)))))))))))))))))) (J9 h2 h4 h5 h6 ED i5 bF @bd.eq_1 @aU.v.eq_1) (J2 ?_ ?_)<;>(unhygienic intros)
     all_goals(
      refine⟨_,by simp [hq,AW.ab,aD];rfl,by simp [aU.v],?_⟩;apply ah.bI
      (·exact sA)
      (·first|exact pP|exact kP))
   have h6:True:=trivial;have h7:(if c.cg<cf.aR/\¬c.cg∈reads then (⟨cf,ak,aA,av,value,bS,ai,reads++[c.cg],ag,ar,set,bp,aw,am,aJ,aI,aj,.aP c' .take⟩:aF) else ⟨cf,ak,aA,av,value,bS,ai,reads,ag,ar,set,bp,aw,am,aJ,aI,aj,.aP c' .take⟩)=⟨cf,ak,aA,av,value,bS,ai,reads,ag,ar,set,bp,aw,am,aJ,aI,aj,.aP c' .take⟩:=ap (λh=>h5 h.1);obtain⟨q,l2,rC⟩:∃q l2,dy cf.reads.toNat set c.fw=(q,l2):=⟨_,_,rfl⟩;have gJ:=λn=>k7 n cf.reads.toNat set (fF cf c.cg) kc wz;rw [<-zG,rC] at gJ;dsimp only at gJ;have Kg:l2.length<=cf.reads.toNat:=by
    have h9:(dy cf.reads.toNat set c.fw).2=l2:=(by rw [rC]);rw [<-h9];unfold dy;split;exact kc;split;exact kc;simp;omega
   have DP:q=false->l2=set:=by
    intro MX;have h9:(dy cf.reads.toNat set c.fw).2=l2:=(by rw [rC]);have h8:(dy cf.reads.toNat set c.fw).1=q:=(by rw [rC]);rw [<-h9];rw [MX] at h8;unfold dy at h8 ⊢;split;rfl;split;rfl;rename_i g1 g2;rw [ap g1,ap g2] at h8;cases h8
   cases q
   . have PD:=DP rfl;subst l2;have e:dq ⟨cf,ak,aA,av,value,bS,ai,reads,ag,ar,set,bp,aw,am,aJ,aI,aj,.aP c .take⟩ M c .take=(x,5+c.br,iL ⟨cf,ak,aA,av,value,bS,ai,reads,ag,ar,set,bp,aw,am,aJ,aI,aj,.aP c' .take⟩ 3,M'):=by
      unfold dq;rw [hr];dsimp only;rw [h2,h4,rC,h7];rfl
     rw [e];intro A F hw hS;refine aH Tryz.func110 λ_=>?_;dsimp only [aa,af] at hS;obtain⟨x0,hS⟩:=aX.open hS .z;(unhygienic cases x0);dsimp only [bW,gH,b9,dZ,bm.fA,aa,af] at hS;have hq:=ff hS hw;rw [zG] at gJ;revert hq hS hw;(repeat first|clear hq|clear hS|clear hw|revert hc|revert R|revert K);refine Wu (rL (Tg.mk (n:=10) @eg) (Tg.mk (n:=10) @dD) (Tg.mk (n:=14) @fD) (Tg.mk (n:=20) (iz b ⟨cf,ak,aA,av,value,bS,ai,reads,ag,ar,set,bp,aw,am,aJ,aI,aj,.aP c' .take⟩ 3 3 .bq hC.cf hC.al hC.push (Nat.lt_of_le_of_lt hC.ln (by decide)))) (od pF) (od pE) (od pD) (od pC) @mf (de m) (gJ dP) (⟨⟩:Ts (λA'=>A'.bt b=some (.cells [pv dP,pv d9,cX,bj,bO,mv bS bG,pv m,.int .i64 c.br,eB,iM aJ cJ,gN aI cA,bR,bP,aZ,cZ,.int .i64 cf.aR,.int .i64 cf.am,.int .i64 cf.base,.int .i64 cf.c0,.int .i64 cf.c1,.int .i64 cf.c2,.int .i64 cf.c3,.int .i64 cf.reads,.int .i64 cf.cM,.int .i64 cf.ag,.int .i64 cf.ar,.int .i64 cf.aw,.bool cf.aT,.int .i64 ak,.int .i64 aA,.int .i64 av,.int .i64 3,db,.func (.func 135) #[] #[pv c0],.int .i64 c.cg,.int .u64 value,bQ,.int .u64 aw,.bool ai,.int .i64 aj] true 1)) [0,0,0,0,0,0,3,0,0,0,0,1,0,2,3,0] (.aY 0 (.aY 1 (.aY 2 (.aY 3 (.aY 4 (.aY 5 (.aY 7 (.aY 8 (.aY 9 (.aY 10 (.aY 11 (.aY 12 (.uS 6 (.aY 13 (.aY 14 (.aY 15 .nil))) 13 (.aY 6 (.aY 14 (.aY 15 .nil)))))))))))))))))) (J9 h2 h4 h5 h6 ED i5 bF @bd.eq_1 @aU.v.eq_1) (J2 ?_ ?_)<;>(unhygienic intros)
     all_goals(
      refine⟨_,by simp [hq,AW.ab,aD];rfl,by simp [aU.v],?_⟩;apply ah.bI
      (·exact sA)
      (·first|exact pP|exact kP))
   have e:dq ⟨cf,ak,aA,av,value,bS,ai,reads,ag,ar,set,bp,aw,am,aJ,aI,aj,.aP c .take⟩ M c .take=(x,5+c.br,Ab ⟨cf,ak,aA,av,value,bS,ai,reads,ag,ar,l2,bp,aw,am,aJ,aI,aj,.bq⟩ c'.val .take,M'):=by
    unfold dq;rw [hr];dsimp only;rw [h2,h4,rC,h7];rfl
   rw [e];intro A F hw hS;refine aH Tryz.func110 λ_=>?_;dsimp only [aa,af] at hS;obtain⟨x0,hS⟩:=aX.open hS .z;(unhygienic cases x0);dsimp only [bW,gH,b9,dZ,bm.fA,aa,af] at hS;have hq:=ff hS hw;rw [zG] at gJ;revert hq hS hw;(repeat first|clear hq|clear hS|clear hw|revert hc|revert R|revert K);refine Wu (kM (Tg.mk (n:=10) @eg) (Tg.mk (n:=10) @dD) (Tg.mk (n:=14) @fD) (Tg.mk (n:=10) @jy) (Tg.mk (n:=21) (nF b c0 ⟨cf,ak,aA,av,value,bS,ai,reads,ag,ar,l2,bp,aw,am,aJ,aI,aj,.bq⟩ c'.val rfl)) (od pF) (od pE) (od pD) (od pC) @mf (de m) (gJ dP) (⟨⟩:Ts (λA'=>A'.bt b=some (.cells [pv dP,pv d9,cX,bj,bO,mv bS bG,pv m,.int .i64 c.br,eB,iM aJ cJ,gN aI cA,bR,bP,aZ,cZ,.int .i64 cf.aR,.int .i64 cf.am,.int .i64 cf.base,.int .i64 cf.c0,.int .i64 cf.c1,.int .i64 cf.c2,.int .i64 cf.c3,.int .i64 cf.reads,.int .i64 cf.cM,.int .i64 cf.ag,.int .i64 cf.ar,.int .i64 cf.aw,.bool cf.aT,.int .i64 ak,.int .i64 aA,.int .i64 av,.int .i64 3,db,.func (.func 135) #[] #[pv c0],.int .i64 c.cg,.int .u64 value,bQ,.int .u64 aw,.bool ai,.int .i64 aj] true 1)) [0,0,0,0,0,0,3,0,0,0,0,1,0,2,3,0] (.aY 0 (.aY 1 (.aY 2 (.aY 3 (.aY 4 (.aY 5 (.aY 7 (.aY 8 (.aY 9 (.aY 10 (.aY 11 (.aY 12 (.uS 6 (.aY 13 (.aY 14 (.aY 15 .nil))) 13 (.aY 6 (.aY 14 (.aY 15 .nil)))))))))))))))))) (J9 h2 h4 h5 h6 ED i5 bF @bd.eq_1 @aU.v.eq_1) (J2 ?_ ?_)<;>(unhygienic intros)
   all_goals(
    refine⟨_,by simp [hq,AW.ab,aD];rfl,by simp [aU.v],?_⟩;apply ah.bI
    (·exact sA)
    (·first|exact pP|exact kP))
 have e:dq ⟨cf,ak,aA,av,value,bS,ai,reads,ag,ar,set,bp,aw,am,aJ,aI,aj,.aP c .take⟩ M c .take=(x,5+c.br,iL ⟨cf,ak,aA,av,value,bS,ai,reads,ag,ar,set,bp,aw,am,aJ,aI,aj,.aP c' .take⟩ 9,M'):=by
  unfold dq;rw [hr];dsimp only;rw [h2,h4];simp
 rw [e];intro A F hw hS;refine aH Tryz.func110 λ_=>?_;dsimp only [aa,af] at hS;obtain⟨x0,hS⟩:=aX.open hS .z;(unhygienic cases x0);dsimp only [bW,gH,b9,dZ,bm.fA,aa,af] at hS;have hq:=ff hS hw;revert hq hS hw;(repeat first|clear hq|clear hS|clear hw|revert hc|revert R|revert K);refine Wu (J9 (Tg.mk (n:=10) @eg) (Tg.mk (n:=10) @dD) (Tg.mk (n:=20) (iz b ⟨cf,ak,aA,av,value,bS,ai,reads,ag,ar,set,bp,aw,am,aJ,aI,aj,.aP c' .take⟩ 3 9 .bq hC.cf hC.al hC.push (Nat.lt_of_le_of_lt hC.ln (by decide)))) (od pF) (od pE) (od pD) (od pC) (de m) (⟨⟩:Ts (λA'=>A'.bt b=some (.cells [pv dP,pv d9,cX,bj,bO,mv bS bG,pv m,.int .i64 c.br,eB,iM aJ cJ,gN aI cA,bR,bP,aZ,cZ,.int .i64 cf.aR,.int .i64 cf.am,.int .i64 cf.base,.int .i64 cf.c0,.int .i64 cf.c1,.int .i64 cf.c2,.int .i64 cf.c3,.int .i64 cf.reads,.int .i64 cf.cM,.int .i64 cf.ag,.int .i64 cf.ar,.int .i64 cf.aw,.bool cf.aT,.int .i64 ak,.int .i64 aA,.int .i64 av,.int .i64 3,db,.func (.func 135) #[] #[pv c0],.int .i64 c.cg,.int .u64 value,bQ,.int .u64 aw,.bool ai,.int .i64 aj] true 1)) [0,0,0,0,0,0,3,0,0,0,0,1,0,2,3,0] (.aY 0 (.aY 1 (.aY 2 (.aY 3 (.aY 4 (.aY 5 (.aY 7 (.aY 8 (.aY 9 (.aY 10 (.aY 11 (.aY 12 (.uS 6 (.aY 13 (.aY 14 (.aY 15 .nil))) 13 (.aY 6 (.aY 14 (.aY 15 .nil)))))))))))))))))) (J7 h2 h4 ED i5 bF @bd.eq_1 @aU.v.eq_1) (J2 ?_ ?_)<;>(unhygienic intros)
 all_goals(
  refine⟨_,by simp [hq,AW.ab,aD];rfl,by simp [aU.v],?_⟩;apply ah.bI
  (·exact sA)
  (·first|exact pP|exact kP))
end
end Go.Stx
