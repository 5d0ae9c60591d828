/-
 The program's attempt: its requests.
-/
import Derived.Test.YtipomeafemoelaaGreatDoorG04
set_option linter.unusedVariables false
set_option linter.unusedSimpArgs false
set_option linter.unusedSectionVars false
set_option maxRecDepth 20000
set_option maxHeartbeats 4000000
open Go.IntKind renaming i64->qg
open Go.Proofs.Tryz renaming func118->kbd,func119->kas,prog->qa
open Nat renaming lt_of_le_of_lt->Zw
namespace Go.Stx
open Go Go.Proofs
attribute [local irreducible] TW bG c8 aY aD aO cK da
section
abbrev At:List (Nat×Nat):=[(0,0),(1,0),(2,0),(3,0),(4,0),(5,0),(6,0),(7,0),(8,0),(9,0),(10,0),(11,0)]
abbrev xA:List (Nat×Nat):=[(0,0),(1,0),(2,0),(3,0),(4,0),(5,0),(6,0),(7,0)]
open T12 T13
variable [Gl]
theorem fp {f:FuncId} {args:List Value} {V:Value} {b:Nat} {s:aJ} (hC:∀A':AW,A'.Wf->ah A' [.h (bf b s)]->fh f args A' V)
 {A:AW} {L K:List It} {k:Value->AW->Prop} (hw:A.Wf) (hS:ah A L) (hp:aE L (.h (bf b s)) K) (hk:k V A):aD qa f args A k:=by
 refine bO (hC A hw (ah.bS hS (.s hp .z))) ?_;rintro _ _ ⟨rfl,rfl⟩ _ _;exact hk
theorem jd (b:Nat) (s:aJ) (st:Int) (h:s.mi st=true):∀A':AW,A'.Wf->ah A' [.h (jj b s 0 .bF)]->fh 135 [pv b,.int .i64 st] A' (.int .i64 0):=by
 intro A' h1 h2;have h3:s.aH.fY=0:=by
  unfold aJ.mi at h;simp at h;exact h.1
 have:=Eh b s st .bF A' h1 (by rw [h3];exact h2);rwa [aA h] at this
theorem tP (b:Nat) (s:aJ) (st:Int) (h:¬s.mi st=true):∀A':AW,A'.Wf->ah A' [.h (bf b s)]->fh 135 [pv b,.int .i64 st] A' (.int .i64 1):=by
 intro A' h1 h2;have:=Eh b s st s.aH A' h1 (bf.Uw h2 .z);rwa [aw h] at this
theorem xF {s:aJ} {st:Int} (h:s.mi st=true):s.aH=.bF/\s.aF=st:=by
 unfold aJ.mi at h;simp at h;refine⟨?_,h.2⟩;have h1:=h.1;revert h1;cases s.aH<;>simp [bD.fY]
theorem TG {c:br} (hc:cX c) (a:Int):kU c a<=64:=by
 have:=hc.nb;unfold kU;split;rename_i b h;have h1:=List.mem_range.1 (List.mem_of_find?_eq_some h);omega;omega
theorem N6 (b:Nat) (s:aJ) :
 bn qa 149 [pv b] [.h (bf b s)] (λv=>v=.int .i64 (fU s).1) (λ_=>[.h (bf b (fU s).2)]):=by
 by_cases hf:s.mi 0=true
 . skip
   obtain⟨h1,h2⟩:=xF hf;(unhygienic cases s);dsimp only at h1 h2;subst h1 h2;intro A F hw hS;refine aN Tryz.func149 λ_=>?_;obtain⟨x0,hS⟩:=bf.open hS .z;(unhygienic cases x0);dsimp only [cr,iJ,cZ,eH,bD.fY,aa,af] at hS;have hq:=eV hS hw;have S9:=hw.lt (hS.g 0 rfl);have nY:(b=A.next+1+1)=False:=eq_false (by omega);have xJ:(A.next+1+1=b)=False:=eq_false (by omega);have yZ:(A.next=A.next+1+1)=False:=eq_false (by omega);have e:fU ⟨cf,aj,0,aC,value,b7,am,reads,an,ay,set,bz,aB,ao,aP,aL,au,.bF⟩=(0,_):=aA hf;revert hq hS hw;clear hS;refine Wp (J2 (Tg.mk (n:=30) (jd b ⟨cf,aj,0,aC,value,b7,am,reads,an,ay,set,bz,aB,ao,aP,aL,au,.bF⟩ 0 hf)) @Gx) (J4 nY xJ yZ bE) ?_<;>(unhygienic intros);rw [e];refine⟨_,by first|rfl|(simp;rfl),rfl,?_⟩;apply bf.bS
   (·exact sA)
   exact fP
   (·first|exact pP|exact kP)
   all_goals(first|exact 0|exact undef)
 have e:fU s=(1,s):=aw hf;intro A F hw hS;refine aN Tryz.func149 λ_=>?_
 try dsimp only [aa,af] at hS
 have hr:=tP b s 0 hf;revert hS hw;(repeat first|clear hS|clear hw|revert hc|revert R|revert K);refine Wp (J1 (Tg.mk (n:=10) (λ{A L K k}=>fp (A:=A) (L:=L) (K:=K) (k:=k) hr))) (J1 bE) ?_<;>(unhygienic intros);rw [e];refine⟨_,by first|rfl|(simp;rfl),rfl,?_⟩;apply ah.bS
 (·exact sA)
 (·first|exact pP|exact kP)
theorem DO (b:Nat) (s:aJ) (a v:Int) :
 bn qa 95 [pv b,.int .u64 a,.int .u64 v] [.h (bf b s)] (λu=>u=.int .i64 (F1 s a v).1) (λ_=>[.h (bf b (F1 s a v).2)]):=by
 by_cases hf:s.mi 1=true
 . skip
   obtain⟨h1,h2⟩:=xF hf;(unhygienic cases s);dsimp only at h1 h2;subst h1 h2;intro A F hw hS;refine aN Tryz.func95 λ_=>?_;obtain⟨x0,hS⟩:=bf.open hS .z;(unhygienic cases x0);dsimp only [cr,iJ,cZ,eH,bD.fY,aa,af] at hS;have hq:=eV hS hw;have S9:=hw.lt (hS.g 0 rfl);have nY:(b=A.next+1+1)=False:=eq_false (by omega);have xJ:(A.next+1+1=b)=False:=eq_false (by omega);have yZ:(A.next=A.next+1+1)=False:=eq_false (by omega);have e:F1 ⟨cf,aj,1,aC,value,b7,am,reads,an,ay,set,bz,aB,ao,aP,aL,au,.bF⟩ a v=(0,_):=aA hf;revert hq hS hw;clear hS;refine Wp (J2 (Tg.mk (n:=30) (jd b ⟨cf,aj,1,aC,value,b7,am,reads,an,ay,set,bz,aB,ao,aP,aL,au,.bF⟩ 1 hf)) (Tg.mk (n:=31) (λ{A L K k fn cs eu eS bM de db m c0 c1 c2 dk bx bU b5 eB dl fl b6 bZ bj dm dw gQ eC}=>ka (A:=A) (L:=L) (K:=K) (k:=k) (fn:=fn) (cs:=cs) (eu:=eu) (eS:=eS) (bM:=bM) (de:=de) (db:=db) (m:=m) (c0:=c0) (c1:=c1) (c2:=c2) (dk:=dk) (bx:=bx) (bU:=bU) (b5:=b5) (eB:=eB) (dl:=dl) (fl:=fl) (b6:=b6) (bZ:=bZ) (bj:=bj) (dm:=dm) (dw:=dw) (gQ:=gQ) (eC:=eC) (s:=⟨cf,aj,1,aC,value,b7,am,reads,an,ay,set,bz,aB,ao,aP,aL,au,.bF⟩) (bW:=0)))) (J4 nY xJ yZ bE) ?_<;>(unhygienic intros)
   rw [e];refine⟨_,by first|rfl|(simp;rfl),rfl,?_⟩;apply bf.bS
   (·exact sA)
   exact fP
   (·first|exact pP|exact kP)
   all_goals(first|exact 0|exact undef)
 have e:F1 s a v=(1,s):=aw hf;intro A F hw hS;refine aN Tryz.func95 λ_=>?_
 try dsimp only [aa,af] at hS
 have hr:=tP b s 1 hf;revert hS hw;(repeat first|clear hS|clear hw|revert hc|revert R|revert K);refine Wp (J1 (Tg.mk (n:=10) (λ{A L K k}=>fp (A:=A) (L:=L) (K:=K) (k:=k) hr))) (J1 bE) ?_<;>(unhygienic intros);rw [e];refine⟨_,by first|rfl|(simp;rfl),rfl,?_⟩;apply ah.bS
 (·exact sA)
 (·first|exact pP|exact kP)
theorem wR (b:Nat) (s:aJ) (oT:Int) :
 bn qa 92 [pv b,.int .i64 oT] [.h (bf b s)] (λu=>u=.int .i64 (Dk s oT).1) (λ_=>[.h (bf b (Dk s oT).2)]):=by
 by_cases hf:s.mi 1=true
 . skip
   obtain⟨h1,h2⟩:=xF hf;(unhygienic cases s);dsimp only at h1 h2;subst h1 h2;intro A F hw hS;refine aN Tryz.func92 λ_=>?_;obtain⟨x0,hS⟩:=bf.open hS .z;(unhygienic cases x0);dsimp only [cr,iJ,cZ,eH,bD.fY,aa,af] at hS;have hq:=eV hS hw;have S9:=hw.lt (hS.g 0 rfl);have nY:(b=A.next+1+1)=False:=eq_false (by omega);have xJ:(A.next+1+1=b)=False:=eq_false (by omega);have yZ:(A.next=A.next+1+1)=False:=eq_false (by omega);have e0:Dk ⟨cf,aj,1,aC,value,b7,am,reads,an,ay,set,bz,aB,ao,aP,aL,au,.bF⟩ oT=_:=aA hf;dsimp only at e0;by_cases g1:oT=1
   . have e:=e0.trans (aw (by omega));revert hq hS hw;clear hS;refine Wp (J2 (Tg.mk (n:=30) (jd b ⟨cf,aj,1,aC,value,b7,am,reads,an,ay,set,bz,aB,ao,aP,aL,au,.bF⟩ 1 hf)) (Tg.mk (n:=31) (λ{A L K k fn cs eu eS bM de db m c0 c1 c2 dk bx bU b5 eB dl fl b6 bZ bj dm dw gQ eC}=>ka (A:=A) (L:=L) (K:=K) (k:=k) (fn:=fn) (cs:=cs) (eu:=eu) (eS:=eS) (bM:=bM) (de:=de) (db:=db) (m:=m) (c0:=c0) (c1:=c1) (c2:=c2) (dk:=dk) (bx:=bx) (bU:=bU) (b5:=b5) (eB:=eB) (dl:=dl) (fl:=fl) (b6:=b6) (bZ:=bZ) (bj:=bj) (dm:=dm) (dw:=dw) (gQ:=gQ) (eC:=eC) (s:=⟨cf,aj,1,aC,value,b7,am,reads,an,ay,set,bz,aB,ao,aP,aL,au,.bF⟩) (bW:=0)))) (J5 nY xJ yZ g1 bE) ?_<;>(unhygienic intros);subst g1;rw [e];refine⟨_,by first|rfl|(simp;rfl),rfl,?_⟩;apply bf.bS
     (·exact sA)
     exact fP
     (·first|exact pP|exact kP)
     all_goals(first|exact 0|exact undef)
   by_cases g2:oT=2
   . have e:=e0.trans (aw (by omega));revert hq hS hw;(repeat first|clear hq|clear hS|clear hw|revert hc|revert R|revert K);refine Wp (J2 (Tg.mk (n:=30) (jd b ⟨cf,aj,1,aC,value,b7,am,reads,an,ay,set,bz,aB,ao,aP,aL,au,.bF⟩ 1 hf)) (Tg.mk (n:=31) (λ{A L K k fn cs eu eS bM de db m c0 c1 c2 dk bx bU b5 eB dl fl b6 bZ bj dm dw gQ eC}=>ka (A:=A) (L:=L) (K:=K) (k:=k) (fn:=fn) (cs:=cs) (eu:=eu) (eS:=eS) (bM:=bM) (de:=de) (db:=db) (m:=m) (c0:=c0) (c1:=c1) (c2:=c2) (dk:=dk) (bx:=bx) (bU:=bU) (b5:=b5) (eB:=eB) (dl:=dl) (fl:=fl) (b6:=b6) (bZ:=bZ) (bj:=bj) (dm:=dm) (dw:=dw) (gQ:=gQ) (eC:=eC) (s:=⟨cf,aj,1,aC,value,b7,am,reads,an,ay,set,bz,aB,ao,aP,aL,au,.bF⟩) (bW:=0)))) (J6 nY xJ yZ g1 g2 bE) ?_<;>(unhygienic intros);subst g2;rw [e];refine⟨_,by first|rfl|(simp;rfl),rfl,?_⟩;apply bf.bS
     (·exact sA)
     exact fP
     (·first|exact pP|exact kP)
     all_goals(first|exact 0|exact undef)
   have e:=e0.trans (aA ⟨g1,g2⟩);revert hq hS hw;(repeat first|clear hq|clear hS|clear hw|revert hc|revert R|revert K);refine Wp (J1 (Tg.mk (n:=30) (jd b ⟨cf,aj,1,aC,value,b7,am,reads,an,ay,set,bz,aB,ao,aP,aL,au,.bF⟩ 1 hf))) (J6 nY xJ yZ g1 g2 bE) ?_<;>(unhygienic intros);rw [e];refine⟨_,by first|rfl|(simp;rfl),rfl,?_⟩;apply bf.bS
   (·exact sA)
   exact fP
   (·first|exact pP|exact kP)
   all_goals(first|exact 0|exact undef)
 have e:Dk s oT=(1,s):=aw hf;intro A F hw hS;refine aN Tryz.func92 λ_=>?_
 try dsimp only [aa,af] at hS
 have hr:=tP b s 1 hf;revert hS hw;(repeat first|clear hS|clear hw|revert hc|revert R|revert K);refine Wp (J1 (Tg.mk (n:=10) (λ{A L K k}=>fp (A:=A) (L:=L) (K:=K) (k:=k) hr))) (J1 bE) ?_<;>(unhygienic intros);rw [e];refine⟨_,by first|rfl|(simp;rfl),rfl,?_⟩;apply ah.bS
 (·exact sA)
 (·first|exact pP|exact kP)
theorem Hl (b:Nat) (s:aJ) (a:Int) (hC:gL s) (ha:0<=a) :
 bn qa 93 [pv b,.int .u64 a] [.h (bf b s)] (λu=>u=.int .i64 (Hm s a).1) (λ_=>[.h (bf b (Hm s a).2)]):=by
 by_cases hf:s.mi 1=true
 . skip
   obtain⟨h1,h2⟩:=xF hf;(unhygienic cases s);dsimp only at h1 h2;subst h1 h2;intro A F hw hS;refine aN Tryz.func93 λ_=>?_;obtain⟨x0,hS⟩:=bf.open hS .z;(unhygienic cases x0);dsimp only [cr,iJ,cZ,eH,bD.fY,aa,af] at hS;have hq:=eV hS hw;have S9:=hw.lt (hS.g 0 rfl);have nY:(b=A.next+1+1)=False:=eq_false (by omega);have xJ:(A.next+1+1=b)=False:=eq_false (by omega);have yZ:(A.next=A.next+1+1)=False:=eq_false (by omega);have UA:=hC.cf.be;dsimp only at UA;have e0:Hm ⟨cf,aj,1,aC,value,b7,am,reads,an,ay,set,bz,aB,ao,aP,aL,au,.bF⟩ a=_:=aA hf;dsimp only at e0;by_cases g1:cf.be<=a
   . have e:=e0.trans (aA g1);revert hq hS hw;clear hS;refine Wp (J3 (Tg.mk (n:=30) (jd b ⟨cf,aj,1,aC,value,b7,am,reads,an,ay,set,bz,aB,ao,aP,aL,au,.bF⟩ 1 hf)) (Tg.mk (n:=30) (pO b ⟨cf,aj,1,aC,value,b7,am,reads,an,ay,set,bz,aB,ao,aP,aL,au,.bF⟩ 0 a .bF hC.cf)) (Tg.mk (n:=31) (λ{A L K k fn cs eu eS bM de db m c0 c1 c2 dk bx bU b5 eB dl fl b6 bZ bj dm dw gQ eC}=>ka (A:=A) (L:=L) (K:=K) (k:=k) (fn:=fn) (cs:=cs) (eu:=eu) (eS:=eS) (bM:=bM) (de:=de) (db:=db) (m:=m) (c0:=c0) (c1:=c1) (c2:=c2) (dk:=dk) (bx:=bx) (bU:=bU) (b5:=b5) (eB:=eB) (dl:=dl) (fl:=fl) (b6:=b6) (bZ:=bZ) (bj:=bj) (dm:=dm) (dw:=dw) (gQ:=gQ) (eC:=eC) (s:=⟨cf,aj,1,aC,value,b7,am,reads,an,ay,set,bz,aB,ao,aP,aL,au,.bF⟩) (bW:=0)))) (J5 nY xJ yZ g1 bE) ?_<;>(unhygienic intros);rw [e];refine⟨_,by first|rfl|(simp;rfl),rfl,?_⟩;apply bf.bS
     (·exact sA)
     exact fP
     (·first|exact pP|exact kP)
     all_goals(first|exact 0|exact undef)
   have YB:qg.wrap a=a:=ar (by omega) (by omega);have hlg:∀x y,ll bz a=(x,y)->(ll bz a).1=x/\(ll bz a).2=y:=λx y h=>by rw [h];exact⟨rfl,rfl⟩
   cases g2:(ll bz a).2
   . have e:=e0.trans ((aw g1).trans (aw (by rw [g2];simp)));revert hq hS hw;(repeat first|clear hq|clear hS|clear hw|revert hc|revert R|revert K);refine Wp (J4 (Tg.mk (n:=30) (jd b ⟨cf,aj,1,aC,value,b7,am,reads,an,ay,set,bz,aB,ao,aP,aL,au,.bF⟩ 1 hf)) (Tg.mk (n:=30) (pO b ⟨cf,aj,1,aC,value,b7,am,reads,an,ay,set,bz,aB,ao,aP,aL,au,.bF⟩ 0 a .bF hC.cf)) (Tg.mk (n:=10) (λ{A L K k n}=>uS (A:=A) (L:=L) (K:=K) (k:=k) (n:=n) hC.bz hC.eA hC.cL ha)) (Tg.mk (n:=31) (λ{A L K k fn cs eu eS bM de db m c0 c1 c2 dk bx bU b5 eB dl fl b6 bZ bj dm dw gQ eC}=>D7 (A:=A) (L:=L) (K:=K) (k:=k) (fn:=fn) (cs:=cs) (eu:=eu) (eS:=eS) (bM:=bM) (de:=de) (db:=db) (m:=m) (c0:=c0) (c1:=c1) (c2:=c2) (dk:=dk) (bx:=bx) (bU:=bU) (b5:=b5) (eB:=eB) (dl:=dl) (fl:=fl) (b6:=b6) (bZ:=bZ) (bj:=bj) (dm:=dm) (dw:=dw) (gQ:=gQ) (eC:=eC) (s:=⟨cf,aj,1,aC,value,b7,am,reads,an,ay,set,bz,aB,ao,aP,aL,au,.bF⟩) (bW:=0) hC.cf))) (J7 nY xJ yZ g1 g2 YB bE) ?_<;>(unhygienic intros)
     rw [e];refine⟨_,by first|rfl|(simp;rfl),rfl,?_⟩;apply bf.bS
     (·exact sA)
     exact fP
     (·first|exact pP|exact kP)
     all_goals(first|exact 0|exact undef)
   have e:=e0.trans ((aw g1).trans (aA g2));revert hq hS hw;(repeat first|clear hq|clear hS|clear hw|revert hc|revert R|revert K);refine Wp (J4 (Tg.mk (n:=30) (jd b ⟨cf,aj,1,aC,value,b7,am,reads,an,ay,set,bz,aB,ao,aP,aL,au,.bF⟩ 1 hf)) (Tg.mk (n:=30) (pO b ⟨cf,aj,1,aC,value,b7,am,reads,an,ay,set,bz,aB,ao,aP,aL,au,.bF⟩ 0 a .bF hC.cf)) (Tg.mk (n:=10) (λ{A L K k n}=>uS (A:=A) (L:=L) (K:=K) (k:=k) (n:=n) hC.bz hC.eA hC.cL ha)) (Tg.mk (n:=31) (λ{A L K k fn cs eu eS bM de db m c0 c1 c2 dk bx bU b5 eB dl fl b6 bZ bj dm dw gQ eC}=>ka (A:=A) (L:=L) (K:=K) (k:=k) (fn:=fn) (cs:=cs) (eu:=eu) (eS:=eS) (bM:=bM) (de:=de) (db:=db) (m:=m) (c0:=c0) (c1:=c1) (c2:=c2) (dk:=dk) (bx:=bx) (bU:=bU) (b5:=b5) (eB:=eB) (dl:=dl) (fl:=fl) (b6:=b6) (bZ:=bZ) (bj:=bj) (dm:=dm) (dw:=dw) (gQ:=gQ) (eC:=eC) (s:=⟨cf,aj,1,aC,value,b7,am,reads,an,ay,set,bz,aB,ao,aP,aL,au,.bF⟩) (bW:=0)))) (J7 nY xJ yZ g1 g2 YB bE) ?_<;>(unhygienic intros)
   rw [e];refine⟨_,by first|rfl|(simp;rfl),rfl,?_⟩;apply bf.bS
   (·exact sA)
   exact fP
   (·first|exact pP|exact kP)
   all_goals(first|exact 0|exact undef)
 have e:Hm s a=(1,s):=aw hf;intro A F hw hS;refine aN Tryz.func93 λ_=>?_
 try dsimp only [aa,af] at hS
 have hr:=tP b s 1 hf;revert hS hw;(repeat first|clear hS|clear hw|revert hc|revert R|revert K);refine Wp (J1 (Tg.mk (n:=10) (λ{A L K k}=>fp (A:=A) (L:=L) (K:=K) (k:=k) hr))) (J1 bE) ?_<;>(unhygienic intros);rw [e];refine⟨_,by first|rfl|(simp;rfl),rfl,?_⟩;apply ah.bS
 (·exact sA)
 (·first|exact pP|exact kP)
theorem Oi (b:Nat) (s:aJ) (eE:Int) (hC:gL s) :
 bn qa 150 [pv b,.int .i64 eE] [.h (bf b s)] (λu=>u=.int .i64 (L0 s eE).1) (λ_=>[.h (bf b (L0 s eE).2)]):=by
 by_cases hf:s.mi 1=true
 . skip
   obtain⟨h1,h2⟩:=xF hf;(unhygienic cases s);dsimp only at h1 h2;subst h1 h2;intro A F hw hS;refine aN Tryz.func150 λ_=>?_;obtain⟨x0,hS⟩:=bf.open hS .z;(unhygienic cases x0);dsimp only [cr,iJ,cZ,eH,bD.fY,aa,af] at hS;have hq:=eV hS hw;have S9:=hw.lt (hS.g 0 rfl);have nY:(b=A.next+1+1)=False:=eq_false (by omega);have xJ:(A.next+1+1=b)=False:=eq_false (by omega);have yZ:(A.next=A.next+1+1)=False:=eq_false (by omega);have pY:=hC.nC;dsimp only at pY;obtain⟨oa,ca,rfl,_⟩:=(ah.tE hS (.s (.s (.s (.s (.s (.s (.s .z)))))))).cy;have e0:L0 ⟨cf,aj,1,aC,value,b7,am,reads,an,ay,set,bz,aB,ao,aP,aL,au,.bF⟩ eE=_:=aA hf;dsimp only at e0;by_cases g1:eE<0
   . have e:=e0.trans (aA (.inl g1));revert hq hS hw;clear hS;refine Wp (J2 (Tg.mk (n:=30) (jd b ⟨cf,aj,1,aC,value,b7,am,reads,an,ay,set,bz,aB,ao,aP,aL,au,.bF⟩ 1 hf)) (od At)) (J5 nY xJ yZ g1 bE) ?_<;>(unhygienic intros);rw [e];refine⟨_,by first|rfl|(simp;rfl),rfl,?_⟩;apply bf.bS
     (·exact sA)
     exact fP
     (·first|exact pP|exact kP)
     all_goals(first|exact 0|exact undef)
   by_cases g2:4<=eE
   . have e:=e0.trans (aA (.inr g2));revert hq hS hw;(repeat first|clear hq|clear hS|clear hw|revert hc|revert R|revert K);refine Wp (J2 (Tg.mk (n:=30) (jd b ⟨cf,aj,1,aC,value,b7,am,reads,an,ay,set,bz,aB,ao,aP,aL,au,.bF⟩ 1 hf)) (od At)) (J6 nY xJ yZ g1 g2 bE) ?_<;>(unhygienic intros);rw [e];refine⟨_,by first|rfl|(simp;rfl),rfl,?_⟩;apply bf.bS
     (·exact sA)
     exact fP
     (·first|exact pP|exact kP)
     all_goals(first|exact 0|exact undef)
   by_cases g3:cf.an<=an.length
   . have e:=e0.trans ((aw (by omega)).trans (aA g3));revert hq hS hw;(repeat first|clear hq|clear hS|clear hw|revert hc|revert R|revert K);refine Wp (J3 (Tg.mk (n:=30) (jd b ⟨cf,aj,1,aC,value,b7,am,reads,an,ay,set,bz,aB,ao,aP,aL,au,.bF⟩ 1 hf)) (Tg.mk (n:=31) (λ{A L K k fn cs eu eS bM de db m c0 c1 c2 dk bx bU b5 eB dl fl b6 bZ bj dm dw gQ eC}=>ka (A:=A) (L:=L) (K:=K) (k:=k) (fn:=fn) (cs:=cs) (eu:=eu) (eS:=eS) (bM:=bM) (de:=de) (db:=db) (m:=m) (c0:=c0) (c1:=c1) (c2:=c2) (dk:=dk) (bx:=bx) (bU:=bU) (b5:=b5) (eB:=eB) (dl:=dl) (fl:=fl) (b6:=b6) (bZ:=bZ) (bj:=bj) (dm:=dm) (dw:=dw) (gQ:=gQ) (eC:=eC) (s:=⟨cf,aj,1,aC,value,b7,am,reads,an,ay,set,bz,aB,ao,aP,aL,au,.bF⟩) (bW:=0))) (od At)) (J7 nY xJ yZ g1 g2 g3 bE) ?_<;>(unhygienic intros);rw [e];refine⟨_,by first|rfl|(simp;rfl),rfl,?_⟩;apply bf.bS
     (·exact sA)
     exact fP
     (·first|exact pP|exact kP)
     all_goals(first|exact 0|exact undef)
   have e:=e0.trans ((aw (by omega)).trans (aw g3));revert hq hS hw;(repeat first|clear hq|clear hS|clear hw|revert hc|revert R|revert K);refine Wu (J4 (Tg.mk (n:=30) (jd b ⟨cf,aj,1,aC,value,b7,am,reads,an,ay,set,bz,aB,ao,aP,aL,au,.bF⟩ 1 hf)) (od At) @KI (⟨⟩:Os (λA'=>A'.bp A.next=some (aK (pv b))) [(0,0),(1,1),(2,0),(3,2),(4,0),(5,0),(6,3),(7,0),(8,0),(9,0),(10,3)])) (J7 nY xJ yZ g1 g2 g3 bE) ?_<;>(unhygienic intros);rw [e];refine⟨_,by first|rfl|(simp;rfl),rfl,?_⟩;apply bf.bS
   (·exact sA)
   exact fP
   (·first|exact pP|exact kP)
   all_goals(first|exact 0|exact undef)
 have e:L0 s eE=(1,s):=aw hf;intro A F hw hS;refine aN Tryz.func150 λ_=>?_
 try dsimp only [aa,af] at hS
 have hr:=tP b s 1 hf;revert hS hw;(repeat first|clear hS|clear hw|revert hc|revert R|revert K);refine Wp (J2 (Tg.mk (n:=10) (λ{A L K k}=>fp (A:=A) (L:=L) (K:=K) (k:=k) hr)) (od At)) (J1 bE) ?_<;>(unhygienic intros);rw [e];refine⟨_,by first|rfl|(simp;rfl),rfl,?_⟩;apply ah.bS
 (·exact sA)
 (·first|exact pP|exact kP)
theorem QH (b:Nat) (s:aJ) (a:Int) (hC:gL s) :
 bn qa 151 [pv b,.int .u64 a] [.h (bf b s)] (λu=>u=.int .i64 (LA s a).1) (λ_=>[.h (bf b (LA s a).2)]):=by
 by_cases hf:s.mi 1=true
 . skip
   obtain⟨h1,h2⟩:=xF hf;(unhygienic cases s);dsimp only at h1 h2;subst h1 h2;intro A F hw hS;refine aN Tryz.func151 λ_=>?_;obtain⟨x0,hS⟩:=bf.open hS .z;(unhygienic cases x0);dsimp only [cr,iJ,cZ,eH,bD.fY,aa,af] at hS;have hq:=eV hS hw;have S9:=hw.lt (hS.g 0 rfl);have nY:(b=A.next+1+1)=False:=eq_false (by omega);have xJ:(A.next+1+1=b)=False:=eq_false (by omega);have yZ:(A.next=A.next+1+1)=False:=eq_false (by omega);have UA:=hC.cf.be;have GK:=hC.cf.nb;dsimp only at UA GK;have VN:=QJ cf hC.cf a;dsimp only [br.v] at VN;have hfb:kU cf a<=64:=TG hC.cf a;have e0:LA ⟨cf,aj,1,aC,value,b7,am,reads,an,ay,set,bz,aB,ao,aP,aL,au,.bF⟩ a=_:=aA hf;dsimp only at e0;generalize kU cf a=q at *;by_cases g1:q<0
   . have e:=e0.trans (aA g1);revert hq hS hw;clear hS;refine Wp (J4 (Tg.mk (n:=30) (jd b ⟨cf,aj,1,aC,value,b7,am,reads,an,ay,set,bz,aB,ao,aP,aL,au,.bF⟩ 1 hf)) (Tg.mk (n:=31) (λ{A L K k fn cs eu eS bM de db m c0 c1 c2 dk bx bU b5 eB dl fl b6 bZ bj dm dw gQ eC}=>ka (A:=A) (L:=L) (K:=K) (k:=k) (fn:=fn) (cs:=cs) (eu:=eu) (eS:=eS) (bM:=bM) (de:=de) (db:=db) (m:=m) (c0:=c0) (c1:=c1) (c2:=c2) (dk:=dk) (bx:=bx) (bU:=bU) (b5:=b5) (eB:=eB) (dl:=dl) (fl:=fl) (b6:=b6) (bZ:=bZ) (bj:=bj) (dm:=dm) (dw:=dw) (gQ:=gQ) (eC:=eC) (s:=⟨cf,aj,1,aC,value,b7,am,reads,an,ay,set,bz,aB,ao,aP,aL,au,.bF⟩) (bW:=0))) (od xA) @VN) (J5 nY xJ yZ g1 bE) ?_<;>(unhygienic intros);rw [e];refine⟨_,by first|rfl|(simp;rfl),rfl,?_⟩;apply bf.bS
     (·exact sA)
     exact fP
     (·first|exact pP|exact kP)
     all_goals(first|exact 0|exact undef)
   have YB:qg.wrap (cf.be+q)=cf.be+q:=ar (by omega) (by omega);cases g2:(ll bz (cf.be+q)).2
   . have e:=e0.trans ((aw g1).trans (aw (by rw [g2];simp)))
     repeat' (first|(refine kY λR hR=>?_;simp [ar,ax,hq,nY,xJ,yZ,g1,g2,YB,AW.ab,aG];try simp (disch:=omega) only [aA,aw,ar,ax])|(refine hR _ _ ?_;clear hR R)|(refine hK _ _ ?_;clear hK K)|refine nx ?_|refine wn λK hK=>?_|simp only [wS,xA]|refine wl Tryz.mx xA (by decide +kernel) λK hK=>?_|(refine bO (VN _) ?_;rintro _ _ ⟨rfl,rfl⟩ _ _)|(apply CP (jd b ⟨cf,aj,1,aC,value,b7,am,reads,an,ay,set,bz,aB,ao,aP,aL,au,.bF⟩ 1 hf);(·exact wA);(·exact sA);(·exact fP);all_goals(try (first|exact 0|exact undef)))|(apply uS hC.bz hC.eA hC.cL (by omega);(·exact wA);(·exact sA);(·first|exact pP|exact kP);)|(apply D7 (s:=⟨cf,aj,1,aC,value,b7,am,reads,an,ay,set,bz,aB,ao,aP,aL,au,.bF⟩) (bW:=0) hC.cf;(·exact wA);(·exact sA);(·exact fP);((first|rintro _ _ _ hS hw|rintro _ _ hS hw);(try dsimp only [cr,AW.bd,aa,af] at hS);have hq:=eV hS hw);all_goals(try (first|exact 0|exact undef)))|(show c8 _ _ _ _ _ _;refine nx ?_)|(refine wc rfl (λhc=>?_) (λhc=>?_)<;>(try simp at hc)<;>(try omega)<;>(try (simp [h2] at hc;done))<;>(try (simp [h3] at hc;done))<;>(try (simp [h4] at hc;done)))|(refine ib (λhc=>?_) (λhc=>?_)<;>(try omega)<;>(try simp (disch:=omega) only [aA,aw])))
     rw [e];refine⟨_,by first|rfl|(simp;rfl),rfl,?_⟩;apply bf.bS
     (·exact sA)
     exact fP
     (·first|exact pP|exact kP)
     all_goals(first|exact 0|exact undef)
   have e:=e0.trans ((aw g1).trans (aA g2))
   repeat' (first|(refine kY λR hR=>?_;simp [ar,ax,hq,nY,xJ,yZ,g1,g2,YB,AW.ab,aG];try simp (disch:=omega) only [aA,aw,ar,ax])|(refine hR _ _ ?_;clear hR R)|(refine hK _ _ ?_;clear hK K)|refine nx ?_|refine wn λK hK=>?_|simp only [wS,xA]|refine wl Tryz.mx xA (by decide +kernel) λK hK=>?_|(refine bO (VN _) ?_;rintro _ _ ⟨rfl,rfl⟩ _ _)|(apply CP (jd b ⟨cf,aj,1,aC,value,b7,am,reads,an,ay,set,bz,aB,ao,aP,aL,au,.bF⟩ 1 hf);(·exact wA);(·exact sA);(·exact fP);all_goals(try (first|exact 0|exact undef)))|(apply uS hC.bz hC.eA hC.cL (by omega);(·exact wA);(·exact sA);(·first|exact pP|exact kP);)|(apply ka (s:=⟨cf,aj,1,aC,value,b7,am,reads,an,ay,set,bz,aB,ao,aP,aL,au,.bF⟩) (bW:=0);(·exact wA);(·exact sA);(·exact fP);((first|rintro _ _ _ hS hw|rintro _ _ hS hw);(try dsimp only [cr,AW.bd,aa,af] at hS);have hq:=eV hS hw);all_goals(try (first|exact 0|exact undef)))|(show c8 _ _ _ _ _ _;refine nx ?_)|(refine wc rfl (λhc=>?_) (λhc=>?_)<;>(try simp at hc)<;>(try omega)<;>(try (simp [h2] at hc;done))<;>(try (simp [h3] at hc;done))<;>(try (simp [h4] at hc;done)))|(refine ib (λhc=>?_) (λhc=>?_)<;>(try omega)<;>(try simp (disch:=omega) only [aA,aw])))
   rw [e];refine⟨_,by first|rfl|(simp;rfl),rfl,?_⟩;apply bf.bS
   (·exact sA)
   exact fP
   (·first|exact pP|exact kP)
   all_goals(first|exact 0|exact undef)
 have e:LA s a=(1,s):=aw hf;intro A F hw hS;refine aN Tryz.func151 λ_=>?_
 try dsimp only [aa,af] at hS
 have hr:=tP b s 1 hf;revert hS hw;(repeat first|clear hS|clear hw|revert hc|revert R|revert K);refine Wp (J2 (Tg.mk (n:=10) (λ{A L K k}=>fp (A:=A) (L:=L) (K:=K) (k:=k) hr)) (od xA)) (J1 bE) ?_<;>(unhygienic intros);rw [e];refine⟨_,by first|rfl|(simp;rfl),rfl,?_⟩;apply ah.bS
 (·exact sA)
 (·first|exact pP|exact kP)
end
section
open T12 T13
variable [Gl]
theorem ah.gR {A:AW} {L K:List It} {i:Nat} {o:dQ} (h:ah A L) (hp:aE L (.at i o) K):A.bp i=some o:=by
 unfold ah at h;rw [hp.aM] at h;exact bB.bp h
theorem pM (b c:Nat) (s:aJ) (v:Int) (hd:s.aH=.bF) :
 bn qa 141 [.int .u64 v,pv c] [.h (bf b s),.at c (aK (pv b))] (λ_=>True) (λ_=>[.h (bf b { s with value:=v })]):=by
 (unhygienic cases s);dsimp only at hd;subst hd;intro A F hw hS;refine aN Tryz.func141 λ_=>?_;dsimp only [aa,af] at hS;obtain⟨x0,hS⟩:=bf.open hS .z;(unhygienic cases x0);dsimp only [cr,iJ,cZ,eH,bD.fY,aa,af] at hS;have hq:=eV hS hw;revert hq hS hw;clear hS;refine Wp cF (J1 bE) ?_<;>(unhygienic intros);refine⟨_,by first|rfl|(simp;rfl),trivial,?_⟩;apply bf.bS
 (·exact sA)
 exact fP
 (·first|exact pP|exact kP)
 all_goals(first|exact 0|exact undef)
theorem s7 (b c c':Nat) (s:aJ) (k v:Int) (hd:s.aH=.bF) (hC:gL s) (hk:0<=k/\k<s.cf.nb) :
 bn qa 223 [.int .u64 v,pv c,pv c'] [.h (bf b s),.at c (aK (pv b)),.at c' (aK (.int .i64 k))] (λ_=>True) (λ_=>[.h (bf b (jr s k v))]):=by
 intro A F hw hS;refine aN Tryz.func223 λ_=>?_;dsimp only [aa,af] at hS;have hq:=fE hS hw;revert hq hS hw;refine Wp (J1 (E5 b s k v hd hC hk)) (J1 bE) ?_<;>(unhygienic intros);refine⟨_,by first|rfl|(simp;rfl),trivial,?_⟩;apply ah.bS
 (·exact sA)
 (·first|exact pP|exact kP)
theorem HY (b c:Nat) (s:aJ) (hd:s.aH=.bF) (hC:gL s) :
 bn qa 140 [pv c] [.h (bf b s),.at c (aK (pv b))] (λ_=>True) (λ_=>[.h (bf b (nz s 7))]):=by
 intro A F hw hS;refine aN Tryz.func140 λ_=>?_;dsimp only [aa,af] at hS;have hq:=fE hS hw;revert hq hS hw;refine Wp (J1 (wU b s 7 hd hC)) (J1 bE) ?_<;>(unhygienic intros);refine⟨_,by first|rfl|(simp;rfl),trivial,?_⟩;apply ah.bS
 (·exact sA)
 (·first|exact pP|exact kP)
theorem H0 (b c:Nat) (s:aJ) (hd:s.aH=.bF) (hC:gL s) :
 bn qa 220 [pv c] [.h (bf b s),.at c (aK (pv b))] (λ_=>True) (λ_=>[.h (bf b (nz s 8))]):=by
 intro A F hw hS;refine aN Tryz.func220 λ_=>?_;dsimp only [aa,af] at hS;have hq:=fE hS hw;revert hq hS hw;refine Wp (J1 (wU b s 8 hd hC)) (J1 bE) ?_<;>(unhygienic intros);refine⟨_,by first|rfl|(simp;rfl),trivial,?_⟩;apply ah.bS
 (·exact sA)
 (·first|exact pP|exact kP)
theorem HZ (b c c':Nat) (s:aJ) (aC:Int) (hd:s.aH=.bF) (hC:gL s) :
 bn qa 137 [pv c,pv c'] [.h (bf b s),.at c (aK (pv b)),.at c' (aK (.int .i64 aC))] (λ_=>True) (λ_=>[.h (bf b (nz s aC))]):=by
 intro A F hw hS;refine aN Tryz.func137 λ_=>?_;dsimp only [aa,af] at hS;have hq:=fE hS hw;revert hq hS hw;refine Wp (J1 (wU b s aC hd hC)) (J1 bE) ?_<;>(unhygienic intros);refine⟨_,by first|rfl|(simp;rfl),trivial,?_⟩;apply ah.bS
 (·exact sA)
 (·first|exact pP|exact kP)
theorem F5 (b c:Nat) (s:aJ) (hd:s.aH=.bF) (hC:gL s) :
 bn qa 215 [pv c] [.h (bf b s),.at c (aK (pv b))] (λ_=>True) (λ_=>[.h (bf b (jQ s 3))]):=by
 have hu:bn qa 172 [pv b,.int .i64 3] [.h (bf b s)] (λ_=>True) (λ_=>[.h (bf b (jQ s 3))]):=λA F hw hS=>
  (js b s s.aH.fY 3 s.aH hC.cf hC.al hC.push (Zw hC.nC (by decide))) A F hw (bf.Uw hS .z)
 intro A F hw hS;refine aN Tryz.func215 λ_=>?_;dsimp only [aa,af] at hS;have hq:=fE hS hw;revert hq hS hw;refine Wp (J1 @hu) (J1 bE) ?_<;>(unhygienic intros);refine⟨_,by first|rfl|(simp;rfl),trivial,?_⟩;apply ah.bS
 (·exact sA)
 (·first|exact pP|exact kP)
theorem DV (b c c' c2:Nat) (s:aJ) (k v:Int) (hd:s.aH=.bF) (hC:gL s) (hk:0<=k/\k<s.cf.nb) :
 bn qa 221 [pv c,pv c',pv c2] [.h (bf b s),.at c (aK (pv b)),.at c' (aK (.int .i64 k)),.at c2 (aK (.int .u64 v))] (λ_=>True) (λ_=>[.h (bf b (jr s k v))]):=by
 intro A F hw hS;refine aN Tryz.func221 λ_=>?_;dsimp only [aa,af] at hS;have hq:=fE hS hw;revert hq hS hw;refine Wp (J1 (E5 b s k v hd hC hk)) (J1 bE) ?_<;>(unhygienic intros);refine⟨_,by first|rfl|(simp;rfl),trivial,?_⟩;apply ah.bS
 (·exact sA)
 (·first|exact pP|exact kP)
theorem F4 (b c c' c2:Nat) (s:aJ) (v:Int) (hd:s.aH=.bF) :
 bn qa 143 [pv c,pv c'] [.h (bf b s),.at c (aK (.func (.func 141) #[] #[pv c2])),.at c' (aK (.int .u64 v)),.at c2 (aK (pv b))] (λ_=>True) (λ_=>[.h (bf b { s with value:=v })]):=by
 intro A F hw hS;refine aN Tryz.func143 λ_=>?_;dsimp only [aa,af] at hS;have hq:=fE hS hw;revert hq hS hw;refine Wp (J1 (pM b c2 s v hd)) (J1 bE) ?_<;>(unhygienic intros);refine⟨_,by first|rfl|(simp;rfl),trivial,?_⟩;apply ah.bS
 (·exact sA)
 (·first|exact pP|exact kP)
theorem DU (b c c' c2:Nat) (s:aJ) (a v:Int) (hd:s.aH=.bF) (hC:gL s) (ha:0<=a) :
 bn qa 146 [pv c,pv c',pv c2] [.h (bf b s),.at c (aK (pv b)),.at c' (aK (.int .u64 a)),.at c2 (aK (.int .u64 v))] (λ_=>True) (λ_=>[.h (bf b (sj s (.lU a v)))]):=by
 have UA:=hC.cf.be;have ho:∀A',A'.Wf->ah A' [.h (bf b s)]->fh 139 [pv b,.int .u64 a] A' (.bool (decide (s.cf.be<=a))):=λA' h1 h2=>pO b s s.aH.fY a s.aH hC.cf A' h1 (bf.Uw h2 .z);by_cases h:s.cf.be<=a;have e:sj s (.lU a v)=nz s 7:=aA h;rw [e];intro A F hw hS;refine aN Tryz.func146 λ_=>?_;dsimp only [aa,af] at hS;have hq:=fE hS hw;revert hq hS hw;refine Wp (J2 (Tg.mk (n:=10) (λ{A L K k}=>fp (A:=A) (L:=L) (K:=K) (k:=k) ho)) (wU b s 7 hd hC)) (J2 h bE) ?_<;>(unhygienic intros);refine⟨_,by first|rfl|(simp;rfl),trivial,?_⟩;apply ah.bS
 (·exact sA)
 (·first|exact pP|exact kP)
 have e:sj s (.lU a v)=(jp s a v).2:=aw h;rw [e];have YB:qg.wrap a=a:=ar (by omega) (by omega);intro A F hw hS;refine aN Tryz.func146 λ_=>?_;dsimp only [aa,af] at hS;have hq:=fE hS hw;revert hq hS hw;(repeat first|clear hq|clear hS|clear hw|revert hc|revert R|revert K);refine Wp (J2 (Tg.mk (n:=10) (λ{A L K k}=>fp (A:=A) (L:=L) (K:=K) (k:=k) ho)) (ww b s a v hd hC ha)) (J3 h YB bE) ?_<;>(unhygienic intros);refine⟨_,by first|rfl|(simp;rfl),trivial,?_⟩;apply ah.bS
 (·exact sA)
 (·first|exact pP|exact kP)
theorem DW (b m c c':Nat) (s:aJ) (p:pw) (hC:gL { s with aH:=.bF }) (pY:s.an.length<8) (hp:p.block<s.cf.nb) (kJ:0<=p.eE/\p.eE<=3) :
 bn qa 217 [pv c,pv c'] [.h (Rb b { s with aH:=.bF } 0 p),.at c (aK (pv b)),.at c' (aK (.int .i64 p.eE))] (λ_=>True) (λ_=>[.h (bf b (fx { s with aH:=.bF } p.eE p.block))]):=by
 intro A F hw hS;refine aN Tryz.func217 λ_=>?_;dsimp only [aa,af] at hS;have hq:=fE hS hw;revert hq hS hw;refine Wp (J1 (FF b s p hC pY hp kJ)) (J1 bE) ?_<;>(unhygienic intros);refine⟨_,by first|rfl|(simp;rfl),trivial,?_⟩;apply ah.bS
 (·exact sA)
 (·first|exact pP|exact kP)
end
section
abbrev OU:List (Nat×Nat):=[(0,0),(1,0),(2,2),(3,3),(4,0)]
open T17 T13
variable [Gl]
theorem M8 (b pb:Nat) (s:ik) (M:Mm) (bX:s.dT.length<=s.ao.length) (Qw:s.ao.length<2^38) :
 bn qa 180 [pv b,pv pb] [.h (iy b s),dN pb M] (λv=>v=(dW s M).1.v) (λ_=>[.h (iy b (dW s M).2.1),dN pb (dW s M).2.2]):=
 bn.rH (GB b pb s M bX Qw) (by show iy b s*(eG pb M*eZ)=_;rw [dO]) (λv=>by show _=De _*(iy b _*(eG pb _*eZ));rw [dO])
theorem P6 (b pb:Nat) (s:je) (M:Mm) (bX:s.os.length=s.ws.length) :
 bn qa 200 [pv b,pv pb] [.h (iH b s),dN pb M] (λv=>v=(gM s M).1.v) (λ_=>[.h (iH b (gM s M).2.1),dN pb (gM s M).2.2]):=
 bn.rH (Ir b pb s M bX) (by show iH b s*(eG pb M*eZ)=_;rw [dO]) (λv=>by show _=De _*(iH b _*(eG pb _*eZ));rw [dO])
theorem RA (b pb:Nat) (s:je) (M:Mm) (bX:s.os.length=s.ws.length) :
 bn qa 195 [pv b,pv pb] [.h (iH b s),dN pb M] (λv=>v=(kh s M).1.v) (λ_=>[.h (iH b (kh s M).2.1),dN pb (kh s M).2.2]):=
 bn.rH (JT b pb s M bX) (by show iH b s*(eG pb M*eZ)=_;rw [dO]) (λv=>by show _=De _*(iH b _*(eG pb _*eZ));rw [dO])
section
variable {A:AW} {L K:List It} {k:Value->AW->Prop} {n:Nat}
theorem Ea {P:HP} (hS:ah A L) (hp:aE L (.h P) K):bB A (P*aM K):=by
 unfold ah at hS;rw [hp.aM] at hS;exact hS
theorem pS {s:ik} (hw:A.Wf) (hS:ah A L) (hp:aE L (.h (iy n s)) K) (hk:k (.bool s.done) A):aD qa 181 [pv n] A k:=by
 refine bO (oJ n s A _ (Ea hS hp)) ?_;rintro _ _ ⟨rfl,rfl⟩ _ _;exact hk
theorem wu {s:je} (hw:A.Wf) (hS:ah A L) (hp:aE L (.h (iH n s)) K) (hk:k (.bool s.done) A):aD qa 201 [pv n] A k:=by
 refine bO (uD n s A _ (Ea hS hp)) ?_;rintro _ _ ⟨rfl,rfl⟩ _ _;exact hk
theorem DP {s:je} (hw:A.Wf) (hS:ah A L) (hp:aE L (.h (iH n s)) K) (hk:k (.bool s.done) A):aD qa 196 [pv n] A k:=by
 refine bO (vZ n s A _ (Ea hS hp)) ?_;rintro _ _ ⟨rfl,rfl⟩ _ _;exact hk
theorem kK {s:iw} (hw:A.Wf) (hS:ah A L) (hp:aE L (.h (jI n s)) K) (hk:k (.bool s.done) A):aD qa 188 [pv n] A k:=by
 obtain⟨v,h0⟩:=jI.open hS hp;obtain⟨o,c,rfl,_⟩:=(ah.tE h0 (.s .z)).cy;refine bO (rW n o _ c s.rv s.jG A (h0.g 0 rfl)) ?_;rintro _ _ ⟨rfl,rfl⟩ _ _;exact hk
theorem B8 (b:Nat) (v:Value) (rv:Int) (f:Bool) (A:AW) (hg:A.bp b=some (.cells [v,.int .i64 rv,.bool f] true 1)):fh 190 [pv b] A (.bool f):=by
 refine aN Tryz.func190 λ_=>?_;refine Wp cF (J2 hg @AW.ab) ?_<;>intros;exact⟨_,rfl,rfl,rfl⟩
theorem pq {s:iw} (hw:A.Wf) (hS:ah A L) (hp:aE L (.h (jI n s)) K) (hk:k (.bool s.jG) A):aD qa 190 [pv n] A k:=by
 obtain⟨v,h0⟩:=jI.open hS hp;refine bO (B8 n v s.rv s.jG A (h0.g 0 rfl)) ?_;rintro _ _ ⟨rfl,rfl⟩ _ _;exact hk
theorem tr {s:iv} (hw:A.Wf) (hS:ah A L) (hp:aE L (.at n (iq s)) K) (hk:k (.int .i64 s.Gh) A):aD qa 166 [pv n] A k:=by
 refine bO (wQ n s A (ah.gR hS hp)) ?_;rintro _ _ ⟨rfl,rfl⟩ _ _;exact hk
theorem tt {s:iv} (hw:A.Wf) (hS:ah A L) (hp:aE L (.at n (iq s)) K) (hk:k (.bool (decide (s.bW=3))) A):aD qa 168 [pv n] A k:=by
 refine bO (Fe n s A (ah.gR hS hp)) ?_;rintro _ _ ⟨rfl,rfl⟩ _ _;exact hk
theorem Cw {s:pw} (hw:A.Wf) (hS:ah A L) (hp:aE L (.at n (nL s)) K) (hk:k (.bool (decide (s.bW=3))) A):aD qa 178 [pv n] A k:=by
 refine bO (Iz n s A (ah.gR hS hp)) ?_;rintro _ _ ⟨rfl,rfl⟩ _ _;exact hk
theorem Ag {s:fK} (hw:A.Wf) (hS:ah A L) (hp:aE L (.at n (ir s)) K) (hk:k (.bool (decide (s.bW=3))) A):aD qa 114 [pv n] A k:=by
 refine bO (yg n s A (ah.gR hS hp)) ?_;rintro _ _ ⟨rfl,rfl⟩ _ _;exact hk
theorem lB {s:iG} (hw:A.Wf) (hS:ah A L) (hp:aE L (.at n (jR s)) K) (hk:k (.bool s.done) A):aD qa 184 [pv n] A k:=by
 refine bO (F3 n s A (ah.gR hS hp)) ?_;rintro _ _ ⟨rfl,rfl⟩ _ _;exact hk
theorem DS {s:iG} (hw:A.Wf) (hS:ah A L) (hp:aE L (.at n (jR s)) K) (hk:k (.int .i64 s.fY) A):aD qa 126 [pv n] A k:=by
 refine bO (C7 n s A (ah.gR hS hp)) ?_;rintro _ _ ⟨rfl,rfl⟩ _ _;exact hk
theorem eY {s:iI} (hw:A.Wf) (hS:ah A L) (hp:aE L (.at n (iS s)) K) (hk:k (.bool s.done) A):aD qa 170 [pv n] A k:=by
 refine bO (ye n s A (ah.gR hS hp)) ?_;rintro _ _ ⟨rfl,rfl⟩ _ _;exact hk
theorem dV {s:iI} (hw:A.Wf) (hS:ah A L) (hp:aE L (.at n (iS s)) K) (hk:k (.bool s.iu) A):aD qa 171 [pv n] A k:=by
 refine bO (Ad n s A (ah.gR hS hp)) ?_;rintro _ _ ⟨rfl,rfl⟩ _ _;exact hk
theorem kG {s:iI} (hw:A.Wf) (hS:ah A L) (hp:aE L (.at n (iS s)) K) (hk:k (.int .u64 s.val) A):aD qa 176 [pv n] A k:=by
 refine bO (Ei n s A (ah.gR hS hp)) ?_;rintro _ _ ⟨rfl,rfl⟩ _ _;exact hk
theorem Al {a:aZ} (hw:A.Wf) (hS:ah A L) (hk:∀(u:Unit) A',ah A' L->A'.Wf->A.le A'->k (.int .i64 (mI a)) A'):aD qa 179 [a.v] A k:=by
 refine bO (Ku a A hw) ?_;rintro _ A' ⟨rfl,h1⟩ kI _;exact hk () A' (hS.le hw h1) kI h1
theorem yi {a:aZ} (hw:A.Wf) (hS:ah A L) (hk:∀(u:Unit) A',ah A' L->A'.Wf->A.le A'->k (.int .i64 (hY a)) A'):aD qa 83 [a.v] A k:=by
 refine bO (IA a A hw) ?_;rintro _ A' ⟨rfl,h1⟩ kI _;exact hk () A' (hS.le hw h1) kI h1
end
theorem D5 (b pb:Nat) (s:aJ) (en:iv) (M:Mm) (hd:s.aH=.ei) (he:s.b7=some en) :
 bn qa 115 [pv b,pv pb] [.h (bf b s),dN pb M] (λv=>v=.tuple #[(gN s M en).1.v,.int .i64 (gN s M en).2.1])
  (λ_=>[.h (bf b (gN s M en).2.2.1),dN pb (gN s M en).2.2.2]):=by
 (unhygienic cases s);dsimp only at hd;subst hd;dsimp only at he;subst he;obtain⟨x,e',M',hr⟩:∃x e' M',gl en M=(x,e',M'):=⟨_,_,_,rfl⟩;have dz:=λn=>Fd n pb en M;rw [hr] at dz;by_cases h:e'.bW=3
 . have e:gN ⟨cf,aj,aF,aC,value,some en,am,reads,an,ay,set,bz,aB,ao,aP,aL,au,.ei⟩ M en=(x,4,⟨cf,aj,aF,aC,value,some e',am,reads,an,ay,set,bz,aB,ao,aP,aL,au,.bF⟩,M'):=by
    unfold gN;rw [hr];exact aA h
   rw [e];intro A F hw hS;refine aN Tryz.func115 λ_=>?_;dsimp only [aa,af] at hS;obtain⟨x0,hS⟩:=bf.open hS .z;(unhygienic cases x0);dsimp only [cr,iJ,cZ,eH,bD.fY,aa,af] at hS;have hS:=L8.op hS (.s .z);have hq:=eV hS hw;revert hq hS hw;clear hS;clear hS;refine Wp (J3 (Tg.mk (n:=10) @tr) (Tg.mk (n:=10) @tt) (dz bM)) (J6 h @oc.eq_1 @oc.eq_2 bE @bk.eq_1 @aZ.v.eq_1) ?_<;>(unhygienic intros);refine⟨_,by simp [hq,AW.ab,aG];rfl,by simp [aZ.v],?_⟩;apply bf.bS
   (·exact sA)
   exact fP
   (·first|exact pP|exact kP)
   all_goals(first|exact 0|exact undef)
 by_cases h2:en.Gh=e'.Gh
 . have e:gN ⟨cf,aj,aF,aC,value,some en,am,reads,an,ay,set,bz,aB,ao,aP,aL,au,.ei⟩ M en=(x,2,⟨cf,aj,aF,aC,value,some e',am,reads,an,ay,set,bz,aB,ao,aP,aL,au,.ei⟩,M'):=by
    unfold gN;rw [hr];dsimp only;rw [aw h,aw (by simp [h2])]
   rw [e];intro A F hw hS;refine aN Tryz.func115 λ_=>?_;dsimp only [aa,af] at hS;obtain⟨x0,hS⟩:=bf.open hS .z;(unhygienic cases x0);dsimp only [cr,iJ,cZ,eH,bD.fY,aa,af] at hS;have hS:=L8.op hS (.s .z);have hq:=eV hS hw;revert hq hS hw;(repeat first|clear hq|clear hS|clear hw|revert hc|revert R|revert K);refine Wp (J3 (Tg.mk (n:=10) @tr) (Tg.mk (n:=10) @tt) (dz bM)) (J7 h h2 @oc.eq_1 @oc.eq_2 bE @bk.eq_1 @aZ.v.eq_1) ?_<;>(unhygienic intros);refine⟨_,by simp [hq,AW.ab,aG];rfl,by simp [aZ.v],?_⟩;apply bf.bS
   (·exact sA)
   exact fP
   (·first|exact pP|exact kP)
   all_goals(first|exact 0|exact undef)
 have e:gN ⟨cf,aj,aF,aC,value,some en,am,reads,an,ay,set,bz,aB,ao,aP,aL,au,.ei⟩ M en=(x,3,⟨cf,aj,aF,aC,value,some e',am,reads,an,ay,set,bz,aB,ao,aP,aL,au,.ei⟩,M'):=by
  unfold gN;rw [hr];dsimp only;rw [aw h,aA h2]
 rw [e];intro A F hw hS;refine aN Tryz.func115 λ_=>?_;dsimp only [aa,af] at hS;obtain⟨x0,hS⟩:=bf.open hS .z;(unhygienic cases x0);dsimp only [cr,iJ,cZ,eH,bD.fY,aa,af] at hS;have hS:=L8.op hS (.s .z);have hq:=eV hS hw;revert hq hS hw;(repeat first|clear hq|clear hS|clear hw|revert hc|revert R|revert K);refine Wp (J3 (Tg.mk (n:=10) @tr) (Tg.mk (n:=10) @tt) (dz bM)) (J7 h h2 @oc.eq_1 @oc.eq_2 bE @bk.eq_1 @aZ.v.eq_1) ?_<;>(unhygienic intros);refine⟨_,by simp [hq,AW.ab,aG];rfl,by simp [aZ.v],?_⟩;apply bf.bS
 (·exact sA)
 exact fP
 (·first|exact pP|exact kP)
 all_goals(first|exact 0|exact undef)
theorem Ge (b pb:Nat) (s:aJ) (p:fK) (M:Mm) (hd:s.aH=.eL p) (hC:gL s) (Qs:s.au<s.an.length) :
 bn qa 128 [pv b,pv pb] [.h (bf b s),dN pb M] (λv=>v=.tuple #[(iL s M p).1.v,.int .i64 (iL s M p).2.1])
  (λ_=>[.h (bf b (iL s M p).2.2.1),dN pb (iL s M p).2.2.2]):=by
 (unhygienic cases s);dsimp only at hd;subst hd;dsimp only at Qs;have pY:=hC.nC;dsimp only at pY;obtain⟨x,p',M',hr⟩:∃x e' M',dD p M=(x,e',M'):=⟨_,_,_,rfl⟩;have dz:=λn=>ta n pb p M;rw [hr] at dz;have O2:qg.wrap ((au:Int)+1)=((au+1:Nat):Int):=ar (by omega) (by omega);by_cases h:p'.bW=3;have e:iL ⟨cf,aj,aF,aC,value,b7,am,reads,an,ay,set,bz,aB,ao,aP,aL,au,.eL p⟩ M p=(x,hY x,gi ⟨cf,aj,aF,aC,value,b7,am,reads,an,ay,set,bz,aB,ao,aP,aL,au+1,.eL p'⟩,M'):=by
  unfold iL;rw [hr];dsimp only;rw [aA h]
 rw [e];intro A F hw hS;refine aN Tryz.func128 λ_=>?_;dsimp only [aa,af] at hS;obtain⟨x0,hS⟩:=bf.open hS .z;(unhygienic cases x0);dsimp only [cr,iJ,cZ,eH,bD.fY,aa,af] at hS;have hq:=eV hS hw;revert hq hS hw;clear hS;refine Wp (J5 (Tg.mk (n:=10) @Ag) (Tg.mk (n:=20) (wK b ⟨cf,aj,aF,aC,value,b7,am,reads,an,ay,set,bz,aB,ao,aP,aL,au+1,.eL p'⟩ 13 (.eL p') hC.cf hC.al Qs (Zw hC.nC (by decide)))) (Tg.mk (n:=19) (λ{A L k}=>yi (A:=A) (L:=L) (k:=k) (a:=x))) (od OU) (dz m)) (J5 h O2 bE @bk.eq_1 @aZ.v.eq_1) ?_<;>(unhygienic intros);refine⟨_,by simp [hq,AW.ab,aG];rfl,by simp [aZ.v],?_⟩;apply ah.bS
 (·exact sA)
 (·first|exact pP|exact kP)
 have e:iL ⟨cf,aj,aF,aC,value,b7,am,reads,an,ay,set,bz,aB,ao,aP,aL,au,.eL p⟩ M p=(x,hY x,⟨cf,aj,aF,aC,value,b7,am,reads,an,ay,set,bz,aB,ao,aP,aL,au,.eL p'⟩,M'):=by
  unfold iL;rw [hr];dsimp only;rw [aw h]
 rw [e];intro A F hw hS;refine aN Tryz.func128 λ_=>?_;dsimp only [aa,af] at hS;obtain⟨x0,hS⟩:=bf.open hS .z;(unhygienic cases x0);dsimp only [cr,iJ,cZ,eH,bD.fY,aa,af] at hS;have hq:=eV hS hw;revert hq hS hw;(repeat first|clear hq|clear hS|clear hw|revert hc|revert R|revert K);refine Wp (J4 (Tg.mk (n:=10) @Ag) (Tg.mk (n:=19) (λ{A L k}=>yi (A:=A) (L:=L) (k:=k) (a:=x))) (od OU) (dz m)) (J5 h O2 bE @bk.eq_1 @aZ.v.eq_1) ?_<;>(unhygienic intros);refine⟨_,by simp [hq,AW.ab,aG];rfl,by simp [aZ.v],?_⟩;apply bf.bS
 (·exact sA)
 exact fP
 (·first|exact pP|exact kP)
 all_goals(first|exact 0|exact undef)
end
section
abbrev OT:List (Nat×Nat):=[(0,0),(1,0),(2,2),(3,3),(4,0)]
open T17 T13
variable [Gl]
theorem If (b pb:Nat) (s:aJ) (p:pw) (M:Mm) (hd:s.aH=.eO p) (hC:gL s) (pY:s.an.length<8) (kJ:0<=p.eE/\p.eE<=3) (GI:(gg p M).2.1.block<s.cf.nb) (kO:(gg p M).2.1.eE=p.eE) :
 bn qa 117 [pv b,pv pb] [.h (bf b s),dN pb M] (λv=>v=.tuple #[(lh s M p).1.v,.int .i64 (lh s M p).2.1])
  (λ_=>[.h (bf b (lh s M p).2.2.1),dN pb (lh s M p).2.2.2]):=by
 (unhygienic cases s);dsimp only at hd;subst hd;dsimp only at pY GI;obtain⟨x,p',M',hr⟩:∃x e' M',gg p M=(x,e',M'):=⟨_,_,_,rfl⟩;have dz:=λn=>Iy n pb p M;rw [hr] at dz GI kO;dsimp only at GI kO;by_cases h:p'.bW=3
 . have e:lh ⟨cf,aj,aF,aC,value,b7,am,reads,an,ay,set,bz,aB,ao,aP,aL,au,.eO p⟩ M p=(x,mI x,fx ⟨cf,aj,aF,aC,value,b7,am,reads,an,ay,set,bz,aB,ao,aP,aL,au,.bF⟩ p.eE p'.block,M'):=by
    unfold lh;rw [hr];dsimp only;rw [aA h]
   rw [e];have W8:=λm c c'=>DW b m c c' ⟨cf,aj,aF,aC,value,b7,am,reads,an,ay,set,bz,aB,ao,aP,aL,au,.bF⟩ p' ⟨hC.cf,hC.Mb,hC.bz,hC.eA,hC.cL,hC.HN,hC.Rt,hC.nC,hC.push,hC.set,hC.kL,hC.Dj⟩ pY GI (by rw [kO];exact kJ);rw [kO] at W8;intro A F hw hS;refine aN Tryz.func117 λ_=>?_;dsimp only [aa,af] at hS;obtain⟨x0,hS⟩:=bf.open hS .z;(unhygienic cases x0);dsimp only [cr,iJ,cZ,eH,bD.fY,aa,af] at hS;have hq:=eV hS hw;revert hq hS hw;clear hS;refine Wp (J5 (Tg.mk (n:=10) @Cw) (Tg.mk (n:=22) (W8 m c0 c1)) (Tg.mk (n:=19) (λ{A L k}=>Al (A:=A) (L:=L) (k:=k) (a:=x))) (od OT) (dz m)) (J4 h bE @bk.eq_1 @aZ.v.eq_1) ?_<;>(unhygienic intros);refine⟨_,by simp [hq,AW.ab,aG];rfl,by first|(simp [aZ.v];done)|(simp [aZ.v,h];done),?_⟩;apply ah.bS
   (·exact sA)
   (·first|exact pP|exact kP)
 have e:lh ⟨cf,aj,aF,aC,value,b7,am,reads,an,ay,set,bz,aB,ao,aP,aL,au,.eO p⟩ M p=(x,mI x,⟨cf,aj,aF,aC,value,b7,am,reads,an,ay,set,bz,aB,ao,aP,aL,au,.eO p'⟩,M'):=by
  unfold lh;rw [hr];dsimp only;rw [aw h]
 rw [e];intro A F hw hS;refine aN Tryz.func117 λ_=>?_;dsimp only [aa,af] at hS;obtain⟨x0,hS⟩:=bf.open hS .z;(unhygienic cases x0);dsimp only [cr,iJ,cZ,eH,bD.fY,aa,af] at hS;rw [<-kO] at hS;have hq:=eV hS hw;revert hq hS hw;(repeat first|clear hq|clear hS|clear hw|revert hc|revert R|revert K);refine Wp (J4 (Tg.mk (n:=10) @Cw) (Tg.mk (n:=19) (λ{A L k}=>Al (A:=A) (L:=L) (k:=k) (a:=x))) (od OT) (dz m)) (J4 h bE @bk.eq_1 @aZ.v.eq_1) ?_<;>(unhygienic intros);refine⟨_,by simp [hq,AW.ab,aG];rfl,by first|(simp [aZ.v];done)|(simp [aZ.v,h];done),?_⟩;apply bf.bS
 (·exact sA)
 exact fP
 (·first|exact pP|exact kP)
 all_goals(first|exact 0|exact undef)
theorem Gf (b pb:Nat) (s:aJ) (l:ik) (M:Mm) (hd:s.aH=.eh) (hl:s.aP=some l) (bX:l.dT.length<=l.ao.length) (Qw:l.ao.length<2^38) :
 bn qa 118 [pv b,pv pb] [.h (bf b s),dN pb M] (λv=>v=.tuple #[(ip s M l).1.v,.int .i64 (ip s M l).2.1])
  (λ_=>[.h (bf b (ip s M l).2.2.1),dN pb (ip s M l).2.2.2]):=by
 (unhygienic cases s);dsimp only at hd;subst hd;dsimp only at hl;subst hl;obtain⟨x,l',M',hr⟩:∃x e' M',dW l M=(x,e',M'):=⟨_,_,_,rfl⟩;have dz:=λn=>M8 n pb l M bX Qw;rw [hr] at dz;by_cases h:x.fI=3<;>cases h2:l'.done
 . have e:ip ⟨cf,aj,aF,aC,value,b7,am,reads,an,ay,set,bz,aB,ao,some l,aL,au,.eh⟩ M l=(x,12,⟨cf,aj,aF,aC,value,b7,am,reads,an,ay,set,bz,aB,ao,some l',aL,au,.eh⟩,M'):=by
    unfold ip;rw [hr];dsimp only;rw [h2];simp [h]
   rw [e];intro A F hw hS;refine aN kbd λ_=>?_;dsimp only [aa,af] at hS;obtain⟨x0,hS⟩:=bf.open hS .z;(unhygienic cases x0);dsimp only [cr,iJ,cZ,eH,bD.fY,aa,af] at hS;have hS:=vu.op hS (.s (.s .z));have hq:=eV hS hw;revert hq hS hw;clear hS;clear hS;refine Wp (J3 (Tg.mk (n:=10) @pS) @nf (dz de)) (J7 h h2 @jK.eq_1 @jK.eq_2 bE @bk.eq_1 @aZ.v.eq_1) ?_<;>(unhygienic intros);refine⟨_,by simp [hq,AW.ab,aG];rfl,by first|(simp [aZ.v];done)|(simp [aZ.v,h];done),?_⟩;apply bf.bS
   (·exact sA)
   exact fP
   (·first|exact pP|exact kP)
   all_goals(first|exact 0|exact undef)
 . have e:ip ⟨cf,aj,aF,aC,value,b7,am,reads,an,ay,set,bz,aB,ao,some l,aL,au,.eh⟩ M l=(x,12,⟨cf,aj,aF,aC,value,b7,am,reads,an,ay,set,bz,aB,ao,some l',some ⟨false,0,false⟩,au,.cU⟩,M'):=by
    unfold ip;rw [hr];dsimp only;rw [h2];simp [h]
   rw [e];intro A F hw hS;refine aN kbd λ_=>?_;dsimp only [aa,af] at hS;obtain⟨x0,hS⟩:=bf.open hS .z;(unhygienic cases x0);dsimp only [cr,iJ,cZ,eH,bD.fY,aa,af] at hS;have hS:=vu.op hS (.s (.s .z));have hq:=eV hS hw;revert hq hS hw;(repeat first|clear hq|clear hS|clear hw|revert hc|revert R|revert K);refine Wp (J3 (Tg.mk (n:=10) @pS) @nf (dz de)) (J7 h h2 @jK.eq_1 @jK.eq_2 bE @bk.eq_1 @aZ.v.eq_1) ?_<;>(unhygienic intros);refine⟨_,by simp [hq,AW.ab,aG];rfl,by first|(simp [aZ.v];done)|(simp [aZ.v,h];done),?_⟩;apply bf.bS
   (·exact sA)
   exact fP
   (·first|exact pP|exact kP)
   all_goals(first|exact 0|exact undef)
 . have e:ip ⟨cf,aj,aF,aC,value,b7,am,reads,an,ay,set,bz,aB,ao,some l,aL,au,.eh⟩ M l=(x,11,⟨cf,aj,aF,aC,value,b7,am,reads,an,ay,set,bz,aB,ao,some l',aL,au,.eh⟩,M'):=by
    unfold ip;rw [hr];dsimp only;rw [h2];simp [h]
   rw [e];intro A F hw hS;refine aN kbd λ_=>?_;dsimp only [aa,af] at hS;obtain⟨x0,hS⟩:=bf.open hS .z;(unhygienic cases x0);dsimp only [cr,iJ,cZ,eH,bD.fY,aa,af] at hS;have hS:=vu.op hS (.s (.s .z));have hq:=eV hS hw;revert hq hS hw;(repeat first|clear hq|clear hS|clear hw|revert hc|revert R|revert K);refine Wp (J3 (Tg.mk (n:=10) @pS) @nf (dz de)) (J7 h h2 @jK.eq_1 @jK.eq_2 bE @bk.eq_1 @aZ.v.eq_1) ?_<;>(unhygienic intros);refine⟨_,by simp [hq,AW.ab,aG];rfl,by first|(simp [aZ.v];done)|(simp [aZ.v,h];done),?_⟩;apply bf.bS
   (·exact sA)
   exact fP
   (·first|exact pP|exact kP)
   all_goals(first|exact 0|exact undef)
 have e:ip ⟨cf,aj,aF,aC,value,b7,am,reads,an,ay,set,bz,aB,ao,some l,aL,au,.eh⟩ M l=(x,11,⟨cf,aj,aF,aC,value,b7,am,reads,an,ay,set,bz,aB,ao,some l',some ⟨false,0,false⟩,au,.cU⟩,M'):=by
  unfold ip;rw [hr];dsimp only;rw [h2];simp [h]
 rw [e];intro A F hw hS;refine aN kbd λ_=>?_;dsimp only [aa,af] at hS;obtain⟨x0,hS⟩:=bf.open hS .z;(unhygienic cases x0);dsimp only [cr,iJ,cZ,eH,bD.fY,aa,af] at hS;have hS:=vu.op hS (.s (.s .z));have hq:=eV hS hw;revert hq hS hw;(repeat first|clear hq|clear hS|clear hw|revert hc|revert R|revert K);refine Wp (J3 (Tg.mk (n:=10) @pS) @nf (dz de)) (J7 h h2 @jK.eq_1 @jK.eq_2 bE @bk.eq_1 @aZ.v.eq_1) ?_<;>(unhygienic intros);refine⟨_,by simp [hq,AW.ab,aG];rfl,by first|(simp [aZ.v];done)|(simp [aZ.v,h];done),?_⟩;apply bf.bS
 (·exact sA)
 exact fP
 (·first|exact pP|exact kP)
 all_goals(first|exact 0|exact undef)
theorem gC {A:AW} {L K:List It} {k:Value->AW->Prop} {v:Value} {l:List Int} {x:Int} (hw:A.Wf) (hS:ah A L) (hp:aE L (.h (av .i64 v l)) K) (hl:l.length<2^38) (hk:k (.bool (decide (x∈l))) A) :
 aD qa 173 [v,.int .i64 x] A k:=by
 refine bO (yA v l x A (ah.tE hS hp) (by omega)) ?_;rintro _ _ ⟨rfl,rfl⟩ _ _;exact hk
end
section
open T17 T13
variable [Gl]
theorem Gd (b pb:Nat) (s:aJ) (t:iG) (M:Mm) (hd:s.aH=.cU) (hl:s.aL=some t) (JL:s.set.length<2^38) :
 bn qa 119 [pv b,pv pb] [.h (bf b s),dN pb M] (λv=>v=.tuple #[(gU s M t).1.v,.int .i64 (gU s M t).2.1])
  (λ_=>[.h (bf b (gU s M t).2.2.1),dN pb (gU s M t).2.2.2]):=by
 (unhygienic cases s);dsimp only at hd;subst hd;dsimp only at hl JL;subst hl;obtain⟨x,t',M',hr⟩:∃x e' M',gI t M=(x,e',M'):=⟨_,_,_,rfl⟩;have dz:=λn=>F2 n pb t M;rw [hr] at dz;by_cases h:x.fI=4<;>cases h2:t'.done
 . have e:gU ⟨cf,aj,aF,aC,value,b7,am,reads,an,ay,set,bz,aB,ao,aP,some t,au,.cU⟩ M t=(x,13,⟨cf,aj,aF,aC,value,b7,am,reads,an,ay,set,bz,aB,ao,aP,some t',au,.cU⟩,M'):=by
    unfold gU;rw [hr];dsimp only;rw [h2];simp [h]
   rw [e];intro A F hw hS;refine aN kas λ_=>?_;dsimp only [aa,af] at hS;obtain⟨x0,hS⟩:=bf.open hS .z;(unhygienic cases x0);dsimp only [cr,iJ,cZ,eH,bD.fY,aa,af] at hS;have hS:=w9.op hS (.s (.s (.s .z)));have hq:=eV hS hw;revert hq hS hw;clear hS;clear hS;refine Wp (J2 (Tg.mk (n:=10) @lB) (dz db)) (J7 h h2 @iQ.eq_1 @iQ.eq_2 bE @bk.eq_1 @aZ.v.eq_1) ?_<;>(unhygienic intros);refine⟨_,by simp [hq,AW.ab,aG];rfl,by first|(simp [aZ.v];done)|(simp [aZ.v,h];done),?_⟩;apply bf.bS
   (·exact sA)
   exact fP
   (·first|exact pP|exact kP)
   all_goals(first|exact 0|exact undef)
 . by_cases h3:set.length=0
   . have e:gU ⟨cf,aj,aF,aC,value,b7,am,reads,an,ay,set,bz,aB,ao,aP,some t,au,.cU⟩ M t=(x,13,⟨cf,aj,aF,aC,value,b7,am,reads,an,ay,set,bz,aB,ao,aP,some t',au,.bK⟩,M'):=by
      unfold gU;rw [hr];dsimp only;rw [h2];simp [h,h3]
     rw [e];intro A F hw hS;refine aN kas λ_=>?_;dsimp only [aa,af] at hS;obtain⟨x0,hS⟩:=bf.open hS .z;(unhygienic cases x0);dsimp only [cr,iJ,cZ,eH,bD.fY,aa,af] at hS;have hS:=w9.op hS (.s (.s (.s .z)));have hq:=eV hS hw;have h4:∀rv,(iw.mk set rv false).done=true:=λrv=>by simp [iw.done,h3]
     revert hq hS hw;(repeat first|clear hq|clear hS|clear hw|revert hc|revert R|revert K);refine Wp (J6 (Tg.mk (n:=10) @lB) (Tg.mk (n:=11) @sB) (Tg.mk (n:=11) @pR) (Tg.mk (n:=30) (λA' h1 h2=>tL b ⟨cf,aj,aF,aC,value,b7,am,reads,an,ay,set,bz,aB,ao,aP,some t',au,.cU⟩ 6 .cU A' h1 h2)) (Tg.mk (n:=10) @kK) (dz db)) (J8 h h2 h4 @iQ.eq_1 @iQ.eq_2 bE @bk.eq_1 @aZ.v.eq_1) ?_<;>(unhygienic intros);refine⟨_,by simp [hq,AW.ab,aG];rfl,by first|(simp [aZ.v];done)|(simp [aZ.v,h];done),?_⟩;apply bf.bS
     (·exact sA)
     exact fP
     (·first|exact pP|exact kP)
     all_goals(first|exact 0|exact undef)
   have e:gU ⟨cf,aj,aF,aC,value,b7,am,reads,an,ay,set,bz,aB,ao,aP,some t,au,.cU⟩ M t=(x,13,⟨cf,aj,aF,aC,value,b7,am,reads,an,ay,set,bz,aB,ao,aP,some t',au,.cM ⟨set,aJ.rv ⟨cf,aj,aF,aC,value,b7,am,reads,an,ay,set,bz,aB,ao,aP,some t',au,.cU⟩,false⟩⟩,M'):=by
    unfold gU;rw [hr];dsimp only;rw [h2];simp [h,h3,aJ.rv]
   rw [e];intro A F hw hS;refine aN kas λ_=>?_;dsimp only [aa,af] at hS;obtain⟨x0,hS⟩:=bf.open hS .z;(unhygienic cases x0);dsimp only [cr,iJ,cZ,eH,bD.fY,aa,af] at hS;have hS:=w9.op hS (.s (.s (.s .z)));have hq:=eV hS hw;have h4:∀rv,(iw.mk set rv false).done=false:=λrv=>by simp [iw.done];exact λh=>h3 (by rw [h];rfl)
   revert hq hS hw;(repeat first|clear hq|clear hS|clear hw|revert hc|revert R|revert K);refine Wp (J6 (Tg.mk (n:=10) @lB) (Tg.mk (n:=11) @sB) (Tg.mk (n:=11) @pR) (Tg.mk (n:=30) (λA' h1 h2=>tL b ⟨cf,aj,aF,aC,value,b7,am,reads,an,ay,set,bz,aB,ao,aP,some t',au,.cU⟩ 6 .cU A' h1 h2)) (Tg.mk (n:=10) @kK) (dz db)) (J8 h h2 h4 @iQ.eq_1 @iQ.eq_2 bE @bk.eq_1 @aZ.v.eq_1) ?_<;>(unhygienic intros);refine⟨_,by simp [hq,AW.ab,aG];rfl,by first|(simp [aZ.v];done)|(simp [aZ.v,h];done),?_⟩;apply bf.bS
   (·exact sA)
   exact fP
   (·first|exact pP|exact kP)
   all_goals(first|exact 0|exact undef)
 . have e:gU ⟨cf,aj,aF,aC,value,b7,am,reads,an,ay,set,bz,aB,ao,aP,some t,au,.cU⟩ M t=(x,14,⟨cf,aj,aF,aC,value,b7,am,reads,an,ay,set,bz,aB,ao,aP,some t',au,.cU⟩,M'):=by
    unfold gU;rw [hr];dsimp only;rw [h2];simp [h]
   rw [e];intro A F hw hS;refine aN kas λ_=>?_;dsimp only [aa,af] at hS;obtain⟨x0,hS⟩:=bf.open hS .z;(unhygienic cases x0);dsimp only [cr,iJ,cZ,eH,bD.fY,aa,af] at hS;have hS:=w9.op hS (.s (.s (.s .z)));have hq:=eV hS hw;revert hq hS hw;(repeat first|clear hq|clear hS|clear hw|revert hc|revert R|revert K);refine Wp (J2 (Tg.mk (n:=10) @lB) (dz db)) (J7 h h2 @iQ.eq_1 @iQ.eq_2 bE @bk.eq_1 @aZ.v.eq_1) ?_<;>(unhygienic intros);refine⟨_,by simp [hq,AW.ab,aG];rfl,by first|(simp [aZ.v];done)|(simp [aZ.v,h];done),?_⟩;apply bf.bS
   (·exact sA)
   exact fP
   (·first|exact pP|exact kP)
   all_goals(first|exact 0|exact undef)
 by_cases h3:set.length=0
 . have e:gU ⟨cf,aj,aF,aC,value,b7,am,reads,an,ay,set,bz,aB,ao,aP,some t,au,.cU⟩ M t=(x,14,⟨cf,aj,aF,aC,value,b7,am,reads,an,ay,set,bz,aB,ao,aP,some t',au,.bK⟩,M'):=by
    unfold gU;rw [hr];dsimp only;rw [h2];simp [h,h3]
   rw [e];intro A F hw hS;refine aN kas λ_=>?_;dsimp only [aa,af] at hS;obtain⟨x0,hS⟩:=bf.open hS .z;(unhygienic cases x0);dsimp only [cr,iJ,cZ,eH,bD.fY,aa,af] at hS;have hS:=w9.op hS (.s (.s (.s .z)));have hq:=eV hS hw;have h4:∀rv,(iw.mk set rv false).done=true:=λrv=>by simp [iw.done,h3]
   revert hq hS hw;(repeat first|clear hq|clear hS|clear hw|revert hc|revert R|revert K);refine Wp (J6 (Tg.mk (n:=10) @lB) (Tg.mk (n:=11) @sB) (Tg.mk (n:=11) @pR) (Tg.mk (n:=30) (λA' h1 h2=>tL b ⟨cf,aj,aF,aC,value,b7,am,reads,an,ay,set,bz,aB,ao,aP,some t',au,.cU⟩ 6 .cU A' h1 h2)) (Tg.mk (n:=10) @kK) (dz db)) (J8 h h2 h4 @iQ.eq_1 @iQ.eq_2 bE @bk.eq_1 @aZ.v.eq_1) ?_<;>(unhygienic intros);refine⟨_,by simp [hq,AW.ab,aG];rfl,by first|(simp [aZ.v];done)|(simp [aZ.v,h];done),?_⟩;apply bf.bS
   (·exact sA)
   exact fP
   (·first|exact pP|exact kP)
   all_goals(first|exact 0|exact undef)
 have e:gU ⟨cf,aj,aF,aC,value,b7,am,reads,an,ay,set,bz,aB,ao,aP,some t,au,.cU⟩ M t=(x,14,⟨cf,aj,aF,aC,value,b7,am,reads,an,ay,set,bz,aB,ao,aP,some t',au,.cM ⟨set,aJ.rv ⟨cf,aj,aF,aC,value,b7,am,reads,an,ay,set,bz,aB,ao,aP,some t',au,.cU⟩,false⟩⟩,M'):=by
  unfold gU;rw [hr];dsimp only;rw [h2];simp [h,h3,aJ.rv]
 rw [e];intro A F hw hS;refine aN kas λ_=>?_;dsimp only [aa,af] at hS;obtain⟨x0,hS⟩:=bf.open hS .z;(unhygienic cases x0);dsimp only [cr,iJ,cZ,eH,bD.fY,aa,af] at hS;have hS:=w9.op hS (.s (.s (.s .z)));have hq:=eV hS hw;have h4:∀rv,(iw.mk set rv false).done=false:=λrv=>by simp [iw.done];exact λh=>h3 (by rw [h];rfl)
 revert hq hS hw;(repeat first|clear hq|clear hS|clear hw|revert hc|revert R|revert K);refine Wp (J6 (Tg.mk (n:=10) @lB) (Tg.mk (n:=11) @sB) (Tg.mk (n:=11) @pR) (Tg.mk (n:=30) (λA' h1 h2=>tL b ⟨cf,aj,aF,aC,value,b7,am,reads,an,ay,set,bz,aB,ao,aP,some t',au,.cU⟩ 6 .cU A' h1 h2)) (Tg.mk (n:=10) @kK) (dz db)) (J8 h h2 h4 @iQ.eq_1 @iQ.eq_2 bE @bk.eq_1 @aZ.v.eq_1) ?_<;>(unhygienic intros);refine⟨_,by simp [hq,AW.ab,aG];rfl,by first|(simp [aZ.v];done)|(simp [aZ.v,h];done),?_⟩;apply bf.bS
 (·exact sA)
 exact fP
 (·first|exact pP|exact kP)
 all_goals(first|exact 0|exact undef)
theorem D6 (b pb:Nat) (s:aJ) (c:iw) (M:Mm) (hd:s.aH=.cM c) (Xd:s.ao.length<2^20) (Tb:s.ao.length=0\/∃l,s.aP=some l/\s.ao.length=l.dT.length) :
 bn qa 120 [pv b,pv pb] [.h (bf b s),dN pb M] (λv=>v=.tuple #[(gn s M c).1.v,.int .i64 (gn s M c).2.1])
  (λ_=>[.h (bf b (gn s M c).2.2.1),dN pb (gn s M c).2.2.2]):=by
 (unhygienic cases s);dsimp only at hd;subst hd;dsimp only at Xd Tb;obtain⟨x,c',M',hr⟩:∃x e' M',gm c M=(x,e',M'):=⟨_,_,_,rfl⟩;have dz:=λn=>Fm n pb c M;rw [hr] at dz;cases h2:c'.jG
 . cases h3:c'.done
   . have e:gn ⟨cf,aj,aF,aC,value,b7,am,reads,an,ay,set,bz,aB,ao,aP,aL,au,.cM c⟩ M c=(x,15,⟨cf,aj,aF,aC,value,b7,am,reads,an,ay,set,bz,aB,ao,aP,aL,au,.cM c'⟩,M'):=by
      unfold gn;rw [hr];dsimp only;rw [h2,h3];simp
     rw [e];intro A F hw hS;refine aN Tryz.func120 λ_=>?_;dsimp only [aa,af] at hS;obtain⟨x0,hS⟩:=bf.open hS .z;(unhygienic cases x0);dsimp only [cr,iJ,cZ,eH,bD.fY,aa,af] at hS;have hq:=eV hS hw;revert hq hS hw;clear hS;refine Wp (J3 (Tg.mk (n:=10) @pq) (Tg.mk (n:=10) @kK) (dz m)) (J5 h2 h3 bE @bk.eq_1 @aZ.v.eq_1) ?_<;>(unhygienic intros);refine⟨_,by simp [hq,AW.ab,aG];rfl,by first|(simp [aZ.v];done)|(simp [aZ.v,h];done),?_⟩;apply bf.bS
     (·exact sA)
     exact fP
     (·first|exact pP|exact kP)
     all_goals(first|exact 0|exact undef)
   have e:gn ⟨cf,aj,aF,aC,value,b7,am,reads,an,ay,set,bz,aB,ao,aP,aL,au,.cM c⟩ M c=(x,15,⟨cf,aj,aF,aC,value,b7,am,reads,an,ay,set,bz,aB,ao,aP,aL,au,.bK⟩,M'):=by
    unfold gn;rw [hr];dsimp only;rw [h2,h3];simp
   rw [e];intro A F hw hS;refine aN Tryz.func120 λ_=>?_;dsimp only [aa,af] at hS;obtain⟨x0,hS⟩:=bf.open hS .z;(unhygienic cases x0);dsimp only [cr,iJ,cZ,eH,bD.fY,aa,af] at hS;have hq:=eV hS hw;revert hq hS hw;(repeat first|clear hq|clear hS|clear hw|revert hc|revert R|revert K);refine Wp (J3 (Tg.mk (n:=10) @pq) (Tg.mk (n:=10) @kK) (dz m)) (J5 h2 h3 bE @bk.eq_1 @aZ.v.eq_1) ?_<;>(unhygienic intros);refine⟨_,by simp [hq,AW.ab,aG];rfl,by first|(simp [aZ.v];done)|(simp [aZ.v,h];done),?_⟩;apply bf.bS
   (·exact sA)
   exact fP
   (·first|exact pP|exact kP)
   all_goals(first|exact 0|exact undef)
 have e:gn ⟨cf,aj,aF,aC,value,b7,am,reads,an,ay,set,bz,aB,ao,aP,aL,au,.cM c⟩ M c=(x,15,fJ ⟨cf,aj,aF,9,value,b7,am,reads,an,ay,set,bz,aB,ao,aP,aL,au,.cM c'⟩,M'):=by
  unfold gn;rw [hr];dsimp only;rw [h2];simp
 rw [e];intro A F hw hS;refine aN Tryz.func120 λ_=>?_;dsimp only [aa,af] at hS;obtain⟨x0,hS⟩:=bf.open hS .z;(unhygienic cases x0);dsimp only [cr,iJ,cZ,eH,bD.fY,aa,af] at hS;have hq:=eV hS hw
 repeat' (first|(refine kY λR hR=>?_;simp [ar,ax,hq,h2,AW.ab,aG,bk,aZ.v];try simp (disch:=omega) only [aA,aw,ar,ax])|(refine hR _ _ ?_;clear hR R)|(refine hK _ _ ?_;clear hK K)|refine nx ?_|refine wn λK hK=>?_|simp only [wS]|(apply bn.ft (dz m);(·exact wA);(·exact sA);(·first|exact pP|exact kP);rintro _ _ rfl hS hw _;have hS:=lA hS;have hq:=CH hS hw)|(apply pq;(·exact wA);(·exact sA);(·first|exact pP|exact kP);)|(apply bn.ki (uB b ⟨cf,aj,aF,9,value,b7,am,reads,an,ay,set,bz,aB,ao,aP,aL,au,.cM c'⟩ 7 (.cM c') (by exact Xd) (by exact Tb));(·exact wA);(·exact sA);(·exact fP);(·first|exact pP|exact kP);(rintro _ _ _ hS hw _;have hS:=lA hS);(try (have hq:=CH hS hw));all_goals(try (first|exact 0|exact undef)))|(show c8 _ _ _ _ _ _;refine nx ?_)|(refine wc rfl (λhc=>?_) (λhc=>?_)<;>(try simp at hc)<;>(try omega)<;>(try (simp [h2] at hc;done))<;>(try (simp [h3] at hc;done))<;>(try (simp [h4] at hc;done)))|(refine ib (λhc=>?_) (λhc=>?_)<;>(try omega)<;>(try simp (disch:=omega) only [aA,aw])))
 refine⟨_,by simp [hq,AW.ab,aG];rfl,by first|(simp [aZ.v];done)|(simp [aZ.v,h];done),?_⟩;apply ah.bS
 (·exact sA)
 (·first|exact pP|exact kP)
end
end Go.Stx
