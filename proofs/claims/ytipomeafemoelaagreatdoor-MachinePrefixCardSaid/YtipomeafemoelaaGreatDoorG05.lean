/-
 The program's attempt: its requests.
-/
import Derived.Test.YtipomeafemoelaaGreatDoorG04
set_option linter.unusedVariables false
set_option linter.unusedSimpArgs false
set_option linter.unusedSectionVars false
set_option maxRecDepth 20000
set_option maxHeartbeats 4000000
namespace Go.Stx
open Go Go.Proofs
attribute [local irreducible] TW bA cM aS ax aH cJ de
section
abbrev xY:List (Nat×Nat):=[(0,0),(1,0),(2,0),(3,0),(4,0),(5,0),(6,0),(7,0),(8,0),(9,0),(10,0),(11,0)]
abbrev u5:List (Nat×Nat):=[(0,0),(1,0),(2,0),(3,0),(4,0),(5,0),(6,0),(7,0)]
open T12 T13
variable [Gl]
theorem eY {f:FuncId} {args:List Value} {V:Value} {b:Nat} {s:aM} (hC:∀A':AW,A'.Wf->ah A' [.h (aX b s)]->eQ f args A' V)
 {A:AW} {L K:List It} {k:Value->AW->Prop} (hw:A.Wf) (hS:ah A L) (hp:ay L (.h (aX b s)) K) (hk:k V A):ax Tryz.prog f args A k:=by
 refine bD (hC A hw (ah.bO hS (.s hp .z))) ?_;rintro _ _ ⟨rfl,rfl⟩ _ _;exact hk
theorem iM (b:Nat) (s:aM) (st:Int) (h:s.mR st=true):∀A':AW,A'.Wf->ah A' [.h (iT b s 0 .bF)]->eQ 135 [pv b,.int .i64 st] A' (.int .i64 0):=by
 intro A' h1 h2;have h3:s.aG.gf=0:=by
  unfold aM.mR at h;simp at h;exact h.1
 have:=Cm b s st .bF A' h1 (by rw [h3];exact h2);rwa [if_pos h] at this
theorem rL (b:Nat) (s:aM) (st:Int) (h:¬s.mR st=true):∀A':AW,A'.Wf->ah A' [.h (aX b s)]->eQ 135 [pv b,.int .i64 st] A' (.int .i64 1):=by
 intro A' h1 h2;have:=Cm b s st s.aG A' h1 (aX.RS h2 .z);rwa [if_neg h] at this
theorem vm {s:aM} {st:Int} (h:s.mR st=true):s.aG=.bF/\s.aA=st:=by
 unfold aM.mR at h;simp at h;refine⟨?_,h.2⟩;have h1:=h.1;revert h1;cases s.aG<;>simp [br.gf]
theorem Q7 {c:bq} (hc:db c) (a:Int):kE c a<=64:=by
 have:=hc.nb;unfold kE;split;rename_i b h;have h1:=List.mem_range.1 (List.mem_of_find?_eq_some h);omega;omega
theorem LT (b:Nat) (s:aM) :
 bf Tryz.prog 149 [pv b] [.h (aX b s)] (λv=>v=.int .i64 (gO s).1) (λ_=>[.h (aX b (gO s).2)]):=by
 by_cases hf:s.mR 0=true
 . skip
   obtain⟨h1,h2⟩:=vm hf;(unhygienic cases s);dsimp only at h1 h2;subst h1 h2;intro A F hw hS;refine aF Tryz.func149 λ_=>?_;obtain⟨x0,hS⟩:=aX.open hS .z;(unhygienic cases x0);dsimp only [b9,gZ,cF,ez,br.gf,aa,ag] at hS;have hq:=eK hS hw;have C1:=hw.lt (hS.g 0 rfl);have nF:(b=A.next+1+1)=False:=eq_false (by omega);have vz:(A.next+1+1=b)=False:=eq_false (by omega);have w7:(A.next=A.next+1+1)=False:=eq_false (by omega);have e:gO ⟨cf,am,0,az,value,bY,aj,reads,ak,av,set,bu,aw,ao,aJ,aI,an,.bF⟩=(0,_):=if_pos hf;revert hq hS hw;clear hS;refine Wp (J2 (Tg.mk (n:=30) (iM b ⟨cf,am,0,az,value,bY,aj,reads,ak,av,set,bu,aw,ao,aJ,aI,an,.bF⟩ 0 hf)) @Ey) (J4 nF vz w7 bz) ?_<;>(unhygienic intros);rw [e];refine⟨_,by first|rfl|(simp;rfl),rfl,?_⟩;apply aX.bO
   (·exact sA)
   exact fP
   (·first|exact pP|exact kP)
   all_goals(first|exact 0|exact undef)
 have e:gO s=(1,s):=if_neg hf;intro A F hw hS;refine aF Tryz.func149 λ_=>?_
 try dsimp only [aa,ag] at hS
 have hr:=rL b s 0 hf;revert hS hw;(repeat first|clear hS|clear hw|revert hc|revert R|revert K);refine Wp (J1 (Tg.mk (n:=10) (λ{A L K k}=>eY (A:=A) (L:=L) (K:=K) (k:=k) hr))) (J1 bz) ?_<;>(unhygienic intros);rw [e];refine⟨_,by first|rfl|(simp;rfl),rfl,?_⟩;apply ah.bO
 (·exact sA)
 (·first|exact pP|exact kP)
theorem BP (b:Nat) (s:aM) (a v:Int) :
 bf Tryz.prog 95 [pv b,.int .u64 a,.int .u64 v] [.h (aX b s)] (λu=>u=.int .i64 (HJ s a v).1) (λ_=>[.h (aX b (HJ s a v).2)]):=by
 by_cases hf:s.mR 1=true
 . skip
   obtain⟨h1,h2⟩:=vm hf;(unhygienic cases s);dsimp only at h1 h2;subst h1 h2;intro A F hw hS;refine aF Tryz.func95 λ_=>?_;obtain⟨x0,hS⟩:=aX.open hS .z;(unhygienic cases x0);dsimp only [b9,gZ,cF,ez,br.gf,aa,ag] at hS;have hq:=eK hS hw;have C1:=hw.lt (hS.g 0 rfl);have nF:(b=A.next+1+1)=False:=eq_false (by omega);have vz:(A.next+1+1=b)=False:=eq_false (by omega);have w7:(A.next=A.next+1+1)=False:=eq_false (by omega);have e:HJ ⟨cf,am,1,az,value,bY,aj,reads,ak,av,set,bu,aw,ao,aJ,aI,an,.bF⟩ a v=(0,_):=if_pos hf;revert hq hS hw;clear hS;refine Wp (J2 (Tg.mk (n:=30) (iM b ⟨cf,am,1,az,value,bY,aj,reads,ak,av,set,bu,aw,ao,aJ,aI,an,.bF⟩ 1 hf)) (Tg.mk (n:=31) (λ{A L K k fn cs eb eG bH c8 cU m c0 c1 c2 df bn bU bW eh dg eV bX bV bd dh dk gt ei}=>jP (A:=A) (L:=L) (K:=K) (k:=k) (fn:=fn) (cs:=cs) (eb:=eb) (eG:=eG) (bH:=bH) (c8:=c8) (cU:=cU) (m:=m) (c0:=c0) (c1:=c1) (c2:=c2) (df:=df) (bn:=bn) (bU:=bU) (bW:=bW) (eh:=eh) (dg:=dg) (eV:=eV) (bX:=bX) (bV:=bV) (bd:=bd) (dh:=dh) (dk:=dk) (gt:=gt) (ei:=ei) (s:=⟨cf,am,1,az,value,bY,aj,reads,ak,av,set,bu,aw,ao,aJ,aI,an,.bF⟩) (bR:=0)))) (J4 nF vz w7 bz) ?_<;>(unhygienic intros)
   rw [e];refine⟨_,by first|rfl|(simp;rfl),rfl,?_⟩;apply aX.bO
   (·exact sA)
   exact fP
   (·first|exact pP|exact kP)
   all_goals(first|exact 0|exact undef)
 have e:HJ s a v=(1,s):=if_neg hf;intro A F hw hS;refine aF Tryz.func95 λ_=>?_
 try dsimp only [aa,ag] at hS
 have hr:=rL b s 1 hf;revert hS hw;(repeat first|clear hS|clear hw|revert hc|revert R|revert K);refine Wp (J1 (Tg.mk (n:=10) (λ{A L K k}=>eY (A:=A) (L:=L) (K:=K) (k:=k) hr))) (J1 bz) ?_<;>(unhygienic intros);rw [e];refine⟨_,by first|rfl|(simp;rfl),rfl,?_⟩;apply ah.bO
 (·exact sA)
 (·first|exact pP|exact kP)
theorem uC (b:Nat) (s:aM) (oC:Int) :
 bf Tryz.prog 92 [pv b,.int .i64 oC] [.h (aX b s)] (λu=>u=.int .i64 (D1 s oC).1) (λ_=>[.h (aX b (D1 s oC).2)]):=by
 by_cases hf:s.mR 1=true
 . skip
   obtain⟨h1,h2⟩:=vm hf;(unhygienic cases s);dsimp only at h1 h2;subst h1 h2;intro A F hw hS;refine aF Tryz.func92 λ_=>?_;obtain⟨x0,hS⟩:=aX.open hS .z;(unhygienic cases x0);dsimp only [b9,gZ,cF,ez,br.gf,aa,ag] at hS;have hq:=eK hS hw;have C1:=hw.lt (hS.g 0 rfl);have nF:(b=A.next+1+1)=False:=eq_false (by omega);have vz:(A.next+1+1=b)=False:=eq_false (by omega);have w7:(A.next=A.next+1+1)=False:=eq_false (by omega);have e0:D1 ⟨cf,am,1,az,value,bY,aj,reads,ak,av,set,bu,aw,ao,aJ,aI,an,.bF⟩ oC=_:=if_pos hf;dsimp only at e0;by_cases g1:oC=1
   . have e:=e0.trans (if_neg (by omega));revert hq hS hw;clear hS;refine Wp (J2 (Tg.mk (n:=30) (iM b ⟨cf,am,1,az,value,bY,aj,reads,ak,av,set,bu,aw,ao,aJ,aI,an,.bF⟩ 1 hf)) (Tg.mk (n:=31) (λ{A L K k fn cs eb eG bH c8 cU m c0 c1 c2 df bn bU bW eh dg eV bX bV bd dh dk gt ei}=>jP (A:=A) (L:=L) (K:=K) (k:=k) (fn:=fn) (cs:=cs) (eb:=eb) (eG:=eG) (bH:=bH) (c8:=c8) (cU:=cU) (m:=m) (c0:=c0) (c1:=c1) (c2:=c2) (df:=df) (bn:=bn) (bU:=bU) (bW:=bW) (eh:=eh) (dg:=dg) (eV:=eV) (bX:=bX) (bV:=bV) (bd:=bd) (dh:=dh) (dk:=dk) (gt:=gt) (ei:=ei) (s:=⟨cf,am,1,az,value,bY,aj,reads,ak,av,set,bu,aw,ao,aJ,aI,an,.bF⟩) (bR:=0)))) (J5 nF vz w7 g1 bz) ?_<;>(unhygienic intros);subst g1;rw [e];refine⟨_,by first|rfl|(simp;rfl),rfl,?_⟩;apply aX.bO
     (·exact sA)
     exact fP
     (·first|exact pP|exact kP)
     all_goals(first|exact 0|exact undef)
   by_cases g2:oC=2
   . have e:=e0.trans (if_neg (by omega));revert hq hS hw;(repeat first|clear hq|clear hS|clear hw|revert hc|revert R|revert K);refine Wp (J2 (Tg.mk (n:=30) (iM b ⟨cf,am,1,az,value,bY,aj,reads,ak,av,set,bu,aw,ao,aJ,aI,an,.bF⟩ 1 hf)) (Tg.mk (n:=31) (λ{A L K k fn cs eb eG bH c8 cU m c0 c1 c2 df bn bU bW eh dg eV bX bV bd dh dk gt ei}=>jP (A:=A) (L:=L) (K:=K) (k:=k) (fn:=fn) (cs:=cs) (eb:=eb) (eG:=eG) (bH:=bH) (c8:=c8) (cU:=cU) (m:=m) (c0:=c0) (c1:=c1) (c2:=c2) (df:=df) (bn:=bn) (bU:=bU) (bW:=bW) (eh:=eh) (dg:=dg) (eV:=eV) (bX:=bX) (bV:=bV) (bd:=bd) (dh:=dh) (dk:=dk) (gt:=gt) (ei:=ei) (s:=⟨cf,am,1,az,value,bY,aj,reads,ak,av,set,bu,aw,ao,aJ,aI,an,.bF⟩) (bR:=0)))) (J6 nF vz w7 g1 g2 bz) ?_<;>(unhygienic intros);subst g2;rw [e];refine⟨_,by first|rfl|(simp;rfl),rfl,?_⟩;apply aX.bO
     (·exact sA)
     exact fP
     (·first|exact pP|exact kP)
     all_goals(first|exact 0|exact undef)
   have e:=e0.trans (if_pos ⟨g1,g2⟩);revert hq hS hw;(repeat first|clear hq|clear hS|clear hw|revert hc|revert R|revert K);refine Wp (J1 (Tg.mk (n:=30) (iM b ⟨cf,am,1,az,value,bY,aj,reads,ak,av,set,bu,aw,ao,aJ,aI,an,.bF⟩ 1 hf))) (J6 nF vz w7 g1 g2 bz) ?_<;>(unhygienic intros);rw [e];refine⟨_,by first|rfl|(simp;rfl),rfl,?_⟩;apply aX.bO
   (·exact sA)
   exact fP
   (·first|exact pP|exact kP)
   all_goals(first|exact 0|exact undef)
 have e:D1 s oC=(1,s):=if_neg hf;intro A F hw hS;refine aF Tryz.func92 λ_=>?_
 try dsimp only [aa,ag] at hS
 have hr:=rL b s 1 hf;revert hS hw;(repeat first|clear hS|clear hw|revert hc|revert R|revert K);refine Wp (J1 (Tg.mk (n:=10) (λ{A L K k}=>eY (A:=A) (L:=L) (K:=K) (k:=k) hr))) (J1 bz) ?_<;>(unhygienic intros);rw [e];refine⟨_,by first|rfl|(simp;rfl),rfl,?_⟩;apply ah.bO
 (·exact sA)
 (·first|exact pP|exact kP)
theorem Fp (b:Nat) (s:aM) (a:Int) (hC:gq s) (ha:0<=a) :
 bf Tryz.prog 93 [pv b,.int .u64 a] [.h (aX b s)] (λu=>u=.int .i64 (Ik s a).1) (λ_=>[.h (aX b (Ik s a).2)]):=by
 by_cases hf:s.mR 1=true
 . skip
   obtain⟨h1,h2⟩:=vm hf;(unhygienic cases s);dsimp only at h1 h2;subst h1 h2;intro A F hw hS;refine aF Tryz.func93 λ_=>?_;obtain⟨x0,hS⟩:=aX.open hS .z;(unhygienic cases x0);dsimp only [b9,gZ,cF,ez,br.gf,aa,ag] at hS;have hq:=eK hS hw;have C1:=hw.lt (hS.g 0 rfl);have nF:(b=A.next+1+1)=False:=eq_false (by omega);have vz:(A.next+1+1=b)=False:=eq_false (by omega);have w7:(A.next=A.next+1+1)=False:=eq_false (by omega);have RX:=hC.cf.ba;dsimp only at RX;have e0:Ik ⟨cf,am,1,az,value,bY,aj,reads,ak,av,set,bu,aw,ao,aJ,aI,an,.bF⟩ a=_:=if_pos hf;dsimp only at e0;by_cases g1:cf.ba<=a
   . have e:=e0.trans (if_pos g1);revert hq hS hw;clear hS;refine Wp (J3 (Tg.mk (n:=30) (iM b ⟨cf,am,1,az,value,bY,aj,reads,ak,av,set,bu,aw,ao,aJ,aI,an,.bF⟩ 1 hf)) (Tg.mk (n:=30) (pe b ⟨cf,am,1,az,value,bY,aj,reads,ak,av,set,bu,aw,ao,aJ,aI,an,.bF⟩ 0 a .bF hC.cf)) (Tg.mk (n:=31) (λ{A L K k fn cs eb eG bH c8 cU m c0 c1 c2 df bn bU bW eh dg eV bX bV bd dh dk gt ei}=>jP (A:=A) (L:=L) (K:=K) (k:=k) (fn:=fn) (cs:=cs) (eb:=eb) (eG:=eG) (bH:=bH) (c8:=c8) (cU:=cU) (m:=m) (c0:=c0) (c1:=c1) (c2:=c2) (df:=df) (bn:=bn) (bU:=bU) (bW:=bW) (eh:=eh) (dg:=dg) (eV:=eV) (bX:=bX) (bV:=bV) (bd:=bd) (dh:=dh) (dk:=dk) (gt:=gt) (ei:=ei) (s:=⟨cf,am,1,az,value,bY,aj,reads,ak,av,set,bu,aw,ao,aJ,aI,an,.bF⟩) (bR:=0)))) (J5 nF vz w7 g1 bz) ?_<;>(unhygienic intros);rw [e];refine⟨_,by first|rfl|(simp;rfl),rfl,?_⟩;apply aX.bO
     (·exact sA)
     exact fP
     (·first|exact pP|exact kP)
     all_goals(first|exact 0|exact undef)
   have VM:IntKind.i64.wrap a=a:=ai (by omega) (by omega);have hlg:∀x y,kZ bu a=(x,y)->(kZ bu a).1=x/\(kZ bu a).2=y:=λx y h=>by rw [h];exact⟨rfl,rfl⟩
   cases g2:(kZ bu a).2
   . have e:=e0.trans ((if_neg g1).trans (if_neg (by rw [g2];simp)));revert hq hS hw;(repeat first|clear hq|clear hS|clear hw|revert hc|revert R|revert K);refine Wp (J4 (Tg.mk (n:=30) (iM b ⟨cf,am,1,az,value,bY,aj,reads,ak,av,set,bu,aw,ao,aJ,aI,an,.bF⟩ 1 hf)) (Tg.mk (n:=30) (pe b ⟨cf,am,1,az,value,bY,aj,reads,ak,av,set,bu,aw,ao,aJ,aI,an,.bF⟩ 0 a .bF hC.cf)) (Tg.mk (n:=10) (λ{A L K k n}=>sN (A:=A) (L:=L) (K:=K) (k:=k) (n:=n) hC.bu hC.ef hC.dJ ha)) (Tg.mk (n:=31) (λ{A L K k fn cs eb eG bH c8 cU m c0 c1 c2 df bn bU bW eh dg eV bX bV bd dh dk gt ei}=>Ce (A:=A) (L:=L) (K:=K) (k:=k) (fn:=fn) (cs:=cs) (eb:=eb) (eG:=eG) (bH:=bH) (c8:=c8) (cU:=cU) (m:=m) (c0:=c0) (c1:=c1) (c2:=c2) (df:=df) (bn:=bn) (bU:=bU) (bW:=bW) (eh:=eh) (dg:=dg) (eV:=eV) (bX:=bX) (bV:=bV) (bd:=bd) (dh:=dh) (dk:=dk) (gt:=gt) (ei:=ei) (s:=⟨cf,am,1,az,value,bY,aj,reads,ak,av,set,bu,aw,ao,aJ,aI,an,.bF⟩) (bR:=0) hC.cf))) (J7 nF vz w7 g1 g2 VM bz) ?_<;>(unhygienic intros)
     rw [e];refine⟨_,by first|rfl|(simp;rfl),rfl,?_⟩;apply aX.bO
     (·exact sA)
     exact fP
     (·first|exact pP|exact kP)
     all_goals(first|exact 0|exact undef)
   have e:=e0.trans ((if_neg g1).trans (if_pos g2));revert hq hS hw;(repeat first|clear hq|clear hS|clear hw|revert hc|revert R|revert K);refine Wp (J4 (Tg.mk (n:=30) (iM b ⟨cf,am,1,az,value,bY,aj,reads,ak,av,set,bu,aw,ao,aJ,aI,an,.bF⟩ 1 hf)) (Tg.mk (n:=30) (pe b ⟨cf,am,1,az,value,bY,aj,reads,ak,av,set,bu,aw,ao,aJ,aI,an,.bF⟩ 0 a .bF hC.cf)) (Tg.mk (n:=10) (λ{A L K k n}=>sN (A:=A) (L:=L) (K:=K) (k:=k) (n:=n) hC.bu hC.ef hC.dJ ha)) (Tg.mk (n:=31) (λ{A L K k fn cs eb eG bH c8 cU m c0 c1 c2 df bn bU bW eh dg eV bX bV bd dh dk gt ei}=>jP (A:=A) (L:=L) (K:=K) (k:=k) (fn:=fn) (cs:=cs) (eb:=eb) (eG:=eG) (bH:=bH) (c8:=c8) (cU:=cU) (m:=m) (c0:=c0) (c1:=c1) (c2:=c2) (df:=df) (bn:=bn) (bU:=bU) (bW:=bW) (eh:=eh) (dg:=dg) (eV:=eV) (bX:=bX) (bV:=bV) (bd:=bd) (dh:=dh) (dk:=dk) (gt:=gt) (ei:=ei) (s:=⟨cf,am,1,az,value,bY,aj,reads,ak,av,set,bu,aw,ao,aJ,aI,an,.bF⟩) (bR:=0)))) (J7 nF vz w7 g1 g2 VM bz) ?_<;>(unhygienic intros)
   rw [e];refine⟨_,by first|rfl|(simp;rfl),rfl,?_⟩;apply aX.bO
   (·exact sA)
   exact fP
   (·first|exact pP|exact kP)
   all_goals(first|exact 0|exact undef)
 have e:Ik s a=(1,s):=if_neg hf;intro A F hw hS;refine aF Tryz.func93 λ_=>?_
 try dsimp only [aa,ag] at hS
 have hr:=rL b s 1 hf;revert hS hw;(repeat first|clear hS|clear hw|revert hc|revert R|revert K);refine Wp (J1 (Tg.mk (n:=10) (λ{A L K k}=>eY (A:=A) (L:=L) (K:=K) (k:=k) hr))) (J1 bz) ?_<;>(unhygienic intros);rw [e];refine⟨_,by first|rfl|(simp;rfl),rfl,?_⟩;apply ah.bO
 (·exact sA)
 (·first|exact pP|exact kP)
theorem L1 (b:Nat) (s:aM) (eH:Int) (hC:gq s) :
 bf Tryz.prog 150 [pv b,.int .i64 eH] [.h (aX b s)] (λu=>u=.int .i64 (M8 s eH).1) (λ_=>[.h (aX b (M8 s eH).2)]):=by
 by_cases hf:s.mR 1=true
 . skip
   obtain⟨h1,h2⟩:=vm hf;(unhygienic cases s);dsimp only at h1 h2;subst h1 h2;intro A F hw hS;refine aF Tryz.func150 λ_=>?_;obtain⟨x0,hS⟩:=aX.open hS .z;(unhygienic cases x0);dsimp only [b9,gZ,cF,ez,br.gf,aa,ag] at hS;have hq:=eK hS hw;have C1:=hw.lt (hS.g 0 rfl);have nF:(b=A.next+1+1)=False:=eq_false (by omega);have vz:(A.next+1+1=b)=False:=eq_false (by omega);have w7:(A.next=A.next+1+1)=False:=eq_false (by omega);have qz:=hC.mW;dsimp only at qz;obtain⟨oa,ca,rfl,_⟩:=(ah.qT hS (.s (.s (.s (.s (.s (.s (.s .z)))))))).bE;have e0:M8 ⟨cf,am,1,az,value,bY,aj,reads,ak,av,set,bu,aw,ao,aJ,aI,an,.bF⟩ eH=_:=if_pos hf;dsimp only at e0;by_cases g1:eH<0
   . have e:=e0.trans (if_pos (.inl g1));revert hq hS hw;clear hS;refine Wp (J2 (Tg.mk (n:=30) (iM b ⟨cf,am,1,az,value,bY,aj,reads,ak,av,set,bu,aw,ao,aJ,aI,an,.bF⟩ 1 hf)) (od xY)) (J5 nF vz w7 g1 bz) ?_<;>(unhygienic intros);rw [e];refine⟨_,by first|rfl|(simp;rfl),rfl,?_⟩;apply aX.bO
     (·exact sA)
     exact fP
     (·first|exact pP|exact kP)
     all_goals(first|exact 0|exact undef)
   by_cases g2:4<=eH
   . have e:=e0.trans (if_pos (.inr g2));revert hq hS hw;(repeat first|clear hq|clear hS|clear hw|revert hc|revert R|revert K);refine Wp (J2 (Tg.mk (n:=30) (iM b ⟨cf,am,1,az,value,bY,aj,reads,ak,av,set,bu,aw,ao,aJ,aI,an,.bF⟩ 1 hf)) (od xY)) (J6 nF vz w7 g1 g2 bz) ?_<;>(unhygienic intros);rw [e];refine⟨_,by first|rfl|(simp;rfl),rfl,?_⟩;apply aX.bO
     (·exact sA)
     exact fP
     (·first|exact pP|exact kP)
     all_goals(first|exact 0|exact undef)
   by_cases g3:cf.ak<=ak.length
   . have e:=e0.trans ((if_neg (by omega)).trans (if_pos g3));revert hq hS hw;(repeat first|clear hq|clear hS|clear hw|revert hc|revert R|revert K);refine Wp (J3 (Tg.mk (n:=30) (iM b ⟨cf,am,1,az,value,bY,aj,reads,ak,av,set,bu,aw,ao,aJ,aI,an,.bF⟩ 1 hf)) (Tg.mk (n:=31) (λ{A L K k fn cs eb eG bH c8 cU m c0 c1 c2 df bn bU bW eh dg eV bX bV bd dh dk gt ei}=>jP (A:=A) (L:=L) (K:=K) (k:=k) (fn:=fn) (cs:=cs) (eb:=eb) (eG:=eG) (bH:=bH) (c8:=c8) (cU:=cU) (m:=m) (c0:=c0) (c1:=c1) (c2:=c2) (df:=df) (bn:=bn) (bU:=bU) (bW:=bW) (eh:=eh) (dg:=dg) (eV:=eV) (bX:=bX) (bV:=bV) (bd:=bd) (dh:=dh) (dk:=dk) (gt:=gt) (ei:=ei) (s:=⟨cf,am,1,az,value,bY,aj,reads,ak,av,set,bu,aw,ao,aJ,aI,an,.bF⟩) (bR:=0))) (od xY)) (J7 nF vz w7 g1 g2 g3 bz) ?_<;>(unhygienic intros);rw [e];refine⟨_,by first|rfl|(simp;rfl),rfl,?_⟩;apply aX.bO
     (·exact sA)
     exact fP
     (·first|exact pP|exact kP)
     all_goals(first|exact 0|exact undef)
   have e:=e0.trans ((if_neg (by omega)).trans (if_neg g3));revert hq hS hw;(repeat first|clear hq|clear hS|clear hw|revert hc|revert R|revert K);refine Wu (J4 (Tg.mk (n:=30) (iM b ⟨cf,am,1,az,value,bY,aj,reads,ak,av,set,bu,aw,ao,aJ,aI,an,.bF⟩ 1 hf)) (od xY) @IG (⟨⟩:Os (λA'=>A'.bg A.next=some (aD (pv b))) [(0,0),(1,1),(2,0),(3,2),(4,0),(5,0),(6,3),(7,0),(8,0),(9,0),(10,3)])) (J7 nF vz w7 g1 g2 g3 bz) ?_<;>(unhygienic intros);rw [e];refine⟨_,by first|rfl|(simp;rfl),rfl,?_⟩;apply aX.bO
   (·exact sA)
   exact fP
   (·first|exact pP|exact kP)
   all_goals(first|exact 0|exact undef)
 have e:M8 s eH=(1,s):=if_neg hf;intro A F hw hS;refine aF Tryz.func150 λ_=>?_
 try dsimp only [aa,ag] at hS
 have hr:=rL b s 1 hf;revert hS hw;(repeat first|clear hS|clear hw|revert hc|revert R|revert K);refine Wp (J2 (Tg.mk (n:=10) (λ{A L K k}=>eY (A:=A) (L:=L) (K:=K) (k:=k) hr)) (od xY)) (J1 bz) ?_<;>(unhygienic intros);rw [e];refine⟨_,by first|rfl|(simp;rfl),rfl,?_⟩;apply ah.bO
 (·exact sA)
 (·first|exact pP|exact kP)
theorem Ok (b:Nat) (s:aM) (a:Int) (hC:gq s) :
 bf Tryz.prog 151 [pv b,.int .u64 a] [.h (aX b s)] (λu=>u=.int .i64 (MU s a).1) (λ_=>[.h (aX b (MU s a).2)]):=by
 by_cases hf:s.mR 1=true
 . skip
   obtain⟨h1,h2⟩:=vm hf;(unhygienic cases s);dsimp only at h1 h2;subst h1 h2;intro A F hw hS;refine aF Tryz.func151 λ_=>?_;obtain⟨x0,hS⟩:=aX.open hS .z;(unhygienic cases x0);dsimp only [b9,gZ,cF,ez,br.gf,aa,ag] at hS;have hq:=eK hS hw;have C1:=hw.lt (hS.g 0 rfl);have nF:(b=A.next+1+1)=False:=eq_false (by omega);have vz:(A.next+1+1=b)=False:=eq_false (by omega);have w7:(A.next=A.next+1+1)=False:=eq_false (by omega);have RX:=hC.cf.ba;have EM:=hC.cf.nb;dsimp only at RX EM;have Ta:=Om cf hC.cf a;dsimp only [bq.v] at Ta;have hfb:kE cf a<=64:=Q7 hC.cf a;have e0:MU ⟨cf,am,1,az,value,bY,aj,reads,ak,av,set,bu,aw,ao,aJ,aI,an,.bF⟩ a=_:=if_pos hf;dsimp only at e0;generalize kE cf a=q at *;by_cases g1:q<0
   . have e:=e0.trans (if_pos g1);revert hq hS hw;clear hS;refine Wp (J4 (Tg.mk (n:=30) (iM b ⟨cf,am,1,az,value,bY,aj,reads,ak,av,set,bu,aw,ao,aJ,aI,an,.bF⟩ 1 hf)) (Tg.mk (n:=31) (λ{A L K k fn cs eb eG bH c8 cU m c0 c1 c2 df bn bU bW eh dg eV bX bV bd dh dk gt ei}=>jP (A:=A) (L:=L) (K:=K) (k:=k) (fn:=fn) (cs:=cs) (eb:=eb) (eG:=eG) (bH:=bH) (c8:=c8) (cU:=cU) (m:=m) (c0:=c0) (c1:=c1) (c2:=c2) (df:=df) (bn:=bn) (bU:=bU) (bW:=bW) (eh:=eh) (dg:=dg) (eV:=eV) (bX:=bX) (bV:=bV) (bd:=bd) (dh:=dh) (dk:=dk) (gt:=gt) (ei:=ei) (s:=⟨cf,am,1,az,value,bY,aj,reads,ak,av,set,bu,aw,ao,aJ,aI,an,.bF⟩) (bR:=0))) (od u5) @Ta) (J5 nF vz w7 g1 bz) ?_<;>(unhygienic intros);rw [e];refine⟨_,by first|rfl|(simp;rfl),rfl,?_⟩;apply aX.bO
     (·exact sA)
     exact fP
     (·first|exact pP|exact kP)
     all_goals(first|exact 0|exact undef)
   have VM:IntKind.i64.wrap (cf.ba+q)=cf.ba+q:=ai (by omega) (by omega);cases g2:(kZ bu (cf.ba+q)).2
   . have e:=e0.trans ((if_neg g1).trans (if_neg (by rw [g2];simp)))
     repeat' (first|(refine jX λR hR=>?_;simp [ai,ar,hq,nF,vz,w7,g1,g2,VM,AW.af,aB];try simp (disch:=omega) only [if_pos,if_neg,ai,ar])|(refine hR _ _ ?_;clear hR R)|(refine hK _ _ ?_;clear hK K)|refine nx ?_|refine wn λK hK=>?_|simp only [wS,u5]|refine wl Tryz.mx u5 (by decide +kernel) λK hK=>?_|(refine bD (Ta _) ?_;rintro _ _ ⟨rfl,rfl⟩ _ _)|(apply AN (iM b ⟨cf,am,1,az,value,bY,aj,reads,ak,av,set,bu,aw,ao,aJ,aI,an,.bF⟩ 1 hf);(·exact wA);(·exact sA);(·exact fP);all_goals(try (first|exact 0|exact undef)))|(apply sN hC.bu hC.ef hC.dJ (by omega);(·exact wA);(·exact sA);(·first|exact pP|exact kP);)|(apply Ce (s:=⟨cf,am,1,az,value,bY,aj,reads,ak,av,set,bu,aw,ao,aJ,aI,an,.bF⟩) (bR:=0) hC.cf;(·exact wA);(·exact sA);(·exact fP);((first|rintro _ _ _ hS hw|rintro _ _ hS hw);(try dsimp only [b9,AW.aV,aa,ag] at hS);have hq:=eK hS hw);all_goals(try (first|exact 0|exact undef)))|(show cM _ _ _ _ _ _;refine nx ?_)|(refine wc rfl (λhc=>?_) (λhc=>?_)<;>(try simp at hc)<;>(try omega)<;>(try (simp [h2] at hc;done))<;>(try (simp [h3] at hc;done))<;>(try (simp [h4] at hc;done)))|(refine ib (λhc=>?_) (λhc=>?_)<;>(try omega)<;>(try simp (disch:=omega) only [if_pos,if_neg])))
     rw [e];refine⟨_,by first|rfl|(simp;rfl),rfl,?_⟩;apply aX.bO
     (·exact sA)
     exact fP
     (·first|exact pP|exact kP)
     all_goals(first|exact 0|exact undef)
   have e:=e0.trans ((if_neg g1).trans (if_pos g2))
   repeat' (first|(refine jX λR hR=>?_;simp [ai,ar,hq,nF,vz,w7,g1,g2,VM,AW.af,aB];try simp (disch:=omega) only [if_pos,if_neg,ai,ar])|(refine hR _ _ ?_;clear hR R)|(refine hK _ _ ?_;clear hK K)|refine nx ?_|refine wn λK hK=>?_|simp only [wS,u5]|refine wl Tryz.mx u5 (by decide +kernel) λK hK=>?_|(refine bD (Ta _) ?_;rintro _ _ ⟨rfl,rfl⟩ _ _)|(apply AN (iM b ⟨cf,am,1,az,value,bY,aj,reads,ak,av,set,bu,aw,ao,aJ,aI,an,.bF⟩ 1 hf);(·exact wA);(·exact sA);(·exact fP);all_goals(try (first|exact 0|exact undef)))|(apply sN hC.bu hC.ef hC.dJ (by omega);(·exact wA);(·exact sA);(·first|exact pP|exact kP);)|(apply jP (s:=⟨cf,am,1,az,value,bY,aj,reads,ak,av,set,bu,aw,ao,aJ,aI,an,.bF⟩) (bR:=0);(·exact wA);(·exact sA);(·exact fP);((first|rintro _ _ _ hS hw|rintro _ _ hS hw);(try dsimp only [b9,AW.aV,aa,ag] at hS);have hq:=eK hS hw);all_goals(try (first|exact 0|exact undef)))|(show cM _ _ _ _ _ _;refine nx ?_)|(refine wc rfl (λhc=>?_) (λhc=>?_)<;>(try simp at hc)<;>(try omega)<;>(try (simp [h2] at hc;done))<;>(try (simp [h3] at hc;done))<;>(try (simp [h4] at hc;done)))|(refine ib (λhc=>?_) (λhc=>?_)<;>(try omega)<;>(try simp (disch:=omega) only [if_pos,if_neg])))
   rw [e];refine⟨_,by first|rfl|(simp;rfl),rfl,?_⟩;apply aX.bO
   (·exact sA)
   exact fP
   (·first|exact pP|exact kP)
   all_goals(first|exact 0|exact undef)
 have e:MU s a=(1,s):=if_neg hf;intro A F hw hS;refine aF Tryz.func151 λ_=>?_
 try dsimp only [aa,ag] at hS
 have hr:=rL b s 1 hf;revert hS hw;(repeat first|clear hS|clear hw|revert hc|revert R|revert K);refine Wp (J2 (Tg.mk (n:=10) (λ{A L K k}=>eY (A:=A) (L:=L) (K:=K) (k:=k) hr)) (od u5)) (J1 bz) ?_<;>(unhygienic intros);rw [e];refine⟨_,by first|rfl|(simp;rfl),rfl,?_⟩;apply ah.bO
 (·exact sA)
 (·first|exact pP|exact kP)
end
section
open T12 T13
variable [Gl]
theorem ah.gR {A:AW} {L K:List It} {i:Nat} {o:dH} (h:ah A L) (hp:ay L (.at i o) K):A.bg i=some o:=by
 unfold ah at h;rw [hp.aE] at h;exact bk.bg h
theorem oZ (b c:Nat) (s:aM) (v:Int) (hd:s.aG=.bF) :
 bf Tryz.prog 141 [.int .u64 v,pv c] [.h (aX b s),.at c (aD (pv b))] (λ_=>True) (λ_=>[.h (aX b { s with value:=v })]):=by
 (unhygienic cases s);dsimp only at hd;subst hd;intro A F hw hS;refine aF Tryz.func141 λ_=>?_;dsimp only [aa,ag] at hS;obtain⟨x0,hS⟩:=aX.open hS .z;(unhygienic cases x0);dsimp only [b9,gZ,cF,ez,br.gf,aa,ag] at hS;have hq:=eK hS hw;revert hq hS hw;clear hS;refine Wp cd (J1 bz) ?_<;>(unhygienic intros);refine⟨_,by first|rfl|(simp;rfl),trivial,?_⟩;apply aX.bO
 (·exact sA)
 exact fP
 (·first|exact pP|exact kP)
 all_goals(first|exact 0|exact undef)
theorem re (b c c':Nat) (s:aM) (k v:Int) (hd:s.aG=.bF) (hC:gq s) (hk:0<=k/\k<s.cf.nb) :
 bf Tryz.prog 223 [.int .u64 v,pv c,pv c'] [.h (aX b s),.at c (aD (pv b)),.at c' (aD (.int .i64 k))] (λ_=>True) (λ_=>[.h (aX b (lz s k v))]):=by
 intro A F hw hS;refine aF Tryz.func223 λ_=>?_;dsimp only [aa,ag] at hS;have hq:=fm hS hw;revert hq hS hw;refine Wp (J1 (De b s k v hd hC hk)) (J1 bz) ?_<;>(unhygienic intros);refine⟨_,by first|rfl|(simp;rfl),trivial,?_⟩;apply ah.bO
 (·exact sA)
 (·first|exact pP|exact kP)
theorem F1 (b c:Nat) (s:aM) (hd:s.aG=.bF) (hC:gq s) :
 bf Tryz.prog 140 [pv c] [.h (aX b s),.at c (aD (pv b))] (λ_=>True) (λ_=>[.h (aX b (qk s 7))]):=by
 intro A F hw hS;refine aF Tryz.func140 λ_=>?_;dsimp only [aa,ag] at hS;have hq:=fm hS hw;revert hq hS hw;refine Wp (J1 (uD b s 7 hd hC)) (J1 bz) ?_<;>(unhygienic intros);refine⟨_,by first|rfl|(simp;rfl),trivial,?_⟩;apply ah.bO
 (·exact sA)
 (·first|exact pP|exact kP)
theorem F3 (b c:Nat) (s:aM) (hd:s.aG=.bF) (hC:gq s) :
 bf Tryz.prog 220 [pv c] [.h (aX b s),.at c (aD (pv b))] (λ_=>True) (λ_=>[.h (aX b (qk s 8))]):=by
 intro A F hw hS;refine aF Tryz.func220 λ_=>?_;dsimp only [aa,ag] at hS;have hq:=fm hS hw;revert hq hS hw;refine Wp (J1 (uD b s 8 hd hC)) (J1 bz) ?_<;>(unhygienic intros);refine⟨_,by first|rfl|(simp;rfl),trivial,?_⟩;apply ah.bO
 (·exact sA)
 (·first|exact pP|exact kP)
theorem F2 (b c c':Nat) (s:aM) (az:Int) (hd:s.aG=.bF) (hC:gq s) :
 bf Tryz.prog 137 [pv c,pv c'] [.h (aX b s),.at c (aD (pv b)),.at c' (aD (.int .i64 az))] (λ_=>True) (λ_=>[.h (aX b (qk s az))]):=by
 intro A F hw hS;refine aF Tryz.func137 λ_=>?_;dsimp only [aa,ag] at hS;have hq:=fm hS hw;revert hq hS hw;refine Wp (J1 (uD b s az hd hC)) (J1 bz) ?_<;>(unhygienic intros);refine⟨_,by first|rfl|(simp;rfl),trivial,?_⟩;apply ah.bO
 (·exact sA)
 (·first|exact pP|exact kP)
theorem D9 (b c:Nat) (s:aM) (hd:s.aG=.bF) (hC:gq s) :
 bf Tryz.prog 215 [pv c] [.h (aX b s),.at c (aD (pv b))] (λ_=>True) (λ_=>[.h (aX b (kz s 3))]):=by
 have hu:bf Tryz.prog 172 [pv b,.int .i64 3] [.h (aX b s)] (λ_=>True) (λ_=>[.h (aX b (kz s 3))]):=λA F hw hS=>
  (iY b s s.aG.gf 3 s.aG hC.cf hC.al hC.push (Nat.lt_of_le_of_lt hC.mW (by decide))) A F hw (aX.RS hS .z)
 intro A F hw hS;refine aF Tryz.func215 λ_=>?_;dsimp only [aa,ag] at hS;have hq:=fm hS hw;revert hq hS hw;refine Wp (J1 @hu) (J1 bz) ?_<;>(unhygienic intros);refine⟨_,by first|rfl|(simp;rfl),trivial,?_⟩;apply ah.bO
 (·exact sA)
 (·first|exact pP|exact kP)
theorem BX (b c c' c2:Nat) (s:aM) (k v:Int) (hd:s.aG=.bF) (hC:gq s) (hk:0<=k/\k<s.cf.nb) :
 bf Tryz.prog 221 [pv c,pv c',pv c2] [.h (aX b s),.at c (aD (pv b)),.at c' (aD (.int .i64 k)),.at c2 (aD (.int .u64 v))] (λ_=>True) (λ_=>[.h (aX b (lz s k v))]):=by
 intro A F hw hS;refine aF Tryz.func221 λ_=>?_;dsimp only [aa,ag] at hS;have hq:=fm hS hw;revert hq hS hw;refine Wp (J1 (De b s k v hd hC hk)) (J1 bz) ?_<;>(unhygienic intros);refine⟨_,by first|rfl|(simp;rfl),trivial,?_⟩;apply ah.bO
 (·exact sA)
 (·first|exact pP|exact kP)
theorem D8 (b c c' c2:Nat) (s:aM) (v:Int) (hd:s.aG=.bF) :
 bf Tryz.prog 143 [pv c,pv c'] [.h (aX b s),.at c (aD (.func (.func 141) #[] #[pv c2])),.at c' (aD (.int .u64 v)),.at c2 (aD (pv b))] (λ_=>True) (λ_=>[.h (aX b { s with value:=v })]):=by
 intro A F hw hS;refine aF Tryz.func143 λ_=>?_;dsimp only [aa,ag] at hS;have hq:=fm hS hw;revert hq hS hw;refine Wp (J1 (oZ b c2 s v hd)) (J1 bz) ?_<;>(unhygienic intros);refine⟨_,by first|rfl|(simp;rfl),trivial,?_⟩;apply ah.bO
 (·exact sA)
 (·first|exact pP|exact kP)
theorem BW (b c c' c2:Nat) (s:aM) (a v:Int) (hd:s.aG=.bF) (hC:gq s) (ha:0<=a) :
 bf Tryz.prog 146 [pv c,pv c',pv c2] [.h (aX b s),.at c (aD (pv b)),.at c' (aD (.int .u64 a)),.at c2 (aD (.int .u64 v))] (λ_=>True) (λ_=>[.h (aX b (vB s (.nq a v)))]):=by
 have RX:=hC.cf.ba;have ho:∀A',A'.Wf->ah A' [.h (aX b s)]->eQ 139 [pv b,.int .u64 a] A' (.bool (decide (s.cf.ba<=a))):=λA' h1 h2=>pe b s s.aG.gf a s.aG hC.cf A' h1 (aX.RS h2 .z);by_cases h:s.cf.ba<=a;have e:vB s (.nq a v)=qk s 7:=if_pos h;rw [e];intro A F hw hS;refine aF Tryz.func146 λ_=>?_;dsimp only [aa,ag] at hS;have hq:=fm hS hw;revert hq hS hw;refine Wp (J2 (Tg.mk (n:=10) (λ{A L K k}=>eY (A:=A) (L:=L) (K:=K) (k:=k) ho)) (uD b s 7 hd hC)) (J2 h bz) ?_<;>(unhygienic intros);refine⟨_,by first|rfl|(simp;rfl),trivial,?_⟩;apply ah.bO
 (·exact sA)
 (·first|exact pP|exact kP)
 have e:vB s (.nq a v)=(kW s a v).2:=if_neg h;rw [e];have VM:IntKind.i64.wrap a=a:=ai (by omega) (by omega);intro A F hw hS;refine aF Tryz.func146 λ_=>?_;dsimp only [aa,ag] at hS;have hq:=fm hS hw;revert hq hS hw;(repeat first|clear hq|clear hS|clear hw|revert hc|revert R|revert K);refine Wp (J2 (Tg.mk (n:=10) (λ{A L K k}=>eY (A:=A) (L:=L) (K:=K) (k:=k) ho)) (uf b s a v hd hC ha)) (J3 h VM bz) ?_<;>(unhygienic intros);refine⟨_,by first|rfl|(simp;rfl),trivial,?_⟩;apply ah.bO
 (·exact sA)
 (·first|exact pP|exact kP)
theorem BY (b m c c':Nat) (s:aM) (p:qB) (hC:gq { s with aG:=.bF }) (qz:s.ak.length<8) (hp:p.block<s.cf.nb) (kv:0<=p.eH/\p.eH<=3) :
 bf Tryz.prog 217 [pv c,pv c'] [.h (OM b { s with aG:=.bF } 0 p),.at c (aD (pv b)),.at c' (aD (.int .i64 p.eH))] (λ_=>True) (λ_=>[.h (aX b (gP { s with aG:=.bF } p.eH p.block))]):=by
 intro A F hw hS;refine aF Tryz.func217 λ_=>?_;dsimp only [aa,ag] at hS;have hq:=fm hS hw;revert hq hS hw;refine Wp (J1 (DK b s p hC qz hp kv)) (J1 bz) ?_<;>(unhygienic intros);refine⟨_,by first|rfl|(simp;rfl),trivial,?_⟩;apply ah.bO
 (·exact sA)
 (·first|exact pP|exact kP)
end
section
abbrev Mz:List (Nat×Nat):=[(0,0),(1,0),(2,2),(3,3),(4,0)]
open T17 T13
variable [Gl]
theorem KO (b pb:Nat) (s:iH) (M:Mm) (bG:s.fe.length<=s.ao.length) (N6:s.ao.length<2^38) :
 bf Tryz.prog 180 [pv b,pv pb] [.h (gQ b s),dG pb M] (λv=>v=(fj s M).1.v) (λ_=>[.h (gQ b (fj s M).2.1),dG pb (fj s M).2.2]):=
 bf.pX (EC b pb s M bG N6) (by show gQ b s*(ey pb M*eC)=_;rw [du]) (λv=>by show _=Bl _*(gQ b _*(ey pb _*eC));rw [du])
theorem NB (b pb:Nat) (s:kg) (M:Mm) (bG:s.os.length=s.ws.length) :
 bf Tryz.prog 200 [pv b,pv pb] [.h (gY b s),dG pb M] (λv=>v=(lj s M).1.v) (λ_=>[.h (gY b (lj s M).2.1),dG pb (lj s M).2.2]):=
 bf.pX (Gv b pb s M bG) (by show gY b s*(ey pb M*eC)=_;rw [du]) (λv=>by show _=Bl _*(gY b _*(ey pb _*eC));rw [du])
theorem O9 (b pb:Nat) (s:kg) (M:Mm) (bG:s.os.length=s.ws.length) :
 bf Tryz.prog 195 [pv b,pv pb] [.h (gY b s),dG pb M] (λv=>v=(nC s M).1.v) (λ_=>[.h (gY b (nC s M).2.1),dG pb (nC s M).2.2]):=
 bf.pX (HV b pb s M bG) (by show gY b s*(ey pb M*eC)=_;rw [du]) (λv=>by show _=Bl _*(gY b _*(ey pb _*eC));rw [du])
section
variable {A:AW} {L K:List It} {k:Value->AW->Prop} {n:Nat}
theorem Ch {P:HP} (hS:ah A L) (hp:ay L (.h P) K):bk A (P*aE K):=by
 unfold ah at hS;rw [hp.aE] at hS;exact hS
theorem pi {s:iH} (hw:A.Wf) (hS:ah A L) (hp:ay L (.h (gQ n s)) K) (hk:k (.bool s.done) A):ax Tryz.prog 181 [pv n] A k:=by
 refine bD (nY n s A _ (Ch hS hp)) ?_;rintro _ _ ⟨rfl,rfl⟩ _ _;exact hk
theorem ud {s:kg} (hw:A.Wf) (hS:ah A L) (hp:ay L (.h (gY n s)) K) (hk:k (.bool s.done) A):ax Tryz.prog 201 [pv n] A k:=by
 refine bD (sw n s A _ (Ch hS hp)) ?_;rintro _ _ ⟨rfl,rfl⟩ _ _;exact hk
theorem BQ {s:kg} (hw:A.Wf) (hS:ah A L) (hp:ay L (.h (gY n s)) K) (hk:k (.bool s.done) A):ax Tryz.prog 196 [pv n] A k:=by
 refine bD (tP n s A _ (Ch hS hp)) ?_;rintro _ _ ⟨rfl,rfl⟩ _ _;exact hk
theorem kj {s:ij} (hw:A.Wf) (hS:ah A L) (hp:ay L (.h (js n s)) K) (hk:k (.bool s.done) A):ax Tryz.prog 188 [pv n] A k:=by
 obtain⟨v,h0⟩:=js.open hS hp;obtain⟨o,c,rfl,_⟩:=(ah.qT h0 (.s .z)).bE;refine bD (qm n o _ c s.rv s.jp A (h0.g 0 rfl)) ?_;rintro _ _ ⟨rfl,rfl⟩ _ _;exact hk
theorem zZ (b:Nat) (v:Value) (rv:Int) (f:Bool) (A:AW) (hg:A.bg b=some (.cells [v,.int .i64 rv,.bool f] true 1)):eQ 190 [pv b] A (.bool f):=by
 refine aF Tryz.func190 λ_=>?_;refine Wp cd (J2 hg @AW.af) ?_<;>intros;exact⟨_,rfl,rfl,rfl⟩
theorem oM {s:ij} (hw:A.Wf) (hS:ah A L) (hp:ay L (.h (js n s)) K) (hk:k (.bool s.jp) A):ax Tryz.prog 190 [pv n] A k:=by
 obtain⟨v,h0⟩:=js.open hS hp;refine bD (zZ n v s.rv s.jp A (h0.g 0 rfl)) ?_;rintro _ _ ⟨rfl,rfl⟩ _ _;exact hk
theorem rr {s:iE} (hw:A.Wf) (hS:ah A L) (hp:ay L (.at n (gF s)) K) (hk:k (.int .i64 s.El) A):ax Tryz.prog 166 [pv n] A k:=by
 refine bD (uB n s A (ah.gR hS hp)) ?_;rintro _ _ ⟨rfl,rfl⟩ _ _;exact hk
theorem rt {s:iE} (hw:A.Wf) (hS:ah A L) (hp:ay L (.at n (gF s)) K) (hk:k (.bool (decide (s.bR=3))) A):ax Tryz.prog 168 [pv n] A k:=by
 refine bD (Dm n s A (ah.gR hS hp)) ?_;rintro _ _ ⟨rfl,rfl⟩ _ _;exact hk
theorem Aw {s:qB} (hw:A.Wf) (hS:ah A L) (hp:ay L (.at n (nf s)) K) (hk:k (.bool (decide (s.bR=3))) A):ax Tryz.prog 178 [pv n] A k:=by
 refine bD (Gy n s A (ah.gR hS hp)) ?_;rintro _ _ ⟨rfl,rfl⟩ _ _;exact hk
theorem xL {s:fM} (hw:A.Wf) (hS:ah A L) (hp:ay L (.at n (gK s)) K) (hk:k (.bool (decide (s.bR=3))) A):ax Tryz.prog 114 [pv n] A k:=by
 refine bD (vW n s A (ah.gR hS hp)) ?_;rintro _ _ ⟨rfl,rfl⟩ _ _;exact hk
theorem lh {s:kK} (hw:A.Wf) (hS:ah A L) (hp:ay L (.at n (jx s)) K) (hk:k (.bool s.done) A):ax Tryz.prog 184 [pv n] A k:=by
 refine bD (D7 n s A (ah.gR hS hp)) ?_;rintro _ _ ⟨rfl,rfl⟩ _ _;exact hk
theorem BU {s:kK} (hw:A.Wf) (hS:ah A L) (hp:ay L (.at n (jx s)) K) (hk:k (.int .i64 s.gf) A):ax Tryz.prog 126 [pv n] A k:=by
 refine bD (Bd n s A (ah.gR hS hp)) ?_;rintro _ _ ⟨rfl,rfl⟩ _ _;exact hk
theorem eO {s:ip} (hw:A.Wf) (hS:ah A L) (hp:ay L (.at n (il s)) K) (hk:k (.bool s.done) A):ax Tryz.prog 170 [pv n] A k:=by
 refine bD (vU n s A (ah.gR hS hp)) ?_;rintro _ _ ⟨rfl,rfl⟩ _ _;exact hk
theorem dN {s:ip} (hw:A.Wf) (hS:ah A L) (hp:ay L (.at n (il s)) K) (hk:k (.bool s.gM) A):ax Tryz.prog 171 [pv n] A k:=by
 refine bD (xJ n s A (ah.gR hS hp)) ?_;rintro _ _ ⟨rfl,rfl⟩ _ _;exact hk
theorem kh {s:ip} (hw:A.Wf) (hS:ah A L) (hp:ay L (.at n (il s)) K) (hk:k (.int .u64 s.val) A):ax Tryz.prog 176 [pv n] A k:=by
 refine bD (Cn n s A (ah.gR hS hp)) ?_;rintro _ _ ⟨rfl,rfl⟩ _ _;exact hk
theorem xQ {a:aW} (hw:A.Wf) (hS:ah A L) (hk:∀(u:Unit) A',ah A' L->A'.Wf->A.le A'->k (.int .i64 (pD a)) A'):ax Tryz.prog 179 [a.v] A k:=by
 refine bD (Iq a A hw) ?_;rintro _ A' ⟨rfl,h1⟩ i8 _;exact hk () A' (hS.le hw h1) i8 h1
theorem vY {a:aW} (hw:A.Wf) (hS:ah A L) (hk:∀(u:Unit) A',ah A' L->A'.Wf->A.le A'->k (.int .i64 (iO a)) A'):ax Tryz.prog 83 [a.v] A k:=by
 refine bD (Gz a A hw) ?_;rintro _ A' ⟨rfl,h1⟩ i8 _;exact hk () A' (hS.le hw h1) i8 h1
end
theorem Cc (b pb:Nat) (s:aM) (en:iE) (M:Mm) (hd:s.aG=.fx) (he:s.bY=some en) :
 bf Tryz.prog 115 [pv b,pv pb] [.h (aX b s),dG pb M] (λv=>v=.tuple #[(ji s M en).1.v,.int .i64 (ji s M en).2.1])
  (λ_=>[.h (aX b (ji s M en).2.2.1),dG pb (ji s M en).2.2.2]):=by
 (unhygienic cases s);dsimp only at hd;subst hd;dsimp only at he;subst he;obtain⟨x,e',M',hr⟩:∃x e' M',ic en M=(x,e',M'):=⟨_,_,_,rfl⟩;have dl:=λn=>Dl n pb en M;rw [hr] at dl;by_cases h:e'.bR=3
 . have e:ji ⟨cf,am,aA,az,value,some en,aj,reads,ak,av,set,bu,aw,ao,aJ,aI,an,.fx⟩ M en=(x,4,⟨cf,am,aA,az,value,some e',aj,reads,ak,av,set,bu,aw,ao,aJ,aI,an,.bF⟩,M'):=by
    unfold ji;rw [hr];exact if_pos h
   rw [e];intro A F hw hS;refine aF Tryz.func115 λ_=>?_;dsimp only [aa,ag] at hS;obtain⟨x0,hS⟩:=aX.open hS .z;(unhygienic cases x0);dsimp only [b9,gZ,cF,ez,br.gf,aa,ag] at hS;have hS:=JQ.op hS (.s .z);have hq:=eK hS hw;revert hq hS hw;clear hS;clear hS;refine Wp (J3 (Tg.mk (n:=10) @rr) (Tg.mk (n:=10) @rt) (dl bH)) (J6 h @nH.eq_1 @nH.eq_2 bz @be.eq_1 @aW.v.eq_1) ?_<;>(unhygienic intros);refine⟨_,by simp [hq,AW.af,aB];rfl,by simp [aW.v],?_⟩;apply aX.bO
   (·exact sA)
   exact fP
   (·first|exact pP|exact kP)
   all_goals(first|exact 0|exact undef)
 by_cases h2:en.El=e'.El
 . have e:ji ⟨cf,am,aA,az,value,some en,aj,reads,ak,av,set,bu,aw,ao,aJ,aI,an,.fx⟩ M en=(x,2,⟨cf,am,aA,az,value,some e',aj,reads,ak,av,set,bu,aw,ao,aJ,aI,an,.fx⟩,M'):=by
    unfold ji;rw [hr];dsimp only;rw [if_neg h,if_neg (by simp [h2])]
   rw [e];intro A F hw hS;refine aF Tryz.func115 λ_=>?_;dsimp only [aa,ag] at hS;obtain⟨x0,hS⟩:=aX.open hS .z;(unhygienic cases x0);dsimp only [b9,gZ,cF,ez,br.gf,aa,ag] at hS;have hS:=JQ.op hS (.s .z);have hq:=eK hS hw;revert hq hS hw;(repeat first|clear hq|clear hS|clear hw|revert hc|revert R|revert K);refine Wp (J3 (Tg.mk (n:=10) @rr) (Tg.mk (n:=10) @rt) (dl bH)) (J7 h h2 @nH.eq_1 @nH.eq_2 bz @be.eq_1 @aW.v.eq_1) ?_<;>(unhygienic intros);refine⟨_,by simp [hq,AW.af,aB];rfl,by simp [aW.v],?_⟩;apply aX.bO
   (·exact sA)
   exact fP
   (·first|exact pP|exact kP)
   all_goals(first|exact 0|exact undef)
 have e:ji ⟨cf,am,aA,az,value,some en,aj,reads,ak,av,set,bu,aw,ao,aJ,aI,an,.fx⟩ M en=(x,3,⟨cf,am,aA,az,value,some e',aj,reads,ak,av,set,bu,aw,ao,aJ,aI,an,.fx⟩,M'):=by
  unfold ji;rw [hr];dsimp only;rw [if_neg h,if_pos h2]
 rw [e];intro A F hw hS;refine aF Tryz.func115 λ_=>?_;dsimp only [aa,ag] at hS;obtain⟨x0,hS⟩:=aX.open hS .z;(unhygienic cases x0);dsimp only [b9,gZ,cF,ez,br.gf,aa,ag] at hS;have hS:=JQ.op hS (.s .z);have hq:=eK hS hw;revert hq hS hw;(repeat first|clear hq|clear hS|clear hw|revert hc|revert R|revert K);refine Wp (J3 (Tg.mk (n:=10) @rr) (Tg.mk (n:=10) @rt) (dl bH)) (J7 h h2 @nH.eq_1 @nH.eq_2 bz @be.eq_1 @aW.v.eq_1) ?_<;>(unhygienic intros);refine⟨_,by simp [hq,AW.af,aB];rfl,by simp [aW.v],?_⟩;apply aX.bO
 (·exact sA)
 exact fP
 (·first|exact pP|exact kP)
 all_goals(first|exact 0|exact undef)
theorem Ei (b pb:Nat) (s:aM) (p:fM) (M:Mm) (hd:s.aG=.fv p) (hC:gq s) (N1:s.an<s.ak.length) :
 bf Tryz.prog 128 [pv b,pv pb] [.h (aX b s),dG pb M] (λv=>v=.tuple #[(jW s M p).1.v,.int .i64 (jW s M p).2.1])
  (λ_=>[.h (aX b (jW s M p).2.2.1),dG pb (jW s M p).2.2.2]):=by
 (unhygienic cases s);dsimp only at hd;subst hd;dsimp only at N1;have qz:=hC.mW;dsimp only at qz;obtain⟨x,p',M',hr⟩:∃x e' M',ej p M=(x,e',M'):=⟨_,_,_,rfl⟩;have dl:=λn=>ri n pb p M;rw [hr] at dl;have MG:IntKind.i64.wrap ((an:Int)+1)=((an+1:Nat):Int):=ai (by omega) (by omega);by_cases h:p'.bR=3;have e:jW ⟨cf,am,aA,az,value,bY,aj,reads,ak,av,set,bu,aw,ao,aJ,aI,an,.fv p⟩ M p=(x,iO x,iQ ⟨cf,am,aA,az,value,bY,aj,reads,ak,av,set,bu,aw,ao,aJ,aI,an+1,.fv p'⟩,M'):=by
  unfold jW;rw [hr];dsimp only;rw [if_pos h]
 rw [e];intro A F hw hS;refine aF Tryz.func128 λ_=>?_;dsimp only [aa,ag] at hS;obtain⟨x0,hS⟩:=aX.open hS .z;(unhygienic cases x0);dsimp only [b9,gZ,cF,ez,br.gf,aa,ag] at hS;have hq:=eK hS hw;revert hq hS hw;clear hS;refine Wp (J5 (Tg.mk (n:=10) @xL) (Tg.mk (n:=20) (uv b ⟨cf,am,aA,az,value,bY,aj,reads,ak,av,set,bu,aw,ao,aJ,aI,an+1,.fv p'⟩ 13 (.fv p') hC.cf hC.al N1 (Nat.lt_of_le_of_lt hC.mW (by decide)))) (Tg.mk (n:=19) (λ{A L k}=>vY (A:=A) (L:=L) (k:=k) (a:=x))) (od Mz) (dl m)) (J5 h MG bz @be.eq_1 @aW.v.eq_1) ?_<;>(unhygienic intros);refine⟨_,by simp [hq,AW.af,aB];rfl,by simp [aW.v],?_⟩;apply ah.bO
 (·exact sA)
 (·first|exact pP|exact kP)
 have e:jW ⟨cf,am,aA,az,value,bY,aj,reads,ak,av,set,bu,aw,ao,aJ,aI,an,.fv p⟩ M p=(x,iO x,⟨cf,am,aA,az,value,bY,aj,reads,ak,av,set,bu,aw,ao,aJ,aI,an,.fv p'⟩,M'):=by
  unfold jW;rw [hr];dsimp only;rw [if_neg h]
 rw [e];intro A F hw hS;refine aF Tryz.func128 λ_=>?_;dsimp only [aa,ag] at hS;obtain⟨x0,hS⟩:=aX.open hS .z;(unhygienic cases x0);dsimp only [b9,gZ,cF,ez,br.gf,aa,ag] at hS;have hq:=eK hS hw;revert hq hS hw;(repeat first|clear hq|clear hS|clear hw|revert hc|revert R|revert K);refine Wp (J4 (Tg.mk (n:=10) @xL) (Tg.mk (n:=19) (λ{A L k}=>vY (A:=A) (L:=L) (k:=k) (a:=x))) (od Mz) (dl m)) (J5 h MG bz @be.eq_1 @aW.v.eq_1) ?_<;>(unhygienic intros);refine⟨_,by simp [hq,AW.af,aB];rfl,by simp [aW.v],?_⟩;apply aX.bO
 (·exact sA)
 exact fP
 (·first|exact pP|exact kP)
 all_goals(first|exact 0|exact undef)
end
section
abbrev My:List (Nat×Nat):=[(0,0),(1,0),(2,2),(3,3),(4,0)]
open T17 T13
variable [Gl]
theorem Gh (b pb:Nat) (s:aM) (p:qB) (M:Mm) (hd:s.aG=.fw p) (hC:gq s) (qz:s.ak.length<8) (kv:0<=p.eH/\p.eH<=3) (EK:(gG p M).2.1.block<s.cf.nb) (ln:(gG p M).2.1.eH=p.eH) :
 bf Tryz.prog 117 [pv b,pv pb] [.h (aX b s),dG pb M] (λv=>v=.tuple #[(ox s M p).1.v,.int .i64 (ox s M p).2.1])
  (λ_=>[.h (aX b (ox s M p).2.2.1),dG pb (ox s M p).2.2.2]):=by
 (unhygienic cases s);dsimp only at hd;subst hd;dsimp only at qz EK;obtain⟨x,p',M',hr⟩:∃x e' M',gG p M=(x,e',M'):=⟨_,_,_,rfl⟩;have dl:=λn=>Gx n pb p M;rw [hr] at dl EK ln;dsimp only at EK ln;by_cases h:p'.bR=3
 . have e:ox ⟨cf,am,aA,az,value,bY,aj,reads,ak,av,set,bu,aw,ao,aJ,aI,an,.fw p⟩ M p=(x,pD x,gP ⟨cf,am,aA,az,value,bY,aj,reads,ak,av,set,bu,aw,ao,aJ,aI,an,.bF⟩ p.eH p'.block,M'):=by
    unfold ox;rw [hr];dsimp only;rw [if_pos h]
   rw [e];have Ut:=λm c c'=>BY b m c c' ⟨cf,am,aA,az,value,bY,aj,reads,ak,av,set,bu,aw,ao,aJ,aI,an,.bF⟩ p' ⟨hC.cf,hC.Pi,hC.bu,hC.ef,hC.dJ,hC.Hs,hC.O2,hC.mW,hC.push,hC.set,hC.jB,hC.Bq⟩ qz EK (by rw [ln];exact kv);rw [ln] at Ut;intro A F hw hS;refine aF Tryz.func117 λ_=>?_;dsimp only [aa,ag] at hS;obtain⟨x0,hS⟩:=aX.open hS .z;(unhygienic cases x0);dsimp only [b9,gZ,cF,ez,br.gf,aa,ag] at hS;have hq:=eK hS hw;revert hq hS hw;clear hS;refine Wp (J5 (Tg.mk (n:=10) @Aw) (Tg.mk (n:=22) (Ut m c0 c1)) (Tg.mk (n:=19) (λ{A L k}=>xQ (A:=A) (L:=L) (k:=k) (a:=x))) (od My) (dl m)) (J4 h bz @be.eq_1 @aW.v.eq_1) ?_<;>(unhygienic intros);refine⟨_,by simp [hq,AW.af,aB];rfl,by first|(simp [aW.v];done)|(simp [aW.v,h];done),?_⟩;apply ah.bO
   (·exact sA)
   (·first|exact pP|exact kP)
 have e:ox ⟨cf,am,aA,az,value,bY,aj,reads,ak,av,set,bu,aw,ao,aJ,aI,an,.fw p⟩ M p=(x,pD x,⟨cf,am,aA,az,value,bY,aj,reads,ak,av,set,bu,aw,ao,aJ,aI,an,.fw p'⟩,M'):=by
  unfold ox;rw [hr];dsimp only;rw [if_neg h]
 rw [e];intro A F hw hS;refine aF Tryz.func117 λ_=>?_;dsimp only [aa,ag] at hS;obtain⟨x0,hS⟩:=aX.open hS .z;(unhygienic cases x0);dsimp only [b9,gZ,cF,ez,br.gf,aa,ag] at hS;rw [<-ln] at hS;have hq:=eK hS hw;revert hq hS hw;(repeat first|clear hq|clear hS|clear hw|revert hc|revert R|revert K);refine Wp (J4 (Tg.mk (n:=10) @Aw) (Tg.mk (n:=19) (λ{A L k}=>xQ (A:=A) (L:=L) (k:=k) (a:=x))) (od My) (dl m)) (J4 h bz @be.eq_1 @aW.v.eq_1) ?_<;>(unhygienic intros);refine⟨_,by simp [hq,AW.af,aB];rfl,by first|(simp [aW.v];done)|(simp [aW.v,h];done),?_⟩;apply aX.bO
 (·exact sA)
 exact fP
 (·first|exact pP|exact kP)
 all_goals(first|exact 0|exact undef)
theorem Ej (b pb:Nat) (s:aM) (l:iH) (M:Mm) (hd:s.aG=.fy) (hl:s.aJ=some l) (bG:l.fe.length<=l.ao.length) (N6:l.ao.length<2^38) :
 bf Tryz.prog 118 [pv b,pv pb] [.h (aX b s),dG pb M] (λv=>v=.tuple #[(jD s M l).1.v,.int .i64 (jD s M l).2.1])
  (λ_=>[.h (aX b (jD s M l).2.2.1),dG pb (jD s M l).2.2.2]):=by
 (unhygienic cases s);dsimp only at hd;subst hd;dsimp only at hl;subst hl;obtain⟨x,l',M',hr⟩:∃x e' M',fj l M=(x,e',M'):=⟨_,_,_,rfl⟩;have dl:=λn=>KO n pb l M bG N6;rw [hr] at dl;by_cases h:x.gu=3<;>cases h2:l'.done
 . have e:jD ⟨cf,am,aA,az,value,bY,aj,reads,ak,av,set,bu,aw,ao,some l,aI,an,.fy⟩ M l=(x,12,⟨cf,am,aA,az,value,bY,aj,reads,ak,av,set,bu,aw,ao,some l',aI,an,.fy⟩,M'):=by
    unfold jD;rw [hr];dsimp only;rw [h2];simp [h]
   rw [e];intro A F hw hS;refine aF Tryz.func118 λ_=>?_;dsimp only [aa,ag] at hS;obtain⟨x0,hS⟩:=aX.open hS .z;(unhygienic cases x0);dsimp only [b9,gZ,cF,ez,br.gf,aa,ag] at hS;have hS:=ta.op hS (.s (.s .z));have hq:=eK hS hw;revert hq hS hw;clear hS;clear hS;refine Wp (J3 (Tg.mk (n:=10) @pi) @mI (dl c8)) (J7 h h2 @jt.eq_1 @jt.eq_2 bz @be.eq_1 @aW.v.eq_1) ?_<;>(unhygienic intros);refine⟨_,by simp [hq,AW.af,aB];rfl,by first|(simp [aW.v];done)|(simp [aW.v,h];done),?_⟩;apply aX.bO
   (·exact sA)
   exact fP
   (·first|exact pP|exact kP)
   all_goals(first|exact 0|exact undef)
 . have e:jD ⟨cf,am,aA,az,value,bY,aj,reads,ak,av,set,bu,aw,ao,some l,aI,an,.fy⟩ M l=(x,12,⟨cf,am,aA,az,value,bY,aj,reads,ak,av,set,bu,aw,ao,some l',some ⟨false,0,false⟩,an,.dE⟩,M'):=by
    unfold jD;rw [hr];dsimp only;rw [h2];simp [h]
   rw [e];intro A F hw hS;refine aF Tryz.func118 λ_=>?_;dsimp only [aa,ag] at hS;obtain⟨x0,hS⟩:=aX.open hS .z;(unhygienic cases x0);dsimp only [b9,gZ,cF,ez,br.gf,aa,ag] at hS;have hS:=ta.op hS (.s (.s .z));have hq:=eK hS hw;revert hq hS hw;(repeat first|clear hq|clear hS|clear hw|revert hc|revert R|revert K);refine Wp (J3 (Tg.mk (n:=10) @pi) @mI (dl c8)) (J7 h h2 @jt.eq_1 @jt.eq_2 bz @be.eq_1 @aW.v.eq_1) ?_<;>(unhygienic intros);refine⟨_,by simp [hq,AW.af,aB];rfl,by first|(simp [aW.v];done)|(simp [aW.v,h];done),?_⟩;apply aX.bO
   (·exact sA)
   exact fP
   (·first|exact pP|exact kP)
   all_goals(first|exact 0|exact undef)
 . have e:jD ⟨cf,am,aA,az,value,bY,aj,reads,ak,av,set,bu,aw,ao,some l,aI,an,.fy⟩ M l=(x,11,⟨cf,am,aA,az,value,bY,aj,reads,ak,av,set,bu,aw,ao,some l',aI,an,.fy⟩,M'):=by
    unfold jD;rw [hr];dsimp only;rw [h2];simp [h]
   rw [e];intro A F hw hS;refine aF Tryz.func118 λ_=>?_;dsimp only [aa,ag] at hS;obtain⟨x0,hS⟩:=aX.open hS .z;(unhygienic cases x0);dsimp only [b9,gZ,cF,ez,br.gf,aa,ag] at hS;have hS:=ta.op hS (.s (.s .z));have hq:=eK hS hw;revert hq hS hw;(repeat first|clear hq|clear hS|clear hw|revert hc|revert R|revert K);refine Wp (J3 (Tg.mk (n:=10) @pi) @mI (dl c8)) (J7 h h2 @jt.eq_1 @jt.eq_2 bz @be.eq_1 @aW.v.eq_1) ?_<;>(unhygienic intros);refine⟨_,by simp [hq,AW.af,aB];rfl,by first|(simp [aW.v];done)|(simp [aW.v,h];done),?_⟩;apply aX.bO
   (·exact sA)
   exact fP
   (·first|exact pP|exact kP)
   all_goals(first|exact 0|exact undef)
 have e:jD ⟨cf,am,aA,az,value,bY,aj,reads,ak,av,set,bu,aw,ao,some l,aI,an,.fy⟩ M l=(x,11,⟨cf,am,aA,az,value,bY,aj,reads,ak,av,set,bu,aw,ao,some l',some ⟨false,0,false⟩,an,.dE⟩,M'):=by
  unfold jD;rw [hr];dsimp only;rw [h2];simp [h]
 rw [e];intro A F hw hS;refine aF Tryz.func118 λ_=>?_;dsimp only [aa,ag] at hS;obtain⟨x0,hS⟩:=aX.open hS .z;(unhygienic cases x0);dsimp only [b9,gZ,cF,ez,br.gf,aa,ag] at hS;have hS:=ta.op hS (.s (.s .z));have hq:=eK hS hw;revert hq hS hw;(repeat first|clear hq|clear hS|clear hw|revert hc|revert R|revert K);refine Wp (J3 (Tg.mk (n:=10) @pi) @mI (dl c8)) (J7 h h2 @jt.eq_1 @jt.eq_2 bz @be.eq_1 @aW.v.eq_1) ?_<;>(unhygienic intros);refine⟨_,by simp [hq,AW.af,aB];rfl,by first|(simp [aW.v];done)|(simp [aW.v,h];done),?_⟩;apply aX.bO
 (·exact sA)
 exact fP
 (·first|exact pP|exact kP)
 all_goals(first|exact 0|exact undef)
theorem gg {A:AW} {L K:List It} {k:Value->AW->Prop} {v:Value} {l:List Int} {x:Int} (hw:A.Wf) (hS:ah A L) (hp:ay L (.h (ap .i64 v l)) K) (hl:l.length<2^38) (hk:k (.bool (decide (x∈l))) A) :
 ax Tryz.prog 173 [v,.int .i64 x] A k:=by
 refine bD (wz v l x A (ah.qT hS hp) (by omega)) ?_;rintro _ _ ⟨rfl,rfl⟩ _ _;exact hk
end
section
open T17 T13
variable [Gl]
theorem Eh (b pb:Nat) (s:aM) (t:kK) (M:Mm) (hd:s.aG=.dE) (hl:s.aI=some t) (GN:s.set.length<2^38) :
 bf Tryz.prog 119 [pv b,pv pb] [.h (aX b s),dG pb M] (λv=>v=.tuple #[(iw s M t).1.v,.int .i64 (iw s M t).2.1])
  (λ_=>[.h (aX b (iw s M t).2.2.1),dG pb (iw s M t).2.2.2]):=by
 (unhygienic cases s);dsimp only at hd;subst hd;dsimp only at hl GN;subst hl;obtain⟨x,t',M',hr⟩:∃x e' M',ja t M=(x,e',M'):=⟨_,_,_,rfl⟩;have dl:=λn=>D6 n pb t M;rw [hr] at dl;by_cases h:x.gu=4<;>cases h2:t'.done
 . have e:iw ⟨cf,am,aA,az,value,bY,aj,reads,ak,av,set,bu,aw,ao,aJ,some t,an,.dE⟩ M t=(x,13,⟨cf,am,aA,az,value,bY,aj,reads,ak,av,set,bu,aw,ao,aJ,some t',an,.dE⟩,M'):=by
    unfold iw;rw [hr];dsimp only;rw [h2];simp [h]
   rw [e];intro A F hw hS;refine aF Tryz.func119 λ_=>?_;dsimp only [aa,ag] at hS;obtain⟨x0,hS⟩:=aX.open hS .z;(unhygienic cases x0);dsimp only [b9,gZ,cF,ez,br.gf,aa,ag] at hS;have hS:=uN.op hS (.s (.s (.s .z)));have hq:=eK hS hw;revert hq hS hw;clear hS;clear hS;refine Wp (J2 (Tg.mk (n:=10) @lh) (dl cU)) (J7 h h2 @ik.eq_1 @ik.eq_2 bz @be.eq_1 @aW.v.eq_1) ?_<;>(unhygienic intros);refine⟨_,by simp [hq,AW.af,aB];rfl,by first|(simp [aW.v];done)|(simp [aW.v,h];done),?_⟩;apply aX.bO
   (·exact sA)
   exact fP
   (·first|exact pP|exact kP)
   all_goals(first|exact 0|exact undef)
 . by_cases h3:set.length=0
   . have e:iw ⟨cf,am,aA,az,value,bY,aj,reads,ak,av,set,bu,aw,ao,aJ,some t,an,.dE⟩ M t=(x,13,⟨cf,am,aA,az,value,bY,aj,reads,ak,av,set,bu,aw,ao,aJ,some t',an,.cH⟩,M'):=by
      unfold iw;rw [hr];dsimp only;rw [h2];simp [h,h3]
     rw [e];intro A F hw hS;refine aF Tryz.func119 λ_=>?_;dsimp only [aa,ag] at hS;obtain⟨x0,hS⟩:=aX.open hS .z;(unhygienic cases x0);dsimp only [b9,gZ,cF,ez,br.gf,aa,ag] at hS;have hS:=uN.op hS (.s (.s (.s .z)));have hq:=eK hS hw;have h4:∀rv,(ij.mk set rv false).done=true:=λrv=>by simp [ij.done,h3]
     revert hq hS hw;(repeat first|clear hq|clear hS|clear hw|revert hc|revert R|revert K);refine Wp (J6 (Tg.mk (n:=10) @lh) (Tg.mk (n:=11) @qF) (Tg.mk (n:=11) @pg) (Tg.mk (n:=30) (λA' h1 h2=>rI b ⟨cf,am,aA,az,value,bY,aj,reads,ak,av,set,bu,aw,ao,aJ,some t',an,.dE⟩ 6 .dE A' h1 h2)) (Tg.mk (n:=10) @kj) (dl cU)) (J8 h h2 h4 @ik.eq_1 @ik.eq_2 bz @be.eq_1 @aW.v.eq_1) ?_<;>(unhygienic intros);refine⟨_,by simp [hq,AW.af,aB];rfl,by first|(simp [aW.v];done)|(simp [aW.v,h];done),?_⟩;apply aX.bO
     (·exact sA)
     exact fP
     (·first|exact pP|exact kP)
     all_goals(first|exact 0|exact undef)
   have e:iw ⟨cf,am,aA,az,value,bY,aj,reads,ak,av,set,bu,aw,ao,aJ,some t,an,.dE⟩ M t=(x,13,⟨cf,am,aA,az,value,bY,aj,reads,ak,av,set,bu,aw,ao,aJ,some t',an,.d9 ⟨set,aM.rv ⟨cf,am,aA,az,value,bY,aj,reads,ak,av,set,bu,aw,ao,aJ,some t',an,.dE⟩,false⟩⟩,M'):=by
    unfold iw;rw [hr];dsimp only;rw [h2];simp [h,h3,aM.rv]
   rw [e];intro A F hw hS;refine aF Tryz.func119 λ_=>?_;dsimp only [aa,ag] at hS;obtain⟨x0,hS⟩:=aX.open hS .z;(unhygienic cases x0);dsimp only [b9,gZ,cF,ez,br.gf,aa,ag] at hS;have hS:=uN.op hS (.s (.s (.s .z)));have hq:=eK hS hw;have h4:∀rv,(ij.mk set rv false).done=false:=λrv=>by simp [ij.done];exact λh=>h3 (by rw [h];rfl)
   revert hq hS hw;(repeat first|clear hq|clear hS|clear hw|revert hc|revert R|revert K);refine Wp (J6 (Tg.mk (n:=10) @lh) (Tg.mk (n:=11) @qF) (Tg.mk (n:=11) @pg) (Tg.mk (n:=30) (λA' h1 h2=>rI b ⟨cf,am,aA,az,value,bY,aj,reads,ak,av,set,bu,aw,ao,aJ,some t',an,.dE⟩ 6 .dE A' h1 h2)) (Tg.mk (n:=10) @kj) (dl cU)) (J8 h h2 h4 @ik.eq_1 @ik.eq_2 bz @be.eq_1 @aW.v.eq_1) ?_<;>(unhygienic intros);refine⟨_,by simp [hq,AW.af,aB];rfl,by first|(simp [aW.v];done)|(simp [aW.v,h];done),?_⟩;apply aX.bO
   (·exact sA)
   exact fP
   (·first|exact pP|exact kP)
   all_goals(first|exact 0|exact undef)
 . have e:iw ⟨cf,am,aA,az,value,bY,aj,reads,ak,av,set,bu,aw,ao,aJ,some t,an,.dE⟩ M t=(x,14,⟨cf,am,aA,az,value,bY,aj,reads,ak,av,set,bu,aw,ao,aJ,some t',an,.dE⟩,M'):=by
    unfold iw;rw [hr];dsimp only;rw [h2];simp [h]
   rw [e];intro A F hw hS;refine aF Tryz.func119 λ_=>?_;dsimp only [aa,ag] at hS;obtain⟨x0,hS⟩:=aX.open hS .z;(unhygienic cases x0);dsimp only [b9,gZ,cF,ez,br.gf,aa,ag] at hS;have hS:=uN.op hS (.s (.s (.s .z)));have hq:=eK hS hw;revert hq hS hw;(repeat first|clear hq|clear hS|clear hw|revert hc|revert R|revert K);refine Wp (J2 (Tg.mk (n:=10) @lh) (dl cU)) (J7 h h2 @ik.eq_1 @ik.eq_2 bz @be.eq_1 @aW.v.eq_1) ?_<;>(unhygienic intros);refine⟨_,by simp [hq,AW.af,aB];rfl,by first|(simp [aW.v];done)|(simp [aW.v,h];done),?_⟩;apply aX.bO
   (·exact sA)
   exact fP
   (·first|exact pP|exact kP)
   all_goals(first|exact 0|exact undef)
 by_cases h3:set.length=0
 . have e:iw ⟨cf,am,aA,az,value,bY,aj,reads,ak,av,set,bu,aw,ao,aJ,some t,an,.dE⟩ M t=(x,14,⟨cf,am,aA,az,value,bY,aj,reads,ak,av,set,bu,aw,ao,aJ,some t',an,.cH⟩,M'):=by
    unfold iw;rw [hr];dsimp only;rw [h2];simp [h,h3]
   rw [e];intro A F hw hS;refine aF Tryz.func119 λ_=>?_;dsimp only [aa,ag] at hS;obtain⟨x0,hS⟩:=aX.open hS .z;(unhygienic cases x0);dsimp only [b9,gZ,cF,ez,br.gf,aa,ag] at hS;have hS:=uN.op hS (.s (.s (.s .z)));have hq:=eK hS hw;have h4:∀rv,(ij.mk set rv false).done=true:=λrv=>by simp [ij.done,h3]
   revert hq hS hw;(repeat first|clear hq|clear hS|clear hw|revert hc|revert R|revert K);refine Wp (J6 (Tg.mk (n:=10) @lh) (Tg.mk (n:=11) @qF) (Tg.mk (n:=11) @pg) (Tg.mk (n:=30) (λA' h1 h2=>rI b ⟨cf,am,aA,az,value,bY,aj,reads,ak,av,set,bu,aw,ao,aJ,some t',an,.dE⟩ 6 .dE A' h1 h2)) (Tg.mk (n:=10) @kj) (dl cU)) (J8 h h2 h4 @ik.eq_1 @ik.eq_2 bz @be.eq_1 @aW.v.eq_1) ?_<;>(unhygienic intros);refine⟨_,by simp [hq,AW.af,aB];rfl,by first|(simp [aW.v];done)|(simp [aW.v,h];done),?_⟩;apply aX.bO
   (·exact sA)
   exact fP
   (·first|exact pP|exact kP)
   all_goals(first|exact 0|exact undef)
 have e:iw ⟨cf,am,aA,az,value,bY,aj,reads,ak,av,set,bu,aw,ao,aJ,some t,an,.dE⟩ M t=(x,14,⟨cf,am,aA,az,value,bY,aj,reads,ak,av,set,bu,aw,ao,aJ,some t',an,.d9 ⟨set,aM.rv ⟨cf,am,aA,az,value,bY,aj,reads,ak,av,set,bu,aw,ao,aJ,some t',an,.dE⟩,false⟩⟩,M'):=by
  unfold iw;rw [hr];dsimp only;rw [h2];simp [h,h3,aM.rv]
 rw [e];intro A F hw hS;refine aF Tryz.func119 λ_=>?_;dsimp only [aa,ag] at hS;obtain⟨x0,hS⟩:=aX.open hS .z;(unhygienic cases x0);dsimp only [b9,gZ,cF,ez,br.gf,aa,ag] at hS;have hS:=uN.op hS (.s (.s (.s .z)));have hq:=eK hS hw;have h4:∀rv,(ij.mk set rv false).done=false:=λrv=>by simp [ij.done];exact λh=>h3 (by rw [h];rfl)
 revert hq hS hw;(repeat first|clear hq|clear hS|clear hw|revert hc|revert R|revert K);refine Wp (J6 (Tg.mk (n:=10) @lh) (Tg.mk (n:=11) @qF) (Tg.mk (n:=11) @pg) (Tg.mk (n:=30) (λA' h1 h2=>rI b ⟨cf,am,aA,az,value,bY,aj,reads,ak,av,set,bu,aw,ao,aJ,some t',an,.dE⟩ 6 .dE A' h1 h2)) (Tg.mk (n:=10) @kj) (dl cU)) (J8 h h2 h4 @ik.eq_1 @ik.eq_2 bz @be.eq_1 @aW.v.eq_1) ?_<;>(unhygienic intros);refine⟨_,by simp [hq,AW.af,aB];rfl,by first|(simp [aW.v];done)|(simp [aW.v,h];done),?_⟩;apply aX.bO
 (·exact sA)
 exact fP
 (·first|exact pP|exact kP)
 all_goals(first|exact 0|exact undef)
theorem Cd (b pb:Nat) (s:aM) (c:ij) (M:Mm) (hd:s.aG=.d9 c) (Uy:s.ao.length<2^20) (Qx:s.ao.length=0\/∃l,s.aJ=some l/\s.ao.length=l.fe.length) :
 bf Tryz.prog 120 [pv b,pv pb] [.h (aX b s),dG pb M] (λv=>v=.tuple #[(gT s M c).1.v,.int .i64 (gT s M c).2.1])
  (λ_=>[.h (aX b (gT s M c).2.2.1),dG pb (gT s M c).2.2.2]):=by
 (unhygienic cases s);dsimp only at hd;subst hd;dsimp only at Uy Qx;obtain⟨x,c',M',hr⟩:∃x e' M',lq c M=(x,e',M'):=⟨_,_,_,rfl⟩;have dl:=λn=>Dt n pb c M;rw [hr] at dl;cases h2:c'.jp
 . cases h3:c'.done
   . have e:gT ⟨cf,am,aA,az,value,bY,aj,reads,ak,av,set,bu,aw,ao,aJ,aI,an,.d9 c⟩ M c=(x,15,⟨cf,am,aA,az,value,bY,aj,reads,ak,av,set,bu,aw,ao,aJ,aI,an,.d9 c'⟩,M'):=by
      unfold gT;rw [hr];dsimp only;rw [h2,h3];simp
     rw [e];intro A F hw hS;refine aF Tryz.func120 λ_=>?_;dsimp only [aa,ag] at hS;obtain⟨x0,hS⟩:=aX.open hS .z;(unhygienic cases x0);dsimp only [b9,gZ,cF,ez,br.gf,aa,ag] at hS;have hq:=eK hS hw;revert hq hS hw;clear hS;refine Wp (J3 (Tg.mk (n:=10) @oM) (Tg.mk (n:=10) @kj) (dl m)) (J5 h2 h3 bz @be.eq_1 @aW.v.eq_1) ?_<;>(unhygienic intros);refine⟨_,by simp [hq,AW.af,aB];rfl,by first|(simp [aW.v];done)|(simp [aW.v,h];done),?_⟩;apply aX.bO
     (·exact sA)
     exact fP
     (·first|exact pP|exact kP)
     all_goals(first|exact 0|exact undef)
   have e:gT ⟨cf,am,aA,az,value,bY,aj,reads,ak,av,set,bu,aw,ao,aJ,aI,an,.d9 c⟩ M c=(x,15,⟨cf,am,aA,az,value,bY,aj,reads,ak,av,set,bu,aw,ao,aJ,aI,an,.cH⟩,M'):=by
    unfold gT;rw [hr];dsimp only;rw [h2,h3];simp
   rw [e];intro A F hw hS;refine aF Tryz.func120 λ_=>?_;dsimp only [aa,ag] at hS;obtain⟨x0,hS⟩:=aX.open hS .z;(unhygienic cases x0);dsimp only [b9,gZ,cF,ez,br.gf,aa,ag] at hS;have hq:=eK hS hw;revert hq hS hw;(repeat first|clear hq|clear hS|clear hw|revert hc|revert R|revert K);refine Wp (J3 (Tg.mk (n:=10) @oM) (Tg.mk (n:=10) @kj) (dl m)) (J5 h2 h3 bz @be.eq_1 @aW.v.eq_1) ?_<;>(unhygienic intros);refine⟨_,by simp [hq,AW.af,aB];rfl,by first|(simp [aW.v];done)|(simp [aW.v,h];done),?_⟩;apply aX.bO
   (·exact sA)
   exact fP
   (·first|exact pP|exact kP)
   all_goals(first|exact 0|exact undef)
 have e:gT ⟨cf,am,aA,az,value,bY,aj,reads,ak,av,set,bu,aw,ao,aJ,aI,an,.d9 c⟩ M c=(x,15,gU ⟨cf,am,aA,9,value,bY,aj,reads,ak,av,set,bu,aw,ao,aJ,aI,an,.d9 c'⟩,M'):=by
  unfold gT;rw [hr];dsimp only;rw [h2];simp
 rw [e];intro A F hw hS;refine aF Tryz.func120 λ_=>?_;dsimp only [aa,ag] at hS;obtain⟨x0,hS⟩:=aX.open hS .z;(unhygienic cases x0);dsimp only [b9,gZ,cF,ez,br.gf,aa,ag] at hS;have hq:=eK hS hw
 repeat' (first|(refine jX λR hR=>?_;simp [ai,ar,hq,h2,AW.af,aB,be,aW.v];try simp (disch:=omega) only [if_pos,if_neg,ai,ar])|(refine hR _ _ ?_;clear hR R)|(refine hK _ _ ?_;clear hK K)|refine nx ?_|refine wn λK hK=>?_|simp only [wS]|(apply bf.eZ (dl m);(·exact wA);(·exact sA);(·first|exact pP|exact kP);rintro _ _ rfl hS hw _;have hS:=lA hS;have hq:=AG hS hw)|(apply oM;(·exact wA);(·exact sA);(·first|exact pP|exact kP);)|(apply bf.jT (sr b ⟨cf,am,aA,9,value,bY,aj,reads,ak,av,set,bu,aw,ao,aJ,aI,an,.d9 c'⟩ 7 (.d9 c') (by exact Uy) (by exact Qx));(·exact wA);(·exact sA);(·exact fP);(·first|exact pP|exact kP);(rintro _ _ _ hS hw _;have hS:=lA hS);(try (have hq:=AG hS hw));all_goals(try (first|exact 0|exact undef)))|(show cM _ _ _ _ _ _;refine nx ?_)|(refine wc rfl (λhc=>?_) (λhc=>?_)<;>(try simp at hc)<;>(try omega)<;>(try (simp [h2] at hc;done))<;>(try (simp [h3] at hc;done))<;>(try (simp [h4] at hc;done)))|(refine ib (λhc=>?_) (λhc=>?_)<;>(try omega)<;>(try simp (disch:=omega) only [if_pos,if_neg])))
 refine⟨_,by simp [hq,AW.af,aB];rfl,by first|(simp [aW.v];done)|(simp [aW.v,h];done),?_⟩;apply ah.bO
 (·exact sA)
 (·first|exact pP|exact kP)
end
end Go.Stx
