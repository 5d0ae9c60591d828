/-
 The program's attempt: its requests.
-/
import Derived.Test.YtncmjklabcoeaaaGreatD19
import Derived.Test.YtncmjklabcoeaaaGreatD21
set_option linter.unusedVariables false
set_option linter.unusedSimpArgs false
set_option maxRecDepth 20000
set_option maxHeartbeats 4000000
namespace Go.Stx
open Go Go.Proofs
attribute [local irreducible] fj cm aH bB dK ei
open T15 T16
theorem wX {f:FuncId} {args:List Value} {V:Value} {b:Nat} {s:aD} (hC:∀A':AW,A'.Wf→an A' [.h (bI b s)]→eF f args A' V)
 {A:AW} {L K:List It} {k:Value→AW→Prop} (hw:A.Wf) (hS:an A L) (hp:ay L (.h (bI b s)) K) (hk:k V A):aH Tryz.prog f args A k:=by
 refine bD (hC A hw (an.cC hS (.s hp .z))) ?_
 rintro _ _ ⟨rfl,rfl⟩ _ _
 exact hk
theorem iw (b:Nat) (s:aD) (st:Int) (h:s.jY st=true):∀A':AW,A'.Wf→an A' [.h (gW b s 0 .bm)]→eF 41 [pv b,.int .i64 st] A' (.int .i64 0):=by
 intro A' h1 h2
 have h3:s.aA.eo=0:=by
  unfold aD.jY at h
  simp at h
  exact h.1
 have:=yV b s st .bm A' h1 (by rw [h3];exact h2)
 rwa [if_pos h] at this
theorem pZ (b:Nat) (s:aD) (st:Int) (h:¬s.jY st=true):∀A':AW,A'.Wf→an A' [.h (bI b s)]→eF 41 [pv b,.int .i64 st] A' (.int .i64 1):=by
 intro A' h1 h2
 have:=yV b s st s.aA A' h1 (bI.Tk h2 .z)
 rwa [if_neg h] at this
theorem ip {s:aD} {st:Int} (h:s.jY st=true):s.aA=.bm∧s.av=st:=by
 unfold aD.jY at h
 simp at h
 refine⟨?_,h.2⟩
 have h1:=h.1
 revert h1
 cases s.aA<;>simp [ba.eo]
theorem Gn {c:bG} (hc:dt c) (a:Int):gT c a≤64:=by
 have:=hc.nb
 unfold gT
 split
 · rename_i b h
   have h1:=List.mem_range.1 (List.mem_of_find?_eq_some h)
   omega
 · omega
theorem Ae (b:Nat) (s:aD) :
 aP Tryz.prog 12 [pv b] [.h (bI b s)] (fun v=>v=.int .i64 (jG s).1) (fun _=>[.h (bI b (jG s).2)]):=by
 by_cases hf:s.jY 0=true
 · skip
   obtain⟨h1,h2⟩:=ip hf
   obtain⟨cf,ag,av,ax,value,br,ai,ah,ac,ap,set,aM,ao,aj,aG,aE,am,aA⟩:=s
   dsimp only at h1 h2
   subst h1 h2
   intro A F hw hS
   refine ab Tryz.func12 rfl (by kernel_rfl) fun _=>?_
   obtain⟨⟨bh,aY,az,aJ,aK,m,c0,c1,c2,bx,aw,aB,aV,bQ,bg,cE,aW,aU,aC,bA,bC,cP,bR⟩,hS⟩:=bI.open hS .z
   dsimp only [cg,fq,bW,da,ba.eo,na,zo] at hS
   have hq:=ZN hS hw
   have zF:=hw.lt (hS.g 0 rfl)
   have pm:(b=A.next+1+1)=False:=eq_false (by omega)
   have xH:(A.next+1+1=b)=False:=eq_false (by omega)
   have Ci:(A.next=A.next+1+1)=False:=eq_false (by omega)
   have e:jG ⟨cf,ag,0,ax,value,br,ai,ah,ac,ap,set,aM,ao,aj,aG,aE,am,.bm⟩=(0,_):=if_pos hf
   revert hq hS hw;clear hS;refine Wp (J2 (Tg.mk (n:=30) (iw b ⟨cf,ag,0,ax,value,br,ai,ah,ac,ap,set,aM,ao,aj,aG,aE,am,.bm⟩ 0 hf)) @Bv) (J5 pm xH Ci @AW.aa @af.eq_1) (J1 ?_)<;>unhygienic intros
   rw [e]
   refine⟨_,by first|rfl|(simp;rfl),rfl,?_⟩
   apply bI.cC
   (·exact sA)
   (dsimp only [cg,fi,fq,bW,da,ba.eo,bJ,aT,aQ,dT,cY,dV,fC,cZ,cW,bV,dU,dR,fB,dS,na,zo])
   try simp only [h]
   (·first|exact pP|exact kP)
   (·first|exact pP|exact kP)
   all_goals(first|exact 0|exact undef)
 · have e:jG s=(1,s):=if_neg hf
   intro A F hw hS
   refine ab Tryz.func12 rfl (by kernel_rfl) fun _=>?_
   try dsimp only [na,zo] at hS
   have hr:=pZ b s 0 hf
   revert hS hw;(repeat first|clear hS|clear hw|revert hc|revert zn|revert zA|revert R|revert K);refine Wp (J1 (Tg.mk (n:=10) (fun {A L K k}=>wX (A:=A) (L:=L) (K:=K) (k:=k) hr))) (J2 @AW.aa @af.eq_1) (J1 ?_)<;>unhygienic intros
   rw [e]
   refine⟨_,by first|rfl|(simp;rfl),rfl,?_⟩
   apply an.cC
   (·exact sA)
   (·first|exact pP|exact kP)
theorem xQ (b:Nat) (s:aD) (a v:Int) :
 aP Tryz.prog 17 [pv b,.int .u64 a,.int .u64 v] [.h (bI b s)] (fun u=>u=.int .i64 (CF s a v).1) (fun _=>[.h (bI b (CF s a v).2)]):=by
 by_cases hf:s.jY 1=true
 · skip
   obtain⟨h1,h2⟩:=ip hf
   obtain⟨cf,ag,av,ax,value,br,ai,ah,ac,ap,set,aM,ao,aj,aG,aE,am,aA⟩:=s
   dsimp only at h1 h2
   subst h1 h2
   intro A F hw hS
   refine ab Tryz.func17 rfl (by kernel_rfl) fun _=>?_
   obtain⟨⟨bh,aY,az,aJ,aK,m,c0,c1,c2,bx,aw,aB,aV,bQ,bg,cE,aW,aU,aC,bA,bC,cP,bR⟩,hS⟩:=bI.open hS .z
   dsimp only [cg,fq,bW,da,ba.eo,na,zo] at hS
   have hq:=ZN hS hw
   have zF:=hw.lt (hS.g 0 rfl)
   have pm:(b=A.next+1+1)=False:=eq_false (by omega)
   have xH:(A.next+1+1=b)=False:=eq_false (by omega)
   have Ci:(A.next=A.next+1+1)=False:=eq_false (by omega)
   have e:CF ⟨cf,ag,1,ax,value,br,ai,ah,ac,ap,set,aM,ao,aj,aG,aE,am,.bm⟩ a v=(0,_):=if_pos hf
   revert hq hS hw;clear hS;refine Wp (J2 (Tg.mk (n:=30) (iw b ⟨cf,ag,1,ax,value,br,ai,ah,ac,ap,set,aM,ao,aj,aG,aE,am,.bm⟩ 1 hf)) (Tg.mk (n:=31) (fun {A L K k fn cs bh aY az aJ aK m c0 c1 c2 bx aw aB aV bQ bg cE aW aU aC bA bC cP bR}=>jw (A:=A) (L:=L) (K:=K) (k:=k) (fn:=fn) (cs:=cs) (bh:=bh) (aY:=aY) (az:=az) (aJ:=aJ) (aK:=aK) (m:=m) (c0:=c0) (c1:=c1) (c2:=c2) (bx:=bx) (aw:=aw) (aB:=aB) (aV:=aV) (bQ:=bQ) (bg:=bg) (cE:=cE) (aW:=aW) (aU:=aU) (aC:=aC) (bA:=bA) (bC:=bC) (cP:=cP) (bR:=bR) (s:=⟨cf,ag,1,ax,value,br,ai,ah,ac,ap,set,aM,ao,aj,aG,aE,am,.bm⟩) (cj:=0)))) (J5 pm xH Ci @AW.aa @af.eq_1) (J1 ?_)<;>unhygienic intros
   rw [e]
   refine⟨_,by first|rfl|(simp;rfl),rfl,?_⟩
   apply bI.cC
   (·exact sA)
   (dsimp only [cg,fi,fq,bW,da,ba.eo,bJ,aT,aQ,dT,cY,dV,fC,cZ,cW,bV,dU,dR,fB,dS,na,zo])
   try simp only [h]
   (·first|exact pP|exact kP)
   (·first|exact pP|exact kP)
   all_goals(first|exact 0|exact undef)
 · have e:CF s a v=(1,s):=if_neg hf
   intro A F hw hS
   refine ab Tryz.func17 rfl (by kernel_rfl) fun _=>?_
   try dsimp only [na,zo] at hS
   have hr:=pZ b s 1 hf
   revert hS hw;(repeat first|clear hS|clear hw|revert hc|revert zn|revert zA|revert R|revert K);refine Wp (J1 (Tg.mk (n:=10) (fun {A L K k}=>wX (A:=A) (L:=L) (K:=K) (k:=k) hr))) (J2 @AW.aa @af.eq_1) (J1 ?_)<;>unhygienic intros
   rw [e]
   refine⟨_,by first|rfl|(simp;rfl),rfl,?_⟩
   apply an.cC
   (·exact sA)
   (·first|exact pP|exact kP)
theorem pp (b:Nat) (s:aD) (mL:Int) :
 aP Tryz.prog 19 [pv b,.int .i64 mL] [.h (bI b s)] (fun u=>u=.int .i64 (xN s mL).1) (fun _=>[.h (bI b (xN s mL).2)]):=by
 by_cases hf:s.jY 1=true
 · skip
   obtain⟨h1,h2⟩:=ip hf
   obtain⟨cf,ag,av,ax,value,br,ai,ah,ac,ap,set,aM,ao,aj,aG,aE,am,aA⟩:=s
   dsimp only at h1 h2
   subst h1 h2
   intro A F hw hS
   refine ab Tryz.func19 rfl (by kernel_rfl) fun _=>?_
   obtain⟨⟨bh,aY,az,aJ,aK,m,c0,c1,c2,bx,aw,aB,aV,bQ,bg,cE,aW,aU,aC,bA,bC,cP,bR⟩,hS⟩:=bI.open hS .z
   dsimp only [cg,fq,bW,da,ba.eo,na,zo] at hS
   have hq:=ZN hS hw
   have zF:=hw.lt (hS.g 0 rfl)
   have pm:(b=A.next+1+1)=False:=eq_false (by omega)
   have xH:(A.next+1+1=b)=False:=eq_false (by omega)
   have Ci:(A.next=A.next+1+1)=False:=eq_false (by omega)
   have e0:xN ⟨cf,ag,1,ax,value,br,ai,ah,ac,ap,set,aM,ao,aj,aG,aE,am,.bm⟩ mL=_:=if_pos hf
   dsimp only at e0
   by_cases g1:mL=1
   · have e:=e0.trans (if_neg (by omega))
     revert hq hS hw;clear hS;refine Wp (J2 (Tg.mk (n:=30) (iw b ⟨cf,ag,1,ax,value,br,ai,ah,ac,ap,set,aM,ao,aj,aG,aE,am,.bm⟩ 1 hf)) (Tg.mk (n:=31) (fun {A L K k fn cs bh aY az aJ aK m c0 c1 c2 bx aw aB aV bQ bg cE aW aU aC bA bC cP bR}=>jw (A:=A) (L:=L) (K:=K) (k:=k) (fn:=fn) (cs:=cs) (bh:=bh) (aY:=aY) (az:=az) (aJ:=aJ) (aK:=aK) (m:=m) (c0:=c0) (c1:=c1) (c2:=c2) (bx:=bx) (aw:=aw) (aB:=aB) (aV:=aV) (bQ:=bQ) (bg:=bg) (cE:=cE) (aW:=aW) (aU:=aU) (aC:=aC) (bA:=bA) (bC:=bC) (cP:=cP) (bR:=bR) (s:=⟨cf,ag,1,ax,value,br,ai,ah,ac,ap,set,aM,ao,aj,aG,aE,am,.bm⟩) (cj:=0)))) (J6 pm xH Ci g1 @AW.aa @af.eq_1) (J1 ?_)<;>unhygienic intros
     subst g1
     rw [e]
     refine⟨_,by first|rfl|(simp;rfl),rfl,?_⟩
     apply bI.cC
     (·exact sA)
     (dsimp only [cg,fi,fq,bW,da,ba.eo,bJ,aT,aQ,dT,cY,dV,fC,cZ,cW,bV,dU,dR,fB,dS,na,zo])
     try simp only [h]
     (·first|exact pP|exact kP)
     (·first|exact pP|exact kP)
     all_goals(first|exact 0|exact undef)
   · by_cases g2:mL=2
     · have e:=e0.trans (if_neg (by omega))
       revert hq hS hw;(repeat first|clear hq|clear hS|clear hw|revert hc|revert zn|revert zA|revert R|revert K);refine Wp (J2 (Tg.mk (n:=30) (iw b ⟨cf,ag,1,ax,value,br,ai,ah,ac,ap,set,aM,ao,aj,aG,aE,am,.bm⟩ 1 hf)) (Tg.mk (n:=31) (fun {A L K k fn cs bh aY az aJ aK m c0 c1 c2 bx aw aB aV bQ bg cE aW aU aC bA bC cP bR}=>jw (A:=A) (L:=L) (K:=K) (k:=k) (fn:=fn) (cs:=cs) (bh:=bh) (aY:=aY) (az:=az) (aJ:=aJ) (aK:=aK) (m:=m) (c0:=c0) (c1:=c1) (c2:=c2) (bx:=bx) (aw:=aw) (aB:=aB) (aV:=aV) (bQ:=bQ) (bg:=bg) (cE:=cE) (aW:=aW) (aU:=aU) (aC:=aC) (bA:=bA) (bC:=bC) (cP:=cP) (bR:=bR) (s:=⟨cf,ag,1,ax,value,br,ai,ah,ac,ap,set,aM,ao,aj,aG,aE,am,.bm⟩) (cj:=0)))) (J7 pm xH Ci g1 g2 @AW.aa @af.eq_1) (J1 ?_)<;>unhygienic intros
       subst g2
       rw [e]
       refine⟨_,by first|rfl|(simp;rfl),rfl,?_⟩
       apply bI.cC
       (·exact sA)
       (dsimp only [cg,fi,fq,bW,da,ba.eo,bJ,aT,aQ,dT,cY,dV,fC,cZ,cW,bV,dU,dR,fB,dS,na,zo])
       try simp only [h]
       (·first|exact pP|exact kP)
       (·first|exact pP|exact kP)
       all_goals(first|exact 0|exact undef)
     · have e:=e0.trans (if_pos ⟨g1,g2⟩)
       revert hq hS hw;(repeat first|clear hq|clear hS|clear hw|revert hc|revert zn|revert zA|revert R|revert K);refine Wp (J1 (Tg.mk (n:=30) (iw b ⟨cf,ag,1,ax,value,br,ai,ah,ac,ap,set,aM,ao,aj,aG,aE,am,.bm⟩ 1 hf))) (J7 pm xH Ci g1 g2 @AW.aa @af.eq_1) (J1 ?_)<;>unhygienic intros
       rw [e]
       refine⟨_,by first|rfl|(simp;rfl),rfl,?_⟩
       apply bI.cC
       (·exact sA)
       (dsimp only [cg,fi,fq,bW,da,ba.eo,bJ,aT,aQ,dT,cY,dV,fC,cZ,cW,bV,dU,dR,fB,dS,na,zo])
       try simp only [h]
       (·first|exact pP|exact kP)
       (·first|exact pP|exact kP)
       all_goals(first|exact 0|exact undef)
 · have e:xN s mL=(1,s):=if_neg hf
   intro A F hw hS
   refine ab Tryz.func19 rfl (by kernel_rfl) fun _=>?_
   try dsimp only [na,zo] at hS
   have hr:=pZ b s 1 hf
   revert hS hw;(repeat first|clear hS|clear hw|revert hc|revert zn|revert zA|revert R|revert K);refine Wp (J1 (Tg.mk (n:=10) (fun {A L K k}=>wX (A:=A) (L:=L) (K:=K) (k:=k) hr))) (J2 @AW.aa @af.eq_1) (J1 ?_)<;>unhygienic intros
   rw [e]
   refine⟨_,by first|rfl|(simp;rfl),rfl,?_⟩
   apply an.cC
   (·exact sA)
   (·first|exact pP|exact kP)
end Go.Stx
