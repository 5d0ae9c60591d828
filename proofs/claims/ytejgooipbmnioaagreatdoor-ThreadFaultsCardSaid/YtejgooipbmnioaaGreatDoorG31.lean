/-
 The program's check of an instruction: Check.
-/
import Derived.Test.YtejgooipbmnioaaGreatDoorG30
set_option linter.unusedVariables false
set_option linter.unusedSimpArgs false
set_option linter.unusedSectionVars false
set_option maxRecDepth 20000
set_option maxHeartbeats 4000000
namespace Go.Stx
open Go Go.Proofs
attribute [local irreducible] TW cg eg bn aC aV cR df
section
abbrev dz:List (Nat×Nat):=[(0,0),(1,0),(2,0),(3,0),(4,0),(5,0),(6,0),(7,0),(8,0),(9,2),(10,0)]
namespace TGFbJ
theorem jD [Gl] {A:AW} {L:List It} {T:Prop} (hS:ak A L) (hw:A.Wf) (h':(bg A L∧bB A L∧cj L)=T:=by first|(dsimp only [af,ag,bg,bB,cj,eA];done)|exact rfl):T:=h'▸hS.eu hw
end TGFbJ
open TGFbJ
section
variable (G1 G2:Gl) (hG:∀g,G1.ok g=true→G2.ok g=true)
include hG
theorem wB {n:Nat} {o:Operand} (h:@sY G1 n o=true):@sY G2 n o=true:=by
 cases o with
 | global g=>exact hG g h
 | _=>exact h
theorem El {n:Nat} {o:Oper} (h:@kz G1 n o=true):@kz G2 n o=true:=by
 unfold kz at h ⊢
 rw [Bool.and_eq_true] at h ⊢
 refine⟨?_,h.2⟩
 have h1:=h.1
 rw [Array.all_eq_true] at h1 ⊢
 exact fun i hi=>wB G1 G2 hG (h1 i hi)
theorem jq {n:Nat}:∀{c:Code},@jr G1 n c=true→@jr G2 n c=true
 | .region _ bE _,h=>by
   unfold jr at h ⊢
   rw [Array.all_eq_true] at h ⊢
   exact fun i hi=>El G1 G2 hG (h i hi)
 | .seq a b,h=>by
   unfold jr at h ⊢
   rw [Bool.and_eq_true] at h ⊢
   exact⟨jq h.1,jq h.2⟩
 | .cond c a b,h=>by
   unfold jr at h ⊢
   rw [Bool.and_eq_true,Bool.and_eq_true] at h ⊢
   exact⟨⟨wB G1 G2 hG h.1.1,jq h.1.2⟩,jq h.2⟩
 | .block _ b,h=>by
   unfold jr at h ⊢
   exact jq h
 | .loop b,h=>by
   unfold jr at h ⊢
   exact jq h
 | .skip,h=>rfl
 | .exit _,h=>rfl
 | .ret,h=>rfl
end
@[reducible] def Wi:Gl:={ B:=fun _=>none,ok:=fun g=>g == 0,N:=1,lt:=fun g h=>by have:=eq_of_beq h;omega }
variable [Gl]
theorem GY (ko:Gl.ok 0=true) {fn:Func} {n:Nat} (h:@GZ Wi fn n=true):GZ fn n=true:=by
 have hG:∀g,Wi.ok g=true→Gl.ok g=true:=fun g hg=>by
  have:g=0:=eq_of_beq hg
  subst this
  exact ko
 unfold GZ at h ⊢
 simp only [Bool.and_eq_true] at h ⊢
 obtain⟨⟨⟨h1,h2⟩,h3⟩,h4⟩:=h
 refine⟨⟨⟨h1,h2⟩,?_⟩,?_⟩
 · rw [List.all_eq_true] at h3 ⊢
   exact fun r hr=>h3 r hr
 · cases hb:fn.body with
   | none=>rw [hb] at h4;exact h4
   | some c=>rw [hb] at h4;exact jq Wi _ hG h4
theorem cZ (a:Fr) (g:Nat):ip a (.global g)=.pointer (some ⟨g,0,none⟩):=rfl
set_option maxHeartbeats 4000000 in
theorem AA (hF:FOK) (x:cz) (A:AW):rz Tryz.prog 137 [.agg (aP x).toArray] A (.int .i64 (dL x)):=by
 refine rz.MS rfl ?_
 obtain⟨e,fr,hB⟩:=hF.Sm
 refine aC.Pp (cs:=fo) hF.ok hB (fun k v h=>?_) ?_
 · refine⟨by simpa using h,?_⟩
   have h1:fo.all eJ=true:=by kernel_rfl
   exact List.all_eq_true.1 h1 v (List.mem_of_getElem? h)
 generalize A.ro=A0
 have dG:(A0.set 0 (some (.cells fo false 1))).cK 0=some fo:=by simp [AW.aa]
 have ig:(A0.set 0 (some (.cells fo false 1))).bR 0=some (.cells fo false 1):=by simp
 generalize A0.set 0 (some (.cells fo false 1))=A at dG ig
 refine ab Tryz.func137 rfl (GY hF.ok (by kernel_rfl)) fun hw=>?_
 have hz:¬0=A.next:=fun e=>by have:=hw.lt ig;omega
 have oG:¬A.next=0:=fun e=>hz e.symm
 obtain⟨op,a,b,c,cQ⟩:=x
 by_cases h1:op<0
 · have he:dL ⟨op,a,b,c,cQ⟩=10:=by unfold dL;rw [if_pos (.inl h1)]
   rw [he]
   revert hw;refine W (J1 (od dz)) (J3 h1 @AW.aa @aP.eq_1) (J1 ?_)<;>unhygienic intros
   all_goals simp [bH,bO,cH,bI,bM]
 by_cases h2:18≤op
 · have he:dL ⟨op,a,b,c,cQ⟩=10:=by unfold dL;rw [if_pos (.inr h2)]
   rw [he]
   revert hw;(repeat first|clear hw|revert hc|revert zn|revert zA|revert R|revert K);refine W (J1 (od dz)) (J4 h1 h2 @AW.aa @aP.eq_1) (J1 ?_)<;>unhygienic intros
   all_goals simp [bH,bO,cH,bI,bM]
 obtain⟨k,rfl⟩:∃k:Nat,op=k:=⟨op.toNat,by omega⟩
 have hk:k<18:=by omega
 have ld:¬((18:Int)≤k):=by omega
 obtain⟨l1,l2,l3⟩:=V9 hk
 have bA:=Jj hk
 have bW:fo.length=36:=by kernel_rfl
 have c1:∀A,aC Tryz.prog 201 [.string (bs (iK k)),.string ((⟨#[65,66,67]⟩:ByteArray).extract 0 1)] A (fun u A'=>u=.bool (xT k)∧A=A'):=fun A=>by rw [←l1];exact(oL (iK k) 65 A).call ⟨rfl,rfl⟩
 have c2:∀A,aC Tryz.prog 201 [.string (bs (iK k)),.string ((⟨#[65,66,67]⟩:ByteArray).extract 1 2)] A (fun u A'=>u=.bool (qz k)∧A=A'):=fun A=>by rw [←l2];exact(oL (iK k) 66 A).call ⟨rfl,rfl⟩
 have c3:∀A,aC Tryz.prog 201 [.string (bs (iK k)),.string ((⟨#[65,66,67]⟩:ByteArray).extract 2 3)] A (fun u A'=>u=.bool (xS k)∧A=A'):=fun A=>by rw [←l3];exact(oL (iK k) 67 A).call ⟨rfl,rfl⟩
 have he:dL ⟨k,a,b,c,cQ⟩=if (mY a (xT k) && mY b (qz k) && mY c (xS k)) && fQ k cQ then 0 else 11:=by unfold dL;rw [if_neg (by simp;omega)]
 rw [he]
 have cN:=Et ⟨(k:Int),a,b,c,cQ⟩
 simp only [aP] at cN
 generalize fQ (k:Int) cQ=no at cN ⊢
 generalize xT k=ua at c1 ⊢
 generalize qz k=ub at c2 ⊢
 generalize xS k=uc at c3 ⊢
 generalize hra:mY a ua=ra
 generalize hrb:mY b ub=rb
 generalize ur:mY c uc=rc
 have key:∀(r:Int) (u:Bool),mY r u=(if u then decide (0≤r) && decide (r<8) else decide (r=0)):=fun _ _=>rfl
 rw [key] at hra hrb ur
 revert hw;(repeat first|clear hw|revert hc|revert zn|revert zA|revert R|revert K);refine W (J1 (od dz)) (J4 h1 ld @AW.aa @aP.eq_1) (J1 ?_)<;>unhygienic intros
 refine bu 4 ?_
 cases ua with
 | false=>
   by_cases ya0:a=0
   · have ME:ra=true:=by rw [←hra];simp [ya0]
     subst ME
     subst ya0
     cases ub with
     | false=>
       by_cases yb0:b=0
       · have BS:rb=true:=by rw [←hrb];simp [yb0]
         subst BS
         subst yb0
         cases uc with
         | false=>
           by_cases yc0:c=0
           · have pD:rc=true:=by rw [←ur];simp [yc0]
             subst pD
             subst yc0
             cases no with
             | false=>
               revert hw;(repeat first|clear hw|revert hc|revert zn|revert zA|revert R|revert K);refine W (J5 (od dz) @c1 @c2 @c3 @cN) (Ix h1 ld ig bA bW hz oG hk @AW.aa @aP.eq_1 @cZ) (J1 ?_)<;>unhygienic intros
               all_goals first|exact AW.le.refl _|simp [dN,bH,bO,cH,bI,bM]
             | true=>
               revert hw;(repeat first|clear hw|revert hc|revert zn|revert zA|revert R|revert K);refine W (J5 (od dz) @c1 @c2 @c3 @cN) (Ix h1 ld ig bA bW hz oG hk @AW.aa @aP.eq_1 @cZ) (J1 ?_)<;>unhygienic intros
               all_goals first|exact AW.le.refl _|simp [dN,bH,bO,cH,bI,bM]
           · have pD:rc=false:=by rw [←ur];simp [yc0]
             subst pD
             revert hw;(repeat first|clear hw|revert hc|revert zn|revert zA|revert R|revert K);refine W (J5 (od dz) @c1 @c2 @c3 @cN) (AT h1 ld ig bA bW hz oG hk yc0 @AW.aa @aP.eq_1 @cZ) (J1 ?_)<;>unhygienic intros
             all_goals first|exact AW.le.refl _|simp [dN,bH,bO,cH,bI,bM]
         | true=>
           by_cases yc0:c<0
           · have pD:rc=false:=by rw [←ur];simp;omega
             subst pD
             revert hw;(repeat first|clear hw|revert hc|revert zn|revert zA|revert R|revert K);refine W (J5 (od dz) @c1 @c2 @c3 @cN) (AT h1 ld ig bA bW hz oG hk yc0 @AW.aa @aP.eq_1 @cZ) (J1 ?_)<;>unhygienic intros
             all_goals first|exact AW.le.refl _|simp [dN,bH,bO,cH,bI,bM]
           by_cases yc2:8≤c
           · have pD:rc=false:=by rw [←ur];simp;omega
             subst pD
             revert hw;(repeat first|clear hw|revert hc|revert zn|revert zA|revert R|revert K);refine W (J5 (od dz) @c1 @c2 @c3 @cN) (rQ h1 ld ig bA bW hz oG hk yc0 yc2 @AW.aa @aP.eq_1 @cZ) (J1 ?_)<;>unhygienic intros
             all_goals first|exact AW.le.refl _|simp [dN,bH,bO,cH,bI,bM]
           have pD:rc=true:=by rw [←ur];simp;omega
           subst pD
           cases no with
           | false=>
             revert hw;(repeat first|clear hw|revert hc|revert zn|revert zA|revert R|revert K);refine W (J5 (od dz) @c1 @c2 @c3 @cN) (rQ h1 ld ig bA bW hz oG hk yc0 yc2 @AW.aa @aP.eq_1 @cZ) (J1 ?_)<;>unhygienic intros
             all_goals first|exact AW.le.refl _|simp [dN,bH,bO,cH,bI,bM]
           | true=>
             revert hw;(repeat first|clear hw|revert hc|revert zn|revert zA|revert R|revert K);refine W (J5 (od dz) @c1 @c2 @c3 @cN) (rQ h1 ld ig bA bW hz oG hk yc0 yc2 @AW.aa @aP.eq_1 @cZ) (J1 ?_)<;>unhygienic intros
             all_goals first|exact AW.le.refl _|simp [dN,bH,bO,cH,bI,bM]
       · have BS:rb=false:=by rw [←hrb];simp [yb0]
         subst BS
         revert hw;(repeat first|clear hw|revert hc|revert zn|revert zA|revert R|revert K);refine W (J5 (od dz) @c1 @c2 @c3 @cN) (AT h1 ld ig bA bW hz oG hk yb0 @AW.aa @aP.eq_1 @cZ) (J1 ?_)<;>unhygienic intros
         all_goals first|exact AW.le.refl _|simp [dN,bH,bO,cH,bI,bM]
     | true=>
       by_cases yb0:b<0
       · have BS:rb=false:=by rw [←hrb];simp;omega
         subst BS
         revert hw;(repeat first|clear hw|revert hc|revert zn|revert zA|revert R|revert K);refine W (J5 (od dz) @c1 @c2 @c3 @cN) (AT h1 ld ig bA bW hz oG hk yb0 @AW.aa @aP.eq_1 @cZ) (J1 ?_)<;>unhygienic intros
         all_goals first|exact AW.le.refl _|simp [dN,bH,bO,cH,bI,bM]
       by_cases yb2:8≤b
       · have BS:rb=false:=by rw [←hrb];simp;omega
         subst BS
         revert hw;(repeat first|clear hw|revert hc|revert zn|revert zA|revert R|revert K);refine W (J5 (od dz) @c1 @c2 @c3 @cN) (rQ h1 ld ig bA bW hz oG hk yb0 yb2 @AW.aa @aP.eq_1 @cZ) (J1 ?_)<;>unhygienic intros
         all_goals first|exact AW.le.refl _|simp [dN,bH,bO,cH,bI,bM]
       have BS:rb=true:=by rw [←hrb];simp;omega
       subst BS
       cases uc with
       | false=>
         by_cases yc0:c=0
         · have pD:rc=true:=by rw [←ur];simp [yc0]
           subst pD
           subst yc0
           cases no with
           | false=>
             revert hw;(repeat first|clear hw|revert hc|revert zn|revert zA|revert R|revert K);refine W (J5 (od dz) @c1 @c2 @c3 @cN) (rQ h1 ld ig bA bW hz oG hk yb0 yb2 @AW.aa @aP.eq_1 @cZ) (J1 ?_)<;>unhygienic intros
             all_goals first|exact AW.le.refl _|simp [dN,bH,bO,cH,bI,bM]
           | true=>
             revert hw;(repeat first|clear hw|revert hc|revert zn|revert zA|revert R|revert K);refine W (J5 (od dz) @c1 @c2 @c3 @cN) (rQ h1 ld ig bA bW hz oG hk yb0 yb2 @AW.aa @aP.eq_1 @cZ) (J1 ?_)<;>unhygienic intros
             all_goals first|exact AW.le.refl _|simp [dN,bH,bO,cH,bI,bM]
         · have pD:rc=false:=by rw [←ur];simp [yc0]
           subst pD
           revert hw;(repeat first|clear hw|revert hc|revert zn|revert zA|revert R|revert K);refine W (J5 (od dz) @c1 @c2 @c3 @cN) (Dz h1 ld ig bA bW hz oG hk yb0 yb2 yc0 @AW.aa @aP.eq_1 @cZ) (J1 ?_)<;>unhygienic intros
           all_goals first|exact AW.le.refl _|simp [dN,bH,bO,cH,bI,bM]
       | true=>
         by_cases yc0:c<0
         · have pD:rc=false:=by rw [←ur];simp;omega
           subst pD
           revert hw;(repeat first|clear hw|revert hc|revert zn|revert zA|revert R|revert K);refine W (J5 (od dz) @c1 @c2 @c3 @cN) (Dz h1 ld ig bA bW hz oG hk yb0 yb2 yc0 @AW.aa @aP.eq_1 @cZ) (J1 ?_)<;>unhygienic intros
           all_goals first|exact AW.le.refl _|simp [dN,bH,bO,cH,bI,bM]
         by_cases yc2:8≤c
         · have pD:rc=false:=by rw [←ur];simp;omega
           subst pD
           revert hw;(repeat first|clear hw|revert hc|revert zn|revert zA|revert R|revert K);refine W (J5 (od dz) @c1 @c2 @c3 @cN) (JX h1 ld ig bA bW hz oG hk yb0 yb2 yc0 yc2 @AW.aa @aP.eq_1 @cZ) (J1 ?_)<;>unhygienic intros
           all_goals first|exact AW.le.refl _|simp [dN,bH,bO,cH,bI,bM]
         have pD:rc=true:=by rw [←ur];simp;omega
         subst pD
         cases no with
         | false=>
           revert hw;(repeat first|clear hw|revert hc|revert zn|revert zA|revert R|revert K);refine W (J5 (od dz) @c1 @c2 @c3 @cN) (JX h1 ld ig bA bW hz oG hk yb0 yb2 yc0 yc2 @AW.aa @aP.eq_1 @cZ) (J1 ?_)<;>unhygienic intros
           all_goals first|exact AW.le.refl _|simp [dN,bH,bO,cH,bI,bM]
         | true=>
           revert hw;(repeat first|clear hw|revert hc|revert zn|revert zA|revert R|revert K);refine W (J5 (od dz) @c1 @c2 @c3 @cN) (JX h1 ld ig bA bW hz oG hk yb0 yb2 yc0 yc2 @AW.aa @aP.eq_1 @cZ) (J1 ?_)<;>unhygienic intros
           all_goals first|exact AW.le.refl _|simp [dN,bH,bO,cH,bI,bM]
   · have ME:ra=false:=by rw [←hra];simp [ya0]
     subst ME
     revert hw;(repeat first|clear hw|revert hc|revert zn|revert zA|revert R|revert K);refine W (J5 (od dz) @c1 @c2 @c3 @cN) (AT h1 ld ig bA bW hz oG hk ya0 @AW.aa @aP.eq_1 @cZ) (J1 ?_)<;>unhygienic intros
     all_goals first|exact AW.le.refl _|simp [dN,bH,bO,cH,bI,bM]
 | true=>
   by_cases ya0:a<0
   · have ME:ra=false:=by rw [←hra];simp;omega
     subst ME
     revert hw;(repeat first|clear hw|revert hc|revert zn|revert zA|revert R|revert K);refine W (J5 (od dz) @c1 @c2 @c3 @cN) (AT h1 ld ig bA bW hz oG hk ya0 @AW.aa @aP.eq_1 @cZ) (J1 ?_)<;>unhygienic intros
     all_goals first|exact AW.le.refl _|simp [dN,bH,bO,cH,bI,bM]
   by_cases ya2:8≤a
   · have ME:ra=false:=by rw [←hra];simp;omega
     subst ME
     revert hw;(repeat first|clear hw|revert hc|revert zn|revert zA|revert R|revert K);refine W (J5 (od dz) @c1 @c2 @c3 @cN) (rQ h1 ld ig bA bW hz oG hk ya0 ya2 @AW.aa @aP.eq_1 @cZ) (J1 ?_)<;>unhygienic intros
     all_goals first|exact AW.le.refl _|simp [dN,bH,bO,cH,bI,bM]
   have ME:ra=true:=by rw [←hra];simp;omega
   subst ME
   cases ub with
   | false=>
     by_cases yb0:b=0
     · have BS:rb=true:=by rw [←hrb];simp [yb0]
       subst BS
       subst yb0
       cases uc with
       | false=>
         by_cases yc0:c=0
         · have pD:rc=true:=by rw [←ur];simp [yc0]
           subst pD
           subst yc0
           cases no with
           | false=>
             revert hw;(repeat first|clear hw|revert hc|revert zn|revert zA|revert R|revert K);refine W (J5 (od dz) @c1 @c2 @c3 @cN) (rQ h1 ld ig bA bW hz oG hk ya0 ya2 @AW.aa @aP.eq_1 @cZ) (J1 ?_)<;>unhygienic intros
             all_goals first|exact AW.le.refl _|simp [dN,bH,bO,cH,bI,bM]
           | true=>
             revert hw;(repeat first|clear hw|revert hc|revert zn|revert zA|revert R|revert K);refine W (J5 (od dz) @c1 @c2 @c3 @cN) (rQ h1 ld ig bA bW hz oG hk ya0 ya2 @AW.aa @aP.eq_1 @cZ) (J1 ?_)<;>unhygienic intros
             all_goals first|exact AW.le.refl _|simp [dN,bH,bO,cH,bI,bM]
         · have pD:rc=false:=by rw [←ur];simp [yc0]
           subst pD
           revert hw;(repeat first|clear hw|revert hc|revert zn|revert zA|revert R|revert K);refine W (J5 (od dz) @c1 @c2 @c3 @cN) (Dz h1 ld ig bA bW hz oG hk ya0 ya2 yc0 @AW.aa @aP.eq_1 @cZ) (J1 ?_)<;>unhygienic intros
           all_goals first|exact AW.le.refl _|simp [dN,bH,bO,cH,bI,bM]
       | true=>
         by_cases yc0:c<0
         · have pD:rc=false:=by rw [←ur];simp;omega
           subst pD
           revert hw;(repeat first|clear hw|revert hc|revert zn|revert zA|revert R|revert K);refine W (J5 (od dz) @c1 @c2 @c3 @cN) (Dz h1 ld ig bA bW hz oG hk ya0 ya2 yc0 @AW.aa @aP.eq_1 @cZ) (J1 ?_)<;>unhygienic intros
           all_goals first|exact AW.le.refl _|simp [dN,bH,bO,cH,bI,bM]
         by_cases yc2:8≤c
         · have pD:rc=false:=by rw [←ur];simp;omega
           subst pD
           revert hw;(repeat first|clear hw|revert hc|revert zn|revert zA|revert R|revert K);refine W (J5 (od dz) @c1 @c2 @c3 @cN) (JX h1 ld ig bA bW hz oG hk ya0 ya2 yc0 yc2 @AW.aa @aP.eq_1 @cZ) (J1 ?_)<;>unhygienic intros
           all_goals first|exact AW.le.refl _|simp [dN,bH,bO,cH,bI,bM]
         have pD:rc=true:=by rw [←ur];simp;omega
         subst pD
         cases no with
         | false=>
           revert hw;(repeat first|clear hw|revert hc|revert zn|revert zA|revert R|revert K);refine W (J5 (od dz) @c1 @c2 @c3 @cN) (JX h1 ld ig bA bW hz oG hk ya0 ya2 yc0 yc2 @AW.aa @aP.eq_1 @cZ) (J1 ?_)<;>unhygienic intros
           all_goals first|exact AW.le.refl _|simp [dN,bH,bO,cH,bI,bM]
         | true=>
           revert hw;(repeat first|clear hw|revert hc|revert zn|revert zA|revert R|revert K);refine W (J5 (od dz) @c1 @c2 @c3 @cN) (JX h1 ld ig bA bW hz oG hk ya0 ya2 yc0 yc2 @AW.aa @aP.eq_1 @cZ) (J1 ?_)<;>unhygienic intros
           all_goals first|exact AW.le.refl _|simp [dN,bH,bO,cH,bI,bM]
     · have BS:rb=false:=by rw [←hrb];simp [yb0]
       subst BS
       revert hw;(repeat first|clear hw|revert hc|revert zn|revert zA|revert R|revert K);refine W (J5 (od dz) @c1 @c2 @c3 @cN) (Dz h1 ld ig bA bW hz oG hk ya0 ya2 yb0 @AW.aa @aP.eq_1 @cZ) (J1 ?_)<;>unhygienic intros
       all_goals first|exact AW.le.refl _|simp [dN,bH,bO,cH,bI,bM]
   | true=>
     by_cases yb0:b<0
     · have BS:rb=false:=by rw [←hrb];simp;omega
       subst BS
       revert hw;(repeat first|clear hw|revert hc|revert zn|revert zA|revert R|revert K);refine W (J5 (od dz) @c1 @c2 @c3 @cN) (Dz h1 ld ig bA bW hz oG hk ya0 ya2 yb0 @AW.aa @aP.eq_1 @cZ) (J1 ?_)<;>unhygienic intros
       all_goals first|exact AW.le.refl _|simp [dN,bH,bO,cH,bI,bM]
     by_cases yb2:8≤b
     · have BS:rb=false:=by rw [←hrb];simp;omega
       subst BS
       revert hw;(repeat first|clear hw|revert hc|revert zn|revert zA|revert R|revert K);refine W (J5 (od dz) @c1 @c2 @c3 @cN) (JX h1 ld ig bA bW hz oG hk ya0 ya2 yb0 yb2 @AW.aa @aP.eq_1 @cZ) (J1 ?_)<;>unhygienic intros
       all_goals first|exact AW.le.refl _|simp [dN,bH,bO,cH,bI,bM]
     have BS:rb=true:=by rw [←hrb];simp;omega
     subst BS
     cases uc with
     | false=>
       by_cases yc0:c=0
       · have pD:rc=true:=by rw [←ur];simp [yc0]
         subst pD
         subst yc0
         cases no with
         | false=>
           revert hw;(repeat first|clear hw|revert hc|revert zn|revert zA|revert R|revert K);refine W (J5 (od dz) @c1 @c2 @c3 @cN) (JX h1 ld ig bA bW hz oG hk ya0 ya2 yb0 yb2 @AW.aa @aP.eq_1 @cZ) (J1 ?_)<;>unhygienic intros
           all_goals first|exact AW.le.refl _|simp [dN,bH,bO,cH,bI,bM]
         | true=>
           revert hw;(repeat first|clear hw|revert hc|revert zn|revert zA|revert R|revert K);refine W (J5 (od dz) @c1 @c2 @c3 @cN) (JX h1 ld ig bA bW hz oG hk ya0 ya2 yb0 yb2 @AW.aa @aP.eq_1 @cZ) (J1 ?_)<;>unhygienic intros
           all_goals first|exact AW.le.refl _|simp [dN,bH,bO,cH,bI,bM]
       · have pD:rc=false:=by rw [←ur];simp [yc0]
         subst pD
         revert hw;(repeat first|clear hw|revert hc|revert zn|revert zA|revert R|revert K);refine W (J5 (od dz) @c1 @c2 @c3 @cN) (XI h1 ld ig bA bW hz oG hk ya0 ya2 yb0 yb2 yc0 @AW.aa @aP.eq_1 @cZ) (J1 ?_)<;>unhygienic intros
         all_goals first|exact AW.le.refl _|simp [dN,bH,bO,cH,bI,bM]
     | true=>
       by_cases yc0:c<0
       · have pD:rc=false:=by rw [←ur];simp;omega
         subst pD
         revert hw;(repeat first|clear hw|revert hc|revert zn|revert zA|revert R|revert K);refine W (J5 (od dz) @c1 @c2 @c3 @cN) (XI h1 ld ig bA bW hz oG hk ya0 ya2 yb0 yb2 yc0 @AW.aa @aP.eq_1 @cZ) (J1 ?_)<;>unhygienic intros
         all_goals first|exact AW.le.refl _|simp [dN,bH,bO,cH,bI,bM]
       by_cases yc2:8≤c
       · have pD:rc=false:=by rw [←ur];simp;omega
         subst pD
         revert hw;(repeat first|clear hw|revert hc|revert zn|revert zA|revert R|revert K);refine W (J5 (od dz) @c1 @c2 @c3 @cN) (Wg h1 ld ig bA bW hz oG hk ya0 ya2 yb0 yb2 yc0 yc2 @AW.aa @aP.eq_1 @cZ) (J1 ?_)<;>unhygienic intros
         all_goals first|exact AW.le.refl _|simp [dN,bH,bO,cH,bI,bM]
       have pD:rc=true:=by rw [←ur];simp;omega
       subst pD
       cases no with
       | false=>
         revert hw;(repeat first|clear hw|revert hc|revert zn|revert zA|revert R|revert K);refine W (J5 (od dz) @c1 @c2 @c3 @cN) (Wg h1 ld ig bA bW hz oG hk ya0 ya2 yb0 yb2 yc0 yc2 @AW.aa @aP.eq_1 @cZ) (J1 ?_)<;>unhygienic intros
         all_goals first|exact AW.le.refl _|simp [dN,bH,bO,cH,bI,bM]
       | true=>
         revert hw;(repeat first|clear hw|revert hc|revert zn|revert zA|revert R|revert K);refine W (J5 (od dz) @c1 @c2 @c3 @cN) (Wg h1 ld ig bA bW hz oG hk ya0 ya2 yb0 yb2 yc0 yc2 @AW.aa @aP.eq_1 @cZ) (J1 ?_)<;>unhygienic intros
         all_goals first|exact AW.le.refl _|simp [dN,bH,bO,cH,bI,bM]
end
end Go.Stx
