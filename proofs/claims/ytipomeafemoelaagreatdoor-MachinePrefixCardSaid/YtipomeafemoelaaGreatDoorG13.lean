/-
 The program's check of an instruction.
-/
import Derived.Test.YtipomeafemoelaaGreatDoorG12
import Derived.Test.YtipomeafemoelaaGreatDoorF4
set_option linter.unusedVariables false
set_option linter.unusedSimpArgs false
set_option linter.unusedSectionVars false
set_option maxRecDepth 20000
set_option maxHeartbeats 4000000
namespace Go.Stx
open Go Go.Proofs
attribute [local irreducible] TW bA cM aS ax aH cJ de
section
namespace TGFbI
theorem mr [Gl] {A:AW} {L:List It} {T:Prop} (hS:ah A L) (hw:A.Wf) (h':(aR A L/\bj A L/\bN L)=T:=by first|(dsimp only [aa,ag,aR,bj,bN,eE];done)|exact rfl):T:=h'▸hS.eD hw
end TGFbI
open TGFbI
open Go.RowKit
variable [Gl]
def jE:List (List UInt8×List UInt8):=[([110,111,112],[]),([99,111,110,115,116],[65,73]),([109,111,118,101],[65,66]),([],[65,66,67]),([106,117,109,112],[73]),([122,101,114,111],[65,73]),
 ([110,111,110,122,101,114,111],[65,73]),([98,101,103,105,110],[73]),([99,111,109,109,105,116],[]),([97,98,111,114,116],[]),([116,114,101,97,100],[65,66,73]),([116,119,114,105,116,101],[65,66,73]),
 ([112,114,101,97,100],[65,66,73]),([112,119,114,105,116,101],[65,66,73]),([97,108,108,111,99],[65,73]),([102,114,101,101],[65]),([102,101,110,99,101],[]),([111,117,116,99,111,109,101],[65])]
def fW:List Value:=jE.flatMap λx=>[.string (bs x.1),.string (bs x.2)]
def jY (k:Nat):List UInt8:=(jE.getD k ([],[])).2
structure FOK [Gl]:Prop where
 n:Gl.N=4
 ok:Gl.ok 0=true
 Zs:∃e fr,Gl.B 0=some (.cells fW.toArray e fr)
theorem Ol {k:Nat} (hk:k<18):fW[k*2+1]? = some (.string (bs (jY k))):=by
 have h:((List.range 18).all λk=>match fW[k*2+1]? with|some (.string s)=>decide (s.data.toList=jY k)|_=>false)=true:=by kernel_rfl
 have:=List.all_eq_true.1 h k (List.mem_range.2 hk);cases hc:fW[k*2+1]? with
 | none=>rw [hc] at this;cases this
 | some v=>
   rw [hc] at this;cases v with
   | string s=>
     have h2:s.data.toList=jY k:=by simpa using this
     rw [<-h2];rfl
   | _=>cases this
theorem caps {k:Nat} (hk:k<18):decide (0<=Lib.indexByte (jY k) 65)=lF k/\decide (0<=Lib.indexByte (jY k) 66)=jT k/\decide (0<=Lib.indexByte (jY k) 67)=lE k:=by
 have h:((List.range 18).all λk=>(decide (0<=Lib.indexByte (jY k) 65) == lF k) && (decide (0<=Lib.indexByte (jY k) 66) == jT k) && (decide (0<=Lib.indexByte (jY k) 67) == lE k))=true:=by kernel_rfl
 have:=List.all_eq_true.1 h k (List.mem_range.2 hk);simp only [Bool.and_eq_true,beq_iff_eq] at this;exact⟨this.1.1,this.1.2,this.2⟩
theorem rx (s:List UInt8) (c:UInt8) (A:AW):uQ Tryz.prog 154 [.string (bs s),.string ⟨#[c]⟩] A (.bool (decide (0<=Lib.indexByte s c))):=by
 refine⟨by kernel_rfl,rfl,λm w go hs hl=>?_⟩;have e2:go = #[.string (bs s),.string ⟨#[c]⟩]:=by
  apply Array.ext';obtain⟨v1,l1,h1,h2,h3⟩:=hl.lM;obtain⟨v2,l2,rfl,h4,h5⟩:=h3.lM;rw [h1,h2.mT rfl,h4.mT rfl,h5.pj]
 subst e2;refine(Tryz.strings_Contains_one (bs s) c w).mono ?_;rintro e w' ⟨rfl,rfl⟩;exact⟨rfl,⟨λ_ _=>rfl,rfl,rfl,rfl,Nat.le_refl _⟩⟩
theorem IB (x:aZ) (A:AW):ax Tryz.prog 155 [.agg (au x).toArray] A (λu A'=>u=.bool (eT x.op x.bQ)/\A=A'):=by
 refine ax.qt (V:=.bool (eT x.op x.bQ)) (by simp) (λhw=>?_) (by kernel_rfl);refine aF Tryz.func155 λ_=>?_;obtain⟨op,a,b,c,bQ⟩:=x;by_cases o1:op=1
 . subst o1;have he:eT 1 bQ=true:=(by unfold eT;rfl);rw [he];refine W cd (J2 @AW.af @au.eq_1) ?_<;>intros
   all_goals first|exact AW.le.alloc A _|(simp [aL,aQ,bm,aK,aN]<;>exact AW.le.alloc A _)
 by_cases mH:op=10
 . subst mH;have he:eT 10 bQ=true:=(by unfold eT;rfl);rw [he];refine W cd (J3 o1 @AW.af @au.eq_1) ?_<;>intros
   all_goals first|exact AW.le.alloc A _|(simp [aL,aQ,bm,aK,aN]<;>exact AW.le.alloc A _)
 by_cases o11:op=11
 . subst o11;have he:eT 11 bQ=true:=(by unfold eT;rfl);rw [he];refine W cd (J4 o1 mH @AW.af @au.eq_1) ?_<;>intros
   all_goals first|exact AW.le.alloc A _|(simp [aL,aQ,bm,aK,aN]<;>exact AW.le.alloc A _)
 by_cases o12:op=12
 . subst o12;have he:eT 12 bQ=true:=(by unfold eT;rfl);rw [he];refine W cd (J5 o1 mH o11 @AW.af @au.eq_1) ?_<;>intros
   all_goals first|exact AW.le.alloc A _|(simp [aL,aQ,bm,aK,aN]<;>exact AW.le.alloc A _)
 by_cases o13:op=13
 . subst o13;have he:eT 13 bQ=true:=(by unfold eT;rfl);rw [he];refine W cd (J6 o1 mH o11 o12 @AW.af @au.eq_1) ?_<;>intros
   all_goals first|exact AW.le.alloc A _|(simp [aL,aQ,bm,aK,aN]<;>exact AW.le.alloc A _)
 by_cases o3:op=3
 . subst o3;have he:eT 3 bQ=(decide (0<=bQ) && decide (bQ<22)):=(by unfold eT;rfl);rw [he];by_cases q1:0<=bQ
   . by_cases q2:bQ<22
     . skip
       refine W cd (J9 o1 mH o11 o12 o13 q1 q2 @AW.af @au.eq_1) ?_<;>intros
       all_goals first|exact AW.le.alloc A _|(simp [aL,aQ,bm,aK,aN,q1,q2]<;>exact AW.le.alloc A _)
     skip
     refine W cd (J9 o1 mH o11 o12 o13 q1 q2 @AW.af @au.eq_1) ?_<;>intros
     all_goals first|exact AW.le.alloc A _|(simp [aL,aQ,bm,aK,aN,q1,q2]<;>exact AW.le.alloc A _)
   skip
   refine W cd (J8 o1 mH o11 o12 o13 q1 @AW.af @au.eq_1) ?_<;>intros
   all_goals first|exact AW.le.alloc A _|(simp [aL,aQ,bm,aK,aN,q1]<;>exact AW.le.alloc A _)
 by_cases o4:op=4
 . subst o4;have he:eT 4 bQ=(decide (0<=bQ) && decide (bQ<=64)):=(by unfold eT;rfl);rw [he];by_cases q1:0<=bQ
   . by_cases q2:bQ<=64
     . skip
       refine W cd (Bs o1 mH o11 o12 o13 o3 q1 q2 @AW.af @au.eq_1) ?_<;>intros
       all_goals first|exact AW.le.alloc A _|(simp [aL,aQ,bm,aK,aN,q1,q2]<;>exact AW.le.alloc A _)
     skip
     refine W cd (Bs o1 mH o11 o12 o13 o3 q1 q2 @AW.af @au.eq_1) ?_<;>intros
     all_goals first|exact AW.le.alloc A _|(simp [aL,aQ,bm,aK,aN,q1,q2]<;>exact AW.le.alloc A _)
   skip
   refine W cd (J9 o1 mH o11 o12 o13 o3 q1 @AW.af @au.eq_1) ?_<;>intros
   all_goals first|exact AW.le.alloc A _|(simp [aL,aQ,bm,aK,aN,q1]<;>exact AW.le.alloc A _)
 by_cases o5:op=5
 . subst o5;have he:eT 5 bQ=(decide (0<=bQ) && decide (bQ<=64)):=(by unfold eT;rfl);rw [he];by_cases q1:0<=bQ
   . by_cases q2:bQ<=64
     . skip
       refine W cd (HE o1 mH o11 o12 o13 o3 o4 q1 q2 @AW.af @au.eq_1) ?_<;>intros
       all_goals first|exact AW.le.alloc A _|(simp [aL,aQ,bm,aK,aN,q1,q2]<;>exact AW.le.alloc A _)
     skip
     refine W cd (HE o1 mH o11 o12 o13 o3 o4 q1 q2 @AW.af @au.eq_1) ?_<;>intros
     all_goals first|exact AW.le.alloc A _|(simp [aL,aQ,bm,aK,aN,q1,q2]<;>exact AW.le.alloc A _)
   skip
   refine W cd (Bs o1 mH o11 o12 o13 o3 o4 q1 @AW.af @au.eq_1) ?_<;>intros
   all_goals first|exact AW.le.alloc A _|(simp [aL,aQ,bm,aK,aN,q1]<;>exact AW.le.alloc A _)
 by_cases o6:op=6
 . subst o6;have he:eT 6 bQ=(decide (0<=bQ) && decide (bQ<=64)):=(by unfold eT;rfl);rw [he];by_cases q1:0<=bQ
   . by_cases q2:bQ<=64
     . skip
       refine W cd (tA o1 mH o11 o12 o13 o3 o4 o5 q1 q2 @AW.af @au.eq_1) ?_<;>intros
       all_goals first|exact AW.le.alloc A _|(simp [aL,aQ,bm,aK,aN,q1,q2]<;>exact AW.le.alloc A _)
     skip
     refine W cd (tA o1 mH o11 o12 o13 o3 o4 o5 q1 q2 @AW.af @au.eq_1) ?_<;>intros
     all_goals first|exact AW.le.alloc A _|(simp [aL,aQ,bm,aK,aN,q1,q2]<;>exact AW.le.alloc A _)
   skip
   refine W cd (HE o1 mH o11 o12 o13 o3 o4 o5 q1 @AW.af @au.eq_1) ?_<;>intros
   all_goals first|exact AW.le.alloc A _|(simp [aL,aQ,bm,aK,aN,q1]<;>exact AW.le.alloc A _)
 by_cases o7:op=7
 . subst o7;have he:eT 7 bQ=(decide (1<=bQ) && decide (bQ<=8)):=(by unfold eT;rfl);rw [he];by_cases q1:1<=bQ
   . by_cases q2:bQ<=8
     . skip
       refine W cd (mi o1 mH o11 o12 o13 o3 o4 o5 o6 q1 q2 @AW.af @au.eq_1) ?_<;>intros
       all_goals first|exact AW.le.alloc A _|(simp [aL,aQ,bm,aK,aN,q1,q2]<;>exact AW.le.alloc A _)
     skip
     refine W cd (mi o1 mH o11 o12 o13 o3 o4 o5 o6 q1 q2 @AW.af @au.eq_1) ?_<;>intros
     all_goals first|exact AW.le.alloc A _|(simp [aL,aQ,bm,aK,aN,q1,q2]<;>exact AW.le.alloc A _)
   skip
   refine W cd (tA o1 mH o11 o12 o13 o3 o4 o5 o6 q1 @AW.af @au.eq_1) ?_<;>intros
   all_goals first|exact AW.le.alloc A _|(simp [aL,aQ,bm,aK,aN,q1]<;>exact AW.le.alloc A _)
 by_cases o14:op=14
 . subst o14;have he:eT 14 bQ=(decide (0<=bQ) && decide (bQ<4)):=(by unfold eT;rfl);rw [he];by_cases q1:0<=bQ
   . by_cases q2:bQ<4
     . skip
       refine W cd (vO o1 mH o11 o12 o13 o3 o4 o5 o6 o7 q1 q2 @AW.af @au.eq_1) ?_<;>intros
       all_goals first|exact AW.le.alloc A _|(simp [aL,aQ,bm,aK,aN,q1,q2]<;>exact AW.le.alloc A _)
     skip
     refine W cd (vO o1 mH o11 o12 o13 o3 o4 o5 o6 o7 q1 q2 @AW.af @au.eq_1) ?_<;>intros
     all_goals first|exact AW.le.alloc A _|(simp [aL,aQ,bm,aK,aN,q1,q2]<;>exact AW.le.alloc A _)
   skip
   refine W cd (mi o1 mH o11 o12 o13 o3 o4 o5 o6 o7 q1 @AW.af @au.eq_1) ?_<;>intros
   all_goals first|exact AW.le.alloc A _|(simp [aL,aQ,bm,aK,aN,q1]<;>exact AW.le.alloc A _)
 have he:eT op bQ=decide (bQ=0):=by
  unfold eT;rw [if_neg (by omega),if_neg o3,if_neg (by omega),if_neg o7,if_neg o14]
 rw [he];by_cases q1:bQ=0
 . skip
   refine W cd (vO o1 mH o11 o12 o13 o3 o4 o5 o6 o7 o14 q1 @AW.af @au.eq_1) ?_<;>intros
   all_goals first|exact AW.le.alloc A _|(simp [aL,aQ,bm,aK,aN,q1]<;>exact AW.le.alloc A _)
 skip
 refine W cd (vO o1 mH o11 o12 o13 o3 o4 o5 o6 o7 o14 q1 @AW.af @au.eq_1) ?_<;>intros
 all_goals first|exact AW.le.alloc A _|(simp [aL,aQ,bm,aK,aN,q1]<;>exact AW.le.alloc A _)
end
section
abbrev dU:List (Nat×Nat):=[(0,0),(1,0),(2,0),(3,0),(4,0),(5,0),(6,0),(7,0),(8,0),(9,2),(10,0)]
namespace TGFbJ
theorem mr [Gl] {A:AW} {L:List It} {T:Prop} (hS:ah A L) (hw:A.Wf) (h':(aR A L/\bj A L/\bN L)=T:=by first|(dsimp only [aa,ag,aR,bj,bN,eE];done)|exact rfl):T:=h'▸hS.eD hw
end TGFbJ
open TGFbJ
section
variable (G1 G2:Gl) (hG:∀g,G1.ok g=true->G2.ok g=true)
include hG
theorem Az {n:Nat} {o:Operand} (h:@wU G1 n o=true):@wU G2 n o=true:=by
 cases o with
 | global g=>exact hG g h
 | _=>exact h
theorem Is {n:Nat} {o:Oper} (h:@mC G1 n o=true):@mC G2 n o=true:=by
 unfold mC at h ⊢;rw [Bool.and_eq_true] at h ⊢;refine⟨?_,h.2⟩;have h1:=h.1;rw [Array.all_eq_true] at h1 ⊢;exact λi hi=>Az G1 G2 hG (h1 i hi)
theorem k9 {n:Nat}:∀{c:Code},@lb G1 n c=true->@lb G2 n c=true
 | .region _ bC _,h=>by
   unfold lb at h ⊢;rw [Array.all_eq_true] at h ⊢;exact λi hi=>Is G1 G2 hG (h i hi)
 | .seq a b,h=>by
   unfold lb at h ⊢;rw [Bool.and_eq_true] at h ⊢;exact⟨k9 h.1,k9 h.2⟩
 | .cond c a b,h=>by
   unfold lb at h ⊢;rw [Bool.and_eq_true,Bool.and_eq_true] at h ⊢;exact⟨⟨Az G1 G2 hG h.1.1,k9 h.1.2⟩,k9 h.2⟩
 | .block _ b,h=>by
   unfold lb at h ⊢;exact k9 h
 | .loop b,h=>by
   unfold lb at h ⊢;exact k9 h
 | .skip,h=>rfl
 | .exit _,h=>rfl
 | .ret,h=>rfl
end
@[reducible] def GlF:Gl:={ B:=λ_=>none,ok:=λg=>g == 0,N:=1,lt:=λg h=>by have:=eq_of_beq h;omega }
variable [Gl]
theorem LF (lZ:Gl.ok 0=true) {fn:Func} {n:Nat} (h:@Jl GlF fn n=true):Jl fn n=true:=by
 have hG:∀g,GlF.ok g=true->Gl.ok g=true:=λg hg=>by
  have:g=0:=eq_of_beq hg;subst this;exact lZ
 unfold Jl at h ⊢;simp only [Bool.and_eq_true] at h ⊢;obtain⟨⟨⟨h1,h2⟩,h3⟩,h4⟩:=h;refine⟨⟨⟨h1,h2⟩,?_⟩,?_⟩;rw [List.all_eq_true] at h3 ⊢;exact λr hr=>h3 r hr;cases hb:fn.body with
 | none=>rw [hb] at h4;exact h4
 | some c=>rw [hb] at h4;exact k9 GlF _ hG h4
theorem dz (a:Fr) (g:Nat):ia a (.global g)=.pointer (some ⟨g,0,none⟩):=rfl
theorem EJ (hF:FOK) (x:aZ) (A:AW):uQ Tryz.prog 105 [.agg (au x).toArray] A (.int .i64 (b8 x)):=by
 refine uQ.Sy rfl ?_;obtain⟨e,fr,hB⟩:=hF.Zs;refine ax.VC (cs:=fW) hF.ok hB (λk v h=>?_) ?_;refine⟨by simpa using h,?_⟩;have h1:fW.all fl=true:=by kernel_rfl
 exact List.all_eq_true.1 h1 v (List.mem_of_getElem? h);generalize A.ro=A0;have bI:(A0.set 0 (some (.cells fW false 1))).bP 0=some fW:=by simp [AW.af]
 have jo:(A0.set 0 (some (.cells fW false 1))).bg 0=some (.cells fW false 1):=by simp
 generalize A0.set 0 (some (.cells fW false 1))=A at bI jo;refine A7 Tryz.func105 rfl (LF hF.ok (by kernel_rfl)) λhw=>?_;have hz:¬0=A.next:=λe=>by have:=hw.lt jo;omega
 have oL:¬A.next=0:=λe=>hz e.symm;obtain⟨op,a,b,c,bQ⟩:=x;by_cases h1:op<0
 . have he:b8 ⟨op,a,b,c,bQ⟩=10:=(by unfold b8;rw [if_pos (.inl h1)]);rw [he];refine W (J1 (od dU)) (J3 h1 @AW.af @au.eq_1) ?_<;>intros
   all_goals simp [aL,aQ,bm,aK,aN]
 by_cases h2:18<=op
 . have he:b8 ⟨op,a,b,c,bQ⟩=10:=(by unfold b8;rw [if_pos (.inr h2)]);rw [he];refine W (J1 (od dU)) (J4 h1 h2 @AW.af @au.eq_1) ?_<;>intros
   all_goals simp [aL,aQ,bm,aK,aN]
 obtain⟨k,rfl⟩:∃k:Nat,op=k:=⟨op.toNat,by omega⟩;have hk:k<18:=by omega
 have ki:¬((18:Int)<=k):=by omega
 obtain⟨l1,l2,l3⟩:=caps hk;have hcell:=Ol hk;have bG:fW.length=36:=by kernel_rfl
 have c1:∀A,ax Tryz.prog 154 [.string (bs (jY k)),.string ((⟨#[65,66,67]⟩:ByteArray).extract 0 1)] A (λu A'=>u=.bool (lF k)/\A=A'):=λA=>by rw [<-l1];exact(rx (jY k) 65 A).call ⟨rfl,rfl⟩
 have c2:∀A,ax Tryz.prog 154 [.string (bs (jY k)),.string ((⟨#[65,66,67]⟩:ByteArray).extract 1 2)] A (λu A'=>u=.bool (jT k)/\A=A'):=λA=>by rw [<-l2];exact(rx (jY k) 66 A).call ⟨rfl,rfl⟩
 have c3:∀A,ax Tryz.prog 154 [.string (bs (jY k)),.string ((⟨#[65,66,67]⟩:ByteArray).extract 2 3)] A (λu A'=>u=.bool (lE k)/\A=A'):=λA=>by rw [<-l3];exact(rx (jY k) 67 A).call ⟨rfl,rfl⟩
 have he:b8 ⟨k,a,b,c,bQ⟩=if (gm a (lF k) && gm b (jT k) && gm c (lE k)) && eT k bQ then 0 else 11:=by unfold b8;rw [if_neg (by simp;omega)]
 rw [he];have cN:=IB ⟨(k:Int),a,b,c,bQ⟩;simp only [au] at cN;generalize eT (k:Int) bQ=no at cN ⊢;generalize lF k=ua at c1 ⊢;generalize jT k=ub at c2 ⊢;generalize lE k=uc at c3 ⊢;generalize JS:gm a ua=ra;generalize hrb:gm b ub=rb;generalize vE:gm c uc=rc;have key:∀(r:Int) (u:Bool),gm r u=(if u then decide (0<=r) && decide (r<8) else decide (r=0)):=λ_ _=>rfl;rw [key] at JS hrb vE;revert hw;(repeat first|clear hw|revert hc|revert R|revert K);refine W (J1 (od dU)) (J4 h1 ki @AW.af @au.eq_1) ?_<;>(unhygienic intros);refine ii 4 ?_;cases ua with
 | false=>
   by_cases ya0:a=0
   . have Sd:ra=true:=(by rw [<-JS];simp [ya0]);subst Sd;subst ya0;cases ub with
     | false=>
       by_cases yb0:b=0
       . have FW:rb=true:=(by rw [<-hrb];simp [yb0]);subst FW;subst yb0;cases uc with
         | false=>
           by_cases yc0:c=0
           . have sf:rc=true:=(by rw [<-vE];simp [yc0]);subst sf;subst yc0;cases no with
             | false=>
               refine W (J5 (od dU) @c1 @c2 @c3 @cN) (HE h1 ki jo hcell bG hz oL hk @AW.af @au.eq_1 @dz) ?_<;>intros
               all_goals first|exact AW.le.refl _|simp [cg,aL,aQ,bm,aK,aN]
             | true=>
               refine W (J5 (od dU) @c1 @c2 @c3 @cN) (HE h1 ki jo hcell bG hz oL hk @AW.af @au.eq_1 @dz) ?_<;>intros
               all_goals first|exact AW.le.refl _|simp [cg,aL,aQ,bm,aK,aN]
           have sf:rc=false:=(by rw [<-vE];simp [yc0]);subst sf;refine W (J5 (od dU) @c1 @c2 @c3 @cN) (tA h1 ki jo hcell bG hz oL hk yc0 @AW.af @au.eq_1 @dz) ?_<;>intros
           all_goals first|exact AW.le.refl _|simp [cg,aL,aQ,bm,aK,aN]
         | true=>
           by_cases yc0:c<0
           . have sf:rc=false:=(by rw [<-vE];simp;omega);subst sf;refine W (J5 (od dU) @c1 @c2 @c3 @cN) (tA h1 ki jo hcell bG hz oL hk yc0 @AW.af @au.eq_1 @dz) ?_<;>intros
             all_goals first|exact AW.le.refl _|simp [cg,aL,aQ,bm,aK,aN]
           by_cases yc2:8<=c
           . have sf:rc=false:=(by rw [<-vE];simp;omega);subst sf;refine W (J5 (od dU) @c1 @c2 @c3 @cN) (mi h1 ki jo hcell bG hz oL hk yc0 yc2 @AW.af @au.eq_1 @dz) ?_<;>intros
             all_goals first|exact AW.le.refl _|simp [cg,aL,aQ,bm,aK,aN]
           have sf:rc=true:=(by rw [<-vE];simp;omega);subst sf;cases no with
           | false=>
             refine W (J5 (od dU) @c1 @c2 @c3 @cN) (mi h1 ki jo hcell bG hz oL hk yc0 yc2 @AW.af @au.eq_1 @dz) ?_<;>intros
             all_goals first|exact AW.le.refl _|simp [cg,aL,aQ,bm,aK,aN]
           | true=>
             refine W (J5 (od dU) @c1 @c2 @c3 @cN) (mi h1 ki jo hcell bG hz oL hk yc0 yc2 @AW.af @au.eq_1 @dz) ?_<;>intros
             all_goals first|exact AW.le.refl _|simp [cg,aL,aQ,bm,aK,aN]
       have FW:rb=false:=(by rw [<-hrb];simp [yb0]);subst FW;refine W (J5 (od dU) @c1 @c2 @c3 @cN) (tA h1 ki jo hcell bG hz oL hk yb0 @AW.af @au.eq_1 @dz) ?_<;>intros
       all_goals first|exact AW.le.refl _|simp [cg,aL,aQ,bm,aK,aN]
     | true=>
       by_cases yb0:b<0
       . have FW:rb=false:=(by rw [<-hrb];simp;omega);subst FW;refine W (J5 (od dU) @c1 @c2 @c3 @cN) (tA h1 ki jo hcell bG hz oL hk yb0 @AW.af @au.eq_1 @dz) ?_<;>intros
         all_goals first|exact AW.le.refl _|simp [cg,aL,aQ,bm,aK,aN]
       by_cases yb2:8<=b
       . have FW:rb=false:=(by rw [<-hrb];simp;omega);subst FW;refine W (J5 (od dU) @c1 @c2 @c3 @cN) (mi h1 ki jo hcell bG hz oL hk yb0 yb2 @AW.af @au.eq_1 @dz) ?_<;>intros
         all_goals first|exact AW.le.refl _|simp [cg,aL,aQ,bm,aK,aN]
       have FW:rb=true:=(by rw [<-hrb];simp;omega);subst FW;cases uc with
       | false=>
         by_cases yc0:c=0
         . have sf:rc=true:=(by rw [<-vE];simp [yc0]);subst sf;subst yc0;cases no with
           | false=>
             refine W (J5 (od dU) @c1 @c2 @c3 @cN) (mi h1 ki jo hcell bG hz oL hk yb0 yb2 @AW.af @au.eq_1 @dz) ?_<;>intros
             all_goals first|exact AW.le.refl _|simp [cg,aL,aQ,bm,aK,aN]
           | true=>
             refine W (J5 (od dU) @c1 @c2 @c3 @cN) (mi h1 ki jo hcell bG hz oL hk yb0 yb2 @AW.af @au.eq_1 @dz) ?_<;>intros
             all_goals first|exact AW.le.refl _|simp [cg,aL,aQ,bm,aK,aN]
         have sf:rc=false:=(by rw [<-vE];simp [yc0]);subst sf;refine W (J5 (od dU) @c1 @c2 @c3 @cN) (vO h1 ki jo hcell bG hz oL hk yb0 yb2 yc0 @AW.af @au.eq_1 @dz) ?_<;>intros
         all_goals first|exact AW.le.refl _|simp [cg,aL,aQ,bm,aK,aN]
       | true=>
         by_cases yc0:c<0
         . have sf:rc=false:=(by rw [<-vE];simp;omega);subst sf;refine W (J5 (od dU) @c1 @c2 @c3 @cN) (vO h1 ki jo hcell bG hz oL hk yb0 yb2 yc0 @AW.af @au.eq_1 @dz) ?_<;>intros
           all_goals first|exact AW.le.refl _|simp [cg,aL,aQ,bm,aK,aN]
         by_cases yc2:8<=c
         . have sf:rc=false:=(by rw [<-vE];simp;omega);subst sf;refine W (J5 (od dU) @c1 @c2 @c3 @cN) (O4 h1 ki jo hcell bG hz oL hk yb0 yb2 yc0 yc2 @AW.af @au.eq_1 @dz) ?_<;>intros
           all_goals first|exact AW.le.refl _|simp [cg,aL,aQ,bm,aK,aN]
         have sf:rc=true:=(by rw [<-vE];simp;omega);subst sf;cases no with
         | false=>
           refine W (J5 (od dU) @c1 @c2 @c3 @cN) (O4 h1 ki jo hcell bG hz oL hk yb0 yb2 yc0 yc2 @AW.af @au.eq_1 @dz) ?_<;>intros
           all_goals first|exact AW.le.refl _|simp [cg,aL,aQ,bm,aK,aN]
         | true=>
           refine W (J5 (od dU) @c1 @c2 @c3 @cN) (O4 h1 ki jo hcell bG hz oL hk yb0 yb2 yc0 yc2 @AW.af @au.eq_1 @dz) ?_<;>intros
           all_goals first|exact AW.le.refl _|simp [cg,aL,aQ,bm,aK,aN]
   have Sd:ra=false:=(by rw [<-JS];simp [ya0]);subst Sd;refine W (J5 (od dU) @c1 @c2 @c3 @cN) (tA h1 ki jo hcell bG hz oL hk ya0 @AW.af @au.eq_1 @dz) ?_<;>intros
   all_goals first|exact AW.le.refl _|simp [cg,aL,aQ,bm,aK,aN]
 | true=>
   by_cases ya0:a<0
   . have Sd:ra=false:=(by rw [<-JS];simp;omega);subst Sd;refine W (J5 (od dU) @c1 @c2 @c3 @cN) (tA h1 ki jo hcell bG hz oL hk ya0 @AW.af @au.eq_1 @dz) ?_<;>intros
     all_goals first|exact AW.le.refl _|simp [cg,aL,aQ,bm,aK,aN]
   by_cases ya2:8<=a
   . have Sd:ra=false:=(by rw [<-JS];simp;omega);subst Sd;refine W (J5 (od dU) @c1 @c2 @c3 @cN) (mi h1 ki jo hcell bG hz oL hk ya0 ya2 @AW.af @au.eq_1 @dz) ?_<;>intros
     all_goals first|exact AW.le.refl _|simp [cg,aL,aQ,bm,aK,aN]
   have Sd:ra=true:=(by rw [<-JS];simp;omega);subst Sd;cases ub with
   | false=>
     by_cases yb0:b=0
     . have FW:rb=true:=(by rw [<-hrb];simp [yb0]);subst FW;subst yb0;cases uc with
       | false=>
         by_cases yc0:c=0
         . have sf:rc=true:=(by rw [<-vE];simp [yc0]);subst sf;subst yc0;cases no with
           | false=>
             refine W (J5 (od dU) @c1 @c2 @c3 @cN) (mi h1 ki jo hcell bG hz oL hk ya0 ya2 @AW.af @au.eq_1 @dz) ?_<;>intros
             all_goals first|exact AW.le.refl _|simp [cg,aL,aQ,bm,aK,aN]
           | true=>
             refine W (J5 (od dU) @c1 @c2 @c3 @cN) (mi h1 ki jo hcell bG hz oL hk ya0 ya2 @AW.af @au.eq_1 @dz) ?_<;>intros
             all_goals first|exact AW.le.refl _|simp [cg,aL,aQ,bm,aK,aN]
         have sf:rc=false:=(by rw [<-vE];simp [yc0]);subst sf;refine W (J5 (od dU) @c1 @c2 @c3 @cN) (vO h1 ki jo hcell bG hz oL hk ya0 ya2 yc0 @AW.af @au.eq_1 @dz) ?_<;>intros
         all_goals first|exact AW.le.refl _|simp [cg,aL,aQ,bm,aK,aN]
       | true=>
         by_cases yc0:c<0
         . have sf:rc=false:=(by rw [<-vE];simp;omega);subst sf;refine W (J5 (od dU) @c1 @c2 @c3 @cN) (vO h1 ki jo hcell bG hz oL hk ya0 ya2 yc0 @AW.af @au.eq_1 @dz) ?_<;>intros
           all_goals first|exact AW.le.refl _|simp [cg,aL,aQ,bm,aK,aN]
         by_cases yc2:8<=c
         . have sf:rc=false:=(by rw [<-vE];simp;omega);subst sf;refine W (J5 (od dU) @c1 @c2 @c3 @cN) (O4 h1 ki jo hcell bG hz oL hk ya0 ya2 yc0 yc2 @AW.af @au.eq_1 @dz) ?_<;>intros
           all_goals first|exact AW.le.refl _|simp [cg,aL,aQ,bm,aK,aN]
         have sf:rc=true:=(by rw [<-vE];simp;omega);subst sf;cases no with
         | false=>
           refine W (J5 (od dU) @c1 @c2 @c3 @cN) (O4 h1 ki jo hcell bG hz oL hk ya0 ya2 yc0 yc2 @AW.af @au.eq_1 @dz) ?_<;>intros
           all_goals first|exact AW.le.refl _|simp [cg,aL,aQ,bm,aK,aN]
         | true=>
           refine W (J5 (od dU) @c1 @c2 @c3 @cN) (O4 h1 ki jo hcell bG hz oL hk ya0 ya2 yc0 yc2 @AW.af @au.eq_1 @dz) ?_<;>intros
           all_goals first|exact AW.le.refl _|simp [cg,aL,aQ,bm,aK,aN]
     have FW:rb=false:=(by rw [<-hrb];simp [yb0]);subst FW;refine W (J5 (od dU) @c1 @c2 @c3 @cN) (vO h1 ki jo hcell bG hz oL hk ya0 ya2 yb0 @AW.af @au.eq_1 @dz) ?_<;>intros
     all_goals first|exact AW.le.refl _|simp [cg,aL,aQ,bm,aK,aN]
   | true=>
     by_cases yb0:b<0
     . have FW:rb=false:=(by rw [<-hrb];simp;omega);subst FW;refine W (J5 (od dU) @c1 @c2 @c3 @cN) (vO h1 ki jo hcell bG hz oL hk ya0 ya2 yb0 @AW.af @au.eq_1 @dz) ?_<;>intros
       all_goals first|exact AW.le.refl _|simp [cg,aL,aQ,bm,aK,aN]
     by_cases yb2:8<=b
     . have FW:rb=false:=(by rw [<-hrb];simp;omega);subst FW;refine W (J5 (od dU) @c1 @c2 @c3 @cN) (O4 h1 ki jo hcell bG hz oL hk ya0 ya2 yb0 yb2 @AW.af @au.eq_1 @dz) ?_<;>intros
       all_goals first|exact AW.le.refl _|simp [cg,aL,aQ,bm,aK,aN]
     have FW:rb=true:=(by rw [<-hrb];simp;omega);subst FW;cases uc with
     | false=>
       by_cases yc0:c=0
       . have sf:rc=true:=(by rw [<-vE];simp [yc0]);subst sf;subst yc0;cases no with
         | false=>
           refine W (J5 (od dU) @c1 @c2 @c3 @cN) (O4 h1 ki jo hcell bG hz oL hk ya0 ya2 yb0 yb2 @AW.af @au.eq_1 @dz) ?_<;>intros
           all_goals first|exact AW.le.refl _|simp [cg,aL,aQ,bm,aK,aN]
         | true=>
           refine W (J5 (od dU) @c1 @c2 @c3 @cN) (O4 h1 ki jo hcell bG hz oL hk ya0 ya2 yb0 yb2 @AW.af @au.eq_1 @dz) ?_<;>intros
           all_goals first|exact AW.le.refl _|simp [cg,aL,aQ,bm,aK,aN]
       have sf:rc=false:=(by rw [<-vE];simp [yc0]);subst sf;refine W (J5 (od dU) @c1 @c2 @c3 @cN) (JN h1 ki jo hcell bG hz oL hk ya0 ya2 yb0 yb2 yc0 @AW.af @au.eq_1 @dz) ?_<;>intros
       all_goals first|exact AW.le.refl _|simp [cg,aL,aQ,bm,aK,aN]
     | true=>
       by_cases yc0:c<0
       . have sf:rc=false:=(by rw [<-vE];simp;omega);subst sf;refine W (J5 (od dU) @c1 @c2 @c3 @cN) (JN h1 ki jo hcell bG hz oL hk ya0 ya2 yb0 yb2 yc0 @AW.af @au.eq_1 @dz) ?_<;>intros
         all_goals first|exact AW.le.refl _|simp [cg,aL,aQ,bm,aK,aN]
       by_cases yc2:8<=c
       . have sf:rc=false:=(by rw [<-vE];simp;omega);subst sf;refine W (J5 (od dU) @c1 @c2 @c3 @cN) (TS h1 ki jo hcell bG hz oL hk ya0 ya2 yb0 yb2 yc0 yc2 @AW.af @au.eq_1 @dz) ?_<;>intros
         all_goals first|exact AW.le.refl _|simp [cg,aL,aQ,bm,aK,aN]
       have sf:rc=true:=(by rw [<-vE];simp;omega);subst sf;cases no with
       | false=>
         refine W (J5 (od dU) @c1 @c2 @c3 @cN) (TS h1 ki jo hcell bG hz oL hk ya0 ya2 yb0 yb2 yc0 yc2 @AW.af @au.eq_1 @dz) ?_<;>intros
         all_goals first|exact AW.le.refl _|simp [cg,aL,aQ,bm,aK,aN]
       | true=>
         refine W (J5 (od dU) @c1 @c2 @c3 @cN) (TS h1 ki jo hcell bG hz oL hk ya0 ya2 yb0 yb2 yc0 yc2 @AW.af @au.eq_1 @dz) ?_<;>intros
         all_goals first|exact AW.le.refl _|simp [cg,aL,aQ,bm,aK,aN]
end
section
namespace TGFbK
theorem mr [Gl] {A:AW} {L:List It} {T:Prop} (hS:ah A L) (hw:A.Wf) (h':(aR A L/\bj A L/\bN L)=T:=by first|(dsimp only [aa,ag,aR,bj,bN,eE];done)|exact rfl):T:=h'▸hS.eD hw
end TGFbK
open TGFbK
variable [Gl]
theorem rl (hF:FOK) (x:aZ) (A:AW):ax Tryz.prog 105 [.agg (au x).toArray] A (λu A'=>u=.int .i64 (b8 x)/\A=A'):=(EJ hF x A).call ⟨rfl,rfl⟩
theorem EI (hF:FOK) (x:aZ) (A:AW):ax Tryz.prog 106 [.agg (au x).toArray] A (λu A'=>u=.int .i64 (bp x)/\A=A'):=by
 refine ax.qt (V:=.int .i64 (bp x)) (by simp) (λhw=>?_) (by kernel_rfl);refine aF Tryz.func106 λ_=>?_;obtain⟨op,a,b,c,bQ⟩:=x;have kO:=λA=>rl hF ⟨op,a,b,c,bQ⟩ A;simp only [au] at kO;by_cases h0:b8 ⟨op,a,b,c,bQ⟩=0
 . rw [h0] at kO;by_cases o8:op=8
   . subst o8;have he:bp ⟨8,a,b,c,bQ⟩=1:=(by unfold bp;rw [if_pos h0];rfl);rw [he];refine W (J1 @kO) (J2 @AW.af @au.eq_1) ?_<;>intros
     all_goals first|exact AW.le.alloc A _|(simp [aL,aQ,bm,aK,aN]<;>exact AW.le.alloc A _)
   by_cases o9:op=9
   . subst o9;have he:bp ⟨9,a,b,c,bQ⟩=1:=(by unfold bp;rw [if_pos h0];rfl);rw [he];refine W (J1 @kO) (J3 o8 @AW.af @au.eq_1) ?_<;>intros
     all_goals first|exact AW.le.alloc A _|(simp [aL,aQ,bm,aK,aN]<;>exact AW.le.alloc A _)
   by_cases mH:op=10
   . subst mH;have he:bp ⟨10,a,b,c,bQ⟩=1:=(by unfold bp;rw [if_pos h0];rfl);rw [he];refine W (J1 @kO) (J4 o8 o9 @AW.af @au.eq_1) ?_<;>intros
     all_goals first|exact AW.le.alloc A _|(simp [aL,aQ,bm,aK,aN]<;>exact AW.le.alloc A _)
   by_cases o11:op=11
   . subst o11;have he:bp ⟨11,a,b,c,bQ⟩=1:=(by unfold bp;rw [if_pos h0];rfl);rw [he];refine W (J1 @kO) (J5 o8 o9 mH @AW.af @au.eq_1) ?_<;>intros
     all_goals first|exact AW.le.alloc A _|(simp [aL,aQ,bm,aK,aN]<;>exact AW.le.alloc A _)
   by_cases o14:op=14
   . subst o14;have he:bp ⟨14,a,b,c,bQ⟩=1:=(by unfold bp;rw [if_pos h0];rfl);rw [he];refine W (J1 @kO) (J6 o8 o9 mH o11 @AW.af @au.eq_1) ?_<;>intros
     all_goals first|exact AW.le.alloc A _|(simp [aL,aQ,bm,aK,aN]<;>exact AW.le.alloc A _)
   by_cases o15:op=15
   . subst o15;have he:bp ⟨15,a,b,c,bQ⟩=1:=(by unfold bp;rw [if_pos h0];rfl);rw [he];refine W (J1 @kO) (J7 o8 o9 mH o11 o14 @AW.af @au.eq_1) ?_<;>intros
     all_goals first|exact AW.le.alloc A _|(simp [aL,aQ,bm,aK,aN]<;>exact AW.le.alloc A _)
   by_cases o7:op=7
   . subst o7;have he:bp ⟨7,a,b,c,bQ⟩=2:=(by unfold bp;rw [if_pos h0];rfl);rw [he];refine W (J1 @kO) (J8 o8 o9 mH o11 o14 o15 @AW.af @au.eq_1) ?_<;>intros
     all_goals first|exact AW.le.alloc A _|(simp [aL,aQ,bm,aK,aN]<;>exact AW.le.alloc A _)
   by_cases o12:op=12
   . subst o12;have he:bp ⟨12,a,b,c,bQ⟩=2:=(by unfold bp;rw [if_pos h0];rfl);rw [he];refine W (J1 @kO) (J9 o8 o9 mH o11 o14 o15 o7 @AW.af @au.eq_1) ?_<;>intros
     all_goals first|exact AW.le.alloc A _|(simp [aL,aQ,bm,aK,aN]<;>exact AW.le.alloc A _)
   by_cases o13:op=13
   . subst o13;have he:bp ⟨13,a,b,c,bQ⟩=2:=(by unfold bp;rw [if_pos h0];rfl);rw [he];refine W (J1 @kO) (Bs o8 o9 mH o11 o14 o15 o7 o12 @AW.af @au.eq_1) ?_<;>intros
     all_goals first|exact AW.le.alloc A _|(simp [aL,aQ,bm,aK,aN]<;>exact AW.le.alloc A _)
   by_cases o16:op=16
   . subst o16;have he:bp ⟨16,a,b,c,bQ⟩=2:=(by unfold bp;rw [if_pos h0];rfl);rw [he];refine W (J1 @kO) (HE o8 o9 mH o11 o14 o15 o7 o12 o13 @AW.af @au.eq_1) ?_<;>intros
     all_goals first|exact AW.le.alloc A _|(simp [aL,aQ,bm,aK,aN]<;>exact AW.le.alloc A _)
   by_cases o17:op=17
   . subst o17;have he:bp ⟨17,a,b,c,bQ⟩=2:=(by unfold bp;rw [if_pos h0];rfl);rw [he];refine W (J1 @kO) (tA o8 o9 mH o11 o14 o15 o7 o12 o13 o16 @AW.af @au.eq_1) ?_<;>intros
     all_goals first|exact AW.le.alloc A _|(simp [aL,aQ,bm,aK,aN]<;>exact AW.le.alloc A _)
   have he:bp ⟨op,a,b,c,bQ⟩=0:=(by unfold bp;rw [if_pos h0];dsimp only;rw [if_neg (by omega),if_neg (by omega)]);rw [he];refine W (J1 @kO) (mi o8 o9 mH o11 o14 o15 o7 o12 o13 o16 o17 @AW.af @au.eq_1) ?_<;>intros
   all_goals first|exact AW.le.alloc A _|(simp [aL,aQ,bm,aK,aN]<;>exact AW.le.alloc A _)
 have he:bp ⟨op,a,b,c,bQ⟩=0:=by unfold bp;rw [if_neg h0]
 rw [he];refine W (J1 @kO) (J3 h0 @AW.af @au.eq_1) ?_<;>intros
 all_goals first|exact AW.le.alloc A _|(simp [aL,aQ,bm,aK,aN]<;>exact AW.le.alloc A _)
theorem EH (hF:FOK) (x:aZ) (A:AW):ax Tryz.prog 156 [.agg (au x).toArray] A (λu A'=>u=.tuple #[.int .i64 ((dW x).getD 0),.bool (dW x).isSome]/\A=A'):=by
 refine ax.qt (V:=.tuple #[.int .i64 ((dW x).getD 0),.bool (dW x).isSome]) (cL.tuple (by simp)) (λhw=>?_) (by kernel_rfl);refine aF Tryz.func156 λ_=>?_;obtain⟨op,a,b,c,bQ⟩:=x;have kO:=λA=>rl hF ⟨op,a,b,c,bQ⟩ A;simp only [au] at kO;by_cases h0:b8 ⟨op,a,b,c,bQ⟩=0
 . rw [h0] at kO;by_cases o4:op=4
   . subst o4;have he:dW ⟨4,a,b,c,bQ⟩=some bQ:=(by unfold dW;rw [if_pos ⟨h0,by dsimp only;omega⟩]);rw [he];refine W (J1 @kO) (J2 @AW.af @au.eq_1) ?_<;>intros
     all_goals first|exact AW.le.alloc A _|(simp [aL,aQ,bm,aK,aN]<;>exact AW.le.alloc A _)
   by_cases o5:op=5
   . subst o5;have he:dW ⟨5,a,b,c,bQ⟩=some bQ:=(by unfold dW;rw [if_pos ⟨h0,by dsimp only;omega⟩]);rw [he];refine W (J1 @kO) (J3 o4 @AW.af @au.eq_1) ?_<;>intros
     all_goals first|exact AW.le.alloc A _|(simp [aL,aQ,bm,aK,aN]<;>exact AW.le.alloc A _)
   by_cases o6:op=6
   . subst o6;have he:dW ⟨6,a,b,c,bQ⟩=some bQ:=(by unfold dW;rw [if_pos ⟨h0,by dsimp only;omega⟩]);rw [he];refine W (J1 @kO) (J4 o4 o5 @AW.af @au.eq_1) ?_<;>intros
     all_goals first|exact AW.le.alloc A _|(simp [aL,aQ,bm,aK,aN]<;>exact AW.le.alloc A _)
   have he:dW ⟨op,a,b,c,bQ⟩=none:=(by unfold dW;rw [if_neg (λh=>by have:=h.2;dsimp only at this;omega)]);rw [he];refine W (J1 @kO) (J5 o4 o5 o6 @AW.af @au.eq_1) ?_<;>intros
   all_goals first|exact AW.le.alloc A _|(simp [aL,aQ,bm,aK,aN]<;>exact AW.le.alloc A _)
 have he:dW ⟨op,a,b,c,bQ⟩=none:=by unfold dW;rw [if_neg (λh=>h0 h.1)]
 rw [he];refine W (J1 @kO) (J3 h0 @AW.af @au.eq_1) ?_<;>intros
 all_goals first|exact AW.le.alloc A _|(simp [aL,aQ,bm,aK,aN]<;>exact AW.le.alloc A _)
def Pm (p:List aZ) (k:Nat) (b:Option Nat) (x:aZ):Int:=match dW x with
 | some n=>if fq p k b n=true then 0 else 42
 | none=>0
theorem H6 (hF:FOK) (v:Value) (p:List aZ) (k:Nat) (b:Option Nat) (A:AW) (h:jS A v p) (hl:p.length<=64) (hk:k<p.length) (hb:∀d,b=some d->d<p.length) :
 ax Tryz.prog 107 [v,.int .i64 k,.int .i64 (fb b)] A (λu A'=>u=.int .i64 (Pm p k b p[k])/\A=A'):=by
 refine aF Tryz.func107 λhw=>?_;obtain⟨o,c,rfl,_⟩:=h.bE;obtain⟨q,bP,uq,bI,eJ,hcell⟩:=h.at hk;subst uq;have fU:IntKind.i64.wrap ((k:Int)+1)=((k+1:Nat):Int):=ai (by omega) (by omega);generalize p[k]=x at hcell;have dy:=um hcell;have cS:=λB=>EH hF x B;have Lr:=@CQ x;have SP:=@sl x;unfold Pm;obtain⟨op,a,b',c',bQ⟩:=x;simp only at SP Lr dy;simp only [au] at hcell cS;generalize dW ⟨op,a,b',c',bQ⟩=sk at cS SP;cases sk with
 | none=>
   repeat' (first|(refine jX λR hR=>?_;simp [ai,ar,bI,dy,hcell,eJ,hk,fU];try simp (disch:=omega) only [if_pos,if_neg,ai,ar])|(refine hR _ _ ?_;clear hR R)|(refine hK _ _ ?_;clear hK K)|refine nx ?_|refine wn λK hK=>?_|simp only [wS]|(refine bD (cS _) ?_;rintro _ _ ⟨rfl,rfl⟩ _ _)|(show cM _ _ _ _ _ _;refine nx ?_)|(refine wc rfl (λhc=>?_) (λhc=>?_)<;>(try simp at hc)<;>(try omega))|(refine ib (λhc=>?_) (λhc=>?_)<;>(try omega)<;>(try simp (disch:=omega) only [if_pos,if_neg])))
   all_goals simp [aL,aQ,bm,aK,aN]
 | some n=>
   obtain⟨rfl,g1,g2⟩:=SP rfl;obtain⟨g3,g4⟩:=Lr g1 g2;obtain⟨m,hm⟩:∃m:Nat,n=m:=⟨n.toNat,by omega⟩;subst hm;have CT:IntKind.i64.wrap (((k+1:Nat):Int)+m)=((k+1+m:Nat):Int):=ai (by omega) (by omega);have vD:IntKind.i64.wrap ((k:Int)+1+m)=((k+1+m:Nat):Int):=ai (by omega) (by omega);have hT:fq p k b (m:Int)=if p.length<k+1+m then false else match (generalizing:=false) b with
    | some b=>decide (k+1+m<=di p b)
    | none=>!gx p k (k+1+m):=by unfold fq;simp only [Int.toNat_natCast];cases b<;>rfl
   simp only [hT];generalize ht:k+1+m=t at CT vD hT;by_cases q1:p.length<t
   . rw [if_pos q1,if_neg (by simp)];refine W (J1 @cS) (J9 bI dy hcell eJ hk fU CT vD q1) ?_<;>intros
     all_goals simp [aL,aQ,bm,aK,aN]
   rw [if_neg q1];cases b with
   | some d=>
     have hd:=hb d rfl;have tq:¬((d:Int)<0):=(by omega);have xh:(0:Int)<=d:=(by omega);have cE:=uz _ p d A h (by omega) hd;simp only [fb];by_cases q2:t<=di p d
     . have q3:¬di p d<t:=(by omega);rw [if_pos (by simp [q2])];refine W (J2 @cS @cE) (mi bI dy hcell eJ hk fU CT vD q1 q2 q3 tq xh) ?_<;>intros
       all_goals simp [aL,aQ,bm,aK,aN]
     have q3:di p d<t:=(by omega);rw [if_neg (by simp [q3])];refine W (J2 @cS @cE) (mi bI dy hcell eJ hk fU CT vD q1 q2 q3 tq xh) ?_<;>intros
     all_goals simp [aL,aQ,bm,aK,aN]
   | none=>
     have cI:=NV _ p k t A h (by omega) hk (by omega);simp only [fb];generalize gx p k t=it at cI;cases it with
     | true=>
       rw [if_neg (by simp)];refine W (J2 @cS @cI) (J9 bI dy hcell eJ hk fU CT vD q1) ?_<;>intros
       all_goals simp [aL,aQ,bm,aK,aN]
     | false=>
       rw [if_pos (by simp)];refine W (J2 @cS @cI) (J9 bI dy hcell eJ hk fU CT vD q1) ?_<;>intros
       all_goals simp [aL,aQ,bm,aK,aN]
set_option maxHeartbeats 8000000 in
theorem PO (hF:FOK) (v:Value) (p:List aZ) (k:Nat) (b:Option Nat) (A:AW) (h:jS A v p) (hl:p.length<=64) (hk:k<p.length) (hb:∀d,b=some d->d<p.length) :
 ax Tryz.prog 75 [v,.int .i64 k,.int .i64 (fb b)] A (λu A'=>u=.int .i64 (sD (fq p) k b p[k])/\A=A'):=by
 refine aF Tryz.func75 λhw=>?_;have cT:=H6 hF v p k b A h hl hk hb;obtain⟨o,c,rfl,_⟩:=h.bE;obtain⟨q,bP,uq,bI,eJ,hcell⟩:=h.at hk;subst uq;generalize p[k]=x at hcell cT;have dy:=um hcell;have cI:=λB=>rl hF x B;have cP:=λB=>EI hF x B
 have hE:sD (fq p) k b x=if b8 x=0 then
  if (x.op=7/\b.isSome=true)\/(x.op=8/\b.isSome=false) then 40
  else if (bp x=1/\b.isSome=false)\/(bp x=2/\b.isSome=true) then 41
  else Pm p k b x else b8 x:=by unfold sD Pm;rfl
 rw [hE];clear hE;generalize Pm p k b x=te at cT;obtain⟨op,a,b',c',bQ⟩:=x;simp only at dy;simp only [au] at hcell cI cP;generalize bp ⟨op,a,b',c',bQ⟩=pl at cP;generalize b8 ⟨op,a,b',c',bQ⟩=e at cI;by_cases e0:e=0
 rotate_left
 . rw [if_neg e0]
   repeat' (first|(refine jX λR hR=>?_;simp [ai,ar,bI,dy,hcell,eJ,hk,e0];try simp (disch:=omega) only [if_pos,if_neg,ai,ar])|(refine hR _ _ ?_;clear hR R)|(refine hK _ _ ?_;clear hK K)|refine nx ?_|refine wn λK hK=>?_|simp only [wS]|(refine bD (cI _) ?_;rintro _ _ ⟨rfl,rfl⟩ _ _)|(show cM _ _ _ _ _ _;refine nx ?_)|(refine wc rfl (λhc=>?_) (λhc=>?_)<;>(try simp at hc)<;>(try omega))|(refine ib (λhc=>?_) (λhc=>?_)<;>(try omega)<;>(try simp (disch:=omega) only [if_pos,if_neg])))
   all_goals simp [aL,aQ,bm,aK,aN]
 subst e0;rw [if_pos rfl];cases b with
 | none=>
   simp only [fb] at cT ⊢;by_cases ob:op=8
   . subst ob;rw [if_pos (by simp)];refine W (J3 @cI @cP @cT) (J5 bI dy hcell eJ hk) ?_<;>intros
     all_goals simp [aL,aQ,bm,aK,aN]
   rw [if_neg (by simp [ob])];by_cases oo:op=7
   . subst oo;by_cases pb:pl=1
     . subst pb;rw [if_pos (by simp)];refine W (J3 @cI @cP @cT) (J6 bI dy hcell eJ hk ob) ?_<;>intros
       all_goals simp [aL,aQ,bm,aK,aN]
     rw [if_neg (by simp [pb])];by_cases po:pl=2
     . subst po;refine W (J3 @cI @cP @cT) (J6 bI dy hcell eJ hk ob) ?_<;>intros
       all_goals simp [aL,aQ,bm,aK,aN]
     skip
     refine W (J3 @cI @cP @cT) (J8 bI dy hcell eJ hk ob pb po) ?_<;>intros
     all_goals simp [aL,aQ,bm,aK,aN]
   skip
   by_cases pb:pl=1
   . subst pb;rw [if_pos (by simp)];refine W (J3 @cI @cP @cT) (J7 bI dy hcell eJ hk ob oo) ?_<;>intros
     all_goals simp [aL,aQ,bm,aK,aN]
   rw [if_neg (by simp [pb])];by_cases po:pl=2
   . subst po;refine W (J3 @cI @cP @cT) (J7 bI dy hcell eJ hk ob oo) ?_<;>intros
     all_goals simp [aL,aQ,bm,aK,aN]
   skip
   refine W (J3 @cI @cP @cT) (J9 bI dy hcell eJ hk ob oo pb po) ?_<;>intros
   all_goals simp [aL,aQ,bm,aK,aN]
 | some d=>
   simp only [fb] at cT ⊢;have tq:¬((d:Int)<0):=(by omega);have xh:(0:Int)<=d:=(by omega);by_cases ob:op=7
   . subst ob;rw [if_pos (by simp)];refine W (J3 @cI @cP @cT) (J7 bI dy hcell eJ hk tq xh) ?_<;>intros
     all_goals simp [aL,aQ,bm,aK,aN]
   rw [if_neg (by simp [ob])];by_cases oo:op=8
   . subst oo;by_cases pb:pl=2
     . subst pb;rw [if_pos (by simp)];refine W (J3 @cI @cP @cT) (J8 bI dy hcell eJ hk tq xh ob) ?_<;>intros
       all_goals simp [aL,aQ,bm,aK,aN]
     rw [if_neg (by simp [pb])];by_cases po:pl=1
     . subst po;refine W (J3 @cI @cP @cT) (J8 bI dy hcell eJ hk tq xh ob) ?_<;>intros
       all_goals simp [aL,aQ,bm,aK,aN]
     skip
     refine W (J3 @cI @cP @cT) (Bs bI dy hcell eJ hk tq xh ob pb po) ?_<;>intros
     all_goals simp [aL,aQ,bm,aK,aN]
   skip
   by_cases pb:pl=2
   . subst pb;rw [if_pos (by simp)];refine W (J3 @cI @cP @cT) (J9 bI dy hcell eJ hk tq xh ob oo) ?_<;>intros
     all_goals simp [aL,aQ,bm,aK,aN]
   rw [if_neg (by simp [pb])];by_cases po:pl=1
   . subst po;refine W (J3 @cI @cP @cT) (J9 bI dy hcell eJ hk tq xh ob oo) ?_<;>intros
     all_goals simp [aL,aQ,bm,aK,aN]
   skip
   refine W (J3 @cI @cP @cT) (HE bI dy hcell eJ hk tq xh ob oo pb po) ?_<;>intros
   all_goals simp [aL,aQ,bm,aK,aN]
end
section
namespace TGFbL
theorem mr [Gl] {A:AW} {L:List It} {T:Prop} (hS:ah A L) (hw:A.Wf) (h':(aR A L/\bj A L/\bN L)=T:=by first|(dsimp only [aa,ag,aR,bj,bN,eE];done)|exact rfl):T:=h'▸hS.eD hw
end TGFbL
open TGFbL
variable [Gl]
set_option maxHeartbeats 8000000 in
theorem pW (hF:FOK) (v:Value) (p:List aZ) (A:AW) (h:jS A v p) :
 ax Tryz.prog 57 [v] A (λu A'=>u=oB (cD p)/\A=A'):=by
 refine ax.qt (V:=oB (cD p)) (cL.tuple (by simp)) (λhw=>?_) (by kernel_rfl);refine aF Tryz.func57 λ_=>?_;obtain⟨o,c,rfl,_⟩:=h.bE;by_cases hL:64<p.length
 . have he:cD p=(0,3):=(by unfold cD;rw [if_pos hL]);rw [he];refine W cd (J1 hL) ?_<;>intros
   all_goals first|exact AW.le.refl A|(simp [aL,aQ,bm,aK,aN,oB]<;>exact AW.le.refl A)
 have hl:p.length<2^30:=by omega
 have he:cD p=iC (fq p) (p.drop 0) 0 none:=by unfold cD;rw [if_neg hL];rfl
 generalize htgt:fq p=Fb at he;generalize cD p=RR at he ⊢;revert hw;(repeat first|clear hw|revert hc|revert R|revert K);refine W cd (J1 hL) ?_<;>(unhygienic intros)
 refine cW (λk fr A'=>A.le A'/\∃(i:Nat) (b:Option Nat),k=p.length-i/\i<=p.length/\(∀d,b=some d->d<i)/\fr 0=.slice o p.length c/\fr 11=.slice o p.length c/\fr 12=.int .i64 p.length/\fr 4=.int .i64 (fb b)/\fr 13=.int .i64 i/\
  RR=iC Fb (p.drop i) i b) p.length ?_ ?_
 exact⟨AW.le.refl A,0,none,rfl,Nat.zero_le _,by simp,rfl,rfl,rfl,rfl,rfl,he⟩;rintro k fr A' ⟨C3,i,b,rfl,hi,vK,h0,D0,FI,h4,MR,he⟩;by_cases bL:i<p.length
 . obtain⟨q,bP,uq,bI,eJ,hcell⟩:=(h.le C3 hw).at bL;subst uq;have fU:=uR (i:=i);have eR:p.drop i=p[i]::p.drop (i+1):=List.drop_eq_getElem_cons bL;rw [eR] at he;have cO:=λo o'=>PO hF _ p i b _ (h.le (C3.trans (AW.le.km A' o o')) hw) (by omega) bL (λd hd=>by have:=vK d hd;omega);rw [htgt] at cO;generalize p[i]=x at he hcell cO;clear eR;have dy:=um hcell;unfold iC at he;generalize hE:sD Fb i b x=E at he cO;generalize hN:CA i b x=N at he;unfold CA at hN;obtain⟨op,a,b',c',bQ⟩:=x;simp only at hN dy;simp only [au] at hcell;by_cases e0:E=0;subst e0;rw [if_pos rfl] at he;by_cases o7:op=7;subst o7;rw [if_pos rfl] at hN;subst hN;refine aO ?_;refine W (J1 @cO) (tA h0 h4 D0 FI MR bI dy hcell eJ bL fU bz) ?_<;>intros;refine⟨p.length-(i+1),by omega,C3.trans (AW.le.km A' _ _),i+1,some i,rfl,by omega,?_,?_,?_,?_,?_,?_,he⟩<;>simp [h0,h4,D0,FI,MR,fb];by_cases o8:op=8;subst o8;rw [if_neg (by decide),if_pos rfl] at hN
   subst hN;refine aO ?_;refine W (J1 @cO) (tA h0 h4 D0 FI MR bI dy hcell eJ bL fU bz) ?_<;>intros;refine⟨p.length-(i+1),by omega,C3.trans (AW.le.km A' _ _),i+1,none,rfl,by omega,?_,?_,?_,?_,?_,?_,he⟩<;>simp [h0,h4,D0,FI,MR,fb];rw [if_neg o7,if_neg o8] at hN;subst hN;refine aO ?_;refine W (J1 @cO) (vO h0 h4 D0 FI MR bI dy hcell eJ bL fU o7 o8 bz) ?_<;>intros;refine⟨p.length-(i+1),by omega,C3.trans (AW.le.km A' _ _),i+1,b,rfl,by omega,λd hd=>Nat.lt_succ_of_lt (vK d hd),?_,?_,?_,?_,?_,he⟩<;>simp [h0,h4,D0,FI,MR,fb];rw [if_neg e0] at he;refine aO ?_;refine W (J1 @cO) (mi h0 h4 D0 FI MR bI dy hcell eJ bL fU e0 bz) ?_<;>intros
   all_goals first|exact C3.trans (AW.le.km A' _ _)|(simp [cg,aL,aQ,bm,aK,aN,oB,he]<;>exact C3.trans (AW.le.km A' _ _))
 have tJ:i=p.length:=by omega
 subst tJ;rw [List.drop_length] at he;unfold iC at he;cases b with
 | none=>
   simp only [fb] at h4;refine aO ?_;refine W cd (J6 h0 h4 D0 FI MR bL) ?_<;>intros
   all_goals first|exact C3|(simp [cg,aL,aQ,bm,aK,aN,oB,he]<;>exact C3)
 | some d=>
   simp only [fb] at h4;have tq:¬((d:Int)<0):=(by omega);have xh:(0:Int)<=d:=(by omega);refine aO ?_;refine W cd (J8 h0 h4 D0 FI MR bL tq xh) ?_<;>intros
   all_goals first|exact C3|(simp [cg,aL,aQ,bm,aK,aN,oB,he]<;>exact C3)
def zG (p:List aZ):Bool:=decide ((cD p).2=0)
theorem JY (hF:FOK) (v:Value) (p:List aZ) (A:AW) (h:jS A v p) :
 ax Tryz.prog 240 [v] A (λu A'=>u=.bool (zG p)/\A=A'):=by
 refine aF Tryz.func240 λhw=>?_;have cC:=pW hF v p A h;unfold zG;unfold oB at cC;by_cases h0:(cD p).2=0
 . refine W (J1 @cC) (J1 h0) ?_<;>intros
   all_goals simp [aL,aQ,bm,aK,aN,h0]
 refine W (J1 @cC) (J1 h0) ?_<;>intros
 all_goals simp [aL,aQ,bm,aK,aN,h0]
def BJ (p:List aZ) (k:Nat):Int:=if zG p=true/\dS p k=7 then di p k else -1
theorem Jx (hF:FOK) (v:Value) (p:List aZ) (k:Nat) (A:AW) (h:jS A v p) (hk:k<p.length) :
 ax Tryz.prog 206 [v,.int .i64 k] A (λu A'=>u=.int .i64 (BJ p k)/\A=A'):=by
 refine aF Tryz.func206 λhw=>?_;have cV:=JY hF v p A h;unfold BJ;cases hv:zG p with
 | false=>
   rw [hv] at cV;obtain⟨o,c,rfl,_⟩:=h.bE;refine W (J1 @cV) (J1 hk) ?_<;>intros
   all_goals simp [aL,aQ,bm,aK,aN]
 | true=>
   rw [hv] at cV;have hl:p.length<=64:=(gy (p:=p) (by simpa [zG] using hv)).1;have cE:=uz v p k A h (by omega) hk;obtain⟨o,c,rfl,_⟩:=h.bE;obtain⟨q,bP,uq,bI,eJ,hcell⟩:=h.at hk;subst uq;have dy:=um hcell;have ho:dS p k=p[k].op:=lm (List.getElem?_eq_getElem hk);rw [ho];by_cases h7:p[k].op=7
   . refine W (J2 @cV @cE) (J5 hk bI dy eJ h7) ?_<;>intros
     all_goals simp [aL,aQ,bm,aK,aN,h7]
   refine W (J2 @cV @cE) (J5 hk bI dy eJ h7) ?_<;>intros
   all_goals simp [aL,aQ,bm,aK,aN,h7]
end
section
abbrev By:List (Nat×Nat):=[(0,0),(1,0),(2,0),(3,0),(4,0),(6,0),(7,0),(8,0),(9,0),(10,0),(5,2),(11,2),(12,0),(13,0)]
abbrev Bx:List (Nat×Nat):=[(0,0),(1,0),(2,0),(3,0),(4,0),(5,0),(6,0),(7,0),(8,0)]
abbrev nV:List (Nat×Nat):=[(0,0),(1,0),(2,0),(3,0),(4,0),(5,0),(6,0),(7,0),(8,0),(9,0),(10,2),(11,0),(12,0)]
abbrev nU:List (Nat×Nat):=[(0,0),(1,0),(2,0),(3,0),(4,0),(5,0),(6,0),(7,0),(8,0),(9,0),(10,3),(11,0),(12,0),(13,3)]
abbrev nT:List (Nat×Nat):=[(0,0),(1,0),(2,0),(3,0),(4,0),(6,0),(5,2),(7,3)]
abbrev nS:List (Nat×Nat):=[(0,0),(1,0),(2,0),(3,0),(4,0),(5,0),(6,0),(7,0),(8,0),(9,0),(10,0),(11,0),(12,0),(13,0),(14,0),(15,0),(16,0),(17,0)]
abbrev nR:List (Nat×Nat):=[(0,0),(1,0),(2,0),(3,0),(4,0),(5,0),(6,0),(7,0),(8,0),(9,0),(10,0),(11,0),(12,0),(13,2),(14,3),(15,0),(16,0),(17,3)]
abbrev nQ:List (Nat×Nat):=[(0,0),(1,0),(2,0),(3,0),(4,0),(5,0),(6,0),(7,0),(8,0),(9,0),(10,2),(11,0),(12,3)]
open T7
variable [Gl]
theorem BK (hF:FOK) {q:nK} {l:List aZ} (hR:CR q l) (k:Int) (S6:0<=k) (hl:(cD l).2=0) (h7:dS l k.toNat=7) {A:AW} {L K:List It} {kk:Value->AW->Prop} (hw:A.Wf) (hS:ah A L) (hp:ay L (.at q.bb q.o) K)
 (hk:kk (.int .i64 (di l k.toNat)) A):ax Tryz.prog 206 [.slice (some ⟨q.bb,q.off,none⟩) l.length q.ef,.int .i64 k] A kk:=by
 obtain⟨n,rfl⟩:=Int.eq_ofNat_of_zero_le S6;refine bD (Jx hF _ l n A (hR.is (ah.gR hS hp)) (qc (by rw [Int.toNat_natCast] at h7;omega))) ?_;rintro _ _ ⟨rfl,rfl⟩ _ _;have e:BJ l n=di l n:=by
  unfold BJ;rw [if_pos ⟨by simp [zG,hl],by simpa using h7⟩]
 rw [e]
 simpa using hk
theorem Q5 (n:Nat) (s:aM) (hl:s.av.length<2^38):dT Tryz.prog 204 [pv n] [.h (aX n s)] (λ(x:Option Addr×Nat) v=>v=.slice x.1 s.av.length x.2) (λx=>[.h (ap .i64 (.slice x.1 s.av.length x.2) s.av),.h (aX n s)]):=by
 intro A F hw hS;refine bD (LD n s _ s.aG A hw (aX.RS (ah.bO hS (.s .z .z)) .z) hl) ?_;rintro u A' ⟨h1,h2⟩ i8 _;obtain⟨o,c,rfl,_⟩:=h1.is.bE;exact⟨(o,c),rfl,ap.gA hS hw h2 h1⟩
structure O3 (t:aU):Prop where
 cf:db t.cf
 pc:0<=t.pc/\t.pc<2^40
 ga:t.ga.length+t.eF.length<2^29
 nz:t.gh.length<2^27
 tN:0<=t.jj/\t.jj<2^40
 xy:0<=t.iJ/\t.iJ<2^40
 mV:0<=t.fp/\t.fp<2^40
 qu:(cD t.az).2=0
theorem Dn (q:nK) (b:Nat) (t:aU) (s:aM) (i:aZ) (dt:t.jL=some s) (dC:t.dX=none) (eR:t.dO=none) (hB:O3 t) (mt:i.op=12\/i.op=13) (hi:b8 i=0) :
 bf Tryz.prog 132 [pv b,jJ i] [.h (gk q b t)] (λ_=>True) (λ_=>[.h (gk q b (t.me i s))]):=by
 have ln:0<=t.pc/\t.pc<2^40:=hB.pc;have u7:t.ga.length<2^30:=by have:=hB.ga;omega
 obtain⟨r1,r2,_⟩:=mB hi;obtain⟨op,i1,i2,i3,bQ⟩:=i;dsimp only at mt r2;unfold jJ;by_cases h1:s.az=1
 . rcases mt with h2|h2
   . subst h2;have e:t.me ⟨12,i1,i2,i3,bQ⟩ s=((({ t with jL:=none,aT:=false }:aU).fX i1 s.value).oP 4 s.value).oT:=by
      unfold aU.me;dsimp only;rw [if_pos h1];rfl
     rw [e];intro A F hw dm;refine aF Tryz.func132 λ_=>?_;dsimp only [aa,ag] at dm;obtain⟨⟨cy,ep,ka,eX,vs,vo⟩,hS⟩:=gk.open dm .z;clear dm;dsimp only [iK,aa,ag] at hS;rw [dt,dC,eR] at hS;dsimp only [dQ,fJ,dP,fI,fL,lp] at hS;have hq:=fm hS hw;revert hq hS hw;refine Wu (J5 (Tg.mk (n:=10) (λ{A L K k}=>eY (A:=A) (L:=L) (K:=K) (k:=k) (tu cy s))) (Tg.mk (n:=10) (λ{A L K k}=>eY (A:=A) (L:=L) (K:=K) (k:=k) (BR cy s))) (Tg.mk (n:=36) (λx1 x2 x3 x4 x5 x6 x7 x8 x9=>AZ b { t.d with aT:=false } x1 x2 x3 x4 x5 x6 x7 x8 x9 i1 i2 i3 bQ s.value t.ga hi ln u7)) (od By) (od Bx)) (J2 h1 bz) ?_<;>(unhygienic intros);refine⟨_,by first|rfl|(simp;rfl),by first|trivial|rfl|(simp;done),?_⟩;apply gk.bO;apply ah.lP
     (·exact sA)
     . dsimp only [iK,aU.oT,aU.to,aU.oP,aU.fX,aU.fA,aU.jZ,aU.d]
       (try simp only [dt,dC,eR])
       (·first|exact pA|exact kA)
     (·first|exact pA|exact kA)
     all_goals(first|exact 0|exact undef)
   subst h2;have hb:=r2 rfl;have vI:=λw=>pO (d:={ t.d with aT:=false }) (w:=w) hb;have e:t.me ⟨13,i1,i2,i3,bQ⟩ s=((({ t with jL:=none,aT:=false }:aU)).oP 5 (t.dw.bg i2)).oT:=by
    unfold aU.me;dsimp only;rw [if_pos h1];rfl
   rw [e];intro A F hw dm;refine aF Tryz.func132 λ_=>?_;dsimp only [aa,ag] at dm;obtain⟨⟨cy,ep,ka,eX,vs,vo⟩,hS⟩:=gk.open dm .z;clear dm;dsimp only [iK,aa,ag] at hS;rw [dt,dC,eR] at hS;dsimp only [dQ,fJ,dP,fI,fL,lp] at hS;have hq:=fm hS hw;revert hq hS hw;(repeat first|clear hq|clear hS|clear hw|revert hc|revert R|revert K);refine Wu (J5 (Tg.mk (n:=10) (λ{A L K k}=>eY (A:=A) (L:=L) (K:=K) (k:=k) (tu cy s))) (Tg.mk (n:=10) (λ{A L K k}=>eY (A:=A) (L:=L) (K:=K) (k:=k) (BR cy s))) (Tg.mk (n:=36) (λx1 x2 x3 x4 x5 x6 x7 x8 x9=>AY b { t.d with aT:=false } x1 x2 x3 x4 x5 x6 x7 x8 x9 i1 i2 i3 bQ (t.d.dw.bg i2) t.ga hi ln u7)) (od By) (od Bx)) (J5 h1 vI hb.1 hb.2 bz) ?_<;>(unhygienic intros);refine⟨_,by first|rfl|(simp;rfl),by first|trivial|rfl|(simp;done),?_⟩;apply gk.bO;apply ah.lP
   (·exact sA)
   . dsimp only [iK,aU.oT,aU.to,aU.oP,aU.fX,aU.fA,aU.jZ,aU.d]
     (try simp only [dt,dC,eR])
     (·first|exact pA|exact kA)
   (·first|exact pA|exact kA)
   all_goals(first|exact 0|exact undef)
 by_cases h2:s.az=6
 . have e:t.me ⟨op,i1,i2,i3,bQ⟩ s=((({ t with jL:=none,aT:=false }:aU)).oP 7 6).oT:=by
    unfold aU.me;dsimp only;rw [if_neg h1,if_pos h2]
   rw [e];intro A F hw dm;refine aF Tryz.func132 λ_=>?_;dsimp only [aa,ag] at dm;obtain⟨⟨cy,ep,ka,eX,vs,vo⟩,hS⟩:=gk.open dm .z;clear dm;dsimp only [iK,aa,ag] at hS;rw [dt,dC,eR] at hS;dsimp only [dQ,fJ,dP,fI,fL,lp] at hS;have hq:=fm hS hw;revert hq hS hw;(repeat first|clear hq|clear hS|clear hw|revert hc|revert R|revert K);refine Wu (J6 (Tg.mk (n:=10) (λ{A L K k}=>eY (A:=A) (L:=L) (K:=K) (k:=k) (tu cy s))) (Tg.mk (n:=10) (λ{A L K k}=>eY (A:=A) (L:=L) (K:=K) (k:=k) (BR cy s))) (Tg.mk (n:=36) (λx1=>jc b { t.d with aT:=false } x1 t.ga 7 6 u7)) (Tg.mk (n:=37) (λx1 x2 x3 x4 x5 x6 x7 x8 x9=>kS b { t.d with aT:=false } x1 x2 x3 x4 x5 x6 x7 x8 x9 ln)) (od By) (od Bx)) (J3 h1 h2 bz) ?_<;>(unhygienic intros);refine⟨_,by first|rfl|(simp;rfl),by first|trivial|rfl|(simp;done),?_⟩;apply gk.bO;apply ah.lP
   (·exact sA)
   . dsimp only [iK,aU.oT,aU.to,aU.oP,aU.fX,aU.fA,aU.jZ,aU.d]
     (try simp only [dt,dC,eR])
     (·first|exact pA|exact kA)
   (·first|exact pA|exact kA)
   all_goals(first|exact 0|exact undef)
 have e:t.me ⟨op,i1,i2,i3,bQ⟩ s=({ t with jL:=none,aT:=false }:aU):=by
  unfold aU.me;dsimp only;rw [if_neg h1,if_neg h2]
 rw [e];intro A F hw dm;refine aF Tryz.func132 λ_=>?_;dsimp only [aa,ag] at dm;obtain⟨⟨cy,ep,ka,eX,vs,vo⟩,hS⟩:=gk.open dm .z;clear dm;dsimp only [iK,aa,ag] at hS;rw [dt,dC,eR] at hS;dsimp only [dQ,fJ,dP,fI,fL,lp] at hS;have hq:=fm hS hw;revert hq hS hw;(repeat first|clear hq|clear hS|clear hw|revert hc|revert R|revert K);refine W (J4 (Tg.mk (n:=10) (λ{A L K k}=>eY (A:=A) (L:=L) (K:=K) (k:=k) (tu cy s))) (Tg.mk (n:=10) (λ{A L K k}=>eY (A:=A) (L:=L) (K:=K) (k:=k) (BR cy s))) (od By) (od Bx)) (J3 h1 h2 bz) ?_<;>(unhygienic intros);refine⟨_,by first|rfl|(simp;rfl),by first|trivial|rfl|(simp;done),?_⟩;apply gk.bO;apply ah.lP
 (·exact sA)
 . dsimp only [iK,aU.oT,aU.to,aU.oP,aU.fX,aU.fA,aU.jZ,aU.d]
   (try simp only [dt,dC,eR])
   (·first|exact pA|exact kA)
 (·first|exact pA|exact kA)
 all_goals(first|exact 0|exact undef)
theorem Nr (hF:FOK) (q:nK) (b:Nat) (t:aU) (s:aM) (dt:t.jL=some s) (dC:t.dX=none) (eR:t.dO=none) (hB:O3 t) (h7:dS t.az t.bJ.toNat=7) (QW:0<=t.bJ) (sd:∀x∈s.av,x<2^62) (R2:s.av.length<=8) (Bp:CR q t.az) :
 bf Tryz.prog 133 [pv b] [.h (gk q b t)] (λ_=>True) (λ_=>[.h (gk q b (t.bO s))]):=by
 have u7:=hB.ga;have V6:t.ga.length+t.eF.length<2^30:=by omega
 have YN:(t.ga++t.eF).length<2^30:=by rw [List.length_append];omega
 have YM:t.ga.length<2^30:=by omega
 have hll:t.gh.length<2^28:=by have:=hB.nz;omega
 have hf1:s.av.length<2^38:=by omega
 have GS:s.av.length<2^28:=by omega
 have wo:=hB.cf;have QS:t.bJ.toNat<t.az.length:=qc (by omega);have vK:t.bJ<t.az.length:=by omega
 have him:t.uo t.bJ=t.az[t.bJ.toNat]:=by
  unfold aU.uo;rw [List.getD_eq_getElem?_getD,List.getElem?_eq_getElem QS];rfl
 have SS:IntKind.i64.wrap ((di t.az t.bJ.toNat:Int)+1)=(di t.az t.bJ.toNat:Int)+1:=by
  have h64:=(gy hB.qu).1;have h65:=(lX (p:=t.az) (k:=t.bJ.toNat+1) (by omega)).2.1;unfold di;exact ai (by omega) (by omega)
 by_cases h1:s.az=1
 . by_cases h2:0<s.av.length
   . have e:t.bO s=({ t with jL:=none,ga:=t.ga++t.eF,gh:=mY t.cf t.gh s.tG s.av }:aU).jZ 1:=by
      unfold aU.bO aU.pm;rw [if_neg (by omega),if_pos h1,if_pos h2,h1]
     rw [e];intro A F hw dm;refine aF Tryz.func133 λ_=>?_;dsimp only [aa,ag] at dm;obtain⟨⟨cy,ep,ka,eX,vs,vo⟩,hS⟩:=gk.open dm .z;clear dm;dsimp only [iK,aa,ag] at hS;rw [dt,dC,eR] at hS;dsimp only [dQ,fJ,dP,fI,fL,lp] at hS;have hq:=fm hS hw
     repeat' (first|(with_reducible apply Qb;(·first|(simp;done)|(simp;rfl));(·first|(simp;done)|(simp;rfl));(·exact wA);(·exact sA);(·first|exact pA|exact kA);(·first|exact AW.bM _ _|((repeat' (first|apply ay.z|apply ay.s));done)|(simp [hq];(repeat' (first|rfl|refine⟨rfl,?_⟩));done)|(simp;done)|(simp;rfl)|(simp [hq];done)|(simp [hq];rfl));(·first|omega|(simp;omega));(·intro _ _;trivial);rintro _ _ _ hS hw _;(try dsimp only [AW.aV] at hS);have hq:=fm hS hw)|(with_reducible apply Fx;(·first|(simp;done)|(simp;rfl));(·first|(simp;done)|(simp;rfl));(·exact wA);(·exact sA);(·first|exact pA|exact kA);(·first|exact AW.bM _ _|((repeat' (first|apply ay.z|apply ay.s));done)|(simp [hq];(repeat' (first|rfl|refine⟨rfl,?_⟩));done)|(simp;done)|(simp;rfl)|(simp [hq];done)|(simp [hq];rfl));(·first|omega|(simp;omega));(·intro _ _;trivial);rintro _ _ _ hS hw _;(try dsimp only [AW.aV] at hS);have hq:=fm hS hw)|(refine jX λR hR=>?_;simp [ai,ar,hq,SS,h1,h2,AW.af,aB];try simp (disch:=omega) only [if_pos,if_neg,ai,ar])|(refine hR _ _ ?_;clear hR R)|(refine hK _ _ ?_;clear hK K)|refine nx ?_|refine wn λK hK=>?_|simp only [wS,nV,nU,nT,nS,nR,nQ]|refine wl Tryz.mx nV (by decide +kernel) λK hK=>?_|refine wl Tryz.mx nU (by decide +kernel) λK hK=>?_|refine wl Tryz.mx nT (by decide +kernel) λK hK=>?_|refine wl Tryz.mx nS (by decide +kernel) λK hK=>?_|refine wl Tryz.mx nR (by decide +kernel) λK hK=>?_|refine wl Tryz.mx nQ (by decide +kernel) λK hK=>?_|(apply eY (tu cy s);(·exact wA);(·exact sA);(·first|exact pA|exact kA);)|(apply eY (HY cy s);(·exact wA);(·exact sA);(·first|exact pA|exact kA);)|(apply dT.eZ (Q5 cy s hf1);(·exact wA);(·exact sA);(·first|exact pA|exact kA);(rintro xw _ _ rfl hS hw _;have hS:=lA hS;(try (have hq:=fm hS hw))))|(apply bf.eZ (IU eX t.cf wo t.gh s.tG _ s.av sd hll GS);(·exact wA);(·exact sA);(·first|exact pA|exact kA);rintro _ _ _ hS hw _;have hS:=lA hS;have hq:=fm hS hw)|(apply BK hF Bp t.bJ QW hB.qu h7;(·exact wA);(·exact sA);(·first|exact pA|exact kA);)|(apply bf.eZ (wK b _ _ _ _ _ _ _ _ _ _ _);(·exact wA);(·exact sA);(·first|exact pA|exact kA);rintro _ _ _ hS hw _;have hS:=lA hS;have hq:=fm hS hw)|(show cM _ _ _ _ _ _;refine nx ?_)|(refine wc rfl (λhc=>?_) (λhc=>?_)<;>(try simp at hc)<;>(try omega))|(refine ib (λhc=>?_) (λhc=>?_)<;>(try omega)<;>(try simp (disch:=omega) only [if_pos,if_neg])))
     try simp only [List.length_append] at hS
     refine⟨_,by first|rfl|(simp;rfl),by first|trivial|rfl|(simp;done),?_⟩;apply gk.bO;apply ah.lP
     (·exact sA)
     . dsimp only [iK,aU.oT,aU.to,aU.oP,aU.fX,aU.fA,aU.jZ,aU.d]
       (try simp only [dt,dC,eR])
       (·first|exact pA|exact kA)
     (·first|exact pA|exact kA)
     all_goals(first|exact 0|exact undef)
   have e:t.bO s=({ t with jL:=none,ga:=t.ga++t.eF }:aU).jZ 1:=by
    unfold aU.bO aU.pm;rw [if_neg (by omega),if_pos h1,if_neg h2,h1]
   have h3:s.av.length=0:=(by omega);rw [e];intro A F hw dm;refine aF Tryz.func133 λ_=>?_;dsimp only [aa,ag] at dm;obtain⟨⟨cy,ep,ka,eX,vs,vo⟩,hS⟩:=gk.open dm .z;clear dm;dsimp only [iK,aa,ag] at hS;rw [dt,dC,eR] at hS;dsimp only [dQ,fJ,dP,fI,fL,lp] at hS;have hq:=fm hS hw
   repeat' (first|(with_reducible apply Qb;(·first|(simp;done)|(simp;rfl));(·first|(simp;done)|(simp;rfl));(·exact wA);(·exact sA);(·first|exact pA|exact kA);(·first|exact AW.bM _ _|((repeat' (first|apply ay.z|apply ay.s));done)|(simp [hq];(repeat' (first|rfl|refine⟨rfl,?_⟩));done)|(simp;done)|(simp;rfl)|(simp [hq];done)|(simp [hq];rfl));(·first|omega|(simp;omega));(·intro _ _;trivial);rintro _ _ _ hS hw _;(try dsimp only [AW.aV] at hS);have hq:=fm hS hw)|(with_reducible apply Fx;(·first|(simp;done)|(simp;rfl));(·first|(simp;done)|(simp;rfl));(·exact wA);(·exact sA);(·first|exact pA|exact kA);(·first|exact AW.bM _ _|((repeat' (first|apply ay.z|apply ay.s));done)|(simp [hq];(repeat' (first|rfl|refine⟨rfl,?_⟩));done)|(simp;done)|(simp;rfl)|(simp [hq];done)|(simp [hq];rfl));(·first|omega|(simp;omega));(·intro _ _;trivial);rintro _ _ _ hS hw _;(try dsimp only [AW.aV] at hS);have hq:=fm hS hw)|(refine jX λR hR=>?_;simp [ai,ar,hq,SS,h1,h3,AW.af,aB];try simp (disch:=omega) only [if_pos,if_neg,ai,ar])|(refine hR _ _ ?_;clear hR R)|(refine hK _ _ ?_;clear hK K)|refine nx ?_|refine wn λK hK=>?_|simp only [wS,nV,nU,nT,nS,nR,nQ]|refine wl Tryz.mx nV (by decide +kernel) λK hK=>?_|refine wl Tryz.mx nU (by decide +kernel) λK hK=>?_|refine wl Tryz.mx nT (by decide +kernel) λK hK=>?_|refine wl Tryz.mx nS (by decide +kernel) λK hK=>?_|refine wl Tryz.mx nR (by decide +kernel) λK hK=>?_|refine wl Tryz.mx nQ (by decide +kernel) λK hK=>?_|(apply eY (tu cy s);(·exact wA);(·exact sA);(·first|exact pA|exact kA);)|(apply eY (HY cy s);(·exact wA);(·exact sA);(·first|exact pA|exact kA);)|(apply dT.eZ (Q5 cy s hf1);(·exact wA);(·exact sA);(·first|exact pA|exact kA);(rintro xw _ _ rfl hS hw _;have hS:=lA hS;(try (have hq:=fm hS hw))))|(apply BK hF Bp t.bJ QW hB.qu h7;(·exact wA);(·exact sA);(·first|exact pA|exact kA);)|(apply bf.eZ (wK b _ _ _ _ _ _ _ _ _ _ _);(·exact wA);(·exact sA);(·first|exact pA|exact kA);rintro _ _ _ hS hw _;have hS:=lA hS;have hq:=fm hS hw)|(show cM _ _ _ _ _ _;refine nx ?_)|(refine wc rfl (λhc=>?_) (λhc=>?_)<;>(try simp at hc)<;>(try omega))|(refine ib (λhc=>?_) (λhc=>?_)<;>(try omega)<;>(try simp (disch:=omega) only [if_pos,if_neg])))
   try simp only [List.length_append] at hS
   refine⟨_,by first|rfl|(simp;rfl),by first|trivial|rfl|(simp;done),?_⟩;apply gk.bO;apply ah.lP
   (·exact sA)
   . dsimp only [iK,aU.oT,aU.to,aU.oP,aU.fX,aU.fA,aU.jZ,aU.d]
     (try simp only [dt,dC,eR])
     (·first|exact pA|exact kA)
   (·first|exact pA|exact kA)
   all_goals(first|exact 0|exact undef)
 by_cases h9:s.az=9
 . obtain⟨I7,MO⟩:=Bp.at QS;have hcell:q.bP[q.off+t.d.bJ.toNat*5+4]? = some (.int .i64 (t.uo t.bJ).bQ):=by
    rw [him];exact IX MO 4 (by omega)
   have Bn:q.off+t.d.bJ.toNat*5+5<=q.bP.length:=I7;have HR:0<=t.d.bJ:=QW;have k7:t.d.bJ<(t.az.length:Int):=vK;by_cases h2:t.d.iJ<(t.uo t.bJ).bQ
   . have e:t.bO s=({ t with jL:=none,dw:=t.lG }:aU).to t.bJ:=by
      unfold aU.bO aU.pm;rw [if_pos h9,if_pos (show t.iJ<(t.uo t.bJ).bQ from h2),if_neg h1]
     rw [e];intro A F hw dm;refine aF Tryz.func133 λ_=>?_;dsimp only [aa,ag] at dm;obtain⟨⟨cy,ep,ka,eX,vs,vo⟩,hS⟩:=gk.open dm .z;clear dm;dsimp only [iK,aa,ag] at hS;rw [dt,dC,eR] at hS;dsimp only [dQ,fJ,dP,fI,fL,lp] at hS;have hq:=fm hS hw
     repeat' (first|(refine jX λR hR=>?_;simp [ai,ar,hq,SS,h1,h9,h2,hcell,HR,k7,AW.af,aB];try simp (disch:=omega) only [if_pos,if_neg,ai,ar])|(refine hR _ _ ?_;clear hR R)|(refine hK _ _ ?_;clear hK K)|refine nx ?_|refine wn λK hK=>?_|simp only [wS,nV,nU,nT,nS,nR,nQ]|refine wl Tryz.mx nV (by decide +kernel) λK hK=>?_|refine wl Tryz.mx nU (by decide +kernel) λK hK=>?_|refine wl Tryz.mx nT (by decide +kernel) λK hK=>?_|refine wl Tryz.mx nS (by decide +kernel) λK hK=>?_|refine wl Tryz.mx nR (by decide +kernel) λK hK=>?_|refine wl Tryz.mx nQ (by decide +kernel) λK hK=>?_|(apply eY (tu cy s);(·exact wA);(·exact sA);(·first|exact pA|exact kA);)|(apply bf.eZ (wK b _ _ _ _ _ _ _ _ _ _ _);(·exact wA);(·exact sA);(·first|exact pA|exact kA);rintro _ _ _ hS hw _;have hS:=lA hS;have hq:=fm hS hw)|(show cM _ _ _ _ _ _;refine nx ?_)|(refine wc rfl (λhc=>?_) (λhc=>?_)<;>(try simp at hc)<;>(try omega))|(refine ib (λhc=>?_) (λhc=>?_)<;>(try omega)<;>(try simp (disch:=omega) only [if_pos,if_neg])))
     try simp only [List.length_append] at hS
     refine⟨_,by first|rfl|(simp;rfl),by first|trivial|rfl|(simp;done),?_⟩;apply gk.bO;apply ah.lP
     (·exact sA)
     . dsimp only [iK,aU.oT,aU.to,aU.oP,aU.fX,aU.fA,aU.jZ,aU.d]
       (try simp only [dt,dC,eR])
       (·first|exact pA|exact kA)
     (·first|exact pA|exact kA)
     all_goals(first|exact 0|exact undef)
   have e:t.bO s=({ t with jL:=none,dw:=t.lG }:aU).jZ 5:=by
    unfold aU.bO aU.pm;rw [if_pos h9,if_neg (show ¬t.iJ<(t.uo t.bJ).bQ from h2),if_neg h1]
   rw [e];intro A F hw dm;refine aF Tryz.func133 λ_=>?_;dsimp only [aa,ag] at dm;obtain⟨⟨cy,ep,ka,eX,vs,vo⟩,hS⟩:=gk.open dm .z;clear dm;dsimp only [iK,aa,ag] at hS;rw [dt,dC,eR] at hS;dsimp only [dQ,fJ,dP,fI,fL,lp] at hS;have hq:=fm hS hw
   repeat' (first|(with_reducible apply Fx;(·first|(simp;done)|(simp;rfl));(·first|(simp;done)|(simp;rfl));(·exact wA);(·exact sA);(·first|exact pA|exact kA);(·first|exact AW.bM _ _|((repeat' (first|apply ay.z|apply ay.s));done)|(simp [hq];(repeat' (first|rfl|refine⟨rfl,?_⟩));done)|(simp;done)|(simp;rfl)|(simp [hq];done)|(simp [hq];rfl));(·first|omega|(simp;omega));(·intro _ _;trivial);rintro _ _ _ hS hw _;(try dsimp only [AW.aV] at hS);have hq:=fm hS hw)|(refine jX λR hR=>?_;simp [ai,ar,hq,SS,h1,h9,h2,hcell,HR,k7,AW.af,aB];try simp (disch:=omega) only [if_pos,if_neg,ai,ar])|(refine hR _ _ ?_;clear hR R)|(refine hK _ _ ?_;clear hK K)|refine nx ?_|refine wn λK hK=>?_|simp only [wS,nV,nU,nT,nS,nR,nQ]|refine wl Tryz.mx nV (by decide +kernel) λK hK=>?_|refine wl Tryz.mx nU (by decide +kernel) λK hK=>?_|refine wl Tryz.mx nT (by decide +kernel) λK hK=>?_|refine wl Tryz.mx nS (by decide +kernel) λK hK=>?_|refine wl Tryz.mx nR (by decide +kernel) λK hK=>?_|refine wl Tryz.mx nQ (by decide +kernel) λK hK=>?_|(apply eY (tu cy s);(·exact wA);(·exact sA);(·first|exact pA|exact kA);)|(apply BK hF Bp t.bJ QW hB.qu h7;(·exact wA);(·exact sA);(·first|exact pA|exact kA);)|(apply bf.eZ (wK b _ _ _ _ _ _ _ _ _ _ _);(·exact wA);(·exact sA);(·first|exact pA|exact kA);rintro _ _ _ hS hw _;have hS:=lA hS;have hq:=fm hS hw)|(show cM _ _ _ _ _ _;refine nx ?_)|(refine wc rfl (λhc=>?_) (λhc=>?_)<;>(try simp at hc)<;>(try omega))|(refine ib (λhc=>?_) (λhc=>?_)<;>(try omega)<;>(try simp (disch:=omega) only [if_pos,if_neg])))
   try simp only [List.length_append] at hS
   refine⟨_,by first|rfl|(simp;rfl),by first|trivial|rfl|(simp;done),?_⟩;apply gk.bO;apply ah.lP
   (·exact sA)
   . dsimp only [iK,aU.oT,aU.to,aU.oP,aU.fX,aU.fA,aU.jZ,aU.d]
     (try simp only [dt,dC,eR])
     (·first|exact pA|exact kA)
   (·first|exact pA|exact kA)
   all_goals(first|exact 0|exact undef)
 have e:t.bO s=({ t with jL:=none,dw:=t.lG }:aU).jZ s.az:=by
  unfold aU.bO aU.pm;rw [if_neg h9,if_neg h1]
 rw [e];intro A F hw dm;refine aF Tryz.func133 λ_=>?_;dsimp only [aa,ag] at dm;obtain⟨⟨cy,ep,ka,eX,vs,vo⟩,hS⟩:=gk.open dm .z;clear dm;dsimp only [iK,aa,ag] at hS;rw [dt,dC,eR] at hS;dsimp only [dQ,fJ,dP,fI,fL,lp] at hS;have hq:=fm hS hw
 repeat' (first|(with_reducible apply Fx;(·first|(simp;done)|(simp;rfl));(·first|(simp;done)|(simp;rfl));(·exact wA);(·exact sA);(·first|exact pA|exact kA);(·first|exact AW.bM _ _|((repeat' (first|apply ay.z|apply ay.s));done)|(simp [hq];(repeat' (first|rfl|refine⟨rfl,?_⟩));done)|(simp;done)|(simp;rfl)|(simp [hq];done)|(simp [hq];rfl));(·first|omega|(simp;omega));(·intro _ _;trivial);rintro _ _ _ hS hw _;(try dsimp only [AW.aV] at hS);have hq:=fm hS hw)|(refine jX λR hR=>?_;simp [ai,ar,hq,SS,h1,h9,AW.af,aB];try simp (disch:=omega) only [if_pos,if_neg,ai,ar])|(refine hR _ _ ?_;clear hR R)|(refine hK _ _ ?_;clear hK K)|refine nx ?_|refine wn λK hK=>?_|simp only [wS,nV,nU,nT,nS,nR,nQ]|refine wl Tryz.mx nV (by decide +kernel) λK hK=>?_|refine wl Tryz.mx nU (by decide +kernel) λK hK=>?_|refine wl Tryz.mx nT (by decide +kernel) λK hK=>?_|refine wl Tryz.mx nS (by decide +kernel) λK hK=>?_|refine wl Tryz.mx nR (by decide +kernel) λK hK=>?_|refine wl Tryz.mx nQ (by decide +kernel) λK hK=>?_|(apply eY (tu cy s);(·exact wA);(·exact sA);(·first|exact pA|exact kA);)|(apply BK hF Bp t.bJ QW hB.qu h7;(·exact wA);(·exact sA);(·first|exact pA|exact kA);)|(apply bf.eZ (wK b _ _ _ _ _ _ _ _ _ _ _);(·exact wA);(·exact sA);(·first|exact pA|exact kA);rintro _ _ _ hS hw _;have hS:=lA hS;have hq:=fm hS hw)|(show cM _ _ _ _ _ _;refine nx ?_)|(refine wc rfl (λhc=>?_) (λhc=>?_)<;>(try simp at hc)<;>(try omega))|(refine ib (λhc=>?_) (λhc=>?_)<;>(try omega)<;>(try simp (disch:=omega) only [if_pos,if_neg])))
 try simp only [List.length_append] at hS
 refine⟨_,by first|rfl|(simp;rfl),by first|trivial|rfl|(simp;done),?_⟩;apply gk.bO;apply ah.lP
 (·exact sA)
 . dsimp only [iK,aU.oT,aU.to,aU.oP,aU.fX,aU.fA,aU.jZ,aU.d]
   (try simp only [dt,dC,eR])
   (·first|exact pA|exact kA)
 (·first|exact pA|exact kA)
 all_goals(first|exact 0|exact undef)
theorem EY (hF:FOK) (q:nK) (b:Nat) (t:aU) (s:aM) (i:aZ) (dt:t.jL=some s) (dC:t.dX=none) (eR:t.dO=none) (hB:O3 t) (hi:b8 i=0) (dv:t.aT=true->i.op=12\/i.op=13) (Xe:t.aT=false->dS t.az t.bJ.toNat=7/\0<=t.bJ) (sd:∀x∈s.av,x<2^62) (R2:s.av.length<=8) (Bp:CR q t.az) :
 bf Tryz.prog 91 [pv b,jJ i] [.h (gk q b t)] (λ_=>True) (λ_=>[.h (gk q b (t.sX i s))]):=by
 have ln:0<=t.pc/\t.pc<2^40:=hB.pc;have YK:t.eF.length<2^30:=by have:=hB.ga;omega
 obtain⟨r1,_⟩:=mB hi;obtain⟨op,i1,i2,i3,bQ⟩:=i;dsimp only at dv r1;unfold jJ;by_cases h1:s.aA=2
 . cases hs:t.aT with
   | true=>
     have ym:t.d.aT=true:=hs;have e:t.sX ⟨op,i1,i2,i3,bQ⟩ s=t.me ⟨op,i1,i2,i3,bQ⟩ s:=by
      unfold aU.sX;rw [if_pos h1,if_pos hs]
     have Wk:=Dn q b t s ⟨op,i1,i2,i3,bQ⟩ dt dC eR hB (dv hs) hi;rw [e];intro A F hw dm;refine aF Tryz.func91 λ_=>?_;dsimp only [aa,ag] at dm;obtain⟨⟨cy,ep,ka,eX,vs,vo⟩,hS⟩:=gk.open dm .z;clear dm;dsimp only [iK,aa,ag] at hS;rw [dt,dC,eR] at hS;dsimp only [dQ,fJ,dP,fI,fL,lp] at hS;have hq:=fm hS hw;revert hq hS hw;refine Wu (J2 (Tg.mk (n:=10) (λ{A L K k}=>eY (A:=A) (L:=L) (K:=K) (k:=k) (zj cy s))) (Tg.mk (n:=34) @Wk)) (J3 h1 ym bz) ?_<;>(unhygienic intros);exact⟨_,by first|rfl|(simp;rfl),trivial,ah.bO hS (.s .z (.s (by repeat' (first|apply ay.z|apply ay.s)) .z))⟩
   | false=>
     have ym:t.d.aT=false:=hs;have e:t.sX ⟨op,i1,i2,i3,bQ⟩ s=t.bO s:=by
      unfold aU.sX;rw [if_pos h1,if_neg (by rw [hs];decide)]
     have Wk:=Nr hF q b t s dt dC eR hB (Xe hs).1 (Xe hs).2 sd R2 Bp;rw [e];intro A F hw dm;refine aF Tryz.func91 λ_=>?_;dsimp only [aa,ag] at dm;obtain⟨⟨cy,ep,ka,eX,vs,vo⟩,hS⟩:=gk.open dm .z;clear dm;dsimp only [iK,aa,ag] at hS;rw [dt,dC,eR] at hS;dsimp only [dQ,fJ,dP,fI,fL,lp] at hS;have hq:=fm hS hw;revert hq hS hw;(repeat first|clear hq|clear hS|clear hw|revert hc|revert R|revert K);refine Wu (J2 (Tg.mk (n:=10) (λ{A L K k}=>eY (A:=A) (L:=L) (K:=K) (k:=k) (zj cy s))) (Tg.mk (n:=34) @Wk)) (J3 h1 ym bz) ?_<;>(unhygienic intros);exact⟨_,by first|rfl|(simp;rfl),trivial,ah.bO hS (.s .z (.s (by repeat' (first|apply ay.z|apply ay.s)) .z))⟩
 cases hs:t.aT with
 | true=>
   have ym:t.d.aT=true:=hs;have e:t.sX ⟨op,i1,i2,i3,bQ⟩ s=t:=by
    unfold aU.sX;rw [if_neg h1,if_pos hs]
   rw [e];intro A F hw dm;refine aF Tryz.func91 λ_=>?_;dsimp only [aa,ag] at dm;obtain⟨⟨cy,ep,ka,eX,vs,vo⟩,hS⟩:=gk.open dm .z;clear dm;dsimp only [iK,aa,ag] at hS;rw [dt,dC,eR] at hS;dsimp only [dQ,fJ,dP,fI,fL,lp] at hS;have hq:=fm hS hw;revert hq hS hw;(repeat first|clear hq|clear hS|clear hw|revert hc|revert R|revert K);refine W (J1 (Tg.mk (n:=10) (λ{A L K k}=>eY (A:=A) (L:=L) (K:=K) (k:=k) (zj cy s)))) (J3 h1 ym bz) ?_<;>(unhygienic intros);refine⟨_,by first|rfl|(simp;rfl),by first|trivial|rfl|(simp;done),?_⟩;apply gk.bO
   (·exact sA)
   . dsimp only [iK,aU.oT,aU.to,aU.oP,aU.fX,aU.fA,aU.jZ,aU.d]
     (try simp only [dt,dC,eR])
     (·first|exact pA|exact kA)
   (·first|exact pA|exact kA)
   all_goals(first|exact 0|exact undef)
 | false=>
   have ym:t.d.aT=false:=hs;by_cases h2:op=10
   . subst h2;have ha:=r1 rfl;have e:t.sX ⟨10,i1,i2,i3,bQ⟩ s=(t.fA i1 1 s.value).oT:=by
      unfold aU.sX;rw [if_neg h1,if_neg (by rw [hs];decide),if_pos rfl]
     rw [e];intro A F hw dm;refine aF Tryz.func91 λ_=>?_;dsimp only [aa,ag] at dm;obtain⟨⟨cy,ep,ka,eX,vs,vo⟩,hS⟩:=gk.open dm .z;clear dm;dsimp only [iK,aa,ag] at hS;rw [dt,dC,eR] at hS;dsimp only [dQ,fJ,dP,fI,fL,lp] at hS;have hq:=fm hS hw;revert hq hS hw;(repeat first|clear hq|clear hS|clear hw|revert hc|revert R|revert K);refine Wu (J3 (Tg.mk (n:=10) (λ{A L K k}=>eY (A:=A) (L:=L) (K:=K) (k:=k) (zj cy s))) (Tg.mk (n:=36) (λx1 x2 x3 x4 x5 x6=>Jg b cy t.d x1 x2 x3 x4 x5 x6 s t.eF i1 1 ha YK)) (Tg.mk (n:=37) (λx1 x2 x3 x4 x5 x6 x7 x8 x9=>kS b { t.d with dw:=t.d.dw.set i1 s.value } x1 x2 x3 x4 x5 x6 x7 x8 x9 ln))) (J3 h1 ym bz) ?_<;>(unhygienic intros);refine⟨_,by first|rfl|(simp;rfl),by first|trivial|rfl|(simp;done),?_⟩;apply gk.bO
     (·exact sA)
     . dsimp only [iK,aU.oT,aU.to,aU.oP,aU.fX,aU.fA,aU.jZ,aU.d]
       (try simp only [dt,dC,eR])
       (·first|exact pA|exact kA)
     (·first|exact pA|exact kA)
     all_goals(first|exact 0|exact undef)
   by_cases h3:op=14
   . subst h3;have ha:=r1 rfl;have e:t.sX ⟨14,i1,i2,i3,bQ⟩ s=(t.fA i1 2 s.value).oT:=by
      unfold aU.sX;rw [if_neg h1,if_neg (by rw [hs];decide),if_neg (show ¬(14:Int)=10 by decide),if_pos rfl]
     rw [e];intro A F hw dm;refine aF Tryz.func91 λ_=>?_;dsimp only [aa,ag] at dm;obtain⟨⟨cy,ep,ka,eX,vs,vo⟩,hS⟩:=gk.open dm .z;clear dm;dsimp only [iK,aa,ag] at hS;rw [dt,dC,eR] at hS;dsimp only [dQ,fJ,dP,fI,fL,lp] at hS;have hq:=fm hS hw;revert hq hS hw;(repeat first|clear hq|clear hS|clear hw|revert hc|revert R|revert K);refine Wu (J3 (Tg.mk (n:=10) (λ{A L K k}=>eY (A:=A) (L:=L) (K:=K) (k:=k) (zj cy s))) (Tg.mk (n:=36) (λx1 x2 x3 x4 x5 x6=>Jg b cy t.d x1 x2 x3 x4 x5 x6 s t.eF i1 2 ha YK)) (Tg.mk (n:=37) (λx1 x2 x3 x4 x5 x6 x7 x8 x9=>kS b { t.d with dw:=t.d.dw.set i1 s.value } x1 x2 x3 x4 x5 x6 x7 x8 x9 ln))) (J3 h1 ym bz) ?_<;>(unhygienic intros);refine⟨_,by first|rfl|(simp;rfl),by first|trivial|rfl|(simp;done),?_⟩;apply gk.bO
     (·exact sA)
     . dsimp only [iK,aU.oT,aU.to,aU.oP,aU.fX,aU.fA,aU.jZ,aU.d]
       (try simp only [dt,dC,eR])
       (·first|exact pA|exact kA)
     (·first|exact pA|exact kA)
     all_goals(first|exact 0|exact undef)
   have e:t.sX ⟨op,i1,i2,i3,bQ⟩ s=t.oT:=by
    unfold aU.sX;rw [if_neg h1,if_neg (by rw [hs];decide),if_neg h2,if_neg h3]
   rw [e];intro A F hw dm;refine aF Tryz.func91 λ_=>?_;dsimp only [aa,ag] at dm;obtain⟨⟨cy,ep,ka,eX,vs,vo⟩,hS⟩:=gk.open dm .z;clear dm;dsimp only [iK,aa,ag] at hS;rw [dt,dC,eR] at hS;dsimp only [dQ,fJ,dP,fI,fL,lp] at hS;have hq:=fm hS hw;revert hq hS hw;(repeat first|clear hq|clear hS|clear hw|revert hc|revert R|revert K);refine Wu (J2 (Tg.mk (n:=10) (λ{A L K k}=>eY (A:=A) (L:=L) (K:=K) (k:=k) (zj cy s))) (Tg.mk (n:=37) (λx1 x2 x3 x4 x5 x6 x7 x8 x9=>kS b t.d x1 x2 x3 x4 x5 x6 x7 x8 x9 ln))) (J5 h1 ym h2 h3 bz) ?_<;>(unhygienic intros);refine⟨_,by first|rfl|(simp;rfl),by first|trivial|rfl|(simp;done),?_⟩;apply gk.bO
   (·exact sA)
   . dsimp only [iK,aU.oT,aU.to,aU.oP,aU.fX,aU.fA,aU.jZ,aU.d]
     (try simp only [dt,dC,eR])
     (·first|exact pA|exact kA)
   (·first|exact pA|exact kA)
   all_goals(first|exact 0|exact undef)
end
end Go.Stx
