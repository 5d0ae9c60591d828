/-
 The program's places and jumps of an instruction; where a jump may go; the check at a position.
-/
import Derived.Test.YtnnbecihffpedaaGreatDoorG03
import Derived.Lib.LaidU8
import Derived.Shelf.Vars
import Derived.LaidMore
import Derived.Test.YtnnbecihffpedaaGreatDoorRows
import Derived.Deep.Slices
import Derived.Deep.Matrix
import Derived.SizedLaws
import Derived.Lib.SmallJoins
set_option linter.unusedVariables false
set_option linter.unusedSimpArgs false
set_option linter.unusedSectionVars false
set_option maxRecDepth 20000
set_option maxHeartbeats 4000000
namespace Go.Stx
open Go Go.Proofs
attribute [local irreducible] TW bC cB aW az aG bZ cz
section
namespace TGFbK
theorem kI [Gl] {A:AW} {L:List It} {T:Prop} (hS:ah A L) (hw:A.Wf) (h':(aK A L/\ba A L/\bD L)=T:=by first|(dsimp only [aa,af,aK,ba,bD,dN];done)|exact rfl):T:=h'▸hS.dT hw
end TGFbK
open TGFbK
variable [Gl]
theorem pU (hF:FOK) (x:bg) (A:AW):az Tryz.prog 99 [.agg (ao x).toArray] A (λu A'=>u=.int .i64 (bT x)/\A=A'):=(DL hF x A).call ⟨rfl,rfl⟩
theorem DK (hF:FOK) (x:bg) (A:AW):az Tryz.prog 100 [.agg (ao x).toArray] A (λu A'=>u=.int .i64 (bk x)/\A=A'):=by
 refine az.rR (V:=.int .i64 (bk x)) (by simp) (λhw=>?_) (by kernel_rfl);refine aH Tryz.func100 λ_=>?_;obtain⟨op,a,b,c,bL⟩:=x;have kK:=λA=>pU hF ⟨op,a,b,c,bL⟩ A;simp only [ao] at kK;by_cases h0:bT ⟨op,a,b,c,bL⟩=0
 . rw [h0] at kK;by_cases o8:op=8
   . subst o8;have he:bk ⟨8,a,b,c,bL⟩=1:=(by unfold bk;rw [ay h0];rfl);rw [he];refine W (J1 @kK) (J2 @AW.ab @ao.eq_1) ?_<;>intros
     all_goals first|exact AW.le.alloc A _|(simp [aM,aS,bA,aN,aO]<;>exact AW.le.alloc A _)
   by_cases o9:op=9
   . subst o9;have he:bk ⟨9,a,b,c,bL⟩=1:=(by unfold bk;rw [ay h0];rfl);rw [he];refine W (J1 @kK) (J3 o8 @AW.ab @ao.eq_1) ?_<;>intros
     all_goals first|exact AW.le.alloc A _|(simp [aM,aS,bA,aN,aO]<;>exact AW.le.alloc A _)
   by_cases lH:op=10
   . subst lH;have he:bk ⟨10,a,b,c,bL⟩=1:=(by unfold bk;rw [ay h0];rfl);rw [he];refine W (J1 @kK) (J4 o8 o9 @AW.ab @ao.eq_1) ?_<;>intros
     all_goals first|exact AW.le.alloc A _|(simp [aM,aS,bA,aN,aO]<;>exact AW.le.alloc A _)
   by_cases o11:op=11
   . subst o11;have he:bk ⟨11,a,b,c,bL⟩=1:=(by unfold bk;rw [ay h0];rfl);rw [he];refine W (J1 @kK) (J5 o8 o9 lH @AW.ab @ao.eq_1) ?_<;>intros
     all_goals first|exact AW.le.alloc A _|(simp [aM,aS,bA,aN,aO]<;>exact AW.le.alloc A _)
   by_cases o14:op=14
   . subst o14;have he:bk ⟨14,a,b,c,bL⟩=1:=(by unfold bk;rw [ay h0];rfl);rw [he];refine W (J1 @kK) (J6 o8 o9 lH o11 @AW.ab @ao.eq_1) ?_<;>intros
     all_goals first|exact AW.le.alloc A _|(simp [aM,aS,bA,aN,aO]<;>exact AW.le.alloc A _)
   by_cases o15:op=15
   . subst o15;have he:bk ⟨15,a,b,c,bL⟩=1:=(by unfold bk;rw [ay h0];rfl);rw [he];refine W (J1 @kK) (J7 o8 o9 lH o11 o14 @AW.ab @ao.eq_1) ?_<;>intros
     all_goals first|exact AW.le.alloc A _|(simp [aM,aS,bA,aN,aO]<;>exact AW.le.alloc A _)
   by_cases o7:op=7
   . subst o7;have he:bk ⟨7,a,b,c,bL⟩=2:=(by unfold bk;rw [ay h0];rfl);rw [he];refine W (J1 @kK) (J8 o8 o9 lH o11 o14 o15 @AW.ab @ao.eq_1) ?_<;>intros
     all_goals first|exact AW.le.alloc A _|(simp [aM,aS,bA,aN,aO]<;>exact AW.le.alloc A _)
   by_cases o12:op=12
   . subst o12;have he:bk ⟨12,a,b,c,bL⟩=2:=(by unfold bk;rw [ay h0];rfl);rw [he];refine W (J1 @kK) (J9 o8 o9 lH o11 o14 o15 o7 @AW.ab @ao.eq_1) ?_<;>intros
     all_goals first|exact AW.le.alloc A _|(simp [aM,aS,bA,aN,aO]<;>exact AW.le.alloc A _)
   by_cases o13:op=13
   . subst o13;have he:bk ⟨13,a,b,c,bL⟩=2:=(by unfold bk;rw [ay h0];rfl);rw [he];refine W (J1 @kK) (GK o8 o9 lH o11 o14 o15 o7 o12 @AW.ab @ao.eq_1) ?_<;>intros
     all_goals first|exact AW.le.alloc A _|(simp [aM,aS,bA,aN,aO]<;>exact AW.le.alloc A _)
   by_cases o16:op=16
   . subst o16;have he:bk ⟨16,a,b,c,bL⟩=2:=(by unfold bk;rw [ay h0];rfl);rw [he];refine W (J1 @kK) (IX o8 o9 lH o11 o14 o15 o7 o12 o13 @AW.ab @ao.eq_1) ?_<;>intros
     all_goals first|exact AW.le.alloc A _|(simp [aM,aS,bA,aN,aO]<;>exact AW.le.alloc A _)
   by_cases o17:op=17
   . subst o17;have he:bk ⟨17,a,b,c,bL⟩=2:=(by unfold bk;rw [ay h0];rfl);rw [he];refine W (J1 @kK) (rL o8 o9 lH o11 o14 o15 o7 o12 o13 o16 @AW.ab @ao.eq_1) ?_<;>intros
     all_goals first|exact AW.le.alloc A _|(simp [aM,aS,bA,aN,aO]<;>exact AW.le.alloc A _)
   have he:bk ⟨op,a,b,c,bL⟩=0:=(by unfold bk;rw [ay h0];dsimp only;rw [ap (by omega),ap (by omega)]);rw [he];refine W (J1 @kK) (kM o8 o9 lH o11 o14 o15 o7 o12 o13 o16 o17 @AW.ab @ao.eq_1) ?_<;>intros
   all_goals first|exact AW.le.alloc A _|(simp [aM,aS,bA,aN,aO]<;>exact AW.le.alloc A _)
 have he:bk ⟨op,a,b,c,bL⟩=0:=by unfold bk;rw [ap h0]
 rw [he];refine W (J1 @kK) (J3 h0 @AW.ab @ao.eq_1) ?_<;>intros
 all_goals first|exact AW.le.alloc A _|(simp [aM,aS,bA,aN,aO]<;>exact AW.le.alloc A _)
theorem DJ (hF:FOK) (x:bg) (A:AW):az Tryz.prog 165 [.agg (ao x).toArray] A (λu A'=>u=.tuple #[.int .i64 ((dK x).getD 0),.bool (dK x).isSome]/\A=A'):=by
 refine az.rR (V:=.tuple #[.int .i64 ((dK x).getD 0),.bool (dK x).isSome]) (da.tuple (by simp)) (λhw=>?_) (by kernel_rfl);refine aH Tryz.func165 λ_=>?_;obtain⟨op,a,b,c,bL⟩:=x;have kK:=λA=>pU hF ⟨op,a,b,c,bL⟩ A;simp only [ao] at kK;by_cases h0:bT ⟨op,a,b,c,bL⟩=0
 . rw [h0] at kK;by_cases o4:op=4
   . subst o4;have he:dK ⟨4,a,b,c,bL⟩=some bL:=(by unfold dK;rw [ay ⟨h0,by dsimp only;omega⟩]);rw [he];refine W (J1 @kK) (J2 @AW.ab @ao.eq_1) ?_<;>intros
     all_goals first|exact AW.le.alloc A _|(simp [aM,aS,bA,aN,aO]<;>exact AW.le.alloc A _)
   by_cases o5:op=5
   . subst o5;have he:dK ⟨5,a,b,c,bL⟩=some bL:=(by unfold dK;rw [ay ⟨h0,by dsimp only;omega⟩]);rw [he];refine W (J1 @kK) (J3 o4 @AW.ab @ao.eq_1) ?_<;>intros
     all_goals first|exact AW.le.alloc A _|(simp [aM,aS,bA,aN,aO]<;>exact AW.le.alloc A _)
   by_cases o6:op=6
   . subst o6;have he:dK ⟨6,a,b,c,bL⟩=some bL:=(by unfold dK;rw [ay ⟨h0,by dsimp only;omega⟩]);rw [he];refine W (J1 @kK) (J4 o4 o5 @AW.ab @ao.eq_1) ?_<;>intros
     all_goals first|exact AW.le.alloc A _|(simp [aM,aS,bA,aN,aO]<;>exact AW.le.alloc A _)
   have he:dK ⟨op,a,b,c,bL⟩=none:=(by unfold dK;rw [ap (λh=>by have:=h.2;dsimp only at this;omega)]);rw [he];refine W (J1 @kK) (J5 o4 o5 o6 @AW.ab @ao.eq_1) ?_<;>intros
   all_goals first|exact AW.le.alloc A _|(simp [aM,aS,bA,aN,aO]<;>exact AW.le.alloc A _)
 have he:dK ⟨op,a,b,c,bL⟩=none:=by unfold dK;rw [ap (λh=>h0 h.1)]
 rw [he];refine W (J1 @kK) (J3 h0 @AW.ab @ao.eq_1) ?_<;>intros
 all_goals first|exact AW.le.alloc A _|(simp [aM,aS,bA,aN,aO]<;>exact AW.le.alloc A _)
def Oq (p:List bg) (k:Nat) (b:Option Nat) (x:bg):Int:=match dK x with
 | some n=>if eS p k b n=true then 0 else 42
 | none=>0
theorem Hc (hF:FOK) (v:Value) (p:List bg) (k:Nat) (b:Option Nat) (A:AW) (h:kl A v p) (hl:p.length<=64) (hk:k<p.length) (hb:∀d,b=some d->d<p.length) :
 az Tryz.prog 101 [v,.int .i64 k,.int .i64 (eI b)] A (λu A'=>u=.int .i64 (Oq p k b p[k])/\A=A'):=by
 refine aH Tryz.func101 λhw=>?_;obtain⟨o,c,rfl,_⟩:=h.dO;obtain⟨q,cD,FY,cH,fo,hcell⟩:=h.at hk;subst FY;have hP:IntKind.i64.wrap ((k:Int)+1)=((k+1:Nat):Int):=an (by omega) (by omega);generalize p[k]=x at hcell;have dk:=tF hcell;have cS:=λB=>DJ hF x B;have Kh:=@B2 x;have Ru:=@rW x;unfold Oq;obtain⟨op,a,b',c',bL⟩:=x;simp only at Ru Kh dk;simp only [ao] at hcell cS;generalize dK ⟨op,a,b',c',bL⟩=sk at cS Ru;cases sk with
 | none=>
   repeat' (first|(refine jK λR hR=>?_;simp [an,ax,cH,dk,hcell,fo,hk,hP];try simp (disch:=omega) only [ay,ap,an,ax])|(refine hR _ _ ?_;clear hR R)|(refine hK _ _ ?_;clear hK K)|refine nx ?_|refine wn λK hK=>?_|simp only [wS]|(refine bV (cS _) ?_;rintro _ _ ⟨rfl,rfl⟩ _ _)|(show cB _ _ _ _ _ _;refine nx ?_)|(refine wc rfl (λhc=>?_) (λhc=>?_)<;>(try simp at hc)<;>(try omega))|(refine ib (λhc=>?_) (λhc=>?_)<;>(try omega)<;>(try simp (disch:=omega) only [ay,ap])))
   all_goals simp [aM,aS,bA,aN,aO]
 | some n=>
   obtain⟨rfl,g1,g2⟩:=Ru rfl;obtain⟨g3,g4⟩:=Kh g1 g2;obtain⟨m,hm⟩:∃m:Nat,n=m:=⟨n.toNat,by omega⟩;subst hm;have B4:IntKind.i64.wrap (((k+1:Nat):Int)+m)=((k+1+m:Nat):Int):=an (by omega) (by omega);have uK:IntKind.i64.wrap ((k:Int)+1+m)=((k+1+m:Nat):Int):=an (by omega) (by omega);have hT:eS p k b (m:Int)=if p.length<k+1+m then false else match (generalizing:=false) b with
    | some b=>decide (k+1+m<=cQ p b)
    | none=>!fX p k (k+1+m):=by unfold eS;simp only [Int.toNat_natCast];cases b<;>rfl
   simp only [hT];generalize ht:k+1+m=t at B4 uK hT;by_cases q1:p.length<t
   . rw [ay q1,ap (by simp)];refine W (J1 @cS) (J9 cH dk hcell fo hk hP B4 uK q1) ?_<;>intros
     all_goals simp [aM,aS,bA,aN,aO]
   rw [ap q1];cases b with
   | some d=>
     have hd:=hb d rfl;have sR:¬((d:Int)<0):=(by omega);have uL:(0:Int)<=d:=(by omega);have cE:=tP _ p d A h (by omega) hd;simp only [eI];by_cases q2:t<=cQ p d
     . have q3:¬cQ p d<t:=(by omega);rw [ay (by simp [q2])];refine W (J2 @cS @cE) (kM cH dk hcell fo hk hP B4 uK q1 q2 q3 sR uL) ?_<;>intros
       all_goals simp [aM,aS,bA,aN,aO]
     have q3:cQ p d<t:=(by omega);rw [ap (by simp [q3])];refine W (J2 @cS @cE) (kM cH dk hcell fo hk hP B4 uK q1 q2 q3 sR uL) ?_<;>intros
     all_goals simp [aM,aS,bA,aN,aO]
   | none=>
     have cI:=MQ _ p k t A h (by omega) hk (by omega);simp only [eI];generalize fX p k t=it at cI;cases it with
     | true=>
       rw [ap (by simp)];refine W (J2 @cS @cI) (J9 cH dk hcell fo hk hP B4 uK q1) ?_<;>intros
       all_goals simp [aM,aS,bA,aN,aO]
     | false=>
       rw [ay (by simp)];refine W (J2 @cS @cI) (J9 cH dk hcell fo hk hP B4 uK q1) ?_<;>intros
       all_goals simp [aM,aS,bA,aN,aO]
set_option maxHeartbeats 8000000 in
theorem OO (hF:FOK) (v:Value) (p:List bg) (k:Nat) (b:Option Nat) (A:AW) (h:kl A v p) (hl:p.length<=64) (hk:k<p.length) (hb:∀d,b=some d->d<p.length) :
 az Tryz.prog 59 [v,.int .i64 k,.int .i64 (eI b)] A (λu A'=>u=.int .i64 (rx (eS p) k b p[k])/\A=A'):=by
 refine aH Tryz.func59 λhw=>?_;have cT:=Hc hF v p k b A h hl hk hb;obtain⟨o,c,rfl,_⟩:=h.dO;obtain⟨q,cD,FY,cH,fo,hcell⟩:=h.at hk;subst FY;generalize p[k]=x at hcell cT;have dk:=tF hcell;have cI:=λB=>pU hF x B;have cP:=λB=>DK hF x B
 have hE:rx (eS p) k b x=if bT x=0 then
  if (x.op=7/\b.isSome=true)\/(x.op=8/\b.isSome=false) then 40
  else if (bk x=1/\b.isSome=false)\/(bk x=2/\b.isSome=true) then 41
  else Oq p k b x else bT x:=by unfold rx Oq;rfl
 rw [hE];clear hE;generalize Oq p k b x=te at cT;obtain⟨op,a,b',c',bL⟩:=x;simp only at dk;simp only [ao] at hcell cI cP;generalize bk ⟨op,a,b',c',bL⟩=pl at cP;generalize bT ⟨op,a,b',c',bL⟩=e at cI;by_cases e0:e=0
 rotate_left
 . rw [ap e0]
   repeat' (first|(refine jK λR hR=>?_;simp [an,ax,cH,dk,hcell,fo,hk,e0];try simp (disch:=omega) only [ay,ap,an,ax])|(refine hR _ _ ?_;clear hR R)|(refine hK _ _ ?_;clear hK K)|refine nx ?_|refine wn λK hK=>?_|simp only [wS]|(refine bV (cI _) ?_;rintro _ _ ⟨rfl,rfl⟩ _ _)|(show cB _ _ _ _ _ _;refine nx ?_)|(refine wc rfl (λhc=>?_) (λhc=>?_)<;>(try simp at hc)<;>(try omega))|(refine ib (λhc=>?_) (λhc=>?_)<;>(try omega)<;>(try simp (disch:=omega) only [ay,ap])))
   all_goals simp [aM,aS,bA,aN,aO]
 subst e0;rw [ay rfl];cases b with
 | none=>
   simp only [eI] at cT ⊢;by_cases ob:op=8
   . subst ob;rw [ay (by simp)];refine W (J3 @cI @cP @cT) (J5 cH dk hcell fo hk) ?_<;>intros
     all_goals simp [aM,aS,bA,aN,aO]
   rw [ap (by simp [ob])];by_cases oo:op=7
   . subst oo;by_cases pb:pl=1
     . subst pb;rw [ay (by simp)];refine W (J3 @cI @cP @cT) (J6 cH dk hcell fo hk ob) ?_<;>intros
       all_goals simp [aM,aS,bA,aN,aO]
     rw [ap (by simp [pb])];by_cases po:pl=2
     . subst po;refine W (J3 @cI @cP @cT) (J6 cH dk hcell fo hk ob) ?_<;>intros
       all_goals simp [aM,aS,bA,aN,aO]
     skip
     refine W (J3 @cI @cP @cT) (J8 cH dk hcell fo hk ob pb po) ?_<;>intros
     all_goals simp [aM,aS,bA,aN,aO]
   skip
   by_cases pb:pl=1
   . subst pb;rw [ay (by simp)];refine W (J3 @cI @cP @cT) (J7 cH dk hcell fo hk ob oo) ?_<;>intros
     all_goals simp [aM,aS,bA,aN,aO]
   rw [ap (by simp [pb])];by_cases po:pl=2
   . subst po;refine W (J3 @cI @cP @cT) (J7 cH dk hcell fo hk ob oo) ?_<;>intros
     all_goals simp [aM,aS,bA,aN,aO]
   skip
   refine W (J3 @cI @cP @cT) (J9 cH dk hcell fo hk ob oo pb po) ?_<;>intros
   all_goals simp [aM,aS,bA,aN,aO]
 | some d=>
   simp only [eI] at cT ⊢;have sR:¬((d:Int)<0):=(by omega);have uL:(0:Int)<=d:=(by omega);by_cases ob:op=7
   . subst ob;rw [ay (by simp)];refine W (J3 @cI @cP @cT) (J7 cH dk hcell fo hk sR uL) ?_<;>intros
     all_goals simp [aM,aS,bA,aN,aO]
   rw [ap (by simp [ob])];by_cases oo:op=8
   . subst oo;by_cases pb:pl=2
     . subst pb;rw [ay (by simp)];refine W (J3 @cI @cP @cT) (J8 cH dk hcell fo hk sR uL ob) ?_<;>intros
       all_goals simp [aM,aS,bA,aN,aO]
     rw [ap (by simp [pb])];by_cases po:pl=1
     . subst po;refine W (J3 @cI @cP @cT) (J8 cH dk hcell fo hk sR uL ob) ?_<;>intros
       all_goals simp [aM,aS,bA,aN,aO]
     skip
     refine W (J3 @cI @cP @cT) (GK cH dk hcell fo hk sR uL ob pb po) ?_<;>intros
     all_goals simp [aM,aS,bA,aN,aO]
   skip
   by_cases pb:pl=2
   . subst pb;rw [ay (by simp)];refine W (J3 @cI @cP @cT) (J9 cH dk hcell fo hk sR uL ob oo) ?_<;>intros
     all_goals simp [aM,aS,bA,aN,aO]
   rw [ap (by simp [pb])];by_cases po:pl=1
   . subst po;refine W (J3 @cI @cP @cT) (J9 cH dk hcell fo hk sR uL ob oo) ?_<;>intros
     all_goals simp [aM,aS,bA,aN,aO]
   skip
   refine W (J3 @cI @cP @cT) (IX cH dk hcell fo hk sR uL ob oo pb po) ?_<;>intros
   all_goals simp [aM,aS,bA,aN,aO]
end
section
namespace TGFbL
theorem kI [Gl] {A:AW} {L:List It} {T:Prop} (hS:ah A L) (hw:A.Wf) (h':(aK A L/\ba A L/\bD L)=T:=by first|(dsimp only [aa,af,aK,ba,bD,dN];done)|exact rfl):T:=h'▸hS.dT hw
end TGFbL
open TGFbL
variable [Gl]
set_option maxHeartbeats 8000000 in
theorem tC (hF:FOK) (v:Value) (p:List bg) (A:AW) (h:kl A v p) :
 az Tryz.prog 29 [v] A (λu A'=>u=nd (cK p)/\A=A'):=by
 refine az.rR (V:=nd (cK p)) (da.tuple (by simp)) (λhw=>?_) (by kernel_rfl);refine aH Tryz.func29 λ_=>?_;obtain⟨o,c,rfl,_⟩:=h.dO;by_cases hL:64<p.length
 . have he:cK p=(0,3):=(by unfold cK;rw [ay hL]);rw [he];refine W cy (J1 hL) ?_<;>intros
   all_goals first|exact AW.le.refl A|(simp [aM,aS,bA,aN,aO,nd]<;>exact AW.le.refl A)
 have hl:p.length<2^30:=by omega
 have he:cK p=gX (eS p) (p.drop 0) 0 none:=by unfold cK;rw [ap hL];rfl
 generalize htgt:eS p=Ed at he;generalize cK p=RR at he ⊢;revert hw;(repeat first|clear hw|revert hc|revert R|revert K);refine W cy (J1 hL) ?_<;>(unhygienic intros)
 refine dW (λk fr A'=>A.le A'/\∃(i:Nat) (b:Option Nat),k=p.length-i/\i<=p.length/\(∀d,b=some d->d<i)/\fr 0=.slice o p.length c/\fr 11=.slice o p.length c/\fr 12=.int .i64 p.length/\fr 4=.int .i64 (eI b)/\fr 13=.int .i64 i/\
  RR=gX Ed (p.drop i) i b) p.length ?_ ?_
 exact⟨AW.le.refl A,0,none,rfl,Nat.zero_le _,by simp,rfl,rfl,rfl,rfl,rfl,he⟩;rintro k fr A' ⟨B9,i,b,rfl,hi,uM,h0,DQ,F4,h4,Ng,he⟩;by_cases cF:i<p.length
 . obtain⟨q,cD,FY,cH,fo,hcell⟩:=(h.le B9 hw).at cF;subst FY;have hP:=D9 (i:=i);have eE:p.drop i=p[i]::p.drop (i+1):=List.drop_eq_getElem_cons cF;rw [eE] at he;have cO:=λo o'=>OO hF _ p i b _ (h.le (B9.trans (AW.le.kQ A' o o')) hw) (by omega) cF (λd hd=>by have:=uM d hd;omega);rw [htgt] at cO;generalize p[i]=x at he hcell cO;clear eE;have dk:=tF hcell;unfold gX at he;generalize hE:rx Ed i b x=E at he cO;generalize hN:BO i b x=N at he;unfold BO at hN;obtain⟨op,a,b',c',bL⟩:=x;simp only at hN dk;simp only [ao] at hcell;by_cases e0:E=0;subst e0;rw [ay rfl] at he;by_cases o7:op=7;subst o7;rw [ay rfl] at hN;subst hN;refine bh ?_;refine W (J1 @cO) (rL h0 h4 DQ F4 Ng cH dk hcell fo cF hP bF) ?_<;>intros;refine⟨p.length-(i+1),by omega,B9.trans (AW.le.kQ A' _ _),i+1,some i,rfl,by omega,?_,?_,?_,?_,?_,?_,he⟩<;>simp [h0,h4,DQ,F4,Ng,eI];by_cases o8:op=8;subst o8;rw [ap (by decide),ay rfl] at hN;subst hN
   refine bh ?_;refine W (J1 @cO) (rL h0 h4 DQ F4 Ng cH dk hcell fo cF hP bF) ?_<;>intros;refine⟨p.length-(i+1),by omega,B9.trans (AW.le.kQ A' _ _),i+1,none,rfl,by omega,?_,?_,?_,?_,?_,?_,he⟩<;>simp [h0,h4,DQ,F4,Ng,eI];rw [ap o7,ap o8] at hN;subst hN;refine bh ?_;refine W (J1 @cO) (vD h0 h4 DQ F4 Ng cH dk hcell fo cF hP o7 o8 bF) ?_<;>intros;refine⟨p.length-(i+1),by omega,B9.trans (AW.le.kQ A' _ _),i+1,b,rfl,by omega,λd hd=>Nat.lt_succ_of_lt (uM d hd),?_,?_,?_,?_,?_,he⟩<;>simp [h0,h4,DQ,F4,Ng,eI];rw [ap e0] at he;refine bh ?_;refine W (J1 @cO) (kM h0 h4 DQ F4 Ng cH dk hcell fo cF hP e0 bF) ?_<;>intros
   all_goals first|exact B9.trans (AW.le.kQ A' _ _)|(simp [b7,aM,aS,bA,aN,aO,nd,he]<;>exact B9.trans (AW.le.kQ A' _ _))
 have C7:i=p.length:=by omega
 subst C7;rw [List.drop_length] at he;unfold gX at he;cases b with
 | none=>
   simp only [eI] at h4;refine bh ?_;refine W cy (J6 h0 h4 DQ F4 Ng cF) ?_<;>intros
   all_goals first|exact B9|(simp [b7,aM,aS,bA,aN,aO,nd,he]<;>exact B9)
 | some d=>
   simp only [eI] at h4;have sR:¬((d:Int)<0):=(by omega);have uL:(0:Int)<=d:=(by omega);refine bh ?_;refine W cy (J8 h0 h4 DQ F4 Ng cF sR uL) ?_<;>intros
   all_goals first|exact B9|(simp [b7,aM,aS,bA,aN,aO,nd,he]<;>exact B9)
def yH (p:List bg):Bool:=decide ((cK p).2=0)
theorem I5 (hF:FOK) (v:Value) (p:List bg) (A:AW) (h:kl A v p) :
 az Tryz.prog 252 [v] A (λu A'=>u=.bool (yH p)/\A=A'):=by
 refine aH Tryz.func252 λhw=>?_;have cC:=tC hF v p A h;unfold yH;unfold nd at cC;by_cases h0:(cK p).2=0
 . refine W (J1 @cC) (J1 h0) ?_<;>intros
   all_goals simp [aM,aS,bA,aN,aO,h0]
 refine W (J1 @cC) (J1 h0) ?_<;>intros
 all_goals simp [aM,aS,bA,aN,aO,h0]
def AL (p:List bg) (k:Nat):Int:=if yH p=true/\cu p k=7 then cQ p k else -1
theorem Iw (hF:FOK) (v:Value) (p:List bg) (k:Nat) (A:AW) (h:kl A v p) (hk:k<p.length) :
 az Tryz.prog 214 [v,.int .i64 k] A (λu A'=>u=.int .i64 (AL p k)/\A=A'):=by
 refine aH Tryz.func214 λhw=>?_;have cV:=I5 hF v p A h;unfold AL;cases hv:yH p with
 | false=>
   rw [hv] at cV;obtain⟨o,c,rfl,_⟩:=h.dO;refine W (J1 @cV) (J1 hk) ?_<;>intros
   all_goals simp [aM,aS,bA,aN,aO]
 | true=>
   rw [hv] at cV;have hl:p.length<=64:=(fY (p:=p) (by simpa [yH] using hv)).1;have cE:=tP v p k A h (by omega) hk;obtain⟨o,c,rfl,_⟩:=h.dO;obtain⟨q,cD,FY,cH,fo,hcell⟩:=h.at hk;subst FY;have dk:=tF hcell;have ho:cu p k=p[k].op:=ka (List.getElem?_eq_getElem hk);rw [ho];by_cases h7:p[k].op=7
   . refine W (J2 @cV @cE) (J5 hk cH dk fo h7) ?_<;>intros
     all_goals simp [aM,aS,bA,aN,aO,h7]
   refine W (J2 @cV @cE) (J5 hk cH dk fo h7) ?_<;>intros
   all_goals simp [aM,aS,bA,aN,aO,h7]
end
section
open Go.RowKit
theorem BS {α β:Type} {f:α->Option β}:∀(L:List α) (ys:List β),L.mapM f=some ys->∀x∈L,∃y,f x=some y
 | [],_,_,x,hx=>by simp at hx
 | a::L,ys,h,x,hx=>by
   rw [List.mapM_cons] at h;simp only [bind,Option.bind_eq_some_iff,pure,Option.some.injEq] at h;obtain⟨y,hy,zs,hz,_⟩:=h;rcases List.mem_cons.1 hx with rfl|hx;exact⟨y,hy⟩;exact BS L zs hz x hx
theorem Vo {α:Type} {cs:Array α} (h:cs.size=5):∃c0 c1 c2 c3 c4,cs = #[c0,c1,c2,c3,c4]:=by
 obtain⟨l⟩:=cs
 match l,h with
 | [c0,c1,c2,c3,c4],_=>exact⟨c0,c1,c2,c3,c4,rfl⟩
theorem okWide_arr5 {P:Program} {W:World} {k e:TypeId} (hu:P.underlying k=some (.array 5 e)) (size:P.cellsOf k=5) {r:Reach} {b0:Nat} {v:Value} (h:Value.okWide P W r b0 k v):∃xs:Array Value,v=.agg xs/\xs.size=5:=by
 simp only [Value.okWide,hu] at h;obtain⟨cs,h1,h2,_⟩:=h;exact⟨cs,h1,by rw [h2,size]⟩
theorem open_arr5 {H:Type} {enc:TypeId×Value->H} {P:Program} {W:World} {base:Nat} {sp:Nat->Bool} {UQ:Bool} {k e:TypeId} {q:IntKind} (hu:P.underlying k=some (.array 5 e)) (he:P.underlying e=some (.int q)) (aY:P.cellsOf e=1) (size:P.cellsOf k=5)
 {xs:Array Value} (hn:xs.size=5) {d:DataW H} {ps:List MemPlace} (hd:DataW.Trod enc P W base sp UQ k (.agg xs) d ps):∃a0 a1 a2 a3 a4,xs = #[.int q a0,.int q a1,.int q a2,.int q a3,.int q a4]:=by
 obtain⟨c0,c1,c2,c3,c4,rfl⟩:=Vo hn;obtain⟨fuel,hf⟩:=hd;cases fuel with
 | zero=>simp [DataW.trod] at hf
 | succ m=>
   rw [DataW.trod_step] at hf;unfold DataW.trodStep at hf;simp only [hu,Value.cells] at hf;rw [ay (by rw [size];rfl)] at hf;simp only [Option.map_eq_some_iff] at hf;obtain⟨ys,hy,_⟩:=hf;have hm:=BS _ ys hy;rw [aY] at hm;have g:∀i,i<5->∃a,([c0,c1,c2,c3,c4].drop (i*1)).take 1=[Value.int q a]:=λi hi=>by
    obtain⟨y,h1⟩:=hm i (List.mem_range.2 hi);obtain⟨a,h2,_⟩:=DataW.trod_int he h1;exact⟨a,h2⟩
   obtain⟨a0,e0⟩:=g 0 (by omega);obtain⟨a1,e1⟩:=g 1 (by omega);obtain⟨a2,e2⟩:=g 2 (by omega);obtain⟨a3,e3⟩:=g 3 (by omega);obtain⟨a4,e4⟩:=g 4 (by omega);simp at e0 e1 e2 e3 e4;subst e0 e1 e2 e3 e4;exact⟨a0,a1,a2,a3,a4,rfl⟩
theorem Kw:(YtnnbecihffpedaaGreatDoor.Rows.laid_strongtx_isa_forms:DataW Unit)=.agg (i6.map λx=>.agg [.lit (.string x.1),.lit (.string x.2)]):=by rfl
theorem Ci {W:World} (h:Lib.VarReads Tryz.prog W "strongtx/isa.forms" YtnnbecihffpedaaGreatDoor.Rows.laid_strongtx_isa_forms):∃e fr,W.heap[0]? = some (.cells fx.toArray e fr):=by
 rw [Kw] at h;obtain⟨g,t,cs,fuel,p,hg,ht,hv,hd⟩:=h;have yp:Tryz.prog.globalNamed "strongtx/isa.forms" = some 0:=by kernel_rfl
 obtain rfl:=Option.some.inj (yp.symm.trans hg);have ht0:(Tryz.prog.globals[0]?).map (·.type)=some 281:=by kernel_rfl
 obtain rfl:=Option.some.inj (ht0.symm.trans ht);have hcs:∃e fr,W.heap[0]? = some (.cells cs e fr):=by
  unfold World.var? at hv;rw [yp] at hv;simp only [Option.bind_some] at hv;split at hv;rename_i c e fr hh;injection hv with hv;subst hv;exact⟨e,fr,hh⟩;cases hv
 obtain⟨e,fr,hh⟩:=hcs;refine⟨e,fr,?_⟩;rw [hh];congr 2;obtain⟨xs,m,_,hx,hl,b6,hf⟩:=DataW.trod_array (P:=Tryz.prog) (n:=18) (e:=280) Tryz.underlying281 hd;have c89:Tryz.prog.cellsOf 280=2:=by kernel_rfl
 have c9:Tryz.prog.cellsOf 9=1:=by kernel_rfl
 have c90:Tryz.prog.cellsOf 281=36:=by kernel_rfl
 rw [c89] at hf;injection hx with hx _;injection hx with hx;have key:∀i (hi:i<18),cs.toList[i*2]? = some (.string (bs (i6.getD i ([],[])).1))/\cs.toList[i*2+1]? = some (.string (bs (i6.getD i ([],[])).2)):=by
  intro i hi;obtain⟨y,hy⟩:∃y,xs[i]? = some y:=⟨_,List.getElem?_eq_getElem (by rw [b6];exact hi)⟩;have h1:=(hf i hi).trans hy;obtain⟨zs,m2,_,hz,Kg,S1,IU⟩:=DataW.trod_struct Tryz.underlying280 h1;have nz:∀i,i<2->∃y,zs[i]? = some y:=λi hi=>⟨_,List.getElem?_eq_getElem (by rw [S1];exact hi)⟩;obtain⟨z0,d0⟩:=nz 0 (by omega);obtain⟨z1,d1⟩:=nz 1 (by omega);have r0:DataW.trod (λ_=>()) Tryz.prog W 0 (λ_=>true) false m2 9 ((((cs.toList.drop (i*2)).take 2).drop 0).take (Tryz.prog.cellsOf 9))=some z0:=(IU 0 _ rfl).trans d0;have r1:DataW.trod (λ_=>()) Tryz.prog W 0 (λ_=>true) false m2 9 ((((cs.toList.drop (i*2)).take 2).drop 1).take (Tryz.prog.cellsOf 9))=some z1:=(IU 1 _ rfl).trans d1;rw [c9] at r0 r1;obtain⟨s0,q0,x0,_⟩:=DataW.trod_string Tryz.underlying9 r0;obtain⟨s1,q1,x1,_⟩:=DataW.trod_string Tryz.underlying9 r1;have g0:=congrArg (·[0]?) q0;have g1:=congrArg (·[0]?) q1;simp [List.getElem?_take,List.getElem?_drop] at g0 g1
  have hyz:y.1=.agg [.lit (.string s0.data.toList),.lit (.string s1.data.toList)]:=by
   rw [hz];have:zs=[z0,z1]:=by
    apply List.ext_getElem?;intro j;have hl3:zs.length=2:=S1;by_cases h0:j=0;subst h0;rw [d0];rfl;by_cases h1:j=1;subst h1;rw [d1];rfl;rw [List.getElem?_eq_none (by omega),List.getElem?_eq_none (by simp;omega)]
   rw [this,x0,x1];rfl
  have hxi:=congrArg (·[i]?) hx;simp only [List.getElem?_map,hy,Option.map_some] at hxi;have hfi:i6[i]? = some (i6.getD i ([],[])):=by
   rw [List.getD_eq_getElem?_getD,List.getElem?_eq_getElem (show i<i6.length from hi)];rfl
  rw [hfi] at hxi;simp only [Option.map_some,Option.some.injEq] at hxi;have Um:=hxi.trans hyz;generalize i6.getD i ([],[])=nm at Um ⊢;simp only [DataW.agg.injEq,List.cons.injEq,DataW.lit.injEq,Lit.string.injEq,and_true] at Um;obtain⟨u0,u1⟩:=Um;rw [u0,u1];exact⟨by rw [Array.getElem?_toList];exact g0,by rw [Array.getElem?_toList];exact g1⟩
 have iR:cs.toList.length=36:=by rw [hl,c90]
 apply Array.ext';show cs.toList=fx;apply List.ext_getElem?;intro j;by_cases hj:j<36;have hk:=key (j / 2) (by omega);have RK:∀i,i<18->fx[i*2]? = some (.string (bs (i6.getD i ([],[])).1))/\fx[i*2+1]? = some (.string (bs (i6.getD i ([],[])).2)):=by
  intro i hi;have:i=0\/i=1\/i=2\/i=3\/i=4\/i=5\/i=6\/i=7\/i=8\/i=9\/i=10\/i=11\/i=12\/i=13\/i=14\/i=15\/i=16\/i=17:=by omega
  rcases this with rfl|rfl|rfl|rfl|rfl|rfl|rfl|rfl|rfl|rfl|rfl|rfl|rfl|rfl|rfl|rfl|rfl|rfl<;>exact⟨rfl,rfl⟩
 have hf:=RK (j / 2) (by omega);by_cases hm:j % 2=0;have e:j=j / 2*2:=by omega
 rw [e,hk.1,hf.1];have e:j=j / 2*2+1:=by omega
 rw [e,hk.2,hf.2];rw [List.getElem?_eq_none (by omega),List.getElem?_eq_none (by show fx.length<=j;have:fx.length=36:=rfl;omega)]
@[reducible] def glOf (W:World):Gl:={ B:=λb=>if b<4 then W.heap[b]? else none,ok:=λg=>g == 0,N:=4,lt:=λg h=>by have:=eq_of_beq h;omega }
theorem laid_self (W:World):∀b x,(glOf W).B b=some x->W.heap[b]? = some x:=λb x h=>by
 have h':(if b<4 then W.heap[b]? else none)=some x:=h;split at h';exact h';cases h'
theorem fok_of {W:World} (h:Lib.VarReads Tryz.prog W "strongtx/isa.forms" YtnnbecihffpedaaGreatDoor.Rows.laid_strongtx_isa_forms):@FOK (glOf W):=by
 obtain⟨e,fr,hh⟩:=Ci h;exact @FOK.mk (glOf W) rfl rfl ⟨e,fr,hh⟩
section
variable [Gl]
theorem JU {m:Mp} (a0 a1 a2 a3 a4:Int):bu m (.agg #[.int .i64 a0,.int .i64 a1,.int .i64 a2,.int .i64 a3,.int .i64 a4]) (.agg #[.int .i64 a0,.int .i64 a1,.int .i64 a2,.int .i64 a3,.int .i64 a4]):=by
 refine .agg rfl λi v v' h1 h2=>?_;rw [h1] at h2;injection h2 with h2;subst h2;have hi:=(Array.getElem?_eq_some_iff.1 h1).1;have:i=0\/i=1\/i=2\/i=3\/i=4:=by simp at hi;omega
 rcases this with rfl|rfl|rfl|rfl|rfl<;>simp at h1<;>subst h1<;>exact .int _ _
def IntsIn (k:IntKind) (w:World) (a:Option Addr) (len ee:Nat) (zs:List Int):Prop:=
 (a=none/\len=0/\ee=0/\zs=[])\/∃x,a=some x/\len<=ee/\ee<=maxLen/\zs.length=ee/\(∀i,i<zs.length->w.cell? (x.add i)=some (.int k (zs.getD i 0)))/\∀n∈zs,(Lit.int k n).wf=true
end
end
end Go.Stx
