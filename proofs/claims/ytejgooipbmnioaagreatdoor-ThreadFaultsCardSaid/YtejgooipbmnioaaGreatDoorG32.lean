/-
 The program's places and jumps of an instruction; where a jump may go; the check at a position.
-/
import Derived.Test.YtejgooipbmnioaaGreatDoorG31
set_option linter.unusedVariables false
set_option linter.unusedSimpArgs false
set_option linter.unusedSectionVars false
set_option maxRecDepth 20000
set_option maxHeartbeats 4000000
namespace Go.Stx
open Go Go.Proofs
attribute [local irreducible] TW cg eg bn aC aV cR df
section
namespace TGFbK
theorem jD [Gl] {A:AW} {L:List It} {T:Prop} (hS:ak A L) (hw:A.Wf) (h':(bg A L∧bB A L∧cj L)=T:=by first|(dsimp only [af,ag,bg,bB,cj,eA];done)|exact rfl):T:=h'▸hS.eu hw
end TGFbK
open TGFbK
variable [Gl]
theorem oF (hF:FOK) (x:cz) (A:AW):aC Tryz.prog 137 [.agg (aP x).toArray] A (fun u A'=>u=.int .i64 (dL x)∧A=A'):=(AA hF x A).call ⟨rfl,rfl⟩
set_option maxHeartbeats 4000000 in
theorem Az (hF:FOK) (x:cz) (A:AW):aC Tryz.prog 138 [.agg (aP x).toArray] A (fun u A'=>u=.int .i64 (cU x)∧A=A'):=by
 refine aC.DP (V:=.int .i64 (cU x)) (by simp) (fun hw=>?_) (by kernel_rfl)
 refine ab Tryz.func138 rfl (by kernel_rfl) fun _=>?_
 obtain⟨op,a,b,c,cQ⟩:=x
 have yX:=fun A=>oF hF ⟨op,a,b,c,cQ⟩ A
 simp only [aP] at yX
 by_cases h0:dL ⟨op,a,b,c,cQ⟩=0
 · rw [h0] at yX
   by_cases o8:op=8
   · subst o8
     have he:cU ⟨8,a,b,c,cQ⟩=1:=by unfold cU;rw [if_pos h0];rfl
     rw [he]
     revert hw;refine W (J1 @yX) (J2 @AW.aa @aP.eq_1) (J1 ?_)<;>unhygienic intros
     all_goals first|exact AW.le.alloc A _|(simp [bH,bO,cH,bI,bM]<;>exact AW.le.alloc A _)
   by_cases o9:op=9
   · subst o9
     have he:cU ⟨9,a,b,c,cQ⟩=1:=by unfold cU;rw [if_pos h0];rfl
     rw [he]
     revert hw;(repeat first|clear hw|revert hc|revert zn|revert zA|revert R|revert K);refine W (J1 @yX) (J3 o8 @AW.aa @aP.eq_1) (J1 ?_)<;>unhygienic intros
     all_goals first|exact AW.le.alloc A _|(simp [bH,bO,cH,bI,bM]<;>exact AW.le.alloc A _)
   by_cases qr:op=10
   · subst qr
     have he:cU ⟨10,a,b,c,cQ⟩=1:=by unfold cU;rw [if_pos h0];rfl
     rw [he]
     revert hw;(repeat first|clear hw|revert hc|revert zn|revert zA|revert R|revert K);refine W (J1 @yX) (J4 o8 o9 @AW.aa @aP.eq_1) (J1 ?_)<;>unhygienic intros
     all_goals first|exact AW.le.alloc A _|(simp [bH,bO,cH,bI,bM]<;>exact AW.le.alloc A _)
   by_cases o11:op=11
   · subst o11
     have he:cU ⟨11,a,b,c,cQ⟩=1:=by unfold cU;rw [if_pos h0];rfl
     rw [he]
     revert hw;(repeat first|clear hw|revert hc|revert zn|revert zA|revert R|revert K);refine W (J1 @yX) (J5 o8 o9 qr @AW.aa @aP.eq_1) (J1 ?_)<;>unhygienic intros
     all_goals first|exact AW.le.alloc A _|(simp [bH,bO,cH,bI,bM]<;>exact AW.le.alloc A _)
   by_cases o14:op=14
   · subst o14
     have he:cU ⟨14,a,b,c,cQ⟩=1:=by unfold cU;rw [if_pos h0];rfl
     rw [he]
     revert hw;(repeat first|clear hw|revert hc|revert zn|revert zA|revert R|revert K);refine W (J1 @yX) (J6 o8 o9 qr o11 @AW.aa @aP.eq_1) (J1 ?_)<;>unhygienic intros
     all_goals first|exact AW.le.alloc A _|(simp [bH,bO,cH,bI,bM]<;>exact AW.le.alloc A _)
   by_cases o15:op=15
   · subst o15
     have he:cU ⟨15,a,b,c,cQ⟩=1:=by unfold cU;rw [if_pos h0];rfl
     rw [he]
     revert hw;(repeat first|clear hw|revert hc|revert zn|revert zA|revert R|revert K);refine W (J1 @yX) (J7 o8 o9 qr o11 o14 @AW.aa @aP.eq_1) (J1 ?_)<;>unhygienic intros
     all_goals first|exact AW.le.alloc A _|(simp [bH,bO,cH,bI,bM]<;>exact AW.le.alloc A _)
   by_cases o7:op=7
   · subst o7
     have he:cU ⟨7,a,b,c,cQ⟩=2:=by unfold cU;rw [if_pos h0];rfl
     rw [he]
     revert hw;(repeat first|clear hw|revert hc|revert zn|revert zA|revert R|revert K);refine W (J1 @yX) (J8 o8 o9 qr o11 o14 o15 @AW.aa @aP.eq_1) (J1 ?_)<;>unhygienic intros
     all_goals first|exact AW.le.alloc A _|(simp [bH,bO,cH,bI,bM]<;>exact AW.le.alloc A _)
   by_cases o12:op=12
   · subst o12
     have he:cU ⟨12,a,b,c,cQ⟩=2:=by unfold cU;rw [if_pos h0];rfl
     rw [he]
     revert hw;(repeat first|clear hw|revert hc|revert zn|revert zA|revert R|revert K);refine W (J1 @yX) (J9 o8 o9 qr o11 o14 o15 o7 @AW.aa @aP.eq_1) (J1 ?_)<;>unhygienic intros
     all_goals first|exact AW.le.alloc A _|(simp [bH,bO,cH,bI,bM]<;>exact AW.le.alloc A _)
   by_cases o13:op=13
   · subst o13
     have he:cU ⟨13,a,b,c,cQ⟩=2:=by unfold cU;rw [if_pos h0];rfl
     rw [he]
     revert hw;(repeat first|clear hw|revert hc|revert zn|revert zA|revert R|revert K);refine W (J1 @yX) (w8 o8 o9 qr o11 o14 o15 o7 o12 @AW.aa @aP.eq_1) (J1 ?_)<;>unhygienic intros
     all_goals first|exact AW.le.alloc A _|(simp [bH,bO,cH,bI,bM]<;>exact AW.le.alloc A _)
   by_cases o16:op=16
   · subst o16
     have he:cU ⟨16,a,b,c,cQ⟩=2:=by unfold cU;rw [if_pos h0];rfl
     rw [he]
     revert hw;(repeat first|clear hw|revert hc|revert zn|revert zA|revert R|revert K);refine W (J1 @yX) (Ix o8 o9 qr o11 o14 o15 o7 o12 o13 @AW.aa @aP.eq_1) (J1 ?_)<;>unhygienic intros
     all_goals first|exact AW.le.alloc A _|(simp [bH,bO,cH,bI,bM]<;>exact AW.le.alloc A _)
   by_cases o17:op=17
   · subst o17
     have he:cU ⟨17,a,b,c,cQ⟩=2:=by unfold cU;rw [if_pos h0];rfl
     rw [he]
     revert hw;(repeat first|clear hw|revert hc|revert zn|revert zA|revert R|revert K);refine W (J1 @yX) (AT o8 o9 qr o11 o14 o15 o7 o12 o13 o16 @AW.aa @aP.eq_1) (J1 ?_)<;>unhygienic intros
     all_goals first|exact AW.le.alloc A _|(simp [bH,bO,cH,bI,bM]<;>exact AW.le.alloc A _)
   have he:cU ⟨op,a,b,c,cQ⟩=0:=by unfold cU;rw [if_pos h0];dsimp only;rw [if_neg (by omega),if_neg (by omega)]
   rw [he]
   revert hw;(repeat first|clear hw|revert hc|revert zn|revert zA|revert R|revert K);refine W (J1 @yX) (rQ o8 o9 qr o11 o14 o15 o7 o12 o13 o16 o17 @AW.aa @aP.eq_1) (J1 ?_)<;>unhygienic intros
   all_goals first|exact AW.le.alloc A _|(simp [bH,bO,cH,bI,bM]<;>exact AW.le.alloc A _)
 · have he:cU ⟨op,a,b,c,cQ⟩=0:=by unfold cU;rw [if_neg h0]
   rw [he]
   revert hw;(repeat first|clear hw|revert hc|revert zn|revert zA|revert R|revert K);refine W (J1 @yX) (J3 h0 @AW.aa @aP.eq_1) (J1 ?_)<;>unhygienic intros
   all_goals first|exact AW.le.alloc A _|(simp [bH,bO,cH,bI,bM]<;>exact AW.le.alloc A _)
set_option maxHeartbeats 4000000 in
theorem Ay (hF:FOK) (x:cz) (A:AW):aC Tryz.prog 203 [.agg (aP x).toArray] A (fun u A'=>u=.tuple #[.int .i64 ((eM x).getD 0),.bool (eM x).isSome]∧A=A'):=by
 refine aC.DP (V:=.tuple #[.int .i64 ((eM x).getD 0),.bool (eM x).isSome]) (eE.tuple (by simp)) (fun hw=>?_) (by kernel_rfl)
 refine ab Tryz.func203 rfl (by kernel_rfl) fun _=>?_
 obtain⟨op,a,b,c,cQ⟩:=x
 have yX:=fun A=>oF hF ⟨op,a,b,c,cQ⟩ A
 simp only [aP] at yX
 by_cases h0:dL ⟨op,a,b,c,cQ⟩=0
 · rw [h0] at yX
   by_cases o4:op=4
   · subst o4
     have he:eM ⟨4,a,b,c,cQ⟩=some cQ:=by unfold eM;rw [if_pos ⟨h0,by dsimp only;omega⟩]
     rw [he]
     revert hw;refine W (J1 @yX) (J2 @AW.aa @aP.eq_1) (J1 ?_)<;>unhygienic intros
     all_goals first|exact AW.le.alloc A _|(simp [bH,bO,cH,bI,bM]<;>exact AW.le.alloc A _)
   by_cases o5:op=5
   · subst o5
     have he:eM ⟨5,a,b,c,cQ⟩=some cQ:=by unfold eM;rw [if_pos ⟨h0,by dsimp only;omega⟩]
     rw [he]
     revert hw;(repeat first|clear hw|revert hc|revert zn|revert zA|revert R|revert K);refine W (J1 @yX) (J3 o4 @AW.aa @aP.eq_1) (J1 ?_)<;>unhygienic intros
     all_goals first|exact AW.le.alloc A _|(simp [bH,bO,cH,bI,bM]<;>exact AW.le.alloc A _)
   by_cases o6:op=6
   · subst o6
     have he:eM ⟨6,a,b,c,cQ⟩=some cQ:=by unfold eM;rw [if_pos ⟨h0,by dsimp only;omega⟩]
     rw [he]
     revert hw;(repeat first|clear hw|revert hc|revert zn|revert zA|revert R|revert K);refine W (J1 @yX) (J4 o4 o5 @AW.aa @aP.eq_1) (J1 ?_)<;>unhygienic intros
     all_goals first|exact AW.le.alloc A _|(simp [bH,bO,cH,bI,bM]<;>exact AW.le.alloc A _)
   have he:eM ⟨op,a,b,c,cQ⟩=none:=by unfold eM;rw [if_neg (fun h=>by have:=h.2;dsimp only at this;omega)]
   rw [he]
   revert hw;(repeat first|clear hw|revert hc|revert zn|revert zA|revert R|revert K);refine W (J1 @yX) (J5 o4 o5 o6 @AW.aa @aP.eq_1) (J1 ?_)<;>unhygienic intros
   all_goals first|exact AW.le.alloc A _|(simp [bH,bO,cH,bI,bM]<;>exact AW.le.alloc A _)
 · have he:eM ⟨op,a,b,c,cQ⟩=none:=by unfold eM;rw [if_neg (fun h=>h0 h.1)]
   rw [he]
   revert hw;(repeat first|clear hw|revert hc|revert zn|revert zA|revert R|revert K);refine W (J1 @yX) (J3 h0 @AW.aa @aP.eq_1) (J1 ?_)<;>unhygienic intros
   all_goals first|exact AW.le.alloc A _|(simp [bH,bO,cH,bI,bM]<;>exact AW.le.alloc A _)
def Kl (p:List cz) (k:Nat) (b:Option Nat) (x:cz):Int:=match eM x with
 | some n=>if gk p k b n=true then 0 else 42
 | none=>0
set_option maxHeartbeats 4000000 in
theorem D3 (hF:FOK) (v:Value) (p:List cz) (k:Nat) (b:Option Nat) (A:AW) (h:lX A v p) (hl:p.length≤64) (hk:k<p.length) (hb:∀d,b=some d→d<p.length) :
 aC Tryz.prog 139 [v,.int .i64 k,.int .i64 (xg b)] A (fun u A'=>u=.int .i64 (Kl p k b p[k])∧A=A'):=by
 refine ab Tryz.func139 rfl (by kernel_rfl) fun hw=>?_
 obtain⟨o,c,rfl,_⟩:=h.dJ
 obtain⟨q,cK,I4,dG,eT,bA⟩:=h.at hk
 subst I4
 have mf:IntKind.i64.wrap ((k:Int)+1)=((k+1:Nat):Int):=aw (by omega) (by omega)
 generalize p[k]=x at bA
 have fj:=vA bA
 have cS:=fun B=>Ay hF x B
 have R0:=@GD x
 have U6:=@FZ x
 unfold Kl
 obtain⟨op,a,b',c',cQ⟩:=x
 simp only at U6 R0 fj
 simp only [aP] at bA cS
 generalize eM ⟨op,a,b',c',cQ⟩=sk at cS U6
 cases sk with
 | none=>
   repeat' (first
   | (refine jx fun R hR=>?_;simp [aw,az,dG,fj,bA,eT,hk,mf];try simp (disch:=omega) only [if_pos,if_neg,aw,az])
   | (refine hR _ _ ?_;clear hR R)|(refine hK _ _ ?_;clear hK K)|refine nx ?_
   | refine wn fun K hK=>?_
   | simp only [wS]
   | (refine bT (cS _) ?_;rintro _ _ ⟨rfl,rfl⟩ _ _)
   | refine wb ?_|refine wr ?_|refine wk ?_|refine we ?_|refine ws ?_|refine wq ?_
   | (refine wc rfl (fun hc=>?_) (fun hc=>?_)<;>(try simp at hc)<;>(try omega))
   | (refine ib (fun hc=>?_) (fun hc=>?_)<;>(try omega)<;>(try simp (disch:=omega) only [if_pos,if_neg])))
   all_goals simp [bH,bO,cH,bI,bM]
 | some n=>
   obtain⟨rfl,g1,g2⟩:=U6 rfl
   obtain⟨g3,g4⟩:=R0 g1 g2
   obtain⟨m,hm⟩:∃m:Nat,n=m:=⟨n.toNat,by omega⟩
   subst hm
   have I1:IntKind.i64.wrap (((k+1:Nat):Int)+m)=((k+1+m:Nat):Int):=aw (by omega) (by omega)
   have I0:IntKind.i64.wrap ((k:Int)+1+m)=((k+1+m:Nat):Int):=aw (by omega) (by omega)
   have hT:gk p k b (m:Int)=if p.length<k+1+m then false else match (generalizing:=false) b with
    | some b=>decide (k+1+m≤dy p b)
    | none=>!jk p k (k+1+m):=by unfold gk;simp only [Int.toNat_natCast];cases b<;>rfl
   simp only [hT]
   generalize ht:k+1+m=t at I1 I0 hT
   by_cases q1:p.length<t
   · rw [if_pos q1,if_neg (by simp)]
     revert hw;(repeat first|clear hw|revert hc|revert zn|revert zA|revert R|revert K);refine W (J1 @cS) (J9 dG fj bA eT hk mf I1 I0 q1) (J1 ?_)<;>unhygienic intros
     all_goals simp [bH,bO,cH,bI,bM]
   · rw [if_neg q1]
     cases b with
     | some d=>
       have hd:=hb d rfl
       have FF:¬((d:Int)<0):=by omega
       have Ib:(0:Int)≤d:=by omega
       have cE:=rg _ p d A h (by omega) hd
       simp only [xg]
       by_cases q2:t≤dy p d
       · have q3:¬dy p d<t:=by omega
         rw [if_pos (by simp [q2])]
         revert hw;(repeat first|clear hw|revert hc|revert zn|revert zA|revert R|revert K);refine W (J2 @cS @cE) (rQ dG fj bA eT hk mf I1 I0 q1 q2 q3 FF Ib) (J1 ?_)<;>unhygienic intros
         all_goals simp [bH,bO,cH,bI,bM]
       · have q3:dy p d<t:=by omega
         rw [if_neg (by simp [q3])]
         revert hw;(repeat first|clear hw|revert hc|revert zn|revert zA|revert R|revert K);refine W (J2 @cS @cE) (rQ dG fj bA eT hk mf I1 I0 q1 q2 q3 FF Ib) (J1 ?_)<;>unhygienic intros
         all_goals simp [bH,bO,cH,bI,bM]
     | none=>
       have cI:=IX _ p k t A h (by omega) hk (by omega)
       simp only [xg]
       generalize jk p k t=it at cI
       cases it with
       | true=>
         rw [if_neg (by simp)]
         revert hw;(repeat first|clear hw|revert hc|revert zn|revert zA|revert R|revert K);refine W (J2 @cS @cI) (J9 dG fj bA eT hk mf I1 I0 q1) (J1 ?_)<;>unhygienic intros
         all_goals simp [bH,bO,cH,bI,bM]
       | false=>
         rw [if_pos (by simp)]
         revert hw;(repeat first|clear hw|revert hc|revert zn|revert zA|revert R|revert K);refine W (J2 @cS @cI) (J9 dG fj bA eT hk mf I1 I0 q1) (J1 ?_)<;>unhygienic intros
         all_goals simp [bH,bO,cH,bI,bM]
set_option maxHeartbeats 8000000 in
theorem KG (hF:FOK) (v:Value) (p:List cz) (k:Nat) (b:Option Nat) (A:AW) (h:lX A v p) (hl:p.length≤64) (hk:k<p.length) (hb:∀d,b=some d→d<p.length) :
 aC Tryz.prog 96 [v,.int .i64 k,.int .i64 (xg b)] A (fun u A'=>u=.int .i64 (pd (gk p) k b p[k])∧A=A'):=by
 refine ab Tryz.func96 rfl (by kernel_rfl) fun hw=>?_
 have cT:=D3 hF v p k b A h hl hk hb
 obtain⟨o,c,rfl,_⟩:=h.dJ
 obtain⟨q,cK,I4,dG,eT,bA⟩:=h.at hk
 subst I4
 generalize p[k]=x at bA cT
 have fj:=vA bA
 have cI:=fun B=>oF hF x B
 have cP:=fun B=>Az hF x B
 have hE:pd (gk p) k b x=if dL x=0 then
  if (x.op=7∧b.isSome=true)∨(x.op=8∧b.isSome=false) then 40
  else if (cU x=1∧b.isSome=false)∨(cU x=2∧b.isSome=true) then 41
  else Kl p k b x else dL x:=by unfold pd Kl;rfl
 rw [hE]
 clear hE
 generalize Kl p k b x=te at cT
 obtain⟨op,a,b',c',cQ⟩:=x
 simp only at fj
 simp only [aP] at bA cI cP
 generalize cU ⟨op,a,b',c',cQ⟩=pl at cP
 generalize dL ⟨op,a,b',c',cQ⟩=e at cI
 by_cases e0:e=0
 rotate_left
 · rw [if_neg e0]
   repeat' (first
   | (refine jx fun R hR=>?_;simp [aw,az,dG,fj,bA,eT,hk,e0];try simp (disch:=omega) only [if_pos,if_neg,aw,az])
   | (refine hR _ _ ?_;clear hR R)|(refine hK _ _ ?_;clear hK K)|refine nx ?_
   | refine wn fun K hK=>?_
   | simp only [wS]
   | (refine bT (cI _) ?_;rintro _ _ ⟨rfl,rfl⟩ _ _)
   | refine wb ?_|refine wr ?_|refine wk ?_|refine we ?_|refine ws ?_|refine wq ?_
   | (refine wc rfl (fun hc=>?_) (fun hc=>?_)<;>(try simp at hc)<;>(try omega))
   | (refine ib (fun hc=>?_) (fun hc=>?_)<;>(try omega)<;>(try simp (disch:=omega) only [if_pos,if_neg])))
   all_goals simp [bH,bO,cH,bI,bM]
 subst e0
 rw [if_pos rfl]
 cases b with
 | none=>
   simp only [xg] at cT ⊢
   by_cases ob:op=8
   · subst ob
     rw [if_pos (by simp)]
     revert hw;(repeat first|clear hw|revert hc|revert zn|revert zA|revert R|revert K);refine W (J3 @cI @cP @cT) (J5 dG fj bA eT hk) (J1 ?_)<;>unhygienic intros
     all_goals simp [bH,bO,cH,bI,bM]
   rw [if_neg (by simp [ob])]
   by_cases oo:op=7
   · subst oo
     by_cases pb:pl=1
     · subst pb
       rw [if_pos (by simp)]
       revert hw;(repeat first|clear hw|revert hc|revert zn|revert zA|revert R|revert K);refine W (J3 @cI @cP @cT) (J6 dG fj bA eT hk ob) (J1 ?_)<;>unhygienic intros
       all_goals simp [bH,bO,cH,bI,bM]
     rw [if_neg (by simp [pb])]
     by_cases po:pl=2
     · subst po
       revert hw;(repeat first|clear hw|revert hc|revert zn|revert zA|revert R|revert K);refine W (J3 @cI @cP @cT) (J6 dG fj bA eT hk ob) (J1 ?_)<;>unhygienic intros
       all_goals simp [bH,bO,cH,bI,bM]
     · skip
       revert hw;(repeat first|clear hw|revert hc|revert zn|revert zA|revert R|revert K);refine W (J3 @cI @cP @cT) (J8 dG fj bA eT hk ob pb po) (J1 ?_)<;>unhygienic intros
       all_goals simp [bH,bO,cH,bI,bM]
   · skip
     by_cases pb:pl=1
     · subst pb
       rw [if_pos (by simp)]
       revert hw;(repeat first|clear hw|revert hc|revert zn|revert zA|revert R|revert K);refine W (J3 @cI @cP @cT) (J7 dG fj bA eT hk ob oo) (J1 ?_)<;>unhygienic intros
       all_goals simp [bH,bO,cH,bI,bM]
     rw [if_neg (by simp [pb])]
     by_cases po:pl=2
     · subst po
       revert hw;(repeat first|clear hw|revert hc|revert zn|revert zA|revert R|revert K);refine W (J3 @cI @cP @cT) (J7 dG fj bA eT hk ob oo) (J1 ?_)<;>unhygienic intros
       all_goals simp [bH,bO,cH,bI,bM]
     · skip
       revert hw;(repeat first|clear hw|revert hc|revert zn|revert zA|revert R|revert K);refine W (J3 @cI @cP @cT) (J9 dG fj bA eT hk ob oo pb po) (J1 ?_)<;>unhygienic intros
       all_goals simp [bH,bO,cH,bI,bM]
 | some d=>
   simp only [xg] at cT ⊢
   have FF:¬((d:Int)<0):=by omega
   have Ib:(0:Int)≤d:=by omega
   by_cases ob:op=7
   · subst ob
     rw [if_pos (by simp)]
     revert hw;(repeat first|clear hw|revert hc|revert zn|revert zA|revert R|revert K);refine W (J3 @cI @cP @cT) (J7 dG fj bA eT hk FF Ib) (J1 ?_)<;>unhygienic intros
     all_goals simp [bH,bO,cH,bI,bM]
   rw [if_neg (by simp [ob])]
   by_cases oo:op=8
   · subst oo
     by_cases pb:pl=2
     · subst pb
       rw [if_pos (by simp)]
       revert hw;(repeat first|clear hw|revert hc|revert zn|revert zA|revert R|revert K);refine W (J3 @cI @cP @cT) (J8 dG fj bA eT hk FF Ib ob) (J1 ?_)<;>unhygienic intros
       all_goals simp [bH,bO,cH,bI,bM]
     rw [if_neg (by simp [pb])]
     by_cases po:pl=1
     · subst po
       revert hw;(repeat first|clear hw|revert hc|revert zn|revert zA|revert R|revert K);refine W (J3 @cI @cP @cT) (J8 dG fj bA eT hk FF Ib ob) (J1 ?_)<;>unhygienic intros
       all_goals simp [bH,bO,cH,bI,bM]
     · skip
       revert hw;(repeat first|clear hw|revert hc|revert zn|revert zA|revert R|revert K);refine W (J3 @cI @cP @cT) (w8 dG fj bA eT hk FF Ib ob pb po) (J1 ?_)<;>unhygienic intros
       all_goals simp [bH,bO,cH,bI,bM]
   · skip
     by_cases pb:pl=2
     · subst pb
       rw [if_pos (by simp)]
       revert hw;(repeat first|clear hw|revert hc|revert zn|revert zA|revert R|revert K);refine W (J3 @cI @cP @cT) (J9 dG fj bA eT hk FF Ib ob oo) (J1 ?_)<;>unhygienic intros
       all_goals simp [bH,bO,cH,bI,bM]
     rw [if_neg (by simp [pb])]
     by_cases po:pl=1
     · subst po
       revert hw;(repeat first|clear hw|revert hc|revert zn|revert zA|revert R|revert K);refine W (J3 @cI @cP @cT) (J9 dG fj bA eT hk FF Ib ob oo) (J1 ?_)<;>unhygienic intros
       all_goals simp [bH,bO,cH,bI,bM]
     · skip
       revert hw;(repeat first|clear hw|revert hc|revert zn|revert zA|revert R|revert K);refine W (J3 @cI @cP @cT) (Ix dG fj bA eT hk FF Ib ob oo pb po) (J1 ?_)<;>unhygienic intros
       all_goals simp [bH,bO,cH,bI,bM]
end
section
namespace TGFbL
theorem jD [Gl] {A:AW} {L:List It} {T:Prop} (hS:ak A L) (hw:A.Wf) (h':(bg A L∧bB A L∧cj L)=T:=by first|(dsimp only [af,ag,bg,bB,cj,eA];done)|exact rfl):T:=h'▸hS.eu hw
end TGFbL
open TGFbL
variable [Gl]
set_option maxHeartbeats 8000000 in
theorem qU (hF:FOK) (v:Value) (p:List cz) (A:AW) (h:lX A v p) :
 aC Tryz.prog 52 [v] A (fun u A'=>u=E8 (dW p)∧A=A'):=by
 refine aC.DP (V:=E8 (dW p)) (eE.tuple (by simp)) (fun hw=>?_) (by kernel_rfl)
 refine ab Tryz.func52 rfl (by kernel_rfl) fun _=>?_
 obtain⟨o,c,rfl,_⟩:=h.dJ
 by_cases hL:64<p.length
 · have he:dW p=(0,3):=by unfold dW;rw [if_pos hL]
   rw [he]
   revert hw;refine W trivial (J1 hL) (J1 ?_)<;>unhygienic intros
   all_goals first|exact AW.le.refl A|(simp [bH,bO,cH,bI,bM,E8]<;>exact AW.le.refl A)
 have hl:p.length<2^30:=by omega
 have he:dW p=lG (gk p) (p.drop 0) 0 none:=by unfold dW;rw [if_neg hL];rfl
 generalize htgt:gk p=xa at he
 generalize dW p=R at he ⊢
 revert hw;(repeat first|clear hw|revert hc|revert zn|revert zA|revert R|revert K);refine W trivial (J1 hL) (J1 ?_)<;>unhygienic intros
 refine eS (fun k fr A'=>A.le A'∧∃(i:Nat) (b:Option Nat),k=p.length-i∧i≤p.length∧(∀d,b=some d→d<i)∧fr 0=.slice o p.length c∧fr 11=.slice o p.length c∧fr 12=.int .i64 p.length∧fr 4=.int .i64 (xg b)∧fr 13=.int .i64 i∧
  R=lG xa (p.drop i) i b) p.length ?_ ?_
 · exact⟨AW.le.refl A,0,none,rfl,Nat.zero_le _,by simp,rfl,rfl,rfl,rfl,rfl,he⟩
 · rintro k fr A' ⟨yT,i,b,rfl,hi,LE,h0,y4,AH,h4,GS,he⟩
   by_cases dO:i<p.length
   · obtain⟨q,cK,I4,dG,eT,bA⟩:=(h.le yT hw).at dO
     subst I4
     have mf:IntKind.i64.wrap ((i:Int)+1)=((i+1:Nat):Int):=aw (by omega) (by omega)
     have et:p.drop i=p[i]::p.drop (i+1):=List.drop_eq_getElem_cons dO
     rw [et] at he
     have cO:=fun o o'=>KG hF _ p i b _ (h.le (yT.trans (AW.le.BW A' o o')) hw) (by omega) dO (fun d hd=>by have:=LE d hd;omega)
     rw [htgt] at cO
     generalize p[i]=x at he bA cO
     clear et
     have fj:=vA bA
     unfold lG at he
     generalize hE:pd xa i b x=E at he cO
     generalize hN:Br i b x=N at he
     unfold Br at hN
     obtain⟨op,a,b',c',cQ⟩:=x
     simp only at hN fj
     simp only [aP] at bA
     by_cases e0:E=0
     · subst e0
       rw [if_pos rfl] at he
       by_cases o7:op=7
       · subst o7
         rw [if_pos rfl] at hN
         subst hN
         refine dI ?_
         repeat' (first
         | (refine jx fun R hR=>?_;simp [aw,az,h0,h4,y4,AH,GS,dG,fj,bA,eT,dO,mf,AW.aa,ah];try simp (disch:=omega) only [if_pos,if_neg,aw,az])
         | (refine hR _ _ ?_;clear hR R)|(refine hK _ _ ?_;clear hK K)|refine nx ?_
         | refine wn fun K hK=>?_
         | simp only [wS]
         | (refine bT (cO _ _) ?_;rintro _ _ ⟨rfl,rfl⟩ _ _)
         | refine wb ?_|refine wr ?_|refine wk ?_|refine we ?_|refine ws ?_|refine wq ?_
         | (refine wc rfl (fun hc=>?_) (fun hc=>?_)<;>(try simp at hc)<;>(try omega))
         | (refine ib (fun hc=>?_) (fun hc=>?_)<;>(try omega)<;>(try simp (disch:=omega) only [if_pos,if_neg])))
         refine⟨p.length-(i+1),by omega,yT.trans (AW.le.BW A' _ _),i+1,some i,rfl,by omega,?_,?_,?_,?_,?_,?_,he⟩<;>simp [h0,h4,y4,AH,GS,xg]
       · by_cases o8:op=8
         · subst o8
           rw [if_neg (by decide),if_pos rfl] at hN
           subst hN
           refine dI ?_
           repeat' (first
           | (refine jx fun R hR=>?_;simp [aw,az,h0,h4,y4,AH,GS,dG,fj,bA,eT,dO,mf,AW.aa,ah];try simp (disch:=omega) only [if_pos,if_neg,aw,az])
           | (refine hR _ _ ?_;clear hR R)|(refine hK _ _ ?_;clear hK K)|refine nx ?_
           | refine wn fun K hK=>?_
           | simp only [wS]
           | (refine bT (cO _ _) ?_;rintro _ _ ⟨rfl,rfl⟩ _ _)
           | refine wb ?_|refine wr ?_|refine wk ?_|refine we ?_|refine ws ?_|refine wq ?_
           | (refine wc rfl (fun hc=>?_) (fun hc=>?_)<;>(try simp at hc)<;>(try omega))
           | (refine ib (fun hc=>?_) (fun hc=>?_)<;>(try omega)<;>(try simp (disch:=omega) only [if_pos,if_neg])))
           refine⟨p.length-(i+1),by omega,yT.trans (AW.le.BW A' _ _),i+1,none,rfl,by omega,?_,?_,?_,?_,?_,?_,he⟩<;>simp [h0,h4,y4,AH,GS,xg]
         · rw [if_neg o7,if_neg o8] at hN
           subst hN
           refine dI ?_
           repeat' (first
           | (refine jx fun R hR=>?_;simp [aw,az,h0,h4,y4,AH,GS,dG,fj,bA,eT,dO,mf,AW.aa,ah,o7,o8];try simp (disch:=omega) only [if_pos,if_neg,aw,az])
           | (refine hR _ _ ?_;clear hR R)|(refine hK _ _ ?_;clear hK K)|refine nx ?_
           | refine wn fun K hK=>?_
           | simp only [wS]
           | (refine bT (cO _ _) ?_;rintro _ _ ⟨rfl,rfl⟩ _ _)
           | refine wb ?_|refine wr ?_|refine wk ?_|refine we ?_|refine ws ?_|refine wq ?_
           | (refine wc rfl (fun hc=>?_) (fun hc=>?_)<;>(try simp at hc)<;>(try omega))
           | (refine ib (fun hc=>?_) (fun hc=>?_)<;>(try omega)<;>(try simp (disch:=omega) only [if_pos,if_neg])))
           refine⟨p.length-(i+1),by omega,yT.trans (AW.le.BW A' _ _),i+1,b,rfl,by omega,fun d hd=>Nat.lt_succ_of_lt (LE d hd),?_,?_,?_,?_,?_,he⟩<;>simp [h0,h4,y4,AH,GS,xg]
     · rw [if_neg e0] at he
       refine dI ?_
       repeat' (first
       | (refine jx fun R hR=>?_;simp [aw,az,h0,h4,y4,AH,GS,dG,fj,bA,eT,dO,mf,AW.aa,ah,e0];try simp (disch:=omega) only [if_pos,if_neg,aw,az])
       | (refine hR _ _ ?_;clear hR R)|(refine hK _ _ ?_;clear hK K)|refine nx ?_
       | refine wn fun K hK=>?_
       | simp only [wS]
       | (refine bT (cO _ _) ?_;rintro _ _ ⟨rfl,rfl⟩ _ _)
       | refine wb ?_|refine wr ?_|refine wk ?_|refine we ?_|refine ws ?_|refine wq ?_
       | (refine wc rfl (fun hc=>?_) (fun hc=>?_)<;>(try simp at hc)<;>(try omega))
       | (refine ib (fun hc=>?_) (fun hc=>?_)<;>(try omega)<;>(try simp (disch:=omega) only [if_pos,if_neg])))
       all_goals first|exact yT.trans (AW.le.BW A' _ _)|(simp [dN,bH,bO,cH,bI,bM,E8,he]<;>exact yT.trans (AW.le.BW A' _ _))
   · have DN:i=p.length:=by omega
     subst DN
     rw [List.drop_length] at he
     unfold lG at he
     cases b with
     | none=>
       simp only [xg] at h4
       refine dI ?_
       repeat' (first
       | (refine jx fun R hR=>?_;simp [aw,az,h0,h4,y4,AH,GS,dO];try simp (disch:=omega) only [if_pos,if_neg,aw,az])
       | (refine hR _ _ ?_;clear hR R)|(refine hK _ _ ?_;clear hK K)|refine nx ?_
       | refine wn fun K hK=>?_
       | simp only [wS]
       | refine wb ?_|refine wr ?_|refine wk ?_|refine we ?_|refine ws ?_|refine wq ?_
       | (refine wc rfl (fun hc=>?_) (fun hc=>?_)<;>(try simp at hc)<;>(try omega))
       | (refine ib (fun hc=>?_) (fun hc=>?_)<;>(try omega)<;>(try simp (disch:=omega) only [if_pos,if_neg])))
       all_goals first|exact yT|(simp [dN,bH,bO,cH,bI,bM,E8,he]<;>exact yT)
     | some d=>
       simp only [xg] at h4
       have FF:¬((d:Int)<0):=by omega
       have Ib:(0:Int)≤d:=by omega
       refine dI ?_
       repeat' (first
       | (refine jx fun R hR=>?_;simp [aw,az,h0,h4,y4,AH,GS,dO,FF,Ib];try simp (disch:=omega) only [if_pos,if_neg,aw,az])
       | (refine hR _ _ ?_;clear hR R)|(refine hK _ _ ?_;clear hK K)|refine nx ?_
       | refine wn fun K hK=>?_
       | simp only [wS]
       | refine wb ?_|refine wr ?_|refine wk ?_|refine we ?_|refine ws ?_|refine wq ?_
       | (refine wc rfl (fun hc=>?_) (fun hc=>?_)<;>(try simp at hc)<;>(try omega))
       | (refine ib (fun hc=>?_) (fun hc=>?_)<;>(try omega)<;>(try simp (disch:=omega) only [if_pos,if_neg])))
       all_goals first|exact yT|(simp [dN,bH,bO,cH,bI,bM,E8,he]<;>exact yT)
def vp (p:List cz):Bool:=decide ((dW p).2=0)
set_option maxHeartbeats 1000000 in
theorem FN (hF:FOK) (v:Value) (p:List cz) (A:AW) (h:lX A v p) :
 aC Tryz.prog 290 [v] A (fun u A'=>u=.bool (vp p)∧A=A'):=by
 refine ab Tryz.func290 rfl (by kernel_rfl) fun hw=>?_
 have cC:=qU hF v p A h
 unfold vp
 unfold E8 at cC
 by_cases h0:(dW p).2=0
 · revert hw;refine W (J1 @cC) (J1 h0) (J1 ?_)<;>unhygienic intros
   all_goals simp [bH,bO,cH,bI,bM,h0]
 · revert hw;(repeat first|clear hw|revert hc|revert zn|revert zA|revert R|revert K);refine W (J1 @cC) (J1 h0) (J1 ?_)<;>unhygienic intros
   all_goals simp [bH,bO,cH,bI,bM,h0]
def xK (p:List cz) (k:Nat):Int:=if vp p=true∧eh p k=7 then dy p k else -1
set_option maxHeartbeats 2000000 in
theorem Fe (hF:FOK) (v:Value) (p:List cz) (k:Nat) (A:AW) (h:lX A v p) (hk:k<p.length) :
 aC Tryz.prog 252 [v,.int .i64 k] A (fun u A'=>u=.int .i64 (xK p k)∧A=A'):=by
 refine ab Tryz.func252 rfl (by kernel_rfl) fun hw=>?_
 have cV:=FN hF v p A h
 unfold xK
 cases hv:vp p with
 | false=>
   rw [hv] at cV
   obtain⟨o,c,rfl,_⟩:=h.dJ
   revert hw;refine W (J1 @cV) (J1 hk) (J1 ?_)<;>unhygienic intros
   all_goals simp [bH,bO,cH,bI,bM]
 | true=>
   rw [hv] at cV
   have hl:p.length≤64:=(fX (p:=p) (by simpa [vp] using hv)).1
   have cE:=rg v p k A h (by omega) hk
   obtain⟨o,c,rfl,_⟩:=h.dJ
   obtain⟨q,cK,I4,dG,eT,bA⟩:=h.at hk
   subst I4
   have fj:=vA bA
   have ho:eh p k=p[k].op:=pj (List.getElem?_eq_getElem hk)
   rw [ho]
   by_cases h7:p[k].op=7
   · revert hw;(repeat first|clear hw|revert hc|revert zn|revert zA|revert R|revert K);refine W (J2 @cV @cE) (J5 hk dG fj eT h7) (J1 ?_)<;>unhygienic intros
     all_goals simp [bH,bO,cH,bI,bM,h7]
   · revert hw;(repeat first|clear hw|revert hc|revert zn|revert zA|revert R|revert K);refine W (J2 @cV @cE) (J5 hk dG fj eT h7) (J1 ?_)<;>unhygienic intros
     all_goals simp [bH,bO,cH,bI,bM,h7]
end
end Go.Stx
