/-
 Layout at valid configurations: the reference's functions, and the search for a block.
-/
import Derived.Test.YtncmjklabcoeaaaGreatD16
set_option linter.unusedVariables false
set_option linter.unusedSimpArgs false
set_option maxRecDepth 20000
set_option maxHeartbeats 4000000
namespace Go.Stx
open Go Go.Proofs
attribute [local irreducible] fj cm aH bB dK ei
section
abbrev M4:List (Nat×Nat):=[(0,0),(1,2),(2,0),(3,0),(4,0),(5,0),(6,0),(7,0),(8,0),(9,0),(10,0),(11,0),(12,2),(13,0),(14,0),(15,0)]
open T0
theorem wF (c:bG) (hc:dt c) (A:AW):aH Tryz.prog 218 [c.v] A (fun v A'=>v=.int .i64 0∧A=A'):=by
 refine aH.GT (V:=.int .i64 0) (by simp) (fun hw=>?_) (by kernel_rfl)
 refine ab Tryz.func218 rfl (by kernel_rfl) fun _=>?_
 obtain⟨w0,w1⟩:=hc.aF
 obtain⟨r0,r1⟩:=hc.aj
 obtain⟨k0,F0⟩:=hc.k0
 obtain⟨k1,FZ⟩:=hc.k1
 obtain⟨k2,FY⟩:=hc.k2
 obtain⟨k3,FX⟩:=hc.k3
 obtain⟨b0,b1⟩:=hc.base
 obtain⟨x0,x1⟩:=hc.ah
 obtain⟨y0,y1⟩:=hc.bX
 obtain⟨z0,z1⟩:=hc.ac
 obtain⟨u0,u1⟩:=hc.ap
 obtain⟨t0,t1⟩:=hc.ao
 have kn:=hc.nb
 have kf:=hc.IX
 have e:c.nb=c.c0+c.c1+c.c2+c.c3:=rfl
 have e':c.hw=c.c0+c.c1*2+c.c2*4+c.c3*8:=rfl
 dsimp only [bG.v]
 revert hw hc;refine W (J1 @ui) (pw w0 w1 r0 r1 b0 b1 x0 x1 y0 y1 z0 z1 u0 (J5 u1 t0 t1 @AW.aa @af.eq_1)) (J1 ?_)<;>unhygienic intros
 refine bZ 5 ?_
 have f1:c.c0+c.c1+c.c2+c.c3≤64:=by omega
 have f2:¬64<c.c0+c.c1+c.c2+c.c3:=by omega
 have f3:¬c.aF<c.base+(c.c0+c.c1*2+c.c2*4+c.c3*8):=by omega
 revert hw;(repeat first|clear hw|revert hc|revert zn|revert zA|revert R|revert K);refine W (J1 @ui) (pw w0 w1 r0 r1 k0 F0 k1 FZ k2 FY k3 FX b0 (pw b1 x0 x1 y0 y1 z0 z1 u0 u1 t0 t1 f2 f3 (J6 @AW.aa @af.eq_1 @Vo @Oh @SG @SF))) (J1 ?_)<;>unhygienic intros
 all_goals exact⟨_,by first|(simp;done)|(simp;rfl),rfl,AW.le.alloc _ _⟩
theorem lD (c:bG) (hc:dt c) (A:AW):aH Tryz.prog 122 [c.v] A (fun v A'=>v=.int .i64 c.nb∧A=A'):=by
 refine aH.GT (V:=.int .i64 c.nb) (by simp) (fun hw=>?_) (by kernel_rfl)
 refine ab Tryz.func122 rfl (by kernel_rfl) fun _=>?_
 obtain⟨w0,w1⟩:=hc.aF
 obtain⟨r0,r1⟩:=hc.aj
 obtain⟨k0,F0⟩:=hc.k0
 obtain⟨k1,FZ⟩:=hc.k1
 obtain⟨k2,FY⟩:=hc.k2
 obtain⟨k3,FX⟩:=hc.k3
 obtain⟨b0,b1⟩:=hc.base
 obtain⟨x0,x1⟩:=hc.ah
 obtain⟨y0,y1⟩:=hc.bX
 obtain⟨z0,z1⟩:=hc.ac
 obtain⟨u0,u1⟩:=hc.ap
 obtain⟨t0,t1⟩:=hc.ao
 have kn:=hc.nb
 have kf:=hc.IX
 have e:c.nb=c.c0+c.c1+c.c2+c.c3:=rfl
 have e':c.hw=c.c0+c.c1*2+c.c2*4+c.c3*8:=rfl
 have rr:=wF c hc
 dsimp only [bG.v] at rr ⊢
 revert hw hc;refine W (J1 @rr) (J2 @AW.aa @af.eq_1) (J1 ?_)<;>unhygienic intros
 all_goals exact⟨_,by first|(simp;done)|(simp;rfl),rfl,AW.le.alloc _ _⟩
theorem o8 (c:bG) (hc:dt c) (b:Int) (A:AW):aH Tryz.prog 123 [c.v,.int .i64 b] A (fun v A'=>v=.int .i64 (ds c b)∧A=A'):=by
 refine aH.GT (V:=.int .i64 (ds c b)) (by simp) (fun hw=>?_) (by kernel_rfl)
 refine ab Tryz.func123 rfl (by kernel_rfl) fun _=>?_
 obtain⟨w0,w1⟩:=hc.aF
 obtain⟨r0,r1⟩:=hc.aj
 obtain⟨k0,F0⟩:=hc.k0
 obtain⟨k1,FZ⟩:=hc.k1
 obtain⟨k2,FY⟩:=hc.k2
 obtain⟨k3,FX⟩:=hc.k3
 obtain⟨b0,b1⟩:=hc.base
 obtain⟨x0,x1⟩:=hc.ah
 obtain⟨y0,y1⟩:=hc.bX
 obtain⟨z0,z1⟩:=hc.ac
 obtain⟨u0,u1⟩:=hc.ap
 obtain⟨t0,t1⟩:=hc.ao
 have kn:=hc.nb
 have kf:=hc.IX
 have e:c.nb=c.c0+c.c1+c.c2+c.c3:=rfl
 have e':c.hw=c.c0+c.c1*2+c.c2*4+c.c3*8:=rfl
 have rr:=lD c hc
 by_cases tm:0≤b∧b<c.nb
 · obtain⟨q,hq⟩:∃q,ds c b=q:=⟨_,rfl⟩
   have l0:q=(if b<c.c0 then 0 else if b-c.c0<c.c1 then 1 else if b-c.c0-c.c1<c.c2 then 2 else 3):=by
    rw [←hq]
    unfold ds sZ
    rw [if_neg (by omega)]
    repeat' split
    all_goals(first|rfl|omega)
   rw [hq]
   obtain⟨i0,i1⟩:=tm
   have i2:¬b<0:=by omega
   have i3:¬c.nb≤b:=by omega
   dsimp only [bG.v] at rr ⊢
   revert hq hw hc;refine W (J1 @rr) (J4 i2 i3 @AW.aa @af.eq_1) (J1 ?_)<;>unhygienic intros
   refine bZ 5 ?_
   revert hq hw;(repeat first|clear hq|clear hw|revert hc|revert zn|revert zA|revert R|revert K);refine W trivial (J2 @AW.aa @af.eq_1) (J4 ?_ ?_ ?_ ?_)<;>unhygienic intros
   all_goals(
    refine⟨_,by first|(simp;done)|(simp;rfl),?_,?_⟩
    · rw [l0]
      simp (disch:=omega) only [if_pos,if_neg]
    · exact AW.le.alloc _ _)
 · have l1:ds c b = -1:=by unfold ds;rw [FW hc b tm]
   rw [l1]
   dsimp only [bG.v] at rr ⊢
   revert hw;(repeat first|clear hw|revert hc|revert zn|revert zA|revert R|revert K);refine W (J1 @rr) (J2 @AW.aa @af.eq_1) (J2 ?_ ?_)<;>unhygienic intros
   all_goals(first|omega|exact⟨_,by first|(simp;done)|(simp;rfl),rfl,AW.le.alloc _ _⟩)
theorem yF (c:bG) (hc:dt c) (a:Int) (A:AW):aH Tryz.prog 236 [c.v,.int .i64 a] A (fun v A'=>v=.int .i64 (fJ c a)∧A=A'):=by
 refine aH.GT (V:=.int .i64 (fJ c a)) (by simp) (fun hw=>?_) (by kernel_rfl)
 refine ab Tryz.func236 rfl (by kernel_rfl) fun _=>?_
 obtain⟨w0,w1⟩:=hc.aF
 obtain⟨r0,r1⟩:=hc.aj
 obtain⟨k0,F0⟩:=hc.k0
 obtain⟨k1,FZ⟩:=hc.k1
 obtain⟨k2,FY⟩:=hc.k2
 obtain⟨k3,FX⟩:=hc.k3
 obtain⟨b0,b1⟩:=hc.base
 obtain⟨x0,x1⟩:=hc.ah
 obtain⟨y0,y1⟩:=hc.bX
 obtain⟨z0,z1⟩:=hc.ac
 obtain⟨u0,u1⟩:=hc.ap
 obtain⟨t0,t1⟩:=hc.ao
 have kn:=hc.nb
 have kf:=hc.IX
 have e:c.nb=c.c0+c.c1+c.c2+c.c3:=rfl
 have e':c.hw=c.c0+c.c1*2+c.c2*4+c.c3*8:=rfl
 have hh:=wF c hc
 have rr:=lD c hc
 dsimp only [bG.v] at hh rr ⊢
 have ke:¬c.aj=0:=by omega
 revert hw hc;refine W (J3 (od M4) @hh @rr) (J3 ke @AW.aa @af.eq_1) (J3 ?_ ?_ ?_)<;>unhygienic intros
 all_goals(
  refine⟨_,by first|(simp;done)|(simp;rfl),?_,AW.le.alloc _ _⟩
  unfold fJ
  first
  | (rw [if_neg (by simp_all;omega)];done)
  | (rw [if_neg (by omega)];done)
  | (rw [if_pos (by omega)];done))
end
section
open T0
theorem zR {c:bG} {a:Int} (h:∀b:Nat,(b:Int)<c.nb→eL c b≠a):gT c a = -1:=by
 unfold gT
 have:(List.range c.nb.toNat).find? (fun b:Nat=>eL c (b:Int) == a)=none:=by
  rw [List.find?_eq_none]
  intro x hx
  have:=List.mem_range.1 hx
  simpa using h x (by omega)
 rw [this]
theorem zQ {c:bG} {a:Int} {b:Nat} (hb:(b:Int)<c.nb) (h:eL c b=a) (h':∀j:Nat,j<b→eL c j≠a):gT c a=b:=by
 unfold gT
 have:(List.range c.nb.toNat).find? (fun b:Nat=>eL c (b:Int) == a)=some b:=by
  rw [List.find?_eq_some_iff_append]
  refine⟨by simpa using h,List.range b,(List.range (c.nb.toNat-b-1)).map (·+ (b+1)),?_,fun x hx=>?_⟩
  · have:c.nb.toNat=b+(1+(c.nb.toNat-b-1)):=by omega
    rw [this,List.range_add,List.range_add]
    simp
    intro q _
    omega
  · have:=List.mem_range.1 hx
    simpa using h' x this
 rw [this]
theorem rE (c:bG) (hc:dt c) (b:Int) (A:AW):aH Tryz.prog 74 [c.v,.int .i64 b] A (fun v A'=>v=.int .i64 (eL c b)∧A=A'):=by
 refine aH.GT (V:=.int .i64 (eL c b)) (by simp) (fun hw=>?_) (by kernel_rfl)
 refine ab Tryz.func74 rfl (by kernel_rfl) fun _=>?_
 obtain⟨w0,w1⟩:=hc.aF
 obtain⟨r0,r1⟩:=hc.aj
 obtain⟨k0,F0⟩:=hc.k0
 obtain⟨k1,FZ⟩:=hc.k1
 obtain⟨k2,FY⟩:=hc.k2
 obtain⟨k3,FX⟩:=hc.k3
 obtain⟨b0,b1⟩:=hc.base
 obtain⟨x0,x1⟩:=hc.ah
 obtain⟨y0,y1⟩:=hc.bX
 obtain⟨z0,z1⟩:=hc.ac
 obtain⟨u0,u1⟩:=hc.ap
 obtain⟨t0,t1⟩:=hc.ao
 have kn:=hc.nb
 have kf:=hc.IX
 have e:c.nb=c.c0+c.c1+c.c2+c.c3:=rfl
 have e':c.hw=c.c0+c.c1*2+c.c2*4+c.c3*8:=rfl
 have iK:=hc
 have hh:=lD c hc
 have rr:=o8 c hc
 by_cases tm:0≤b∧b<c.nb
 · obtain⟨n,rfl⟩:∃n:Nat,b=n:=⟨b.toNat,by omega⟩
   have i2:¬(n:Int)<0:=by omega
   have i3:¬c.nb≤(n:Int):=by omega
   dsimp only [bG.v] at hh rr ⊢
   revert hw hc;refine W (J1 @hh) (J4 i2 i3 @AW.aa @af.eq_1) (J1 ?_)<;>unhygienic intros
   refine ed (fun k fr A'=>A'=A.alloc (.cells c.cells true 1)∧∃i:Nat,k=n-i∧i≤n∧fr 1=.int .i64 n∧fr 2=.pointer (some ⟨A.next,0,none⟩)∧fr 5=.int .i64 (eL c i)∧fr 6=.int .i64 i) n ?_ ?_
   · refine⟨rfl,0,by simp,by simp,rfl,rfl,?_,rfl⟩
     have:=Gl iK (by omega)
     simp [this]
   · rintro k fr A' ⟨rfl,i,rfl,hi,h1,h2,h5,h6⟩
     dsimp only [bG.cells]
     by_cases dQ:i<n
     · have ey:(i:Int)<n:=by omega
       have mc:IntKind.i64.wrap ((i:Int)+1)=((i+1:Nat):Int):=ak (by omega) (by omega)
       obtain⟨⟨g0,g1⟩,g2,g3⟩:=nL iK i (by omega)
       have gs:=Gm iK i (by omega)
       obtain⟨q,hq⟩:∃q,ds c i=q:=⟨_,rfl⟩
       have iz:=rr i
       rw [hq] at iz g0 g1 g3 gs
       refine eW ?_
       have h4:q=0∨q=1∨q=2∨q=3:=by omega
       rcases h4 with rfl|rfl|rfl|rfl
       all_goals(
        simp at gs g3
        all_goals(revert hq hw;(repeat first|clear hq|clear hw|revert hc|revert zn|revert zA|revert R|revert K);refine W (J1 @iz) (J9 h1 h2 h5 h6 dQ ey mc @AW.aa @af.eq_1) (J1 ?_)<;>unhygienic intros)
        refine⟨n-(i+1),by omega,rfl,i+1,rfl,by omega,by simp [h1],by simp [h2],?_,by simp⟩
        simp [gs,Vo,Oh,SG,SF]
        try simp (disch:=omega) only [ak])
     · have RB:i=n:=by omega
       subst RB
       refine eW ?_
       revert hw;(repeat first|clear hw|revert hc|revert zn|revert zA|revert R|revert K);refine W (J1 @hh) (J6 h1 h2 h5 h6 @AW.aa @af.eq_1) (J1 ?_)<;>unhygienic intros
       refine⟨_,by first|(simp;done)|(simp;rfl),rfl,AW.le.alloc _ _⟩
 · have l1:eL c b = -1:=by unfold eL;rw [FW hc b tm]
   rw [l1]
   dsimp only [bG.v] at hh ⊢
   revert hw;(repeat first|clear hw|revert hc|revert zn|revert zA|revert R|revert K);refine W (J1 @hh) (J2 @AW.aa @af.eq_1) (J2 ?_ ?_)<;>unhygienic intros
   all_goals(first|omega|exact⟨_,by first|(simp;done)|(simp;rfl),rfl,AW.le.alloc _ _⟩)
theorem Fe (c:bG) (hc:dt c) (a:Int) (A:AW):aH Tryz.prog 182 [c.v,.int .u64 a] A (fun v A'=>v=.int .i64 (gT c a)∧A=A'):=by
 refine aH.GT (V:=.int .i64 (gT c a)) (by simp) (fun hw=>?_) (by kernel_rfl)
 refine ab Tryz.func182 rfl (by kernel_rfl) fun _=>?_
 obtain⟨w0,w1⟩:=hc.aF
 obtain⟨r0,r1⟩:=hc.aj
 obtain⟨k0,F0⟩:=hc.k0
 obtain⟨k1,FZ⟩:=hc.k1
 obtain⟨k2,FY⟩:=hc.k2
 obtain⟨k3,FX⟩:=hc.k3
 obtain⟨b0,b1⟩:=hc.base
 obtain⟨x0,x1⟩:=hc.ah
 obtain⟨y0,y1⟩:=hc.bX
 obtain⟨z0,z1⟩:=hc.ac
 obtain⟨u0,u1⟩:=hc.ap
 obtain⟨t0,t1⟩:=hc.ao
 have kn:=hc.nb
 have kf:=hc.IX
 have e:c.nb=c.c0+c.c1+c.c2+c.c3:=rfl
 have e':c.hw=c.c0+c.c1*2+c.c2*4+c.c3*8:=rfl
 have hh:=lD c hc
 have rr:=fun b (hb:b<2^62)=>rE c hc b
 have BE:0≤c.nb:=by omega
 obtain⟨n,hn⟩:∃n:Nat,c.nb=n:=⟨c.nb.toNat,by omega⟩
 have XV:n≤64:=by omega
 rw [hn] at hh
 dsimp only [bG.v] at hh rr ⊢
 revert hw hc;refine W (J1 @hh) (J2 @AW.aa @af.eq_1) (J1 ?_)<;>unhygienic intros
 refine ed (fun k fr A'=>A'=A.alloc (.cells c.cells true 1)∧∃i:Nat,k=n-i∧i≤n∧fr 1=.int .u64 a∧fr 2=.pointer (some ⟨A.next,0,none⟩) ∧fr 5=.int .i64 i∧∀j:Nat,j<i→eL c j≠a) n ?_ ?_
 · refine⟨rfl,0,by simp,by simp,rfl,rfl,  rfl,by simp⟩
 · rintro k fr A' ⟨rfl,i,rfl,hi,h1,h2,  h8,hj⟩
   dsimp only [bG.cells]
   by_cases dQ:i<n
   · have ey:(i:Int)<n:=by omega
     have mc:IntKind.i64.wrap ((i:Int)+1)=((i+1:Nat):Int):=ak (by omega) (by omega)
     have hf:=nL hc i (by omega)
     have hp:(0:Int)<2 ^ (ds c i).toNat:=Int.pow_pos (by omega)
     have Kk:IntKind.u64.wrap (eL c i)=eL c i:=au (by omega) (by omega)
     refine eW ?_
     by_cases hx:eL c i=a
     · repeat' (first
     | (refine il fun R hR=>?_;simp [ak,au,h1,h2,h8,dQ,ey,mc,Kk,hx,AW.aa,af];try simp (disch:=omega) only [if_pos,if_neg,ak,au])
     | (refine hR _ _ ?_;clear hR R)|(refine hK _ _ ?_;clear hK K)|refine nx ?_
     | refine wn fun K hK=>?_
     | simp only [wS]
     | (refine bD (rr _ (by omega) _) ?_;rintro _ _ ⟨rfl,rfl⟩ _ _)
     | (refine bD (hh _) ?_;rintro _ _ ⟨rfl,rfl⟩ _ _)
     | refine wb ?_|refine wr ?_|refine wk ?_|refine we ?_|refine ws ?_|refine wq ?_
     | (refine wc rfl (fun hc=>?_) (fun hc=>?_)<;>(try simp at hc)<;>(try omega))
     | (refine ib (fun hc=>?_) (fun hc=>?_)<;>(try omega)<;>(try simp (disch:=omega) only [if_pos,if_neg])))
       refine⟨_,by first|(simp;done)|(simp;rfl),by rw [zQ (by omega) hx hj],AW.le.alloc _ _⟩
     · repeat' (first
     | (refine il fun R hR=>?_;simp [ak,au,h1,h2,h8,dQ,ey,mc,Kk,hx,AW.aa,af];try simp (disch:=omega) only [if_pos,if_neg,ak,au])
     | (refine hR _ _ ?_;clear hR R)|(refine hK _ _ ?_;clear hK K)|refine nx ?_
     | refine wn fun K hK=>?_
     | simp only [wS]
     | (refine bD (rr _ (by omega) _) ?_;rintro _ _ ⟨rfl,rfl⟩ _ _)
     | (refine bD (hh _) ?_;rintro _ _ ⟨rfl,rfl⟩ _ _)
     | refine wb ?_|refine wr ?_|refine wk ?_|refine we ?_|refine ws ?_|refine wq ?_
     | (refine wc rfl (fun hc=>?_) (fun hc=>?_)<;>(try simp at hc)<;>(try omega))
     | (refine ib (fun hc=>?_) (fun hc=>?_)<;>(try omega)<;>(try simp (disch:=omega) only [if_pos,if_neg])))
       refine⟨n-(i+1),by omega,rfl,i+1,rfl,by omega,by simp [h1],by simp [h2],  by simp,fun j i9=>?_⟩
       by_cases e:j=i
       · subst e;exact hx
       · exact hj j (by omega)
   · have ey:¬(i:Int)<n:=by omega
     refine eW ?_
     revert hw;(repeat first|clear hw|revert hc|revert zn|revert zA|revert R|revert K);refine W (J1 @hh) (J7 h1 h2 h8 dQ ey @AW.aa @af.eq_1) (J1 ?_)<;>unhygienic intros
     refine⟨_,by first|(simp;done)|(simp;rfl),by rw [zR fun b hb=>hj b (by omega)],AW.le.alloc _ _⟩
end
end Go.Stx
