/-
 The program's thread: fences.
-/
import Derived.Test.YtejgooipbmnioaaGreatDoorG34
set_option linter.unusedVariables false
set_option linter.unusedSimpArgs false
set_option linter.unusedSectionVars false
set_option maxRecDepth 20000
set_option maxHeartbeats 4000000
namespace Go.Stx
open Go Go.Proofs
attribute [local irreducible] TW cg eg bn aC aV cR df
section
abbrev lw:List (Nat×Nat):=[(0,0),(1,0),(2,0),(3,0),(4,0),(5,0),(6,0),(7,0),(8,0),(9,0),(10,2),(11,3),(12,0),(13,0),(14,0),(15,3)]
open T21
variable [Gl]
theorem ap.pt {n:Nat} {o:dK} {L:List It}:ap (.at n o::L) (.h (pt n o)) L:=.e rfl
theorem ak.Em {A:AW} {L K:List It} {n:Nat} {o:dK} (h:ak A L) (hp:ap L (.h (pt n o)) K):ak A (.at n o::K):=by
 unfold ak at h ⊢
 rw [hp.aR] at h
 exact h
theorem Ee (a:ba) (A:AW):eF 102 [a.v] A (.int .i64 (gF a)):=by
 refine aC.DP (V:=.int .i64 (gF a)) (by simp) (fun hw=>?_) (by kernel_rfl)
 refine ab Tryz.func102 rfl (by kernel_rfl) fun _=>?_
 unfold ba.v gF
 by_cases h1:a.cell=8
 · revert hw;refine W trivial (J3 h1 @AW.aa @ah.eq_1) (J1 ?_)<;>unhygienic intros
   exact⟨_,by first|(simp;done)|(simp;rfl),by simp [h1],AW.le.alloc _ _⟩
 · by_cases h2:a.fY=3
   · revert hw;(repeat first|clear hw|revert hc|revert zn|revert zA|revert xw|revert R|revert K);refine W trivial (J4 h1 h2 @AW.aa @ah.eq_1) (J1 ?_)<;>unhygienic intros
     exact⟨_,by first|(simp;done)|(simp;rfl),by simp [h1,h2],AW.le.alloc _ _⟩
   · revert hw;(repeat first|clear hw|revert hc|revert zn|revert zA|revert xw|revert R|revert K);refine W trivial (J4 h1 h2 @AW.aa @ah.eq_1) (J1 ?_)<;>unhygienic intros
     exact⟨_,by first|(simp;done)|(simp;rfl),by simp [h1,h2],AW.le.alloc _ _⟩
theorem HJ (a:ba) {A:AW} {k:Value→AW→Prop} (hk:k (.int .i64 (gF a)) A):aC Tryz.prog 102 [a.v] A k:=by
 refine bT (Ee a A) ?_
 rintro _ _ ⟨rfl,rfl⟩ _ _
 exact hk
theorem xJ (p:Nat) (l:List fm) (r:Bool) (h:decide (l.length=0)=r):aY Tryz.prog 103 [pv p] [.h (uU p l)] (fun v=>v=.bool r) (fun _=>[.h (uU p l)]):=by
 subst h
 exact Fb p l
theorem AX (q:ls) (b pb:Nat) (t:be) (M:Mm) (f:il) (da:t.iE=none) (de:t.dA=some f) (hB:JW t) (hn:0≤f.next∧f.next<2^39) (Lw:∀x∈t.fu,x.1<2^62) (R5:∀l,t.dt=some l→l≠[]∧l.length<2^28) :
 aY Tryz.prog 56 [pv b,pv pb] [.h (fx q b t),dx pb M] (fun v=>v=dD (t.rR M f).1) (fun _=>[.h (fx q b (t.rR M f).2.1),dx pb (t.rR M f).2.2]):=by
 have ki:0≤t.pc∧t.pc<2^40:=hB.pc
 have rM:t.fV.length<2^30:=by have:=hB.fV;omega
 have Jb:t.fu.length<2^28:=by have:=hB.k9;omega
 have sx:=hB.cf
 unfold be.rR
 cases et:t.dt with
 | none=>
   dsimp only
   have cX:=fun n=>CZ n pb f M hn
   have Mx:=fun n A hg=>kQ n (fM f M).2 A hg
   have QV:=fun n A hg=>AJ n (fM f M).2 A hg
   generalize hr:fM f M=r at cX Mx QV ⊢
   obtain⟨ac,f'⟩:=r
   dsimp only at cX Mx QV ⊢
   by_cases lm:f'.done=true
   · simp only [lm] at Mx
     rw [if_pos lm]
     cases qG:jU t.cf t.fu f'.k9 with
     | nil=>
       have e:({ t with dA:=some f',dt:=some [],fu:=iI t.fu f'.k9 }:be).ja=(({ t with dA:=none,dt:=none,fu:=iI t.fu f'.k9 }:be).lK 6 0).lO:=rfl
       rw [e]
       have JR:=fun n=>xJ n [] true rfl
       have GO:=fun n=>qG▸sv n t.cf sx t.fu f'.k9 Lw Jb
       by_cases h3:ac.cell=3
       · rw [if_pos h3]
         intro A F hw cY
         refine ab Tryz.func56 rfl (by kernel_rfl) fun _=>?_
         dsimp only [af,ag] at cY
         obtain⟨⟨cr,dQ,iN,ef,vs,vo⟩,ij⟩:=fx.open cY .z
         clear cY
         dsimp only [gC,af,ag] at ij
         rw [da,de,et] at ij
         dsimp only [dv,fb,du,fa,ff,jF] at ij
         have hS:=ak.Em ij (.s (.s (.s .z)))
         clear ij
         have hq:=mt hS hw
         revert hq hS hw;refine Wu (J8 (Tg.mk (n:=10) (fun {A L K k}=>ka (A:=A) (L:=L) (K:=K) (k:=k) (Mx dQ))) (Tg.mk (n:=10) (fun {A L K k}=>ka (A:=A) (L:=L) (K:=K) (k:=k) (QV dQ))) (Tg.mk (n:=32) (GO ef)) (Tg.mk (n:=36) (fun x1=>gX b t.d x1 t.fV 6 0 rM)) (Tg.mk (n:=37) (fun x1 x2 x3 x4 x5 x6 x7 x8 x9=>jf b t.d x1 x2 x3 x4 x5 x6 x7 x8 x9 ki)) (od lw) (cX dQ) @JR) (J5 h3 @AW.aa @ah.eq_1 @bj.eq_1 @ba.v.eq_1) (J1 ?_)<;>unhygienic intros
         refine⟨_,by first|rfl|(simp;rfl)|(simp [hq,AW.aa,ah];rfl),by first|trivial|rfl|(simp [dD,ba.v,ba.zero];done)|(simp [dD,ba.v,ba.zero,h3];done)|(simp [dD,ba.v,ba.zero];rfl),?_⟩
         apply fx.bS
         · apply ak.kj
           apply ak.kj
           (·exact sA)
         · dsimp only [gC,be.lO,be.to,be.lK,be.ez,be.fg,be.iL,be.d]
           (try simp only [da,de,et])
           dsimp only [dv,fb,du,fa,ff,jF]
           (·repeat' (first|apply aD.z|apply aD.s|apply ap.z|apply ap.pt|apply ap.s))
         (·repeat' (first|apply aD.z|apply aD.s|apply ap.z|apply ap.pt|apply ap.s))
         all_goals(first|exact 0|exact undef)
       · rw [if_neg h3]
         intro A F hw cY
         refine ab Tryz.func56 rfl (by kernel_rfl) fun _=>?_
         dsimp only [af,ag] at cY
         obtain⟨⟨cr,dQ,iN,ef,vs,vo⟩,ij⟩:=fx.open cY .z
         clear cY
         dsimp only [gC,af,ag] at ij
         rw [da,de,et] at ij
         dsimp only [dv,fb,du,fa,ff,jF] at ij
         have hS:=ak.Em ij (.s (.s (.s .z)))
         clear ij
         have hq:=mt hS hw
         revert hq hS hw;(repeat first|clear hq|clear hS|clear hw|revert hc|revert zn|revert zA|revert xw|revert R|revert K);refine Wu (J8 (Tg.mk (n:=10) (fun {A L K k}=>ka (A:=A) (L:=L) (K:=K) (k:=k) (Mx dQ))) (Tg.mk (n:=10) (fun {A L K k}=>ka (A:=A) (L:=L) (K:=K) (k:=k) (QV dQ))) (Tg.mk (n:=32) (GO ef)) (Tg.mk (n:=36) (fun x1=>gX b t.d x1 t.fV 6 0 rM)) (Tg.mk (n:=37) (fun x1 x2 x3 x4 x5 x6 x7 x8 x9=>jf b t.d x1 x2 x3 x4 x5 x6 x7 x8 x9 ki)) (od lw) (cX dQ) @JR) (J5 h3 @AW.aa @ah.eq_1 @bj.eq_1 @ba.v.eq_1) (J1 ?_)<;>unhygienic intros
         refine⟨_,by first|rfl|(simp;rfl)|(simp [hq,AW.aa,ah];rfl),by first|trivial|rfl|(simp [dD,ba.v,ba.zero];done)|(simp [dD,ba.v,ba.zero,h3];done)|(simp [dD,ba.v,ba.zero];rfl),?_⟩
         apply fx.bS
         · apply ak.kj
           apply ak.kj
           (·exact sA)
         · dsimp only [gC,be.lO,be.to,be.lK,be.ez,be.fg,be.iL,be.d]
           (try simp only [da,de,et])
           dsimp only [dv,fb,du,fa,ff,jF]
           (·repeat' (first|apply aD.z|apply aD.s|apply ap.z|apply ap.pt|apply ap.s))
         (·repeat' (first|apply aD.z|apply aD.s|apply ap.z|apply ap.pt|apply ap.s))
         all_goals(first|exact 0|exact undef)
     | cons x l=>
       have e:({ t with dA:=some f',dt:=some (x::l),fu:=iI t.fu f'.k9 }:be).ja={ t with dA:=some f',dt:=some (x::l),fu:=iI t.fu f'.k9 }:=rfl
       rw [e]
       have JR:=fun n=>xJ n (x::l) false rfl
       have GO:=fun n=>qG▸sv n t.cf sx t.fu f'.k9 Lw Jb
       by_cases h3:ac.cell=3
       · rw [if_pos h3]
         intro A F hw cY
         refine ab Tryz.func56 rfl (by kernel_rfl) fun _=>?_
         dsimp only [af,ag] at cY
         obtain⟨⟨cr,dQ,iN,ef,vs,vo⟩,ij⟩:=fx.open cY .z
         clear cY
         dsimp only [gC,af,ag] at ij
         rw [da,de,et] at ij
         dsimp only [dv,fb,du,fa,ff,jF] at ij
         have hS:=ak.Em ij (.s (.s (.s .z)))
         clear ij
         have hq:=mt hS hw
         revert hq hS hw;(repeat first|clear hq|clear hS|clear hw|revert hc|revert zn|revert zA|revert xw|revert R|revert K);refine W (J6 (Tg.mk (n:=10) (fun {A L K k}=>ka (A:=A) (L:=L) (K:=K) (k:=k) (Mx dQ))) (Tg.mk (n:=10) (fun {A L K k}=>ka (A:=A) (L:=L) (K:=K) (k:=k) (QV dQ))) (Tg.mk (n:=32) (GO ef)) (od lw) (cX dQ) @JR) (J5 h3 @AW.aa @ah.eq_1 @bj.eq_1 @ba.v.eq_1) (J1 ?_)<;>unhygienic intros
         refine⟨_,by first|rfl|(simp;rfl)|(simp [hq,AW.aa,ah];rfl),by first|trivial|rfl|(simp [dD,ba.v,ba.zero];done)|(simp [dD,ba.v,ba.zero,h3];done)|(simp [dD,ba.v,ba.zero];rfl),?_⟩
         apply fx.bS
         · apply ak.kj
           apply ak.kj
           (·exact sA)
         · dsimp only [gC,be.lO,be.to,be.lK,be.ez,be.fg,be.iL,be.d]
           (try simp only [da,de,et])
           dsimp only [dv,fb,du,fa,ff,jF]
           (·repeat' (first|apply aD.z|apply aD.s|apply ap.z|apply ap.pt|apply ap.s))
         (·repeat' (first|apply aD.z|apply aD.s|apply ap.z|apply ap.pt|apply ap.s))
         all_goals(first|exact 0|exact undef)
       · rw [if_neg h3]
         intro A F hw cY
         refine ab Tryz.func56 rfl (by kernel_rfl) fun _=>?_
         dsimp only [af,ag] at cY
         obtain⟨⟨cr,dQ,iN,ef,vs,vo⟩,ij⟩:=fx.open cY .z
         clear cY
         dsimp only [gC,af,ag] at ij
         rw [da,de,et] at ij
         dsimp only [dv,fb,du,fa,ff,jF] at ij
         have hS:=ak.Em ij (.s (.s (.s .z)))
         clear ij
         have hq:=mt hS hw
         revert hq hS hw;(repeat first|clear hq|clear hS|clear hw|revert hc|revert zn|revert zA|revert xw|revert R|revert K);refine W (J6 (Tg.mk (n:=10) (fun {A L K k}=>ka (A:=A) (L:=L) (K:=K) (k:=k) (Mx dQ))) (Tg.mk (n:=10) (fun {A L K k}=>ka (A:=A) (L:=L) (K:=K) (k:=k) (QV dQ))) (Tg.mk (n:=32) (GO ef)) (od lw) (cX dQ) @JR) (J5 h3 @AW.aa @ah.eq_1 @bj.eq_1 @ba.v.eq_1) (J1 ?_)<;>unhygienic intros
         refine⟨_,by first|rfl|(simp;rfl)|(simp [hq,AW.aa,ah];rfl),by first|trivial|rfl|(simp [dD,ba.v,ba.zero];done)|(simp [dD,ba.v,ba.zero,h3];done)|(simp [dD,ba.v,ba.zero];rfl),?_⟩
         apply fx.bS
         · apply ak.kj
           apply ak.kj
           (·exact sA)
         · dsimp only [gC,be.lO,be.to,be.lK,be.ez,be.fg,be.iL,be.d]
           (try simp only [da,de,et])
           dsimp only [dv,fb,du,fa,ff,jF]
           (·repeat' (first|apply aD.z|apply aD.s|apply ap.z|apply ap.pt|apply ap.s))
         (·repeat' (first|apply aD.z|apply aD.s|apply ap.z|apply ap.pt|apply ap.s))
         all_goals(first|exact 0|exact undef)
   · have VD:f'.done=false:=by simpa using lm
     simp only [VD] at Mx
     rw [if_neg lm]
     have e:({ t with dA:=some f',dt:=none }:be).ja={ t with dA:=some f',dt:=none }:=rfl
     rw [e]
     by_cases h3:ac.cell=3
     · rw [if_pos h3]
       intro A F hw cY
       refine ab Tryz.func56 rfl (by kernel_rfl) fun _=>?_
       dsimp only [af,ag] at cY
       obtain⟨⟨cr,dQ,iN,ef,vs,vo⟩,ij⟩:=fx.open cY .z
       clear cY
       dsimp only [gC,af,ag] at ij
       rw [da,de,et] at ij
       dsimp only [dv,fb,du,fa,ff,jF] at ij
       have hS:=ak.Em ij (.s (.s (.s .z)))
       clear ij
       have hq:=mt hS hw
       revert hq hS hw;(repeat first|clear hq|clear hS|clear hw|revert hc|revert zn|revert zA|revert xw|revert R|revert K);refine W (J3 (Tg.mk (n:=10) (fun {A L K k}=>ka (A:=A) (L:=L) (K:=K) (k:=k) (Mx dQ))) (od lw) (cX dQ)) (J5 h3 @AW.aa @ah.eq_1 @bj.eq_1 @ba.v.eq_1) (J1 ?_)<;>unhygienic intros
       refine⟨_,by first|rfl|(simp;rfl)|(simp [hq,AW.aa,ah];rfl),by first|trivial|rfl|(simp [dD,ba.v,ba.zero];done)|(simp [dD,ba.v,ba.zero,h3];done)|(simp [dD,ba.v,ba.zero];rfl),?_⟩
       apply fx.bS
       · apply ak.kj
         apply ak.kj
         (·exact sA)
       · dsimp only [gC,be.lO,be.to,be.lK,be.ez,be.fg,be.iL,be.d]
         (try simp only [da,de,et])
         dsimp only [dv,fb,du,fa,ff,jF]
         (·repeat' (first|apply aD.z|apply aD.s|apply ap.z|apply ap.pt|apply ap.s))
       (·repeat' (first|apply aD.z|apply aD.s|apply ap.z|apply ap.pt|apply ap.s))
       all_goals(first|exact 0|exact undef)
     · rw [if_neg h3]
       intro A F hw cY
       refine ab Tryz.func56 rfl (by kernel_rfl) fun _=>?_
       dsimp only [af,ag] at cY
       obtain⟨⟨cr,dQ,iN,ef,vs,vo⟩,ij⟩:=fx.open cY .z
       clear cY
       dsimp only [gC,af,ag] at ij
       rw [da,de,et] at ij
       dsimp only [dv,fb,du,fa,ff,jF] at ij
       have hS:=ak.Em ij (.s (.s (.s .z)))
       clear ij
       have hq:=mt hS hw
       revert hq hS hw;(repeat first|clear hq|clear hS|clear hw|revert hc|revert zn|revert zA|revert xw|revert R|revert K);refine W (J3 (Tg.mk (n:=10) (fun {A L K k}=>ka (A:=A) (L:=L) (K:=K) (k:=k) (Mx dQ))) (od lw) (cX dQ)) (J5 h3 @AW.aa @ah.eq_1 @bj.eq_1 @ba.v.eq_1) (J1 ?_)<;>unhygienic intros
       refine⟨_,by first|rfl|(simp;rfl)|(simp [hq,AW.aa,ah];rfl),by first|trivial|rfl|(simp [dD,ba.v,ba.zero];done)|(simp [dD,ba.v,ba.zero,h3];done)|(simp [dD,ba.v,ba.zero];rfl),?_⟩
       apply fx.bS
       · apply ak.kj
         apply ak.kj
         (·exact sA)
       · dsimp only [gC,be.lO,be.to,be.lK,be.ez,be.fg,be.iL,be.d]
         (try simp only [da,de,et])
         dsimp only [dv,fb,du,fa,ff,jF]
         (·repeat' (first|apply aD.z|apply aD.s|apply ap.z|apply ap.pt|apply ap.s))
       (·repeat' (first|apply aD.z|apply aD.s|apply ap.z|apply ap.pt|apply ap.s))
       all_goals(first|exact 0|exact undef)
 | some l0=>
   obtain⟨iX,QU⟩:=R5 l0 et
   cases l0 with
   | nil=>exact absurd rfl iX
   | cons x l=>
     dsimp only
     have Vo:l.length<2^29:=by rw [List.length_cons] at QU;omega
     have cX:=fun n=>Fa n pb x l M Vo
     generalize hr:tq (x::l) M=r at cX ⊢
     obtain⟨ac,l',M'⟩:=r
     dsimp only at cX ⊢
     cases l' with
     | nil=>
       have e:({ t with dt:=some [] }:be).ja=(({ t with dA:=none,dt:=none }:be).lK 6 0).lO:=rfl
       rw [e]
       have JR:=fun n=>xJ n [] true rfl
       intro A F hw cY
       refine ab Tryz.func56 rfl (by kernel_rfl) fun _=>?_
       dsimp only [af,ag] at cY
       obtain⟨⟨cr,dQ,iN,ef,vs,vo⟩,ij⟩:=fx.open cY .z
       clear cY
       dsimp only [gC,af,ag] at ij
       rw [da,de,et] at ij
       dsimp only [dv,fb,du,fa,ff,jF] at ij
       have hS:=ak.Em ij (.s (.s (.s .z)))
       clear ij
       have hq:=mt hS hw
       repeat' (first
       | (refine jx fun R hR=>?_;simp [aw,az,hq,AW.aa,ah,bj,ba.v];try simp (disch:=omega) only [if_pos,if_neg,aw,az])
       | (refine hR _ _ ?_;clear hR R)|(refine hK _ _ ?_;clear hK K)|refine nx ?_
       | refine wn fun K hK=>?_
       | simp only [wS,lw]
       | refine wl Tryz.mx lw (by decide +kernel) fun K hK=>?_
       | (refine HJ ac ?_)
       | (apply aY.cA (cX iN);(·exact wA);(·exact sA);(·first|exact pA|exact kA);rintro _ _ rfl hS hw _;have hS:=lA hS;have hq:=mt hS hw)
       | (apply aY.cA (JR _);(·exact wA);(·exact sA);(·first|exact pA|exact kA);rintro _ _ rfl hS hw _;have hS:=lA hS;have hq:=mt hS hw)
       | (apply ct.cA (gX b t.d _ t.fV 6 0 rM);(·exact wA);(·exact sA);(·first|exact pA|exact kA);(rintro xw _ _ _ hS hw _;have hS:=lA hS;(try (have hq:=mt hS hw))))
       | (apply aY.cA (jf b t.d _ _ _ _ _ _ _ _ _ ki);(·exact wA);(·exact sA);(·first|exact pA|exact kA);rintro _ _ _ hS hw _;have hS:=lA hS;have hq:=mt hS hw)
       | refine wb ?_|refine wr ?_|refine wk ?_|refine we ?_|refine ws ?_|refine wq ?_
       | (refine wc rfl (fun hc=>?_) (fun hc=>?_)<;>(try simp at hc)<;>(try omega))
       | (refine ib (fun hc=>?_) (fun hc=>?_)<;>(try omega)<;>(try simp (disch:=omega) only [if_pos,if_neg])))
       refine⟨_,by first|rfl|(simp;rfl)|(simp [hq,AW.aa,ah];rfl),by first|trivial|rfl|(simp [dD,ba.v,ba.zero];done)|(simp [dD,ba.v,ba.zero,h3];done)|(simp [dD,ba.v,ba.zero];rfl),?_⟩
       apply fx.bS
       · apply ak.kj
         apply ak.kj
         (·exact sA)
       · dsimp only [gC,be.lO,be.to,be.lK,be.ez,be.fg,be.iL,be.d]
         (try simp only [da,de,et])
         dsimp only [dv,fb,du,fa,ff,jF]
         (·repeat' (first|apply aD.z|apply aD.s|apply ap.z|apply ap.pt|apply ap.s))
       (·repeat' (first|apply aD.z|apply aD.s|apply ap.z|apply ap.pt|apply ap.s))
       all_goals(first|exact 0|exact undef)
     | cons y l'=>
       have e:({ t with dt:=some (y::l') }:be).ja={ t with dt:=some (y::l') }:=rfl
       rw [e]
       have JR:=fun n=>xJ n (y::l') false rfl
       intro A F hw cY
       refine ab Tryz.func56 rfl (by kernel_rfl) fun _=>?_
       dsimp only [af,ag] at cY
       obtain⟨⟨cr,dQ,iN,ef,vs,vo⟩,ij⟩:=fx.open cY .z
       clear cY
       dsimp only [gC,af,ag] at ij
       rw [da,de,et] at ij
       dsimp only [dv,fb,du,fa,ff,jF] at ij
       have hS:=ak.Em ij (.s (.s (.s .z)))
       clear ij
       have hq:=mt hS hw
       repeat' (first
       | (refine jx fun R hR=>?_;simp [aw,az,hq,AW.aa,ah,bj,ba.v];try simp (disch:=omega) only [if_pos,if_neg,aw,az])
       | (refine hR _ _ ?_;clear hR R)|(refine hK _ _ ?_;clear hK K)|refine nx ?_
       | refine wn fun K hK=>?_
       | simp only [wS,lw]
       | refine wl Tryz.mx lw (by decide +kernel) fun K hK=>?_
       | (refine HJ ac ?_)
       | (apply aY.cA (cX iN);(·exact wA);(·exact sA);(·first|exact pA|exact kA);rintro _ _ rfl hS hw _;have hS:=lA hS;have hq:=mt hS hw)
       | (apply aY.cA (JR _);(·exact wA);(·exact sA);(·first|exact pA|exact kA);rintro _ _ rfl hS hw _;have hS:=lA hS;have hq:=mt hS hw)
       | refine wb ?_|refine wr ?_|refine wk ?_|refine we ?_|refine ws ?_|refine wq ?_
       | (refine wc rfl (fun hc=>?_) (fun hc=>?_)<;>(try simp at hc)<;>(try omega))
       | (refine ib (fun hc=>?_) (fun hc=>?_)<;>(try omega)<;>(try simp (disch:=omega) only [if_pos,if_neg])))
       refine⟨_,by first|rfl|(simp;rfl)|(simp [hq,AW.aa,ah];rfl),by first|trivial|rfl|(simp [dD,ba.v,ba.zero];done)|(simp [dD,ba.v,ba.zero,h3];done)|(simp [dD,ba.v,ba.zero];rfl),?_⟩
       apply fx.bS
       · apply ak.kj
         apply ak.kj
         (·exact sA)
       · dsimp only [gC,be.lO,be.to,be.lK,be.ez,be.fg,be.iL,be.d]
         (try simp only [da,de,et])
         dsimp only [dv,fb,du,fa,ff,jF]
         (·repeat' (first|apply aD.z|apply aD.s|apply ap.z|apply ap.pt|apply ap.s))
       (·repeat' (first|apply aD.z|apply aD.s|apply ap.z|apply ap.pt|apply ap.s))
       all_goals(first|exact 0|exact undef)
end
end Go.Stx
