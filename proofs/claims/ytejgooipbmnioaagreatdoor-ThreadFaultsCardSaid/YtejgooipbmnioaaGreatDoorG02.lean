/-
 The program's cells: load, store, swap and add.
-/
import Derived.Test.YtejgooipbmnioaaGreatDoorG01
set_option linter.unusedVariables false
set_option linter.unusedSimpArgs false
set_option linter.unusedSectionVars false
set_option maxRecDepth 20000
set_option maxHeartbeats 4000000
namespace Go.Stx
open Go Go.Proofs
attribute [local irreducible] TW cg eg bn aC aV cR df
section
abbrev MV:List (Nat×Nat):=[(0,0),(1,0),(2,0),(3,0),(4,0),(5,0)]
namespace TMemO
theorem jD [Gl] {A:AW} {L:List It} {T:Prop} (hS:ak A L) (hw:A.Wf) (h':(bg A L∧bB A L∧cj L)=T:=by first|(dsimp only [af,ag,bg,bB,cj,eA];done)|exact rfl):T:=h'▸hS.eu hw
end TMemO
open TMemO
variable [Gl]
theorem KF {M:Nat→List Int} {cell dq:Int} {g:Int→Int×Bool} (h:∀o,(g o).2=true→(g o).1=o):pB M cell dq g=M:=by
 unfold pB
 split
 · rename_i hc
   funext k
   simp only [setRow]
   split
   · rename_i e
     rw [h _ hc.2]
     have hh:1≤cell∧cell≤8:=by
      have:=hc.1
      simp only [hU,k8] at this
      split at this
      · assumption
      · simp at this;omega
     have hr:k8 M cell=M k:=by rw [e];exact if_pos hh
     have hi:0≤dq∧dq<(M k).length:=by
      have:=hc.1
      rw [hU,hr] at this
      simpa using this
     rw [hr]
     apply List.ext_getElem?
     intro q
     by_cases eq:dq.toNat=q
     · subst eq
       rw [List.getElem?_set_self (by omega),List.getD_eq_getElem?_getD,List.getElem?_eq_getElem (by omega)];rfl
     · rw [List.getElem?_set_ne eq]
   · rfl
 · rfl
theorem Gv (eo:Int):mw Tryz.prog 207 [.int .u64 eo] eG (fun v=>zQ (v=.tuple #[.int .u64 (kM eo).1,.bool (kM eo).2])*eG):=by
 intro A F hw hS
 refine ab Tryz.func207 rfl (by kernel_rfl) fun _=>?_
 revert hS hw;refine W trivial trivial (J1 ?_)<;>unhygienic intros
 exact⟨_,rfl,bz.post rfl hS⟩
theorem D4 (b:Nat) (x eo:Int):mw Tryz.prog 248 [.int .u64 eo,.pointer (some ⟨b,0,none⟩)] (pt b (.cells [.int .u64 x] true 1))
 (fun v=>zQ (v=.tuple #[.int .u64 (gr x eo).1,.bool (gr x eo).2])*pt b (.cells [.int .u64 x] true 1)):=by
 intro A F hw hS
 refine ab Tryz.func248 rfl (by kernel_rfl) fun _=>?_
 have hg:=hS.bR
 revert hS hw;refine W trivial (J2 hg @AW.aa) (J1 ?_)<;>unhygienic intros
 exact⟨_,rfl,bz.post rfl hS⟩
theorem FQ (b c:Nat) (x y eo:Int):mw Tryz.prog 281 [.int .u64 eo,.pointer (some ⟨b,0,none⟩),.pointer (some ⟨c,0,none⟩)]
 (pt b (.cells [.int .u64 x] true 1)*pt c (.cells [.int .u64 y] true 1))
 (fun v=>zQ (v=.tuple #[.int .u64 (mu y x eo).1,.bool (mu y x eo).2])*(pt b (.cells [.int .u64 x] true 1)*pt c (.cells [.int .u64 y] true 1))):=by
 intro A F hw hS
 refine ab Tryz.func281 rfl (by kernel_rfl) fun _=>?_
 rw [HP.cl] at hS
 have hg:=hS.bR
 have GR:=hS.right.bR
 revert hS hw;refine W (J1 (od MV)) (J3 hg GR @AW.aa) (J1 ?_)<;>unhygienic intros
 exact⟨_,rfl,bz.post (by simp [mu]) (by rw [HP.cl];exact hS)⟩
theorem EE (pb:Nat) (M:Nat→List Int) (cell dq:Int) :
 mw Tryz.prog 140 [.pointer (some ⟨pb,0,none⟩),.int .i64 cell,.int .i64 dq] (dS pb M)
  (fun v=>zQ (v=.tuple #[(fz M 1 cell dq kM).v,.int .i64 (mq M cell dq)])*dS pb M):=by
 intro A F hw hS
 refine ab Tryz.func140 rfl (by kernel_rfl) fun _=>?_
 revert hS hw;refine W trivial trivial (J1 ?_)<;>unhygienic intros
 have ij:bz (A.alloc (.cells bj true 1)) ((dS pb M*eG)*(pt A.next (.cells bj true 1)*F)):=by
  rw [dg];exact(hS.alloc hw _).dH (by ac_rfl)
 refine(mC pb M 1 cell dq _ #[] #[] eG kM Gv).use (hw.alloc _) ij rfl ?_
 intro v A2 ke kl _
 obtain⟨rfl,xG⟩:=ke.mT
 clear ke
 rw [dg,KF (by intro o _;rfl)] at xG
 have vK:bz A2 (pt A.next (.cells bj true 1)*(dS pb M*F)):=xG.dH (by ac_rfl)
 have hg:=vK.bR
 revert hS hw;(repeat first|clear hS|clear hw|revert hc|revert zn|revert zA|revert R|revert K);refine W trivial (J6 hg @AW.aa @ah.eq_1 @bj.eq_1 @MQ.eq_1 @ba.v.eq_1) (J1 ?_)<;>unhygienic intros
 exact⟨_,by simp [AW.gi,AW.dX,AW.aa,ah,ba.v];rfl,bz.post (by simp [ba.v]) (vK.set _).right⟩
theorem pg (pb:Nat) (M:Nat→List Int) (cell dq x:Int) :
 mw Tryz.prog 156 [.pointer (some ⟨pb,0,none⟩),.int .i64 cell,.int .i64 dq,.int .u64 x] (dS pb M)
  (fun v=>zQ (v=.tuple #[(fz M 2 cell dq (gr x)).v,.int .i64 (mq M cell dq)])*dS pb (pB M cell dq (gr x))):=by
 intro A F hw hS
 refine ab Tryz.func156 rfl (by kernel_rfl) fun _=>?_
 revert hS hw;refine W trivial trivial (J1 ?_)<;>unhygienic intros
 have iV:=hw.alloc (.cells [.int .u64 x] true 1)
 have ij:bz ((A.alloc (.cells [.int .u64 x] true 1)).alloc (.cells bj true 1)) ((dS pb M*pt A.next (.cells [.int .u64 x] true 1))*(pt (A.next+1) (.cells bj true 1)*F)):=
  ((hS.alloc hw (.cells [.int .u64 x] true 1)).alloc iV (.cells bj true 1)).dH (by simp only [AW.bq];ac_rfl)
 refine(mC pb M 2 cell dq _ #[] #[.pointer (some ⟨A.next,0,none⟩)] _ (gr x) (D4 A.next x)).use (iV.alloc _) ij rfl ?_
 intro v A2 ke kl _
 obtain⟨rfl,xG⟩:=ke.mT
 clear ke
 have vK:bz A2 (pt (A.next+1) (.cells bj true 1)*(pt A.next (.cells [.int .u64 x] true 1)*(dS pb (pB M cell dq (gr x))*F))):=xG.dH (by ac_rfl)
 have hg:=vK.bR
 revert hS hw;(repeat first|clear hS|clear hw|revert hc|revert zn|revert zA|revert R|revert K);refine W trivial (J6 hg @AW.aa @ah.eq_1 @bj.eq_1 @MQ.eq_1 @ba.v.eq_1) (J1 ?_)<;>unhygienic intros
 exact⟨_,by simp [AW.gi,AW.dX,AW.aa,ah,ba.v];rfl,bz.post (by simp [ba.v]) (vK.set _).right.right⟩
theorem ED (pb:Nat) (M:Nat→List Int) (cell dq x y:Int) :
 mw Tryz.prog 211 [.pointer (some ⟨pb,0,none⟩),.int .i64 cell,.int .i64 dq,.int .u64 x,.int .u64 y] (dS pb M)
  (fun v=>zQ (v=.tuple #[(fz M 3 cell dq (mu x y)).v,.int .i64 (mq M cell dq)])*dS pb (pB M cell dq (mu x y))):=by
 intro A F hw hS
 refine ab Tryz.func211 rfl (by kernel_rfl) fun _=>?_
 revert hS hw;refine W trivial trivial (J1 ?_)<;>unhygienic intros
 have iV:=hw.alloc (.cells [.int .u64 x] true 1)
 have kl:=iV.alloc (.cells [.int .u64 y] true 1)
 have ij:bz (((A.alloc (.cells [.int .u64 x] true 1)).alloc (.cells [.int .u64 y] true 1)).alloc (.cells bj true 1))
  ((dS pb M*(pt (A.next+1) (.cells [.int .u64 y] true 1)*pt A.next (.cells [.int .u64 x] true 1)))*(pt (A.next+1+1) (.cells bj true 1)*F)):=
  (((hS.alloc hw (.cells [.int .u64 x] true 1)).alloc iV (.cells [.int .u64 y] true 1)).alloc kl (.cells bj true 1)).dH (by simp only [AW.bq];ac_rfl)
 refine(mC pb M 3 cell dq _ #[] #[.pointer (some ⟨A.next+1,0,none⟩),.pointer (some ⟨A.next,0,none⟩)] _ (mu x y) (FQ (A.next+1) A.next y x)).use (kl.alloc _) ij rfl ?_
 intro v A2 ke GI _
 obtain⟨rfl,xG⟩:=ke.mT
 clear ke
 have vK:bz A2 (pt (A.next+1+1) (.cells bj true 1)*(pt A.next (.cells [.int .u64 x] true 1)*(pt (A.next+1) (.cells [.int .u64 y] true 1)*(dS pb (pB M cell dq (mu x y))*F)))):=xG.dH (by ac_rfl)
 have hg:=vK.bR
 revert hS hw;(repeat first|clear hS|clear hw|revert hc|revert zn|revert zA|revert R|revert K);refine W trivial (J6 hg @AW.aa @ah.eq_1 @bj.eq_1 @MQ.eq_1 @ba.v.eq_1) (J1 ?_)<;>unhygienic intros
 exact⟨_,by simp [AW.gi,AW.dX,AW.aa,ah,ba.v];rfl,bz.post (by simp [ba.v]) (vK.set _).right.right.right⟩
theorem JC (b:Nat) (x eo:Int):mw Tryz.prog 302 [.int .u64 eo,.pointer (some ⟨b,0,none⟩)] (pt b (.cells [.int .u64 x] true 1))
 (fun v=>zQ (v=.tuple #[.int .u64 (AI x eo).1,.bool (AI x eo).2])*pt b (.cells [.int .u64 x] true 1)):=by
 intro A F hw hS
 refine ab Tryz.func302 rfl (by kernel_rfl) fun _=>?_
 have hg:=hS.bR
 revert hS hw;refine W trivial (J2 hg @AW.aa) (J1 ?_)<;>unhygienic intros
 exact⟨_,by first|(simp;done)|(simp;rfl),bz.post (by simp [AI]) hS⟩
theorem MX (pb:Nat) (M:Nat→List Int) (cell dq x:Int) :
 mw Tryz.prog 286 [.pointer (some ⟨pb,0,none⟩),.int .i64 cell,.int .i64 dq,.int .u64 x] (dS pb M)
  (fun v=>zQ (v=.tuple #[(fz M 4 cell dq (AI x)).v,.int .i64 (mq M cell dq)])*dS pb (pB M cell dq (AI x))):=by
 intro A F hw hS
 refine ab Tryz.func286 rfl (by kernel_rfl) fun _=>?_
 revert hS hw;refine W trivial trivial (J1 ?_)<;>unhygienic intros
 have iV:=hw.alloc (.cells [.int .u64 x] true 1)
 have ij:bz ((A.alloc (.cells [.int .u64 x] true 1)).alloc (.cells bj true 1)) ((dS pb M*pt A.next (.cells [.int .u64 x] true 1))*(pt (A.next+1) (.cells bj true 1)*F)):=
  ((hS.alloc hw (.cells [.int .u64 x] true 1)).alloc iV (.cells bj true 1)).dH (by simp only [AW.bq];ac_rfl)
 refine(mC pb M 4 cell dq _ #[] #[.pointer (some ⟨A.next,0,none⟩)] _ (AI x) (JC A.next x)).use (iV.alloc _) ij rfl ?_
 intro v A2 ke kl _
 obtain⟨rfl,xG⟩:=ke.mT
 clear ke
 have vK:bz A2 (pt (A.next+1) (.cells bj true 1)*(pt A.next (.cells [.int .u64 x] true 1)*(dS pb (pB M cell dq (AI x))*F))):=xG.dH (by ac_rfl)
 have hg:=vK.bR
 revert hS hw;(repeat first|clear hS|clear hw|revert hc|revert zn|revert zA|revert R|revert K);refine W trivial (J6 hg @AW.aa @ah.eq_1 @bj.eq_1 @MQ.eq_1 @ba.v.eq_1) (J1 ?_)<;>unhygienic intros
 exact⟨_,by simp [AW.gi,AW.dX,AW.aa,ah,ba.v];rfl,bz.post (by simp [ba.v]) (vK.set _).right.right⟩
def dx (pb:Nat) (M:Mm):It:=.h (dS pb M)
theorem jn (pb:Nat) (M:Mm):aR [dx pb M]=dS pb M:=by show dS pb M*eG=_;rw [dg]
theorem Lk (pb:Nat) (M:Mm) (cell dq:Int):aY Tryz.prog 140 [.pointer (some ⟨pb,0,none⟩),.int .i64 cell,.int .i64 dq] [dx pb M]
 (fun v=>v=.tuple #[(gI M cell dq).v,.int .i64 (mq M cell dq)]) (fun _=>[dx pb M]):=
 aY.m8 (EE pb M cell dq) (jn pb M) fun v=>by rw [jn];rfl
theorem QC (pb:Nat) (M:Mm) (cell dq x:Int):aY Tryz.prog 156 [.pointer (some ⟨pb,0,none⟩),.int .i64 cell,.int .i64 dq,.int .u64 x] [dx pb M]
 (fun v=>v=.tuple #[(zN M cell dq x).v,.int .i64 (mq M cell dq)]) (fun _=>[dx pb (Ck M cell dq x)]):=
 aY.m8 (pg pb M cell dq x) (jn pb M) fun v=>by rw [jn];rfl
theorem Wy (pb:Nat) (M:Mm) (cell dq x y:Int):aY Tryz.prog 211 [.pointer (some ⟨pb,0,none⟩),.int .i64 cell,.int .i64 dq,.int .u64 x,.int .u64 y] [dx pb M]
 (fun v=>v=.tuple #[(Aa M cell dq x y).v,.int .i64 (mq M cell dq)]) (fun _=>[dx pb (ML M cell dq x y)]):=
 aY.m8 (ED pb M cell dq x y) (jn pb M) fun v=>by rw [jn];rfl
theorem ZX (pb:Nat) (M:Mm) (cell dq x:Int):aY Tryz.prog 286 [.pointer (some ⟨pb,0,none⟩),.int .i64 cell,.int .i64 dq,.int .u64 x] [dx pb M]
 (fun v=>v=.tuple #[(Ra M cell dq x).v,.int .i64 (mq M cell dq)]) (fun _=>[dx pb (Wd M cell dq x)]):=
 aY.m8 (MX pb M cell dq x) (jn pb M) fun v=>by rw [jn];rfl
end
section
variable [Gl]
inductive ap:List It→It→List It→Prop where
 | z {x:It} {L:List It}:ap (x::L) x L
 | s {x y:It} {L K:List It}:ap L x K→ap (y::L) x (y::K)
 | e {x y:It} {L:List It}:x.hp=y.hp→ap (x::L) y L
inductive aD:List It→List It→List It→Prop where
 | z {L:List It}:aD L [] L
 | s {x:It} {L M J K:List It}:ap L x M→aD M J K→aD L (x::J) K
theorem ap.aR {L K:List It} {x:It} (h:ap L x K):aR L=x.hp*aR K:=by
 induction h with
 | z=>rfl
 | e h=>
   rename_i x y L
   show x.hp*Stx.aR L=y.hp*Stx.aR L
   rw [h]
 | s h ih=>
   rename_i x y L K
   show y.hp*Stx.aR L=x.hp*(y.hp*Stx.aR K)
   rw [ih];ac_rfl
theorem aD.aR {L J K:List It} (h:aD L J K):aR L=aR J*aR K:=by
 induction h with
 | z=>rename_i L;show Stx.aR L=eG*Stx.aR L;rw [hQ]
 | s h1 h2 ih=>
   rename_i x L M J K
   rw [h1.aR,ih]
   show x.hp*(Stx.aR J*Stx.aR K)=x.hp*Stx.aR J*Stx.aR K
   ac_rfl
theorem ap.DF {b:Nat} {o o':dK} {L:List It} (h:o=o'):ap (.at b o::L) (.at b o') L:=by rw [h];exact .z
theorem aY.cA {P:Program} {f:FuncId} {args:List Value} {nG:List It} {φ:Value→Prop} {post:Value→List It} (h:aY P f args nG φ post) {A:AW} {L K:List It} {k:Value→AW→Prop} (hw:A.Wf) (hS:ak A L) (e:aD L nG K)
 (hk:∀v A',φ v→ak A' (post v++K)→A'.Wf→A.next≤A'.next→k v A'):aC P f args A k:=by
 have mh:ak A (nG++[.h (Stx.aR K)]):=by
  unfold ak at *
  rw [e.aR] at hS
  rw [eZ]
  show bz A (Stx.aR nG*(Stx.aR K*eG))
  rw [dg]
  exact hS
 refine bT (h A (Stx.aR K) hw mh) ?_
 rintro v A' ⟨h1,h2⟩ km hn
 refine hk v A' h1 ?_ km hn
 unfold ak at *
 rw [eZ] at h2 ⊢
 have h3:bz A' (Stx.aR (post v)*(Stx.aR K*eG)):=h2
 rwa [dg] at h3
def ct {ι:Type} (P:Program) (f:FuncId) (args:List Value) (nG:List It) (φ:ι→Value→Prop) (post:ι→List It):Prop:=
 ∀(A:AW) (F:HP),A.Wf→ak A (nG++[.h F])→aC P f args A fun v A'=>∃x,φ x v∧ak A' (post x++[.h F])
theorem ct.cA {ι:Type} {P:Program} {f:FuncId} {args:List Value} {nG:List It} {φ:ι→Value→Prop} {post:ι→List It} (h:ct P f args nG φ post) {A:AW} {L K:List It} {k:Value→AW→Prop} (hw:A.Wf) (hS:ak A L) (e:aD L nG K)
 (hk:∀x v A',φ x v→ak A' (post x++K)→A'.Wf→A.next≤A'.next→k v A'):aC P f args A k:=by
 have mh:ak A (nG++[.h (aR K)]):=by
  unfold ak at *
  rw [e.aR] at hS
  rw [eZ]
  show bz A (aR nG*(aR K*eG))
  rw [dg]
  exact hS
 refine bT (h A (aR K) hw mh) ?_
 rintro v A' ⟨x,h1,h2⟩ km hn
 refine hk x v A' h1 ?_ km hn
 unfold ak at *
 rw [eZ] at h2 ⊢
 have h3:bz A' (aR (post x)*(aR K*eG)):=h2
 rwa [dg] at h3
theorem ak.bS {A:AW} {L G K:List It} (h:ak A L) (e:aD L G K):ak A G:=by
 unfold ak at *
 rw [e.aR] at h
 exact h.left
theorem ak.ez {A:AW} {L K:List It} {i:Nat} {o o':dK} (h:ak A L) (e:ap L (.at i o) K):ak (A.set i (some o')) (.at i o'::K):=by
 unfold ak at *
 rw [e.aR] at h
 exact bz.set h o'
theorem ak.Qt {A:AW} {L:List It} {o:dK} (h:ak A L) (hw:A.Wf):ak (A.alloc o) (.at A.next o::L):=h.alloc hw o
theorem ak.Rz {A X:AW} {L K:List It} {i:Nat} {o:dK} (h:ak A L) (hw:A.Wf) (e:ap L (.at i o) K) (hl:A.next≤X.next):i<X.next:=by
 unfold ak at h
 rw [e.aR] at h
 exact Nat.lt_of_lt_of_le (hw.lt (bz.bR h)) hl
theorem wA {A:AW} (h':A.Wf:=by first|((repeat' (first|assumption|apply AW.Wf.alloc|apply AW.Wf.set|exact Nat.le_refl _|(simp only [AW.bq,AW.gW];omega)|apply ak.Rz hS hw|apply ap.z|apply ap.s));done)|fail):A.Wf:=h'
theorem sA {A:AW} {L:List It} (h':ak A L:=by first|((repeat' (first|exact hS|exact Nat.le_refl _|with_reducible apply ak.ez|with_reducible apply ak.nv|with_reducible apply AW.jm|with_reducible apply AW.nd|with_reducible apply ak.Qt|with_reducible apply ap.z|with_reducible apply ap.s|assumption|apply AW.Wf.alloc|apply AW.Wf.set|(simp only [AW.bq,AW.gW];omega)|apply ak.Rz hS hw|exact rfl));done)|fail):ak A L:=h'
theorem pA {L G K:List It} (h':aD L G K:=by first|((repeat' (first|apply aD.z|apply aD.s|apply ap.z|apply ap.s));done)|fail):aD L G K:=h'
theorem kA {L K:List It} {x:It} (h':ap L x K:=by first|((repeat' (first|apply aD.z|apply aD.s|apply ap.z|apply ap.s));done)|fail):ap L x K:=h'
theorem lA {A:AW} {L L':List It} (h:ak A L) (h':L=L':=by first|(dsimp only [AW.bq,af,ag];done)|exact rfl):ak A L':=h'▸h
namespace T0
theorem jD [Gl] {A:AW} {L:List It} {T:Prop} (hS:ak A L) (hw:A.Wf) (h':(bg A L∧bB A L∧cj L)=T:=by first|(dsimp only [af,ag,bg,bB,cj,eA,dx,fJ,iu,kY,fN,gm];done)|exact rfl):T:=h'▸hS.eu hw
end T0
theorem EQ [Gl] {A:AW} {L:List It} {T:Prop} (hS:ak A L) (hw:A.Wf) (h':(bg A L∧bB A L∧cj L)=T:=by first|(dsimp only [af,ag,dx,bg,bB,cj,eA,fJ,iu,kY,fN,gm];done)|exact rfl):T:=h'▸hS.eu hw
namespace T2
theorem jD [Gl] {A:AW} {L:List It} {T:Prop} (hS:ak A L) (hw:A.Wf) (h':(bg A L∧bB A L∧cj L)=T:=by first|(dsimp only [af,ag,bg,bB,cj,eA,dx];done)|exact rfl):T:=h'▸hS.eu hw
end T2
theorem jC [Gl] {A:AW} {L:List It} {T:Prop} (hS:ak A L) (hw:A.Wf) (h':(bg A L∧bB A L∧cj L)=T:=by first|(dsimp only [af,ag,dx,bg,bB,cj,eA];done)|exact rfl):T:=h'▸hS.eu hw
namespace T4
theorem jD [Gl] {A:AW} {L:List It} {T:Prop} (hS:ak A L) (hw:A.Wf) (h':(bg A L∧bB A L∧cj L)=T:=by first|(dsimp only [af,ag,bg,bB,cj,eA,qN];done)|exact rfl):T:=h'▸hS.eu hw
end T4
namespace T5
theorem jD [Gl] {A:AW} {L:List It} {T:Prop} (hS:ak A L) (hw:A.Wf) (h':(bg A L∧bB A L∧cj L)=T:=by first|(dsimp only [af,ag,bg,bB,cj,eA,jA];done)|exact rfl):T:=h'▸hS.eu hw
end T5
namespace T6
theorem jD [Gl] {A:AW} {L:List It} {T:Prop} (hS:ak A L) (hw:A.Wf) (h':(bg A L∧bB A L∧cj L)=T:=by first|(dsimp only [af,ag,bg,bB,cj,eA];done)|exact rfl):T:=h'▸hS.eu hw
end T6
theorem U8 [Gl] {A:AW} {L:List It} {T:Prop} (hS:ak A L) (hw:A.Wf) (h':(bg A L∧bB A L∧cj L)=T:=by first|(dsimp only [af,ag,bg,bB,cj,eA,jA];done)|exact rfl):T:=h'▸hS.eu hw
theorem eD [Gl] {A:AW} {L:List It} {T:Prop} (hS:ak A L) (hw:A.Wf) (h':(bg A L∧bB A L∧cj L)=T:=by first|(dsimp only [af,ag,bg,bB,cj,eA];done)|exact rfl):T:=h'▸hS.eu hw
namespace T9
theorem jD [Gl] {A:AW} {L:List It} {T:Prop} (hS:ak A L) (hw:A.Wf) (h':(bg A L∧bB A L∧cj L)=T:=by first|(dsimp only [af,ag,bg,bB,cj,eA,eP,fJ,iu,kY,fN,gm];done)|exact rfl):T:=h'▸hS.eu hw
end T9
namespace T10
theorem W1 [Gl] {A:AW} {L:List It} {T:Prop} (hS:ak A L) (hw:A.Wf) (h':(bg A L∧bB A L∧cj L)=T:=by first|(dsimp only [af,ag,bg,bB,cj,eA,eP,dk,cp,dm,eV,cq,cm,bt,dl,dh,eU,di];done)|exact rfl):T:=h'▸hS.eu hw
end T10
theorem H5 [Gl] {A:AW} {L:List It} {T:Prop} (hS:ak A L) (hw:A.Wf) (h':(bg A L∧bB A L∧cj L)=T:=by first|(dsimp only [af,ag,bg,bB,cj,eA,eP];done)|exact rfl):T:=h'▸hS.eu hw
theorem Bz [Gl] {A:AW} {L:List It} {T:Prop} (hS:ak A L) (hw:A.Wf) (h':(bg A L∧bB A L∧cj L)=T:=by first|(dsimp only [af,ag,bg,bB,cj,eA,eP,fJ,iu,kY,fN,gm];done)|exact rfl):T:=h'▸hS.eu hw
theorem dZ [Gl] {A:AW} {L:List It} {T:Prop} (hS:ak A L) (hw:A.Wf) (h':(bg A L∧bB A L∧cj L)=T:=by first|(dsimp only [af,ag,bg,bB,cj,eA,eP,dk,cp,dm,eV,cq,cm,bt,dl,dh,eU,di];done)|exact rfl):T:=h'▸hS.eu hw
namespace T14
theorem jD [Gl] {A:AW} {L:List It} {T:Prop} (hS:ak A L) (hw:A.Wf) (h':(bg A L∧bB A L∧cj L)=T:=by first|(dsimp only [af,ag,bg,bB,cj,eA,eP,fJ,iu,kY,fN,gm,dx];done)|exact rfl):T:=h'▸hS.eu hw
end T14
theorem wG [Gl] {A:AW} {L:List It} {T:Prop} (hS:ak A L) (hw:A.Wf) (h':(bg A L∧bB A L∧cj L)=T:=by first|(dsimp only [af,ag,bg,bB,cj,eA,eP,fJ,iu,kY,fN,gm,dx];done)|exact rfl):T:=h'▸hS.eu hw
theorem eW [Gl] {A:AW} {L:List It} {T:Prop} (hS:ak A L) (hw:A.Wf) (h':(bg A L∧bB A L∧cj L)=T:=by first|(dsimp only [af,ag,dx,bg,bB,cj,eA,eP,dk,cp,dm,eV,cq,cm,bt,dl,dh,eU,di];done)|exact rfl):T:=h'▸hS.eu hw
namespace T17
theorem jD [Gl] {A:AW} {L:List It} {T:Prop} (hS:ak A L) (hw:A.Wf) (h':(bg A L∧bB A L∧cj L)=T:=by first|(dsimp only [af,ag,bg,bB,cj,eA,eP,fJ,iu,kY,fN,gm,dx,dk,cp,dm,eV,cq,cm,bt,dl,dh,eU,di];done)|exact rfl):T:=h'▸hS.eu hw
end T17
theorem RM [Gl] {A:AW} {L:List It} {T:Prop} (hS:ak A L) (hw:A.Wf) (h':(bg A L∧bB A L∧cj L)=T:=by first|(dsimp only [af,ag,bg,bB,cj,eA,eP,fJ,iu,kY,fN,gm,dx,dk,cp,dm,eV,cq,cm,bt,dl,dh,eU,di];done)|exact rfl):T:=h'▸hS.eu hw
namespace T19
theorem jD [Gl] {A:AW} {L:List It} {T:Prop} (hS:ak A L) (hw:A.Wf) (h':(bg A L∧bB A L∧cj L)=T:=by first|(dsimp only [af,ag,bg,bB,cj,eA,tK,qC];done)|exact rfl):T:=h'▸hS.eu hw
end T19
theorem H4 [Gl] {A:AW} {L:List It} {T:Prop} (hS:ak A L) (hw:A.Wf) (h':(bg A L∧bB A L∧cj L)=T:=by first|(dsimp only [af,ag,bg,bB,cj,eA,tK,qC];done)|exact rfl):T:=h'▸hS.eu hw
namespace T21
theorem jD [Gl] {A:AW} {L:List It} {T:Prop} (hS:ak A L) (hw:A.Wf) (h':(bg A L∧bB A L∧cj L)=T:=by first|(dsimp only [af,ag,bg,bB,cj,eA,dx,pq];done)|exact rfl):T:=h'▸hS.eu hw
end T21
theorem mt [Gl] {A:AW} {L:List It} {T:Prop} (hS:ak A L) (hw:A.Wf) (h':(bg A L∧bB A L∧cj L)=T:=by first|(dsimp only [af,ag,dx,bg,bB,cj,eA,pq];done)|exact rfl):T:=h'▸hS.eu hw
namespace T23
theorem jD [Gl] {A:AW} {L:List It} {T:Prop} (hS:ak A L) (hw:A.Wf) (h':(bg A L∧bB A L∧cj L)=T:=by first|(dsimp only [af,ag,bg,bB,cj,eA,dx,Lh,fN];done)|exact rfl):T:=h'▸hS.eu hw
end T23
theorem ut [Gl] {A:AW} {L:List It} {T:Prop} (hS:ak A L) (hw:A.Wf) (h':(bg A L∧bB A L∧cj L)=T:=by first|(dsimp only [af,ag,dx,bg,bB,cj,eA,Lh,fN];done)|exact rfl):T:=h'▸hS.eu hw
theorem Lr [Gl] {A:AW} {L:List It} {T:Prop} (hS:ak A L) (hw:A.Wf) (h':(bg A L∧bB A L∧cj L)=T:=by first|(dsimp only [af,ag,dx,F8,bg,bB,cj,eA,tK,qC];done)|exact rfl):T:=h'▸hS.eu hw
namespace T26
theorem jD [Gl] {A:AW} {L:List It} {T:Prop} (hS:ak A L) (hw:A.Wf) (h':(bg A L∧bB A L∧cj L)=T:=by first|(dsimp only [af,ag,bg,bB,cj,eA,dx,F8,qC];done)|exact rfl):T:=h'▸hS.eu hw
end T26
theorem lb [Gl] {A:AW} {L:List It} {T:Prop} (hS:ak A L) (hw:A.Wf) (h':(bg A L∧bB A L∧cj L)=T:=by first|(dsimp only [af,ag,dx,F8,qC,bg,bB,cj,eA];done)|exact rfl):T:=h'▸hS.eu hw
end
end Go.Stx
