/-
 The program's attempt: requests.
-/
import Derived.Test.YtejgooipbmnioaaGreatDoorG11
set_option linter.unusedVariables false
set_option linter.unusedSimpArgs false
set_option linter.unusedSectionVars false
set_option maxRecDepth 20000
set_option maxHeartbeats 4000000
namespace Go.Stx
open Go Go.Proofs
attribute [local irreducible] TW cg eg bn aC aV cR df
section
open T9 T10
variable [Gl]
section
variable {A:AW} {L K:List It} {k:Value→AW→Prop} {b:Nat} {s:aT} {bX:Int}
set_option maxRecDepth 20000 in
set_option maxHeartbeats 2000000 in
theorem iH {fn:Fn} {cs:Array Value} {bD bJ aJ aX aW m c0 c1 c2:Nat} {aZ aE aL aN bk aS bP aO aM aB bc bd bZ bl:Value} (hw:A.Wf) (hS:ak A L) (e:aD L (bx b s bX .bK ⟨bD,bJ,aJ,aX,aW,m,c0,c1,c2,aZ,aE,aL,aN,bk,aS,bP,aO,aM,aB,bc,bd,bZ,bl⟩) K)
 (hk:∀v A',ak A' (bx b s 1 .bK ⟨bD,bJ,aJ,aX,aW,m,c0,c1,c2,aZ,aE,aL,aN,bk,aS,bP,aO,aM,aB,bc,.func fn #[] cs,bZ,bl⟩++K)→A'.Wf→k v A'):aC Tryz.prog 168 [pv b,.func fn #[] cs] A k:=by
 have key:aY Tryz.prog 168 [pv b,.func fn #[] cs] (bx b s bX .bK ⟨bD,bJ,aJ,aX,aW,m,c0,c1,c2,aZ,aE,aL,aN,bk,aS,bP,aO,aM,aB,bc,bd,bZ,bl⟩) (fun _=>True) (fun _=>bx b s 1 .bK ⟨bD,bJ,aJ,aX,aW,m,c0,c1,c2,aZ,aE,aL,aN,bk,aS,bP,aO,aM,aB,bc,.func fn #[] cs,bZ,bl⟩):=by
  intro A F hw hS
  refine ab Tryz.func168 rfl (by kernel_rfl) fun _=>?_
  dsimp only [bx,af,ag] at hS
  have hq:=dZ hS hw
  revert hq hS hw;clear hS;clear hw;refine Wp trivial (J2 @AW.aa @ah.eq_1) (J1 ?_)<;>unhygienic intros
  refine⟨_,by first|rfl|(simp;rfl),trivial,?_⟩
  apply ak.bS
  (·exact sA)
  (dsimp only [bx,eP,dk,cp,dm,eV,cq,cm,bt,dl,dh,eU,di,af,ag])
  (·first|exact pP|exact kP)
 exact key.cA hw hS e fun v A' _ h1 h2 _=>hk v A' h1 h2
set_option maxRecDepth 20000 in
set_option maxHeartbeats 2000000 in
theorem yk {a:Int} {fn:Fn} {cs:Array Value} (hc:b9 s.cf) {bD bJ aJ aX aW m c0 c1 c2:Nat} {aZ aE aL aN bk aS bP aO aM aB bc bd bZ bl:Value} (hw:A.Wf) (hS:ak A L) (e:aD L (bx b s bX .bK ⟨bD,bJ,aJ,aX,aW,m,c0,c1,c2,aZ,aE,aL,aN,bk,aS,bP,aO,aM,aB,bc,bd,bZ,bl⟩) K)
 (hk:∀v n A',ak A' (.at n (gm ⟨a,fD s.cf a,s.rv,0,0,0,false⟩)::(bx b s 3 .bK ⟨bD,bJ,aJ,aX,aW,m,c0,c1,c2,aZ,aE,aL,aN,pv n,.int .i64 0,bP,aO,aM,aB,bc,bd,.func fn #[] cs,.int .i64 a⟩++K))→A'.Wf→k v A') :
 aC Tryz.prog 176 [pv b,.int .i64 a,.func fn #[] cs] A k:=by
 have key:aY Tryz.prog 176 [pv b,.int .i64 a,.func fn #[] cs] (bx b s bX .bK ⟨bD,bJ,aJ,aX,aW,m,c0,c1,c2,aZ,aE,aL,aN,bk,aS,bP,aO,aM,aB,bc,bd,bZ,bl⟩) (fun _=>True)
  (fun _=>[.h (nI fun n=>aR (.at n (gm ⟨a,fD s.cf a,s.rv,0,0,0,false⟩)::bx b s 3 .bK ⟨bD,bJ,aJ,aX,aW,m,c0,c1,c2,aZ,aE,aL,aN,pv n,.int .i64 0,bP,aO,aM,aB,bc,bd,.func fn #[] cs,.int .i64 a⟩))]):=by
  intro A F hw hS
  refine ab Tryz.func176 rfl (by kernel_rfl) fun _=>?_
  dsimp only [bx,af,ag] at hS
  have hq:=dZ hS hw
  have wI:=rC s.cf hc a
  dsimp only [bC.v] at wI
  revert hq hS hw;(try revert hc);clear hS;clear hw;refine Wp (J3 (Tg.mk (n:=30) (fun A' h1 h2=>oU b s 3 .bK A' h1 h2)) @wI @CH) (J2 @AW.aa @ah.eq_1) (J1 ?_)<;>unhygienic intros
  refine⟨_,by first|rfl|(simp;rfl),trivial,?_⟩
  apply ak.bS (L:=.h (nI fun n=>aR (.at n (gm ⟨a,fD s.cf a,s.rv,0,0,0,false⟩)::bx b s 3 .bK ⟨bD,bJ,aJ,aX,aW,m,c0,c1,c2,aZ,aE,aL,aN,pv n,.int .i64 0,bP,aO,aM,aB,bc,bd,.func fn #[] cs,.int .i64 a⟩))::[.h F]) ?_ (.s .z (.s .z .z))
  apply ak.bS
  · apply ii (g:=fun n=>.at n (gm ⟨a,fD s.cf a,s.rv,0,0,0,false⟩)::bx b s 3 .bK ⟨bD,bJ,aJ,aX,aW,m,c0,c1,c2,aZ,aE,aL,aN,pv n,.int .i64 0,bP,aO,aM,aB,bc,bd,.func fn #[] cs,.int .i64 a⟩)
    (·exact sA)
    (dsimp only [bx,eP,dk,cp,dm,eV,cq,cm,bt,dl,dh,eU,di,af,ag])
    (·first|exact pP|exact kP)
  (·first|exact pP|exact kP)
 refine key.cA hw hS e fun v A' _ h1 h2 _=>?_
 obtain⟨n,h3⟩:=jE h1 .z
 exact hk v n A' h3 h2
end
end
section
abbrev ud:List (Nat×Nat):=[(0,0),(1,0),(2,0),(3,0),(4,0),(5,0),(6,0),(7,0),(8,0),(9,0),(10,0),(11,0)]
abbrev rJ:List (Nat×Nat):=[(0,0),(1,0),(2,0),(3,0),(4,0),(5,0),(6,0),(7,0)]
open T9 T10
variable [Gl]
theorem ej {f:FuncId} {args:List Value} {V:Value} {b:Nat} {s:aT} (hC:∀A':AW,A'.Wf→ak A' [.h (bf b s)]→eF f args A' V)
 {A:AW} {L K:List It} {k:Value→AW→Prop} (hw:A.Wf) (hS:ak A L) (hp:ap L (.h (bf b s)) K) (hk:k V A):aC Tryz.prog f args A k:=by
 refine bT (hC A hw (ak.bS hS (.s hp .z))) ?_
 rintro _ _ ⟨rfl,rfl⟩ _ _
 exact hk
theorem gD (b:Nat) (s:aT) (st:Int) (h:s.kO st=true):∀A':AW,A'.Wf→ak A' [.h (gM b s 0 .bK)]→eF 167 [pv b,.int .i64 st] A' (.int .i64 0):=by
 intro A' h1 h2
 have h3:s.aG.dT=0:=by
  unfold aT.kO at h
  simp at h
  exact h.1
 have:=yu b s st .bK A' h1 (by rw [h3];exact h2)
 rwa [if_pos h] at this
theorem oY (b:Nat) (s:aT) (st:Int) (h:¬s.kO st=true):∀A':AW,A'.Wf→ak A' [.h (bf b s)]→eF 167 [pv b,.int .i64 st] A' (.int .i64 1):=by
 intro A' h1 h2
 have:=yu b s st s.aG A' h1 (bf.Ms h2 .z)
 rwa [if_neg h] at this
theorem rP {s:aT} {st:Int} (h:s.kO st=true):s.aG=.bK∧s.aA=st:=by
 unfold aT.kO at h
 simp at h
 refine⟨?_,h.2⟩
 have h1:=h.1
 revert h1
 cases s.aG<;>simp [aU.dT]
theorem LQ {c:bC} (hc:b9 c) (a:Int):i9 c a≤64:=by
 have:=hc.nb
 unfold i9
 split
 · rename_i b h
   have h1:=List.mem_range.1 (List.mem_of_find?_eq_some h)
   omega
 · omega
set_option maxRecDepth 20000 in
set_option maxHeartbeats 2000000 in
theorem He (b:Nat) (s:aT) :
 aY Tryz.prog 181 [pv b] [.h (bf b s)] (fun v=>v=.int .i64 (gf s).1) (fun _=>[.h (bf b (gf s).2)]):=by
 by_cases hf:s.kO 0=true
 · skip
   obtain⟨h1,h2⟩:=rP hf
   obtain⟨cf,am,aA,ay,value,bL,aj,reads,ai,av,set,bp,ax,an,aI,aH,ao,aG⟩:=s
   dsimp only at h1 h2
   subst h1 h2
   intro A F hw hS
   refine ab Tryz.func181 rfl (by kernel_rfl) fun _=>?_
   obtain⟨⟨bD,bJ,aJ,aX,aW,m,c0,c1,c2,aZ,aE,aL,aN,bk,aS,bP,aO,aM,aB,bc,bd,bZ,bl⟩,hS⟩:=bf.open hS .z
   dsimp only [bx,ei,br,b8,aU.dT,af,ag] at hS
   have hq:=dZ hS hw
   have ET:=hw.lt (hS.g 0 rfl)
   have ll:(b=A.next+1+1)=False:=eq_false (by omega)
   have rS:(A.next+1+1=b)=False:=eq_false (by omega)
   have ta:(A.next=A.next+1+1)=False:=eq_false (by omega)
   have e:gf ⟨cf,am,0,ay,value,bL,aj,reads,ai,av,set,bp,ax,an,aI,aH,ao,.bK⟩=(0,_):=if_pos hf
   revert hq hS hw;clear hS;refine Wp (J2 (Tg.mk (n:=30) (gD b ⟨cf,am,0,ay,value,bL,aj,reads,ai,av,set,bp,ax,an,aI,aH,ao,.bK⟩ 0 hf)) @Ar) (J5 ll rS ta @AW.aa @ah.eq_1) (J1 ?_)<;>unhygienic intros
   rw [e]
   refine⟨_,by first|rfl|(simp;rfl),rfl,?_⟩
   apply bf.bS
   (·exact sA)
   (dsimp only [bx,eP,ei,br,b8,aU.dT,ed,cF,cy,dk,cp,dm,eV,cq,cm,bt,dl,dh,eU,di,af,ag])
   try simp only [h]
   (·first|exact pP|exact kP)
   (·first|exact pP|exact kP)
   all_goals(first|exact 0|exact undef)
 · have e:gf s=(1,s):=if_neg hf
   intro A F hw hS
   refine ab Tryz.func181 rfl (by kernel_rfl) fun _=>?_
   try dsimp only [af,ag] at hS
   have hr:=oY b s 0 hf
   revert hS hw;(repeat first|clear hS|clear hw|revert hc|revert zn|revert zA|revert R|revert K);refine Wp (J1 (Tg.mk (n:=10) (fun {A L K k}=>ej (A:=A) (L:=L) (K:=K) (k:=k) hr))) (J2 @AW.aa @ah.eq_1) (J1 ?_)<;>unhygienic intros
   rw [e]
   refine⟨_,by first|rfl|(simp;rfl),rfl,?_⟩
   apply ak.bS
   (·exact sA)
   (·first|exact pP|exact kP)
set_option maxRecDepth 20000 in
set_option maxHeartbeats 2000000 in
theorem xO (b:Nat) (s:aT) (a v:Int) :
 aY Tryz.prog 114 [pv b,.int .u64 a,.int .u64 v] [.h (bf b s)] (fun u=>u=.int .i64 (DH s a v).1) (fun _=>[.h (bf b (DH s a v).2)]):=by
 by_cases hf:s.kO 1=true
 · skip
   obtain⟨h1,h2⟩:=rP hf
   obtain⟨cf,am,aA,ay,value,bL,aj,reads,ai,av,set,bp,ax,an,aI,aH,ao,aG⟩:=s
   dsimp only at h1 h2
   subst h1 h2
   intro A F hw hS
   refine ab Tryz.func114 rfl (by kernel_rfl) fun _=>?_
   obtain⟨⟨bD,bJ,aJ,aX,aW,m,c0,c1,c2,aZ,aE,aL,aN,bk,aS,bP,aO,aM,aB,bc,bd,bZ,bl⟩,hS⟩:=bf.open hS .z
   dsimp only [bx,ei,br,b8,aU.dT,af,ag] at hS
   have hq:=dZ hS hw
   have ET:=hw.lt (hS.g 0 rfl)
   have ll:(b=A.next+1+1)=False:=eq_false (by omega)
   have rS:(A.next+1+1=b)=False:=eq_false (by omega)
   have ta:(A.next=A.next+1+1)=False:=eq_false (by omega)
   have e:DH ⟨cf,am,1,ay,value,bL,aj,reads,ai,av,set,bp,ax,an,aI,aH,ao,.bK⟩ a v=(0,_):=if_pos hf
   revert hq hS hw;clear hS;refine Wp (J2 (Tg.mk (n:=30) (gD b ⟨cf,am,1,ay,value,bL,aj,reads,ai,av,set,bp,ax,an,aI,aH,ao,.bK⟩ 1 hf)) (Tg.mk (n:=31) (fun {A L K k fn cs bD bJ aJ aX aW m c0 c1 c2 aZ aE aL aN bk aS bP aO aM aB bc bd bZ bl}=>iH (A:=A) (L:=L) (K:=K) (k:=k) (fn:=fn) (cs:=cs) (bD:=bD) (bJ:=bJ) (aJ:=aJ) (aX:=aX) (aW:=aW) (m:=m) (c0:=c0) (c1:=c1) (c2:=c2) (aZ:=aZ) (aE:=aE) (aL:=aL) (aN:=aN) (bk:=bk) (aS:=aS) (bP:=bP) (aO:=aO) (aM:=aM) (aB:=aB) (bc:=bc) (bd:=bd) (bZ:=bZ) (bl:=bl) (s:=⟨cf,am,1,ay,value,bL,aj,reads,ai,av,set,bp,ax,an,aI,aH,ao,.bK⟩) (bX:=0)))) (J5 ll rS ta @AW.aa @ah.eq_1) (J1 ?_)<;>unhygienic intros
   rw [e]
   refine⟨_,by first|rfl|(simp;rfl),rfl,?_⟩
   apply bf.bS
   (·exact sA)
   (dsimp only [bx,eP,ei,br,b8,aU.dT,ed,cF,cy,dk,cp,dm,eV,cq,cm,bt,dl,dh,eU,di,af,ag])
   try simp only [h]
   (·first|exact pP|exact kP)
   (·first|exact pP|exact kP)
   all_goals(first|exact 0|exact undef)
 · have e:DH s a v=(1,s):=if_neg hf
   intro A F hw hS
   refine ab Tryz.func114 rfl (by kernel_rfl) fun _=>?_
   try dsimp only [af,ag] at hS
   have hr:=oY b s 1 hf
   revert hS hw;(repeat first|clear hS|clear hw|revert hc|revert zn|revert zA|revert R|revert K);refine Wp (J1 (Tg.mk (n:=10) (fun {A L K k}=>ej (A:=A) (L:=L) (K:=K) (k:=k) hr))) (J2 @AW.aa @ah.eq_1) (J1 ?_)<;>unhygienic intros
   rw [e]
   refine⟨_,by first|rfl|(simp;rfl),rfl,?_⟩
   apply ak.bS
   (·exact sA)
   (·first|exact pP|exact kP)
set_option maxRecDepth 20000 in
set_option maxHeartbeats 2000000 in
theorem ri (b:Nat) (s:aT) (lR:Int) :
 aY Tryz.prog 111 [pv b,.int .i64 lR] [.h (bf b s)] (fun u=>u=.int .i64 (zS s lR).1) (fun _=>[.h (bf b (zS s lR).2)]):=by
 by_cases hf:s.kO 1=true
 · skip
   obtain⟨h1,h2⟩:=rP hf
   obtain⟨cf,am,aA,ay,value,bL,aj,reads,ai,av,set,bp,ax,an,aI,aH,ao,aG⟩:=s
   dsimp only at h1 h2
   subst h1 h2
   intro A F hw hS
   refine ab Tryz.func111 rfl (by kernel_rfl) fun _=>?_
   obtain⟨⟨bD,bJ,aJ,aX,aW,m,c0,c1,c2,aZ,aE,aL,aN,bk,aS,bP,aO,aM,aB,bc,bd,bZ,bl⟩,hS⟩:=bf.open hS .z
   dsimp only [bx,ei,br,b8,aU.dT,af,ag] at hS
   have hq:=dZ hS hw
   have ET:=hw.lt (hS.g 0 rfl)
   have ll:(b=A.next+1+1)=False:=eq_false (by omega)
   have rS:(A.next+1+1=b)=False:=eq_false (by omega)
   have ta:(A.next=A.next+1+1)=False:=eq_false (by omega)
   have e0:zS ⟨cf,am,1,ay,value,bL,aj,reads,ai,av,set,bp,ax,an,aI,aH,ao,.bK⟩ lR=_:=if_pos hf
   dsimp only at e0
   by_cases g1:lR=1
   · have e:=e0.trans (if_neg (by omega))
     revert hq hS hw;clear hS;refine Wp (J2 (Tg.mk (n:=30) (gD b ⟨cf,am,1,ay,value,bL,aj,reads,ai,av,set,bp,ax,an,aI,aH,ao,.bK⟩ 1 hf)) (Tg.mk (n:=31) (fun {A L K k fn cs bD bJ aJ aX aW m c0 c1 c2 aZ aE aL aN bk aS bP aO aM aB bc bd bZ bl}=>iH (A:=A) (L:=L) (K:=K) (k:=k) (fn:=fn) (cs:=cs) (bD:=bD) (bJ:=bJ) (aJ:=aJ) (aX:=aX) (aW:=aW) (m:=m) (c0:=c0) (c1:=c1) (c2:=c2) (aZ:=aZ) (aE:=aE) (aL:=aL) (aN:=aN) (bk:=bk) (aS:=aS) (bP:=bP) (aO:=aO) (aM:=aM) (aB:=aB) (bc:=bc) (bd:=bd) (bZ:=bZ) (bl:=bl) (s:=⟨cf,am,1,ay,value,bL,aj,reads,ai,av,set,bp,ax,an,aI,aH,ao,.bK⟩) (bX:=0)))) (J6 ll rS ta g1 @AW.aa @ah.eq_1) (J1 ?_)<;>unhygienic intros
     subst g1
     rw [e]
     refine⟨_,by first|rfl|(simp;rfl),rfl,?_⟩
     apply bf.bS
     (·exact sA)
     (dsimp only [bx,eP,ei,br,b8,aU.dT,ed,cF,cy,dk,cp,dm,eV,cq,cm,bt,dl,dh,eU,di,af,ag])
     try simp only [h]
     (·first|exact pP|exact kP)
     (·first|exact pP|exact kP)
     all_goals(first|exact 0|exact undef)
   · by_cases g2:lR=2
     · have e:=e0.trans (if_neg (by omega))
       revert hq hS hw;(repeat first|clear hq|clear hS|clear hw|revert hc|revert zn|revert zA|revert R|revert K);refine Wp (J2 (Tg.mk (n:=30) (gD b ⟨cf,am,1,ay,value,bL,aj,reads,ai,av,set,bp,ax,an,aI,aH,ao,.bK⟩ 1 hf)) (Tg.mk (n:=31) (fun {A L K k fn cs bD bJ aJ aX aW m c0 c1 c2 aZ aE aL aN bk aS bP aO aM aB bc bd bZ bl}=>iH (A:=A) (L:=L) (K:=K) (k:=k) (fn:=fn) (cs:=cs) (bD:=bD) (bJ:=bJ) (aJ:=aJ) (aX:=aX) (aW:=aW) (m:=m) (c0:=c0) (c1:=c1) (c2:=c2) (aZ:=aZ) (aE:=aE) (aL:=aL) (aN:=aN) (bk:=bk) (aS:=aS) (bP:=bP) (aO:=aO) (aM:=aM) (aB:=aB) (bc:=bc) (bd:=bd) (bZ:=bZ) (bl:=bl) (s:=⟨cf,am,1,ay,value,bL,aj,reads,ai,av,set,bp,ax,an,aI,aH,ao,.bK⟩) (bX:=0)))) (J7 ll rS ta g1 g2 @AW.aa @ah.eq_1) (J1 ?_)<;>unhygienic intros
       subst g2
       rw [e]
       refine⟨_,by first|rfl|(simp;rfl),rfl,?_⟩
       apply bf.bS
       (·exact sA)
       (dsimp only [bx,eP,ei,br,b8,aU.dT,ed,cF,cy,dk,cp,dm,eV,cq,cm,bt,dl,dh,eU,di,af,ag])
       try simp only [h]
       (·first|exact pP|exact kP)
       (·first|exact pP|exact kP)
       all_goals(first|exact 0|exact undef)
     · have e:=e0.trans (if_pos ⟨g1,g2⟩)
       revert hq hS hw;(repeat first|clear hq|clear hS|clear hw|revert hc|revert zn|revert zA|revert R|revert K);refine Wp (J1 (Tg.mk (n:=30) (gD b ⟨cf,am,1,ay,value,bL,aj,reads,ai,av,set,bp,ax,an,aI,aH,ao,.bK⟩ 1 hf))) (J7 ll rS ta g1 g2 @AW.aa @ah.eq_1) (J1 ?_)<;>unhygienic intros
       rw [e]
       refine⟨_,by first|rfl|(simp;rfl),rfl,?_⟩
       apply bf.bS
       (·exact sA)
       (dsimp only [bx,eP,ei,br,b8,aU.dT,ed,cF,cy,dk,cp,dm,eV,cq,cm,bt,dl,dh,eU,di,af,ag])
       try simp only [h]
       (·first|exact pP|exact kP)
       (·first|exact pP|exact kP)
       all_goals(first|exact 0|exact undef)
 · have e:zS s lR=(1,s):=if_neg hf
   intro A F hw hS
   refine ab Tryz.func111 rfl (by kernel_rfl) fun _=>?_
   try dsimp only [af,ag] at hS
   have hr:=oY b s 1 hf
   revert hS hw;(repeat first|clear hS|clear hw|revert hc|revert zn|revert zA|revert R|revert K);refine Wp (J1 (Tg.mk (n:=10) (fun {A L K k}=>ej (A:=A) (L:=L) (K:=K) (k:=k) hr))) (J2 @AW.aa @ah.eq_1) (J1 ?_)<;>unhygienic intros
   rw [e]
   refine⟨_,by first|rfl|(simp;rfl),rfl,?_⟩
   apply ak.bS
   (·exact sA)
   (·first|exact pP|exact kP)
set_option maxRecDepth 20000 in
set_option maxHeartbeats 2000000 in
theorem Bl (b:Nat) (s:aT) (a:Int) (hC:fA s) (ha:0≤a) :
 aY Tryz.prog 112 [pv b,.int .u64 a] [.h (bf b s)] (fun u=>u=.int .i64 (Eb s a).1) (fun _=>[.h (bf b (Eb s a).2)]):=by
 by_cases hf:s.kO 1=true
 · skip
   obtain⟨h1,h2⟩:=rP hf
   obtain⟨cf,am,aA,ay,value,bL,aj,reads,ai,av,set,bp,ax,an,aI,aH,ao,aG⟩:=s
   dsimp only at h1 h2
   subst h1 h2
   intro A F hw hS
   refine ab Tryz.func112 rfl (by kernel_rfl) fun _=>?_
   obtain⟨⟨bD,bJ,aJ,aX,aW,m,c0,c1,c2,aZ,aE,aL,aN,bk,aS,bP,aO,aM,aB,bc,bd,bZ,bl⟩,hS⟩:=bf.open hS .z
   dsimp only [bx,ei,br,b8,aU.dT,af,ag] at hS
   have hq:=dZ hS hw
   have ET:=hw.lt (hS.g 0 rfl)
   have ll:(b=A.next+1+1)=False:=eq_false (by omega)
   have rS:(A.next+1+1=b)=False:=eq_false (by omega)
   have ta:(A.next=A.next+1+1)=False:=eq_false (by omega)
   have JN:=hC.cf.aQ
   dsimp only at JN
   have e0:Eb ⟨cf,am,1,ay,value,bL,aj,reads,ai,av,set,bp,ax,an,aI,aH,ao,.bK⟩ a=_:=if_pos hf
   dsimp only at e0
   by_cases g1:cf.aQ≤a
   · have e:=e0.trans (if_pos g1)
     revert hq hS hw;clear hS;refine Wp (J3 (Tg.mk (n:=30) (gD b ⟨cf,am,1,ay,value,bL,aj,reads,ai,av,set,bp,ax,an,aI,aH,ao,.bK⟩ 1 hf)) (Tg.mk (n:=30) (mB b ⟨cf,am,1,ay,value,bL,aj,reads,ai,av,set,bp,ax,an,aI,aH,ao,.bK⟩ 0 a .bK hC.cf)) (Tg.mk (n:=31) (fun {A L K k fn cs bD bJ aJ aX aW m c0 c1 c2 aZ aE aL aN bk aS bP aO aM aB bc bd bZ bl}=>iH (A:=A) (L:=L) (K:=K) (k:=k) (fn:=fn) (cs:=cs) (bD:=bD) (bJ:=bJ) (aJ:=aJ) (aX:=aX) (aW:=aW) (m:=m) (c0:=c0) (c1:=c1) (c2:=c2) (aZ:=aZ) (aE:=aE) (aL:=aL) (aN:=aN) (bk:=bk) (aS:=aS) (bP:=bP) (aO:=aO) (aM:=aM) (aB:=aB) (bc:=bc) (bd:=bd) (bZ:=bZ) (bl:=bl) (s:=⟨cf,am,1,ay,value,bL,aj,reads,ai,av,set,bp,ax,an,aI,aH,ao,.bK⟩) (bX:=0)))) (J6 ll rS ta g1 @AW.aa @ah.eq_1) (J1 ?_)<;>unhygienic intros
     rw [e]
     refine⟨_,by first|rfl|(simp;rfl),rfl,?_⟩
     apply bf.bS
     (·exact sA)
     (dsimp only [bx,eP,ei,br,b8,aU.dT,ed,cF,cy,dk,cp,dm,eV,cq,cm,bt,dl,dh,eU,di,af,ag])
     try simp only [h]
     (·first|exact pP|exact kP)
     (·first|exact pP|exact kP)
     all_goals(first|exact 0|exact undef)
   · have PB:IntKind.i64.wrap a=a:=aw (by omega) (by omega)
     have hlg:∀x y,jo bp a=(x,y)→(jo bp a).1=x∧(jo bp a).2=y:=fun x y h=>by rw [h];exact⟨rfl,rfl⟩
     cases g2:(jo bp a).2
     · have e:=e0.trans ((if_neg g1).trans (if_neg (by rw [g2];simp)))
       revert hq hS hw;(repeat first|clear hq|clear hS|clear hw|revert hc|revert zn|revert zA|revert R|revert K);refine Wp (J4 (Tg.mk (n:=30) (gD b ⟨cf,am,1,ay,value,bL,aj,reads,ai,av,set,bp,ax,an,aI,aH,ao,.bK⟩ 1 hf)) (Tg.mk (n:=30) (mB b ⟨cf,am,1,ay,value,bL,aj,reads,ai,av,set,bp,ax,an,aI,aH,ao,.bK⟩ 0 a .bK hC.cf)) (Tg.mk (n:=10) (fun {A L K k n}=>pY (A:=A) (L:=L) (K:=K) (k:=k) (n:=n) hC.bp hC.ew hC.dq ha)) (Tg.mk (n:=31) (fun {A L K k fn cs bD bJ aJ aX aW m c0 c1 c2 aZ aE aL aN bk aS bP aO aM aB bc bd bZ bl}=>yk (A:=A) (L:=L) (K:=K) (k:=k) (fn:=fn) (cs:=cs) (bD:=bD) (bJ:=bJ) (aJ:=aJ) (aX:=aX) (aW:=aW) (m:=m) (c0:=c0) (c1:=c1) (c2:=c2) (aZ:=aZ) (aE:=aE) (aL:=aL) (aN:=aN) (bk:=bk) (aS:=aS) (bP:=bP) (aO:=aO) (aM:=aM) (aB:=aB) (bc:=bc) (bd:=bd) (bZ:=bZ) (bl:=bl) (s:=⟨cf,am,1,ay,value,bL,aj,reads,ai,av,set,bp,ax,an,aI,aH,ao,.bK⟩) (bX:=0) hC.cf))) (J8 ll rS ta g1 g2 PB @AW.aa @ah.eq_1) (J1 ?_)<;>unhygienic intros
       rw [e]
       refine⟨_,by first|rfl|(simp;rfl),rfl,?_⟩
       apply bf.bS
       (·exact sA)
       (dsimp only [bx,eP,ei,br,b8,aU.dT,ed,cF,cy,dk,cp,dm,eV,cq,cm,bt,dl,dh,eU,di,af,ag])
       try simp only [h]
       (·first|exact pP|exact kP)
       (·first|exact pP|exact kP)
       all_goals(first|exact 0|exact undef)
     · have e:=e0.trans ((if_neg g1).trans (if_pos g2))
       revert hq hS hw;(repeat first|clear hq|clear hS|clear hw|revert hc|revert zn|revert zA|revert R|revert K);refine Wp (J4 (Tg.mk (n:=30) (gD b ⟨cf,am,1,ay,value,bL,aj,reads,ai,av,set,bp,ax,an,aI,aH,ao,.bK⟩ 1 hf)) (Tg.mk (n:=30) (mB b ⟨cf,am,1,ay,value,bL,aj,reads,ai,av,set,bp,ax,an,aI,aH,ao,.bK⟩ 0 a .bK hC.cf)) (Tg.mk (n:=10) (fun {A L K k n}=>pY (A:=A) (L:=L) (K:=K) (k:=k) (n:=n) hC.bp hC.ew hC.dq ha)) (Tg.mk (n:=31) (fun {A L K k fn cs bD bJ aJ aX aW m c0 c1 c2 aZ aE aL aN bk aS bP aO aM aB bc bd bZ bl}=>iH (A:=A) (L:=L) (K:=K) (k:=k) (fn:=fn) (cs:=cs) (bD:=bD) (bJ:=bJ) (aJ:=aJ) (aX:=aX) (aW:=aW) (m:=m) (c0:=c0) (c1:=c1) (c2:=c2) (aZ:=aZ) (aE:=aE) (aL:=aL) (aN:=aN) (bk:=bk) (aS:=aS) (bP:=bP) (aO:=aO) (aM:=aM) (aB:=aB) (bc:=bc) (bd:=bd) (bZ:=bZ) (bl:=bl) (s:=⟨cf,am,1,ay,value,bL,aj,reads,ai,av,set,bp,ax,an,aI,aH,ao,.bK⟩) (bX:=0)))) (J8 ll rS ta g1 g2 PB @AW.aa @ah.eq_1) (J1 ?_)<;>unhygienic intros
       rw [e]
       refine⟨_,by first|rfl|(simp;rfl),rfl,?_⟩
       apply bf.bS
       (·exact sA)
       (dsimp only [bx,eP,ei,br,b8,aU.dT,ed,cF,cy,dk,cp,dm,eV,cq,cm,bt,dl,dh,eU,di,af,ag])
       try simp only [h]
       (·first|exact pP|exact kP)
       (·first|exact pP|exact kP)
       all_goals(first|exact 0|exact undef)
 · have e:Eb s a=(1,s):=if_neg hf
   intro A F hw hS
   refine ab Tryz.func112 rfl (by kernel_rfl) fun _=>?_
   try dsimp only [af,ag] at hS
   have hr:=oY b s 1 hf
   revert hS hw;(repeat first|clear hS|clear hw|revert hc|revert zn|revert zA|revert R|revert K);refine Wp (J1 (Tg.mk (n:=10) (fun {A L K k}=>ej (A:=A) (L:=L) (K:=K) (k:=k) hr))) (J2 @AW.aa @ah.eq_1) (J1 ?_)<;>unhygienic intros
   rw [e]
   refine⟨_,by first|rfl|(simp;rfl),rfl,?_⟩
   apply ak.bS
   (·exact sA)
   (·first|exact pP|exact kP)
set_option maxRecDepth 20000 in
set_option maxHeartbeats 2000000 in
theorem Ho (b:Nat) (s:aT) (d5:Int) (hC:fA s) :
 aY Tryz.prog 182 [pv b,.int .i64 d5] [.h (bf b s)] (fun u=>u=.int .i64 (Ip s d5).1) (fun _=>[.h (bf b (Ip s d5).2)]):=by
 by_cases hf:s.kO 1=true
 · skip
   obtain⟨h1,h2⟩:=rP hf
   obtain⟨cf,am,aA,ay,value,bL,aj,reads,ai,av,set,bp,ax,an,aI,aH,ao,aG⟩:=s
   dsimp only at h1 h2
   subst h1 h2
   intro A F hw hS
   refine ab Tryz.func182 rfl (by kernel_rfl) fun _=>?_
   obtain⟨⟨bD,bJ,aJ,aX,aW,m,c0,c1,c2,aZ,aE,aL,aN,bk,aS,bP,aO,aM,aB,bc,bd,bZ,bl⟩,hS⟩:=bf.open hS .z
   dsimp only [bx,ei,br,b8,aU.dT,af,ag] at hS
   have hq:=dZ hS hw
   have ET:=hw.lt (hS.g 0 rfl)
   have ll:(b=A.next+1+1)=False:=eq_false (by omega)
   have rS:(A.next+1+1=b)=False:=eq_false (by omega)
   have ta:(A.next=A.next+1+1)=False:=eq_false (by omega)
   have rX:=hC.kT
   dsimp only at rX
   obtain⟨oa,ca,rfl,_⟩:=(ak.nH hS (.s (.s (.s (.s (.s (.s (.s .z)))))))).dJ
   have e0:Ip ⟨cf,am,1,ay,value,bL,aj,reads,ai,av,set,bp,ax,an,aI,aH,ao,.bK⟩ d5=_:=if_pos hf
   dsimp only at e0
   by_cases g1:d5<0
   · have e:=e0.trans (if_pos (.inl g1))
     revert hq hS hw;clear hS;refine Wp (J2 (Tg.mk (n:=30) (gD b ⟨cf,am,1,ay,value,bL,aj,reads,ai,av,set,bp,ax,an,aI,aH,ao,.bK⟩ 1 hf)) (od ud)) (J6 ll rS ta g1 @AW.aa @ah.eq_1) (J1 ?_)<;>unhygienic intros
     rw [e]
     refine⟨_,by first|rfl|(simp;rfl),rfl,?_⟩
     apply bf.bS
     (·exact sA)
     (dsimp only [bx,eP,ei,br,b8,aU.dT,ed,cF,cy,dk,cp,dm,eV,cq,cm,bt,dl,dh,eU,di,af,ag])
     try simp only [h]
     (·first|exact pP|exact kP)
     (·first|exact pP|exact kP)
     all_goals(first|exact 0|exact undef)
   · by_cases g2:4≤d5
     · have e:=e0.trans (if_pos (.inr g2))
       revert hq hS hw;(repeat first|clear hq|clear hS|clear hw|revert hc|revert zn|revert zA|revert R|revert K);refine Wp (J2 (Tg.mk (n:=30) (gD b ⟨cf,am,1,ay,value,bL,aj,reads,ai,av,set,bp,ax,an,aI,aH,ao,.bK⟩ 1 hf)) (od ud)) (J7 ll rS ta g1 g2 @AW.aa @ah.eq_1) (J1 ?_)<;>unhygienic intros
       rw [e]
       refine⟨_,by first|rfl|(simp;rfl),rfl,?_⟩
       apply bf.bS
       (·exact sA)
       (dsimp only [bx,eP,ei,br,b8,aU.dT,ed,cF,cy,dk,cp,dm,eV,cq,cm,bt,dl,dh,eU,di,af,ag])
       try simp only [h]
       (·first|exact pP|exact kP)
       (·first|exact pP|exact kP)
       all_goals(first|exact 0|exact undef)
     · by_cases g3:cf.ai≤ai.length
       · have e:=e0.trans ((if_neg (by omega)).trans (if_pos g3))
         revert hq hS hw;(repeat first|clear hq|clear hS|clear hw|revert hc|revert zn|revert zA|revert R|revert K);refine Wp (J3 (Tg.mk (n:=30) (gD b ⟨cf,am,1,ay,value,bL,aj,reads,ai,av,set,bp,ax,an,aI,aH,ao,.bK⟩ 1 hf)) (Tg.mk (n:=31) (fun {A L K k fn cs bD bJ aJ aX aW m c0 c1 c2 aZ aE aL aN bk aS bP aO aM aB bc bd bZ bl}=>iH (A:=A) (L:=L) (K:=K) (k:=k) (fn:=fn) (cs:=cs) (bD:=bD) (bJ:=bJ) (aJ:=aJ) (aX:=aX) (aW:=aW) (m:=m) (c0:=c0) (c1:=c1) (c2:=c2) (aZ:=aZ) (aE:=aE) (aL:=aL) (aN:=aN) (bk:=bk) (aS:=aS) (bP:=bP) (aO:=aO) (aM:=aM) (aB:=aB) (bc:=bc) (bd:=bd) (bZ:=bZ) (bl:=bl) (s:=⟨cf,am,1,ay,value,bL,aj,reads,ai,av,set,bp,ax,an,aI,aH,ao,.bK⟩) (bX:=0))) (od ud)) (J8 ll rS ta g1 g2 g3 @AW.aa @ah.eq_1) (J1 ?_)<;>unhygienic intros
         rw [e]
         refine⟨_,by first|rfl|(simp;rfl),rfl,?_⟩
         apply bf.bS
         (·exact sA)
         (dsimp only [bx,eP,ei,br,b8,aU.dT,ed,cF,cy,dk,cp,dm,eV,cq,cm,bt,dl,dh,eU,di,af,ag])
         try simp only [h]
         (·first|exact pP|exact kP)
         (·first|exact pP|exact kP)
         all_goals(first|exact 0|exact undef)
       · have e:=e0.trans ((if_neg (by omega)).trans (if_neg g3))
         revert hq hS hw;(repeat first|clear hq|clear hS|clear hw|revert hc|revert zn|revert zA|revert R|revert K);refine Wu (J4 (Tg.mk (n:=30) (gD b ⟨cf,am,1,ay,value,bL,aj,reads,ai,av,set,bp,ax,an,aI,aH,ao,.bK⟩ 1 hf)) (od ud) @Ey (⟨⟩:Os (fun A'=>A'.bR A.next=some (bh (pv b))) [(0,0),(1,1),(2,0),(3,2),(4,0),(5,0),(6,3),(7,0),(8,0),(9,0),(10,3)])) (J8 ll rS ta g1 g2 g3 @AW.aa @ah.eq_1) (J1 ?_)<;>unhygienic intros
         rw [e]
         refine⟨_,by first|rfl|(simp;rfl),rfl,?_⟩
         apply bf.bS
         (·exact sA)
         (dsimp only [bx,eP,ei,br,b8,aU.dT,ed,cF,cy,dk,cp,dm,eV,cq,cm,bt,dl,dh,eU,di,af,ag])
         try simp only [h]
         (·first|exact pP|exact kP)
         (·first|exact pP|exact kP)
         all_goals(first|exact 0|exact undef)
 · have e:Ip s d5=(1,s):=if_neg hf
   intro A F hw hS
   refine ab Tryz.func182 rfl (by kernel_rfl) fun _=>?_
   try dsimp only [af,ag] at hS
   have hr:=oY b s 1 hf
   revert hS hw;(repeat first|clear hS|clear hw|revert hc|revert zn|revert zA|revert R|revert K);refine Wp (J2 (Tg.mk (n:=10) (fun {A L K k}=>ej (A:=A) (L:=L) (K:=K) (k:=k) hr)) (od ud)) (J2 @AW.aa @ah.eq_1) (J1 ?_)<;>unhygienic intros
   rw [e]
   refine⟨_,by first|rfl|(simp;rfl),rfl,?_⟩
   apply ak.bS
   (·exact sA)
   (·first|exact pP|exact kP)
set_option maxRecDepth 20000 in
set_option maxHeartbeats 2000000 in
theorem Ji (b:Nat) (s:aT) (a:Int) (hC:fA s) :
 aY Tryz.prog 183 [pv b,.int .u64 a] [.h (bf b s)] (fun u=>u=.int .i64 (If s a).1) (fun _=>[.h (bf b (If s a).2)]):=by
 by_cases hf:s.kO 1=true
 · skip
   obtain⟨h1,h2⟩:=rP hf
   obtain⟨cf,am,aA,ay,value,bL,aj,reads,ai,av,set,bp,ax,an,aI,aH,ao,aG⟩:=s
   dsimp only at h1 h2
   subst h1 h2
   intro A F hw hS
   refine ab Tryz.func183 rfl (by kernel_rfl) fun _=>?_
   obtain⟨⟨bD,bJ,aJ,aX,aW,m,c0,c1,c2,aZ,aE,aL,aN,bk,aS,bP,aO,aM,aB,bc,bd,bZ,bl⟩,hS⟩:=bf.open hS .z
   dsimp only [bx,ei,br,b8,aU.dT,af,ag] at hS
   have hq:=dZ hS hw
   have ET:=hw.lt (hS.g 0 rfl)
   have ll:(b=A.next+1+1)=False:=eq_false (by omega)
   have rS:(A.next+1+1=b)=False:=eq_false (by omega)
   have ta:(A.next=A.next+1+1)=False:=eq_false (by omega)
   have JN:=hC.cf.aQ
   have xj:=hC.cf.nb
   dsimp only at JN xj
   have Nl:=Jk cf hC.cf a
   dsimp only [bC.v] at Nl
   have hfb:i9 cf a≤64:=LQ hC.cf a
   have e0:If ⟨cf,am,1,ay,value,bL,aj,reads,ai,av,set,bp,ax,an,aI,aH,ao,.bK⟩ a=_:=if_pos hf
   dsimp only at e0
   generalize i9 cf a=q at *
   by_cases g1:q<0
   · have e:=e0.trans (if_pos g1)
     revert hq hS hw;clear hS;refine Wp (J4 (Tg.mk (n:=30) (gD b ⟨cf,am,1,ay,value,bL,aj,reads,ai,av,set,bp,ax,an,aI,aH,ao,.bK⟩ 1 hf)) (Tg.mk (n:=31) (fun {A L K k fn cs bD bJ aJ aX aW m c0 c1 c2 aZ aE aL aN bk aS bP aO aM aB bc bd bZ bl}=>iH (A:=A) (L:=L) (K:=K) (k:=k) (fn:=fn) (cs:=cs) (bD:=bD) (bJ:=bJ) (aJ:=aJ) (aX:=aX) (aW:=aW) (m:=m) (c0:=c0) (c1:=c1) (c2:=c2) (aZ:=aZ) (aE:=aE) (aL:=aL) (aN:=aN) (bk:=bk) (aS:=aS) (bP:=bP) (aO:=aO) (aM:=aM) (aB:=aB) (bc:=bc) (bd:=bd) (bZ:=bZ) (bl:=bl) (s:=⟨cf,am,1,ay,value,bL,aj,reads,ai,av,set,bp,ax,an,aI,aH,ao,.bK⟩) (bX:=0))) (od rJ) @Nl) (J6 ll rS ta g1 @AW.aa @ah.eq_1) (J1 ?_)<;>unhygienic intros
     rw [e]
     refine⟨_,by first|rfl|(simp;rfl),rfl,?_⟩
     apply bf.bS
     (·exact sA)
     (dsimp only [bx,eP,ei,br,b8,aU.dT,ed,cF,cy,dk,cp,dm,eV,cq,cm,bt,dl,dh,eU,di,af,ag])
     try simp only [h]
     (·first|exact pP|exact kP)
     (·first|exact pP|exact kP)
     all_goals(first|exact 0|exact undef)
   · have PB:IntKind.i64.wrap (cf.aQ+q)=cf.aQ+q:=aw (by omega) (by omega)
     cases g2:(jo bp (cf.aQ+q)).2
     · have e:=e0.trans ((if_neg g1).trans (if_neg (by rw [g2];simp)))
       repeat' (first
       | (refine jx fun R hR=>?_;simp [aw,az,hq,ll,rS,ta,g1,g2,PB,AW.aa,ah];try simp (disch:=omega) only [if_pos,if_neg,aw,az])
       | (refine hR _ _ ?_;clear hR R)|(refine hK _ _ ?_;clear hK K)|refine nx ?_
       | refine wn fun K hK=>?_
       | simp only [wS,rJ]
       | refine wl Tryz.mx rJ (by decide +kernel) fun K hK=>?_
       | (refine bT (Nl _) ?_;rintro _ _ ⟨rfl,rfl⟩ _ _)
       | (apply wN (gD b ⟨cf,am,1,ay,value,bL,aj,reads,ai,av,set,bp,ax,an,aI,aH,ao,.bK⟩ 1 hf);(·exact wA);(·exact sA);(·exact fP);all_goals(try (first|exact 0|exact undef)))
       | (apply pY hC.bp hC.ew hC.dq (by omega);(·exact wA);(·exact sA);(·first|exact pP|exact kP);)
       | (apply yk (s:=⟨cf,am,1,ay,value,bL,aj,reads,ai,av,set,bp,ax,an,aI,aH,ao,.bK⟩) (bX:=0) hC.cf;(·exact wA);(·exact sA);(·exact fP);((first|rintro _ _ _ hS hw|rintro _ _ hS hw);(try dsimp only [bx,AW.bq,af,ag] at hS);have hq:=dZ hS hw);all_goals(try (first|exact 0|exact undef)))
       | refine wb ?_|refine wr ?_|refine wk ?_|refine we ?_|refine ws ?_|refine wq ?_
       | (refine wc rfl (fun hc=>?_) (fun hc=>?_)<;>(try simp at hc)<;>(try omega)<;>(try (simp [h2] at hc;done))<;>(try (simp [h3] at hc;done))<;>(try (simp [h4] at hc;done)))
       | (refine ib (fun hc=>?_) (fun hc=>?_)<;>(try omega)<;>(try simp (disch:=omega) only [if_pos,if_neg])))
       rw [e]
       refine⟨_,by first|rfl|(simp;rfl),rfl,?_⟩
       apply bf.bS
       (·exact sA)
       (dsimp only [bx,eP,ei,br,b8,aU.dT,ed,cF,cy,dk,cp,dm,eV,cq,cm,bt,dl,dh,eU,di,af,ag])
       try simp only [h]
       (·first|exact pP|exact kP)
       (·first|exact pP|exact kP)
       all_goals(first|exact 0|exact undef)
     · have e:=e0.trans ((if_neg g1).trans (if_pos g2))
       repeat' (first
       | (refine jx fun R hR=>?_;simp [aw,az,hq,ll,rS,ta,g1,g2,PB,AW.aa,ah];try simp (disch:=omega) only [if_pos,if_neg,aw,az])
       | (refine hR _ _ ?_;clear hR R)|(refine hK _ _ ?_;clear hK K)|refine nx ?_
       | refine wn fun K hK=>?_
       | simp only [wS,rJ]
       | refine wl Tryz.mx rJ (by decide +kernel) fun K hK=>?_
       | (refine bT (Nl _) ?_;rintro _ _ ⟨rfl,rfl⟩ _ _)
       | (apply wN (gD b ⟨cf,am,1,ay,value,bL,aj,reads,ai,av,set,bp,ax,an,aI,aH,ao,.bK⟩ 1 hf);(·exact wA);(·exact sA);(·exact fP);all_goals(try (first|exact 0|exact undef)))
       | (apply pY hC.bp hC.ew hC.dq (by omega);(·exact wA);(·exact sA);(·first|exact pP|exact kP);)
       | (apply iH (s:=⟨cf,am,1,ay,value,bL,aj,reads,ai,av,set,bp,ax,an,aI,aH,ao,.bK⟩) (bX:=0);(·exact wA);(·exact sA);(·exact fP);((first|rintro _ _ _ hS hw|rintro _ _ hS hw);(try dsimp only [bx,AW.bq,af,ag] at hS);have hq:=dZ hS hw);all_goals(try (first|exact 0|exact undef)))
       | refine wb ?_|refine wr ?_|refine wk ?_|refine we ?_|refine ws ?_|refine wq ?_
       | (refine wc rfl (fun hc=>?_) (fun hc=>?_)<;>(try simp at hc)<;>(try omega)<;>(try (simp [h2] at hc;done))<;>(try (simp [h3] at hc;done))<;>(try (simp [h4] at hc;done)))
       | (refine ib (fun hc=>?_) (fun hc=>?_)<;>(try omega)<;>(try simp (disch:=omega) only [if_pos,if_neg])))
       rw [e]
       refine⟨_,by first|rfl|(simp;rfl),rfl,?_⟩
       apply bf.bS
       (·exact sA)
       (dsimp only [bx,eP,ei,br,b8,aU.dT,ed,cF,cy,dk,cp,dm,eV,cq,cm,bt,dl,dh,eU,di,af,ag])
       try simp only [h]
       (·first|exact pP|exact kP)
       (·first|exact pP|exact kP)
       all_goals(first|exact 0|exact undef)
 · have e:If s a=(1,s):=if_neg hf
   intro A F hw hS
   refine ab Tryz.func183 rfl (by kernel_rfl) fun _=>?_
   try dsimp only [af,ag] at hS
   have hr:=oY b s 1 hf
   revert hS hw;(repeat first|clear hS|clear hw|revert hc|revert zn|revert zA|revert R|revert K);refine Wp (J2 (Tg.mk (n:=10) (fun {A L K k}=>ej (A:=A) (L:=L) (K:=K) (k:=k) hr)) (od rJ)) (J2 @AW.aa @ah.eq_1) (J1 ?_)<;>unhygienic intros
   rw [e]
   refine⟨_,by first|rfl|(simp;rfl),rfl,?_⟩
   apply ak.bS
   (·exact sA)
   (·first|exact pP|exact kP)
end
end Go.Stx
