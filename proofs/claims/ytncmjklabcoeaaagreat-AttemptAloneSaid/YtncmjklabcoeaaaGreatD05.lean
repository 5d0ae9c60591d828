/-
 The machines of a transaction, without the program: what each step does.
-/
import Derived.Test.YtncmjklabcoeaaaGreatD04
import Derived.Test.YtncmjklabcoeaaaGreatD03
set_option linter.unusedVariables false
set_option linter.unusedSimpArgs false
set_option maxRecDepth 20000
set_option maxHeartbeats 4000000
namespace Go.Stx
open Go Go.Proofs
attribute [local irreducible] fj cm aH bB dK ei
def gF (o:Int):Int×Bool:=(o,true)
def eD (v:Int) (_:Int):Int×Bool:=(v,true)
def hQ (dH v:Int) (o:Int):Int×Bool:=(v,decide (o=dH))
def qM (v:Int) (o:Int):Int×Bool:=(IntKind.u64.wrap (o+v),true)
abbrev Mm:=Nat→List Int
def gX (M:Mm) (cell cc:Int):bq:=de M 1 cell cc gF
def wx (M:Mm) (cell cc v:Int):bq:=de M 2 cell cc (eD v)
def Aw (M:Mm) (cell cc dH v:Int):bq:=de M 3 cell cc (hQ dH v)
def N8 (M:Mm) (cell cc v:Int):bq:=de M 4 cell cc (qM v)
def ww (M:Mm) (cell cc v:Int):Mm:=kd M cell cc (eD v)
def Mo (M:Mm) (cell cc dH v:Int):Mm:=kd M cell cc (hQ dH v)
def Tf (M:Mm) (cell cc v:Int):Mm:=kd M cell cc (qM v)
structure dC where
 ag:Int
 cj:Int
 ao:Int
def dC.kc (s:dC):Int:=if s.cj≤1 then -1 else IntKind.i64.wrap s.ao
def go (s:dC) (M:Mm):bq×dC×Mm:=
 if s.cj=0 then (wx M 6 s.ag 1,{ s with cj:=1 },ww M 6 s.ag 1)
 else if s.cj=1 then (gX M 3 0,{ s with cj:=2,ao:=(gX M 3 0).fI },M)
 else if s.cj=2 then (wx M 6 s.ag (IntKind.u64.wrap (s.ao+2)),{ s with cj:=3 },ww M 6 s.ag (IntKind.u64.wrap (s.ao+2)))
 else (bq.zero,s,M)
structure fL where
 pT:Bool
 gP:Int
 done:Bool
def fL.eo (s:fL):Int:=if s.pT=true then IntKind.i64.wrap s.gP else -1
def gn (s:fL) (M:Mm):bq×fL×Mm:=
 if s.done=true then (bq.zero,s,M)
 else if s.pT=false then (N8 M 4 0 1,{ s with pT:=true,gP:=(N8 M 4 0 1).fI },Tf M 4 0 1)
 else (gX M 5 0,{ s with done:=decide ((gX M 5 0).fI=s.gP) },M)
def pg (gP:Int):Int:=IntKind.u64.wrap (IntKind.u64.wrap gP+1)
structure mN where
 dB:Int
 cj:Int
 eP:Int
 next:Int
 block:Int
def fx (s:mN) (M:Mm):bq×mN×Mm:=
 if s.cj=0 then (gX M 7 s.dB,{ s with eP:=(gX M 7 s.dB).fI,cj:=if iu (gX M 7 s.dB).fI<0 then 3 else 1 },M)
 else if s.cj=1 then (gX M 8 (iu s.eP),{ s with next:=(gX M 8 (iu s.eP)).fI,cj:=2 },M)
 else if s.cj=2 then
  let w:=lV s.eP (IntKind.i64.wrap (IntKind.i64.wrap s.next-1))
  (Aw M 7 s.dB s.eP w,if (Aw M 7 s.dB s.eP w).done=true then { s with cj:=3,block:=iu s.eP } else { s with cj:=0 },Mo M 7 s.dB s.eP w)
 else (bq.zero,s,M)
structure kM where
 dB:Int
 block:Int
 cj:Int
 eP:Int
def dE (s:kM) (M:Mm):bq×kM×Mm:=
 if s.cj=0 then (gX M 7 s.dB,{ s with eP:=(gX M 7 s.dB).fI,cj:=1 },M)
 else if s.cj=1 then
  let w:=IntKind.u64.wrap (IntKind.i64.wrap (iu s.eP+1))
  (wx M 8 s.block w,{ s with cj:=2 },ww M 8 s.block w)
 else if s.cj=2 then
  let w:=lV s.eP s.block
  (Aw M 7 s.dB s.eP w,{ s with cj:=if (Aw M 7 s.dB s.eP w).done=true then 3 else 0 },Mo M 7 s.dB s.eP w)
 else (bq.zero,s,M)
structure dY where
 cA:Int
 dl:Int
 rv:Int
 cj:Int
 d8:Int
 value:Int
 du:Bool
def dY.done (s:dY):Bool:=decide (s.cj=3)
def dY.val (s:dY):Int:=if s.cj=3∧s.du=false then s.value else 0
def cB (s:dY) (M:Mm):bq×dY×Mm:=
 if s.cj=0 then
  let a:=gX M 2 s.dl
  (a,if iF a.fI≥0∨ge a.fI>s.rv then { s with d8:=a.fI,du:=true,cj:=3 } else { s with d8:=a.fI,cj:=1 },M)
 else if s.cj=1 then (gX M 1 s.cA,{ s with value:=(gX M 1 s.cA).fI,cj:=2 },M)
 else if s.cj=2 then (gX M 2 s.dl,{ s with du:=decide ((gX M 2 s.dl).fI≠s.d8),cj:=3 },M)
 else (bq.zero,s,M)
structure ft where
 aj:List Int
 rv:Int
 ii:Bool
def ft.done (s:ft):Bool:=s.ii || decide (s.aj.length=0)
def eR (s:ft) (M:Mm):bq×ft×Mm:=
 if s.done=true then (bq.zero,s,M)
 else (gX M 2 (s.aj.getD 0 0),{ s with aj:=s.aj.tail,ii:=decide (ge (gX M 2 (s.aj.getD 0 0)).fI>s.rv) },M)
section
abbrev M3:List (Nat×Nat):=[(0,0),(1,0),(2,0),(3,0),(4,0),(5,0)]
open T0
theorem uy {M:Nat→List Int} {cell cc:Int} {g:Int→Int×Bool} (h:∀o,(g o).2=true→(g o).1=o):kd M cell cc g=M:=by
 unfold kd
 split
 · rename_i hc
   funext k
   simp only [setRow]
   split
   · rename_i e
     rw [h _ hc.2]
     have hh:1≤cell∧cell≤8:=by
      have:=hc.1
      simp only [dw,eJ] at this
      split at this
      · assumption
      · simp at this;omega
     have hr:eJ M cell=M k:=by rw [e];exact if_pos hh
     have hi:0≤cc∧cc<(M k).length:=by
      have:=hc.1
      rw [dw,hr] at this
      simpa using this
     rw [hr]
     apply List.ext_getElem?
     intro q
     by_cases eq:cc.toNat=q
     · subst eq
       rw [List.getElem?_set_self (by omega),List.getD_eq_getElem?_getD,List.getElem?_eq_getElem (by omega)];rfl
     · rw [List.getElem?_set_ne eq]
   · rfl
 · rfl
theorem HD (dH:Int):ka Tryz.prog 228 [.int .u64 dH] fa (fun v=>rc (v=.tuple #[.int .u64 (gF dH).1,.bool (gF dH).2])*fa):=by
 intro A F hw hS
 refine ab Tryz.func228 rfl (by kernel_rfl) fun _=>?_
 revert hS hw;refine W trivial trivial (J1 ?_)<;>unhygienic intros
 exact⟨_,rfl,bK.post rfl hS⟩
theorem E2 (b:Nat) (x dH:Int):ka Tryz.prog 159 [.int .u64 dH,.pointer (some ⟨b,0,none⟩)] (pt b (.cells [.int .u64 x] true 1))
 (fun v=>rc (v=.tuple #[.int .u64 (eD x dH).1,.bool (eD x dH).2])*pt b (.cells [.int .u64 x] true 1)):=by
 intro A F hw hS
 refine ab Tryz.func159 rfl (by kernel_rfl) fun _=>?_
 have hg:=hS.cy
 revert hS hw;refine W trivial (J2 hg @AW.aa) (J1 ?_)<;>unhygienic intros
 exact⟨_,rfl,bK.post rfl hS⟩
theorem G5 (b c:Nat) (x y dH:Int):ka Tryz.prog 247 [.int .u64 dH,.pointer (some ⟨b,0,none⟩),.pointer (some ⟨c,0,none⟩)]
 (pt b (.cells [.int .u64 x] true 1)*pt c (.cells [.int .u64 y] true 1))
 (fun v=>rc (v=.tuple #[.int .u64 (hQ y x dH).1,.bool (hQ y x dH).2])*(pt b (.cells [.int .u64 x] true 1)*pt c (.cells [.int .u64 y] true 1))):=by
 intro A F hw hS
 refine ab Tryz.func247 rfl (by kernel_rfl) fun _=>?_
 rw [HP.cq] at hS
 have hg:=hS.cy
 have pM:=hS.right.cy
 revert hS hw;refine W (J1 (od M3)) (J3 hg pM @AW.aa) (J1 ?_)<;>unhygienic intros
 exact⟨_,rfl,bK.post (by simp [hQ]) (by rw [HP.cq];exact hS)⟩
theorem FQ (pb:Nat) (M:Nat→List Int) (cell cc:Int) :
 ka Tryz.prog 148 [.pointer (some ⟨pb,0,none⟩),.int .i64 cell,.int .i64 cc] (eI pb M)
  (fun v=>rc (v=.tuple #[(de M 1 cell cc gF).v,.int .i64 (ni M cell cc)])*eI pb M):=by
 intro A F hw hS
 refine ab Tryz.func148 rfl (by kernel_rfl) fun _=>?_
 revert hS hw;refine W trivial trivial (J1 ?_)<;>unhygienic intros
 have mg:bK (A.alloc (.cells aS true 1)) ((eI pb M*fa)*(pt A.next (.cells aS true 1)*F)):=by
  rw [dx];exact(hS.alloc hw _).dp (by ac_rfl)
 refine(nG pb M 1 cell cc _ #[] #[] fa gF HD).use (hw.alloc _) mg rfl ?_
 intro v A2 lp it _
 obtain⟨rfl,ru⟩:=lp.jT
 clear lp
 rw [dx,uy (by intro o _;rfl)] at ru
 have rl:bK A2 (pt A.next (.cells aS true 1)*(eI pb M*F)):=ru.dp (by ac_rfl)
 have hg:=rl.cy
 revert hS hw;(repeat first|clear hS|clear hw|revert hc|revert zn|revert zA|revert R|revert K);refine W trivial (J6 hg @AW.aa @af.eq_1 @aS.eq_1 @M2.eq_1 @bq.v.eq_1) (J1 ?_)<;>unhygienic intros
 exact⟨_,by simp [AW.fZ,AW.dW,AW.aa,af,bq.v];rfl,bK.post (by simp [bq.v]) (rl.set _).right⟩
theorem qe (pb:Nat) (M:Nat→List Int) (cell cc x:Int) :
 ka Tryz.prog 52 [.pointer (some ⟨pb,0,none⟩),.int .i64 cell,.int .i64 cc,.int .u64 x] (eI pb M)
  (fun v=>rc (v=.tuple #[(de M 2 cell cc (eD x)).v,.int .i64 (ni M cell cc)])*eI pb (kd M cell cc (eD x))):=by
 intro A F hw hS
 refine ab Tryz.func52 rfl (by kernel_rfl) fun _=>?_
 revert hS hw;refine W trivial trivial (J1 ?_)<;>unhygienic intros
 have gJ:=hw.alloc (.cells [.int .u64 x] true 1)
 have mg:bK ((A.alloc (.cells [.int .u64 x] true 1)).alloc (.cells aS true 1)) ((eI pb M*pt A.next (.cells [.int .u64 x] true 1))*(pt (A.next+1) (.cells aS true 1)*F)):=
  ((hS.alloc hw (.cells [.int .u64 x] true 1)).alloc gJ (.cells aS true 1)).dp (by simp only [AW.aZ];ac_rfl)
 refine(nG pb M 2 cell cc _ #[] #[.pointer (some ⟨A.next,0,none⟩)] _ (eD x) (E2 A.next x)).use (gJ.alloc _) mg rfl ?_
 intro v A2 lp it _
 obtain⟨rfl,ru⟩:=lp.jT
 clear lp
 have rl:bK A2 (pt (A.next+1) (.cells aS true 1)*(pt A.next (.cells [.int .u64 x] true 1)*(eI pb (kd M cell cc (eD x))*F))):=ru.dp (by ac_rfl)
 have hg:=rl.cy
 revert hS hw;(repeat first|clear hS|clear hw|revert hc|revert zn|revert zA|revert R|revert K);refine W trivial (J6 hg @AW.aa @af.eq_1 @aS.eq_1 @M2.eq_1 @bq.v.eq_1) (J1 ?_)<;>unhygienic intros
 exact⟨_,by simp [AW.fZ,AW.dW,AW.aa,af,bq.v];rfl,bK.post (by simp [bq.v]) (rl.set _).right.right⟩
theorem FP (pb:Nat) (M:Nat→List Int) (cell cc x y:Int) :
 ka Tryz.prog 225 [.pointer (some ⟨pb,0,none⟩),.int .i64 cell,.int .i64 cc,.int .u64 x,.int .u64 y] (eI pb M)
  (fun v=>rc (v=.tuple #[(de M 3 cell cc (hQ x y)).v,.int .i64 (ni M cell cc)])*eI pb (kd M cell cc (hQ x y))):=by
 intro A F hw hS
 refine ab Tryz.func225 rfl (by kernel_rfl) fun _=>?_
 revert hS hw;refine W trivial trivial (J1 ?_)<;>unhygienic intros
 have gJ:=hw.alloc (.cells [.int .u64 x] true 1)
 have it:=gJ.alloc (.cells [.int .u64 y] true 1)
 have mg:bK (((A.alloc (.cells [.int .u64 x] true 1)).alloc (.cells [.int .u64 y] true 1)).alloc (.cells aS true 1))
  ((eI pb M*(pt (A.next+1) (.cells [.int .u64 y] true 1)*pt A.next (.cells [.int .u64 x] true 1)))*(pt (A.next+1+1) (.cells aS true 1)*F)):=
  (((hS.alloc hw (.cells [.int .u64 x] true 1)).alloc gJ (.cells [.int .u64 y] true 1)).alloc it (.cells aS true 1)).dp (by simp only [AW.aZ];ac_rfl)
 refine(nG pb M 3 cell cc _ #[] #[.pointer (some ⟨A.next+1,0,none⟩),.pointer (some ⟨A.next,0,none⟩)] _ (hQ x y) (G5 (A.next+1) A.next y x)).use (it.alloc _) mg rfl ?_
 intro v A2 lp qr _
 obtain⟨rfl,ru⟩:=lp.jT
 clear lp
 have rl:bK A2 (pt (A.next+1+1) (.cells aS true 1)*(pt A.next (.cells [.int .u64 x] true 1)*(pt (A.next+1) (.cells [.int .u64 y] true 1)*(eI pb (kd M cell cc (hQ x y))*F)))):=ru.dp (by ac_rfl)
 have hg:=rl.cy
 revert hS hw;(repeat first|clear hS|clear hw|revert hc|revert zn|revert zA|revert R|revert K);refine W trivial (J6 hg @AW.aa @af.eq_1 @aS.eq_1 @M2.eq_1 @bq.v.eq_1) (J1 ?_)<;>unhygienic intros
 exact⟨_,by simp [AW.fZ,AW.dW,AW.aa,af,bq.v];rfl,bK.post (by simp [bq.v]) (rl.set _).right.right.right⟩
theorem J0 (b:Nat) (x dH:Int):ka Tryz.prog 248 [.int .u64 dH,.pointer (some ⟨b,0,none⟩)] (pt b (.cells [.int .u64 x] true 1))
 (fun v=>rc (v=.tuple #[.int .u64 (qM x dH).1,.bool (qM x dH).2])*pt b (.cells [.int .u64 x] true 1)):=by
 intro A F hw hS
 refine ab Tryz.func248 rfl (by kernel_rfl) fun _=>?_
 have hg:=hS.cy
 revert hS hw;refine W trivial (J2 hg @AW.aa) (J1 ?_)<;>unhygienic intros
 exact⟨_,by first|(simp;done)|(simp;rfl),bK.post (by simp [qM]) hS⟩
theorem M6 (pb:Nat) (M:Nat→List Int) (cell cc x:Int) :
 ka Tryz.prog 226 [.pointer (some ⟨pb,0,none⟩),.int .i64 cell,.int .i64 cc,.int .u64 x] (eI pb M)
  (fun v=>rc (v=.tuple #[(de M 4 cell cc (qM x)).v,.int .i64 (ni M cell cc)])*eI pb (kd M cell cc (qM x))):=by
 intro A F hw hS
 refine ab Tryz.func226 rfl (by kernel_rfl) fun _=>?_
 revert hS hw;refine W trivial trivial (J1 ?_)<;>unhygienic intros
 have gJ:=hw.alloc (.cells [.int .u64 x] true 1)
 have mg:bK ((A.alloc (.cells [.int .u64 x] true 1)).alloc (.cells aS true 1)) ((eI pb M*pt A.next (.cells [.int .u64 x] true 1))*(pt (A.next+1) (.cells aS true 1)*F)):=
  ((hS.alloc hw (.cells [.int .u64 x] true 1)).alloc gJ (.cells aS true 1)).dp (by simp only [AW.aZ];ac_rfl)
 refine(nG pb M 4 cell cc _ #[] #[.pointer (some ⟨A.next,0,none⟩)] _ (qM x) (J0 A.next x)).use (gJ.alloc _) mg rfl ?_
 intro v A2 lp it _
 obtain⟨rfl,ru⟩:=lp.jT
 clear lp
 have rl:bK A2 (pt (A.next+1) (.cells aS true 1)*(pt A.next (.cells [.int .u64 x] true 1)*(eI pb (kd M cell cc (qM x))*F))):=ru.dp (by ac_rfl)
 have hg:=rl.cy
 revert hS hw;(repeat first|clear hS|clear hw|revert hc|revert zn|revert zA|revert R|revert K);refine W trivial (J6 hg @AW.aa @af.eq_1 @aS.eq_1 @M2.eq_1 @bq.v.eq_1) (J1 ?_)<;>unhygienic intros
 exact⟨_,by simp [AW.fZ,AW.dW,AW.aa,af,bq.v];rfl,bK.post (by simp [bq.v]) (rl.set _).right.right⟩
def eb (pb:Nat) (M:Mm):It:=.h (eI pb M)
theorem kB (pb:Nat) (M:Mm):bn [eb pb M]=eI pb M:=by show eI pb M*fa=_;rw [dx]
theorem Pg (pb:Nat) (M:Mm) (cell cc:Int):aP Tryz.prog 148 [.pointer (some ⟨pb,0,none⟩),.int .i64 cell,.int .i64 cc] [eb pb M]
 (fun v=>v=.tuple #[(gX M cell cc).v,.int .i64 (ni M cell cc)]) (fun _=>[eb pb M]):=
 aP.jK (FQ pb M cell cc) (kB pb M) fun v=>by rw [kB];rfl
theorem Q2 (pb:Nat) (M:Mm) (cell cc x:Int):aP Tryz.prog 52 [.pointer (some ⟨pb,0,none⟩),.int .i64 cell,.int .i64 cc,.int .u64 x] [eb pb M]
 (fun v=>v=.tuple #[(wx M cell cc x).v,.int .i64 (ni M cell cc)]) (fun _=>[eb pb (ww M cell cc x)]):=
 aP.jK (qe pb M cell cc x) (kB pb M) fun v=>by rw [kB];rfl
theorem Vg (pb:Nat) (M:Mm) (cell cc x y:Int):aP Tryz.prog 225 [.pointer (some ⟨pb,0,none⟩),.int .i64 cell,.int .i64 cc,.int .u64 x,.int .u64 y] [eb pb M]
 (fun v=>v=.tuple #[(Aw M cell cc x y).v,.int .i64 (ni M cell cc)]) (fun _=>[eb pb (Mo M cell cc x y)]):=
 aP.jK (FP pb M cell cc x y) (kB pb M) fun v=>by rw [kB];rfl
theorem YV (pb:Nat) (M:Mm) (cell cc x:Int):aP Tryz.prog 226 [.pointer (some ⟨pb,0,none⟩),.int .i64 cell,.int .i64 cc,.int .u64 x] [eb pb M]
 (fun v=>v=.tuple #[(N8 M cell cc x).v,.int .i64 (ni M cell cc)]) (fun _=>[eb pb (Tf M cell cc x)]):=
 aP.jK (M6 pb M cell cc x) (kB pb M) fun v=>by rw [kB];rfl
end
end Go.Stx
