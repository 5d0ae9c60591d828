/-
 The program's thread: local instructions; a whole thread in memory.
-/
import Derived.Test.YtipomeafemoelaaGreatDoorG11
set_option linter.unusedVariables false
set_option linter.unusedSimpArgs false
set_option linter.unusedSectionVars false
set_option maxRecDepth 20000
set_option maxHeartbeats 4000000
namespace Go.Stx
open Go Go.Proofs
attribute [local irreducible] TW bA cM aS ax aH cJ de
section
abbrev mG:List (Nat×Nat):=[(0,0),(1,0),(2,0),(3,0),(4,0),(5,0),(6,0),(7,0),(8,3)]
abbrev mF:List (Nat×Nat):=[(0,0),(1,0),(2,0),(3,0),(4,0),(5,0),(6,0),(7,0),(8,0),(9,0),(10,0),(11,3)]
abbrev mE:List (Nat×Nat):=[(0,0),(1,0),(2,0),(3,0),(4,0),(5,0),(6,0),(7,0),(8,0),(9,0),(10,0),(11,0),(12,0),(13,0),(14,0),(15,0),(16,0),(21,0),(17,2),(18,0),(19,0),(20,0),(22,0),(23,3)]
abbrev mD:List (Nat×Nat):=[(0,0),(1,0),(2,0),(3,0),(4,0),(5,0),(6,0)]
open T7
variable [Gl]
theorem Lc {i:aZ} (h:b8 i=0) (ho:i.op=4\/i.op=5\/i.op=6):0<=i.bQ/\i.bQ<=64:=by
 unfold b8 at h;split at h;cases h;split at h;rename_i h1;simp only [Bool.and_eq_true,eT] at h1;obtain⟨_,h5⟩:=h1;rw [if_neg (by omega),if_neg (by omega),if_pos ho] at h5
 simpa using h5
 cases h
class AF where
 ok:Int->Prop
section
variable [AF]
def DJ (fn:Int):Prop:=AF.ok fn
def yZ (d6:Int->Int->Int->Int):Prop:=∀fn x y:Int,DJ fn->∀A,eQ 153 [.int .i64 fn,.int .u64 x,.int .u64 y] A (.tuple #[.int .u64 (d6 fn x y),.int .i64 0])
def E5 (l:List aZ):Prop:=∀i∈l,i.op=3->DJ i.bQ
theorem apE {d6:Int->Int->Int->Int} (hA:yZ d6) (fn x y:Int) (h:DJ fn) {A:AW} {k:Value->AW->Prop} (hk:k (.tuple #[.int .u64 (d6 fn x y),.int .i64 0]) A):ax Tryz.prog 153 [.int .i64 fn,.int .u64 x,.int .u64 y] A k:=by
 refine bD (hA fn x y h A) ?_;rintro _ _ ⟨rfl,rfl⟩ _ _;exact hk
theorem CI {d6:Int->Int->Int->Int} (hA:yZ d6) (b:Nat) (t:aU) (va vs vf vd vl vo:Value) (o:Option Addr) (cc:Nat) (i:aZ) (mt:(0<=i.op/\i.op<=6)\/i.op=17) (hi:b8 i=0) (qz:i.op=3->DJ i.bQ) (ln:0<=t.pc/\t.pc<2^40) :
 bf Tryz.prog 100 [pv b,jJ i] [.at b (rD t.d ⟨va,vs,vf,vd,.slice o t.az.length cc,vl,vo⟩)] (λ_=>True) (λ_=>[.at b (rD (t.je d6 i).d ⟨va,vs,vf,vd,.slice o t.az.length cc,vl,vo⟩)]):=by
 obtain⟨r1,r2,r3,_⟩:=mB hi;have jg:IntKind.i64.wrap (t.d.pc+1)=t.d.pc+1:=ai (by show -9223372036854775808<=t.pc+1;omega) (by show t.pc+1<=9223372036854775807;omega);have ho:i.op=0\/i.op=1\/i.op=2\/i.op=3\/i.op=4\/i.op=5\/i.op=6\/i.op=17:=by omega
 have RZ:=fun(d:r8) pc=>wK b d va vs vf vd vl vo o t.az.length cc pc;unfold jJ;rcases ho with h|h|h|h|h|h|h|h
 . have e:t.je d6 i=t.to (t.pc+1):=by
    unfold aU.je;rw [if_neg (by omega),if_neg (by omega),if_neg (by omega),if_neg (by omega),if_neg (by omega),Int.add_zero]
   rw [e];intro A F hw hS;refine aF Tryz.func100 λ_=>?_;dsimp only [aa,ag] at hS;have hq:=fm hS hw;revert hq hS hw;refine W (J5 (od mG) (od mF) (od mE) (od mD) (RZ t.d (t.d.pc+1))) (J3 h jg bz) ?_<;>(unhygienic intros);refine⟨_,by first|rfl|(simp;rfl),by first|trivial|rfl|(simp;done),?_⟩;apply ah.bO
   (·exact sA)
   (·first|exact pA|exact kA)
 . have ha:=r1 (by rw [h];rfl);have BD:=λx=>wL (d:=t.d) (w:=⟨va,vs,vf,vd,.slice o t.az.length cc,vl,vo⟩) (x:=x) ha;have e:t.je d6 i=(t.fX i.a (IntKind.u64.wrap i.bQ)).to (t.pc+1):=by
    unfold aU.je;rw [if_pos h,if_neg (by omega),Int.add_zero]
   rw [e];intro A F hw hS;refine aF Tryz.func100 λ_=>?_;dsimp only [aa,ag] at hS;have hq:=fm hS hw;revert hq hS hw;(repeat first|clear hq|clear hS|clear hw|revert hc|revert R|revert K);refine W (J5 (od mG) (od mF) (od mE) (od mD) (RZ { t.d with dw:=t.d.dw.set i.a (IntKind.u64.wrap i.bQ) } (t.d.pc+1))) (J6 h jg BD ha.1 ha.2 bz) ?_<;>(unhygienic intros);refine⟨_,by first|rfl|(simp;rfl),by first|trivial|rfl|(simp;done),?_⟩;apply ah.bO
   (·exact sA)
   (·first|exact pA|exact kA)
 . have ha:=r1 (by rw [h];rfl);have hb:=r2 (by rw [h];rfl);have BD:=λx=>wL (d:=t.d) (w:=⟨va,vs,vf,vd,.slice o t.az.length cc,vl,vo⟩) (x:=x) ha;have vI:=pO (d:=t.d) (w:=⟨va,vs,vf,vd,.slice o t.az.length cc,vl,vo⟩) hb;have e:t.je d6 i=(t.fX i.a (t.dw.bg i.b)).to (t.pc+1):=by
    unfold aU.je;rw [if_neg (by omega),if_pos h,if_neg (by omega),Int.add_zero]
   rw [e];intro A F hw hS;refine aF Tryz.func100 λ_=>?_;dsimp only [aa,ag] at hS;have hq:=fm hS hw;revert hq hS hw;(repeat first|clear hq|clear hS|clear hw|revert hc|revert R|revert K);refine W (J5 (od mG) (od mF) (od mE) (od mD) (RZ { t.d with dw:=t.d.dw.set i.a (t.d.dw.bg i.b) } (t.d.pc+1))) (J9 h jg BD vI ha.1 ha.2 hb.1 hb.2 bz) ?_<;>(unhygienic intros);refine⟨_,by first|rfl|(simp;rfl),by first|trivial|rfl|(simp;done),?_⟩;apply ah.bO
   (·exact sA)
   (·first|exact pA|exact kA)
 . have ha:=r1 (by rw [h];rfl);have hb:=r2 (by rw [h];rfl);have UH:=r3 (by rw [h];rfl);have BD:=λx=>wL (d:=t.d) (w:=⟨va,vs,vf,vd,.slice o t.az.length cc,vl,vo⟩) (x:=x) ha;have vI:=pO (d:=t.d) (w:=⟨va,vs,vf,vd,.slice o t.az.length cc,vl,vo⟩) hb;have hgr2:=pO (d:=t.d) (w:=⟨va,vs,vf,vd,.slice o t.az.length cc,vl,vo⟩) UH;have e:t.je d6 i=(t.fX i.a (d6 i.bQ (t.dw.bg i.b) (t.dw.bg i.c))).to (t.pc+1):=by
    unfold aU.je;rw [if_neg (by omega),if_neg (by omega),if_pos h,if_neg (by omega),Int.add_zero]
   have Xr:=qz h;rw [e];intro A F hw hS;refine aF Tryz.func100 λ_=>?_;dsimp only [aa,ag] at hS;have hq:=fm hS hw
   repeat' (first|(refine jX λR hR=>?_;simp [ai,ar,hq,h,jg,BD,vI,hgr2,ha.1,ha.2,hb.1,hb.2,UH.1,UH.2,AW.af,aB];try simp (disch:=omega) only [if_pos,if_neg,ai,ar])|(refine hR _ _ ?_;clear hR R)|(refine hK _ _ ?_;clear hK K)|refine nx ?_|refine wn λK hK=>?_|simp only [wS,mG,mF,mE,mD]|refine wl Tryz.mx mG (by decide +kernel) λK hK=>?_|refine wl Tryz.mx mF (by decide +kernel) λK hK=>?_|refine wl Tryz.mx mE (by decide +kernel) λK hK=>?_|refine wl Tryz.mx mD (by decide +kernel) λK hK=>?_|(refine apE hA _ _ _ Xr ?_)|(apply bf.eZ (RZ { t.d with dw:=t.d.dw.set i.a (d6 i.bQ (t.d.dw.bg i.b) (t.d.dw.bg i.c)) } (t.d.pc+1));(·exact wA);(·exact sA);(·first|exact pA|exact kA);rintro _ _ _ hS hw _;have hS:=lA hS;have hq:=fm hS hw)|(show cM _ _ _ _ _ _;refine nx ?_)|(refine wc rfl (λhc=>?_) (λhc=>?_)<;>(try simp at hc)<;>(try omega))|(refine ib (λhc=>?_) (λhc=>?_)<;>(try omega)<;>(try simp (disch:=omega) only [if_pos,if_neg])))
   refine⟨_,by first|rfl|(simp;rfl),by first|trivial|rfl|(simp;done),?_⟩;apply ah.bO
   (·exact sA)
   (·first|exact pA|exact kA)
 . have him:=Lc hi (.inl h);have jR:IntKind.i64.wrap (t.d.pc+1+i.bQ)=t.d.pc+1+i.bQ:=ai (by show -9223372036854775808<=t.pc+1+i.bQ;omega) (by show t.pc+1+i.bQ<=9223372036854775807;omega);have e:t.je d6 i=t.to (t.pc+1+i.bQ):=by
    unfold aU.je;rw [if_neg (by omega),if_neg (by omega),if_neg (by omega),if_neg (by omega),if_pos (.inl h)]
   rw [e];intro A F hw hS;refine aF Tryz.func100 λ_=>?_;dsimp only [aa,ag] at hS;have hq:=fm hS hw;revert hq hS hw;(repeat first|clear hq|clear hS|clear hw|revert hc|revert R|revert K);refine W (J5 (od mG) (od mF) (od mE) (od mD) (RZ t.d (t.d.pc+1+i.bQ))) (J4 h jg jR bz) ?_<;>(unhygienic intros);refine⟨_,by first|rfl|(simp;rfl),by first|trivial|rfl|(simp;done),?_⟩;apply ah.bO
   (·exact sA)
   (·first|exact pA|exact kA)
 . have ha:=r1 (by rw [h];rfl);have vI:=pO (d:=t.d) (w:=⟨va,vs,vf,vd,.slice o t.az.length cc,vl,vo⟩) ha;have him:=Lc hi (.inr (.inl h));have jR:IntKind.i64.wrap (t.d.pc+1+i.bQ)=t.d.pc+1+i.bQ:=ai (by show -9223372036854775808<=t.pc+1+i.bQ;omega) (by show t.pc+1+i.bQ<=9223372036854775807;omega);by_cases hz:t.d.dw.bg i.a=0
   . have e:t.je d6 i=t.to (t.pc+1+i.bQ):=by
      unfold aU.je;rw [if_neg (by omega),if_neg (by omega),if_neg (by omega),if_neg (by omega),if_pos (.inr (.inl ⟨h,hz⟩))]
     rw [e];intro A F hw hS;refine aF Tryz.func100 λ_=>?_;dsimp only [aa,ag] at hS;have hq:=fm hS hw;revert hq hS hw;(repeat first|clear hq|clear hS|clear hw|revert hc|revert R|revert K);refine W (J5 (od mG) (od mF) (od mE) (od mD) (RZ t.d (t.d.pc+1+i.bQ))) (J8 h jg jR vI hz ha.1 ha.2 bz) ?_<;>(unhygienic intros);refine⟨_,by first|rfl|(simp;rfl),by first|trivial|rfl|(simp;done),?_⟩;apply ah.bO
     (·exact sA)
     (·first|exact pA|exact kA)
   have oL:¬t.dw.bg i.a=0:=hz;have e:t.je d6 i=t.to (t.pc+1):=by
    unfold aU.je;rw [if_neg (by omega),if_neg (by omega),if_neg (by omega),if_neg (by omega),if_neg (λhh=>by rcases hh with hh|⟨_,hh⟩|⟨hh,_⟩<;>first|exact oL hh|omega),Int.add_zero]
   rw [e];intro A F hw hS;refine aF Tryz.func100 λ_=>?_;dsimp only [aa,ag] at hS;have hq:=fm hS hw;revert hq hS hw;(repeat first|clear hq|clear hS|clear hw|revert hc|revert R|revert K);refine W (J5 (od mG) (od mF) (od mE) (od mD) (RZ t.d (t.d.pc+1))) (J7 h jg vI hz ha.1 ha.2 bz) ?_<;>(unhygienic intros);refine⟨_,by first|rfl|(simp;rfl),by first|trivial|rfl|(simp;done),?_⟩;apply ah.bO
   (·exact sA)
   (·first|exact pA|exact kA)
 . have ha:=r1 (by rw [h];rfl);have vI:=pO (d:=t.d) (w:=⟨va,vs,vf,vd,.slice o t.az.length cc,vl,vo⟩) ha;have him:=Lc hi (.inr (.inr h));have jR:IntKind.i64.wrap (t.d.pc+1+i.bQ)=t.d.pc+1+i.bQ:=ai (by show -9223372036854775808<=t.pc+1+i.bQ;omega) (by show t.pc+1+i.bQ<=9223372036854775807;omega);by_cases hz:t.d.dw.bg i.a=0
   . have oL:t.dw.bg i.a=0:=hz;have e:t.je d6 i=t.to (t.pc+1):=by
      unfold aU.je;rw [if_neg (by omega),if_neg (by omega),if_neg (by omega),if_neg (by omega),if_neg (λhh=>by rcases hh with hh|⟨hh,_⟩|⟨_,hh⟩<;>first|exact hh oL|omega),Int.add_zero]
     rw [e];intro A F hw hS;refine aF Tryz.func100 λ_=>?_;dsimp only [aa,ag] at hS;have hq:=fm hS hw;revert hq hS hw;(repeat first|clear hq|clear hS|clear hw|revert hc|revert R|revert K);refine W (J5 (od mG) (od mF) (od mE) (od mD) (RZ t.d (t.d.pc+1))) (J7 h jg vI hz ha.1 ha.2 bz) ?_<;>(unhygienic intros);refine⟨_,by first|rfl|(simp;rfl),by first|trivial|rfl|(simp;done),?_⟩;apply ah.bO
     (·exact sA)
     (·first|exact pA|exact kA)
   have oL:t.dw.bg i.a≠0:=hz;have e:t.je d6 i=t.to (t.pc+1+i.bQ):=by
    unfold aU.je;rw [if_neg (by omega),if_neg (by omega),if_neg (by omega),if_neg (by omega),if_pos (.inr (.inr ⟨h,oL⟩))]
   rw [e];intro A F hw hS;refine aF Tryz.func100 λ_=>?_;dsimp only [aa,ag] at hS;have hq:=fm hS hw;revert hq hS hw;(repeat first|clear hq|clear hS|clear hw|revert hc|revert R|revert K);refine W (J5 (od mG) (od mF) (od mE) (od mD) (RZ t.d (t.d.pc+1+i.bQ))) (J8 h jg jR vI hz ha.1 ha.2 bz) ?_<;>(unhygienic intros);refine⟨_,by first|rfl|(simp;rfl),by first|trivial|rfl|(simp;done),?_⟩;apply ah.bO
   (·exact sA)
   (·first|exact pA|exact kA)
 have ha:=r1 (by rw [h];rfl);have BD:=λx=>wL (d:=t.d) (w:=⟨va,vs,vf,vd,.slice o t.az.length cc,vl,vo⟩) (x:=x) ha;have e:t.je d6 i=(t.fX i.a (IntKind.u64.wrap t.kC)).to (t.pc+1):=by
  unfold aU.je;rw [if_neg (by omega),if_neg (by omega),if_neg (by omega),if_pos h,if_neg (by omega),Int.add_zero]
 rw [e];intro A F hw hS;refine aF Tryz.func100 λ_=>?_;dsimp only [aa,ag] at hS;have hq:=fm hS hw;revert hq hS hw;(repeat first|clear hq|clear hS|clear hw|revert hc|revert R|revert K);refine W (J5 (od mG) (od mF) (od mE) (od mD) (RZ { t.d with dw:=t.d.dw.set i.a (IntKind.u64.wrap t.d.kC) } (t.d.pc+1))) (J6 h jg BD ha.1 ha.2 bz) ?_<;>(unhygienic intros);refine⟨_,by first|rfl|(simp;rfl),by first|trivial|rfl|(simp;done),?_⟩;apply ah.bO
 (·exact sA)
 (·first|exact pA|exact kA)
end
structure UW where
 cy:Nat
 ep:Nat
 ka:Nat
 eX:Nat
 vs:Value
 vo:Value
def fJ:Option aM->Nat->Value|none,_=>.pointer none|some _,n=>pv n
def fI:Option jr->Nat->Value|none,_=>.pointer none|some _,n=>pv n
def lp:Option (List fM)->Nat->Value|none,_=>.pointer none|some _,n=>pv n
def dQ:Option aM->Nat->HP|none,_=>eC|some s,n=>aX n s
def dP:Option jr->Nat->HP|none,_=>eC|some f,n=>pt n (rU f)
def fL:Option (List fM)->Nat->HP|none,_=>eC|some l,n=>yY n l
structure nK where
 bb:Nat
 off:Nat
 ef:Nat
 bP:List Value
abbrev nK.o (k:nK):dH:=.cells k.bP true 5
structure CR (k:nK) (l:List aZ):Prop where
 len:l.length<=k.ef
 le:k.off+l.length*5<=k.bP.length
 eq:l.flatMap au=(k.bP.drop k.off).take (l.length*5)
theorem CR.is {k:nK} {l:List aZ} (h:CR k l) {A:AW} (hg:A.bg k.bb=some k.o):jS A (.slice (some ⟨k.bb,k.off,none⟩) l.length k.ef) l:=
 .inr ⟨⟨k.bb,k.off,none⟩,k.ef,k.bP,true,5,rfl,h.len,hg,rfl,h.le,h.eq⟩
theorem CR.at {k:nK} {l:List aZ} (h:CR k l) {i:Nat} (hi:i<l.length):k.off+i*5+5<=k.bP.length/\(k.bP.drop (k.off+i*5)).take 5=au l[i]:=by
 have h1:=h.le;refine⟨by omega,?_⟩;rw [<-CO l i hi,h.eq,<-List.drop_drop,List.drop_take,List.take_take];congr 1;omega
theorem Rj {A:AW} {L K:List It} {v:Value} {l:List aZ} (h:ah A L) (hp:ay L (.h (lS v l)) K) (hl:0<l.length) :
 ∃k,v=.slice (some ⟨k.bb,k.off,none⟩) l.length k.ef/\CR k l/\ah A (.at k.bb k.o::K):=by
 unfold ah at h;rw [hp.aE] at h;rcases cY.cases h with ⟨_,h0,_⟩|⟨b,off,c,bP,rfl,h1,h2,h3,h4⟩;omega;exact⟨⟨b,off,c,bP⟩,rfl,⟨h1,h2,h3⟩,h4⟩
theorem OA {k:nK} {l:List aZ} (hR:CR k l) {A:AW} {L K:List It} (h:ah A L) (hp:ay L (.at k.bb k.o) K):ah A (.h (lS (.slice (some ⟨k.bb,k.off,none⟩) l.length k.ef) l)::K):=by
 unfold ah at h;rw [hp.aE] at h;exact cY.mk hR.len hR.le hR.eq h
def iK (q:nK) (b:Nat) (t:aU) (f:UW):List It:=[.at b (rD t.d ⟨fJ t.jL f.cy,f.vs,fI t.dX f.ep,lp t.dO f.ka,.slice (some ⟨q.bb,q.off,none⟩) t.az.length q.ef,pv f.eX,f.vo⟩),.h (dQ t.jL f.cy),.h (ir f.vs t.eF),.h (dP t.dX f.ep),.h (fL t.dO f.ka),
 .at q.bb q.o,.h (oO f.eX t.cf t.gh),.h (ir f.vo t.ga)]
def gk (q:nK) (b:Nat) (t:aU):HP:=pG λf:UW=>aE (iK q b t f)
theorem gk.open {A:AW} {L K:List It} {q:nK} {b:Nat} {t:aU} (h:ah A L) (hp:ay L (.h (gk q b t)) K):∃f,ah A (iK q b t f++K):=i9 h hp
theorem gk.dA {A:AW} {L K:List It} {q:nK} {b:Nat} {t:aU} {cy ep ka eX:Nat} {vs vo:Value} (h:ah A L) (e:aP L (iK q b t ⟨cy,ep,ka,eX,vs,vo⟩) K):ah A (.h (gk q b t)::K):=gN ⟨cy,ep,ka,eX,vs,vo⟩ h e
theorem gk.bO {A:AW} {L K G K2:List It} {q:nK} {b:Nat} {t:aU} {cy ep ka eX:Nat} {vs vo:Value} (h:ah A L) (e:aP L (iK q b t ⟨cy,ep,ka,eX,vs,vo⟩) K) (e2:aP K G K2):ah A (.h (gk q b t)::G):=ah.bO (gk.dA h e) (.s .z e2)
theorem bf.U7 {P:Program} {f:FuncId} {args:List Value} {q:nK} {b:Nat} {t:aU} {pC:List It} {φ:Value->Prop} {post:Value->List It} (hc:bf P f args (.h (gk q b t)::pC) φ post) {cy ep ka eX:Nat} {vs vo:Value} {A:AW} {L K K0:List It} {k:Value->AW->Prop} (hw:A.Wf) (hS:ah A L)
 (e:aP L (iK q b t ⟨cy,ep,ka,eX,vs,vo⟩) K0) (e2:aP K0 pC K) (hk:∀v A',φ v->ah A' (post v++K)->A'.Wf->A.next<=A'.next->k v A'):ax P f args A k:=
 bf.eZ hc hw (gk.dA hS e) (.s .z e2) hk
theorem dT.U7 {ι:Type} {P:Program} {f:FuncId} {args:List Value} {q:nK} {b:Nat} {t:aU} {pC:List It} {φ:ι->Value->Prop} {post:ι->List It} (hc:dT P f args (.h (gk q b t)::pC) φ post) {cy ep ka eX:Nat} {vs vo:Value} {A:AW} {L K K0:List It} {k:Value->AW->Prop} (hw:A.Wf) (hS:ah A L)
 (e:aP L (iK q b t ⟨cy,ep,ka,eX,vs,vo⟩) K0) (e2:aP K0 pC K) (hk:∀x v A',φ x v->ah A' (post x++K)->A'.Wf->A.next<=A'.next->k v A'):ax P f args A k:=
 dT.eZ hc hw (gk.dA hS e) (.s .z e2) hk
theorem fT {L G K:List It} (h':aP L G K:=by first|(((try simp only [dt,dC,eR]);dsimp only [iK,aU.tg,aU.d,dQ,fJ,dP,fI,fL,lp,aa,ag];(try simp only [dt,dC,eR]);(try dsimp only [dQ,fJ,dP,fI,fL,lp]));(repeat' (first|apply aP.z|apply aP.s|apply ay.z|apply ay.pt|apply ay.s));done)|fail):aP L G K:=h'
end
section
namespace TGFbB
theorem mr [Gl] {A:AW} {L:List It} {T:Prop} (hS:ah A L) (hw:A.Wf) (h':(aR A L/\bj A L/\bN L)=T:=by first|(dsimp only [aa,ag,aR,bj,bN,eE];done)|exact rfl):T:=h'▸hS.eD hw
end TGFbB
open TGFbB
variable [Gl]
def bs (l:List UInt8):ByteArray:=⟨l.toArray⟩
theorem BL (l:List UInt8):(bs l).size=l.length:=by simp [bs,ByteArray.size]
theorem M3 (s:List UInt8) (i:Nat) (h:i<(bs s).size):(bs s)[i]'h=s[i]'(by rw [BL] at h;exact h):=rfl
theorem mN (s:List UInt8) (x:UInt8) (A:AW) (hl:s.length<2^30) :
 ax Tryz.prog 103 [.string (bs s),.int .u8 x.toNat] A (λu A'=>u=.bool (decide (x∈s))/\A=A'):=by
 refine aF Tryz.func103 λhw=>?_;revert hw;refine W cd cd ?_<;>(unhygienic intros);refine cW (λk fr A'=>A=A'/\∃i:Nat,k=s.length-i/\i<=s.length/\fr 0=.string (bs s)/\fr 1=.int .u8 x.toNat/\fr 5=.int .i64 i/\(x∈s↔x∈s.drop i)) s.length ?_ ?_;exact⟨rfl,0,rfl,Nat.zero_le _,rfl,rfl,rfl,by simp⟩;rintro k fr A' ⟨rfl,i,rfl,hi,h0,h1,h5,he⟩;by_cases bL:i<s.length
 . have fU:=uR (i:=i);have hd:s.drop i=s[i]::s.drop (i+1):=List.drop_eq_getElem_cons bL;by_cases hx:s[i]=x;have hxn:((s[i].toNat:Int)=x.toNat):=(by rw [hx]);have vH:x∈s:=he.2 (by rw [hd,hx];simp);refine aO ?_;refine W cd (J8 h0 h1 h5 bL fU hxn @BL @M3) ?_<;>intros;simp [cg,aL,aQ,bm,aK,aN,vH];have hxn:¬((s[i].toNat:Int)=x.toNat):=λe=>hx (UInt8.toNat_inj.1 (by omega));refine aO ?_
   repeat' (first|(refine jX λR hR=>?_;simp [ai,ar,h0,h1,h5,BL,M3,bL,fU,hxn];try simp (disch:=omega) only [if_pos,if_neg,ai,ar])|(refine hR _ _ ?_;clear hR R)|(refine hK _ _ ?_;clear hK K)|refine nx ?_|refine wn λK hK=>?_|simp only [wS]|(show cM _ _ _ _ _ _;refine nx ?_)|(refine wc rfl (λhc=>?_) (λhc=>?_)<;>(try simp at hc)<;>(try omega))|(refine ib (λhc=>?_) (λhc=>?_)<;>(try omega)<;>(try simp (disch:=omega) only [if_pos,if_neg])))
   refine⟨s.length-(i+1),by omega,rfl,i+1,rfl,by omega,?_,?_,?_,?_⟩;simp [h0];simp [h1];simp;have hU:¬x=s[i]:=λe=>hx e.symm;rw [he,hd,List.mem_cons];exact⟨λh=>h.resolve_left hU,.inr⟩
 have vH:¬x∈s:=λh=>by
  have:=he.1 h;rw [List.drop_eq_nil_of_le (by omega)] at this;cases this
 refine aO ?_;refine W cd (J5 h0 h1 h5 bL @BL) ?_<;>intros;simp [cg,aL,aQ,bm,aK,aN,vH]
theorem rh (r:Int) (b:Bool) (A:AW):ax Tryz.prog 102 [.int .i64 r,.bool b] A (λu A'=>u=.bool (gm r b)/\A=A'):=by
 refine aF Tryz.func102 λhw=>?_;cases b with
 | true=>
   by_cases h1:0<=r
   . by_cases h2:r<8
     . refine W cd (J2 h1 h2) ?_<;>intros
       all_goals simp [aL,aQ,bm,aK,aN,gm,h1,h2]
     refine W cd (J2 h1 h2) ?_<;>intros
     all_goals simp [aL,aQ,bm,aK,aN,gm,h1,h2]
   refine W cd (J1 h1) ?_<;>intros
   all_goals simp [aL,aQ,bm,aK,aN,gm,h1]
 | false=>
   by_cases h1:r=0
   . refine W cd (J1 h1) ?_<;>intros
     all_goals simp [aL,aQ,bm,aK,aN,gm,h1]
   refine W cd (J1 h1) ?_<;>intros
   all_goals simp [aL,aQ,bm,aK,aN,gm,h1]
end
section
namespace TGFbC
theorem mr [Gl] {A:AW} {L:List It} {T:Prop} (hS:ah A L) (hw:A.Wf) (h':(aR A L/\bj A L/\bN L)=T:=by first|(dsimp only [aa,ag,aR,bj,bN,eE];done)|exact rfl):T:=h'▸hS.eD hw
end TGFbC
open TGFbC
variable [Gl]
def dI:Nat->List UInt8
 | 1=>[114,105]|2=>[114,115]|3=>[114,115,116,102]|4=>[106]|5=>[114,106]|6=>[114,106]|7=>[97]
 | 10=>[114,115,105]|11=>[114,115,105]|12=>[114,115,105]|13=>[114,115,105]|14=>[114,99]|15=>[114]|17=>[114]
 | _=>[]
theorem fo (hn:Gl.N=4) {k:Nat} (hk:k<18) (A:AW):ax Tryz.prog 101 [.int .i64 k] A (λu A'=>u=.string (bs (dI k))/\A=A'):=by
 refine ax.qt (cL.hY rfl) (λhw=>?_) (by kernel_rfl);refine aF Tryz.func101 λ_=>?_;have:k=0\/k=1\/k=2\/k=3\/k=4\/k=5\/k=6\/k=7\/k=8\/k=9\/k=10\/k=11\/k=12\/k=13\/k=14\/k=15\/k=16\/k=17:=by omega
 rcases this with rfl|rfl|rfl|rfl|rfl|rfl|rfl|rfl|rfl|rfl|rfl|rfl|rfl|rfl|rfl|rfl|rfl|rfl
 all_goals(
  all_goals(revert hw;refine W cd (J1 @AW.af) ?_<;>unhygienic intros)
  exact⟨_,by first|rfl|(simp;rfl),rfl,AW.le.alloc A _⟩)
end
section
abbrev gS:List (Nat×Nat):=[(0,0),(1,0),(2,0),(3,2),(4,2),(5,0),(6,0),(7,0),(8,0),(9,0),(10,2),(11,2),(12,0),(13,0),(14,0),(15,0),(16,0),(17,0),(18,2),(19,2),(20,0),(21,0)]
namespace TGFbD
theorem mr [Gl] {A:AW} {L:List It} {T:Prop} (hS:ah A L) (hw:A.Wf) (h':(aR A L/\bj A L/\bN L)=T:=by first|(dsimp only [aa,ag,aR,bj,bN,eE];done)|exact rfl):T:=h'▸hS.eD hw
end TGFbD
open TGFbD
variable [Gl]
theorem SH {k:Nat} (hk:k<18):decide ((114:UInt8)∈dI k)=lF k/\decide ((115:UInt8)∈dI k)=jT k/\decide ((116:UInt8)∈dI k)=lE k:=by
 have h:((List.range 18).all λk=>(decide ((114:UInt8)∈dI k) == lF k) && (decide ((115:UInt8)∈dI k) == jT k) && (decide ((116:UInt8)∈dI k) == lE k))=true:=by kernel_rfl
 have:=List.all_eq_true.1 h k (List.mem_range.2 hk);simp only [Bool.and_eq_true,beq_iff_eq] at this;exact⟨this.1.1,this.1.2,this.2⟩
theorem Cy {k:Nat} (hk:k<18) (bQ:Int):eT k bQ =
 if decide ((105:UInt8)∈dI k)=true then true else
 if decide ((102:UInt8)∈dI k)=true then decide (0<=bQ) && decide (bQ<=21) else
 if decide ((106:UInt8)∈dI k)=true then decide (0<=bQ) && decide (bQ<=64) else
 if decide ((97:UInt8)∈dI k)=true then decide (1<=bQ) && decide (bQ<=8) else
 if decide ((99:UInt8)∈dI k)=true then decide (0<=bQ) && decide (bQ<=3) else decide (0<=bQ) && decide (bQ<=0):=by
 have h:k=0\/k=1\/k=2\/k=3\/k=4\/k=5\/k=6\/k=7\/k=8\/k=9\/k=10\/k=11\/k=12\/k=13\/k=14\/k=15\/k=16\/k=17:=by omega
 rcases h with rfl|rfl|rfl|rfl|rfl|rfl|rfl|rfl|rfl|rfl|rfl|rfl|rfl|rfl|rfl|rfl|rfl|rfl
 all_goals
  simp [eT,dI]
  try(rw [Bool.eq_iff_iff];simp;omega)
theorem ue (hn:Gl.N=4) (x:aZ) (A:AW):ax Tryz.prog 69 [.agg (au x).toArray] A (λu A'=>u=.int .i64 (b8 x)/\A=A'):=by
 refine ax.qt (V:=.int .i64 (b8 x)) (by simp) (λhw=>?_) (by kernel_rfl);refine aF Tryz.func69 λ_=>?_;obtain⟨op,a,b,c,bQ⟩:=x;by_cases h1:op<0
 . have he:b8 ⟨op,a,b,c,bQ⟩=10:=(by unfold b8;rw [if_pos (.inl h1)]);rw [he];refine W (J1 (od gS)) (J3 h1 bz @au.eq_1) ?_<;>intros
   all_goals(simp [aL,aQ,bm,aK,aN]<;>exact AW.le.alloc A _)
 by_cases h2:18<=op
 . have he:b8 ⟨op,a,b,c,bQ⟩=10:=(by unfold b8;rw [if_pos (.inr h2)]);rw [he];refine W (J1 (od gS)) (J4 h1 h2 bz @au.eq_1) ?_<;>intros
   all_goals(simp [aL,aQ,bm,aK,aN]<;>exact AW.le.alloc A _)
 obtain⟨k,rfl⟩:∃k:Nat,op=k:=⟨op.toNat,by omega⟩;have hk:k<18:=by omega
 obtain⟨l1,l2,l3⟩:=SH hk;have N4:=Cy hk bQ;have hs:(dI k).length<2^30:=by unfold dI;split<;>simp
 have c1:∀A,ax Tryz.prog 103 [.string (bs (dI k)),.int .u8 114] A (λu A'=>u=.bool (lF k)/\A=A'):=λA=>by rw [<-l1];exact mN (dI k) 114 A hs
 have c2:∀A,ax Tryz.prog 103 [.string (bs (dI k)),.int .u8 115] A (λu A'=>u=.bool (jT k)/\A=A'):=λA=>by rw [<-l2];exact mN (dI k) 115 A hs
 have c3:∀A,ax Tryz.prog 103 [.string (bs (dI k)),.int .u8 116] A (λu A'=>u=.bool (lE k)/\A=A'):=λA=>by rw [<-l3];exact mN (dI k) 116 A hs
 generalize xh:decide ((105:UInt8)∈dI k)=d1 at N4;generalize Lu:decide ((102:UInt8)∈dI k)=d2 at N4;generalize UF:decide ((106:UInt8)∈dI k)=d3 at N4;generalize hd4:decide ((97:UInt8)∈dI k)=d4 at N4;generalize OW:decide ((99:UInt8)∈dI k)=d5 at N4;have e1:∀A,ax Tryz.prog 103 [.string (bs (dI k)),.int .u8 105] A (λu A'=>u=.bool d1/\A=A'):=λA=>by rw [<-xh];exact mN (dI k) 105 A hs
 have e2:∀A,ax Tryz.prog 103 [.string (bs (dI k)),.int .u8 102] A (λu A'=>u=.bool d2/\A=A'):=λA=>by rw [<-Lu];exact mN (dI k) 102 A hs
 have e3:∀A,ax Tryz.prog 103 [.string (bs (dI k)),.int .u8 106] A (λu A'=>u=.bool d3/\A=A'):=λA=>by rw [<-UF];exact mN (dI k) 106 A hs
 have e4:∀A,ax Tryz.prog 103 [.string (bs (dI k)),.int .u8 97] A (λu A'=>u=.bool d4/\A=A'):=λA=>by rw [<-hd4];exact mN (dI k) 97 A hs
 have e5:∀A,ax Tryz.prog 103 [.string (bs (dI k)),.int .u8 99] A (λu A'=>u=.bool d5/\A=A'):=λA=>by rw [<-OW];exact mN (dI k) 99 A hs
 have ki:¬((18:Int)<=k):=by omega
 have he:b8 ⟨k,a,b,c,bQ⟩=if (gm a (lF k) && gm b (jT k) && gm c (lE k)) && eT k bQ then 0 else 11:=by unfold b8;rw [if_neg (by simp;omega)]
 rw [he,N4];generalize JS:gm a (lF k)=ra;generalize hrb:gm b (jT k)=rb;generalize vE:gm c (lE k)=rc;have g1:∀A,ax Tryz.prog 102 [.int .i64 a,.bool (lF k)] A (λu A'=>u=.bool ra/\A=A'):=λA=>by rw [<-JS];exact rh a (lF k) A
 have g2:∀A,ax Tryz.prog 102 [.int .i64 b,.bool (jT k)] A (λu A'=>u=.bool rb/\A=A'):=λA=>by rw [<-hrb];exact rh b (jT k) A
 have g3:∀A,ax Tryz.prog 102 [.int .i64 c,.bool (lE k)] A (λu A'=>u=.bool rc/\A=A'):=λA=>by rw [<-vE];exact rh c (lE k) A
 cases ra with
 | false=>
   refine W (J8 (od gS) (fo hn hk) @c1 @c2 @c3 @g1 @g2 @g3) (J3 ki bz @au.eq_1) ?_<;>intros
   all_goals(simp [aL,aQ,bm,aK,aN]<;>exact AW.le.alloc A _)
 | true=>cases rb with
   | false=>
     refine Wu (mi (od gS) (fo hn hk) @c1 @c2 @c3 @g1 @g2 @g3 @e1 @e2 @e3 @e4 @e5) (J3 ki bz @au.eq_1) ?_<;>intros
     all_goals(simp [aL,aQ,bm,aK,aN]<;>exact AW.le.alloc A _)
   | true=>cases rc with
     | false=>
       refine Wu (mi (od gS) (fo hn hk) @c1 @c2 @c3 @g1 @g2 @g3 @e1 @e2 @e3 @e4 @e5) (J3 ki bz @au.eq_1) ?_<;>intros
       all_goals(simp [aL,aQ,bm,aK,aN]<;>exact AW.le.alloc A _)
     | true=>cases d1 with
       | true=>
         refine Wu (mi (od gS) (fo hn hk) @c1 @c2 @c3 @g1 @g2 @g3 @e1 @e2 @e3 @e4 @e5) (J3 ki bz @au.eq_1) ?_<;>intros
         all_goals(simp [aL,aQ,bm,aK,aN]<;>exact AW.le.alloc A _)
       | false=>cases d2 with
         | true=>
           by_cases q1:bQ<0
           . have q3:¬(0<=bQ):=(by omega);refine Wu (mi (od gS) (fo hn hk) @c1 @c2 @c3 @g1 @g2 @g3 @e1 @e2 @e3 @e4 @e5) (J5 ki q1 q3 bz @au.eq_1) ?_<;>intros
             all_goals(simp [aL,aQ,bm,aK,aN,q3]<;>exact AW.le.alloc A _)
           have q3:0<=bQ:=(by omega);by_cases q2:21<bQ
           . have q4:¬(bQ<=21):=(by omega);refine Wu (mi (od gS) (fo hn hk) @c1 @c2 @c3 @g1 @g2 @g3 @e1 @e2 @e3 @e4 @e5) (J7 ki q1 q2 q3 q4 bz @au.eq_1) ?_<;>intros
             all_goals(simp [aL,aQ,bm,aK,aN,q3,q4]<;>exact AW.le.alloc A _)
           have q4:bQ<=21:=(by omega);refine Wu (mi (od gS) (fo hn hk) @c1 @c2 @c3 @g1 @g2 @g3 @e1 @e2 @e3 @e4 @e5) (J7 ki q1 q2 q3 q4 bz @au.eq_1) ?_<;>intros
           all_goals(simp [aL,aQ,bm,aK,aN,q3,q4]<;>exact AW.le.alloc A _)
         | false=>cases d3 with
           | true=>
             by_cases q1:bQ<0
             . have q3:¬(0<=bQ):=(by omega);refine Wu (mi (od gS) (fo hn hk) @c1 @c2 @c3 @g1 @g2 @g3 @e1 @e2 @e3 @e4 @e5) (J5 ki q1 q3 bz @au.eq_1) ?_<;>intros
               all_goals(simp [aL,aQ,bm,aK,aN,q3]<;>exact AW.le.alloc A _)
             have q3:0<=bQ:=(by omega);by_cases q2:64<bQ
             . have q4:¬(bQ<=64):=(by omega);refine Wu (mi (od gS) (fo hn hk) @c1 @c2 @c3 @g1 @g2 @g3 @e1 @e2 @e3 @e4 @e5) (J7 ki q1 q2 q3 q4 bz @au.eq_1) ?_<;>intros
               all_goals(simp [aL,aQ,bm,aK,aN,q3,q4]<;>exact AW.le.alloc A _)
             have q4:bQ<=64:=(by omega);refine Wu (mi (od gS) (fo hn hk) @c1 @c2 @c3 @g1 @g2 @g3 @e1 @e2 @e3 @e4 @e5) (J7 ki q1 q2 q3 q4 bz @au.eq_1) ?_<;>intros
             all_goals(simp [aL,aQ,bm,aK,aN,q3,q4]<;>exact AW.le.alloc A _)
           | false=>cases d4 with
             | true=>
               by_cases q1:bQ<1
               . have q3:¬(1<=bQ):=(by omega);refine Wu (mi (od gS) (fo hn hk) @c1 @c2 @c3 @g1 @g2 @g3 @e1 @e2 @e3 @e4 @e5) (J5 ki q1 q3 bz @au.eq_1) ?_<;>intros
                 all_goals(simp [aL,aQ,bm,aK,aN,q3]<;>exact AW.le.alloc A _)
               have q3:1<=bQ:=(by omega);by_cases q2:8<bQ
               . have q4:¬(bQ<=8):=(by omega);refine Wu (mi (od gS) (fo hn hk) @c1 @c2 @c3 @g1 @g2 @g3 @e1 @e2 @e3 @e4 @e5) (J7 ki q1 q2 q3 q4 bz @au.eq_1) ?_<;>intros
                 all_goals(simp [aL,aQ,bm,aK,aN,q3,q4]<;>exact AW.le.alloc A _)
               have q4:bQ<=8:=(by omega);refine Wu (mi (od gS) (fo hn hk) @c1 @c2 @c3 @g1 @g2 @g3 @e1 @e2 @e3 @e4 @e5) (J7 ki q1 q2 q3 q4 bz @au.eq_1) ?_<;>intros
               all_goals(simp [aL,aQ,bm,aK,aN,q3,q4]<;>exact AW.le.alloc A _)
             | false=>cases d5 with
               | true=>
                 by_cases q1:bQ<0
                 . have q3:¬(0<=bQ):=(by omega);refine Wu (mi (od gS) (fo hn hk) @c1 @c2 @c3 @g1 @g2 @g3 @e1 @e2 @e3 @e4 @e5) (J5 ki q1 q3 bz @au.eq_1) ?_<;>intros
                   all_goals(simp [aL,aQ,bm,aK,aN,q3]<;>exact AW.le.alloc A _)
                 have q3:0<=bQ:=(by omega);by_cases q2:3<bQ
                 . have q4:¬(bQ<=3):=(by omega);refine Wu (mi (od gS) (fo hn hk) @c1 @c2 @c3 @g1 @g2 @g3 @e1 @e2 @e3 @e4 @e5) (J7 ki q1 q2 q3 q4 bz @au.eq_1) ?_<;>intros
                   all_goals(simp [aL,aQ,bm,aK,aN,q3,q4]<;>exact AW.le.alloc A _)
                 have q4:bQ<=3:=(by omega);refine Wu (mi (od gS) (fo hn hk) @c1 @c2 @c3 @g1 @g2 @g3 @e1 @e2 @e3 @e4 @e5) (J7 ki q1 q2 q3 q4 bz @au.eq_1) ?_<;>intros
                 all_goals(simp [aL,aQ,bm,aK,aN,q3,q4]<;>exact AW.le.alloc A _)
               | false=>
                 by_cases q1:bQ<0
                 . have q3:¬(0<=bQ):=(by omega);refine Wu (mi (od gS) (fo hn hk) @c1 @c2 @c3 @g1 @g2 @g3 @e1 @e2 @e3 @e4 @e5) (J5 ki q1 q3 bz @au.eq_1) ?_<;>intros
                   all_goals(simp [aL,aQ,bm,aK,aN,q3]<;>exact AW.le.alloc A _)
                 have q3:0<=bQ:=(by omega);by_cases q2:0<bQ
                 . have q4:¬(bQ<=0):=(by omega);refine Wu (mi (od gS) (fo hn hk) @c1 @c2 @c3 @g1 @g2 @g3 @e1 @e2 @e3 @e4 @e5) (J7 ki q1 q2 q3 q4 bz @au.eq_1) ?_<;>intros
                   all_goals(simp [aL,aQ,bm,aK,aN,q3,q4]<;>exact AW.le.alloc A _)
                 have q4:bQ<=0:=(by omega);refine Wu (mi (od gS) (fo hn hk) @c1 @c2 @c3 @g1 @g2 @g3 @e1 @e2 @e3 @e4 @e5) (J7 ki q1 q2 q3 q4 bz @au.eq_1) ?_<;>intros
                 all_goals(simp [aL,aQ,bm,aK,aN,q3,q4]<;>exact AW.le.alloc A _)
end
section
namespace TGFbE
theorem mr [Gl] {A:AW} {L:List It} {T:Prop} (hS:ah A L) (hw:A.Wf) (h':(aR A L/\bj A L/\bN L)=T:=by first|(dsimp only [aa,ag,aR,bj,bN,eE];done)|exact rfl):T:=h'▸hS.eD hw
end TGFbE
open TGFbE
variable [Gl]
theorem Ep (hn:Gl.N=4) (x:aZ) (A:AW):ax Tryz.prog 70 [.agg (au x).toArray] A (λu A'=>u=.int .i64 (bp x)/\A=A'):=by
 refine ax.qt (V:=.int .i64 (bp x)) (by simp) (λhw=>?_) (by kernel_rfl);refine aF Tryz.func70 λ_=>?_;obtain⟨op,a,b,c,bQ⟩:=x;have kO:=λA=>ue hn ⟨op,a,b,c,bQ⟩ A;simp only [au] at kO;by_cases h0:b8 ⟨op,a,b,c,bQ⟩=0
 . rw [h0] at kO;by_cases o8:op=8
   . subst o8;have he:bp ⟨8,a,b,c,bQ⟩=1:=(by unfold bp;rw [if_pos h0];rfl);rw [he];refine W (J1 @kO) (J2 @AW.af @au.eq_1) ?_<;>intros
     all_goals first|exact AW.le.alloc A _|(simp [aL,aQ,bm,aK,aN]<;>exact AW.le.alloc A _)
   by_cases o9:op=9
   . subst o9;have he:bp ⟨9,a,b,c,bQ⟩=1:=(by unfold bp;rw [if_pos h0];rfl);rw [he];refine W (J1 @kO) (J3 o8 @AW.af @au.eq_1) ?_<;>intros
     all_goals first|exact AW.le.alloc A _|(simp [aL,aQ,bm,aK,aN]<;>exact AW.le.alloc A _)
   by_cases mH:op=10
   . subst mH;have he:bp ⟨10,a,b,c,bQ⟩=1:=(by unfold bp;rw [if_pos h0];rfl);rw [he];refine W (J1 @kO) (J4 o8 o9 @AW.af @au.eq_1) ?_<;>intros
     all_goals first|exact AW.le.alloc A _|(simp [aL,aQ,bm,aK,aN]<;>exact AW.le.alloc A _)
   by_cases o11:op=11
   . subst o11;have he:bp ⟨11,a,b,c,bQ⟩=1:=(by unfold bp;rw [if_pos h0];rfl);rw [he];refine W (J1 @kO) (J5 o8 o9 mH @AW.af @au.eq_1) ?_<;>intros
     all_goals first|exact AW.le.alloc A _|(simp [aL,aQ,bm,aK,aN]<;>exact AW.le.alloc A _)
   by_cases o14:op=14
   . subst o14;have he:bp ⟨14,a,b,c,bQ⟩=1:=(by unfold bp;rw [if_pos h0];rfl);rw [he];refine W (J1 @kO) (J6 o8 o9 mH o11 @AW.af @au.eq_1) ?_<;>intros
     all_goals first|exact AW.le.alloc A _|(simp [aL,aQ,bm,aK,aN]<;>exact AW.le.alloc A _)
   by_cases o15:op=15
   . subst o15;have he:bp ⟨15,a,b,c,bQ⟩=1:=(by unfold bp;rw [if_pos h0];rfl);rw [he];refine W (J1 @kO) (J7 o8 o9 mH o11 o14 @AW.af @au.eq_1) ?_<;>intros
     all_goals first|exact AW.le.alloc A _|(simp [aL,aQ,bm,aK,aN]<;>exact AW.le.alloc A _)
   by_cases o7:op=7
   . subst o7;have he:bp ⟨7,a,b,c,bQ⟩=2:=(by unfold bp;rw [if_pos h0];rfl);rw [he];refine W (J1 @kO) (J8 o8 o9 mH o11 o14 o15 @AW.af @au.eq_1) ?_<;>intros
     all_goals first|exact AW.le.alloc A _|(simp [aL,aQ,bm,aK,aN]<;>exact AW.le.alloc A _)
   by_cases o12:op=12
   . subst o12;have he:bp ⟨12,a,b,c,bQ⟩=2:=(by unfold bp;rw [if_pos h0];rfl);rw [he];refine W (J1 @kO) (J9 o8 o9 mH o11 o14 o15 o7 @AW.af @au.eq_1) ?_<;>intros
     all_goals first|exact AW.le.alloc A _|(simp [aL,aQ,bm,aK,aN]<;>exact AW.le.alloc A _)
   by_cases o13:op=13
   . subst o13;have he:bp ⟨13,a,b,c,bQ⟩=2:=(by unfold bp;rw [if_pos h0];rfl);rw [he];refine W (J1 @kO) (Bs o8 o9 mH o11 o14 o15 o7 o12 @AW.af @au.eq_1) ?_<;>intros
     all_goals first|exact AW.le.alloc A _|(simp [aL,aQ,bm,aK,aN]<;>exact AW.le.alloc A _)
   by_cases o16:op=16
   . subst o16;have he:bp ⟨16,a,b,c,bQ⟩=2:=(by unfold bp;rw [if_pos h0];rfl);rw [he];refine W (J1 @kO) (HE o8 o9 mH o11 o14 o15 o7 o12 o13 @AW.af @au.eq_1) ?_<;>intros
     all_goals first|exact AW.le.alloc A _|(simp [aL,aQ,bm,aK,aN]<;>exact AW.le.alloc A _)
   by_cases o17:op=17
   . subst o17;have he:bp ⟨17,a,b,c,bQ⟩=2:=(by unfold bp;rw [if_pos h0];rfl);rw [he];refine W (J1 @kO) (tA o8 o9 mH o11 o14 o15 o7 o12 o13 o16 @AW.af @au.eq_1) ?_<;>intros
     all_goals first|exact AW.le.alloc A _|(simp [aL,aQ,bm,aK,aN]<;>exact AW.le.alloc A _)
   have he:bp ⟨op,a,b,c,bQ⟩=0:=(by unfold bp;rw [if_pos h0];dsimp only;rw [if_neg (by omega),if_neg (by omega)]);rw [he];refine W (J1 @kO) (mi o8 o9 mH o11 o14 o15 o7 o12 o13 o16 o17 @AW.af @au.eq_1) ?_<;>intros
   all_goals first|exact AW.le.alloc A _|(simp [aL,aQ,bm,aK,aN]<;>exact AW.le.alloc A _)
 have he:bp ⟨op,a,b,c,bQ⟩=0:=by unfold bp;rw [if_neg h0]
 rw [he];refine W (J1 @kO) (J3 h0 @AW.af @au.eq_1) ?_<;>intros
 all_goals first|exact AW.le.alloc A _|(simp [aL,aQ,bm,aK,aN]<;>exact AW.le.alloc A _)
theorem Eo (hn:Gl.N=4) (x:aZ) (A:AW):ax Tryz.prog 71 [.agg (au x).toArray] A (λu A'=>u=.tuple #[.int .i64 ((dW x).getD 0),.bool (dW x).isSome]/\A=A'):=by
 refine ax.qt (V:=.tuple #[.int .i64 ((dW x).getD 0),.bool (dW x).isSome]) (cL.tuple (by simp)) (λhw=>?_) (by kernel_rfl);refine aF Tryz.func71 λ_=>?_;obtain⟨op,a,b,c,bQ⟩:=x;have kO:=λA=>ue hn ⟨op,a,b,c,bQ⟩ A;simp only [au] at kO;by_cases h0:b8 ⟨op,a,b,c,bQ⟩=0
 . rw [h0] at kO;have hr:0<=op/\op<18:=by
    unfold b8 at h0;dsimp only at h0;split at h0;cases h0;omega
   obtain⟨k,hk⟩:∃k:Nat,op=k:=⟨op.toNat,by omega⟩;subst hk;have V8:k<18:=(by omega);have hs:(dI k).length<2^30:=(by unfold dI;split<;>simp);have hj:decide ((106:UInt8)∈dI k)=decide (k=4\/k=5\/k=6):=by
    have h:((List.range 18).all λk=>decide ((106:UInt8)∈dI k) == decide (k=4\/k=5\/k=6))=true:=by kernel_rfl
    simpa using List.all_eq_true.1 h k (List.mem_range.2 V8)
   have c1:∀A,ax Tryz.prog 103 [.string (bs (dI k)),.int .u8 106] A (λu A'=>u=.bool (decide (k=4\/k=5\/k=6))/\A=A'):=λA=>by rw [<-hj];exact mN (dI k) 106 A hs
   by_cases h4:k=4\/k=5\/k=6
   . have he:dW ⟨(k:Int),a,b,c,bQ⟩=some bQ:=(by unfold dW;rw [if_pos ⟨h0,by dsimp only;omega⟩]);rw [he];rw [decide_eq_true h4] at c1;refine W (J3 @kO (fo hn V8) @c1) (J2 @AW.af @au.eq_1) ?_<;>intros
     all_goals first|exact AW.le.alloc A _|(simp [aL,aQ,bm,aK,aN]<;>exact AW.le.alloc A _)
   have he:dW ⟨(k:Int),a,b,c,bQ⟩=none:=(by unfold dW;rw [if_neg (λh=>by have:=h.2;dsimp only at this;omega)]);rw [he];rw [decide_eq_false h4] at c1;refine W (J3 @kO (fo hn V8) @c1) (J2 @AW.af @au.eq_1) ?_<;>intros
   all_goals first|exact AW.le.alloc A _|(simp [aL,aQ,bm,aK,aN]<;>exact AW.le.alloc A _)
 have he:dW ⟨op,a,b,c,bQ⟩=none:=by unfold dW;rw [if_neg (λh=>h0 h.1)]
 rw [he];refine W (J1 @kO) (J3 h0 @AW.af @au.eq_1) ?_<;>intros
 all_goals first|exact AW.le.alloc A _|(simp [aL,aQ,bm,aK,aN]<;>exact AW.le.alloc A _)
end
section
namespace TGFbF
theorem mr [Gl] {A:AW} {L:List It} {T:Prop} (hS:ah A L) (hw:A.Wf) (h':(aR A L/\bj A L/\bN L)=T:=by first|(dsimp only [aa,ag,aR,bj,bN,eE];done)|exact rfl):T:=h'▸hS.eD hw
end TGFbF
open TGFbF
variable [Gl]
def fb:Option Nat->Int
 | some b=>b
 | none=>-1
def vS:Option (Nat×Nat)->Value
 | some (b,c)=>.tuple #[.int .i64 b,.int .i64 c]
 | none=>.tuple #[.int .i64 (-1),.int .i64 (-1)]
theorem Fg (v:Value) (p:List aZ) (t:Nat) (A:AW) (h:jS A v p) (hl:p.length<2^30) (ht:t<=p.length) :
 ax Tryz.prog 104 [v,.int .i64 t] A (λu A'=>u=vS (Ar p t)/\A=A'):=by
 refine aF Tryz.func104 λhw=>?_;obtain⟨o,c,rfl,_⟩:=h.bE;revert hw;refine W cd cd ?_<;>(unhygienic intros)
 refine cW (λk fr A'=>A=A'/\∃(i:Nat) (b:Option Nat),k=p.length-i/\i<=p.length/\fr 0=.slice o p.length c/\fr 1=.int .i64 t/\fr 6=.int .i64 (fb b)/\fr 7=.int .i64 i/\
  Ar p t=jy p t (p.length-i) i b) p.length ?_ ?_
 exact⟨rfl,0,none,rfl,Nat.zero_le _,rfl,rfl,rfl,rfl,rfl⟩;rintro k fr A' ⟨rfl,i,b,rfl,hi,h0,h1,h6,h7,he⟩;by_cases bL:i<p.length
 . obtain⟨q,bP,rfl,bI,eJ,hcell⟩:=h.at bL;have mt:=um hcell;have fU:=uR (i:=i);have ho:dS p i=p[i].op:=lm (List.getElem?_eq_getElem bL);have dv:p.length-i=(p.length-(i+1))+1:=(by omega);rw [dv] at he;unfold jy at he;cases b with
   | none=>
     simp only [fb] at h6;simp only [ho] at he;by_cases o7:p[i].op=7;rw [if_pos o7] at he;refine aO ?_;refine W cd (Bs h0 h1 h6 h7 bI mt eJ bL fU o7) ?_<;>intros;refine⟨p.length-(i+1),by omega,rfl,i+1,some i,rfl,by omega,?_,?_,?_,?_,he⟩<;>simp [h0,h1,fb];rw [if_neg o7] at he;refine aO ?_;refine W cd (Bs h0 h1 h6 h7 bI mt eJ bL fU o7) ?_<;>intros;refine⟨p.length-(i+1),by omega,rfl,i+1,none,rfl,by omega,?_,?_,?_,?_,he⟩<;>simp [h0,h1,h6,fb]
   | some d=>
     simp only [fb] at h6;simp only [ho] at he;have tq:¬((d:Int)<0):=(by omega);by_cases o8:p[i].op=8
     . rw [if_pos o8] at he;by_cases hc:d<=t/\t<=i
       . rw [if_pos hc] at he;have HQ:=hc.1;have yu:=hc.2;refine aO ?_;refine W cd (mi h0 h1 h6 h7 bI mt eJ bL fU o8 tq HQ yu) ?_<;>intros
         all_goals simp [cg,aL,aQ,bm,aK,aN,he,vS]
       rw [if_neg hc] at he;by_cases HQ:d<=t;have yu:¬t<=i:=λx=>hc ⟨HQ,x⟩;refine aO ?_;refine W cd (mi h0 h1 h6 h7 bI mt eJ bL fU o8 tq HQ yu) ?_<;>intros;refine⟨p.length-(i+1),by omega,rfl,i+1,none,rfl,by omega,?_,?_,?_,?_,he⟩<;>simp [h0,h1,fb];refine aO ?_;refine W cd (tA h0 h1 h6 h7 bI mt eJ bL fU o8 tq HQ) ?_<;>intros;refine⟨p.length-(i+1),by omega,rfl,i+1,none,rfl,by omega,?_,?_,?_,?_,he⟩<;>simp [h0,h1,fb]
     rw [if_neg o8] at he;refine aO ?_;refine W cd (HE h0 h1 h6 h7 bI mt eJ bL fU o8 tq) ?_<;>intros;refine⟨p.length-(i+1),by omega,rfl,i+1,some d,rfl,by omega,?_,?_,?_,?_,he⟩<;>simp [h0,h1,h6,fb]
 have tJ:i=p.length:=by omega
 subst tJ;rw [Nat.sub_self] at he;unfold jy at he;cases b with
 | none=>
   simp only [fb] at h6;refine aO ?_;refine W cd (J5 h0 h1 h6 h7 bL) ?_<;>intros
   all_goals simp [cg,aL,aQ,bm,aK,aN,he,vS]
 | some d=>
   simp only [fb] at h6;have tq:¬((d:Int)<0):=(by omega);have xh:(0:Int)<=d:=(by omega);simp only at he;by_cases HQ:d<=t
   . by_cases yu:t<p.length
     . rw [if_pos ⟨HQ,yu⟩] at he;refine aO ?_;refine W cd (J9 h0 h1 h6 h7 bL tq xh HQ yu) ?_<;>intros
       all_goals simp [cg,aL,aQ,bm,aK,aN,he,vS]
     rw [if_neg (λx=>yu x.2)] at he;refine aO ?_;refine W cd (J9 h0 h1 h6 h7 bL tq xh HQ yu) ?_<;>intros
     all_goals simp [cg,aL,aQ,bm,aK,aN,he,vS]
   rw [if_neg (λx=>HQ x.1)] at he;refine aO ?_;refine W cd (J8 h0 h1 h6 h7 bL tq xh HQ) ?_<;>intros
   all_goals simp [cg,aL,aQ,bm,aK,aN,he,vS]
end
section
namespace TGFbG
theorem mr [Gl] {A:AW} {L:List It} {T:Prop} (hS:ah A L) (hw:A.Wf) (h':(aR A L/\bj A L/\bN L)=T:=by first|(dsimp only [aa,ag,aR,bj,bN,eE];done)|exact rfl):T:=h'▸hS.eD hw
end TGFbG
open TGFbG
variable [Gl]
theorem Gw (v:Value) (p:List aZ) (k t:Nat) (A:AW) (h:jS A v p) (hl:p.length<2^30) (hk:k<=p.length) :
 ax Tryz.prog 72 [v,.int .i64 k,.int .i64 t] A (λu A'=>u=.bool (gw p k t)/\A=A'):=by
 refine aF Tryz.func72 λhw=>?_;obtain⟨o,c,rfl,_⟩:=h.bE;by_cases h1:p.length<t
 . have he:gw p k t=false:=(by unfold gw;rw [if_pos h1]);rw [he];refine W cd (J1 h1) ?_<;>intros
   all_goals simp [aL,aQ,bm,aK,aN]
 have ht:t<=p.length:=by omega
 have c1:=Fg _ p k A h hl hk;have c2:=Fg _ p t A h hl ht;cases hs:Ar p k with
 | some bc=>
   obtain⟨b,d⟩:=bc;have hb:¬((b:Int)<0):=(by omega);have k7:(0:Int)<=b:=(by omega);have he:gw p k t=decide (t<=d):=(by unfold gw;rw [if_neg h1,hs]);rw [hs] at c1;simp only [vS] at c1;rw [he];refine W (J1 @c1) (J3 h1 hb k7) ?_<;>intros
   all_goals simp [aL,aQ,bm,aK,aN]
 | none=>
   rw [hs] at c1;simp only [vS] at c1;cases ym:Ar p t with
   | some bc=>
     obtain⟨b,d⟩:=bc;have hb:¬((b:Int)<0):=(by omega);have k7:(0:Int)<=b:=(by omega);have he:gw p k t=decide (b=t):=(by unfold gw;rw [if_neg h1,hs,ym]);rw [ym] at c2;simp only [vS] at c2;rw [he];refine W (J2 @c1 @c2) (J3 h1 hb k7) ?_<;>intros
     all_goals(simp [aL,aQ,bm,aK,aN]<;>omega)
   | none=>
     have he:gw p k t=true:=(by unfold gw;rw [if_neg h1,hs,ym]);rw [ym] at c2;simp only [vS] at c2;rw [he];refine W (J2 @c1 @c2) (J1 h1) ?_<;>intros
     all_goals simp [aL,aQ,bm,aK,aN]
end
section
namespace TGFbH
theorem mr [Gl] {A:AW} {L:List It} {T:Prop} (hS:ah A L) (hw:A.Wf) (h':(aR A L/\bj A L/\bN L)=T:=by first|(dsimp only [aa,ag,aR,bj,bN,eE];done)|exact rfl):T:=h'▸hS.eD hw
end TGFbH
open TGFbH
variable [Gl]
theorem AW.le.km (A:AW) (o:dH) (o':Option dH):A.le ((A.alloc o).set A.next o'):=by
 refine⟨by simp,λi hi=>?_⟩;have h1:¬i=A.next:=by omega
 have h2:¬A.next=i:=by omega
 simp [AW.dF,AW.eg,h1,h2]
def oB (x:Nat×Int):Value:=.tuple #[.int .i64 x.1,.int .i64 x.2]
theorem La {x:aZ} (h:b8 x=0) (h7:x.op=7):bp x=2:=by
 unfold bp;rw [if_pos h,if_neg (by omega),if_pos (by omega)]
theorem K9 {x:aZ} (h:b8 x=0) (h7:x.op=8):bp x=1:=by
 unfold bp;rw [if_pos h,if_pos (by omega)]
set_option maxHeartbeats 8000000 in
theorem Er (hn:Gl.N=4) (v:Value) (p:List aZ) (A:AW) (h:jS A v p) :
 ax Tryz.prog 53 [v] A (λu A'=>u=oB (lI p)/\A=A'):=by
 refine ax.qt (V:=oB (lI p)) (cL.tuple (by simp)) (λhw=>?_) (by kernel_rfl);refine aF Tryz.func53 λ_=>?_;obtain⟨o,c,rfl,_⟩:=h.bE;by_cases hL:64<p.length
 . have he:lI p=(0,3):=(by unfold lI;rw [if_pos hL]);rw [he];refine W cd (J1 hL) ?_<;>intros
   all_goals first|exact AW.le.refl A|(simp [aL,aQ,bm,aK,aN,oB]<;>exact AW.le.refl A)
 have hl:p.length<2^30:=by omega
 have he:lI p=iC (λk _ n=>gw p k (k+1+n.toNat)) (p.drop 0) 0 none:=by unfold lI;rw [if_neg hL];rfl
 generalize htgt:(λ(k:Nat) (_:Option Nat) (n:Int)=>gw p k (k+1+n.toNat))=Fb at he;have htg:∀k b n,Fb k b n=gw p k (k+1+n.toNat):=by subst htgt;exact λ_ _ _=>rfl
 generalize lI p=RR at he ⊢;revert hw;(repeat first|clear hw|revert hc|revert R|revert K);refine W cd (J1 hL) ?_<;>(unhygienic intros)
 refine cW (λk fr A'=>A.le A'/\∃(i:Nat) (b:Option Nat),k=p.length-i/\i<=p.length/\(∀d,b=some d->d<i)/\fr 0=.slice o p.length c/\fr 4=.int .i64 (fb b)/\fr 5=.int .i64 i/\
  RR=iC Fb (p.drop i) i b) p.length ?_ ?_
 exact⟨AW.le.refl A,0,none,rfl,Nat.zero_le _,by simp,rfl,rfl,rfl,he⟩;rintro k fr A' ⟨gC,i,b,rfl,hi,vK,h0,h4,h5,he⟩;by_cases bL:i<p.length
 . obtain⟨q,bP,uq,bI,rm,hcell⟩:=(h.le gC hw).at bL;subst uq;have fU:=uR (i:=i);have eR:p.drop i=p[i]::p.drop (i+1):=List.drop_eq_getElem_cons bL;rw [eR] at he;generalize p[i]=x at he hcell;clear eR;have cI:=λB=>ue hn x B;have cP:=λB=>Ep hn x B;have cS:=λB=>Eo hn x B;have cR:=fun(t:Nat) o o'=>Gw _ p i t _ (h.le (gC.trans (AW.le.km A' o o')) hw) hl (by omega);have x7:=La (x:=x);have x8:=K9 (x:=x);have dy:=um hcell;unfold iC at he;generalize hE:sD Fb i b x=E at he;generalize hN:CA i b x=N at he;unfold sD at hE;unfold CA at hN;obtain⟨op,a,b',c',bQ⟩:=x;simp only at hE hN x7 x8 dy;generalize bp ⟨op,a,b',c',bQ⟩=pl at hE cP x7 x8;have SP:=@sl ⟨op,a,b',c',bQ⟩;generalize dW ⟨op,a,b',c',bQ⟩=sk at hE cS SP;have Lr:=@CQ ⟨op,a,b',c',bQ⟩;simp only at SP Lr;generalize b8 ⟨op,a,b',c',bQ⟩=e at hE cI x7 x8 SP Lr;simp only [au] at hcell cI cP cS;have he4:p.length-i=(p.length-(i+1))+1:=(by omega);by_cases e0:e=0
   rotate_left
   . rw [if_neg e0] at hE;subst hE;rw [if_neg e0] at he;refine aO ?_;refine W (J1 @cI) (mi h0 h4 h5 bI dy hcell rm bL fU e0 bz @fb.eq_1 @fb.eq_2) ?_<;>intros
     all_goals first|exact gC.trans (AW.le.km A' _ _)|(simp [cg,aL,aQ,bm,aK,aN,oB,he]<;>exact gC.trans (AW.le.km A' _ _))
   subst e0;rw [if_pos rfl] at hE;cases b with
   | none=>
     simp only [fb] at h4;by_cases ob:op=8
     . subst ob;rw [if_pos (by simp)] at hE;subst hE;rw [if_neg (by decide)] at he;refine aO ?_;refine W (J3 @cI @cP @cS) (tA h0 h4 h5 bI dy hcell rm bL fU bz @fb.eq_1 @fb.eq_2) ?_<;>intros
       all_goals first|exact gC.trans (AW.le.km A' _ _)|(simp [cg,aL,aQ,bm,aK,aN,oB,he]<;>exact gC.trans (AW.le.km A' _ _))
     rw [if_neg (by simp [ob])] at hE;by_cases pb:pl=1
     . subst pb;rw [if_pos (by simp)] at hE;subst hE;rw [if_neg (by decide)] at he;by_cases oo:op=7
       . subst oo;refine aO ?_;revert hw;(repeat first|clear hw|revert hc|revert R|revert K);exact W (J3 @cI @cP @cS) (mi h0 h4 h5 bI dy hcell rm bL fU ob bz @fb.eq_1 @fb.eq_2) trivial
         all_goals first|exact gC.trans (AW.le.km A' _ _)|(simp [cg,aL,aQ,bm,aK,aN,oB,he]<;>exact gC.trans (AW.le.km A' _ _))
       skip
       refine aO ?_;refine W (J3 @cI @cP @cS) (vO h0 h4 h5 bI dy hcell rm bL fU ob oo bz @fb.eq_1 @fb.eq_2) ?_<;>intros
       all_goals first|exact gC.trans (AW.le.km A' _ _)|(simp [cg,aL,aQ,bm,aK,aN,oB,he]<;>exact gC.trans (AW.le.km A' _ _))
     rw [if_neg (by simp [pb])] at hE;cases sk with
     | some n=>
       obtain⟨rfl,-,mt⟩:=SP rfl;obtain⟨DX,C0⟩:=Lr rfl mt;obtain⟨m,hm⟩:∃m:Nat,n=m:=⟨n.toNat,by omega⟩;subst hm;have CT:IntKind.i64.wrap (((i+1:Nat):Int)+m)=((i+1+m:Nat):Int):=ai (by omega) (by omega);have vD:IntKind.i64.wrap ((i:Int)+1+m)=((i+1+m:Nat):Int):=ai (by omega) (by omega);have Rr:=cR (i+1+m);simp only [htg,Int.toNat_natCast] at hE;have o7:¬op=7:=(by omega);have o8:¬op=8:=(by omega);generalize gw p i (i+1+m)=r at hE Rr;by_cases po:pl=2
       . subst po;cases r with
         | false=>
           simp only [Bool.false_eq_true,if_false] at hE;subst hE;rw [if_neg (by decide)] at he;refine aO ?_;refine W (J4 @cI @cP @cS @Rr) (JN h0 h4 h5 bI dy hcell rm bL fU o7 o8 CT vD bz @fb.eq_1 @fb.eq_2) ?_<;>intros
           all_goals first|exact gC.trans (AW.le.km A' _ _)|(simp [cg,aL,aQ,bm,aK,aN,oB,he]<;>exact gC.trans (AW.le.km A' _ _))
         | true=>
           simp only [if_true] at hE;rw [if_neg o7,if_neg o8] at hN;subst hE;subst hN;rw [if_pos rfl] at he;refine aO ?_;refine W (J4 @cI @cP @cS @Rr) (JN h0 h4 h5 bI dy hcell rm bL fU o7 o8 CT vD bz @fb.eq_1 @fb.eq_2) ?_<;>intros;refine⟨p.length-(i+1),by omega,gC.trans (AW.le.km A' _ _),i+1,none,rfl,by omega,?_,?_,?_,?_,he⟩<;>simp [h0,h4,h5,fb]<;>first|omega|(intro d hd;have:=vK d hd;omega)|(have:=vK;simp at this;omega)
       skip
       cases r with
       | false=>
         simp only [Bool.false_eq_true,if_false] at hE;subst hE;rw [if_neg (by decide)] at he;refine aO ?_;refine W (J4 @cI @cP @cS @Rr) (RO h0 h4 h5 bI dy hcell rm bL fU o7 o8 CT vD pb po bz @fb.eq_1 @fb.eq_2) ?_<;>intros
         all_goals first|exact gC.trans (AW.le.km A' _ _)|(simp [cg,aL,aQ,bm,aK,aN,oB,he]<;>exact gC.trans (AW.le.km A' _ _))
       | true=>
         simp only [if_true] at hE;rw [if_neg o7,if_neg o8] at hN;subst hE;subst hN;rw [if_pos rfl] at he;refine aO ?_;refine W (J4 @cI @cP @cS @Rr) (RO h0 h4 h5 bI dy hcell rm bL fU o7 o8 CT vD pb po bz @fb.eq_1 @fb.eq_2) ?_<;>intros;refine⟨p.length-(i+1),by omega,gC.trans (AW.le.km A' _ _),i+1,none,rfl,by omega,?_,?_,?_,?_,he⟩<;>simp [h0,h4,h5,fb]<;>first|omega|(intro d hd;have:=vK d hd;omega)|(have:=vK;simp at this;omega)
     | none=>
       simp only at hE;subst hE;rw [if_pos rfl] at he;by_cases oo:op=7;have po:=x7 rfl oo;subst po;subst oo;rw [if_pos rfl] at hN;subst hN;refine aO ?_;refine W (J3 @cI @cP @cS) (mi h0 h4 h5 bI dy hcell rm bL fU ob bz @fb.eq_1 @fb.eq_2) ?_<;>intros;refine⟨p.length-(i+1),by omega,gC.trans (AW.le.km A' _ _),i+1,some i,rfl,by omega,?_,?_,?_,?_,he⟩<;>simp [h0,h4,h5,fb]<;>first|omega|(intro d hd;have:=vK d hd;omega)|(have:=vK;simp at this;omega)
       rw [if_neg oo,if_neg ob] at hN;subst hN;by_cases po:pl=2;subst po;refine aO ?_;refine W (J3 @cI @cP @cS) (vO h0 h4 h5 bI dy hcell rm bL fU ob oo bz @fb.eq_1 @fb.eq_2) ?_<;>intros;refine⟨p.length-(i+1),by omega,gC.trans (AW.le.km A' _ _),i+1,none,rfl,by omega,?_,?_,?_,?_,he⟩<;>simp [h0,h4,h5,fb]<;>first|omega|(intro d hd;have:=vK d hd;omega)|(have:=vK;simp at this;omega)
       skip
       refine aO ?_;refine W (J3 @cI @cP @cS) (JN h0 h4 h5 bI dy hcell rm bL fU ob oo pb po bz @fb.eq_1 @fb.eq_2) ?_<;>intros;refine⟨p.length-(i+1),by omega,gC.trans (AW.le.km A' _ _),i+1,none,rfl,by omega,?_,?_,?_,?_,he⟩<;>simp [h0,h4,h5,fb]<;>first|omega|(intro d hd;have:=vK d hd;omega)|(have:=vK;simp at this;omega)
   | some d=>
     simp only [fb] at h4;have tq:¬((d:Int)<0):=(by omega);have xh:(0:Int)<=d:=(by omega);have hdi:=vK d rfl;by_cases ob:op=7
     . subst ob;rw [if_pos (by simp)] at hE;subst hE;rw [if_neg (by decide)] at he;refine aO ?_;refine W (J3 @cI @cP @cS) (vO h0 h4 h5 bI dy hcell rm bL fU tq xh bz @fb.eq_1 @fb.eq_2) ?_<;>intros
       all_goals first|exact gC.trans (AW.le.km A' _ _)|(simp [cg,aL,aQ,bm,aK,aN,oB,he]<;>exact gC.trans (AW.le.km A' _ _))
     rw [if_neg (by simp [ob])] at hE;by_cases pb:pl=2
     . subst pb;rw [if_pos (by simp)] at hE;subst hE;rw [if_neg (by decide)] at he;by_cases oo:op=8
       . subst oo;refine aO ?_;revert hw;(repeat first|clear hw|revert hc|revert R|revert K);exact W (J3 @cI @cP @cS) (O4 h0 h4 h5 bI dy hcell rm bL fU ob tq xh bz @fb.eq_1 @fb.eq_2) trivial
         all_goals first|exact gC.trans (AW.le.km A' _ _)|(simp [cg,aL,aQ,bm,aK,aN,oB,he]<;>exact gC.trans (AW.le.km A' _ _))
       skip
       refine aO ?_;refine W (J3 @cI @cP @cS) (JN h0 h4 h5 bI dy hcell rm bL fU ob oo tq xh bz @fb.eq_1 @fb.eq_2) ?_<;>intros
       all_goals first|exact gC.trans (AW.le.km A' _ _)|(simp [cg,aL,aQ,bm,aK,aN,oB,he]<;>exact gC.trans (AW.le.km A' _ _))
     rw [if_neg (by simp [pb])] at hE;cases sk with
     | some n=>
       obtain⟨rfl,-,mt⟩:=SP rfl;obtain⟨DX,C0⟩:=Lr rfl mt;obtain⟨m,hm⟩:∃m:Nat,n=m:=⟨n.toNat,by omega⟩;subst hm;have CT:IntKind.i64.wrap (((i+1:Nat):Int)+m)=((i+1+m:Nat):Int):=ai (by omega) (by omega);have vD:IntKind.i64.wrap ((i:Int)+1+m)=((i+1+m:Nat):Int):=ai (by omega) (by omega);have Rr:=cR (i+1+m);simp only [htg,Int.toNat_natCast] at hE;have o7:¬op=7:=(by omega);have o8:¬op=8:=(by omega);generalize gw p i (i+1+m)=r at hE Rr;by_cases po:pl=1
       . subst po;cases r with
         | false=>
           simp only [Bool.false_eq_true,if_false] at hE;subst hE;rw [if_neg (by decide)] at he;refine aO ?_;refine W (J4 @cI @cP @cS @Rr) (RO h0 h4 h5 bI dy hcell rm bL fU o7 o8 CT vD tq xh bz @fb.eq_1 @fb.eq_2) ?_<;>intros
           all_goals first|exact gC.trans (AW.le.km A' _ _)|(simp [cg,aL,aQ,bm,aK,aN,oB,he]<;>exact gC.trans (AW.le.km A' _ _))
         | true=>
           simp only [if_true] at hE;rw [if_neg o7,if_neg o8] at hN;subst hE;subst hN;rw [if_pos rfl] at he;refine aO ?_;refine W (J4 @cI @cP @cS @Rr) (RO h0 h4 h5 bI dy hcell rm bL fU o7 o8 CT vD tq xh bz @fb.eq_1 @fb.eq_2) ?_<;>intros;refine⟨p.length-(i+1),by omega,gC.trans (AW.le.km A' _ _),i+1,some d,rfl,by omega,?_,?_,?_,?_,he⟩<;>simp [h0,h4,h5,fb]<;>first|omega|(intro d hd;have:=vK d hd;omega)|(have:=vK;simp at this;omega)
       skip
       cases r with
       | false=>
         simp only [Bool.false_eq_true,if_false] at hE;subst hE;rw [if_neg (by decide)] at he;refine aO ?_;refine W (J4 @cI @cP @cS @Rr) (J19 h0 h4 h5 bI dy hcell rm bL fU o7 o8 CT vD tq xh pb po bz (J2 @fb.eq_1 @fb.eq_2)) ?_<;>intros
         all_goals first|exact gC.trans (AW.le.km A' _ _)|(simp [cg,aL,aQ,bm,aK,aN,oB,he]<;>exact gC.trans (AW.le.km A' _ _))
       | true=>
         simp only [if_true] at hE;rw [if_neg o7,if_neg o8] at hN;subst hE;subst hN;rw [if_pos rfl] at he;refine aO ?_;refine W (J4 @cI @cP @cS @Rr) (J19 h0 h4 h5 bI dy hcell rm bL fU o7 o8 CT vD tq xh pb po bz (J2 @fb.eq_1 @fb.eq_2)) ?_<;>intros;refine⟨p.length-(i+1),by omega,gC.trans (AW.le.km A' _ _),i+1,some d,rfl,by omega,?_,?_,?_,?_,he⟩<;>simp [h0,h4,h5,fb]<;>first|omega|(intro d hd;have:=vK d hd;omega)|(have:=vK;simp at this;omega)
     | none=>
       simp only at hE;subst hE;rw [if_pos rfl] at he;by_cases oo:op=8;have po:=x8 rfl oo;subst po;subst oo;rw [if_neg (by decide),if_pos rfl] at hN;subst hN;refine aO ?_;refine W (J3 @cI @cP @cS) (O4 h0 h4 h5 bI dy hcell rm bL fU ob tq xh bz @fb.eq_1 @fb.eq_2) ?_<;>intros;refine⟨p.length-(i+1),by omega,gC.trans (AW.le.km A' _ _),i+1,none,rfl,by omega,?_,?_,?_,?_,he⟩<;>simp [h0,h4,h5,fb]<;>first|omega|(intro d hd;have:=vK d hd;omega)|(have:=vK;simp at this;omega)
       rw [if_neg ob,if_neg oo] at hN;subst hN;by_cases po:pl=1;subst po;refine aO ?_;refine W (J3 @cI @cP @cS) (JN h0 h4 h5 bI dy hcell rm bL fU ob oo tq xh bz @fb.eq_1 @fb.eq_2) ?_<;>intros;refine⟨p.length-(i+1),by omega,gC.trans (AW.le.km A' _ _),i+1,some d,rfl,by omega,?_,?_,?_,?_,he⟩<;>simp [h0,h4,h5,fb]<;>first|omega|(intro d hd;have:=vK d hd;omega)|(have:=vK;simp at this;omega)
       skip
       refine aO ?_;refine W (J3 @cI @cP @cS) (RO h0 h4 h5 bI dy hcell rm bL fU ob oo pb po tq xh bz @fb.eq_1 @fb.eq_2) ?_<;>intros;refine⟨p.length-(i+1),by omega,gC.trans (AW.le.km A' _ _),i+1,some d,rfl,by omega,?_,?_,?_,?_,he⟩<;>simp [h0,h4,h5,fb]<;>first|omega|(intro d hd;have:=vK d hd;omega)|(have:=vK;simp at this;omega)
 have tJ:i=p.length:=by omega
 subst tJ;rw [List.drop_length] at he;unfold iC at he;cases b with
 | none=>
   simp only [fb] at h4;refine aO ?_;refine W cd (J4 h0 h4 h5 bL) ?_<;>intros
   all_goals first|exact gC|(simp [cg,aL,aQ,bm,aK,aN,oB,he]<;>exact gC)
 | some d=>
   simp only [fb] at h4;have tq:¬((d:Int)<0):=(by omega);have xh:(0:Int)<=d:=(by omega);refine aO ?_;refine W cd (J6 h0 h4 h5 bL tq xh) ?_<;>intros
   all_goals first|exact gC|(simp [cg,aL,aQ,bm,aK,aN,oB,he]<;>exact gC)
end
end Go.Stx
