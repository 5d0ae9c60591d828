/-
 The program's thread: local instructions; a whole thread in memory.
-/
import Derived.Test.YtipomeafemoelaaGreatDoorG11
import Derived.Test.YtipomeafemoelaaGreatDoorF4
set_option linter.unusedVariables false
set_option linter.unusedSimpArgs false
set_option linter.unusedSectionVars false
set_option maxRecDepth 20000
set_option maxHeartbeats 4000000
open Bool renaming and_eq_true->qq,false_eq_true->qt
open Go.IntKind renaming i64->qg,u64->qd
open Go.Lib renaming indexByte->kae
open Go.Proofs.Tryz renaming func100->ZZ,mx->qj,prog->qa
open Go.Stx.AW.le renaming alloc->qb,refl->qi
open Int renaming add_zero->Z6,toNat_natCast->Zp
open List renaming all_eq_true->qC,drop_eq_getElem_cons->q9,mem_range->qy,range->qA
open Nat renaming zero_le->qG
namespace Go.Stx
open Go Go.Proofs
attribute [local irreducible] TW bG c8 aY aD aO cK da
section
abbrev nc:List (Nat×Nat):=[(0,0),(1,0),(2,0),(3,0),(4,0),(5,0),(6,0),(7,0),(8,3)]
abbrev na:List (Nat×Nat):=[(0,0),(1,0),(2,0),(3,0),(4,0),(5,0),(6,0),(7,0),(8,0),(9,0),(10,0),(11,3)]
abbrev m9:List (Nat×Nat):=[(0,0),(1,0),(2,0),(3,0),(4,0),(5,0),(6,0),(7,0),(8,0),(9,0),(10,0),(11,0),(12,0),(13,0),(14,0),(15,0),(16,0),(21,0),(17,2),(18,0),(19,0),(20,0),(22,0),(23,3)]
abbrev m8:List (Nat×Nat):=[(0,0),(1,0),(2,0),(3,0),(4,0),(5,0),(6,0)]
open T7
variable [Gl]
theorem No {i:bm} (h:cg i=0) (ho:i.op=4\/i.op=5\/i.op=6):0<=i.bR/\i.bR<=64:=by
 unfold cg at h;split at h;cases h;split at h;rename_i h1;simp only [qq,fj] at h1;obtain⟨_,h5⟩:=h1;rw [aw (by omega),aw (by omega),aA ho] at h5
 simpa using h5
 cases h
class AF where
 ok:Int->Prop
section
variable [AF]
def FE (fn:Int):Prop:=AF.ok fn
def xf (d8:Int->Int->Int->Int):Prop:=∀fn x y:Int,FE fn->∀A,fh 153 [.int .i64 fn,.int .u64 x,.int .u64 y] A (.tuple #[.int .u64 (d8 fn x y),.int .i64 0])
def Dm (l:List bm):Prop:=∀i∈l,i.op=3->FE i.bR
theorem apE {d8:Int->Int->Int->Int} (hA:xf d8) (fn x y:Int) (h:FE fn) {A:AW} {k:Value->AW->Prop} (hk:k (.tuple #[.int .u64 (d8 fn x y),.int .i64 0]) A):aD qa 153 [.int .i64 fn,.int .u64 x,.int .u64 y] A k:=by
 refine bO (hA fn x y h A) ?_;rintro _ _ ⟨rfl,rfl⟩ _ _;exact hk
theorem EC {d8:Int->Int->Int->Int} (hA:xf d8) (b:Nat) (t:aT) (va vs vf vd vl vo:Value) (o:Option Addr) (cc:Nat) (i:bm) (mg:(0<=i.op/\i.op<=6)\/i.op=17) (hi:cg i=0) (pY:i.op=3->FE i.bR) (kO:0<=t.pc/\t.pc<2^40) :
 bn qa 100 [pv b,j4 i] [.at b (tD t.d ⟨va,vs,vf,vd,.slice o t.aC.length cc,vl,vo⟩)] (λ_=>True) (λ_=>[.at b (tD (t.iP d8 i).d ⟨va,vs,vf,vd,.slice o t.aC.length cc,vl,vo⟩)]):=by
 obtain⟨r1,r2,r3,_⟩:=mY hi;have jx:qg.wrap (t.d.pc+1)=t.d.pc+1:=ar (by show -9223372036854775808<=t.pc+1;omega) (by show t.pc+1<=9223372036854775807;omega);have ho:i.op=0\/i.op=1\/i.op=2\/i.op=3\/i.op=4\/i.op=5\/i.op=6\/i.op=17:=by omega
 have UB:=fun(d:vO) pc=>yJ b d va vs vf vd vl vo o t.aC.length cc pc;unfold j4;rcases ho with h|h|h|h|h|h|h|h
 . have e:t.iP d8 i=t.to (t.pc+1):=by
    unfold aT.iP;rw [aw (by omega),aw (by omega),aw (by omega),aw (by omega),aw (by omega),Z6]
   rw [e];intro A F hw hS;refine aN ZZ λ_=>?_;dsimp only [aa,af] at hS;have hq:=fE hS hw;revert hq hS hw;refine W (J5 (od nc) (od na) (od m9) (od m8) (UB t.d (t.d.pc+1))) (J3 h jx bE) ?_<;>(unhygienic intros);refine⟨_,by first|rfl|(simp;rfl),by first|trivial|rfl|(simp;done),?_⟩;apply ah.bS
   (·exact sA)
   (·first|exact pA|exact kA)
 . have ha:=r1 (by rw [h];rfl);have Dy:=λx=>yK (d:=t.d) (w:=⟨va,vs,vf,vd,.slice o t.aC.length cc,vl,vo⟩) (x:=x) ha;have e:t.iP d8 i=(t.gy i.a (qd.wrap i.bR)).to (t.pc+1):=by
    unfold aT.iP;rw [aA h,aw (by omega),Z6]
   rw [e];intro A F hw hS;refine aN ZZ λ_=>?_;dsimp only [aa,af] at hS;have hq:=fE hS hw;revert hq hS hw;(repeat first|clear hq|clear hS|clear hw|revert hc|revert R|revert K);refine W (J5 (od nc) (od na) (od m9) (od m8) (UB { t.d with dE:=t.d.dE.set i.a (qd.wrap i.bR) } (t.d.pc+1))) (J6 h jx Dy ha.1 ha.2 bE) ?_<;>(unhygienic intros);refine⟨_,by first|rfl|(simp;rfl),by first|trivial|rfl|(simp;done),?_⟩;apply ah.bS
   (·exact sA)
   (·first|exact pA|exact kA)
 . have ha:=r1 (by rw [h];rfl);have hb:=r2 (by rw [h];rfl);have Dy:=λx=>yK (d:=t.d) (w:=⟨va,vs,vf,vd,.slice o t.aC.length cc,vl,vo⟩) (x:=x) ha;have xR:=ry (d:=t.d) (w:=⟨va,vs,vf,vd,.slice o t.aC.length cc,vl,vo⟩) hb;have e:t.iP d8 i=(t.gy i.a (t.dE.bp i.b)).to (t.pc+1):=by
    unfold aT.iP;rw [aw (by omega),aA h,aw (by omega),Z6]
   rw [e];intro A F hw hS;refine aN ZZ λ_=>?_;dsimp only [aa,af] at hS;have hq:=fE hS hw;revert hq hS hw;(repeat first|clear hq|clear hS|clear hw|revert hc|revert R|revert K);refine W (J5 (od nc) (od na) (od m9) (od m8) (UB { t.d with dE:=t.d.dE.set i.a (t.d.dE.bp i.b) } (t.d.pc+1))) (J9 h jx Dy xR ha.1 ha.2 hb.1 hb.2 bE) ?_<;>(unhygienic intros);refine⟨_,by first|rfl|(simp;rfl),by first|trivial|rfl|(simp;done),?_⟩;apply ah.bS
   (·exact sA)
   (·first|exact pA|exact kA)
 . have ha:=r1 (by rw [h];rfl);have hb:=r2 (by rw [h];rfl);have Xn:=r3 (by rw [h];rfl);have Dy:=λx=>yK (d:=t.d) (w:=⟨va,vs,vf,vd,.slice o t.aC.length cc,vl,vo⟩) (x:=x) ha;have xR:=ry (d:=t.d) (w:=⟨va,vs,vf,vd,.slice o t.aC.length cc,vl,vo⟩) hb;have hgr2:=ry (d:=t.d) (w:=⟨va,vs,vf,vd,.slice o t.aC.length cc,vl,vo⟩) Xn;have e:t.iP d8 i=(t.gy i.a (d8 i.bR (t.dE.bp i.b) (t.dE.bp i.c))).to (t.pc+1):=by
    unfold aT.iP;rw [aw (by omega),aw (by omega),aA h,aw (by omega),Z6]
   have hap:=pY h;rw [e];intro A F hw hS;refine aN ZZ λ_=>?_;dsimp only [aa,af] at hS;have hq:=fE hS hw
   repeat' (first|(refine kY λR hR=>?_;simp [ar,ax,hq,h,jx,Dy,xR,hgr2,ha.1,ha.2,hb.1,hb.2,Xn.1,Xn.2,AW.ab,aG];try simp (disch:=omega) only [aA,aw,ar,ax])|(refine hR _ _ ?_;clear hR R)|(refine hK _ _ ?_;clear hK K)|refine nx ?_|refine wn λK hK=>?_|simp only [wS,nc,na,m9,m8]|refine wl qj nc (by decide +kernel) λK hK=>?_|refine wl qj na (by decide +kernel) λK hK=>?_|refine wl qj m9 (by decide +kernel) λK hK=>?_|refine wl qj m8 (by decide +kernel) λK hK=>?_|(refine apE hA _ _ _ hap ?_)|(apply bn.ft (UB { t.d with dE:=t.d.dE.set i.a (d8 i.bR (t.d.dE.bp i.b) (t.d.dE.bp i.c)) } (t.d.pc+1));(·exact wA);(·exact sA);(·first|exact pA|exact kA);rintro _ _ _ hS hw _;have hS:=lA hS;have hq:=fE hS hw)|(show c8 _ _ _ _ _ _;refine nx ?_)|(refine wc rfl (λhc=>?_) (λhc=>?_)<;>(try simp at hc)<;>(try omega))|(refine ib (λhc=>?_) (λhc=>?_)<;>(try omega)<;>(try simp (disch:=omega) only [aA,aw])))
   refine⟨_,by first|rfl|(simp;rfl),by first|trivial|rfl|(simp;done),?_⟩;apply ah.bS
   (·exact sA)
   (·first|exact pA|exact kA)
 . have him:=No hi (.inl h);have kc:qg.wrap (t.d.pc+1+i.bR)=t.d.pc+1+i.bR:=ar (by show -9223372036854775808<=t.pc+1+i.bR;omega) (by show t.pc+1+i.bR<=9223372036854775807;omega);have e:t.iP d8 i=t.to (t.pc+1+i.bR):=by
    unfold aT.iP;rw [aw (by omega),aw (by omega),aw (by omega),aw (by omega),aA (.inl h)]
   rw [e];intro A F hw hS;refine aN ZZ λ_=>?_;dsimp only [aa,af] at hS;have hq:=fE hS hw;revert hq hS hw;(repeat first|clear hq|clear hS|clear hw|revert hc|revert R|revert K);refine W (J5 (od nc) (od na) (od m9) (od m8) (UB t.d (t.d.pc+1+i.bR))) (J4 h jx kc bE) ?_<;>(unhygienic intros);refine⟨_,by first|rfl|(simp;rfl),by first|trivial|rfl|(simp;done),?_⟩;apply ah.bS
   (·exact sA)
   (·first|exact pA|exact kA)
 . have ha:=r1 (by rw [h];rfl);have xR:=ry (d:=t.d) (w:=⟨va,vs,vf,vd,.slice o t.aC.length cc,vl,vo⟩) ha;have him:=No hi (.inr (.inl h));have kc:qg.wrap (t.d.pc+1+i.bR)=t.d.pc+1+i.bR:=ar (by show -9223372036854775808<=t.pc+1+i.bR;omega) (by show t.pc+1+i.bR<=9223372036854775807;omega);by_cases hz:t.d.dE.bp i.a=0
   . have e:t.iP d8 i=t.to (t.pc+1+i.bR):=by
      unfold aT.iP;rw [aw (by omega),aw (by omega),aw (by omega),aw (by omega),aA (.inr (.inl ⟨h,hz⟩))]
     rw [e];intro A F hw hS;refine aN ZZ λ_=>?_;dsimp only [aa,af] at hS;have hq:=fE hS hw;revert hq hS hw;(repeat first|clear hq|clear hS|clear hw|revert hc|revert R|revert K);refine W (J5 (od nc) (od na) (od m9) (od m8) (UB t.d (t.d.pc+1+i.bR))) (J8 h jx kc xR hz ha.1 ha.2 bE) ?_<;>(unhygienic intros);refine⟨_,by first|rfl|(simp;rfl),by first|trivial|rfl|(simp;done),?_⟩;apply ah.bS
     (·exact sA)
     (·first|exact pA|exact kA)
   have pm:¬t.dE.bp i.a=0:=hz;have e:t.iP d8 i=t.to (t.pc+1):=by
    unfold aT.iP;rw [aw (by omega),aw (by omega),aw (by omega),aw (by omega),aw (λhh=>by rcases hh with hh|⟨_,hh⟩|⟨hh,_⟩<;>first|exact pm hh|omega),Z6]
   rw [e];intro A F hw hS;refine aN ZZ λ_=>?_;dsimp only [aa,af] at hS;have hq:=fE hS hw;revert hq hS hw;(repeat first|clear hq|clear hS|clear hw|revert hc|revert R|revert K);refine W (J5 (od nc) (od na) (od m9) (od m8) (UB t.d (t.d.pc+1))) (J7 h jx xR hz ha.1 ha.2 bE) ?_<;>(unhygienic intros);refine⟨_,by first|rfl|(simp;rfl),by first|trivial|rfl|(simp;done),?_⟩;apply ah.bS
   (·exact sA)
   (·first|exact pA|exact kA)
 . have ha:=r1 (by rw [h];rfl);have xR:=ry (d:=t.d) (w:=⟨va,vs,vf,vd,.slice o t.aC.length cc,vl,vo⟩) ha;have him:=No hi (.inr (.inr h));have kc:qg.wrap (t.d.pc+1+i.bR)=t.d.pc+1+i.bR:=ar (by show -9223372036854775808<=t.pc+1+i.bR;omega) (by show t.pc+1+i.bR<=9223372036854775807;omega);by_cases hz:t.d.dE.bp i.a=0
   . have pm:t.dE.bp i.a=0:=hz;have e:t.iP d8 i=t.to (t.pc+1):=by
      unfold aT.iP;rw [aw (by omega),aw (by omega),aw (by omega),aw (by omega),aw (λhh=>by rcases hh with hh|⟨hh,_⟩|⟨_,hh⟩<;>first|exact hh pm|omega),Z6]
     rw [e];intro A F hw hS;refine aN ZZ λ_=>?_;dsimp only [aa,af] at hS;have hq:=fE hS hw;revert hq hS hw;(repeat first|clear hq|clear hS|clear hw|revert hc|revert R|revert K);refine W (J5 (od nc) (od na) (od m9) (od m8) (UB t.d (t.d.pc+1))) (J7 h jx xR hz ha.1 ha.2 bE) ?_<;>(unhygienic intros);refine⟨_,by first|rfl|(simp;rfl),by first|trivial|rfl|(simp;done),?_⟩;apply ah.bS
     (·exact sA)
     (·first|exact pA|exact kA)
   have pm:t.dE.bp i.a≠0:=hz;have e:t.iP d8 i=t.to (t.pc+1+i.bR):=by
    unfold aT.iP;rw [aw (by omega),aw (by omega),aw (by omega),aw (by omega),aA (.inr (.inr ⟨h,pm⟩))]
   rw [e];intro A F hw hS;refine aN ZZ λ_=>?_;dsimp only [aa,af] at hS;have hq:=fE hS hw;revert hq hS hw;(repeat first|clear hq|clear hS|clear hw|revert hc|revert R|revert K);refine W (J5 (od nc) (od na) (od m9) (od m8) (UB t.d (t.d.pc+1+i.bR))) (J8 h jx kc xR hz ha.1 ha.2 bE) ?_<;>(unhygienic intros);refine⟨_,by first|rfl|(simp;rfl),by first|trivial|rfl|(simp;done),?_⟩;apply ah.bS
   (·exact sA)
   (·first|exact pA|exact kA)
 have ha:=r1 (by rw [h];rfl);have Dy:=λx=>yK (d:=t.d) (w:=⟨va,vs,vf,vd,.slice o t.aC.length cc,vl,vo⟩) (x:=x) ha;have e:t.iP d8 i=(t.gy i.a (qd.wrap t.kR)).to (t.pc+1):=by
  unfold aT.iP;rw [aw (by omega),aw (by omega),aw (by omega),aA h,aw (by omega),Z6]
 rw [e];intro A F hw hS;refine aN ZZ λ_=>?_;dsimp only [aa,af] at hS;have hq:=fE hS hw;revert hq hS hw;(repeat first|clear hq|clear hS|clear hw|revert hc|revert R|revert K);refine W (J5 (od nc) (od na) (od m9) (od m8) (UB { t.d with dE:=t.d.dE.set i.a (qd.wrap t.d.kR) } (t.d.pc+1))) (J6 h jx Dy ha.1 ha.2 bE) ?_<;>(unhygienic intros);refine⟨_,by first|rfl|(simp;rfl),by first|trivial|rfl|(simp;done),?_⟩;apply ah.bS
 (·exact sA)
 (·first|exact pA|exact kA)
end
structure XD where
 cW:Nat
 eD:Nat
 kC:Nat
 fm:Nat
 vs:Value
 vo:Value
def go:Option aJ->Nat->Value|none,_=>.pointer none|some _,n=>pv n
def gk:Option jC->Nat->Value|none,_=>.pointer none|some _,n=>pv n
def lF:Option (List fK)->Nat->Value|none,_=>.pointer none|some _,n=>pv n
def dY:Option aJ->Nat->HP|none,_=>eZ|some s,n=>bf n s
def dX:Option jC->Nat->HP|none,_=>eZ|some f,n=>pt n (uf f)
def gq:Option (List fK)->Nat->HP|none,_=>eZ|some l,n=>Br n l
structure oh where
 bb:Nat
 off:Nat
 eA:Nat
 b8:List Value
abbrev oh.o (k:oh):dQ:=.cells k.b8 true 5
structure CR (k:oh) (l:List bm):Prop where
 len:l.length<=k.eA
 le:k.off+l.length*5<=k.b8.length
 eq:l.flatMap az=(k.b8.drop k.off).take (l.length*5)
theorem CR.is {k:oh} {l:List bm} (h:CR k l) {A:AW} (hg:A.bp k.bb=some k.o):ly A (.slice (some ⟨k.bb,k.off,none⟩) l.length k.eA) l:=
 .inr ⟨⟨k.bb,k.off,none⟩,k.eA,k.b8,true,5,rfl,h.len,hg,rfl,h.le,h.eq⟩
theorem CR.at {k:oh} {l:List bm} (h:CR k l) {i:Nat} (hi:i<l.length):k.off+i*5+5<=k.b8.length/\(k.b8.drop (k.off+i*5)).take 5=az l[i]:=by
 have h1:=h.le;refine⟨by omega,?_⟩;rw [<-EH l i hi,h.eq,<-List.drop_drop,List.drop_take,List.take_take];congr 1;omega
theorem TU {A:AW} {L K:List It} {v:Value} {l:List bm} (h:ah A L) (hp:aE L (.h (HS v l)) K) (hl:0<l.length) :
 ∃k,v=.slice (some ⟨k.bb,k.off,none⟩) l.length k.eA/\CR k l/\ah A (.at k.bb k.o::K):=by
 unfold ah at h;rw [hp.aM] at h;rcases dv.cases h with ⟨_,h0,_⟩|⟨b,off,c,b8,rfl,h1,h2,h3,h4⟩;omega;exact⟨⟨b,off,c,b8⟩,rfl,⟨h1,h2,h3⟩,h4⟩
theorem QV {k:oh} {l:List bm} (hR:CR k l) {A:AW} {L K:List It} (h:ah A L) (hp:aE L (.at k.bb k.o) K):ah A (.h (HS (.slice (some ⟨k.bb,k.off,none⟩) l.length k.eA) l)::K):=by
 unfold ah at h;rw [hp.aM] at h;exact dv.mk hR.len hR.le hR.eq h
def jb (q:oh) (b:Nat) (t:aT) (f:XD):List It:=[.at b (tD t.d ⟨go t.fL f.cW,f.vs,gk t.dM f.eD,lF t.dI f.kC,.slice (some ⟨q.bb,q.off,none⟩) t.aC.length q.eA,pv f.fm,f.vo⟩),.h (dY t.fL f.cW),.h (iU f.vs t.dF),.h (dX t.dM f.eD),.h (gq t.dI f.kC),
 .at q.bb q.o,.h (py f.fm t.cf t.gE),.h (iU f.vo t.gH)]
def gF (q:oh) (b:Nat) (t:aT):HP:=rO λf:XD=>aM (jb q b t f)
theorem gF.open {A:AW} {L K:List It} {q:oh} {b:Nat} {t:aT} (h:ah A L) (hp:aE L (.h (gF q b t)) K):∃f,ah A (jb q b t f++K):=jV h hp
theorem gF.dP {A:AW} {L K:List It} {q:oh} {b:Nat} {t:aT} {cW eD kC fm:Nat} {vs vo:Value} (h:ah A L) (e:aX L (jb q b t ⟨cW,eD,kC,fm,vs,vo⟩) K):ah A (.h (gF q b t)::K):=iM ⟨cW,eD,kC,fm,vs,vo⟩ h e
theorem gF.bS {A:AW} {L K G K2:List It} {q:oh} {b:Nat} {t:aT} {cW eD kC fm:Nat} {vs vo:Value} (h:ah A L) (e:aX L (jb q b t ⟨cW,eD,kC,fm,vs,vo⟩) K) (e2:aX K G K2):ah A (.h (gF q b t)::G):=ah.bS (gF.dP h e) (.s .z e2)
theorem bn.XQ {P:Program} {f:FuncId} {args:List Value} {q:oh} {b:Nat} {t:aT} {rl:List It} {φ:Value->Prop} {post:Value->List It} (hc:bn P f args (.h (gF q b t)::rl) φ post) {cW eD kC fm:Nat} {vs vo:Value} {A:AW} {L K K0:List It} {k:Value->AW->Prop} (hw:A.Wf) (hS:ah A L)
 (e:aX L (jb q b t ⟨cW,eD,kC,fm,vs,vo⟩) K0) (e2:aX K0 rl K) (hk:∀v A',φ v->ah A' (post v++K)->A'.Wf->A.next<=A'.next->k v A'):aD P f args A k:=
 bn.ft hc hw (gF.dP hS e) (.s .z e2) hk
theorem d7.XQ {ι:Type} {P:Program} {f:FuncId} {args:List Value} {q:oh} {b:Nat} {t:aT} {rl:List It} {φ:ι->Value->Prop} {post:ι->List It} (hc:d7 P f args (.h (gF q b t)::rl) φ post) {cW eD kC fm:Nat} {vs vo:Value} {A:AW} {L K K0:List It} {k:Value->AW->Prop} (hw:A.Wf) (hS:ah A L)
 (e:aX L (jb q b t ⟨cW,eD,kC,fm,vs,vo⟩) K0) (e2:aX K0 rl K) (hk:∀x v A',φ x v->ah A' (post x++K)->A'.Wf->A.next<=A'.next->k v A'):aD P f args A k:=
 d7.ft hc hw (gF.dP hS e) (.s .z e2) hk
theorem fT {L G K:List It} (h':aX L G K:=by first|(((try simp only [dB,dL,fa]);dsimp only [jb,aT.sy,aT.d,dY,go,dX,gk,gq,lF,aa,af];(try simp only [dB,dL,fa]);(try dsimp only [dY,go,dX,gk,gq,lF]));(repeat' (first|apply aX.z|apply aX.s|apply aE.z|apply aE.pt|apply aE.s));done)|fail):aX L G K:=h'
end
section
namespace TGFbB
theorem mK [Gl] {A:AW} {L:List It} {T:Prop} (hS:ah A L) (hw:A.Wf) (h':(aV A L/\bq A L/\bQ L)=T:=by first|(dsimp only [aa,af,aV,bq,bQ,eQ];done)|exact rfl):T:=h'▸hS.eJ hw
end TGFbB
open TGFbB
variable [Gl]
def bs (l:List UInt8):ByteArray:=⟨l.toArray⟩
theorem DH (l:List UInt8):(bs l).size=l.length:=by simp [bs,ByteArray.size]
theorem Pq (s:List UInt8) (i:Nat) (h:i<(bs s).size):(bs s)[i]'h=s[i]'(by rw [DH] at h;exact h):=rfl
theorem nq (s:List UInt8) (x:UInt8) (A:AW) (hl:s.length<2^30) :
 aD qa 103 [.string (bs s),.int .u8 x.toNat] A (λu A'=>u=.bool (decide (x∈s))/\A=A'):=by
 refine aN Tryz.func103 λhw=>?_;revert hw;refine W cF cF ?_<;>(unhygienic intros);refine ef (λk fr A'=>A=A'/\∃i:Nat,k=s.length-i/\i<=s.length/\fr 0=.string (bs s)/\fr 1=.int .u8 x.toNat/\fr 5=.int .i64 i/\(x∈s↔x∈s.drop i)) s.length ?_ ?_;exact⟨rfl,0,rfl,qG _,rfl,rfl,rfl,by simp⟩;rintro k fr A' ⟨rfl,i,rfl,hi,h0,h1,h5,he⟩;by_cases cD:i<s.length
 . have gS:=By (i:=i);have hd:s.drop i=s[i]::s.drop (i+1):=q9 cD;by_cases hx:s[i]=x;have hxn:((s[i].toNat:Int)=x.toNat):=(by rw [hx]);have xQ:x∈s:=he.2 (by rw [hd,hx];simp);refine ba ?_;refine W cF (J8 h0 h1 h5 cD gS hxn @DH @Pq) ?_<;>intros;simp [cx,aR,aU,bu,aQ,aS,xQ];have hxn:¬((s[i].toNat:Int)=x.toNat):=λe=>hx (UInt8.toNat_inj.1 (by omega));refine ba ?_
   repeat' (first|(refine kY λR hR=>?_;simp [ar,ax,h0,h1,h5,DH,Pq,cD,gS,hxn];try simp (disch:=omega) only [aA,aw,ar,ax])|(refine hR _ _ ?_;clear hR R)|(refine hK _ _ ?_;clear hK K)|refine nx ?_|refine wn λK hK=>?_|simp only [wS]|(show c8 _ _ _ _ _ _;refine nx ?_)|(refine wc rfl (λhc=>?_) (λhc=>?_)<;>(try simp at hc)<;>(try omega))|(refine ib (λhc=>?_) (λhc=>?_)<;>(try omega)<;>(try simp (disch:=omega) only [aA,aw])))
   refine⟨s.length-(i+1),by omega,rfl,i+1,rfl,by omega,?_,?_,?_,?_⟩;simp [h0];simp [h1];simp;have gT:¬x=s[i]:=λe=>hx e.symm;rw [he,hd,List.mem_cons];exact⟨λh=>h.resolve_left gT,.inr⟩
 have xQ:¬x∈s:=λh=>by
  have:=he.1 h;rw [List.drop_eq_nil_of_le (by omega)] at this;cases this
 refine ba ?_;refine W cF (J5 h0 h1 h5 cD @DH) ?_<;>intros;simp [cx,aR,aU,bu,aQ,aS,xQ]
theorem s9 (r:Int) (b:Bool) (A:AW):aD qa 102 [.int .i64 r,.bool b] A (λu A'=>u=.bool (gJ r b)/\A=A'):=by
 refine aN Tryz.func102 λhw=>?_;cases b with
 | true=>
   by_cases h1:0<=r
   . by_cases h2:r<8
     . refine W cF (J2 h1 h2) ?_<;>intros
       all_goals simp [aR,aU,bu,aQ,aS,gJ,h1,h2]
     refine W cF (J2 h1 h2) ?_<;>intros
     all_goals simp [aR,aU,bu,aQ,aS,gJ,h1,h2]
   refine W cF (J1 h1) ?_<;>intros
   all_goals simp [aR,aU,bu,aQ,aS,gJ,h1]
 | false=>
   by_cases h1:r=0
   . refine W cF (J1 h1) ?_<;>intros
     all_goals simp [aR,aU,bu,aQ,aS,gJ,h1]
   refine W cF (J1 h1) ?_<;>intros
   all_goals simp [aR,aU,bu,aQ,aS,gJ,h1]
end
section
namespace TGFbC
theorem mK [Gl] {A:AW} {L:List It} {T:Prop} (hS:ah A L) (hw:A.Wf) (h':(aV A L/\bq A L/\bQ L)=T:=by first|(dsimp only [aa,af,aV,bq,bQ,eQ];done)|exact rfl):T:=h'▸hS.eJ hw
end TGFbC
open TGFbC
variable [Gl]
def dR:Nat->List UInt8
 | 1=>[114,105]|2=>[114,115]|3=>[114,115,116,102]|4=>[106]|5=>[114,106]|6=>[114,106]|7=>[97]
 | 10=>[114,115,105]|11=>[114,115,105]|12=>[114,115,105]|13=>[114,115,105]|14=>[114,99]|15=>[114]|17=>[114]
 | _=>[]
theorem fF (hn:Gl.N=4) {k:Nat} (hk:k<18) (A:AW):aD qa 101 [.int .i64 k] A (λu A'=>u=.string (bs (dR k))/\A=A'):=by
 refine aD.tG (dh.kH rfl) (λhw=>?_) (by kernel_rfl);refine aN Tryz.func101 λ_=>?_;have:k=0\/k=1\/k=2\/k=3\/k=4\/k=5\/k=6\/k=7\/k=8\/k=9\/k=10\/k=11\/k=12\/k=13\/k=14\/k=15\/k=16\/k=17:=by omega
 rcases this with rfl|rfl|rfl|rfl|rfl|rfl|rfl|rfl|rfl|rfl|rfl|rfl|rfl|rfl|rfl|rfl|rfl|rfl
 all_goals(
  all_goals(revert hw;refine W cF (J1 @AW.ab) ?_<;>unhygienic intros)
  exact⟨_,by first|rfl|(simp;rfl),rfl,qb A _⟩)
end
section
abbrev iz:List (Nat×Nat):=[(0,0),(1,0),(2,0),(3,2),(4,2),(5,0),(6,0),(7,0),(8,0),(9,0),(10,2),(11,2),(12,0),(13,0),(14,0),(15,0),(16,0),(17,0),(18,2),(19,2),(20,0),(21,0)]
namespace TGFbD
theorem mK [Gl] {A:AW} {L:List It} {T:Prop} (hS:ah A L) (hw:A.Wf) (h':(aV A L/\bq A L/\bQ L)=T:=by first|(dsimp only [aa,af,aV,bq,bQ,eQ];done)|exact rfl):T:=h'▸hS.eJ hw
end TGFbD
open TGFbD
variable [Gl]
theorem Vq {k:Nat} (hk:k<18):decide ((114:UInt8)∈dR k)=lW k/\decide ((115:UInt8)∈dR k)=ki k/\decide ((116:UInt8)∈dR k)=lV k:=by
 have h:((qA 18).all λk=>(decide ((114:UInt8)∈dR k) == lW k) && (decide ((115:UInt8)∈dR k) == ki k) && (decide ((116:UInt8)∈dR k) == lV k))=true:=by kernel_rfl
 have:=qC.1 h k (qy.2 hk);simp only [qq,beq_iff_eq] at this;exact⟨this.1.1,this.1.2,this.2⟩
theorem Es {k:Nat} (hk:k<18) (bR:Int):fj k bR =
 if decide ((105:UInt8)∈dR k)=true then true else
 if decide ((102:UInt8)∈dR k)=true then decide (0<=bR) && decide (bR<=21) else
 if decide ((106:UInt8)∈dR k)=true then decide (0<=bR) && decide (bR<=64) else
 if decide ((97:UInt8)∈dR k)=true then decide (1<=bR) && decide (bR<=8) else
 if decide ((99:UInt8)∈dR k)=true then decide (0<=bR) && decide (bR<=3) else decide (0<=bR) && decide (bR<=0):=by
 have h:k=0\/k=1\/k=2\/k=3\/k=4\/k=5\/k=6\/k=7\/k=8\/k=9\/k=10\/k=11\/k=12\/k=13\/k=14\/k=15\/k=16\/k=17:=by omega
 rcases h with rfl|rfl|rfl|rfl|rfl|rfl|rfl|rfl|rfl|rfl|rfl|rfl|rfl|rfl|rfl|rfl|rfl|rfl
 all_goals
  simp [fj,dR]
  try(rw [Bool.eq_iff_iff];simp;omega)
theorem wv (hn:Gl.N=4) (x:bm) (A:AW):aD qa 69 [.agg (az x).toArray] A (λu A'=>u=.int .i64 (cg x)/\A=A'):=by
 refine aD.tG (V:=.int .i64 (cg x)) (by simp) (λhw=>?_) (by kernel_rfl);refine aN Tryz.func69 λ_=>?_;obtain⟨op,a,b,c,bR⟩:=x;by_cases h1:op<0
 . have he:cg ⟨op,a,b,c,bR⟩=10:=(by unfold cg;rw [aA (.inl h1)]);rw [he];refine W (J1 (od iz)) (J3 h1 bE @az.eq_1) ?_<;>intros
   all_goals(simp [aR,aU,bu,aQ,aS]<;>exact qb A _)
 by_cases h2:18<=op
 . have he:cg ⟨op,a,b,c,bR⟩=10:=(by unfold cg;rw [aA (.inr h2)]);rw [he];refine W (J1 (od iz)) (J4 h1 h2 bE @az.eq_1) ?_<;>intros
   all_goals(simp [aR,aU,bu,aQ,aS]<;>exact qb A _)
 obtain⟨k,rfl⟩:∃k:Nat,op=k:=⟨op.toNat,by omega⟩;have hk:k<18:=by omega
 obtain⟨l1,l2,l3⟩:=Vq hk;have Qu:=Es hk bR;have hs:(dR k).length<2^30:=by unfold dR;split<;>simp
 have c1:∀A,aD qa 103 [.string (bs (dR k)),.int .u8 114] A (λu A'=>u=.bool (lW k)/\A=A'):=λA=>by rw [<-l1];exact nq (dR k) 114 A hs
 have c2:∀A,aD qa 103 [.string (bs (dR k)),.int .u8 115] A (λu A'=>u=.bool (ki k)/\A=A'):=λA=>by rw [<-l2];exact nq (dR k) 115 A hs
 have c3:∀A,aD qa 103 [.string (bs (dR k)),.int .u8 116] A (λu A'=>u=.bool (lV k)/\A=A'):=λA=>by rw [<-l3];exact nq (dR k) 116 A hs
 generalize zg:decide ((105:UInt8)∈dR k)=d1 at Qu;generalize NG:decide ((102:UInt8)∈dR k)=d2 at Qu;generalize Xl:decide ((106:UInt8)∈dR k)=d3 at Qu;generalize hd4:decide ((97:UInt8)∈dR k)=d4 at Qu;generalize Rm:decide ((99:UInt8)∈dR k)=d5 at Qu;have e1:∀A,aD qa 103 [.string (bs (dR k)),.int .u8 105] A (λu A'=>u=.bool d1/\A=A'):=λA=>by rw [<-zg];exact nq (dR k) 105 A hs
 have e2:∀A,aD qa 103 [.string (bs (dR k)),.int .u8 102] A (λu A'=>u=.bool d2/\A=A'):=λA=>by rw [<-NG];exact nq (dR k) 102 A hs
 have e3:∀A,aD qa 103 [.string (bs (dR k)),.int .u8 106] A (λu A'=>u=.bool d3/\A=A'):=λA=>by rw [<-Xl];exact nq (dR k) 106 A hs
 have e4:∀A,aD qa 103 [.string (bs (dR k)),.int .u8 97] A (λu A'=>u=.bool d4/\A=A'):=λA=>by rw [<-hd4];exact nq (dR k) 97 A hs
 have e5:∀A,aD qa 103 [.string (bs (dR k)),.int .u8 99] A (λu A'=>u=.bool d5/\A=A'):=λA=>by rw [<-Rm];exact nq (dR k) 99 A hs
 have jz:¬((18:Int)<=k):=by omega
 have he:cg ⟨k,a,b,c,bR⟩=if (gJ a (lW k) && gJ b (ki k) && gJ c (lV k)) && fj k bR then 0 else 11:=by unfold cg;rw [aw (by simp;omega)]
 rw [he,Qu];generalize Md:gJ a (lW k)=ra;generalize GH:gJ b (ki k)=rb;generalize xN:gJ c (lV k)=rc;have g1:∀A,aD qa 102 [.int .i64 a,.bool (lW k)] A (λu A'=>u=.bool ra/\A=A'):=λA=>by rw [<-Md];exact s9 a (lW k) A
 have g2:∀A,aD qa 102 [.int .i64 b,.bool (ki k)] A (λu A'=>u=.bool rb/\A=A'):=λA=>by rw [<-GH];exact s9 b (ki k) A
 have g3:∀A,aD qa 102 [.int .i64 c,.bool (lV k)] A (λu A'=>u=.bool rc/\A=A'):=λA=>by rw [<-xN];exact s9 c (lV k) A
 cases ra with
 | false=>
   refine W (J8 (od iz) (fF hn hk) @c1 @c2 @c3 @g1 @g2 @g3) (J3 jz bE @az.eq_1) ?_<;>intros
   all_goals(simp [aR,aU,bu,aQ,aS]<;>exact qb A _)
 | true=>cases rb with
   | false=>
     refine Wu (mB (od iz) (fF hn hk) @c1 @c2 @c3 @g1 @g2 @g3 @e1 @e2 @e3 @e4 @e5) (J3 jz bE @az.eq_1) ?_<;>intros
     all_goals(simp [aR,aU,bu,aQ,aS]<;>exact qb A _)
   | true=>cases rc with
     | false=>
       refine Wu (mB (od iz) (fF hn hk) @c1 @c2 @c3 @g1 @g2 @g3 @e1 @e2 @e3 @e4 @e5) (J3 jz bE @az.eq_1) ?_<;>intros
       all_goals(simp [aR,aU,bu,aQ,aS]<;>exact qb A _)
     | true=>cases d1 with
       | true=>
         refine Wu (mB (od iz) (fF hn hk) @c1 @c2 @c3 @g1 @g2 @g3 @e1 @e2 @e3 @e4 @e5) (J3 jz bE @az.eq_1) ?_<;>intros
         all_goals(simp [aR,aU,bu,aQ,aS]<;>exact qb A _)
       | false=>cases d2 with
         | true=>
           by_cases q1:bR<0
           . have q3:¬(0<=bR):=(by omega);refine Wu (mB (od iz) (fF hn hk) @c1 @c2 @c3 @g1 @g2 @g3 @e1 @e2 @e3 @e4 @e5) (J5 jz q1 q3 bE @az.eq_1) ?_<;>intros
             all_goals(simp [aR,aU,bu,aQ,aS,q3]<;>exact qb A _)
           have q3:0<=bR:=(by omega);by_cases q2:21<bR
           . have q4:¬(bR<=21):=(by omega);refine Wu (mB (od iz) (fF hn hk) @c1 @c2 @c3 @g1 @g2 @g3 @e1 @e2 @e3 @e4 @e5) (J7 jz q1 q2 q3 q4 bE @az.eq_1) ?_<;>intros
             all_goals(simp [aR,aU,bu,aQ,aS,q3,q4]<;>exact qb A _)
           have q4:bR<=21:=(by omega);refine Wu (mB (od iz) (fF hn hk) @c1 @c2 @c3 @g1 @g2 @g3 @e1 @e2 @e3 @e4 @e5) (J7 jz q1 q2 q3 q4 bE @az.eq_1) ?_<;>intros
           all_goals(simp [aR,aU,bu,aQ,aS,q3,q4]<;>exact qb A _)
         | false=>cases d3 with
           | true=>
             by_cases q1:bR<0
             . have q3:¬(0<=bR):=(by omega);refine Wu (mB (od iz) (fF hn hk) @c1 @c2 @c3 @g1 @g2 @g3 @e1 @e2 @e3 @e4 @e5) (J5 jz q1 q3 bE @az.eq_1) ?_<;>intros
               all_goals(simp [aR,aU,bu,aQ,aS,q3]<;>exact qb A _)
             have q3:0<=bR:=(by omega);by_cases q2:64<bR
             . have q4:¬(bR<=64):=(by omega);refine Wu (mB (od iz) (fF hn hk) @c1 @c2 @c3 @g1 @g2 @g3 @e1 @e2 @e3 @e4 @e5) (J7 jz q1 q2 q3 q4 bE @az.eq_1) ?_<;>intros
               all_goals(simp [aR,aU,bu,aQ,aS,q3,q4]<;>exact qb A _)
             have q4:bR<=64:=(by omega);refine Wu (mB (od iz) (fF hn hk) @c1 @c2 @c3 @g1 @g2 @g3 @e1 @e2 @e3 @e4 @e5) (J7 jz q1 q2 q3 q4 bE @az.eq_1) ?_<;>intros
             all_goals(simp [aR,aU,bu,aQ,aS,q3,q4]<;>exact qb A _)
           | false=>cases d4 with
             | true=>
               by_cases q1:bR<1
               . have q3:¬(1<=bR):=(by omega);refine Wu (mB (od iz) (fF hn hk) @c1 @c2 @c3 @g1 @g2 @g3 @e1 @e2 @e3 @e4 @e5) (J5 jz q1 q3 bE @az.eq_1) ?_<;>intros
                 all_goals(simp [aR,aU,bu,aQ,aS,q3]<;>exact qb A _)
               have q3:1<=bR:=(by omega);by_cases q2:8<bR
               . have q4:¬(bR<=8):=(by omega);refine Wu (mB (od iz) (fF hn hk) @c1 @c2 @c3 @g1 @g2 @g3 @e1 @e2 @e3 @e4 @e5) (J7 jz q1 q2 q3 q4 bE @az.eq_1) ?_<;>intros
                 all_goals(simp [aR,aU,bu,aQ,aS,q3,q4]<;>exact qb A _)
               have q4:bR<=8:=(by omega);refine Wu (mB (od iz) (fF hn hk) @c1 @c2 @c3 @g1 @g2 @g3 @e1 @e2 @e3 @e4 @e5) (J7 jz q1 q2 q3 q4 bE @az.eq_1) ?_<;>intros
               all_goals(simp [aR,aU,bu,aQ,aS,q3,q4]<;>exact qb A _)
             | false=>cases d5 with
               | true=>
                 by_cases q1:bR<0
                 . have q3:¬(0<=bR):=(by omega);refine Wu (mB (od iz) (fF hn hk) @c1 @c2 @c3 @g1 @g2 @g3 @e1 @e2 @e3 @e4 @e5) (J5 jz q1 q3 bE @az.eq_1) ?_<;>intros
                   all_goals(simp [aR,aU,bu,aQ,aS,q3]<;>exact qb A _)
                 have q3:0<=bR:=(by omega);by_cases q2:3<bR
                 . have q4:¬(bR<=3):=(by omega);refine Wu (mB (od iz) (fF hn hk) @c1 @c2 @c3 @g1 @g2 @g3 @e1 @e2 @e3 @e4 @e5) (J7 jz q1 q2 q3 q4 bE @az.eq_1) ?_<;>intros
                   all_goals(simp [aR,aU,bu,aQ,aS,q3,q4]<;>exact qb A _)
                 have q4:bR<=3:=(by omega);refine Wu (mB (od iz) (fF hn hk) @c1 @c2 @c3 @g1 @g2 @g3 @e1 @e2 @e3 @e4 @e5) (J7 jz q1 q2 q3 q4 bE @az.eq_1) ?_<;>intros
                 all_goals(simp [aR,aU,bu,aQ,aS,q3,q4]<;>exact qb A _)
               | false=>
                 by_cases q1:bR<0
                 . have q3:¬(0<=bR):=(by omega);refine Wu (mB (od iz) (fF hn hk) @c1 @c2 @c3 @g1 @g2 @g3 @e1 @e2 @e3 @e4 @e5) (J5 jz q1 q3 bE @az.eq_1) ?_<;>intros
                   all_goals(simp [aR,aU,bu,aQ,aS,q3]<;>exact qb A _)
                 have q3:0<=bR:=(by omega);by_cases q2:0<bR
                 . have q4:¬(bR<=0):=(by omega);refine Wu (mB (od iz) (fF hn hk) @c1 @c2 @c3 @g1 @g2 @g3 @e1 @e2 @e3 @e4 @e5) (J7 jz q1 q2 q3 q4 bE @az.eq_1) ?_<;>intros
                   all_goals(simp [aR,aU,bu,aQ,aS,q3,q4]<;>exact qb A _)
                 have q4:bR<=0:=(by omega);refine Wu (mB (od iz) (fF hn hk) @c1 @c2 @c3 @g1 @g2 @g3 @e1 @e2 @e3 @e4 @e5) (J7 jz q1 q2 q3 q4 bE @az.eq_1) ?_<;>intros
                 all_goals(simp [aR,aU,bu,aQ,aS,q3,q4]<;>exact qb A _)
end
section
namespace TGFbE
theorem mK [Gl] {A:AW} {L:List It} {T:Prop} (hS:ah A L) (hw:A.Wf) (h':(aV A L/\bq A L/\bQ L)=T:=by first|(dsimp only [aa,af,aV,bq,bQ,eQ];done)|exact rfl):T:=h'▸hS.eJ hw
end TGFbE
open TGFbE
variable [Gl]
theorem Gq (hn:Gl.N=4) (x:bm) (A:AW):aD qa 70 [.agg (az x).toArray] A (λu A'=>u=.int .i64 (bA x)/\A=A'):=by
 refine aD.tG (V:=.int .i64 (bA x)) (by simp) (λhw=>?_) (by kernel_rfl);refine aN Tryz.func70 λ_=>?_;obtain⟨op,a,b,c,bR⟩:=x;have lb:=λA=>wv hn ⟨op,a,b,c,bR⟩ A;simp only [az] at lb;by_cases h0:cg ⟨op,a,b,c,bR⟩=0
 . rw [h0] at lb;by_cases o8:op=8
   . subst o8;have he:bA ⟨8,a,b,c,bR⟩=1:=(by unfold bA;rw [aA h0];rfl);rw [he];refine W (J1 @lb) (J2 @AW.ab @az.eq_1) ?_<;>intros
     all_goals first|exact qb A _|(simp [aR,aU,bu,aQ,aS]<;>exact qb A _)
   by_cases o9:op=9
   . subst o9;have he:bA ⟨9,a,b,c,bR⟩=1:=(by unfold bA;rw [aA h0];rfl);rw [he];refine W (J1 @lb) (J3 o8 @AW.ab @az.eq_1) ?_<;>intros
     all_goals first|exact qb A _|(simp [aR,aU,bu,aQ,aS]<;>exact qb A _)
   by_cases nd:op=10
   . subst nd;have he:bA ⟨10,a,b,c,bR⟩=1:=(by unfold bA;rw [aA h0];rfl);rw [he];refine W (J1 @lb) (J4 o8 o9 @AW.ab @az.eq_1) ?_<;>intros
     all_goals first|exact qb A _|(simp [aR,aU,bu,aQ,aS]<;>exact qb A _)
   by_cases o11:op=11
   . subst o11;have he:bA ⟨11,a,b,c,bR⟩=1:=(by unfold bA;rw [aA h0];rfl);rw [he];refine W (J1 @lb) (J5 o8 o9 nd @AW.ab @az.eq_1) ?_<;>intros
     all_goals first|exact qb A _|(simp [aR,aU,bu,aQ,aS]<;>exact qb A _)
   by_cases o14:op=14
   . subst o14;have he:bA ⟨14,a,b,c,bR⟩=1:=(by unfold bA;rw [aA h0];rfl);rw [he];refine W (J1 @lb) (J6 o8 o9 nd o11 @AW.ab @az.eq_1) ?_<;>intros
     all_goals first|exact qb A _|(simp [aR,aU,bu,aQ,aS]<;>exact qb A _)
   by_cases o15:op=15
   . subst o15;have he:bA ⟨15,a,b,c,bR⟩=1:=(by unfold bA;rw [aA h0];rfl);rw [he];refine W (J1 @lb) (J7 o8 o9 nd o11 o14 @AW.ab @az.eq_1) ?_<;>intros
     all_goals first|exact qb A _|(simp [aR,aU,bu,aQ,aS]<;>exact qb A _)
   by_cases o7:op=7
   . subst o7;have he:bA ⟨7,a,b,c,bR⟩=2:=(by unfold bA;rw [aA h0];rfl);rw [he];refine W (J1 @lb) (J8 o8 o9 nd o11 o14 o15 @AW.ab @az.eq_1) ?_<;>intros
     all_goals first|exact qb A _|(simp [aR,aU,bu,aQ,aS]<;>exact qb A _)
   by_cases o12:op=12
   . subst o12;have he:bA ⟨12,a,b,c,bR⟩=2:=(by unfold bA;rw [aA h0];rfl);rw [he];refine W (J1 @lb) (J9 o8 o9 nd o11 o14 o15 o7 @AW.ab @az.eq_1) ?_<;>intros
     all_goals first|exact qb A _|(simp [aR,aU,bu,aQ,aS]<;>exact qb A _)
   by_cases o13:op=13
   . subst o13;have he:bA ⟨13,a,b,c,bR⟩=2:=(by unfold bA;rw [aA h0];rfl);rw [he];refine W (J1 @lb) (DM o8 o9 nd o11 o14 o15 o7 o12 @AW.ab @az.eq_1) ?_<;>intros
     all_goals first|exact qb A _|(simp [aR,aU,bu,aQ,aS]<;>exact qb A _)
   by_cases o16:op=16
   . subst o16;have he:bA ⟨16,a,b,c,bR⟩=2:=(by unfold bA;rw [aA h0];rfl);rw [he];refine W (J1 @lb) (JD o8 o9 nd o11 o14 o15 o7 o12 o13 @AW.ab @az.eq_1) ?_<;>intros
     all_goals first|exact qb A _|(simp [aR,aU,bu,aQ,aS]<;>exact qb A _)
   by_cases o17:op=17
   . subst o17;have he:bA ⟨17,a,b,c,bR⟩=2:=(by unfold bA;rw [aA h0];rfl);rw [he];refine W (J1 @lb) (xe o8 o9 nd o11 o14 o15 o7 o12 o13 o16 @AW.ab @az.eq_1) ?_<;>intros
     all_goals first|exact qb A _|(simp [aR,aU,bu,aQ,aS]<;>exact qb A _)
   have he:bA ⟨op,a,b,c,bR⟩=0:=(by unfold bA;rw [aA h0];dsimp only;rw [aw (by omega),aw (by omega)]);rw [he];refine W (J1 @lb) (mB o8 o9 nd o11 o14 o15 o7 o12 o13 o16 o17 @AW.ab @az.eq_1) ?_<;>intros
   all_goals first|exact qb A _|(simp [aR,aU,bu,aQ,aS]<;>exact qb A _)
 have he:bA ⟨op,a,b,c,bR⟩=0:=by unfold bA;rw [aw h0]
 rw [he];refine W (J1 @lb) (J3 h0 @AW.ab @az.eq_1) ?_<;>intros
 all_goals first|exact qb A _|(simp [aR,aU,bu,aQ,aS]<;>exact qb A _)
theorem Gp (hn:Gl.N=4) (x:bm) (A:AW):aD qa 71 [.agg (az x).toArray] A (λu A'=>u=.tuple #[.int .i64 ((ee x).getD 0),.bool (ee x).isSome]/\A=A'):=by
 refine aD.tG (V:=.tuple #[.int .i64 ((ee x).getD 0),.bool (ee x).isSome]) (dh.tuple (by simp)) (λhw=>?_) (by kernel_rfl);refine aN Tryz.func71 λ_=>?_;obtain⟨op,a,b,c,bR⟩:=x;have lb:=λA=>wv hn ⟨op,a,b,c,bR⟩ A;simp only [az] at lb;by_cases h0:cg ⟨op,a,b,c,bR⟩=0
 . rw [h0] at lb;have hr:0<=op/\op<18:=by
    unfold cg at h0;dsimp only at h0;split at h0;cases h0;omega
   obtain⟨k,hk⟩:∃k:Nat,op=k:=⟨op.toNat,by omega⟩;subst hk;have YW:k<18:=(by omega);have hs:(dR k).length<2^30:=(by unfold dR;split<;>simp);have hj:decide ((106:UInt8)∈dR k)=decide (k=4\/k=5\/k=6):=by
    have h:((qA 18).all λk=>decide ((106:UInt8)∈dR k) == decide (k=4\/k=5\/k=6))=true:=by kernel_rfl
    simpa using qC.1 h k (qy.2 YW)
   have c1:∀A,aD qa 103 [.string (bs (dR k)),.int .u8 106] A (λu A'=>u=.bool (decide (k=4\/k=5\/k=6))/\A=A'):=λA=>by rw [<-hj];exact nq (dR k) 106 A hs
   by_cases h4:k=4\/k=5\/k=6
   . have he:ee ⟨(k:Int),a,b,c,bR⟩=some bR:=(by unfold ee;rw [aA ⟨h0,by dsimp only;omega⟩]);rw [he];rw [decide_eq_true h4] at c1;refine W (J3 @lb (fF hn YW) @c1) (J2 @AW.ab @az.eq_1) ?_<;>intros
     all_goals first|exact qb A _|(simp [aR,aU,bu,aQ,aS]<;>exact qb A _)
   have he:ee ⟨(k:Int),a,b,c,bR⟩=none:=(by unfold ee;rw [aw (λh=>by have:=h.2;dsimp only at this;omega)]);rw [he];rw [decide_eq_false h4] at c1;refine W (J3 @lb (fF hn YW) @c1) (J2 @AW.ab @az.eq_1) ?_<;>intros
   all_goals first|exact qb A _|(simp [aR,aU,bu,aQ,aS]<;>exact qb A _)
 have he:ee ⟨op,a,b,c,bR⟩=none:=by unfold ee;rw [aw (λh=>h0 h.1)]
 rw [he];refine W (J1 @lb) (J3 h0 @AW.ab @az.eq_1) ?_<;>intros
 all_goals first|exact qb A _|(simp [aR,aU,bu,aQ,aS]<;>exact qb A _)
end
section
namespace TGFbF
theorem mK [Gl] {A:AW} {L:List It} {T:Prop} (hS:ah A L) (hw:A.Wf) (h':(aV A L/\bq A L/\bQ L)=T:=by first|(dsimp only [aa,af,aV,bq,bQ,eQ];done)|exact rfl):T:=h'▸hS.eJ hw
end TGFbF
open TGFbF
variable [Gl]
def fw:Option Nat->Int
 | some b=>b
 | none=>-1
def yc:Option (Nat×Nat)->Value
 | some (b,c)=>.tuple #[.int .i64 b,.int .i64 c]
 | none=>.tuple #[.int .i64 (-1),.int .i64 (-1)]
theorem Hf (v:Value) (p:List bm) (t:Nat) (A:AW) (h:ly A v p) (hl:p.length<2^30) (ht:t<=p.length) :
 aD qa 104 [v,.int .i64 t] A (λu A'=>u=yc (Cq p t)/\A=A'):=by
 refine aN Tryz.func104 λhw=>?_;obtain⟨o,c,rfl,_⟩:=h.cy;revert hw;refine W cF cF ?_<;>(unhygienic intros)
 refine ef (λk fr A'=>A=A'/\∃(i:Nat) (b:Option Nat),k=p.length-i/\i<=p.length/\fr 0=.slice o p.length c/\fr 1=.int .i64 t/\fr 6=.int .i64 (fw b)/\fr 7=.int .i64 i/\
  Cq p t=jS p t (p.length-i) i b) p.length ?_ ?_
 exact⟨rfl,0,none,rfl,qG _,rfl,rfl,rfl,rfl,rfl⟩;rintro k fr A' ⟨rfl,i,b,rfl,hi,h0,h1,h6,h7,he⟩;by_cases cD:i<p.length
 . obtain⟨q,b8,rfl,bV,fO,hcell⟩:=h.at cD;have mg:=wB hcell;have gS:=By (i:=i);have ho:d6 p i=p[i].op:=lE (List.getElem?_eq_getElem cD);have dy:p.length-i=(p.length-(i+1))+1:=(by omega);rw [dy] at he;unfold jS at he;cases b with
   | none=>
     simp only [fw] at h6;simp only [ho] at he;by_cases o7:p[i].op=7;rw [aA o7] at he;refine ba ?_;refine W cF (DM h0 h1 h6 h7 bV mg fO cD gS o7) ?_<;>intros;refine⟨p.length-(i+1),by omega,rfl,i+1,some i,rfl,by omega,?_,?_,?_,?_,he⟩<;>simp [h0,h1,fw];rw [aw o7] at he;refine ba ?_;refine W cF (DM h0 h1 h6 h7 bV mg fO cD gS o7) ?_<;>intros;refine⟨p.length-(i+1),by omega,rfl,i+1,none,rfl,by omega,?_,?_,?_,?_,he⟩<;>simp [h0,h1,h6,fw]
   | some d=>
     simp only [fw] at h6;simp only [ho] at he;have vF:¬((d:Int)<0):=(by omega);by_cases o8:p[i].op=8
     . rw [aA o8] at he;by_cases hc:d<=t/\t<=i
       . rw [aA hc] at he;have Mg:=hc.1;have AP:=hc.2;refine ba ?_;refine W cF (mB h0 h1 h6 h7 bV mg fO cD gS o8 vF Mg AP) ?_<;>intros
         all_goals simp [cx,aR,aU,bu,aQ,aS,he,yc]
       rw [aw hc] at he;by_cases Mg:d<=t;have AP:¬t<=i:=λx=>hc ⟨Mg,x⟩;refine ba ?_;refine W cF (mB h0 h1 h6 h7 bV mg fO cD gS o8 vF Mg AP) ?_<;>intros;refine⟨p.length-(i+1),by omega,rfl,i+1,none,rfl,by omega,?_,?_,?_,?_,he⟩<;>simp [h0,h1,fw];refine ba ?_;refine W cF (xe h0 h1 h6 h7 bV mg fO cD gS o8 vF Mg) ?_<;>intros;refine⟨p.length-(i+1),by omega,rfl,i+1,none,rfl,by omega,?_,?_,?_,?_,he⟩<;>simp [h0,h1,fw]
     rw [aw o8] at he;refine ba ?_;refine W cF (JD h0 h1 h6 h7 bV mg fO cD gS o8 vF) ?_<;>intros;refine⟨p.length-(i+1),by omega,rfl,i+1,some d,rfl,by omega,?_,?_,?_,?_,he⟩<;>simp [h0,h1,h6,fw]
 have vT:i=p.length:=by omega
 subst vT;rw [Nat.sub_self] at he;unfold jS at he;cases b with
 | none=>
   simp only [fw] at h6;refine ba ?_;refine W cF (J5 h0 h1 h6 h7 cD) ?_<;>intros
   all_goals simp [cx,aR,aU,bu,aQ,aS,he,yc]
 | some d=>
   simp only [fw] at h6;have vF:¬((d:Int)<0):=(by omega);have zg:(0:Int)<=d:=(by omega);simp only at he;by_cases Mg:d<=t
   . by_cases AP:t<p.length
     . rw [aA ⟨Mg,AP⟩] at he;refine ba ?_;refine W cF (J9 h0 h1 h6 h7 cD vF zg Mg AP) ?_<;>intros
       all_goals simp [cx,aR,aU,bu,aQ,aS,he,yc]
     rw [aw (λx=>AP x.2)] at he;refine ba ?_;refine W cF (J9 h0 h1 h6 h7 cD vF zg Mg AP) ?_<;>intros
     all_goals simp [cx,aR,aU,bu,aQ,aS,he,yc]
   rw [aw (λx=>Mg x.1)] at he;refine ba ?_;refine W cF (J8 h0 h1 h6 h7 cD vF zg Mg) ?_<;>intros
   all_goals simp [cx,aR,aU,bu,aQ,aS,he,yc]
end
section
namespace TGFbG
theorem mK [Gl] {A:AW} {L:List It} {T:Prop} (hS:ah A L) (hw:A.Wf) (h':(aV A L/\bq A L/\bQ L)=T:=by first|(dsimp only [aa,af,aV,bq,bQ,eQ];done)|exact rfl):T:=h'▸hS.eJ hw
end TGFbG
open TGFbG
variable [Gl]
theorem Iw (v:Value) (p:List bm) (k t:Nat) (A:AW) (h:ly A v p) (hl:p.length<2^30) (hk:k<=p.length) :
 aD qa 72 [v,.int .i64 k,.int .i64 t] A (λu A'=>u=.bool (gV p k t)/\A=A'):=by
 refine aN Tryz.func72 λhw=>?_;obtain⟨o,c,rfl,_⟩:=h.cy;by_cases h1:p.length<t
 . have he:gV p k t=false:=(by unfold gV;rw [aA h1]);rw [he];refine W cF (J1 h1) ?_<;>intros
   all_goals simp [aR,aU,bu,aQ,aS]
 have ht:t<=p.length:=by omega
 have c1:=Hf _ p k A h hl hk;have c2:=Hf _ p t A h hl ht;cases hs:Cq p k with
 | some bc=>
   obtain⟨b,d⟩:=bc;have hb:¬((b:Int)<0):=(by omega);have kS:(0:Int)<=b:=(by omega);have he:gV p k t=decide (t<=d):=(by unfold gV;rw [aw h1,hs]);rw [hs] at c1;simp only [yc] at c1;rw [he];refine W (J1 @c1) (J3 h1 hb kS) ?_<;>intros
   all_goals simp [aR,aU,bu,aQ,aS]
 | none=>
   rw [hs] at c1;simp only [yc] at c1;cases yk:Cq p t with
   | some bc=>
     obtain⟨b,d⟩:=bc;have hb:¬((b:Int)<0):=(by omega);have kS:(0:Int)<=b:=(by omega);have he:gV p k t=decide (b=t):=(by unfold gV;rw [aw h1,hs,yk]);rw [yk] at c2;simp only [yc] at c2;rw [he];refine W (J2 @c1 @c2) (J3 h1 hb kS) ?_<;>intros
     all_goals(simp [aR,aU,bu,aQ,aS]<;>omega)
   | none=>
     have he:gV p k t=true:=(by unfold gV;rw [aw h1,hs,yk]);rw [yk] at c2;simp only [yc] at c2;rw [he];refine W (J2 @c1 @c2) (J1 h1) ?_<;>intros
     all_goals simp [aR,aU,bu,aQ,aS]
end
section
namespace TGFbH
theorem mK [Gl] {A:AW} {L:List It} {T:Prop} (hS:ah A L) (hw:A.Wf) (h':(aV A L/\bq A L/\bQ L)=T:=by first|(dsimp only [aa,af,aV,bq,bQ,eQ];done)|exact rfl):T:=h'▸hS.eJ hw
end TGFbH
open TGFbH
variable [Gl]
theorem AW.le.lP (A:AW) (o:dQ) (o':Option dQ):A.le ((A.alloc o).set A.next o'):=by
 refine⟨by simp,λi hi=>?_⟩;have h1:¬i=A.next:=by omega
 have h2:¬A.next=i:=by omega
 simp [AW.df,AW.dt,h1,h2]
def oQ (x:Nat×Int):Value:=.tuple #[.int .i64 x.1,.int .i64 x.2]
theorem Nm {x:bm} (h:cg x=0) (h7:x.op=7):bA x=2:=by
 unfold bA;rw [aA h,aw (by omega),aA (by omega)]
theorem Nl {x:bm} (h:cg x=0) (h7:x.op=8):bA x=1:=by
 unfold bA;rw [aA h,aA (by omega)]
set_option maxHeartbeats 8000000 in
theorem Gr (hn:Gl.N=4) (v:Value) (p:List bm) (A:AW) (h:ly A v p) :
 aD qa 53 [v] A (λu A'=>u=oQ (lZ p)/\A=A'):=by
 refine aD.tG (V:=oQ (lZ p)) (dh.tuple (by simp)) (λhw=>?_) (by kernel_rfl);refine aN Tryz.func53 λ_=>?_;obtain⟨o,c,rfl,_⟩:=h.cy;by_cases hL:64<p.length
 . have he:lZ p=(0,3):=(by unfold lZ;rw [aA hL]);rw [he];refine W cF (J1 hL) ?_<;>intros
   all_goals first|exact qi A|(simp [aR,aU,bu,aQ,aS,oQ]<;>exact qi A)
 have hl:p.length<2^30:=by omega
 have he:lZ p=i5 (λk _ n=>gV p k (k+1+n.toNat)) (p.drop 0) 0 none:=by unfold lZ;rw [aw hL];rfl
 generalize htgt:(λ(k:Nat) (_:Option Nat) (n:Int)=>gV p k (k+1+n.toNat))=Hb at he;have htg:∀k b n,Hb k b n=gV p k (k+1+n.toNat):=by subst htgt;exact λ_ _ _=>rfl
 generalize lZ p=RR at he ⊢;revert hw;(repeat first|clear hw|revert hc|revert R|revert K);refine W cF (J1 hL) ?_<;>(unhygienic intros)
 refine ef (λk fr A'=>A.le A'/\∃(i:Nat) (b:Option Nat),k=p.length-i/\i<=p.length/\(∀d,b=some d->d<i)/\fr 0=.slice o p.length c/\fr 4=.int .i64 (fw b)/\fr 5=.int .i64 i/\
  RR=i5 Hb (p.drop i) i b) p.length ?_ ?_
 exact⟨qi A,0,none,rfl,qG _,by simp,rfl,rfl,rfl,he⟩;rintro k fr A' ⟨ij,i,b,rfl,hi,xS,h0,h4,h5,he⟩;by_cases cD:i<p.length
 . obtain⟨q,b8,xO,bV,tj,hcell⟩:=(h.le ij hw).at cD;subst xO;have gS:=By (i:=i);have fa:p.drop i=p[i]::p.drop (i+1):=q9 cD;rw [fa] at he;generalize p[i]=x at he hcell;clear fa;have cI:=λB=>wv hn x B;have cP:=λB=>Gq hn x B;have cS:=λB=>Gp hn x B;have cR:=fun(t:Nat) o o'=>Iw _ p i t _ (h.le (ij.trans (AW.le.lP A' o o')) hw) hl (by omega);have x7:=Nm (x:=x);have x8:=Nl (x:=x);have dG:=wB hcell;unfold i5 at he;generalize hE:uI Hb i b x=E at he;generalize hN:Eu i b x=N at he;unfold uI at hE;unfold Eu at hN;obtain⟨op,a,b',c',bR⟩:=x;simp only at hE hN x7 x8 dG;generalize bA ⟨op,a,b',c',bR⟩=pl at hE cP x7 x8;have VB:=@uw ⟨op,a,b',c',bR⟩;generalize ee ⟨op,a,b',c',bR⟩=sk at hE cS VB;have ND:=@EJ ⟨op,a,b',c',bR⟩;simp only at VB ND;generalize cg ⟨op,a,b',c',bR⟩=e at hE cI x7 x8 VB ND;simp only [az] at hcell cI cP cS;have he4:p.length-i=(p.length-(i+1))+1:=(by omega);by_cases e0:e=0
   rotate_left
   . rw [aw e0] at hE;subst hE;rw [aw e0] at he;refine ba ?_;refine W (J1 @cI) (mB h0 h4 h5 bV dG hcell tj cD gS e0 bE @fw.eq_1 @fw.eq_2) ?_<;>intros
     all_goals first|exact ij.trans (AW.le.lP A' _ _)|(simp [cx,aR,aU,bu,aQ,aS,oQ,he]<;>exact ij.trans (AW.le.lP A' _ _))
   subst e0;rw [aA rfl] at hE;cases b with
   | none=>
     simp only [fw] at h4;by_cases ob:op=8
     . subst ob;rw [aA (by simp)] at hE;subst hE;rw [aw (by decide)] at he;refine ba ?_;refine W (J3 @cI @cP @cS) (xe h0 h4 h5 bV dG hcell tj cD gS bE @fw.eq_1 @fw.eq_2) ?_<;>intros
       all_goals first|exact ij.trans (AW.le.lP A' _ _)|(simp [cx,aR,aU,bu,aQ,aS,oQ,he]<;>exact ij.trans (AW.le.lP A' _ _))
     rw [aw (by simp [ob])] at hE;by_cases pb:pl=1
     . subst pb;rw [aA (by simp)] at hE;subst hE;rw [aw (by decide)] at he;by_cases oo:op=7
       . subst oo;refine ba ?_;revert hw;(repeat first|clear hw|revert hc|revert R|revert K);exact W (J3 @cI @cP @cS) (mB h0 h4 h5 bV dG hcell tj cD gS ob bE @fw.eq_1 @fw.eq_2) trivial
         all_goals first|exact ij.trans (AW.le.lP A' _ _)|(simp [cx,aR,aU,bu,aQ,aS,oQ,he]<;>exact ij.trans (AW.le.lP A' _ _))
       skip
       refine ba ?_;refine W (J3 @cI @cP @cS) (xY h0 h4 h5 bV dG hcell tj cD gS ob oo bE @fw.eq_1 @fw.eq_2) ?_<;>intros
       all_goals first|exact ij.trans (AW.le.lP A' _ _)|(simp [cx,aR,aU,bu,aQ,aS,oQ,he]<;>exact ij.trans (AW.le.lP A' _ _))
     rw [aw (by simp [pb])] at hE;cases sk with
     | some n=>
       obtain⟨rfl,-,mg⟩:=VB rfl;obtain⟨ES,ER⟩:=ND rfl mg;obtain⟨m,hm⟩:∃m:Nat,n=m:=⟨n.toNat,by omega⟩;subst hm;have EL:qg.wrap (((i+1:Nat):Int)+m)=((i+1+m:Nat):Int):=ar (by omega) (by omega);have xM:qg.wrap ((i:Int)+1+m)=((i+1+m:Nat):Int):=ar (by omega) (by omega);have T1:=cR (i+1+m);simp only [htg,Zp] at hE;have o7:¬op=7:=(by omega);have o8:¬op=8:=(by omega);generalize gV p i (i+1+m)=r at hE T1;by_cases po:pl=2
       . subst po;cases r with
         | false=>
           simp only [qt,if_false] at hE;subst hE;rw [aw (by decide)] at he;refine ba ?_;refine W (J4 @cI @cP @cS @T1) (Mh h0 h4 h5 bV dG hcell tj cD gS o7 o8 EL xM bE @fw.eq_1 @fw.eq_2) ?_<;>intros
           all_goals first|exact ij.trans (AW.le.lP A' _ _)|(simp [cx,aR,aU,bu,aQ,aS,oQ,he]<;>exact ij.trans (AW.le.lP A' _ _))
         | true=>
           simp only [if_true] at hE;rw [aw o7,aw o8] at hN;subst hE;subst hN;rw [aA rfl] at he;refine ba ?_;refine W (J4 @cI @cP @cS @T1) (Mh h0 h4 h5 bV dG hcell tj cD gS o7 o8 EL xM bE @fw.eq_1 @fw.eq_2) ?_<;>intros;refine⟨p.length-(i+1),by omega,ij.trans (AW.le.lP A' _ _),i+1,none,rfl,by omega,?_,?_,?_,?_,he⟩<;>simp [h0,h4,h5,fw]<;>first|omega|(intro d hd;have:=xS d hd;omega)|(have:=xS;simp at this;omega)
       skip
       cases r with
       | false=>
         simp only [qt,if_false] at hE;subst hE;rw [aw (by decide)] at he;refine ba ?_;refine W (J4 @cI @cP @cS @T1) (Us h0 h4 h5 bV dG hcell tj cD gS o7 o8 EL xM pb po bE @fw.eq_1 @fw.eq_2) ?_<;>intros
         all_goals first|exact ij.trans (AW.le.lP A' _ _)|(simp [cx,aR,aU,bu,aQ,aS,oQ,he]<;>exact ij.trans (AW.le.lP A' _ _))
       | true=>
         simp only [if_true] at hE;rw [aw o7,aw o8] at hN;subst hE;subst hN;rw [aA rfl] at he;refine ba ?_;refine W (J4 @cI @cP @cS @T1) (Us h0 h4 h5 bV dG hcell tj cD gS o7 o8 EL xM pb po bE @fw.eq_1 @fw.eq_2) ?_<;>intros;refine⟨p.length-(i+1),by omega,ij.trans (AW.le.lP A' _ _),i+1,none,rfl,by omega,?_,?_,?_,?_,he⟩<;>simp [h0,h4,h5,fw]<;>first|omega|(intro d hd;have:=xS d hd;omega)|(have:=xS;simp at this;omega)
     | none=>
       simp only at hE;subst hE;rw [aA rfl] at he;by_cases oo:op=7;have po:=x7 rfl oo;subst po;subst oo;rw [aA rfl] at hN;subst hN;refine ba ?_;refine W (J3 @cI @cP @cS) (mB h0 h4 h5 bV dG hcell tj cD gS ob bE @fw.eq_1 @fw.eq_2) ?_<;>intros;refine⟨p.length-(i+1),by omega,ij.trans (AW.le.lP A' _ _),i+1,some i,rfl,by omega,?_,?_,?_,?_,he⟩<;>simp [h0,h4,h5,fw]<;>first|omega|(intro d hd;have:=xS d hd;omega)|(have:=xS;simp at this;omega)
       rw [aw oo,aw ob] at hN;subst hN;by_cases po:pl=2;subst po;refine ba ?_;refine W (J3 @cI @cP @cS) (xY h0 h4 h5 bV dG hcell tj cD gS ob oo bE @fw.eq_1 @fw.eq_2) ?_<;>intros;refine⟨p.length-(i+1),by omega,ij.trans (AW.le.lP A' _ _),i+1,none,rfl,by omega,?_,?_,?_,?_,he⟩<;>simp [h0,h4,h5,fw]<;>first|omega|(intro d hd;have:=xS d hd;omega)|(have:=xS;simp at this;omega)
       skip
       refine ba ?_;refine W (J3 @cI @cP @cS) (Mh h0 h4 h5 bV dG hcell tj cD gS ob oo pb po bE @fw.eq_1 @fw.eq_2) ?_<;>intros;refine⟨p.length-(i+1),by omega,ij.trans (AW.le.lP A' _ _),i+1,none,rfl,by omega,?_,?_,?_,?_,he⟩<;>simp [h0,h4,h5,fw]<;>first|omega|(intro d hd;have:=xS d hd;omega)|(have:=xS;simp at this;omega)
   | some d=>
     simp only [fw] at h4;have vF:¬((d:Int)<0):=(by omega);have zg:(0:Int)<=d:=(by omega);have hdi:=xS d rfl;by_cases ob:op=7
     . subst ob;rw [aA (by simp)] at hE;subst hE;rw [aw (by decide)] at he;refine ba ?_;refine W (J3 @cI @cP @cS) (xY h0 h4 h5 bV dG hcell tj cD gS vF zg bE @fw.eq_1 @fw.eq_2) ?_<;>intros
       all_goals first|exact ij.trans (AW.le.lP A' _ _)|(simp [cx,aR,aU,bu,aQ,aS,oQ,he]<;>exact ij.trans (AW.le.lP A' _ _))
     rw [aw (by simp [ob])] at hE;by_cases pb:pl=2
     . subst pb;rw [aA (by simp)] at hE;subst hE;rw [aw (by decide)] at he;by_cases oo:op=8
       . subst oo;refine ba ?_;revert hw;(repeat first|clear hw|revert hc|revert R|revert K);exact W (J3 @cI @cP @cS) (Rv h0 h4 h5 bV dG hcell tj cD gS ob vF zg bE @fw.eq_1 @fw.eq_2) trivial
         all_goals first|exact ij.trans (AW.le.lP A' _ _)|(simp [cx,aR,aU,bu,aQ,aS,oQ,he]<;>exact ij.trans (AW.le.lP A' _ _))
       skip
       refine ba ?_;refine W (J3 @cI @cP @cS) (Mh h0 h4 h5 bV dG hcell tj cD gS ob oo vF zg bE @fw.eq_1 @fw.eq_2) ?_<;>intros
       all_goals first|exact ij.trans (AW.le.lP A' _ _)|(simp [cx,aR,aU,bu,aQ,aS,oQ,he]<;>exact ij.trans (AW.le.lP A' _ _))
     rw [aw (by simp [pb])] at hE;cases sk with
     | some n=>
       obtain⟨rfl,-,mg⟩:=VB rfl;obtain⟨ES,ER⟩:=ND rfl mg;obtain⟨m,hm⟩:∃m:Nat,n=m:=⟨n.toNat,by omega⟩;subst hm;have EL:qg.wrap (((i+1:Nat):Int)+m)=((i+1+m:Nat):Int):=ar (by omega) (by omega);have xM:qg.wrap ((i:Int)+1+m)=((i+1+m:Nat):Int):=ar (by omega) (by omega);have T1:=cR (i+1+m);simp only [htg,Zp] at hE;have o7:¬op=7:=(by omega);have o8:¬op=8:=(by omega);generalize gV p i (i+1+m)=r at hE T1;by_cases po:pl=1
       . subst po;cases r with
         | false=>
           simp only [qt,if_false] at hE;subst hE;rw [aw (by decide)] at he;refine ba ?_;refine W (J4 @cI @cP @cS @T1) (Us h0 h4 h5 bV dG hcell tj cD gS o7 o8 EL xM vF zg bE @fw.eq_1 @fw.eq_2) ?_<;>intros
           all_goals first|exact ij.trans (AW.le.lP A' _ _)|(simp [cx,aR,aU,bu,aQ,aS,oQ,he]<;>exact ij.trans (AW.le.lP A' _ _))
         | true=>
           simp only [if_true] at hE;rw [aw o7,aw o8] at hN;subst hE;subst hN;rw [aA rfl] at he;refine ba ?_;refine W (J4 @cI @cP @cS @T1) (Us h0 h4 h5 bV dG hcell tj cD gS o7 o8 EL xM vF zg bE @fw.eq_1 @fw.eq_2) ?_<;>intros;refine⟨p.length-(i+1),by omega,ij.trans (AW.le.lP A' _ _),i+1,some d,rfl,by omega,?_,?_,?_,?_,he⟩<;>simp [h0,h4,h5,fw]<;>first|omega|(intro d hd;have:=xS d hd;omega)|(have:=xS;simp at this;omega)
       skip
       cases r with
       | false=>
         simp only [qt,if_false] at hE;subst hE;rw [aw (by decide)] at he;refine ba ?_;refine W (J4 @cI @cP @cS @T1) (J19 h0 h4 h5 bV dG hcell tj cD gS o7 o8 EL xM vF zg pb po bE (J2 @fw.eq_1 @fw.eq_2)) ?_<;>intros
         all_goals first|exact ij.trans (AW.le.lP A' _ _)|(simp [cx,aR,aU,bu,aQ,aS,oQ,he]<;>exact ij.trans (AW.le.lP A' _ _))
       | true=>
         simp only [if_true] at hE;rw [aw o7,aw o8] at hN;subst hE;subst hN;rw [aA rfl] at he;refine ba ?_;refine W (J4 @cI @cP @cS @T1) (J19 h0 h4 h5 bV dG hcell tj cD gS o7 o8 EL xM vF zg pb po bE (J2 @fw.eq_1 @fw.eq_2)) ?_<;>intros;refine⟨p.length-(i+1),by omega,ij.trans (AW.le.lP A' _ _),i+1,some d,rfl,by omega,?_,?_,?_,?_,he⟩<;>simp [h0,h4,h5,fw]<;>first|omega|(intro d hd;have:=xS d hd;omega)|(have:=xS;simp at this;omega)
     | none=>
       simp only at hE;subst hE;rw [aA rfl] at he;by_cases oo:op=8;have po:=x8 rfl oo;subst po;subst oo;rw [aw (by decide),aA rfl] at hN;subst hN;refine ba ?_;refine W (J3 @cI @cP @cS) (Rv h0 h4 h5 bV dG hcell tj cD gS ob vF zg bE @fw.eq_1 @fw.eq_2) ?_<;>intros;refine⟨p.length-(i+1),by omega,ij.trans (AW.le.lP A' _ _),i+1,none,rfl,by omega,?_,?_,?_,?_,he⟩<;>simp [h0,h4,h5,fw]<;>first|omega|(intro d hd;have:=xS d hd;omega)|(have:=xS;simp at this;omega)
       rw [aw ob,aw oo] at hN;subst hN;by_cases po:pl=1;subst po;refine ba ?_;refine W (J3 @cI @cP @cS) (Mh h0 h4 h5 bV dG hcell tj cD gS ob oo vF zg bE @fw.eq_1 @fw.eq_2) ?_<;>intros;refine⟨p.length-(i+1),by omega,ij.trans (AW.le.lP A' _ _),i+1,some d,rfl,by omega,?_,?_,?_,?_,he⟩<;>simp [h0,h4,h5,fw]<;>first|omega|(intro d hd;have:=xS d hd;omega)|(have:=xS;simp at this;omega)
       skip
       refine ba ?_;refine W (J3 @cI @cP @cS) (Us h0 h4 h5 bV dG hcell tj cD gS ob oo pb po vF zg bE @fw.eq_1 @fw.eq_2) ?_<;>intros;refine⟨p.length-(i+1),by omega,ij.trans (AW.le.lP A' _ _),i+1,some d,rfl,by omega,?_,?_,?_,?_,he⟩<;>simp [h0,h4,h5,fw]<;>first|omega|(intro d hd;have:=xS d hd;omega)|(have:=xS;simp at this;omega)
 have vT:i=p.length:=by omega
 subst vT;rw [List.drop_length] at he;unfold i5 at he;cases b with
 | none=>
   simp only [fw] at h4;refine ba ?_;refine W cF (J4 h0 h4 h5 cD) ?_<;>intros
   all_goals first|exact ij|(simp [cx,aR,aU,bu,aQ,aS,oQ,he]<;>exact ij)
 | some d=>
   simp only [fw] at h4;have vF:¬((d:Int)<0):=(by omega);have zg:(0:Int)<=d:=(by omega);refine ba ?_;refine W cF (J6 h0 h4 h5 cD vF zg) ?_<;>intros
   all_goals first|exact ij|(simp [cx,aR,aU,bu,aQ,aS,oQ,he]<;>exact ij)
end
section
namespace TGFbI
theorem mK [Gl] {A:AW} {L:List It} {T:Prop} (hS:ah A L) (hw:A.Wf) (h':(aV A L/\bq A L/\bQ L)=T:=by first|(dsimp only [aa,af,aV,bq,bQ,eQ];done)|exact rfl):T:=h'▸hS.eJ hw
end TGFbI
open TGFbI
open Go.RowKit
variable [Gl]
def jX:List (List UInt8×List UInt8):=[([110,111,112],[]),([99,111,110,115,116],[65,73]),([109,111,118,101],[65,66]),([],[65,66,67]),([106,117,109,112],[73]),([122,101,114,111],[65,73]),
 ([110,111,110,122,101,114,111],[65,73]),([98,101,103,105,110],[73]),([99,111,109,109,105,116],[]),([97,98,111,114,116],[]),([116,114,101,97,100],[65,66,73]),([116,119,114,105,116,101],[65,66,73]),
 ([112,114,101,97,100],[65,66,73]),([112,119,114,105,116,101],[65,66,73]),([97,108,108,111,99],[65,73]),([102,114,101,101],[65]),([102,101,110,99,101],[]),([111,117,116,99,111,109,101],[65])]
def gx:List Value:=jX.flatMap λx=>[.string (bs x.1),.string (bs x.2)]
def kr (k:Nat):List UInt8:=(jX.getD k ([],[])).2
structure FOK [Gl]:Prop where
 n:Gl.N=4
 ok:Gl.ok 0=true
 forms:∃e fr,Gl.B 0=some (.cells gx.toArray e fr)
theorem QI {k:Nat} (hk:k<18):gx[k*2+1]? = some (.string (bs (kr k))):=by
 have h:((qA 18).all λk=>match gx[k*2+1]? with|some (.string s)=>decide (s.data.toList=kr k)|_=>false)=true:=by kernel_rfl
 have:=qC.1 h k (qy.2 hk);cases hc:gx[k*2+1]? with
 | none=>rw [hc] at this;cases this
 | some v=>
   rw [hc] at this;cases v with
   | string s=>
     have h2:s.data.toList=kr k:=by simpa using this
     rw [<-h2];rfl
   | _=>cases this
theorem caps {k:Nat} (hk:k<18):decide (0<=kae (kr k) 65)=lW k/\decide (0<=kae (kr k) 66)=ki k/\decide (0<=kae (kr k) 67)=lV k:=by
 have h:((qA 18).all λk=>(decide (0<=kae (kr k) 65) == lW k) && (decide (0<=kae (kr k) 66) == ki k) && (decide (0<=kae (kr k) 67) == lV k))=true:=by kernel_rfl
 have:=qC.1 h k (qy.2 hk);simp only [qq,beq_iff_eq] at this;exact⟨this.1.1,this.1.2,this.2⟩
theorem tv (s:List UInt8) (c:UInt8) (A:AW):xg qa 154 [.string (bs s),.string ⟨#[c]⟩] A (.bool (decide (0<=kae s c))):=by
 refine⟨by kernel_rfl,rfl,λm w gK hs hl=>?_⟩;have e2:gK = #[.string (bs s),.string ⟨#[c]⟩]:=by
  apply Array.ext';obtain⟨v1,l1,h1,h2,h3⟩:=hl.mf;obtain⟨v2,l2,rfl,h4,h5⟩:=h3.mf;rw [h1,h2.ny rfl,h4.ny rfl,h5.pT]
 subst e2;refine(Tryz.strings_Contains_one (bs s) c w).mono ?_;rintro e w' ⟨rfl,rfl⟩;exact⟨rfl,⟨λ_ _=>rfl,rfl,rfl,rfl,Nat.le_refl _⟩⟩
theorem KD (x:bm) (A:AW):aD qa 155 [.agg (az x).toArray] A (λu A'=>u=.bool (fj x.op x.bR)/\A=A'):=by
 refine aD.tG (V:=.bool (fj x.op x.bR)) (by simp) (λhw=>?_) (by kernel_rfl);refine aN Tryz.func155 λ_=>?_;obtain⟨op,a,b,c,bR⟩:=x;by_cases o1:op=1
 . subst o1;have he:fj 1 bR=true:=(by unfold fj;rfl);rw [he];refine W cF (J2 @AW.ab @az.eq_1) ?_<;>intros
   all_goals first|exact qb A _|(simp [aR,aU,bu,aQ,aS]<;>exact qb A _)
 by_cases nd:op=10
 . subst nd;have he:fj 10 bR=true:=(by unfold fj;rfl);rw [he];refine W cF (J3 o1 @AW.ab @az.eq_1) ?_<;>intros
   all_goals first|exact qb A _|(simp [aR,aU,bu,aQ,aS]<;>exact qb A _)
 by_cases o11:op=11
 . subst o11;have he:fj 11 bR=true:=(by unfold fj;rfl);rw [he];refine W cF (J4 o1 nd @AW.ab @az.eq_1) ?_<;>intros
   all_goals first|exact qb A _|(simp [aR,aU,bu,aQ,aS]<;>exact qb A _)
 by_cases o12:op=12
 . subst o12;have he:fj 12 bR=true:=(by unfold fj;rfl);rw [he];refine W cF (J5 o1 nd o11 @AW.ab @az.eq_1) ?_<;>intros
   all_goals first|exact qb A _|(simp [aR,aU,bu,aQ,aS]<;>exact qb A _)
 by_cases o13:op=13
 . subst o13;have he:fj 13 bR=true:=(by unfold fj;rfl);rw [he];refine W cF (J6 o1 nd o11 o12 @AW.ab @az.eq_1) ?_<;>intros
   all_goals first|exact qb A _|(simp [aR,aU,bu,aQ,aS]<;>exact qb A _)
 by_cases o3:op=3
 . subst o3;have he:fj 3 bR=(decide (0<=bR) && decide (bR<22)):=(by unfold fj;rfl);rw [he];by_cases q1:0<=bR
   . by_cases q2:bR<22
     . skip
       refine W cF (J9 o1 nd o11 o12 o13 q1 q2 @AW.ab @az.eq_1) ?_<;>intros
       all_goals first|exact qb A _|(simp [aR,aU,bu,aQ,aS,q1,q2]<;>exact qb A _)
     skip
     refine W cF (J9 o1 nd o11 o12 o13 q1 q2 @AW.ab @az.eq_1) ?_<;>intros
     all_goals first|exact qb A _|(simp [aR,aU,bu,aQ,aS,q1,q2]<;>exact qb A _)
   skip
   refine W cF (J8 o1 nd o11 o12 o13 q1 @AW.ab @az.eq_1) ?_<;>intros
   all_goals first|exact qb A _|(simp [aR,aU,bu,aQ,aS,q1]<;>exact qb A _)
 by_cases o4:op=4
 . subst o4;have he:fj 4 bR=(decide (0<=bR) && decide (bR<=64)):=(by unfold fj;rfl);rw [he];by_cases q1:0<=bR
   . by_cases q2:bR<=64
     . skip
       refine W cF (DM o1 nd o11 o12 o13 o3 q1 q2 @AW.ab @az.eq_1) ?_<;>intros
       all_goals first|exact qb A _|(simp [aR,aU,bu,aQ,aS,q1,q2]<;>exact qb A _)
     skip
     refine W cF (DM o1 nd o11 o12 o13 o3 q1 q2 @AW.ab @az.eq_1) ?_<;>intros
     all_goals first|exact qb A _|(simp [aR,aU,bu,aQ,aS,q1,q2]<;>exact qb A _)
   skip
   refine W cF (J9 o1 nd o11 o12 o13 o3 q1 @AW.ab @az.eq_1) ?_<;>intros
   all_goals first|exact qb A _|(simp [aR,aU,bu,aQ,aS,q1]<;>exact qb A _)
 by_cases o5:op=5
 . subst o5;have he:fj 5 bR=(decide (0<=bR) && decide (bR<=64)):=(by unfold fj;rfl);rw [he];by_cases q1:0<=bR
   . by_cases q2:bR<=64
     . skip
       refine W cF (JD o1 nd o11 o12 o13 o3 o4 q1 q2 @AW.ab @az.eq_1) ?_<;>intros
       all_goals first|exact qb A _|(simp [aR,aU,bu,aQ,aS,q1,q2]<;>exact qb A _)
     skip
     refine W cF (JD o1 nd o11 o12 o13 o3 o4 q1 q2 @AW.ab @az.eq_1) ?_<;>intros
     all_goals first|exact qb A _|(simp [aR,aU,bu,aQ,aS,q1,q2]<;>exact qb A _)
   skip
   refine W cF (DM o1 nd o11 o12 o13 o3 o4 q1 @AW.ab @az.eq_1) ?_<;>intros
   all_goals first|exact qb A _|(simp [aR,aU,bu,aQ,aS,q1]<;>exact qb A _)
 by_cases o6:op=6
 . subst o6;have he:fj 6 bR=(decide (0<=bR) && decide (bR<=64)):=(by unfold fj;rfl);rw [he];by_cases q1:0<=bR
   . by_cases q2:bR<=64
     . skip
       refine W cF (xe o1 nd o11 o12 o13 o3 o4 o5 q1 q2 @AW.ab @az.eq_1) ?_<;>intros
       all_goals first|exact qb A _|(simp [aR,aU,bu,aQ,aS,q1,q2]<;>exact qb A _)
     skip
     refine W cF (xe o1 nd o11 o12 o13 o3 o4 o5 q1 q2 @AW.ab @az.eq_1) ?_<;>intros
     all_goals first|exact qb A _|(simp [aR,aU,bu,aQ,aS,q1,q2]<;>exact qb A _)
   skip
   refine W cF (JD o1 nd o11 o12 o13 o3 o4 o5 q1 @AW.ab @az.eq_1) ?_<;>intros
   all_goals first|exact qb A _|(simp [aR,aU,bu,aQ,aS,q1]<;>exact qb A _)
 by_cases o7:op=7
 . subst o7;have he:fj 7 bR=(decide (1<=bR) && decide (bR<=8)):=(by unfold fj;rfl);rw [he];by_cases q1:1<=bR
   . by_cases q2:bR<=8
     . skip
       refine W cF (mB o1 nd o11 o12 o13 o3 o4 o5 o6 q1 q2 @AW.ab @az.eq_1) ?_<;>intros
       all_goals first|exact qb A _|(simp [aR,aU,bu,aQ,aS,q1,q2]<;>exact qb A _)
     skip
     refine W cF (mB o1 nd o11 o12 o13 o3 o4 o5 o6 q1 q2 @AW.ab @az.eq_1) ?_<;>intros
     all_goals first|exact qb A _|(simp [aR,aU,bu,aQ,aS,q1,q2]<;>exact qb A _)
   skip
   refine W cF (xe o1 nd o11 o12 o13 o3 o4 o5 o6 q1 @AW.ab @az.eq_1) ?_<;>intros
   all_goals first|exact qb A _|(simp [aR,aU,bu,aQ,aS,q1]<;>exact qb A _)
 by_cases o14:op=14
 . subst o14;have he:fj 14 bR=(decide (0<=bR) && decide (bR<4)):=(by unfold fj;rfl);rw [he];by_cases q1:0<=bR
   . by_cases q2:bR<4
     . skip
       refine W cF (xY o1 nd o11 o12 o13 o3 o4 o5 o6 o7 q1 q2 @AW.ab @az.eq_1) ?_<;>intros
       all_goals first|exact qb A _|(simp [aR,aU,bu,aQ,aS,q1,q2]<;>exact qb A _)
     skip
     refine W cF (xY o1 nd o11 o12 o13 o3 o4 o5 o6 o7 q1 q2 @AW.ab @az.eq_1) ?_<;>intros
     all_goals first|exact qb A _|(simp [aR,aU,bu,aQ,aS,q1,q2]<;>exact qb A _)
   skip
   refine W cF (mB o1 nd o11 o12 o13 o3 o4 o5 o6 o7 q1 @AW.ab @az.eq_1) ?_<;>intros
   all_goals first|exact qb A _|(simp [aR,aU,bu,aQ,aS,q1]<;>exact qb A _)
 have he:fj op bR=decide (bR=0):=by
  unfold fj;rw [aw (by omega),aw o3,aw (by omega),aw o7,aw o14]
 rw [he];by_cases q1:bR=0
 . skip
   refine W cF (xY o1 nd o11 o12 o13 o3 o4 o5 o6 o7 o14 q1 @AW.ab @az.eq_1) ?_<;>intros
   all_goals first|exact qb A _|(simp [aR,aU,bu,aQ,aS,q1]<;>exact qb A _)
 skip
 refine W cF (xY o1 nd o11 o12 o13 o3 o4 o5 o6 o7 o14 q1 @AW.ab @az.eq_1) ?_<;>intros
 all_goals first|exact qb A _|(simp [aR,aU,bu,aQ,aS,q1]<;>exact qb A _)
end
end Go.Stx
