/-
 The program's thread: local instructions; a whole thread in memory.
-/
import Derived.Test.YtnnbecihffpedaaGreatDoorG14
import Derived.Test.YtnnbecihffpedaaGreatDoorG04
set_option linter.unusedVariables false
set_option linter.unusedSimpArgs false
set_option linter.unusedSectionVars false
set_option maxRecDepth 20000
set_option maxHeartbeats 4000000
namespace Go.Stx
open Go Go.Proofs
attribute [local irreducible] TW bC cB aW az aG bZ cz
section
abbrev lG:List (Nat×Nat):=[(0,0),(1,0),(2,0),(3,0),(4,0),(5,0),(6,0),(7,0),(8,3)]
abbrev lF:List (Nat×Nat):=[(0,0),(1,0),(2,0),(3,0),(4,0),(5,0),(6,0),(7,0),(8,0),(9,0),(10,0),(11,3)]
abbrev lE:List (Nat×Nat):=[(0,0),(1,0),(2,0),(3,0),(4,0),(5,0),(6,0),(7,0),(8,0),(9,0),(10,0),(11,0),(12,0),(13,0),(14,0),(15,0),(16,0),(21,0),(17,2),(18,0),(19,0),(20,0),(22,0),(23,3)]
abbrev lD:List (Nat×Nat):=[(0,0),(1,0),(2,0),(3,0),(4,0),(5,0),(6,0)]
open T7
variable [Gl]
theorem JZ {i:bg} (h:bT i=0) (ho:i.op=4\/i.op=5\/i.op=6):0<=i.bL/\i.bL<=64:=by
 unfold bT at h;split at h;cases h;split at h;rename_i h1;simp only [Bool.and_eq_true,ej] at h1;obtain⟨_,h5⟩:=h1;rw [ap (by omega),ap (by omega),ay ho] at h5
 simpa using h5
 cases h
class AF where
 ok:Int->Prop
section
variable [AF]
def CP (fn:Int):Prop:=AF.ok fn
def D7 (eW:Int->Int->Int->Int):Prop:=∀fn x y:Int,CP fn->∀A,et 147 [.int .i64 fn,.int .u64 x,.int .u64 y] A (.tuple #[.int .u64 (eW fn x y),.int .i64 0])
def La (l:List bg):Prop:=∀i∈l,i.op=3->CP i.bL
theorem apE {eW:Int->Int->Int->Int} (hA:D7 eW) (fn x y:Int) (h:CP fn) {A:AW} {k:Value->AW->Prop} (hk:k (.tuple #[.int .u64 (eW fn x y),.int .i64 0]) A):az Tryz.prog 147 [.int .i64 fn,.int .u64 x,.int .u64 y] A k:=by
 refine bV (hA fn x y h A) ?_;rintro _ _ ⟨rfl,rfl⟩ _ _;exact hk
theorem BW {eW:Int->Int->Int->Int} (hA:D7 eW) (b:Nat) (t:aV) (va vs vf vd vl vo:Value) (o:Option Addr) (cc:Nat) (i:bg) (kJ:(0<=i.op/\i.op<=6)\/i.op=17) (hi:bT i=0) (sS:i.op=3->CP i.bL) (jV:0<=t.pc/\t.pc<2^40) :
 bf Tryz.prog 82 [pv b,je i] [.at b (oT t.d ⟨va,vs,vf,vd,.slice o t.av.length cc,vl,vo⟩)] (λ_=>True) (λ_=>[.at b (oT (t.gE eW i).d ⟨va,vs,vf,vd,.slice o t.av.length cc,vl,vo⟩)]):=by
 obtain⟨r1,r2,r3,_⟩:=lB hi;have i5:IntKind.i64.wrap (t.d.pc+1)=t.d.pc+1:=an (by show -9223372036854775808<=t.pc+1;omega) (by show t.pc+1<=9223372036854775807;omega);have ho:i.op=0\/i.op=1\/i.op=2\/i.op=3\/i.op=4\/i.op=5\/i.op=6\/i.op=17:=by omega
 have QE:=fun(d:vB) pc=>vJ b d va vs vf vd vl vo o t.av.length cc pc;unfold je;rcases ho with h|h|h|h|h|h|h|h
 . have e:t.gE eW i=t.to (t.pc+1):=by
    unfold aV.gE;rw [ap (by omega),ap (by omega),ap (by omega),ap (by omega),ap (by omega),Int.add_zero]
   rw [e];intro A F hw hS;refine aH Tryz.func82 λ_=>?_;dsimp only [aa,af] at hS;have hq:=eO hS hw;revert hq hS hw;refine W (J5 (od lG) (od lF) (od lE) (od lD) (QE t.d (t.d.pc+1))) (J3 h i5 bF) ?_<;>(unhygienic intros);refine⟨_,by first|rfl|(simp;rfl),by first|trivial|rfl|(simp;done),?_⟩;apply ah.bI
   (·exact sA)
   (·first|exact pA|exact kA)
 . have ha:=r1 (by rw [h];rfl);have wO:=λx=>vK (d:=t.d) (w:=⟨va,vs,vf,vd,.slice o t.av.length cc,vl,vo⟩) (x:=x) ha;have e:t.gE eW i=(t.fp i.a (IntKind.u64.wrap i.bL)).to (t.pc+1):=by
    unfold aV.gE;rw [ay h,ap (by omega),Int.add_zero]
   rw [e];intro A F hw hS;refine aH Tryz.func82 λ_=>?_;dsimp only [aa,af] at hS;have hq:=eO hS hw;revert hq hS hw;(repeat first|clear hq|clear hS|clear hw|revert hc|revert R|revert K);refine W (J5 (od lG) (od lF) (od lE) (od lD) (QE { t.d with df:=t.d.df.set i.a (IntKind.u64.wrap i.bL) } (t.d.pc+1))) (J6 h i5 wO ha.1 ha.2 bF) ?_<;>(unhygienic intros);refine⟨_,by first|rfl|(simp;rfl),by first|trivial|rfl|(simp;done),?_⟩;apply ah.bI
   (·exact sA)
   (·first|exact pA|exact kA)
 . have ha:=r1 (by rw [h];rfl);have hb:=r2 (by rw [h];rfl);have wO:=λx=>vK (d:=t.d) (w:=⟨va,vs,vf,vd,.slice o t.av.length cc,vl,vo⟩) (x:=x) ha;have ym:=oh (d:=t.d) (w:=⟨va,vs,vf,vd,.slice o t.av.length cc,vl,vo⟩) hb;have e:t.gE eW i=(t.fp i.a (t.df.bt i.b)).to (t.pc+1):=by
    unfold aV.gE;rw [ap (by omega),ay h,ap (by omega),Int.add_zero]
   rw [e];intro A F hw hS;refine aH Tryz.func82 λ_=>?_;dsimp only [aa,af] at hS;have hq:=eO hS hw;revert hq hS hw;(repeat first|clear hq|clear hS|clear hw|revert hc|revert R|revert K);refine W (J5 (od lG) (od lF) (od lE) (od lD) (QE { t.d with df:=t.d.df.set i.a (t.d.df.bt i.b) } (t.d.pc+1))) (J9 h i5 wO ym ha.1 ha.2 hb.1 hb.2 bF) ?_<;>(unhygienic intros);refine⟨_,by first|rfl|(simp;rfl),by first|trivial|rfl|(simp;done),?_⟩;apply ah.bI
   (·exact sA)
   (·first|exact pA|exact kA)
 . have ha:=r1 (by rw [h];rfl);have hb:=r2 (by rw [h];rfl);have S7:=r3 (by rw [h];rfl);have wO:=λx=>vK (d:=t.d) (w:=⟨va,vs,vf,vd,.slice o t.av.length cc,vl,vo⟩) (x:=x) ha;have ym:=oh (d:=t.d) (w:=⟨va,vs,vf,vd,.slice o t.av.length cc,vl,vo⟩) hb;have hgr2:=oh (d:=t.d) (w:=⟨va,vs,vf,vd,.slice o t.av.length cc,vl,vo⟩) S7;have e:t.gE eW i=(t.fp i.a (eW i.bL (t.df.bt i.b) (t.df.bt i.c))).to (t.pc+1):=by
    unfold aV.gE;rw [ap (by omega),ap (by omega),ay h,ap (by omega),Int.add_zero]
   have V5:=sS h;rw [e];intro A F hw hS;refine aH Tryz.func82 λ_=>?_;dsimp only [aa,af] at hS;have hq:=eO hS hw
   repeat' (first|(refine jK λR hR=>?_;simp [an,ax,hq,h,i5,wO,ym,hgr2,ha.1,ha.2,hb.1,hb.2,S7.1,S7.2,AW.ab,aD];try simp (disch:=omega) only [ay,ap,an,ax])|(refine hR _ _ ?_;clear hR R)|(refine hK _ _ ?_;clear hK K)|refine nx ?_|refine wn λK hK=>?_|simp only [wS,lG,lF,lE,lD]|refine wl Tryz.mx lG (by decide +kernel) λK hK=>?_|refine wl Tryz.mx lF (by decide +kernel) λK hK=>?_|refine wl Tryz.mx lE (by decide +kernel) λK hK=>?_|refine wl Tryz.mx lD (by decide +kernel) λK hK=>?_|(refine apE hA _ _ _ V5 ?_)|(apply bf.eH (QE { t.d with df:=t.d.df.set i.a (eW i.bL (t.d.df.bt i.b) (t.d.df.bt i.c)) } (t.d.pc+1));(·exact wA);(·exact sA);(·first|exact pA|exact kA);rintro _ _ _ hS hw _;have hS:=lA hS;have hq:=eO hS hw)|(show cB _ _ _ _ _ _;refine nx ?_)|(refine wc rfl (λhc=>?_) (λhc=>?_)<;>(try simp at hc)<;>(try omega))|(refine ib (λhc=>?_) (λhc=>?_)<;>(try omega)<;>(try simp (disch:=omega) only [ay,ap])))
   refine⟨_,by first|rfl|(simp;rfl),by first|trivial|rfl|(simp;done),?_⟩;apply ah.bI
   (·exact sA)
   (·first|exact pA|exact kA)
 . have him:=JZ hi (.inl h);have kS:IntKind.i64.wrap (t.d.pc+1+i.bL)=t.d.pc+1+i.bL:=an (by show -9223372036854775808<=t.pc+1+i.bL;omega) (by show t.pc+1+i.bL<=9223372036854775807;omega);have e:t.gE eW i=t.to (t.pc+1+i.bL):=by
    unfold aV.gE;rw [ap (by omega),ap (by omega),ap (by omega),ap (by omega),ay (.inl h)]
   rw [e];intro A F hw hS;refine aH Tryz.func82 λ_=>?_;dsimp only [aa,af] at hS;have hq:=eO hS hw;revert hq hS hw;(repeat first|clear hq|clear hS|clear hw|revert hc|revert R|revert K);refine W (J5 (od lG) (od lF) (od lE) (od lD) (QE t.d (t.d.pc+1+i.bL))) (J4 h i5 kS bF) ?_<;>(unhygienic intros);refine⟨_,by first|rfl|(simp;rfl),by first|trivial|rfl|(simp;done),?_⟩;apply ah.bI
   (·exact sA)
   (·first|exact pA|exact kA)
 . have ha:=r1 (by rw [h];rfl);have ym:=oh (d:=t.d) (w:=⟨va,vs,vf,vd,.slice o t.av.length cc,vl,vo⟩) ha;have him:=JZ hi (.inr (.inl h));have kS:IntKind.i64.wrap (t.d.pc+1+i.bL)=t.d.pc+1+i.bL:=an (by show -9223372036854775808<=t.pc+1+i.bL;omega) (by show t.pc+1+i.bL<=9223372036854775807;omega);by_cases hz:t.d.df.bt i.a=0
   . have e:t.gE eW i=t.to (t.pc+1+i.bL):=by
      unfold aV.gE;rw [ap (by omega),ap (by omega),ap (by omega),ap (by omega),ay (.inr (.inl ⟨h,hz⟩))]
     rw [e];intro A F hw hS;refine aH Tryz.func82 λ_=>?_;dsimp only [aa,af] at hS;have hq:=eO hS hw;revert hq hS hw;(repeat first|clear hq|clear hS|clear hw|revert hc|revert R|revert K);refine W (J5 (od lG) (od lF) (od lE) (od lD) (QE t.d (t.d.pc+1+i.bL))) (J8 h i5 kS ym hz ha.1 ha.2 bF) ?_<;>(unhygienic intros);refine⟨_,by first|rfl|(simp;rfl),by first|trivial|rfl|(simp;done),?_⟩;apply ah.bI
     (·exact sA)
     (·first|exact pA|exact kA)
   have pV:¬t.df.bt i.a=0:=hz;have e:t.gE eW i=t.to (t.pc+1):=by
    unfold aV.gE;rw [ap (by omega),ap (by omega),ap (by omega),ap (by omega),ap (λhh=>by rcases hh with hh|⟨_,hh⟩|⟨hh,_⟩<;>first|exact pV hh|omega),Int.add_zero]
   rw [e];intro A F hw hS;refine aH Tryz.func82 λ_=>?_;dsimp only [aa,af] at hS;have hq:=eO hS hw;revert hq hS hw;(repeat first|clear hq|clear hS|clear hw|revert hc|revert R|revert K);refine W (J5 (od lG) (od lF) (od lE) (od lD) (QE t.d (t.d.pc+1))) (J7 h i5 ym hz ha.1 ha.2 bF) ?_<;>(unhygienic intros);refine⟨_,by first|rfl|(simp;rfl),by first|trivial|rfl|(simp;done),?_⟩;apply ah.bI
   (·exact sA)
   (·first|exact pA|exact kA)
 . have ha:=r1 (by rw [h];rfl);have ym:=oh (d:=t.d) (w:=⟨va,vs,vf,vd,.slice o t.av.length cc,vl,vo⟩) ha;have him:=JZ hi (.inr (.inr h));have kS:IntKind.i64.wrap (t.d.pc+1+i.bL)=t.d.pc+1+i.bL:=an (by show -9223372036854775808<=t.pc+1+i.bL;omega) (by show t.pc+1+i.bL<=9223372036854775807;omega);by_cases hz:t.d.df.bt i.a=0
   . have pV:t.df.bt i.a=0:=hz;have e:t.gE eW i=t.to (t.pc+1):=by
      unfold aV.gE;rw [ap (by omega),ap (by omega),ap (by omega),ap (by omega),ap (λhh=>by rcases hh with hh|⟨hh,_⟩|⟨_,hh⟩<;>first|exact hh pV|omega),Int.add_zero]
     rw [e];intro A F hw hS;refine aH Tryz.func82 λ_=>?_;dsimp only [aa,af] at hS;have hq:=eO hS hw;revert hq hS hw;(repeat first|clear hq|clear hS|clear hw|revert hc|revert R|revert K);refine W (J5 (od lG) (od lF) (od lE) (od lD) (QE t.d (t.d.pc+1))) (J7 h i5 ym hz ha.1 ha.2 bF) ?_<;>(unhygienic intros);refine⟨_,by first|rfl|(simp;rfl),by first|trivial|rfl|(simp;done),?_⟩;apply ah.bI
     (·exact sA)
     (·first|exact pA|exact kA)
   have pV:t.df.bt i.a≠0:=hz;have e:t.gE eW i=t.to (t.pc+1+i.bL):=by
    unfold aV.gE;rw [ap (by omega),ap (by omega),ap (by omega),ap (by omega),ay (.inr (.inr ⟨h,pV⟩))]
   rw [e];intro A F hw hS;refine aH Tryz.func82 λ_=>?_;dsimp only [aa,af] at hS;have hq:=eO hS hw;revert hq hS hw;(repeat first|clear hq|clear hS|clear hw|revert hc|revert R|revert K);refine W (J5 (od lG) (od lF) (od lE) (od lD) (QE t.d (t.d.pc+1+i.bL))) (J8 h i5 kS ym hz ha.1 ha.2 bF) ?_<;>(unhygienic intros);refine⟨_,by first|rfl|(simp;rfl),by first|trivial|rfl|(simp;done),?_⟩;apply ah.bI
   (·exact sA)
   (·first|exact pA|exact kA)
 have ha:=r1 (by rw [h];rfl);have wO:=λx=>vK (d:=t.d) (w:=⟨va,vs,vf,vd,.slice o t.av.length cc,vl,vo⟩) (x:=x) ha;have e:t.gE eW i=(t.fp i.a (IntKind.u64.wrap t.gA)).to (t.pc+1):=by
  unfold aV.gE;rw [ap (by omega),ap (by omega),ap (by omega),ay h,ap (by omega),Int.add_zero]
 rw [e];intro A F hw hS;refine aH Tryz.func82 λ_=>?_;dsimp only [aa,af] at hS;have hq:=eO hS hw;revert hq hS hw;(repeat first|clear hq|clear hS|clear hw|revert hc|revert R|revert K);refine W (J5 (od lG) (od lF) (od lE) (od lD) (QE { t.d with df:=t.d.df.set i.a (IntKind.u64.wrap t.d.gA) } (t.d.pc+1))) (J6 h i5 wO ha.1 ha.2 bF) ?_<;>(unhygienic intros);refine⟨_,by first|rfl|(simp;rfl),by first|trivial|rfl|(simp;done),?_⟩;apply ah.bI
 (·exact sA)
 (·first|exact pA|exact kA)
end
structure Tp where
 b8:Nat
 dS:Nat
 jr:Nat
 eC:Nat
 vs:Value
 vo:Value
def fl:Option aF->Nat->Value|none,_=>.pointer none|some _,n=>pv n
def fk:Option iJ->Nat->Value|none,_=>.pointer none|some _,n=>pv n
def kg:Option (List eZ)->Nat->Value|none,_=>.pointer none|some _,n=>pv n
def dF:Option aF->Nat->HP|none,_=>eP|some s,n=>aX n s
def dE:Option iJ->Nat->HP|none,_=>eP|some f,n=>pt n (rE f)
def fm:Option (List eZ)->Nat->HP|none,_=>eP|some l,n=>yj n l
structure my where
 bb:Nat
 off:Nat
 ee:Nat
 cD:List Value
abbrev my.o (k:my):dG:=.cells k.cD true 5
structure CR (k:my) (l:List bg):Prop where
 len:l.length<=k.ee
 le:k.off+l.length*5<=k.cD.length
 eq:l.flatMap ao=(k.cD.drop k.off).take (l.length*5)
theorem CR.is {k:my} {l:List bg} (h:CR k l) {A:AW} (hg:A.bt k.bb=some k.o):kl A (.slice (some ⟨k.bb,k.off,none⟩) l.length k.ee) l:=
 .inr ⟨⟨k.bb,k.off,none⟩,k.ee,k.cD,true,5,rfl,h.len,hg,rfl,h.le,h.eq⟩
theorem CR.at {k:my} {l:List bg} (h:CR k l) {i:Nat} (hi:i<l.length):k.off+i*5+5<=k.cD.length/\(k.cD.drop (k.off+i*5)).take 5=ao l[i]:=by
 have h1:=h.le;refine⟨by omega,?_⟩;rw [<-B0 l i hi,h.eq,<-List.drop_drop,List.drop_take,List.take_take];congr 1;omega
theorem P8 {A:AW} {L K:List It} {v:Value} {l:List bg} (h:ah A L) (hp:aB L (.h (E1 v l)) K) (hl:0<l.length) :
 ∃k,v=.slice (some ⟨k.bb,k.off,none⟩) l.length k.ee/\CR k l/\ah A (.at k.bb k.o::K):=by
 unfold ah at h;rw [hp.aL] at h;rcases ep.cases h with ⟨_,h0,_⟩|⟨b,off,c,cD,rfl,h1,h2,h3,h4⟩;omega;exact⟨⟨b,off,c,cD⟩,rfl,⟨h1,h2,h3⟩,h4⟩
theorem Nw {k:my} {l:List bg} (hR:CR k l) {A:AW} {L K:List It} (h:ah A L) (hp:aB L (.at k.bb k.o) K):ah A (.h (E1 (.slice (some ⟨k.bb,k.off,none⟩) l.length k.ee) l)::K):=by
 unfold ah at h;rw [hp.aL] at h;exact ep.mk hR.len hR.le hR.eq h
def ic (q:my) (b:Nat) (t:aV) (f:Tp):List It:=[.at b (oT t.d ⟨fl t.gP f.b8,f.vs,fk t.dx f.dS,kg t.dB f.jr,.slice (some ⟨q.bb,q.off,none⟩) t.av.length q.ee,pv f.eC,f.vo⟩),.h (dF t.gP f.b8),.h (jf f.vs t.d7),.h (dE t.dx f.dS),.h (fm t.dB f.jr),
 .at q.bb q.o,.h (ni f.eC t.cf t.fG),.h (jf f.vo t.gx)]
def fI (q:my) (b:Nat) (t:aV):HP:=pe λf:Tp=>aL (ic q b t f)
theorem fI.open {A:AW} {L K:List It} {q:my} {b:Nat} {t:aV} (h:ah A L) (hp:aB L (.h (fI q b t)) K):∃f,ah A (ic q b t f++K):=ld h hp
theorem fI.dU {A:AW} {L K:List It} {q:my} {b:Nat} {t:aV} {b8 dS jr eC:Nat} {vs vo:Value} (h:ah A L) (e:aQ L (ic q b t ⟨b8,dS,jr,eC,vs,vo⟩) K):ah A (.h (fI q b t)::K):=iH ⟨b8,dS,jr,eC,vs,vo⟩ h e
theorem fI.bI {A:AW} {L K G K2:List It} {q:my} {b:Nat} {t:aV} {b8 dS jr eC:Nat} {vs vo:Value} (h:ah A L) (e:aQ L (ic q b t ⟨b8,dS,jr,eC,vs,vo⟩) K) (e2:aQ K G K2):ah A (.h (fI q b t)::G):=ah.bI (fI.dU h e) (.s .z e2)
theorem bf.TE {P:Program} {f:FuncId} {args:List Value} {q:my} {b:Nat} {t:aV} {rk:List It} {φ:Value->Prop} {post:Value->List It} (hc:bf P f args (.h (fI q b t)::rk) φ post) {b8 dS jr eC:Nat} {vs vo:Value} {A:AW} {L K K0:List It} {k:Value->AW->Prop} (hw:A.Wf) (hS:ah A L)
 (e:aQ L (ic q b t ⟨b8,dS,jr,eC,vs,vo⟩) K0) (e2:aQ K0 rk K) (hk:∀v A',φ v->ah A' (post v++K)->A'.Wf->A.next<=A'.next->k v A'):az P f args A k:=
 bf.eH hc hw (fI.dU hS e) (.s .z e2) hk
theorem d8.TE {ι:Type} {P:Program} {f:FuncId} {args:List Value} {q:my} {b:Nat} {t:aV} {rk:List It} {φ:ι->Value->Prop} {post:ι->List It} (hc:d8 P f args (.h (fI q b t)::rk) φ post) {b8 dS jr eC:Nat} {vs vo:Value} {A:AW} {L K K0:List It} {k:Value->AW->Prop} (hw:A.Wf) (hS:ah A L)
 (e:aQ L (ic q b t ⟨b8,dS,jr,eC,vs,vo⟩) K0) (e2:aQ K0 rk K) (hk:∀x v A',φ x v->ah A' (post x++K)->A'.Wf->A.next<=A'.next->k v A'):az P f args A k:=
 d8.eH hc hw (fI.dU hS e) (.s .z e2) hk
theorem fT {L G K:List It} (h':aQ L G K:=by first|(((try simp only [du,dv,eE]);dsimp only [ic,aV.ot,aV.d,dF,fl,dE,fk,fm,kg,aa,af];(try simp only [du,dv,eE]);(try dsimp only [dF,fl,dE,fk,fm,kg]));(repeat' (first|apply aQ.z|apply aQ.s|apply aB.z|apply aB.pt|apply aB.s));done)|fail):aQ L G K:=h'
end
section
abbrev Ax:List (Nat×Nat):=[(0,0),(1,0),(2,0),(3,0),(4,0),(6,0),(7,0),(8,0),(9,0),(10,0),(5,2),(11,2),(12,0),(13,0)]
abbrev Aw:List (Nat×Nat):=[(0,0),(1,0),(2,0),(3,0),(4,0),(5,0),(6,0),(7,0),(8,0)]
abbrev mI:List (Nat×Nat):=[(0,0),(1,0),(2,0),(3,0),(4,0),(5,0),(6,0),(7,0),(8,0),(9,0),(10,2),(11,0),(12,0)]
abbrev mH:List (Nat×Nat):=[(0,0),(1,0),(2,0),(3,0),(4,0),(5,0),(6,0),(7,0),(8,0),(9,0),(10,3),(11,0),(12,0),(13,3)]
abbrev mG:List (Nat×Nat):=[(0,0),(1,0),(2,0),(3,0),(4,0),(6,0),(5,2),(7,3)]
abbrev mF:List (Nat×Nat):=[(0,0),(1,0),(2,0),(3,0),(4,0),(5,0),(6,0),(7,0),(8,0),(9,0),(10,0),(11,0),(12,0),(13,0),(14,0),(15,0),(16,0),(17,0)]
abbrev mE:List (Nat×Nat):=[(0,0),(1,0),(2,0),(3,0),(4,0),(5,0),(6,0),(7,0),(8,0),(9,0),(10,0),(11,0),(12,0),(13,2),(14,3),(15,0),(16,0),(17,3)]
abbrev mD:List (Nat×Nat):=[(0,0),(1,0),(2,0),(3,0),(4,0),(5,0),(6,0),(7,0),(8,0),(9,0),(10,2),(11,0),(12,3)]
open T7
variable [Gl]
theorem AM (hF:FOK) {q:my} {l:List bg} (hR:CR q l) (k:Int) (RE:0<=k) (hl:(cK l).2=0) (h7:cu l k.toNat=7) {A:AW} {L K:List It} {kk:Value->AW->Prop} (hw:A.Wf) (hS:ah A L) (hp:aB L (.at q.bb q.o) K)
 (hk:kk (.int .i64 (cQ l k.toNat)) A):az Tryz.prog 214 [.slice (some ⟨q.bb,q.off,none⟩) l.length q.ee,.int .i64 k] A kk:=by
 obtain⟨n,rfl⟩:=Int.eq_ofNat_of_zero_le RE;refine bV (Iw hF _ l n A (hR.is (ah.gR hS hp)) (oG (by rw [Int.toNat_natCast] at h7;omega))) ?_;rintro _ _ ⟨rfl,rfl⟩ _ _;have e:AL l n=cQ l n:=by
  unfold AL;rw [ay ⟨by simp [yH,hl],by simpa using h7⟩]
 rw [e]
 simpa using hk
theorem PU (n:Nat) (s:aF) (hl:s.ar.length<2^38):d8 Tryz.prog 212 [pv n] [.h (aX n s)] (λ(x:Option Addr×Nat) v=>v=.slice x.1 s.ar.length x.2) (λx=>[.h (au .i64 (.slice x.1 s.ar.length x.2) s.ar),.h (aX n s)]):=by
 intro A F hw hS;refine bV (Kt n s _ s.aC A hw (aX.Qz (ah.bI hS (.s .z .z)) .z) hl) ?_;rintro u A' ⟨h1,h2⟩ lp _;obtain⟨o,c,rfl,_⟩:=h1.is.dO;exact⟨(o,c),rfl,au.jF hS hw h2 h1⟩
structure N8 (t:aV):Prop where
 cf:cx t.cf
 pc:0<=t.pc/\t.pc<2^40
 gx:t.gx.length+t.d7.length<2^29
 me:t.fG.length<2^27
 tg:0<=t.hU/\t.hU<2^40
 wN:0<=t.gF/\t.gF<2^40
 lR:0<=t.eU/\t.eU<2^40
 oW:(cK t.av).2=0
theorem Cp (q:my) (b:Nat) (t:aV) (s:aF) (i:bg) (du:t.gP=some s) (dv:t.dx=none) (eE:t.dB=none) (hB:N8 t) (kJ:i.op=12\/i.op=13) (hi:bT i=0) :
 bf Tryz.prog 126 [pv b,je i] [.h (fI q b t)] (λ_=>True) (λ_=>[.h (fI q b (t.kU i s))]):=by
 have jV:0<=t.pc/\t.pc<2^40:=hB.pc;have uz:t.gx.length<2^30:=by have:=hB.gx;omega
 obtain⟨r1,r2,_⟩:=lB hi;obtain⟨op,i1,i2,i3,bL⟩:=i;dsimp only at kJ r2;unfold je;by_cases h1:s.av=1
 . rcases kJ with h2|h2
   . subst h2;have e:t.kU ⟨12,i1,i2,i3,bL⟩ s=((({ t with gP:=none,aT:=false }:aV).fp i1 s.value).nk 4 s.value).m9:=by
      unfold aV.kU;dsimp only;rw [ay h1];rfl
     rw [e];intro A F hw di;refine aH Tryz.func126 λ_=>?_;dsimp only [aa,af] at di;obtain⟨⟨b8,dS,jr,eC,vs,vo⟩,hS⟩:=fI.open di .z;clear di;dsimp only [ic,aa,af] at hS;rw [du,dv,eE] at hS;dsimp only [dF,fl,dE,fk,fm,kg] at hS;have hq:=eO hS hw;revert hq hS hw;refine Wu (J5 (Tg.mk (n:=10) (λ{A L K k}=>eF (A:=A) (L:=L) (K:=K) (k:=k) (sU b8 s))) (Tg.mk (n:=10) (λ{A L K k}=>eF (A:=A) (L:=L) (K:=K) (k:=k) (AT b8 s))) (Tg.mk (n:=36) (λx1 x2 x3 x4 x5 x6 x7 x8 x9=>zW b { t.d with aT:=false } x1 x2 x3 x4 x5 x6 x7 x8 x9 i1 i2 i3 bL s.value t.gx hi jV uz)) (od Ax) (od Aw)) (J2 h1 bF) ?_<;>(unhygienic intros);refine⟨_,by first|rfl|(simp;rfl),by first|trivial|rfl|(simp;done),?_⟩;apply fI.bI;apply ah.ll
     (·exact sA)
     . dsimp only [ic,aV.m9,aV.to,aV.nk,aV.fp,aV.eV,aV.jo,aV.d]
       (try simp only [du,dv,eE])
       (·first|exact pA|exact kA)
     (·first|exact pA|exact kA)
     all_goals(first|exact 0|exact undef)
   subst h2;have hb:=r2 rfl;have ym:=λw=>oh (d:={ t.d with aT:=false }) (w:=w) hb;have e:t.kU ⟨13,i1,i2,i3,bL⟩ s=((({ t with gP:=none,aT:=false }:aV)).nk 5 (t.df.bt i2)).m9:=by
    unfold aV.kU;dsimp only;rw [ay h1];rfl
   rw [e];intro A F hw di;refine aH Tryz.func126 λ_=>?_;dsimp only [aa,af] at di;obtain⟨⟨b8,dS,jr,eC,vs,vo⟩,hS⟩:=fI.open di .z;clear di;dsimp only [ic,aa,af] at hS;rw [du,dv,eE] at hS;dsimp only [dF,fl,dE,fk,fm,kg] at hS;have hq:=eO hS hw;revert hq hS hw;(repeat first|clear hq|clear hS|clear hw|revert hc|revert R|revert K);refine Wu (J5 (Tg.mk (n:=10) (λ{A L K k}=>eF (A:=A) (L:=L) (K:=K) (k:=k) (sU b8 s))) (Tg.mk (n:=10) (λ{A L K k}=>eF (A:=A) (L:=L) (K:=K) (k:=k) (AT b8 s))) (Tg.mk (n:=36) (λx1 x2 x3 x4 x5 x6 x7 x8 x9=>zV b { t.d with aT:=false } x1 x2 x3 x4 x5 x6 x7 x8 x9 i1 i2 i3 bL (t.d.df.bt i2) t.gx hi jV uz)) (od Ax) (od Aw)) (J5 h1 ym hb.1 hb.2 bF) ?_<;>(unhygienic intros);refine⟨_,by first|rfl|(simp;rfl),by first|trivial|rfl|(simp;done),?_⟩;apply fI.bI;apply ah.ll
   (·exact sA)
   . dsimp only [ic,aV.m9,aV.to,aV.nk,aV.fp,aV.eV,aV.jo,aV.d]
     (try simp only [du,dv,eE])
     (·first|exact pA|exact kA)
   (·first|exact pA|exact kA)
   all_goals(first|exact 0|exact undef)
 by_cases h2:s.av=6
 . have e:t.kU ⟨op,i1,i2,i3,bL⟩ s=((({ t with gP:=none,aT:=false }:aV)).nk 7 6).m9:=by
    unfold aV.kU;dsimp only;rw [ap h1,ay h2]
   rw [e];intro A F hw di;refine aH Tryz.func126 λ_=>?_;dsimp only [aa,af] at di;obtain⟨⟨b8,dS,jr,eC,vs,vo⟩,hS⟩:=fI.open di .z;clear di;dsimp only [ic,aa,af] at hS;rw [du,dv,eE] at hS;dsimp only [dF,fl,dE,fk,fm,kg] at hS;have hq:=eO hS hw;revert hq hS hw;(repeat first|clear hq|clear hS|clear hw|revert hc|revert R|revert K);refine Wu (J6 (Tg.mk (n:=10) (λ{A L K k}=>eF (A:=A) (L:=L) (K:=K) (k:=k) (sU b8 s))) (Tg.mk (n:=10) (λ{A L K k}=>eF (A:=A) (L:=L) (K:=K) (k:=k) (AT b8 s))) (Tg.mk (n:=36) (λx1=>iB b { t.d with aT:=false } x1 t.gx 7 6 uz)) (Tg.mk (n:=37) (λx1 x2 x3 x4 x5 x6 x7 x8 x9=>jM b { t.d with aT:=false } x1 x2 x3 x4 x5 x6 x7 x8 x9 jV)) (od Ax) (od Aw)) (J3 h1 h2 bF) ?_<;>(unhygienic intros);refine⟨_,by first|rfl|(simp;rfl),by first|trivial|rfl|(simp;done),?_⟩;apply fI.bI;apply ah.ll
   (·exact sA)
   . dsimp only [ic,aV.m9,aV.to,aV.nk,aV.fp,aV.eV,aV.jo,aV.d]
     (try simp only [du,dv,eE])
     (·first|exact pA|exact kA)
   (·first|exact pA|exact kA)
   all_goals(first|exact 0|exact undef)
 have e:t.kU ⟨op,i1,i2,i3,bL⟩ s=({ t with gP:=none,aT:=false }:aV):=by
  unfold aV.kU;dsimp only;rw [ap h1,ap h2]
 rw [e];intro A F hw di;refine aH Tryz.func126 λ_=>?_;dsimp only [aa,af] at di;obtain⟨⟨b8,dS,jr,eC,vs,vo⟩,hS⟩:=fI.open di .z;clear di;dsimp only [ic,aa,af] at hS;rw [du,dv,eE] at hS;dsimp only [dF,fl,dE,fk,fm,kg] at hS;have hq:=eO hS hw;revert hq hS hw;(repeat first|clear hq|clear hS|clear hw|revert hc|revert R|revert K);refine W (J4 (Tg.mk (n:=10) (λ{A L K k}=>eF (A:=A) (L:=L) (K:=K) (k:=k) (sU b8 s))) (Tg.mk (n:=10) (λ{A L K k}=>eF (A:=A) (L:=L) (K:=K) (k:=k) (AT b8 s))) (od Ax) (od Aw)) (J3 h1 h2 bF) ?_<;>(unhygienic intros);refine⟨_,by first|rfl|(simp;rfl),by first|trivial|rfl|(simp;done),?_⟩;apply fI.bI;apply ah.ll
 (·exact sA)
 . dsimp only [ic,aV.m9,aV.to,aV.nk,aV.fp,aV.eV,aV.jo,aV.d]
   (try simp only [du,dv,eE])
   (·first|exact pA|exact kA)
 (·first|exact pA|exact kA)
 all_goals(first|exact 0|exact undef)
theorem Mq (hF:FOK) (q:my) (b:Nat) (t:aV) (s:aF) (du:t.gP=some s) (dv:t.dx=none) (eE:t.dB=none) (hB:N8 t) (h7:cu t.av t.bB.toNat=7) (UZ:0<=t.bB) (s7:∀x∈s.ar,x<2^62) (QJ:s.ar.length<=8) (Am:CR q t.av) :
 bf Tryz.prog 127 [pv b] [.h (fI q b t)] (λ_=>True) (λ_=>[.h (fI q b (t.bI s))]):=by
 have uz:=hB.gx;have UE:t.gx.length+t.d7.length<2^30:=by omega
 have W8:(t.gx++t.d7).length<2^30:=by rw [List.length_append];omega
 have W7:t.gx.length<2^30:=by omega
 have hll:t.fG.length<2^28:=by have:=hB.me;omega
 have hf1:s.ar.length<2^38:=by omega
 have IU:s.ar.length<2^28:=by omega
 have tG:=hB.cf;have H2:t.bB.toNat<t.av.length:=oG (by omega);have uM:t.bB<t.av.length:=by omega
 have him:t.sQ t.bB=t.av[t.bB.toNat]:=by
  unfold aV.sQ;rw [List.getD_eq_getElem?_getD,List.getElem?_eq_getElem H2];rfl
 have N0:IntKind.i64.wrap ((cQ t.av t.bB.toNat:Int)+1)=(cQ t.av t.bB.toNat:Int)+1:=by
  have h64:=(fY hB.oW).1;have h65:=(jS (p:=t.av) (k:=t.bB.toNat+1) (by omega)).2.1;unfold cQ;exact an (by omega) (by omega)
 by_cases h1:s.av=1
 . by_cases h2:0<s.ar.length
   . have e:t.bI s=({ t with gP:=none,gx:=t.gx++t.d7,fG:=lS t.cf t.fG s.sX s.ar }:aV).jo 1:=by
      unfold aV.bI aV.nf;rw [ap (by omega),ay h1,ay h2,h1]
     rw [e];intro A F hw di;refine aH Tryz.func127 λ_=>?_;dsimp only [aa,af] at di;obtain⟨⟨b8,dS,jr,eC,vs,vo⟩,hS⟩:=fI.open di .z;clear di;dsimp only [ic,aa,af] at hS;rw [du,dv,eE] at hS;dsimp only [dF,fl,dE,fk,fm,kg] at hS;have hq:=eO hS hw
     repeat' (first|(with_reducible apply O7;(·first|(simp;done)|(simp;rfl));(·first|(simp;done)|(simp;rfl));(·exact wA);(·exact sA);(·first|exact pA|exact kA);(·first|exact AW.dw _ _|((repeat' (first|apply aB.z|apply aB.s));done)|(simp [hq];(repeat' (first|rfl|refine⟨rfl,?_⟩));done)|(simp;done)|(simp;rfl)|(simp [hq];done)|(simp [hq];rfl));(·first|omega|(simp;omega));(·intro _ _;trivial);rintro _ _ _ hS hw _;(try dsimp only [AW.bx] at hS);have hq:=eO hS hw)|(with_reducible apply Ex;(·first|(simp;done)|(simp;rfl));(·first|(simp;done)|(simp;rfl));(·exact wA);(·exact sA);(·first|exact pA|exact kA);(·first|exact AW.dw _ _|((repeat' (first|apply aB.z|apply aB.s));done)|(simp [hq];(repeat' (first|rfl|refine⟨rfl,?_⟩));done)|(simp;done)|(simp;rfl)|(simp [hq];done)|(simp [hq];rfl));(·first|omega|(simp;omega));(·intro _ _;trivial);rintro _ _ _ hS hw _;(try dsimp only [AW.bx] at hS);have hq:=eO hS hw)|(refine jK λR hR=>?_;simp [an,ax,hq,N0,h1,h2,AW.ab,aD];try simp (disch:=omega) only [ay,ap,an,ax])|(refine hR _ _ ?_;clear hR R)|(refine hK _ _ ?_;clear hK K)|refine nx ?_|refine wn λK hK=>?_|simp only [wS,mI,mH,mG,mF,mE,mD]|refine wl Tryz.mx mI (by decide +kernel) λK hK=>?_|refine wl Tryz.mx mH (by decide +kernel) λK hK=>?_|refine wl Tryz.mx mG (by decide +kernel) λK hK=>?_|refine wl Tryz.mx mF (by decide +kernel) λK hK=>?_|refine wl Tryz.mx mE (by decide +kernel) λK hK=>?_|refine wl Tryz.mx mD (by decide +kernel) λK hK=>?_|(apply eF (sU b8 s);(·exact wA);(·exact sA);(·first|exact pA|exact kA);)|(apply eF (G5 b8 s);(·exact wA);(·exact sA);(·first|exact pA|exact kA);)|(apply d8.eH (PU b8 s hf1);(·exact wA);(·exact sA);(·first|exact pA|exact kA);(rintro xw _ _ rfl hS hw _;have hS:=lA hS;(try (have hq:=eO hS hw))))|(apply bf.eH (HQ eC t.cf tG t.fG s.sX _ s.ar s7 hll IU);(·exact wA);(·exact sA);(·first|exact pA|exact kA);rintro _ _ _ hS hw _;have hS:=lA hS;have hq:=eO hS hw)|(apply AM hF Am t.bB UZ hB.oW h7;(·exact wA);(·exact sA);(·first|exact pA|exact kA);)|(apply bf.eH (vJ b _ _ _ _ _ _ _ _ _ _ _);(·exact wA);(·exact sA);(·first|exact pA|exact kA);rintro _ _ _ hS hw _;have hS:=lA hS;have hq:=eO hS hw)|(show cB _ _ _ _ _ _;refine nx ?_)|(refine wc rfl (λhc=>?_) (λhc=>?_)<;>(try simp at hc)<;>(try omega))|(refine ib (λhc=>?_) (λhc=>?_)<;>(try omega)<;>(try simp (disch:=omega) only [ay,ap])))
     try simp only [List.length_append] at hS
     refine⟨_,by first|rfl|(simp;rfl),by first|trivial|rfl|(simp;done),?_⟩;apply fI.bI;apply ah.ll
     (·exact sA)
     . dsimp only [ic,aV.m9,aV.to,aV.nk,aV.fp,aV.eV,aV.jo,aV.d]
       (try simp only [du,dv,eE])
       (·first|exact pA|exact kA)
     (·first|exact pA|exact kA)
     all_goals(first|exact 0|exact undef)
   have e:t.bI s=({ t with gP:=none,gx:=t.gx++t.d7 }:aV).jo 1:=by
    unfold aV.bI aV.nf;rw [ap (by omega),ay h1,ap h2,h1]
   have h3:s.ar.length=0:=(by omega);rw [e];intro A F hw di;refine aH Tryz.func127 λ_=>?_;dsimp only [aa,af] at di;obtain⟨⟨b8,dS,jr,eC,vs,vo⟩,hS⟩:=fI.open di .z;clear di;dsimp only [ic,aa,af] at hS;rw [du,dv,eE] at hS;dsimp only [dF,fl,dE,fk,fm,kg] at hS;have hq:=eO hS hw
   repeat' (first|(with_reducible apply O7;(·first|(simp;done)|(simp;rfl));(·first|(simp;done)|(simp;rfl));(·exact wA);(·exact sA);(·first|exact pA|exact kA);(·first|exact AW.dw _ _|((repeat' (first|apply aB.z|apply aB.s));done)|(simp [hq];(repeat' (first|rfl|refine⟨rfl,?_⟩));done)|(simp;done)|(simp;rfl)|(simp [hq];done)|(simp [hq];rfl));(·first|omega|(simp;omega));(·intro _ _;trivial);rintro _ _ _ hS hw _;(try dsimp only [AW.bx] at hS);have hq:=eO hS hw)|(with_reducible apply Ex;(·first|(simp;done)|(simp;rfl));(·first|(simp;done)|(simp;rfl));(·exact wA);(·exact sA);(·first|exact pA|exact kA);(·first|exact AW.dw _ _|((repeat' (first|apply aB.z|apply aB.s));done)|(simp [hq];(repeat' (first|rfl|refine⟨rfl,?_⟩));done)|(simp;done)|(simp;rfl)|(simp [hq];done)|(simp [hq];rfl));(·first|omega|(simp;omega));(·intro _ _;trivial);rintro _ _ _ hS hw _;(try dsimp only [AW.bx] at hS);have hq:=eO hS hw)|(refine jK λR hR=>?_;simp [an,ax,hq,N0,h1,h3,AW.ab,aD];try simp (disch:=omega) only [ay,ap,an,ax])|(refine hR _ _ ?_;clear hR R)|(refine hK _ _ ?_;clear hK K)|refine nx ?_|refine wn λK hK=>?_|simp only [wS,mI,mH,mG,mF,mE,mD]|refine wl Tryz.mx mI (by decide +kernel) λK hK=>?_|refine wl Tryz.mx mH (by decide +kernel) λK hK=>?_|refine wl Tryz.mx mG (by decide +kernel) λK hK=>?_|refine wl Tryz.mx mF (by decide +kernel) λK hK=>?_|refine wl Tryz.mx mE (by decide +kernel) λK hK=>?_|refine wl Tryz.mx mD (by decide +kernel) λK hK=>?_|(apply eF (sU b8 s);(·exact wA);(·exact sA);(·first|exact pA|exact kA);)|(apply eF (G5 b8 s);(·exact wA);(·exact sA);(·first|exact pA|exact kA);)|(apply d8.eH (PU b8 s hf1);(·exact wA);(·exact sA);(·first|exact pA|exact kA);(rintro xw _ _ rfl hS hw _;have hS:=lA hS;(try (have hq:=eO hS hw))))|(apply AM hF Am t.bB UZ hB.oW h7;(·exact wA);(·exact sA);(·first|exact pA|exact kA);)|(apply bf.eH (vJ b _ _ _ _ _ _ _ _ _ _ _);(·exact wA);(·exact sA);(·first|exact pA|exact kA);rintro _ _ _ hS hw _;have hS:=lA hS;have hq:=eO hS hw)|(show cB _ _ _ _ _ _;refine nx ?_)|(refine wc rfl (λhc=>?_) (λhc=>?_)<;>(try simp at hc)<;>(try omega))|(refine ib (λhc=>?_) (λhc=>?_)<;>(try omega)<;>(try simp (disch:=omega) only [ay,ap])))
   try simp only [List.length_append] at hS
   refine⟨_,by first|rfl|(simp;rfl),by first|trivial|rfl|(simp;done),?_⟩;apply fI.bI;apply ah.ll
   (·exact sA)
   . dsimp only [ic,aV.m9,aV.to,aV.nk,aV.fp,aV.eV,aV.jo,aV.d]
     (try simp only [du,dv,eE])
     (·first|exact pA|exact kA)
   (·first|exact pA|exact kA)
   all_goals(first|exact 0|exact undef)
 by_cases h9:s.av=9
 . obtain⟨HZ,s8⟩:=Am.at H2;have hcell:q.cD[q.off+t.d.bB.toNat*5+4]? = some (.int .i64 (t.sQ t.bB).bL):=by
    rw [him];exact HR s8 4 (by omega)
   have Ak:q.off+t.d.bB.toNat*5+5<=q.cD.length:=HZ;have N5:0<=t.d.bB:=UZ;have ks:t.d.bB<(t.av.length:Int):=uM;by_cases h2:t.d.gF<(t.sQ t.bB).bL
   . have e:t.bI s=({ t with gP:=none,df:=t.jg }:aV).to t.bB:=by
      unfold aV.bI aV.nf;rw [ay h9,ay (show t.gF<(t.sQ t.bB).bL from h2),ap h1]
     rw [e];intro A F hw di;refine aH Tryz.func127 λ_=>?_;dsimp only [aa,af] at di;obtain⟨⟨b8,dS,jr,eC,vs,vo⟩,hS⟩:=fI.open di .z;clear di;dsimp only [ic,aa,af] at hS;rw [du,dv,eE] at hS;dsimp only [dF,fl,dE,fk,fm,kg] at hS;have hq:=eO hS hw
     repeat' (first|(refine jK λR hR=>?_;simp [an,ax,hq,N0,h1,h9,h2,hcell,N5,ks,AW.ab,aD];try simp (disch:=omega) only [ay,ap,an,ax])|(refine hR _ _ ?_;clear hR R)|(refine hK _ _ ?_;clear hK K)|refine nx ?_|refine wn λK hK=>?_|simp only [wS,mI,mH,mG,mF,mE,mD]|refine wl Tryz.mx mI (by decide +kernel) λK hK=>?_|refine wl Tryz.mx mH (by decide +kernel) λK hK=>?_|refine wl Tryz.mx mG (by decide +kernel) λK hK=>?_|refine wl Tryz.mx mF (by decide +kernel) λK hK=>?_|refine wl Tryz.mx mE (by decide +kernel) λK hK=>?_|refine wl Tryz.mx mD (by decide +kernel) λK hK=>?_|(apply eF (sU b8 s);(·exact wA);(·exact sA);(·first|exact pA|exact kA);)|(apply bf.eH (vJ b _ _ _ _ _ _ _ _ _ _ _);(·exact wA);(·exact sA);(·first|exact pA|exact kA);rintro _ _ _ hS hw _;have hS:=lA hS;have hq:=eO hS hw)|(show cB _ _ _ _ _ _;refine nx ?_)|(refine wc rfl (λhc=>?_) (λhc=>?_)<;>(try simp at hc)<;>(try omega))|(refine ib (λhc=>?_) (λhc=>?_)<;>(try omega)<;>(try simp (disch:=omega) only [ay,ap])))
     try simp only [List.length_append] at hS
     refine⟨_,by first|rfl|(simp;rfl),by first|trivial|rfl|(simp;done),?_⟩;apply fI.bI;apply ah.ll
     (·exact sA)
     . dsimp only [ic,aV.m9,aV.to,aV.nk,aV.fp,aV.eV,aV.jo,aV.d]
       (try simp only [du,dv,eE])
       (·first|exact pA|exact kA)
     (·first|exact pA|exact kA)
     all_goals(first|exact 0|exact undef)
   have e:t.bI s=({ t with gP:=none,df:=t.jg }:aV).jo 5:=by
    unfold aV.bI aV.nf;rw [ay h9,ap (show ¬t.gF<(t.sQ t.bB).bL from h2),ap h1]
   rw [e];intro A F hw di;refine aH Tryz.func127 λ_=>?_;dsimp only [aa,af] at di;obtain⟨⟨b8,dS,jr,eC,vs,vo⟩,hS⟩:=fI.open di .z;clear di;dsimp only [ic,aa,af] at hS;rw [du,dv,eE] at hS;dsimp only [dF,fl,dE,fk,fm,kg] at hS;have hq:=eO hS hw
   repeat' (first|(with_reducible apply Ex;(·first|(simp;done)|(simp;rfl));(·first|(simp;done)|(simp;rfl));(·exact wA);(·exact sA);(·first|exact pA|exact kA);(·first|exact AW.dw _ _|((repeat' (first|apply aB.z|apply aB.s));done)|(simp [hq];(repeat' (first|rfl|refine⟨rfl,?_⟩));done)|(simp;done)|(simp;rfl)|(simp [hq];done)|(simp [hq];rfl));(·first|omega|(simp;omega));(·intro _ _;trivial);rintro _ _ _ hS hw _;(try dsimp only [AW.bx] at hS);have hq:=eO hS hw)|(refine jK λR hR=>?_;simp [an,ax,hq,N0,h1,h9,h2,hcell,N5,ks,AW.ab,aD];try simp (disch:=omega) only [ay,ap,an,ax])|(refine hR _ _ ?_;clear hR R)|(refine hK _ _ ?_;clear hK K)|refine nx ?_|refine wn λK hK=>?_|simp only [wS,mI,mH,mG,mF,mE,mD]|refine wl Tryz.mx mI (by decide +kernel) λK hK=>?_|refine wl Tryz.mx mH (by decide +kernel) λK hK=>?_|refine wl Tryz.mx mG (by decide +kernel) λK hK=>?_|refine wl Tryz.mx mF (by decide +kernel) λK hK=>?_|refine wl Tryz.mx mE (by decide +kernel) λK hK=>?_|refine wl Tryz.mx mD (by decide +kernel) λK hK=>?_|(apply eF (sU b8 s);(·exact wA);(·exact sA);(·first|exact pA|exact kA);)|(apply AM hF Am t.bB UZ hB.oW h7;(·exact wA);(·exact sA);(·first|exact pA|exact kA);)|(apply bf.eH (vJ b _ _ _ _ _ _ _ _ _ _ _);(·exact wA);(·exact sA);(·first|exact pA|exact kA);rintro _ _ _ hS hw _;have hS:=lA hS;have hq:=eO hS hw)|(show cB _ _ _ _ _ _;refine nx ?_)|(refine wc rfl (λhc=>?_) (λhc=>?_)<;>(try simp at hc)<;>(try omega))|(refine ib (λhc=>?_) (λhc=>?_)<;>(try omega)<;>(try simp (disch:=omega) only [ay,ap])))
   try simp only [List.length_append] at hS
   refine⟨_,by first|rfl|(simp;rfl),by first|trivial|rfl|(simp;done),?_⟩;apply fI.bI;apply ah.ll
   (·exact sA)
   . dsimp only [ic,aV.m9,aV.to,aV.nk,aV.fp,aV.eV,aV.jo,aV.d]
     (try simp only [du,dv,eE])
     (·first|exact pA|exact kA)
   (·first|exact pA|exact kA)
   all_goals(first|exact 0|exact undef)
 have e:t.bI s=({ t with gP:=none,df:=t.jg }:aV).jo s.av:=by
  unfold aV.bI aV.nf;rw [ap h9,ap h1]
 rw [e];intro A F hw di;refine aH Tryz.func127 λ_=>?_;dsimp only [aa,af] at di;obtain⟨⟨b8,dS,jr,eC,vs,vo⟩,hS⟩:=fI.open di .z;clear di;dsimp only [ic,aa,af] at hS;rw [du,dv,eE] at hS;dsimp only [dF,fl,dE,fk,fm,kg] at hS;have hq:=eO hS hw
 repeat' (first|(with_reducible apply Ex;(·first|(simp;done)|(simp;rfl));(·first|(simp;done)|(simp;rfl));(·exact wA);(·exact sA);(·first|exact pA|exact kA);(·first|exact AW.dw _ _|((repeat' (first|apply aB.z|apply aB.s));done)|(simp [hq];(repeat' (first|rfl|refine⟨rfl,?_⟩));done)|(simp;done)|(simp;rfl)|(simp [hq];done)|(simp [hq];rfl));(·first|omega|(simp;omega));(·intro _ _;trivial);rintro _ _ _ hS hw _;(try dsimp only [AW.bx] at hS);have hq:=eO hS hw)|(refine jK λR hR=>?_;simp [an,ax,hq,N0,h1,h9,AW.ab,aD];try simp (disch:=omega) only [ay,ap,an,ax])|(refine hR _ _ ?_;clear hR R)|(refine hK _ _ ?_;clear hK K)|refine nx ?_|refine wn λK hK=>?_|simp only [wS,mI,mH,mG,mF,mE,mD]|refine wl Tryz.mx mI (by decide +kernel) λK hK=>?_|refine wl Tryz.mx mH (by decide +kernel) λK hK=>?_|refine wl Tryz.mx mG (by decide +kernel) λK hK=>?_|refine wl Tryz.mx mF (by decide +kernel) λK hK=>?_|refine wl Tryz.mx mE (by decide +kernel) λK hK=>?_|refine wl Tryz.mx mD (by decide +kernel) λK hK=>?_|(apply eF (sU b8 s);(·exact wA);(·exact sA);(·first|exact pA|exact kA);)|(apply AM hF Am t.bB UZ hB.oW h7;(·exact wA);(·exact sA);(·first|exact pA|exact kA);)|(apply bf.eH (vJ b _ _ _ _ _ _ _ _ _ _ _);(·exact wA);(·exact sA);(·first|exact pA|exact kA);rintro _ _ _ hS hw _;have hS:=lA hS;have hq:=eO hS hw)|(show cB _ _ _ _ _ _;refine nx ?_)|(refine wc rfl (λhc=>?_) (λhc=>?_)<;>(try simp at hc)<;>(try omega))|(refine ib (λhc=>?_) (λhc=>?_)<;>(try omega)<;>(try simp (disch:=omega) only [ay,ap])))
 try simp only [List.length_append] at hS
 refine⟨_,by first|rfl|(simp;rfl),by first|trivial|rfl|(simp;done),?_⟩;apply fI.bI;apply ah.ll
 (·exact sA)
 . dsimp only [ic,aV.m9,aV.to,aV.nk,aV.fp,aV.eV,aV.jo,aV.d]
   (try simp only [du,dv,eE])
   (·first|exact pA|exact kA)
 (·first|exact pA|exact kA)
 all_goals(first|exact 0|exact undef)
theorem DY (hF:FOK) (q:my) (b:Nat) (t:aV) (s:aF) (i:bg) (du:t.gP=some s) (dv:t.dx=none) (eE:t.dB=none) (hB:N8 t) (hi:bT i=0) (cL:t.aT=true->i.op=12\/i.op=13) (VP:t.aT=false->cu t.av t.bB.toNat=7/\0<=t.bB) (s7:∀x∈s.ar,x<2^62) (QJ:s.ar.length<=8) (Am:CR q t.av) :
 bf Tryz.prog 73 [pv b,je i] [.h (fI q b t)] (λ_=>True) (λ_=>[.h (fI q b (t.rI i s))]):=by
 have jV:0<=t.pc/\t.pc<2^40:=hB.pc;have W5:t.d7.length<2^30:=by have:=hB.gx;omega
 obtain⟨r1,_⟩:=lB hi;obtain⟨op,i1,i2,i3,bL⟩:=i;dsimp only at cL r1;unfold je;by_cases h1:s.aA=2
 . cases hs:t.aT with
   | true=>
     have zD:t.d.aT=true:=hs;have e:t.rI ⟨op,i1,i2,i3,bL⟩ s=t.kU ⟨op,i1,i2,i3,bL⟩ s:=by
      unfold aV.rI;rw [ay h1,ay hs]
     have hes:=Cp q b t s ⟨op,i1,i2,i3,bL⟩ du dv eE hB (cL hs) hi;rw [e];intro A F hw di;refine aH Tryz.func73 λ_=>?_;dsimp only [aa,af] at di;obtain⟨⟨b8,dS,jr,eC,vs,vo⟩,hS⟩:=fI.open di .z;clear di;dsimp only [ic,aa,af] at hS;rw [du,dv,eE] at hS;dsimp only [dF,fl,dE,fk,fm,kg] at hS;have hq:=eO hS hw;revert hq hS hw;refine Wu (J2 (Tg.mk (n:=10) (λ{A L K k}=>eF (A:=A) (L:=L) (K:=K) (k:=k) (yx b8 s))) (Tg.mk (n:=34) @hes)) (J3 h1 zD bF) ?_<;>(unhygienic intros);exact⟨_,by first|rfl|(simp;rfl),trivial,ah.bI hS (.s .z (.s (by repeat' (first|apply aB.z|apply aB.s)) .z))⟩
   | false=>
     have zD:t.d.aT=false:=hs;have e:t.rI ⟨op,i1,i2,i3,bL⟩ s=t.bI s:=by
      unfold aV.rI;rw [ay h1,ap (by rw [hs];decide)]
     have hes:=Mq hF q b t s du dv eE hB (VP hs).1 (VP hs).2 s7 QJ Am;rw [e];intro A F hw di;refine aH Tryz.func73 λ_=>?_;dsimp only [aa,af] at di;obtain⟨⟨b8,dS,jr,eC,vs,vo⟩,hS⟩:=fI.open di .z;clear di;dsimp only [ic,aa,af] at hS;rw [du,dv,eE] at hS;dsimp only [dF,fl,dE,fk,fm,kg] at hS;have hq:=eO hS hw;revert hq hS hw;(repeat first|clear hq|clear hS|clear hw|revert hc|revert R|revert K);refine Wu (J2 (Tg.mk (n:=10) (λ{A L K k}=>eF (A:=A) (L:=L) (K:=K) (k:=k) (yx b8 s))) (Tg.mk (n:=34) @hes)) (J3 h1 zD bF) ?_<;>(unhygienic intros);exact⟨_,by first|rfl|(simp;rfl),trivial,ah.bI hS (.s .z (.s (by repeat' (first|apply aB.z|apply aB.s)) .z))⟩
 cases hs:t.aT with
 | true=>
   have zD:t.d.aT=true:=hs;have e:t.rI ⟨op,i1,i2,i3,bL⟩ s=t:=by
    unfold aV.rI;rw [ap h1,ay hs]
   rw [e];intro A F hw di;refine aH Tryz.func73 λ_=>?_;dsimp only [aa,af] at di;obtain⟨⟨b8,dS,jr,eC,vs,vo⟩,hS⟩:=fI.open di .z;clear di;dsimp only [ic,aa,af] at hS;rw [du,dv,eE] at hS;dsimp only [dF,fl,dE,fk,fm,kg] at hS;have hq:=eO hS hw;revert hq hS hw;(repeat first|clear hq|clear hS|clear hw|revert hc|revert R|revert K);refine W (J1 (Tg.mk (n:=10) (λ{A L K k}=>eF (A:=A) (L:=L) (K:=K) (k:=k) (yx b8 s)))) (J3 h1 zD bF) ?_<;>(unhygienic intros);refine⟨_,by first|rfl|(simp;rfl),by first|trivial|rfl|(simp;done),?_⟩;apply fI.bI
   (·exact sA)
   . dsimp only [ic,aV.m9,aV.to,aV.nk,aV.fp,aV.eV,aV.jo,aV.d]
     (try simp only [du,dv,eE])
     (·first|exact pA|exact kA)
   (·first|exact pA|exact kA)
   all_goals(first|exact 0|exact undef)
 | false=>
   have zD:t.d.aT=false:=hs;by_cases h2:op=10
   . subst h2;have ha:=r1 rfl;have e:t.rI ⟨10,i1,i2,i3,bL⟩ s=(t.eV i1 1 s.value).m9:=by
      unfold aV.rI;rw [ap h1,ap (by rw [hs];decide),ay rfl]
     rw [e];intro A F hw di;refine aH Tryz.func73 λ_=>?_;dsimp only [aa,af] at di;obtain⟨⟨b8,dS,jr,eC,vs,vo⟩,hS⟩:=fI.open di .z;clear di;dsimp only [ic,aa,af] at hS;rw [du,dv,eE] at hS;dsimp only [dF,fl,dE,fk,fm,kg] at hS;have hq:=eO hS hw;revert hq hS hw;(repeat first|clear hq|clear hS|clear hw|revert hc|revert R|revert K);refine Wu (J3 (Tg.mk (n:=10) (λ{A L K k}=>eF (A:=A) (L:=L) (K:=K) (k:=k) (yx b8 s))) (Tg.mk (n:=36) (λx1 x2 x3 x4 x5 x6=>H9 b b8 t.d x1 x2 x3 x4 x5 x6 s t.d7 i1 1 ha W5)) (Tg.mk (n:=37) (λx1 x2 x3 x4 x5 x6 x7 x8 x9=>jM b { t.d with df:=t.d.df.set i1 s.value } x1 x2 x3 x4 x5 x6 x7 x8 x9 jV))) (J3 h1 zD bF) ?_<;>(unhygienic intros);refine⟨_,by first|rfl|(simp;rfl),by first|trivial|rfl|(simp;done),?_⟩;apply fI.bI
     (·exact sA)
     . dsimp only [ic,aV.m9,aV.to,aV.nk,aV.fp,aV.eV,aV.jo,aV.d]
       (try simp only [du,dv,eE])
       (·first|exact pA|exact kA)
     (·first|exact pA|exact kA)
     all_goals(first|exact 0|exact undef)
   by_cases h3:op=14
   . subst h3;have ha:=r1 rfl;have e:t.rI ⟨14,i1,i2,i3,bL⟩ s=(t.eV i1 2 s.value).m9:=by
      unfold aV.rI;rw [ap h1,ap (by rw [hs];decide),ap (show ¬(14:Int)=10 by decide),ay rfl]
     rw [e];intro A F hw di;refine aH Tryz.func73 λ_=>?_;dsimp only [aa,af] at di;obtain⟨⟨b8,dS,jr,eC,vs,vo⟩,hS⟩:=fI.open di .z;clear di;dsimp only [ic,aa,af] at hS;rw [du,dv,eE] at hS;dsimp only [dF,fl,dE,fk,fm,kg] at hS;have hq:=eO hS hw;revert hq hS hw;(repeat first|clear hq|clear hS|clear hw|revert hc|revert R|revert K);refine Wu (J3 (Tg.mk (n:=10) (λ{A L K k}=>eF (A:=A) (L:=L) (K:=K) (k:=k) (yx b8 s))) (Tg.mk (n:=36) (λx1 x2 x3 x4 x5 x6=>H9 b b8 t.d x1 x2 x3 x4 x5 x6 s t.d7 i1 2 ha W5)) (Tg.mk (n:=37) (λx1 x2 x3 x4 x5 x6 x7 x8 x9=>jM b { t.d with df:=t.d.df.set i1 s.value } x1 x2 x3 x4 x5 x6 x7 x8 x9 jV))) (J3 h1 zD bF) ?_<;>(unhygienic intros);refine⟨_,by first|rfl|(simp;rfl),by first|trivial|rfl|(simp;done),?_⟩;apply fI.bI
     (·exact sA)
     . dsimp only [ic,aV.m9,aV.to,aV.nk,aV.fp,aV.eV,aV.jo,aV.d]
       (try simp only [du,dv,eE])
       (·first|exact pA|exact kA)
     (·first|exact pA|exact kA)
     all_goals(first|exact 0|exact undef)
   have e:t.rI ⟨op,i1,i2,i3,bL⟩ s=t.m9:=by
    unfold aV.rI;rw [ap h1,ap (by rw [hs];decide),ap h2,ap h3]
   rw [e];intro A F hw di;refine aH Tryz.func73 λ_=>?_;dsimp only [aa,af] at di;obtain⟨⟨b8,dS,jr,eC,vs,vo⟩,hS⟩:=fI.open di .z;clear di;dsimp only [ic,aa,af] at hS;rw [du,dv,eE] at hS;dsimp only [dF,fl,dE,fk,fm,kg] at hS;have hq:=eO hS hw;revert hq hS hw;(repeat first|clear hq|clear hS|clear hw|revert hc|revert R|revert K);refine Wu (J2 (Tg.mk (n:=10) (λ{A L K k}=>eF (A:=A) (L:=L) (K:=K) (k:=k) (yx b8 s))) (Tg.mk (n:=37) (λx1 x2 x3 x4 x5 x6 x7 x8 x9=>jM b t.d x1 x2 x3 x4 x5 x6 x7 x8 x9 jV))) (J5 h1 zD h2 h3 bF) ?_<;>(unhygienic intros);refine⟨_,by first|rfl|(simp;rfl),by first|trivial|rfl|(simp;done),?_⟩;apply fI.bI
   (·exact sA)
   . dsimp only [ic,aV.m9,aV.to,aV.nk,aV.fp,aV.eV,aV.jo,aV.d]
     (try simp only [du,dv,eE])
     (·first|exact pA|exact kA)
   (·first|exact pA|exact kA)
   all_goals(first|exact 0|exact undef)
end
section
open Go.Proofs Go
variable [Gl]
def Np (e:St) (r w:Value):List Value:=[.int .i64 e.br,.int .i64 e.ak,.int .i64 e.gd,.int .i64 e.word,r,w]
abbrev IP:=St×Value×Value
def tQ (q:List IP):List Value:=q.flatMap λy=>Np y.1 y.2.1 y.2.2
def Va (y:IP):HP:=au .i64 y.2.1 y.1.reads*au .i64 y.2.2 y.1.cM
def L0 (q:List IP):HP:=q.foldr (λy P=>Va y*P) eP
def Vb (v:Value) (q:List IP):List It:=[.h (ep 6 v q.length (tQ q)),.h (L0 q)]
def kh (v:Value) (l:List St):HP:=pe λx:{ q:List IP // q.map Prod.fst=l }=>aL (Vb v x.1)
section
variable {A:AW} {L K K1 K2:List It} {v:Value}
theorem kh.dU {l:List St} {q:List IP} (hq:q.map Prod.fst=l) (h:ah A L) (e:aQ L (Vb v q) K):ah A (.h (kh v l)::K):=iH (g:=λx:{ q:List IP // q.map Prod.fst=l }=>Vb v x.1) ⟨q,hq⟩ h e
theorem kh.nil (h:ah A L):ah A (.h (kh (.slice none 0 0) [])::L):=by
 have h1:ah A (.h eP::L):=ah.ll h;have h2:ah A (.h (ep 6 (.slice none 0 0) 0 [])::.h eP::L):=ep.nil h1;exact kh.dU (q:=[]) rfl h2 (.s .z (.s .z .z))
theorem kh.aY {n:Nat} {e:St} {r w:Value} (h:ah A L) (h1:aB L (.at n (.cells (Np e r w) true 6)) K) (h2:aB K (.h (au .i64 r e.reads)) K1) (h3:aB K1 (.h (au .i64 w e.cM)) K2):ah A (.h (kh (.slice (some ⟨n,0,none⟩) 1 1) [e])::K2):=by
 unfold ah at h;rw [h1.aL,h2.aL,h3.aL] at h;have h4:bn A (pt n (.cells (Np e r w) true 6)*(au .i64 r e.reads*(au .i64 w e.cM*aL K2))):=h;have e0:tQ [(e,r,w)]=Np e r w:=by simp [tQ]
 have h5:ah A (.h (ep 6 (.slice (some ⟨n,0,none⟩) 1 1) [(e,r,w)].length (tQ [(e,r,w)]))::.h (L0 [(e,r,w)])::K2):=by
  rw [e0];refine ep.mk (size:=6) (n:=1) (off:=0) (c:=1) (cD:=Np e r w) (Nat.le_refl _) (Nat.le_refl _) rfl ?_;refine h4.dV ?_;show _=pt n (.cells (Np e r w) true 6)*(((au .i64 r e.reads*au .i64 w e.cM)*eP)*aL K2);rw [dt]
  ac_rfl
 exact kh.dU (q:=[(e,r,w)]) rfl h5 (.s .z (.s .z .z))
end
def dL (s:gu):Value:=.agg #[.int .i64 s.ak,.int .i64 s.xh,.int .i64 s.L8,.int .i64 s.Ap.gd,.int .i64 s.Ap.cell,.int .i64 s.Ap.dm,.int .u64 s.Ap.eV,.int .u64 s.Ap.put,.bool s.Ap.done]
end
section
abbrev mC:List (Nat×Nat):=[(0,0),(1,0),(2,0),(3,0),(4,0),(5,0),(6,0),(7,0),(8,0),(9,0),(10,0),(11,0),(12,3)]
open T2
variable [Gl]
theorem Gv (hF:FOK) (q:my) (b pb:Nat) (t:aV) (s:aF) (M:Mm) (du:t.gP=some s) (dv:t.dx=none) (eE:t.dB=none) (hB:N8 t) (xF:GI s M) (hC:fN (bE s M).2.2.1) (hi:bT t.eX=0) (cF:t.pc<t.av.length)
 (cL:t.aT=true->t.eX.op=12\/t.eX.op=13) (VP:t.aT=false->cu t.av t.bB.toNat=7/\0<=t.bB) (s7:∀x∈(bE s M).2.2.1.ar,x<2^62) (QJ:(bE s M).2.2.1.ar.length<=8) (Am:CR q t.av) :
 d8 Tryz.prog 35 [pv b,pv pb] [.h (fI q b t),dH pb M] (λev v=>v=.tuple #[dL (t.vz M s).1,ev]) (λev=>[.h (fI q b (t.vz M s).2.2.1),dH pb (t.vz M s).2.2.2,.h (kh ev (t.vz M s).2.1)]):=by
 have io:=λn=>Mv n pb s M xF;unfold fh at io;unfold aV.vz;generalize bE s M=r at io hC s7 QJ ⊢;obtain⟨ac,ph,s',M'⟩:=r;dsimp only at io hC s7 QJ ⊢;have jV:0<=t.pc/\t.pc<2^40:=hB.pc;have B8:t.pc.toNat<t.av.length:=by omega
 obtain⟨HZ,s8⟩:=Am.at B8;have UH:t.av[t.pc.toNat]=t.eX:=by
  unfold aV.eX aV.sQ;rw [List.getD_eq_getElem?_getD,List.getElem?_eq_getElem B8];rfl
 rw [UH] at s8;have Ak:q.off+t.d.pc.toNat*5+5<=q.cD.length:=HZ;have Cd:(q.cD.drop (q.off+t.d.pc.toNat*5)).take 5=ao t.eX:=s8;have LQ:0<=t.d.pc:=jV.1;have MZ:t.d.pc<(t.av.length:Int):=cF;have hB':N8 ({ t with gP:=some s' }:aV):=⟨hB.cf,hB.pc,hB.gx,hB.me,hB.tg,hB.wN,hB.lR,hB.oW⟩;have RS:=DY hF q b { t with gP:=some s' } s' t.eX rfl dv eE hB' hi cL VP s7 QJ Am;by_cases h3:ph=3
 . rw [ay h3];subst h3;by_cases hb:s'.gD=true
   . rw [ay hb];have tf:=λn=>sV n s';simp only [hb] at tf;intro A F hw di;refine aH Tryz.func35 λ_=>?_;dsimp only [aa,af] at di;obtain⟨⟨b8,dS,jr,eC,vs,vo⟩,hS⟩:=fI.open di .z;clear di;dsimp only [ic,aa,af] at hS;rw [du,dv,eE] at hS;dsimp only [dF,fl,dE,fk,fm,kg] at hS;have hq:=ke hS hw;revert hq hS hw;refine W (J3 (Tg.mk (n:=10) (λ{A L K k}=>eF (A:=A) (L:=L) (K:=K) (k:=k) (tf b8))) (od mC) (io b8)) (J3 bF @bd.eq_1 @aU.v.eq_1) ?_<;>(unhygienic intros);refine⟨_,by first|rfl|(simp;rfl)|(simp [hq,AW.ab,aD];rfl),?_⟩;apply u9
     (·first|rfl|(simp [dL,aU.v,aU.zero];done)|(simp [dL,aU.v,aU.zero];rfl))
     apply fI.bI
     . skip
       apply kh.aY (e:=⟨0,t.id,3,0,[],[]⟩) (r:=.slice none 0 0) (w:=.slice none 0 0);apply ah.pS .i64;apply ah.pS .i64
       (·exact sA)
       (·repeat' (first|apply aB.z|apply aB.s))
       (·repeat' (first|apply aB.z|apply aB.s))
       (·repeat' (first|apply aB.z|apply aB.s))
     . dsimp only [ic,aV.m9,aV.to,aV.nk,aV.fp,aV.eV,aV.jo,aV.d]
       (try simp only [du,dv,eE])
       (·first|exact pA|exact kA)
     (·first|exact pA|exact kA)
     all_goals(first|exact 0|exact undef)
   rw [ap hb];have ks:s'.gD=false:=by simpa using hb
   have tf:=λn=>sV n s';simp only [ks] at tf;intro A F hw di;refine aH Tryz.func35 λ_=>?_;dsimp only [aa,af] at di;obtain⟨⟨b8,dS,jr,eC,vs,vo⟩,hS⟩:=fI.open di .z;clear di;dsimp only [ic,aa,af] at hS;rw [du,dv,eE] at hS;dsimp only [dF,fl,dE,fk,fm,kg] at hS;have hq:=ke hS hw;revert hq hS hw;(repeat first|clear hq|clear hS|clear hw|revert hc|revert R|revert K);refine Wu (J4 (Tg.mk (n:=10) (λ{A L K k}=>eF (A:=A) (L:=L) (K:=K) (k:=k) (tf b8))) (Tg.mk (n:=34) @RS) (od mC) (io b8)) (J7 Ak Cd LQ MZ bF @bd.eq_1 @aU.v.eq_1) ?_<;>(unhygienic intros);refine⟨_,by first|rfl|(simp;rfl)|(simp [hq,AW.ab,aD];rfl),?_⟩;apply u9
   (·first|rfl|(simp [dL,aU.v,aU.zero];done)|(simp [dL,aU.v,aU.zero];rfl))
   apply ah.bI
   . skip
     apply kh.aY (e:=⟨0,t.id,3,0,[],[]⟩) (r:=.slice none 0 0) (w:=.slice none 0 0);apply ah.pS .i64;apply ah.pS .i64
     (·exact sA)
     (·repeat' (first|apply aB.z|apply aB.s))
     (·repeat' (first|apply aB.z|apply aB.s))
     (·repeat' (first|apply aB.z|apply aB.s))
   (·first|exact pA|exact kA)
 rw [ap h3];by_cases wR:ph=16
 . subst wR;have S5:=λn=>P6 n s';by_cases Cc:s'.ai=true
   . rw [ay (⟨rfl,Cc⟩:(16:Int)=16/\s'.ai=true)];simp only [Cc] at S5;by_cases h1:s'.av=1
     . rw [ay h1];have hcz:=λn=>sU n s';simp only [h1] at hcz;by_cases hb:s'.gD=true
       . rw [ay hb];have tf:=λn=>sV n s';simp only [hb] at tf;intro A F hw di;refine aH Tryz.func35 λ_=>?_;dsimp only [aa,af] at di;obtain⟨⟨b8,dS,jr,eC,vs,vo⟩,hS⟩:=fI.open di .z;clear di;dsimp only [ic,aa,af] at hS;rw [du,dv,eE] at hS;dsimp only [dF,fl,dE,fk,fm,kg] at hS;have hq:=ke hS hw;revert hq hS hw;(repeat first|clear hq|clear hS|clear hw|revert hc|revert R|revert K);refine W (J6 (Tg.mk (n:=10) (λ{A L K k}=>eF (A:=A) (L:=L) (K:=K) (k:=k) (tf b8))) (Tg.mk (n:=10) (λ{A L K k}=>eF (A:=A) (L:=L) (K:=K) (k:=k) (S5 b8))) (Tg.mk (n:=10) (λ{A L K k}=>eF (A:=A) (L:=L) (K:=K) (k:=k) (hcz b8))) (Tg.mk (n:=32) (E5 b8 s' hC)) (od mC) (io b8)) (J3 bF @bd.eq_1 @aU.v.eq_1) ?_<;>(unhygienic intros);refine⟨_,by first|rfl|(simp;rfl)|(simp [hq,AW.ab,aD];rfl),?_⟩;apply u9
         (·first|rfl|(simp [dL,aU.v,aU.zero];done)|(simp [dL,aU.v,aU.zero];rfl))
         apply fI.bI
         . skip
           apply kh.aY (e:=⟨0,t.id,4,0,s'.reads,kO s'⟩)
           (·exact sA)
           (·repeat' (first|apply aB.z|apply aB.s))
           (·repeat' (first|apply aB.z|apply aB.s))
           (·repeat' (first|apply aB.z|apply aB.s))
         . dsimp only [ic,aV.m9,aV.to,aV.nk,aV.fp,aV.eV,aV.jo,aV.d]
           (try simp only [du,dv,eE])
           (·first|exact pA|exact kA)
         (·first|exact pA|exact kA)
         all_goals(first|exact 0|exact undef)
       rw [ap hb];have ks:s'.gD=false:=by simpa using hb
       have tf:=λn=>sV n s';simp only [ks] at tf;intro A F hw di;refine aH Tryz.func35 λ_=>?_;dsimp only [aa,af] at di;obtain⟨⟨b8,dS,jr,eC,vs,vo⟩,hS⟩:=fI.open di .z;clear di;dsimp only [ic,aa,af] at hS;rw [du,dv,eE] at hS;dsimp only [dF,fl,dE,fk,fm,kg] at hS;have hq:=ke hS hw;revert hq hS hw;(repeat first|clear hq|clear hS|clear hw|revert hc|revert R|revert K);refine Wu (J7 (Tg.mk (n:=10) (λ{A L K k}=>eF (A:=A) (L:=L) (K:=K) (k:=k) (tf b8))) (Tg.mk (n:=34) @RS) (Tg.mk (n:=10) (λ{A L K k}=>eF (A:=A) (L:=L) (K:=K) (k:=k) (S5 b8))) (Tg.mk (n:=10) (λ{A L K k}=>eF (A:=A) (L:=L) (K:=K) (k:=k) (hcz b8))) (Tg.mk (n:=32) (E5 b8 s' hC)) (od mC) (io b8)) (J7 Ak Cd LQ MZ bF @bd.eq_1 @aU.v.eq_1) ?_<;>(unhygienic intros);refine⟨_,by first|rfl|(simp;rfl)|(simp [hq,AW.ab,aD];rfl),?_⟩;apply u9
       (·first|rfl|(simp [dL,aU.v,aU.zero];done)|(simp [dL,aU.v,aU.zero];rfl))
       apply ah.bI
       . skip
         apply kh.aY (e:=⟨0,t.id,4,0,s'.reads,kO s'⟩)
         (·exact sA)
         (·repeat' (first|apply aB.z|apply aB.s))
         (·repeat' (first|apply aB.z|apply aB.s))
         (·repeat' (first|apply aB.z|apply aB.s))
       (·first|exact pA|exact kA)
     rw [ap h1];by_cases hb:s'.gD=true
     . rw [ay hb];have tf:=λn=>sV n s';simp only [hb] at tf;intro A F hw di;refine aH Tryz.func35 λ_=>?_;dsimp only [aa,af] at di;obtain⟨⟨b8,dS,jr,eC,vs,vo⟩,hS⟩:=fI.open di .z;clear di;dsimp only [ic,aa,af] at hS;rw [du,dv,eE] at hS;dsimp only [dF,fl,dE,fk,fm,kg] at hS;have hq:=ke hS hw;revert hq hS hw;(repeat first|clear hq|clear hS|clear hw|revert hc|revert R|revert K);refine W (J6 (Tg.mk (n:=10) (λ{A L K k}=>eF (A:=A) (L:=L) (K:=K) (k:=k) (tf b8))) (Tg.mk (n:=10) (λ{A L K k}=>eF (A:=A) (L:=L) (K:=K) (k:=k) (S5 b8))) (Tg.mk (n:=10) (λ{A L K k}=>eF (A:=A) (L:=L) (K:=K) (k:=k) (sU b8 s'))) (Tg.mk (n:=32) (E5 b8 s' hC)) (od mC) (io b8)) (J4 h1 bF @bd.eq_1 @aU.v.eq_1) ?_<;>(unhygienic intros);refine⟨_,by first|rfl|(simp;rfl)|(simp [hq,AW.ab,aD];rfl),?_⟩;apply u9
       (·first|rfl|(simp [dL,aU.v,aU.zero];done)|(simp [dL,aU.v,aU.zero];rfl))
       apply fI.bI
       . skip
         apply kh.aY (e:=⟨0,t.id,4,0,s'.reads,[]⟩) (w:=.slice none 0 0);apply ah.pS .i64
         (·exact sA)
         (·repeat' (first|apply aB.z|apply aB.s))
         (·repeat' (first|apply aB.z|apply aB.s))
         (·repeat' (first|apply aB.z|apply aB.s))
       . dsimp only [ic,aV.m9,aV.to,aV.nk,aV.fp,aV.eV,aV.jo,aV.d]
         (try simp only [du,dv,eE])
         (·first|exact pA|exact kA)
       (·first|exact pA|exact kA)
       all_goals(first|exact 0|exact undef)
     rw [ap hb];have ks:s'.gD=false:=by simpa using hb
     have tf:=λn=>sV n s';simp only [ks] at tf;intro A F hw di;refine aH Tryz.func35 λ_=>?_;dsimp only [aa,af] at di;obtain⟨⟨b8,dS,jr,eC,vs,vo⟩,hS⟩:=fI.open di .z;clear di;dsimp only [ic,aa,af] at hS;rw [du,dv,eE] at hS;dsimp only [dF,fl,dE,fk,fm,kg] at hS;have hq:=ke hS hw;revert hq hS hw;(repeat first|clear hq|clear hS|clear hw|revert hc|revert R|revert K);refine Wu (J7 (Tg.mk (n:=10) (λ{A L K k}=>eF (A:=A) (L:=L) (K:=K) (k:=k) (tf b8))) (Tg.mk (n:=34) @RS) (Tg.mk (n:=10) (λ{A L K k}=>eF (A:=A) (L:=L) (K:=K) (k:=k) (S5 b8))) (Tg.mk (n:=10) (λ{A L K k}=>eF (A:=A) (L:=L) (K:=K) (k:=k) (sU b8 s'))) (Tg.mk (n:=32) (E5 b8 s' hC)) (od mC) (io b8)) (J8 h1 Ak Cd LQ MZ bF @bd.eq_1 @aU.v.eq_1) ?_<;>(unhygienic intros);refine⟨_,by first|rfl|(simp;rfl)|(simp [hq,AW.ab,aD];rfl),?_⟩;apply u9
     (·first|rfl|(simp [dL,aU.v,aU.zero];done)|(simp [dL,aU.v,aU.zero];rfl))
     apply ah.bI
     . skip
       apply kh.aY (e:=⟨0,t.id,4,0,s'.reads,[]⟩) (w:=.slice none 0 0);apply ah.pS .i64
       (·exact sA)
       (·repeat' (first|apply aB.z|apply aB.s))
       (·repeat' (first|apply aB.z|apply aB.s))
       (·repeat' (first|apply aB.z|apply aB.s))
     (·first|exact pA|exact kA)
   rw [ap (λhh:(16:Int)=16/\s'.ai=true=>Cc hh.2)];have hdc2:s'.ai=false:=by simpa using Cc
   simp only [hdc2] at S5;by_cases hb:s'.gD=true
   . rw [ay hb];have tf:=λn=>sV n s';simp only [hb] at tf;intro A F hw di;refine aH Tryz.func35 λ_=>?_;dsimp only [aa,af] at di;obtain⟨⟨b8,dS,jr,eC,vs,vo⟩,hS⟩:=fI.open di .z;clear di;dsimp only [ic,aa,af] at hS;rw [du,dv,eE] at hS;dsimp only [dF,fl,dE,fk,fm,kg] at hS;have hq:=ke hS hw;revert hq hS hw;(repeat first|clear hq|clear hS|clear hw|revert hc|revert R|revert K);refine W (J4 (Tg.mk (n:=10) (λ{A L K k}=>eF (A:=A) (L:=L) (K:=K) (k:=k) (tf b8))) (Tg.mk (n:=10) (λ{A L K k}=>eF (A:=A) (L:=L) (K:=K) (k:=k) (S5 b8))) (od mC) (io b8)) (J3 bF @bd.eq_1 @aU.v.eq_1) ?_<;>(unhygienic intros);refine⟨_,by first|rfl|(simp;rfl)|(simp [hq,AW.ab,aD];rfl),?_⟩;apply u9
     (·first|rfl|(simp [dL,aU.v,aU.zero];done)|(simp [dL,aU.v,aU.zero];rfl))
     apply fI.bI
     . skip
       apply kh.nil
       (·exact sA)
     . dsimp only [ic,aV.m9,aV.to,aV.nk,aV.fp,aV.eV,aV.jo,aV.d]
       (try simp only [du,dv,eE])
       (·first|exact pA|exact kA)
     (·first|exact pA|exact kA)
     all_goals(first|exact 0|exact undef)
   rw [ap hb];have ks:s'.gD=false:=by simpa using hb
   have tf:=λn=>sV n s';simp only [ks] at tf;intro A F hw di;refine aH Tryz.func35 λ_=>?_;dsimp only [aa,af] at di;obtain⟨⟨b8,dS,jr,eC,vs,vo⟩,hS⟩:=fI.open di .z;clear di;dsimp only [ic,aa,af] at hS;rw [du,dv,eE] at hS;dsimp only [dF,fl,dE,fk,fm,kg] at hS;have hq:=ke hS hw;revert hq hS hw;(repeat first|clear hq|clear hS|clear hw|revert hc|revert R|revert K);refine Wu (J5 (Tg.mk (n:=10) (λ{A L K k}=>eF (A:=A) (L:=L) (K:=K) (k:=k) (tf b8))) (Tg.mk (n:=34) @RS) (Tg.mk (n:=10) (λ{A L K k}=>eF (A:=A) (L:=L) (K:=K) (k:=k) (S5 b8))) (od mC) (io b8)) (J7 Ak Cd LQ MZ bF @bd.eq_1 @aU.v.eq_1) ?_<;>(unhygienic intros);refine⟨_,by first|rfl|(simp;rfl)|(simp [hq,AW.ab,aD];rfl),?_⟩;apply u9
   (·first|rfl|(simp [dL,aU.v,aU.zero];done)|(simp [dL,aU.v,aU.zero];rfl))
   apply ah.bI
   . skip
     apply kh.nil
     (·exact sA)
   (·first|exact pA|exact kA)
 rw [ap (λhh:ph=16/\s'.ai=true=>wR hh.1)];by_cases hb:s'.gD=true
 . rw [ay hb];have tf:=λn=>sV n s';simp only [hb] at tf;intro A F hw di;refine aH Tryz.func35 λ_=>?_;dsimp only [aa,af] at di;obtain⟨⟨b8,dS,jr,eC,vs,vo⟩,hS⟩:=fI.open di .z;clear di;dsimp only [ic,aa,af] at hS;rw [du,dv,eE] at hS;dsimp only [dF,fl,dE,fk,fm,kg] at hS;have hq:=ke hS hw;revert hq hS hw;(repeat first|clear hq|clear hS|clear hw|revert hc|revert R|revert K);refine W (J3 (Tg.mk (n:=10) (λ{A L K k}=>eF (A:=A) (L:=L) (K:=K) (k:=k) (tf b8))) (od mC) (io b8)) (J5 h3 wR bF @bd.eq_1 @aU.v.eq_1) ?_<;>(unhygienic intros);refine⟨_,by first|rfl|(simp;rfl)|(simp [hq,AW.ab,aD];rfl),?_⟩;apply u9
   (·first|rfl|(simp [dL,aU.v,aU.zero];done)|(simp [dL,aU.v,aU.zero];rfl))
   apply fI.bI
   . skip
     apply kh.nil
     (·exact sA)
   . dsimp only [ic,aV.m9,aV.to,aV.nk,aV.fp,aV.eV,aV.jo,aV.d]
     (try simp only [du,dv,eE])
     (·first|exact pA|exact kA)
   (·first|exact pA|exact kA)
   all_goals(first|exact 0|exact undef)
 rw [ap hb];have ks:s'.gD=false:=by simpa using hb
 have tf:=λn=>sV n s';simp only [ks] at tf;intro A F hw di;refine aH Tryz.func35 λ_=>?_;dsimp only [aa,af] at di;obtain⟨⟨b8,dS,jr,eC,vs,vo⟩,hS⟩:=fI.open di .z;clear di;dsimp only [ic,aa,af] at hS;rw [du,dv,eE] at hS;dsimp only [dF,fl,dE,fk,fm,kg] at hS;have hq:=ke hS hw;revert hq hS hw;(repeat first|clear hq|clear hS|clear hw|revert hc|revert R|revert K);refine Wu (J4 (Tg.mk (n:=10) (λ{A L K k}=>eF (A:=A) (L:=L) (K:=K) (k:=k) (tf b8))) (Tg.mk (n:=34) @RS) (od mC) (io b8)) (J9 h3 wR Ak Cd LQ MZ bF @bd.eq_1 @aU.v.eq_1) ?_<;>(unhygienic intros);refine⟨_,by first|rfl|(simp;rfl)|(simp [hq,AW.ab,aD];rfl),?_⟩;apply u9
 (·first|rfl|(simp [dL,aU.v,aU.zero];done)|(simp [dL,aU.v,aU.zero];rfl))
 apply ah.bI
 . skip
   apply kh.nil
   (·exact sA)
 (·first|exact pA|exact kA)
end
section
abbrev mB:List (Nat×Nat):=[(0,0),(1,0),(2,0),(3,0),(4,0),(5,0),(6,0),(7,0),(8,0),(9,0),(10,2),(11,3),(12,0),(13,0),(14,0),(15,3)]
open T24
variable [Gl]
theorem aB.pt {n:Nat} {o:dG} {L:List It}:aB (.at n o::L) (.h (pt n o)) L:=.e rfl
theorem ah.Ht {A:AW} {L K:List It} {n:Nat} {o:dG} (h:ah A L) (hp:aB L (.h (pt n o)) K):ah A (.at n o::K):=by
 unfold ah at h ⊢;rw [hp.aL] at h;exact h
theorem Hm (a:aU) (A:AW):et 65 [a.v] A (.int .i64 (gL a)):=by
 refine az.rR (V:=.int .i64 (gL a)) (by simp) (λhw=>?_) (by kernel_rfl);refine aH Tryz.func65 λ_=>?_;unfold aU.v gL;by_cases h1:a.cell=8
 . refine W cy (J2 h1 bF) ?_<;>intros;exact⟨_,by first|(simp;done)|(simp;rfl),by simp [h1],AW.le.alloc _ _⟩
 by_cases h2:a.gd=3
 . refine W cy (J3 h1 h2 bF) ?_<;>intros;exact⟨_,by first|(simp;done)|(simp;rfl),by simp [h1,h2],AW.le.alloc _ _⟩
 refine W cy (J3 h1 h2 bF) ?_<;>intros;exact⟨_,by first|(simp;done)|(simp;rfl),by simp [h1,h2],AW.le.alloc _ _⟩
theorem Lr (a:aU) {A:AW} {k:Value->AW->Prop} (hk:k (.int .i64 (gL a)) A):az Tryz.prog 65 [a.v] A k:=by
 refine bV (Hm a A) ?_;rintro _ _ ⟨rfl,rfl⟩ _ _;exact hk
theorem AK (p:Nat) (l:List eZ) (r:Bool) (h:decide (l.length=0)=r):bf Tryz.prog 66 [pv p] [.h (yj p l)] (λv=>v=.bool r) (λ_=>[.h (yj p l)]):=by
 subst h;exact Iq p l
theorem Eb (q:my) (b pb:Nat) (t:aV) (M:Mm) (f:iJ) (du:t.gP=none) (dv:t.dx=some f) (hB:N8 t) (hn:0<=f.next/\f.next<2^39) (Pz:∀x∈t.fG,x.1<2^62) (hdl:∀l,t.dB=some l->l≠[]/\l.length<2^28) :
 bf Tryz.prog 33 [pv b,pv pb] [.h (fI q b t),dH pb M] (λv=>v=dL (t.uH M f).1) (λ_=>[.h (fI q b (t.uH M f).2.1),dH pb (t.uH M f).2.2]):=by
 have jV:0<=t.pc/\t.pc<2^40:=hB.pc;have uz:t.gx.length<2^30:=by have:=hB.gx;omega
 have hll:t.fG.length<2^28:=by have:=hB.me;omega
 have tG:=hB.cf;unfold aV.uH;cases eE:t.dB with
 | none=>
   dsimp only;have cL:=λn=>F6 n pb f M hn;have QK:=λn A hg=>lP n (gq f M).2 A hg;have VZ:=λn A hg=>DS n (gq f M).2 A hg;generalize hr:gq f M=r at cL QK VZ ⊢;obtain⟨ac,f'⟩:=r;dsimp only at cL QK VZ ⊢;by_cases mr:f'.done=true
   . simp only [mr] at QK;rw [ay mr];cases s4:kH t.cf t.fG f'.me with
     | nil=>
       have e:({ t with dx:=some f',dB:=some [],fG:=jk t.fG f'.me }:aV).jH=(({ t with dx:=none,dB:=none,fG:=jk t.fG f'.me }:aV).nk 6 0).m9:=rfl;rw [e];have N3:=λn=>AK n [] true rfl;have Kf:=λn=>s4▸u5 n t.cf tG t.fG f'.me Pz hll;by_cases h3:ac.cell=3
       . rw [ay h3];intro A F hw di;refine aH Tryz.func33 λ_=>?_;dsimp only [aa,af] at di;obtain⟨⟨b8,dS,jr,eC,vs,vo⟩,iI⟩:=fI.open di .z;clear di;dsimp only [ic,aa,af] at iI;rw [du,dv,eE] at iI;dsimp only [dF,fl,dE,fk,fm,kg] at iI;have hS:=ah.Ht iI (.s (.s (.s .z)));clear iI;have hq:=nA hS hw;revert hq hS hw;refine Wu (J8 (Tg.mk (n:=10) (λ{A L K k}=>k9 (A:=A) (L:=L) (K:=K) (k:=k) (QK dS))) (Tg.mk (n:=10) (λ{A L K k}=>k9 (A:=A) (L:=L) (K:=K) (k:=k) (VZ dS))) (Tg.mk (n:=32) (Kf eC)) (Tg.mk (n:=36) (λx1=>iB b t.d x1 t.gx 6 0 uz)) (Tg.mk (n:=37) (λx1 x2 x3 x4 x5 x6 x7 x8 x9=>jM b t.d x1 x2 x3 x4 x5 x6 x7 x8 x9 jV)) (od mB) (cL dS) @N3) (J4 h3 bF @bd.eq_1 @aU.v.eq_1) ?_<;>(unhygienic intros);refine⟨_,by first|rfl|(simp;rfl)|(simp [hq,AW.ab,aD];rfl),by first|trivial|rfl|(simp [dL,aU.v,aU.zero];done)|(simp [dL,aU.v,aU.zero,h3];done)|(simp [dL,aU.v,aU.zero];rfl),?_⟩;apply fI.bI;apply ah.ll
         apply ah.ll
         (·exact sA)
         . dsimp only [ic,aV.m9,aV.to,aV.nk,aV.fp,aV.eV,aV.jo,aV.d]
           (try simp only [du,dv,eE])
           dsimp only [dF,fl,dE,fk,fm,kg]
           (·repeat' (first|apply aQ.z|apply aQ.s|apply aB.z|apply aB.pt|apply aB.s))
         (·repeat' (first|apply aQ.z|apply aQ.s|apply aB.z|apply aB.pt|apply aB.s))
         all_goals(first|exact 0|exact undef)
       rw [ap h3];intro A F hw di;refine aH Tryz.func33 λ_=>?_;dsimp only [aa,af] at di;obtain⟨⟨b8,dS,jr,eC,vs,vo⟩,iI⟩:=fI.open di .z;clear di;dsimp only [ic,aa,af] at iI;rw [du,dv,eE] at iI;dsimp only [dF,fl,dE,fk,fm,kg] at iI;have hS:=ah.Ht iI (.s (.s (.s .z)));clear iI;have hq:=nA hS hw;revert hq hS hw;(repeat first|clear hq|clear hS|clear hw|revert hc|revert R|revert K);refine Wu (J8 (Tg.mk (n:=10) (λ{A L K k}=>k9 (A:=A) (L:=L) (K:=K) (k:=k) (QK dS))) (Tg.mk (n:=10) (λ{A L K k}=>k9 (A:=A) (L:=L) (K:=K) (k:=k) (VZ dS))) (Tg.mk (n:=32) (Kf eC)) (Tg.mk (n:=36) (λx1=>iB b t.d x1 t.gx 6 0 uz)) (Tg.mk (n:=37) (λx1 x2 x3 x4 x5 x6 x7 x8 x9=>jM b t.d x1 x2 x3 x4 x5 x6 x7 x8 x9 jV)) (od mB) (cL dS) @N3) (J4 h3 bF @bd.eq_1 @aU.v.eq_1) ?_<;>(unhygienic intros);refine⟨_,by first|rfl|(simp;rfl)|(simp [hq,AW.ab,aD];rfl),by first|trivial|rfl|(simp [dL,aU.v,aU.zero];done)|(simp [dL,aU.v,aU.zero,h3];done)|(simp [dL,aU.v,aU.zero];rfl),?_⟩
       apply fI.bI;apply ah.ll;apply ah.ll
       (·exact sA)
       . dsimp only [ic,aV.m9,aV.to,aV.nk,aV.fp,aV.eV,aV.jo,aV.d]
         (try simp only [du,dv,eE])
         dsimp only [dF,fl,dE,fk,fm,kg]
         (·repeat' (first|apply aQ.z|apply aQ.s|apply aB.z|apply aB.pt|apply aB.s))
       (·repeat' (first|apply aQ.z|apply aQ.s|apply aB.z|apply aB.pt|apply aB.s))
       all_goals(first|exact 0|exact undef)
     | cons x l=>
       have e:({ t with dx:=some f',dB:=some (x::l),fG:=jk t.fG f'.me }:aV).jH={ t with dx:=some f',dB:=some (x::l),fG:=jk t.fG f'.me }:=rfl;rw [e];have N3:=λn=>AK n (x::l) false rfl;have Kf:=λn=>s4▸u5 n t.cf tG t.fG f'.me Pz hll;by_cases h3:ac.cell=3
       . rw [ay h3];intro A F hw di;refine aH Tryz.func33 λ_=>?_;dsimp only [aa,af] at di;obtain⟨⟨b8,dS,jr,eC,vs,vo⟩,iI⟩:=fI.open di .z;clear di;dsimp only [ic,aa,af] at iI;rw [du,dv,eE] at iI;dsimp only [dF,fl,dE,fk,fm,kg] at iI;have hS:=ah.Ht iI (.s (.s (.s .z)));clear iI;have hq:=nA hS hw;revert hq hS hw;(repeat first|clear hq|clear hS|clear hw|revert hc|revert R|revert K);refine W (J6 (Tg.mk (n:=10) (λ{A L K k}=>k9 (A:=A) (L:=L) (K:=K) (k:=k) (QK dS))) (Tg.mk (n:=10) (λ{A L K k}=>k9 (A:=A) (L:=L) (K:=K) (k:=k) (VZ dS))) (Tg.mk (n:=32) (Kf eC)) (od mB) (cL dS) @N3) (J4 h3 bF @bd.eq_1 @aU.v.eq_1) ?_<;>(unhygienic intros);refine⟨_,by first|rfl|(simp;rfl)|(simp [hq,AW.ab,aD];rfl),by first|trivial|rfl|(simp [dL,aU.v,aU.zero];done)|(simp [dL,aU.v,aU.zero,h3];done)|(simp [dL,aU.v,aU.zero];rfl),?_⟩;apply fI.bI;apply ah.ll;apply ah.ll
         (·exact sA)
         . dsimp only [ic,aV.m9,aV.to,aV.nk,aV.fp,aV.eV,aV.jo,aV.d]
           (try simp only [du,dv,eE])
           dsimp only [dF,fl,dE,fk,fm,kg]
           (·repeat' (first|apply aQ.z|apply aQ.s|apply aB.z|apply aB.pt|apply aB.s))
         (·repeat' (first|apply aQ.z|apply aQ.s|apply aB.z|apply aB.pt|apply aB.s))
         all_goals(first|exact 0|exact undef)
       rw [ap h3];intro A F hw di;refine aH Tryz.func33 λ_=>?_;dsimp only [aa,af] at di;obtain⟨⟨b8,dS,jr,eC,vs,vo⟩,iI⟩:=fI.open di .z;clear di;dsimp only [ic,aa,af] at iI;rw [du,dv,eE] at iI;dsimp only [dF,fl,dE,fk,fm,kg] at iI;have hS:=ah.Ht iI (.s (.s (.s .z)));clear iI;have hq:=nA hS hw;revert hq hS hw;(repeat first|clear hq|clear hS|clear hw|revert hc|revert R|revert K);refine W (J6 (Tg.mk (n:=10) (λ{A L K k}=>k9 (A:=A) (L:=L) (K:=K) (k:=k) (QK dS))) (Tg.mk (n:=10) (λ{A L K k}=>k9 (A:=A) (L:=L) (K:=K) (k:=k) (VZ dS))) (Tg.mk (n:=32) (Kf eC)) (od mB) (cL dS) @N3) (J4 h3 bF @bd.eq_1 @aU.v.eq_1) ?_<;>(unhygienic intros);refine⟨_,by first|rfl|(simp;rfl)|(simp [hq,AW.ab,aD];rfl),by first|trivial|rfl|(simp [dL,aU.v,aU.zero];done)|(simp [dL,aU.v,aU.zero,h3];done)|(simp [dL,aU.v,aU.zero];rfl),?_⟩;apply fI.bI;apply ah.ll;apply ah.ll
       (·exact sA)
       . dsimp only [ic,aV.m9,aV.to,aV.nk,aV.fp,aV.eV,aV.jo,aV.d]
         (try simp only [du,dv,eE])
         dsimp only [dF,fl,dE,fk,fm,kg]
         (·repeat' (first|apply aQ.z|apply aQ.s|apply aB.z|apply aB.pt|apply aB.s))
       (·repeat' (first|apply aQ.z|apply aQ.s|apply aB.z|apply aB.pt|apply aB.s))
       all_goals(first|exact 0|exact undef)
   have hdn2:f'.done=false:=by simpa using mr
   simp only [hdn2] at QK;rw [ap mr];have e:({ t with dx:=some f',dB:=none }:aV).jH={ t with dx:=some f',dB:=none }:=rfl;rw [e];by_cases h3:ac.cell=3
   . rw [ay h3];intro A F hw di;refine aH Tryz.func33 λ_=>?_;dsimp only [aa,af] at di;obtain⟨⟨b8,dS,jr,eC,vs,vo⟩,iI⟩:=fI.open di .z;clear di;dsimp only [ic,aa,af] at iI;rw [du,dv,eE] at iI;dsimp only [dF,fl,dE,fk,fm,kg] at iI;have hS:=ah.Ht iI (.s (.s (.s .z)));clear iI;have hq:=nA hS hw;revert hq hS hw;(repeat first|clear hq|clear hS|clear hw|revert hc|revert R|revert K);refine W (J3 (Tg.mk (n:=10) (λ{A L K k}=>k9 (A:=A) (L:=L) (K:=K) (k:=k) (QK dS))) (od mB) (cL dS)) (J4 h3 bF @bd.eq_1 @aU.v.eq_1) ?_<;>(unhygienic intros);refine⟨_,by first|rfl|(simp;rfl)|(simp [hq,AW.ab,aD];rfl),by first|trivial|rfl|(simp [dL,aU.v,aU.zero];done)|(simp [dL,aU.v,aU.zero,h3];done)|(simp [dL,aU.v,aU.zero];rfl),?_⟩;apply fI.bI;apply ah.ll;apply ah.ll
     (·exact sA)
     . dsimp only [ic,aV.m9,aV.to,aV.nk,aV.fp,aV.eV,aV.jo,aV.d]
       (try simp only [du,dv,eE])
       dsimp only [dF,fl,dE,fk,fm,kg]
       (·repeat' (first|apply aQ.z|apply aQ.s|apply aB.z|apply aB.pt|apply aB.s))
     (·repeat' (first|apply aQ.z|apply aQ.s|apply aB.z|apply aB.pt|apply aB.s))
     all_goals(first|exact 0|exact undef)
   rw [ap h3];intro A F hw di;refine aH Tryz.func33 λ_=>?_;dsimp only [aa,af] at di;obtain⟨⟨b8,dS,jr,eC,vs,vo⟩,iI⟩:=fI.open di .z;clear di;dsimp only [ic,aa,af] at iI;rw [du,dv,eE] at iI;dsimp only [dF,fl,dE,fk,fm,kg] at iI;have hS:=ah.Ht iI (.s (.s (.s .z)));clear iI;have hq:=nA hS hw;revert hq hS hw;(repeat first|clear hq|clear hS|clear hw|revert hc|revert R|revert K);refine W (J3 (Tg.mk (n:=10) (λ{A L K k}=>k9 (A:=A) (L:=L) (K:=K) (k:=k) (QK dS))) (od mB) (cL dS)) (J4 h3 bF @bd.eq_1 @aU.v.eq_1) ?_<;>(unhygienic intros);refine⟨_,by first|rfl|(simp;rfl)|(simp [hq,AW.ab,aD];rfl),by first|trivial|rfl|(simp [dL,aU.v,aU.zero];done)|(simp [dL,aU.v,aU.zero,h3];done)|(simp [dL,aU.v,aU.zero];rfl),?_⟩;apply fI.bI;apply ah.ll;apply ah.ll
   (·exact sA)
   . dsimp only [ic,aV.m9,aV.to,aV.nk,aV.fp,aV.eV,aV.jo,aV.d]
     (try simp only [du,dv,eE])
     dsimp only [dF,fl,dE,fk,fm,kg]
     (·repeat' (first|apply aQ.z|apply aQ.s|apply aB.z|apply aB.pt|apply aB.s))
   (·repeat' (first|apply aQ.z|apply aQ.s|apply aB.z|apply aB.pt|apply aB.s))
   all_goals(first|exact 0|exact undef)
 | some l0=>
   obtain⟨gl,VY⟩:=hdl l0 eE;cases l0 with
   | nil=>exact absurd rfl gl
   | cons x l=>
     dsimp only;have hln2:l.length<2^29:=(by rw [List.length_cons] at VY;omega);have cL:=λn=>Ip n pb x l M hln2;generalize hr:wF (x::l) M=r at cL ⊢;obtain⟨ac,l',M'⟩:=r;dsimp only at cL ⊢;cases l' with
     | nil=>
       have e:({ t with dB:=some [] }:aV).jH=(({ t with dx:=none,dB:=none }:aV).nk 6 0).m9:=rfl;rw [e];have N3:=λn=>AK n [] true rfl;intro A F hw di;refine aH Tryz.func33 λ_=>?_;dsimp only [aa,af] at di;obtain⟨⟨b8,dS,jr,eC,vs,vo⟩,iI⟩:=fI.open di .z;clear di;dsimp only [ic,aa,af] at iI;rw [du,dv,eE] at iI;dsimp only [dF,fl,dE,fk,fm,kg] at iI;have hS:=ah.Ht iI (.s (.s (.s .z)));clear iI;have hq:=nA hS hw
       repeat' (first|(refine jK λR hR=>?_;simp [an,ax,hq,AW.ab,aD,bd,aU.v];try simp (disch:=omega) only [ay,ap,an,ax])|(refine hR _ _ ?_;clear hR R)|(refine hK _ _ ?_;clear hK K)|refine nx ?_|refine wn λK hK=>?_|simp only [wS,mB]|refine wl Tryz.mx mB (by decide +kernel) λK hK=>?_|(refine Lr ac ?_)|(apply bf.eH (cL jr);(·exact wA);(·exact sA);(·first|exact pA|exact kA);rintro _ _ rfl hS hw _;have hS:=lA hS;have hq:=nA hS hw)|(apply bf.eH (N3 _);(·exact wA);(·exact sA);(·first|exact pA|exact kA);rintro _ _ rfl hS hw _;have hS:=lA hS;have hq:=nA hS hw)|(apply d8.eH (iB b t.d _ t.gx 6 0 uz);(·exact wA);(·exact sA);(·first|exact pA|exact kA);(rintro xw _ _ _ hS hw _;have hS:=lA hS;(try (have hq:=nA hS hw))))|(apply bf.eH (jM b t.d _ _ _ _ _ _ _ _ _ jV);(·exact wA);(·exact sA);(·first|exact pA|exact kA);rintro _ _ _ hS hw _;have hS:=lA hS;have hq:=nA hS hw)|(show cB _ _ _ _ _ _;refine nx ?_)|(refine wc rfl (λhc=>?_) (λhc=>?_)<;>(try simp at hc)<;>(try omega))|(refine ib (λhc=>?_) (λhc=>?_)<;>(try omega)<;>(try simp (disch:=omega) only [ay,ap])))
       refine⟨_,by first|rfl|(simp;rfl)|(simp [hq,AW.ab,aD];rfl),by first|trivial|rfl|(simp [dL,aU.v,aU.zero];done)|(simp [dL,aU.v,aU.zero,h3];done)|(simp [dL,aU.v,aU.zero];rfl),?_⟩;apply fI.bI;apply ah.ll;apply ah.ll
       (·exact sA)
       . dsimp only [ic,aV.m9,aV.to,aV.nk,aV.fp,aV.eV,aV.jo,aV.d]
         (try simp only [du,dv,eE])
         dsimp only [dF,fl,dE,fk,fm,kg]
         (·repeat' (first|apply aQ.z|apply aQ.s|apply aB.z|apply aB.pt|apply aB.s))
       (·repeat' (first|apply aQ.z|apply aQ.s|apply aB.z|apply aB.pt|apply aB.s))
       all_goals(first|exact 0|exact undef)
     | cons y l'=>
       have e:({ t with dB:=some (y::l') }:aV).jH={ t with dB:=some (y::l') }:=rfl;rw [e];have N3:=λn=>AK n (y::l') false rfl;intro A F hw di;refine aH Tryz.func33 λ_=>?_;dsimp only [aa,af] at di;obtain⟨⟨b8,dS,jr,eC,vs,vo⟩,iI⟩:=fI.open di .z;clear di;dsimp only [ic,aa,af] at iI;rw [du,dv,eE] at iI;dsimp only [dF,fl,dE,fk,fm,kg] at iI;have hS:=ah.Ht iI (.s (.s (.s .z)));clear iI;have hq:=nA hS hw
       repeat' (first|(refine jK λR hR=>?_;simp [an,ax,hq,AW.ab,aD,bd,aU.v];try simp (disch:=omega) only [ay,ap,an,ax])|(refine hR _ _ ?_;clear hR R)|(refine hK _ _ ?_;clear hK K)|refine nx ?_|refine wn λK hK=>?_|simp only [wS,mB]|refine wl Tryz.mx mB (by decide +kernel) λK hK=>?_|(refine Lr ac ?_)|(apply bf.eH (cL jr);(·exact wA);(·exact sA);(·first|exact pA|exact kA);rintro _ _ rfl hS hw _;have hS:=lA hS;have hq:=nA hS hw)|(apply bf.eH (N3 _);(·exact wA);(·exact sA);(·first|exact pA|exact kA);rintro _ _ rfl hS hw _;have hS:=lA hS;have hq:=nA hS hw)|(show cB _ _ _ _ _ _;refine nx ?_)|(refine wc rfl (λhc=>?_) (λhc=>?_)<;>(try simp at hc)<;>(try omega))|(refine ib (λhc=>?_) (λhc=>?_)<;>(try omega)<;>(try simp (disch:=omega) only [ay,ap])))
       refine⟨_,by first|rfl|(simp;rfl)|(simp [hq,AW.ab,aD];rfl),by first|trivial|rfl|(simp [dL,aU.v,aU.zero];done)|(simp [dL,aU.v,aU.zero,h3];done)|(simp [dL,aU.v,aU.zero];rfl),?_⟩;apply fI.bI;apply ah.ll;apply ah.ll
       (·exact sA)
       . dsimp only [ic,aV.m9,aV.to,aV.nk,aV.fp,aV.eV,aV.jo,aV.d]
         (try simp only [du,dv,eE])
         dsimp only [dF,fl,dE,fk,fm,kg]
         (·repeat' (first|apply aQ.z|apply aQ.s|apply aB.z|apply aB.pt|apply aB.s))
       (·repeat' (first|apply aQ.z|apply aQ.s|apply aB.z|apply aB.pt|apply aB.s))
       all_goals(first|exact 0|exact undef)
theorem rN [Gl] {L G K:List It} (h':aQ L G K:=by first|((repeat' (first|apply aQ.z|apply aQ.s|apply aB.z|apply aB.pt|apply aB.s));done)|fail):aQ L G K:=h'
theorem rP [Gl] {L K:List It} {x:It} (h':aB L x K:=by first|((repeat' (first|apply aQ.z|apply aQ.s|apply aB.z|apply aB.pt|apply aB.s));done)|fail):aB L x K:=h'
end
end Go.Stx
