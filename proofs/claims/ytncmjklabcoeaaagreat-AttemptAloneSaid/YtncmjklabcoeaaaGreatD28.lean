/-
 The reference's machine that pushes blocks one after another.
-/
import Derived.Test.YtncmjklabcoeaaaGreatD21
import Derived.Test.YtncmjklabcoeaaaGreatD26
import Derived.Test.YtncmjklabcoeaaaGreatD19
set_option linter.unusedVariables false
set_option linter.unusedSimpArgs false
set_option maxRecDepth 20000
set_option maxHeartbeats 4000000
namespace Go.Stx
open Go Go.Proofs
attribute [local irreducible] fj cm aH bB dK ei
section
abbrev Ch:List (Nat×Nat):=[(0,0),(1,0),(2,0),(3,0),(4,0),(5,0),(6,0),(7,0),(8,0),(9,0),(10,0),(12,0),(13,0),(14,0),(15,0),(16,0),(17,0),(11,2),(18,2),(19,0),(20,0),(21,3)]
open T28 T16
def nA {ι:Type} (P:Program) (f:FuncId) (args:List Value) (pd:List It) (φ:ι→Value→Prop) (post:ι→List It):Prop:=
 ∀(A:AW) (F:HP),A.Wf→an A (pd++[.h F])→aH P f args A fun v A'=>∃x,φ x v∧an A' (post x++[.h F])
theorem nA.el {ι:Type} {P:Program} {f:FuncId} {args:List Value} {pd:List It} {φ:ι→Value→Prop} {post:ι→List It} (h:nA P f args pd φ post) {A:AW} {L K:List It} {k:Value→AW→Prop} (hw:A.Wf) (hS:an A L) (e:aX L pd K)
 (hk:∀x v A',φ x v→an A' (post x++K)→A'.Wf→A.next≤A'.next→k v A'):aH P f args A k:=by
 have oG:an A (pd++[.h (bn K)]):=by
  unfold an at *
  rw [e.bn] at hS
  rw [fN]
  show bK A (bn pd*(bn K*fa))
  rw [dx]
  exact hS
 refine bD (h A (bn K) hw oG) ?_
 rintro v A' ⟨x,h1,h2⟩ gY hn
 refine hk x v A' h1 ?_ gY hn
 unfold an at *
 rw [fN] at h2 ⊢
 have h3:bK A' (bn (post x)*(bn K*fa)):=h2
 rwa [dx] at h3
theorem G3 {A:AW} {k:IntKind} {v:Value} {l:List Int} {F:HP} (h:bK A (ar k v l*F)):mA v 0=v:=by
 rcases jo.cases h with ⟨rfl,_,_⟩|⟨b,off,c,dh,rfl,_⟩<;>rfl
theorem MS {A:AW} {L K:List It} {v:Value} {l:List Int} (h:an A L) (hp:ay L (.h (ar .i64 v l)) K) {j:Nat} (hj:j<l.length) :
 ∃b off n dh,mA v j=.slice (some ⟨b,off,none⟩) (l.length-j) n∧l.length-j≤n∧A.cy b=some (.cells dh true 1)∧dh[off]? = some (.int .i64 (l.getD j 0))∧mA v (j+1)=.slice (some ⟨b,off+1,none⟩) (l.length-j-1) (n-1):=by
 unfold an at h
 rw [hp.bn] at h
 rcases jo.cases h with ⟨rfl,h0,_⟩|⟨b,off,c,dh,rfl,h1,h2,h3,h4⟩
 · omega
 · rw [Nat.mul_one] at h2 h3
   refine⟨b,off+j,c-j,dh,rfl,by omega,h4.cy,?_,?_⟩
   · have:dh[off+j]? = (l.map (Value.int .i64))[j]?:=by rw [h3,List.getElem?_take_of_lt hj,List.getElem?_drop]
     rw [this,List.getElem?_map,List.getElem?_eq_getElem hj,List.getD_eq_getElem?_getD,List.getElem?_eq_getElem hj];rfl
   · show Value.slice (some ⟨b,off+(j+1),none⟩) (l.length-(j+1)) (c-(j+1))=_
     rw [Nat.sub_add_eq,Nat.sub_add_eq,←Nat.add_assoc]
theorem wG (d:Nat) (c:bG) (hc:dt c) (va p v:Value) (l:List Int) (j:Nat) (hv:v=mA va j) (hj:j<l.length) :
 nA Tryz.prog 209 [pv d] [.at d (iA c v p),.h (ar .i64 va l)] (fun _ _=>True) (fun m:Nat=>[.at d (iA c v (pv m)),.at m (gj ⟨ds c (l.getD j 0),l.getD j 0,0,0⟩),.h (ar .i64 va l)]):=by
 intro A F hw hS
 subst hv
 refine ab Tryz.func209 rfl (by kernel_rfl) fun _=>?_
 dsimp only [na,zo] at hS
 obtain⟨bb,off,n,dh,e,hn,eH,dg,_⟩:=MS hS (.s .z) hj
 rw [e] at hS ⊢
 have iz:=o8 c hc
 dsimp only [bG.v] at iz
 generalize l.getD j 0=x at *
 have hq:=ZL hS hw
 have ke:¬l.length-j=0:=by omega
 have dQ:j<l.length:=hj
 have oE:0<l.length-j:=by omega
 revert hq hS hw hc;refine Wr (J3 (od Ch) @iz @Bf) (J6 eH dg ke oE @AW.aa @af.eq_1) (J1 ?_)<;>unhygienic intros
 refine⟨_,by first|rfl|(simp;rfl),A.next,trivial,?_⟩
 apply an.cC
 (·exact sA)
 (·first|exact pR|exact kR)
theorem yH (c:bG) (hc:dt c) (va:Value) (l:List Int) (hl:0<l.length) :
 nA Tryz.prog 207 [c.v,va] [.h (ar .i64 va l)] (fun x v=>v=pv x.1) (fun x:Nat×Nat=>[.at x.1 (iA c (mA va 0) (pv x.2)),.at x.2 (gj ⟨ds c (l.getD 0 0),l.getD 0 0,0,0⟩),.h (ar .i64 va l)]):=by
 intro A F hw hS
 refine ab Tryz.func207 rfl (by kernel_rfl) fun _=>?_
 dsimp only [na,zo] at hS
 have hz:mA va 0=va:=G3 (F:=bn [.h F]) hS
 obtain⟨o,dA,rfl,_⟩:=(an.gM hS .z).cL
 have P4:=fun d=>wG d c hc (.slice o l.length dA) (.pointer none) (.slice o l.length dA) l 0 hz.symm hl
 rw [hz]
 dsimp only [bG.v]
 revert hS hw hc;refine Wr (J1 (Tg.mk (n:=32) @P4)) (J2 @AW.aa @af.eq_1) (J1 ?_)<;>unhygienic intros
 refine⟨_,by first|(simp;done)|(simp;rfl),(A.next+1,xw),rfl,?_⟩
 apply an.cC
 (·exact sA)
 (·first|exact pR|exact kR)
end
section
abbrev Fx:List (Nat×Nat):=[(0,0),(1,0),(2,0),(3,0),(4,0),(5,0),(6,0),(7,0),(8,0),(9,3),(10,0),(11,0),(12,3)]
open T28 T16
theorem qz (b:Nat) (s:aD) (n:Int) :
 aP Tryz.prog 95 [pv b] [.h (jz b s n .fW)] (fun _=>True) (fun _=>[.h (bF b { s with aE:=some ⟨false,0,false⟩,aA:=.dI })]):=by
 obtain⟨cf,ag,av,ax,value,br,ai,ah,ac,ap,set,aM,ao,aj,aG,aE,am,aA⟩:=s
 intro A F hw hS
 refine ab Tryz.func95 rfl (by kernel_rfl) fun _=>?_
 dsimp only [na,zo] at hS
 obtain⟨⟨bh,aY,az,aJ,aK,m,dy,k,ja,dr,bS,aw,aB,va,vv,vi,fA,fk,dD,dL,cI,jv,dO,dP,cG,cx,dv,cH,dN,bU,bt,dM,bT⟩,hS⟩:=jz.open hS .z
 dsimp only [bE,bH,cJ,bj,cR,eQ,cO,bf,ff,bO,bP,bd,be,bL,bc,bN,aO,aI,bM,aN,bJ,aT,aQ,aD.rv,na,zo] at hS
 try simp only [cV] at hS
 have hq:=ZL hS hw
 revert hq hS hw;clear hS;refine Wr (J1 @Bd) (J2 @AW.aa @af.eq_1) (J1 ?_)<;>unhygienic intros
 refine⟨_,by first|rfl|(simp;rfl),trivial,?_⟩
 apply bF.cC
 (·exact sA)
 (dsimp only [bE,bH,cJ,bj,cR,eQ,cO,bf,ff,bO,bP,bd,be,bL,bc,bN,aO,aI,bM,aN,bJ,aT,aQ,aD.rv,na,zo])
 (try simp only [cV])
 (try simp only [h])
 (·first|exact pR|exact kR)
 (·first|exact pR|exact kR)
 all_goals(first|exact 0|exact undef)
theorem yr (b:Nat) (s:aD) (n:Int) (hc:dt s.cf) (h1:s.ax≠1) (hp:s.am=0) :
 aP Tryz.prog 105 [pv b] [.h (jz b s n .fW)] (fun _=>True) (fun _=>[.h (bF b (gg s))]):=by
 obtain⟨cf,ag,av,ax,value,br,ai,ah,ac,ap,set,aM,ao,aj,aG,aE,am,aA⟩:=s
 dsimp only at hc h1 hp
 subst hp
 by_cases hz:ac.length=0
 · have Rn:=List.eq_nil_of_length_eq_zero hz
   subst Rn
   have e:gg ⟨cf,ag,av,ax,value,br,ai,ah,[],ap,set,aM,ao,aj,aG,aE,0,aA⟩=⟨cf,ag,av,ax,value,br,ai,ah,[],ap,set,aM,ao,aj,aG,aE,0,.fW⟩:=by unfold gg;rw [if_pos (.inr rfl)]
   rw [e]
   intro A F hw hS
   refine ab Tryz.func105 rfl (by kernel_rfl) fun _=>?_
   dsimp only [na,zo] at hS
   obtain⟨⟨bh,aY,az,aJ,aK,m,dy,k,ja,dr,bS,aw,aB,va,vv,vi,fA,fk,dD,dL,cI,jv,dO,dP,cG,cx,dv,cH,dN,bU,bt,dM,bT⟩,hS⟩:=jz.open hS .z
   dsimp only [bE,bH,cJ,bj,cR,eQ,cO,bf,ff,bO,bP,bd,be,bL,bc,bN,aO,aI,bM,aN,bJ,aT,aQ,aD.rv,na,zo] at hS
   try simp only [cV] at hS
   have hq:=ZL hS hw
   obtain⟨SK,Td,rfl,_⟩:=(an.gM hS (.s (.s (.s (.s (.s (.s (.s .z)))))))).cL
   have hq:=ZL hS hw
   revert hq hS hw hc;clear hq;clear hS;refine Wr (J1 (od Fx)) (J3 hz @AW.aa @af.eq_1) (J1 ?_)<;>unhygienic intros
   refine⟨_,by first|rfl|(simp;rfl),trivial,?_⟩
   apply bF.cC
   (·exact sA)
   (dsimp only [bE,bH,cJ,bj,cR,eQ,cO,bf,ff,bO,bP,bd,be,bL,bc,bN,aO,aI,bM,aN,bJ,aT,aQ,aD.rv,na,zo])
   (try simp only [cV])
   (try simp only [h])
   (·first|exact pR|exact kR)
   (·first|exact pR|exact kR)
   all_goals(first|exact 0|exact undef)
 · have e:gg ⟨cf,ag,av,ax,value,br,ai,ah,ac,ap,set,aM,ao,aj,aG,aE,0,aA⟩=⟨cf,ag,av,ax,value,br,ai,ah,ac,ap,set,aM,ao,aj,aG,aE,0,.eZ ⟨ds cf (ac.getD 0 0),ac.getD 0 0,0,0⟩⟩:=by
    unfold gg
    rw [if_neg (by rintro (h|h);exact h1 h;exact hz h.symm)]
   rw [e]
   have oE:0<ac.length:=by omega
   have Cl:(0:Int)<ac.length:=by omega
   intro A F hw hS
   refine ab Tryz.func105 rfl (by kernel_rfl) fun _=>?_
   dsimp only [na,zo] at hS
   obtain⟨⟨bh,aY,az,aJ,aK,m,dy,k,ja,dr,bS,aw,aB,va,vv,vi,fA,fk,dD,dL,cI,jv,dO,dP,cG,cx,dv,cH,dN,bU,bt,dM,bT⟩,hS⟩:=jz.open hS .z
   dsimp only [bE,bH,cJ,bj,cR,eQ,cO,bf,ff,bO,bP,bd,be,bL,bc,bN,aO,aI,bM,aN,bJ,aT,aQ,aD.rv,na,zo] at hS
   try simp only [cV] at hS
   have hq:=ZL hS hw
   obtain⟨SK,Td,rfl,_⟩:=(an.gM hS (.s (.s (.s (.s (.s (.s (.s .z)))))))).cL
   have hq:=ZL hS hw
   have hnd:=yH cf hc (.slice SK ac.length Td) ac oE
   dsimp only [bG.v] at hnd
   revert hq hS hw;(repeat first|clear hq|clear hS|clear hw|revert hc|revert zn|revert zA|revert xw|revert R|revert K);refine Wr (J2 (Tg.mk (n:=32) @hnd) (od Fx)) (J5 hz oE Cl @AW.aa @af.eq_1) (J1 ?_)<;>unhygienic intros
   refine⟨_,by first|rfl|(simp;rfl),trivial,?_⟩
   apply bF.cC
   (·exact sA)
   (dsimp only [bE,bH,cJ,bj,cR,eQ,cO,bf,ff,bO,bP,bd,be,bL,bc,bN,aO,aI,bM,aN,bJ,aT,aQ,aD.rv,na,zo])
   (try simp only [cV])
   (try simp only [h])
   (·first|exact pR|exact kR)
   (·first|exact pR|exact kR)
   all_goals(first|exact 0|exact undef)
end
end Go.Stx
