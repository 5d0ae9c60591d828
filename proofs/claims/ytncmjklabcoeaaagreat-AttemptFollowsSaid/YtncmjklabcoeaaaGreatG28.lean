/-
 The reference's machine that pushes blocks one after another.
-/
import Derived.Test.YtncmjklabcoeaaaGreatG21
import Derived.Test.YtncmjklabcoeaaaGreatG26
import Derived.Test.YtncmjklabcoeaaaGreatG19
set_option linter.unusedVariables false
set_option linter.unusedSimpArgs false
set_option maxRecDepth 20000
set_option maxHeartbeats 4000000
namespace Go.Stx
open Go Go.Proofs
attribute [local irreducible] fj cm aH bB dK ei
section
abbrev Ch:List (Nat×Nat):=[(0,0),(1,0),(2,0),(3,0),(4,0),(5,0),(6,0),(7,0),(8,0),(9,0),(10,0),(12,0),(13,0),(14,0),(15,0),(16,0),(17,0),(11,2),(18,2),(19,0),(20,0),(21,3)]
open T28 T16
def nA {ι:Type} (P:Program) (f:FuncId) (args:List Value) (pd:List It) (φ:ι→Value→Prop) (post:ι→List It):Prop:=
 ∀(A:AW) (F:HP),A.Wf→an A (pd++[.h F])→aH P f args A fun v A'=>∃x,φ x v∧an A' (post x++[.h F])
theorem nA.el {ι:Type} {P:Program} {f:FuncId} {args:List Value} {pd:List It} {φ:ι→Value→Prop} {post:ι→List It} (h:nA P f args pd φ post) {A:AW} {L K:List It} {k:Value→AW→Prop} (hw:A.Wf) (hS:an A L) (e:aX L pd K)
 (hk:∀x v A',φ x v→an A' (post x++K)→A'.Wf→A.next≤A'.next→k v A'):aH P f args A k:=by
 have oG:an A (pd++[.h (bn K)]):=by
  unfold an at *
  rw [e.bn] at hS
  rw [fN]
  show bK A (bn pd*(bn K*fa))
  rw [dx]
  exact hS
 refine bD (h A (bn K) hw oG) ?_
 rintro v A' ⟨x,h1,h2⟩ gY hn
 refine hk x v A' h1 ?_ gY hn
 unfold an at *
 rw [fN] at h2 ⊢
 have h3:bK A' (bn (post x)*(bn K*fa)):=h2
 rwa [dx] at h3
theorem G3 {A:AW} {k:IntKind} {v:Value} {l:List Int} {F:HP} (h:bK A (ar k v l*F)):mA v 0=v:=by
 rcases jo.cases h with ⟨rfl,_,_⟩|⟨b,off,c,dh,rfl,_⟩<;>rfl
theorem MS {A:AW} {L K:List It} {v:Value} {l:List Int} (h:an A L) (hp:ay L (.h (ar .i64 v l)) K) {j:Nat} (hj:j<l.length) :
 ∃b off n dh,mA v j=.slice (some ⟨b,off,none⟩) (l.length-j) n∧l.length-j≤n∧A.cy b=some (.cells dh true 1)∧dh[off]? = some (.int .i64 (l.getD j 0))∧mA v (j+1)=.slice (some ⟨b,off+1,none⟩) (l.length-j-1) (n-1):=by
 unfold an at h
 rw [hp.bn] at h
 rcases jo.cases h with ⟨rfl,h0,_⟩|⟨b,off,c,dh,rfl,h1,h2,h3,h4⟩
 · omega
 · rw [Nat.mul_one] at h2 h3
   refine⟨b,off+j,c-j,dh,rfl,by omega,h4.cy,?_,?_⟩
   · have:dh[off+j]? = (l.map (Value.int .i64))[j]?:=by rw [h3,List.getElem?_take_of_lt hj,List.getElem?_drop]
     rw [this,List.getElem?_map,List.getElem?_eq_getElem hj,List.getD_eq_getElem?_getD,List.getElem?_eq_getElem hj];rfl
   · show Value.slice (some ⟨b,off+(j+1),none⟩) (l.length-(j+1)) (c-(j+1))=_
     rw [Nat.sub_add_eq,Nat.sub_add_eq,←Nat.add_assoc]
theorem BX {A:AW} {L K:List It} {v:Value} {l:List Int} (h:an A L) (hp:ay L (.h (ar .i64 v l)) K) (j:Nat):∃o n,mA v j=.slice o (l.length-j) n:=by
 unfold an at h
 rw [hp.bn] at h
 rcases jo.cases h with ⟨rfl,h0,_⟩|⟨b,off,c,dh,rfl,h1,h2,h3,h4⟩
 · exact⟨none,0,by rw [h0,Nat.zero_sub];rfl⟩
 · exact⟨_,_,rfl⟩
theorem kY (b:Nat) (c:bG) (o:Option Addr) (n dA:Nat) (p:Value) (A:AW) (hg:A.cy b=some (iA c (.slice o n dA) p)):eF 108 [pv b] A (.bool (decide (n=0))):=by
 refine ab Tryz.func108 rfl (by kernel_rfl) fun _=>?_
 dsimp only [iA] at hg
 refine Wr trivial (J2 hg @AW.aa) (J1 ?_)<;>unhygienic intros
 all_goals exact⟨_,by first|(simp;done)|(simp;rfl),by simp,rfl⟩
theorem wG (d:Nat) (c:bG) (hc:dt c) (va p v:Value) (l:List Int) (j:Nat) (hv:v=mA va j) (hj:j<l.length) :
 nA Tryz.prog 209 [pv d] [.at d (iA c v p),.h (ar .i64 va l)] (fun _ _=>True) (fun m:Nat=>[.at d (iA c v (pv m)),.at m (gj ⟨ds c (l.getD j 0),l.getD j 0,0,0⟩),.h (ar .i64 va l)]):=by
 intro A F hw hS
 subst hv
 refine ab Tryz.func209 rfl (by kernel_rfl) fun _=>?_
 dsimp only [na,zo] at hS
 obtain⟨bb,off,n,dh,e,hn,eH,dg,_⟩:=MS hS (.s .z) hj
 rw [e] at hS ⊢
 have iz:=o8 c hc
 dsimp only [bG.v] at iz
 generalize l.getD j 0=x at *
 have hq:=ZL hS hw
 have ke:¬l.length-j=0:=by omega
 have dQ:j<l.length:=hj
 have oE:0<l.length-j:=by omega
 revert hq hS hw hc;refine Wr (J3 (od Ch) @iz @Bf) (J6 eH dg ke oE @AW.aa @af.eq_1) (J1 ?_)<;>unhygienic intros
 refine⟨_,by first|rfl|(simp;rfl),A.next,trivial,?_⟩
 apply an.cC
 (·exact sA)
 (·first|exact pR|exact kR)
theorem Fo (d:Nat) (c:bG) (o:Option Addr) (dA n:Nat) (hn:n=0) (p:Value) :
 aP Tryz.prog 209 [pv d] [.at d (iA c (.slice o n dA) p)] (fun _=>True) (fun _=>[.at d (iA c (.slice o n dA) p)]):=by
 intro A F hw hS
 subst hn
 refine ab Tryz.func209 rfl (by kernel_rfl) fun _=>?_
 dsimp only [na,zo] at hS
 have l9:=hS
 have hq:=ZL hS hw
 revert hq hS hw;refine Wr (J1 (od Ch)) (J1 @AW.aa) (J1 ?_)<;>unhygienic intros
 all_goals exact⟨_,by first|rfl|(simp;rfl),trivial,l9⟩
theorem yH (c:bG) (hc:dt c) (va:Value) (l:List Int) (hl:0<l.length) :
 nA Tryz.prog 207 [c.v,va] [.h (ar .i64 va l)] (fun x v=>v=pv x.1) (fun x:Nat×Nat=>[.at x.1 (iA c (mA va 0) (pv x.2)),.at x.2 (gj ⟨ds c (l.getD 0 0),l.getD 0 0,0,0⟩),.h (ar .i64 va l)]):=by
 intro A F hw hS
 refine ab Tryz.func207 rfl (by kernel_rfl) fun _=>?_
 dsimp only [na,zo] at hS
 have hz:mA va 0=va:=G3 (F:=bn [.h F]) hS
 obtain⟨o,dA,rfl,_⟩:=(an.gM hS .z).cL
 have P4:=fun d=>wG d c hc (.slice o l.length dA) (.pointer none) (.slice o l.length dA) l 0 hz.symm hl
 rw [hz]
 dsimp only [bG.v]
 revert hS hw hc;refine Wr (J1 (Tg.mk (n:=32) @P4)) (J2 @AW.aa @af.eq_1) (J1 ?_)<;>unhygienic intros
 refine⟨_,by first|(simp;done)|(simp;rfl),(A.next+1,xw),rfl,?_⟩
 apply an.cC
 (·exact sA)
 (·first|exact pR|exact kR)
theorem Ju (cf:bG) (d m mb j:Nat) (va:Value) (l:List Int) (p:kM) (M:Mm) (hM:fE M) (hj:j<l.length) (h3:(dE p M).2.1.cj≠3) :
 aP Tryz.prog 107 [pv d,pv mb] [.at d (iA cf (mA va j) (pv m)),.at m (gj p),.h (ar .i64 va l),fw cf mb M] (fun v=>v=(dE p M).1.v)
  (fun _=>[.at d (iA cf (mA va j) (pv m)),.at m (gj (dE p M).2.1),.h (ar .i64 va l),fw cf mb (dE p M).2.2]):=by
 intro A F hw hS
 refine ab Tryz.func107 rfl (by kernel_rfl) fun _=>?_
 dsimp only [na,zo] at hS
 obtain⟨o,n,e⟩:=BX hS (.s (.s .z)) j
 rw [e] at hS ⊢
 have JH:=oc cf m mb p M hM
 obtain⟨a,p',M',er⟩:∃a p' M',dE p M=(a,p',M'):=⟨_,_,_,rfl⟩
 rw [er] at h3 JH ⊢
 dsimp only at h3
 have hd:∀A':AW,A'.cy d=some (iA cf (.slice o (l.length-j) n) (pv m))→eF 108 [pv d] A' (.bool false):=fun A' h=>by
  have:=kY d cf o (l.length-j) n (pv m) A' h
  rwa [show decide (l.length-j=0)=false by simp;omega] at this
 have hq:=ZL hS hw
 revert hq hS hw;refine Wr (J2 @hd @JH) (J5 h3 @AW.aa @af.eq_1 @aS.eq_1 @bq.v.eq_1) (J1 ?_)<;>unhygienic intros
 refine⟨_,by simp [hq,AW.aa,af];rfl,by simp [bq.v],?_⟩
 apply an.cC
 (·exact sA)
 (·first|exact pR|exact kR)
theorem BW {A:AW} {L K:List It} {v:Value} {l:List Int} (h:an A L) (hp:ay L (.h (ar .i64 v l)) K) {j:Nat} (hj:j<l.length) :
 ∃b off n dh,mA v j=.slice (some ⟨b,off,none⟩) (l.length-j) n∧l.length-j≤n∧mA v (j+1)=.slice (some ⟨b,off+1,none⟩) (l.length-j-1) (n-1)∧
  (∀A' K',an A' (.at b (.cells dh true 1)::K')→an A' (.h (ar .i64 v l)::K'))∧an A (.at b (.cells dh true 1)::K):=by
 have h1:bK A (ar .i64 v l*bn K):=by
  have h0:=h
  unfold an at h0
  rw [hp.bn] at h0
  exact h0
 rcases jo.cases h1 with ⟨_,h0,_⟩|⟨b,off,c,dh,rfl,h2,h3,h4,h5⟩
 · omega
 · rw [Nat.mul_one] at h3 h4
   refine⟨b,off+j,c-j,dh,rfl,by omega,?_,fun A' K' hh=>ar.mk rfl h2 h3 h4 hh,h5⟩
   show Value.slice (some ⟨b,off+(j+1),none⟩) (l.length-(j+1)) (c-(j+1))=_
   rw [Nat.sub_add_eq,Nat.sub_add_eq,←Nat.add_assoc]
theorem Fk (cf:bG) (hc:dt cf) (d m mb j:Nat) (va:Value) (l:List Int) (p:kM) (M:Mm) (hM:fE M) (hj:j<l.length) (h3:(dE p M).2.1.cj=3) (vT:j+1<l.length) :
 nA Tryz.prog 107 [pv d,pv mb] [.at d (iA cf (mA va j) (pv m)),.at m (gj p),.h (ar .i64 va l),fw cf mb M] (fun _ v=>v=(dE p M).1.v)
  (fun m':Nat=>[.at d (iA cf (mA va (j+1)) (pv m')),.at m' (gj ⟨ds cf (l.getD (j+1) 0),l.getD (j+1) 0,0,0⟩),.h (ar .i64 va l),fw cf mb (dE p M).2.2]):=by
 intro A F hw hS
 refine ab Tryz.func107 rfl (by kernel_rfl) fun _=>?_
 dsimp only [na,zo] at hS
 obtain⟨bb,off,n,dh,e,hn,e2,Qw,hS⟩:=BW hS (.s (.s .z)) hj
 have P4:=wG d cf hc va (pv m) (.slice (some ⟨bb,off+1,none⟩) (l.length-j-1) (n-1)) l (j+1) e2.symm vT
 rw [e2]
 rw [e] at hS
 have JH:=oc cf m mb p M hM
 obtain⟨a,p',M',er⟩:∃a p' M',dE p M=(a,p',M'):=⟨_,_,_,rfl⟩
 rw [er] at h3 JH ⊢
 dsimp only at h3
 have hd:∀A':AW,A'.cy d=some (iA cf (.slice (some ⟨bb,off,none⟩) (l.length-j) n) (pv m))→eF 108 [pv d] A' (.bool false):=fun A' h=>by
  have:=kY d cf _ (l.length-j) n (pv m) A' h
  rwa [show decide (l.length-j=0)=false by simp;omega] at this
 have oE:0<l.length-j:=by omega
 have PE:1≤l.length-j:=by omega
 have JK:l.length-j≤n:=hn
 have hq:=ZL hS hw
 revert hq hS hw hc;clear hS;refine Wr (J2 @hd @JH) (J9 h3 oE PE JK @eB.eq_1 @AW.aa @af.eq_1 @aS.eq_1 @bq.v.eq_1) (J1 ?_)<;>unhygienic intros
 apply nA.el P4
 · repeat' (first|assumption|apply AW.Wf.alloc|apply AW.Wf.set|exact Nat.le_refl _|(simp only [AW.aZ,AW.dq];omega)|apply an.uP hS hw|apply ay.z|apply ay.s)
 · apply Qw
   apply an.IW
   (·exact sA)
   (·repeat' (first|apply ay.z|apply ay.s))
 · repeat' (first|apply aX.z|apply aX.s|apply ay.z|apply ay.s)
 rintro xw _ _ _ hS hw _
 have hS:=lA hS
 have hq:=ZL hS hw
 revert hq hS hw;(repeat first|clear hq|clear hS|clear hw|revert hc|revert zn|revert zA|revert xw|revert R|revert K);refine Wr trivial (J4 @AW.aa @af.eq_1 @aS.eq_1 @bq.v.eq_1) (J1 ?_)<;>unhygienic intros
 refine⟨_,by simp [hq,AW.aa,af];rfl,xw,by simp [bq.v],?_⟩
 apply an.cC
 (·exact sA)
 (·first|exact pR|exact kR)
theorem Fl (cf:bG) (hc:dt cf) (d m mb j:Nat) (va:Value) (l:List Int) (p:kM) (M:Mm) (hM:fE M) (hj:j<l.length) (h3:(dE p M).2.1.cj=3) (vT:j+1=l.length) :
 aP Tryz.prog 107 [pv d,pv mb] [.at d (iA cf (mA va j) (pv m)),.at m (gj p),.h (ar .i64 va l),fw cf mb M] (fun v=>v=(dE p M).1.v)
  (fun _=>[.at d (iA cf (mA va (j+1)) (pv m)),.at m (gj (dE p M).2.1),.h (ar .i64 va l),fw cf mb (dE p M).2.2]):=by
 intro A F hw hS
 refine ab Tryz.func107 rfl (by kernel_rfl) fun _=>?_
 dsimp only [na,zo] at hS
 obtain⟨bb,off,n,dh,e,hn,e2,Qw,hS⟩:=BW hS (.s (.s .z)) hj
 have P4:=Fo d cf (some ⟨bb,off+1,none⟩) (n-1) (l.length-j-1) (by omega) (pv m)
 rw [e2]
 rw [e] at hS
 have JH:=oc cf m mb p M hM
 obtain⟨a,p',M',er⟩:∃a p' M',dE p M=(a,p',M'):=⟨_,_,_,rfl⟩
 rw [er] at h3 JH ⊢
 dsimp only at h3
 have hd:∀A':AW,A'.cy d=some (iA cf (.slice (some ⟨bb,off,none⟩) (l.length-j) n) (pv m))→eF 108 [pv d] A' (.bool false):=fun A' h=>by
  have:=kY d cf _ (l.length-j) n (pv m) A' h
  rwa [show decide (l.length-j=0)=false by simp;omega] at this
 have oE:0<l.length-j:=by omega
 have PE:1≤l.length-j:=by omega
 have JK:l.length-j≤n:=hn
 have hq:=ZL hS hw
 revert hq hS hw hc;clear hS;refine Wr (J2 @hd @JH) (J9 h3 oE PE JK @eB.eq_1 @AW.aa @af.eq_1 @aS.eq_1 @bq.v.eq_1) (J1 ?_)<;>unhygienic intros
 apply aP.el P4
 · repeat' (first|assumption|apply AW.Wf.alloc|apply AW.Wf.set|exact Nat.le_refl _|(simp only [AW.aZ,AW.dq];omega)|apply an.uP hS hw|apply ay.z|apply ay.s)
 · apply Qw
   apply an.IW
   (·exact sA)
   (·repeat' (first|apply ay.z|apply ay.s))
 · repeat' (first|apply aX.z|apply aX.s|apply ay.z|apply ay.s)
 rintro _ _ _ hS hw _
 have hS:=lA hS
 have hq:=ZL hS hw
 revert hq hS hw;(repeat first|clear hq|clear hS|clear hw|revert hc|revert zn|revert zA|revert xw|revert R|revert K);refine Wr trivial (J4 @AW.aa @af.eq_1 @aS.eq_1 @bq.v.eq_1) (J1 ?_)<;>unhygienic intros
 refine⟨_,by simp [hq,AW.aa,af];rfl,by simp [bq.v],?_⟩
 apply an.cC
 (·exact sA)
 (·first|exact pR|exact kR)
end
section
abbrev Fx:List (Nat×Nat):=[(0,0),(1,0),(2,0),(3,0),(4,0),(5,0),(6,0),(7,0),(8,0),(9,3),(10,0),(11,0),(12,3)]
abbrev rQ:List (Nat×Nat):=[(0,0),(1,0),(2,0),(3,0),(4,0),(5,0),(6,0),(7,0),(8,0),(9,0),(10,0),(11,0),(12,0),(13,0),(14,0),(15,2),(16,2),(17,3),(18,0)]
open T28 T16
theorem qz (b:Nat) (s:aD) (n:Int) :
 aP Tryz.prog 95 [pv b] [.h (jz b s n .fW)] (fun _=>True) (fun _=>[.h (bF b { s with aE:=some ⟨false,0,false⟩,aA:=.dI })]):=by
 obtain⟨cf,ag,av,ax,value,br,ai,ah,ac,ap,set,aM,ao,aj,aG,aE,am,aA⟩:=s
 intro A F hw hS
 refine ab Tryz.func95 rfl (by kernel_rfl) fun _=>?_
 dsimp only [na,zo] at hS
 obtain⟨⟨bh,aY,az,aJ,aK,m,dy,k,ja,dr,bS,aw,aB,va,vv,vi,fA,fk,dD,dL,cI,jv,dO,dP,cG,cx,dv,cH,dN,bU,bt,dM,bT⟩,hS⟩:=jz.open hS .z
 dsimp only [bE,bH,cJ,bj,cR,eQ,cO,bf,ff,bO,bP,bd,be,bL,bc,bN,aO,aI,bM,aN,bJ,aT,aQ,aD.rv,na,zo] at hS
 try simp only [cV] at hS
 have hq:=ZL hS hw
 revert hq hS hw;clear hS;refine Wr (J1 @Bd) (J2 @AW.aa @af.eq_1) (J1 ?_)<;>unhygienic intros
 refine⟨_,by first|rfl|(simp;rfl),trivial,?_⟩
 apply bF.cC
 (·exact sA)
 (dsimp only [bE,bH,cJ,bj,cR,eQ,cO,bf,ff,bO,bP,bd,be,bL,bc,bN,aO,aI,bM,aN,bJ,aT,aQ,aD.rv,na,zo])
 (try simp only [cV])
 (try simp only [h])
 (·first|exact pR|exact kR)
 (·first|exact pR|exact kR)
 all_goals(first|exact 0|exact undef)
theorem yr (b:Nat) (s:aD) (n:Int) (hc:dt s.cf) (h1:s.ax≠1) (hp:s.am=0) :
 aP Tryz.prog 105 [pv b] [.h (jz b s n .fW)] (fun _=>True) (fun _=>[.h (bF b (gg s))]):=by
 obtain⟨cf,ag,av,ax,value,br,ai,ah,ac,ap,set,aM,ao,aj,aG,aE,am,aA⟩:=s
 dsimp only at hc h1 hp
 subst hp
 by_cases hz:ac.length=0
 · have Rn:=List.eq_nil_of_length_eq_zero hz
   subst Rn
   have e:gg ⟨cf,ag,av,ax,value,br,ai,ah,[],ap,set,aM,ao,aj,aG,aE,0,aA⟩=⟨cf,ag,av,ax,value,br,ai,ah,[],ap,set,aM,ao,aj,aG,aE,0,.fW⟩:=by unfold gg;rw [if_pos (.inr rfl)]
   rw [e]
   intro A F hw hS
   refine ab Tryz.func105 rfl (by kernel_rfl) fun _=>?_
   dsimp only [na,zo] at hS
   obtain⟨⟨bh,aY,az,aJ,aK,m,dy,k,ja,dr,bS,aw,aB,va,vv,vi,fA,fk,dD,dL,cI,jv,dO,dP,cG,cx,dv,cH,dN,bU,bt,dM,bT⟩,hS⟩:=jz.open hS .z
   dsimp only [bE,bH,cJ,bj,cR,eQ,cO,bf,ff,bO,bP,bd,be,bL,bc,bN,aO,aI,bM,aN,bJ,aT,aQ,aD.rv,na,zo] at hS
   try simp only [cV] at hS
   have hq:=ZL hS hw
   obtain⟨SK,Td,rfl,_⟩:=(an.gM hS (.s (.s (.s (.s (.s (.s (.s .z)))))))).cL
   have hq:=ZL hS hw
   revert hq hS hw hc;clear hq;clear hS;refine Wr (J1 (od Fx)) (J3 hz @AW.aa @af.eq_1) (J1 ?_)<;>unhygienic intros
   refine⟨_,by first|rfl|(simp;rfl),trivial,?_⟩
   apply bF.cC
   (·exact sA)
   (dsimp only [bE,bH,cJ,bj,cR,eQ,cO,bf,ff,bO,bP,bd,be,bL,bc,bN,aO,aI,bM,aN,bJ,aT,aQ,aD.rv,na,zo])
   (try simp only [cV])
   (try simp only [h])
   (·first|exact pR|exact kR)
   (·first|exact pR|exact kR)
   all_goals(first|exact 0|exact undef)
 · have e:gg ⟨cf,ag,av,ax,value,br,ai,ah,ac,ap,set,aM,ao,aj,aG,aE,0,aA⟩=⟨cf,ag,av,ax,value,br,ai,ah,ac,ap,set,aM,ao,aj,aG,aE,0,.eZ ⟨ds cf (ac.getD 0 0),ac.getD 0 0,0,0⟩⟩:=by
    unfold gg
    rw [if_neg (by rintro (h|h);exact h1 h;exact hz h.symm)]
   rw [e]
   have oE:0<ac.length:=by omega
   have Cl:(0:Int)<ac.length:=by omega
   intro A F hw hS
   refine ab Tryz.func105 rfl (by kernel_rfl) fun _=>?_
   dsimp only [na,zo] at hS
   obtain⟨⟨bh,aY,az,aJ,aK,m,dy,k,ja,dr,bS,aw,aB,va,vv,vi,fA,fk,dD,dL,cI,jv,dO,dP,cG,cx,dv,cH,dN,bU,bt,dM,bT⟩,hS⟩:=jz.open hS .z
   dsimp only [bE,bH,cJ,bj,cR,eQ,cO,bf,ff,bO,bP,bd,be,bL,bc,bN,aO,aI,bM,aN,bJ,aT,aQ,aD.rv,na,zo] at hS
   try simp only [cV] at hS
   have hq:=ZL hS hw
   obtain⟨SK,Td,rfl,_⟩:=(an.gM hS (.s (.s (.s (.s (.s (.s (.s .z)))))))).cL
   have hq:=ZL hS hw
   have hnd:=yH cf hc (.slice SK ac.length Td) ac oE
   dsimp only [bG.v] at hnd
   revert hq hS hw;(repeat first|clear hq|clear hS|clear hw|revert hc|revert zn|revert zA|revert xw|revert R|revert K);refine Wr (J2 (Tg.mk (n:=32) @hnd) (od Fx)) (J5 hz oE Cl @AW.aa @af.eq_1) (J1 ?_)<;>unhygienic intros
   refine⟨_,by first|rfl|(simp;rfl),trivial,?_⟩
   apply bF.cC
   (·exact sA)
   (dsimp only [bE,bH,cJ,bj,cR,eQ,cO,bf,ff,bO,bP,bd,be,bL,bc,bN,aO,aI,bM,aN,bJ,aT,aQ,aD.rv,na,zo])
   (try simp only [cV])
   (try simp only [h])
   (·first|exact pR|exact kR)
   (·first|exact pR|exact kR)
   all_goals(first|exact 0|exact undef)
theorem fO (b:Nat) (s:aD) (n ec:Int) (hc:dt s.cf) (h1:ec≠1) (hp:s.am=0) (hd:s.ai=false) :
 aP Tryz.prog 188 [pv b,.int .i64 ec] [.h (jz b s n .fW)] (fun _=>True) (fun _=>[.h (bF b (gy s ec))]):=by
 obtain⟨cf,ag,av,ax,value,br,ai,ah,ac,ap,set,aM,ao,aj,aG,aE,am,aA⟩:=s
 dsimp only at hc h1 hp hd
 subst hd
 intro A F hw hS
 refine ab Tryz.func188 rfl (by kernel_rfl) fun _=>?_
 dsimp only [na,zo] at hS
 obtain⟨⟨bh,aY,az,aJ,aK,m,dy,k,ja,dr,bS,aw,aB,va,vv,vi,fA,fk,dD,dL,cI,jv,dO,dP,cG,cx,dv,cH,dN,bU,bt,dM,bT⟩,hS⟩:=jz.open hS .z
 dsimp only [bE,bH,cJ,bj,cR,eQ,cO,bf,ff,bO,bP,bd,be,bL,bc,bN,aO,aI,bM,aN,bJ,aT,aQ,aD.rv,na,zo] at hS
 try simp only [cV] at hS
 have hq:=ZL hS hw
 repeat' (first
 | (refine il fun R hR=>?_;simp [ak,au,hq,AW.aa,af];try simp (disch:=omega) only [if_pos,if_neg,ak,au])
 | (refine hR _ _ ?_;clear hR R)|(refine hK _ _ ?_;clear hK K)|refine nx ?_
 | refine wn fun K hK=>?_
 | simp only [wS]
 | (apply aP.Io (yr b ⟨cf,ag,av,ec,value,br,false,ah,ac,ap,set,aM,ao,aj,aG,aE,am,aA⟩ n hc h1 hp);(·exact wA);(·exact sA);(·exact fR);(·first|exact pR|exact kR);(rintro _ _ _ hS hw _;have hS:=lA hS);(try (have hq:=ZM hS hw));all_goals(try (first|exact 0|exact undef)))
 | refine wb ?_|refine wr ?_|refine wk ?_|refine we ?_|refine ws ?_|refine wq ?_
 | (refine wc rfl (fun hc=>?_) (fun hc=>?_)<;>(try simp at hc)<;>(try omega)<;>(try (simp [h2] at hc;done))<;>(try (simp [h3] at hc;done))<;>(try (simp [h4] at hc;done)))
 | (refine ib (fun hc=>?_) (fun hc=>?_)<;>(try omega)<;>(try simp (disch:=omega) only [if_pos,if_neg])))
 refine⟨_,by first|rfl|(simp;rfl),trivial,?_⟩
 apply an.cC
 (·exact sA)
 (·first|exact pR|exact kR)
theorem Db {A:AW} {L K:List It} {k:Value→AW→Prop} {t:Int} {vi:Value} {l:List Int} (hw:A.Wf) (hS:an A L) (hp:ay L (.h (ar .i64 vi l)) K) (hl:l.length<2^38)
 (hk:∀n fA fk A',an A' (.at n (jA ⟨t,dX l,[],0,false⟩ fA fk)::.h (ar .i64 fA (dX l))::.h (ar .u64 fk [])::L)→A'.Wf→k (pv n) A'):aH Tryz.prog 237 [.int .i64 t,vi] A k:=by
 refine bD (Bg t vi l A (bn L) (an.gM hS hp) hl hw hS) ?_
 rintro _ A' ⟨n,rfl,h⟩ gY _
 obtain⟨vo,vw,h⟩:=gC.open h
 exact hk n vo vw A' h gY
theorem lz (b:Nat) (s:aD) (n ec:Int) (hC:ep s) (hE:fe s) :
 aP Tryz.prog 187 [pv b,.int .i64 ec] [.h (jz b s n .fW)] (fun _=>True) (fun _=>[.h (bF b (nN s ec))]):=by
 have pO:=Cv s ec
 have cU:=hC.len
 have gt:=hC.cf
 obtain⟨nu,ns,nq,nk,nj⟩:=hE
 obtain⟨cf,ag,av,ax,value,br,ai,ah,ac,ap,set,aM,ao,aj,aG,aE,am,aA⟩:=s
 dsimp only at pO cU gt nu ns nq nk nj
 subst nj nu ns nq nk
 intro A F hw hS
 refine ab Tryz.func187 rfl (by kernel_rfl) fun _=>?_
 dsimp only [na,zo] at hS
 obtain⟨⟨bh,aY,az,aJ,aK,m,dy,k,ja,dr,bS,aw,aB,va,vv,vi,fA,fk,dD,dL,cI,jv,dO,dP,cG,cx,dv,cH,dN,bU,bt,dM,bT⟩,hS⟩:=jz.open hS .z
 dsimp only [bE,bH,cJ,bj,cR,eQ,cO,bf,ff,bO,bP,bd,be,bL,bc,bN,aO,aI,bM,aN,bJ,aT,aQ,aD.rv,na,zo] at hS
 try simp only [cV] at hS
 have hq:=ZL hS hw
 obtain⟨la,lv,li,tq⟩:=fY.open hS (.s (.s (.s (.s (.s (.s (.s (.s (.s .z)))))))))
 obtain⟨oa,ca,rfl,_⟩:=(an.gM tq (.s .z)).cL
 have GR:=an.gM tq (.s .z)
 have hq:=tq.eA hw
 dsimp only [na,zo,bp,bY,cS,eN,gw] at hq
 rcases pO with ⟨h,e⟩|⟨h,e⟩
 · rw [e]
   by_cases h1:ec=1
   · have hz:aM.bl.length=0:=by simp [h1] at h;simpa using h
     revert hq hS hw;clear hq;clear hS;refine Wr (J2 (Tg.mk (n:=24) (qz b ⟨cf,ag,av,1,value,br,false,ah,ac,ap,set,aM,ao,[],none,none,0,aA⟩ n)) (od rQ)) (J4 h1 hz @AW.aa @af.eq_1) (J1 ?_)<;>unhygienic intros
     refine⟨_,by first|rfl|(simp;rfl),trivial,?_⟩
     rw [h1]
     apply an.cC
     (·exact sA)
     (·first|exact pR|exact kR)
   · revert hq hS hw;(repeat first|clear hq|clear hS|clear hw|revert hc|revert zn|revert zA|revert xw|revert R|revert K);refine Wr (J2 (Tg.mk (n:=24) (qz b ⟨cf,ag,av,ec,value,br,false,ah,ac,ap,set,aM,ao,[],none,none,0,aA⟩ n)) (od rQ)) (J3 h1 @AW.aa @af.eq_1) (J1 ?_)<;>unhygienic intros
     refine⟨_,by first|rfl|(simp;rfl),trivial,?_⟩
     apply an.cC
     (·exact sA)
     (·first|exact pR|exact kR)
 · rw [e]
   obtain⟨h1,oE⟩:ec=1∧0<aM.bl.length:=by simpa using h
   subst h1
   have Cl:(0:Int)<aM.bl.length:=by omega
   have kU:=yF cf gt
   dsimp only [bG.v] at kU
   clear tq
   generalize hn:aM.bl=ad at *
   revert hq hS hw;(repeat first|clear hq|clear hS|clear hw|revert hc|revert zn|revert zA|revert xw|revert R|revert K);refine Wr (J1 (od rQ)) (J4 oE Cl @AW.aa @af.eq_1) (J1 ?_)<;>unhygienic intros
   refine ed (fun k fr A'=>A'.Wf∧∃(i:Nat) (v:Value) (q:List Int),q=(ad.take i).map (fJ cf)∧k=ad.length-i∧i≤ad.length∧fr 0=pv b∧fr 4=v∧fr 5=.int .i64 i∧
    an A' (.h (ar .i64 v q)::(bE b ⟨cf,ag,av,1,value,br,false,ah,ac,ap,set,aM,ao,[],none,none,0,aA⟩ n .fW ⟨bh,aY,az,aJ,aK,m,dy,k,ja,dr,bS,aw,aB,va,vv,vi,fA,fk,dD,dL,cI,jv,dO,dP,cG,cx,dv,cH,dN,bU,bt,dM,bT⟩++[.h (fY aY aM),.h F]))) ad.length ?_ ?_
   · refine⟨?_,0,.slice none 0 0,[],by simp,by simp,by simp,by simp,by simp,by simp,?_⟩
     · repeat' (first|assumption|apply AW.Wf.alloc|apply AW.Wf.set|exact Nat.le_refl _|(simp only [AW.aZ,AW.dq];omega)|apply an.uP hS hw|apply ay.z|apply ay.s)
     · apply an.rV .i64
       apply an.cC
       (·exact sA)
       (dsimp only [bE,bH,cJ,bj,cR,eQ,cO,bf,ff,bO,bP,bd,be,bL,bc,bN,aO,aI,bM,aN,bJ,aT,aQ,aD.rv,na,zo])
       (try simp only [cV])
       (try simp only [h])
       (·first|exact pR|exact kR)
   · clear hq hS hw GR
     rintro k fr A' ⟨hw,i,v,q,zD,rfl,hi,h0,h4,h5,hS⟩
     have ME:=an.gM hS .z
     have Lu:q.length=i:=by rw [zD];simp;omega
     obtain⟨ov,cv,rfl,_⟩:=ME.cL
     dsimp only [bE,bH,cJ,bj,cR,eQ,cO,bf,ff,bO,bP,bd,be,bL,bc,bN,aO,aI,bM,aN,bJ,aT,aQ,aD.rv,na,zo] at hS
     simp only [cV] at hS
     obtain⟨la,lv,li,tq⟩:=fY.open hS (.s (.s (.s (.s (.s (.s (.s (.s (.s (.s .z))))))))))
     obtain⟨oa,ca,rfl,_⟩:=(an.gM tq (.s .z)).cL
     have GR:=an.gM tq (.s .z)
     have hq:=tq.eA hw
     dsimp only [na,zo,bp,bY,cS,eN,gw] at hq
     clear tq
     rw [hn] at GR
     simp only [hn] at hq
     refine eW ?_
     by_cases dQ:i<ad.length
     · have ey:(i:Int)<ad.length:=by omega
       have mc:IntKind.i64.wrap ((i:Int)+1)=((i+1:Nat):Int):=ak (by omega) (by omega)
       obtain⟨p,dh,rfl,eH,dg⟩:=GR.at dQ
       revert hq hS hw;(repeat first|clear hq|clear hS|clear hw|revert hc|revert zn|revert zA|revert xw|revert R|revert K);refine Qk (J2 (od rQ) @kU) (Kw h0 h4 h5 eH dg dQ ey mc @AW.aa @af.eq_1) (J1 ?_)<;>unhygienic intros
       refine⟨ad.length-(i+1),by omega,hw,i+1,_,q++[fJ cf ad[i]],?_,rfl,by omega,by simp [h0],by simp;rfl,by simp,?_⟩
       · rw [zD,List.take_succ_eq_append_getElem dQ,List.map_append];rfl
       · apply an.cC hS
         (dsimp only [bE,bH,cJ,bj,cR,eQ,cO,bf,ff,bO,bP,bd,be,bL,bc,bN,aO,aI,bM,aN,bJ,aT,aQ,aD.rv,na,zo])
         (try simp only [cV])
         (try simp only [h])
         (·first|exact pR|exact kR)
     · have zG:i=ad.length:=by omega
       subst zG
       rw [List.take_length] at zD
       revert hq hS hw;(repeat first|clear hq|clear hS|clear hw|revert hc|revert zn|revert zA|revert xw|revert R|revert K);refine Wr (J2 (Tg.mk (n:=18) @Db) (od rQ)) (J5 h0 h4 h5 @AW.aa @af.eq_1) (J1 ?_)<;>unhygienic intros
       rw [←zD]
       have IS:=ug q
       refine⟨_,by first|rfl|(simp;rfl),trivial,?_⟩
       rw [IS]
       have hS:=hW.cl hS (.s .z (.s .z (.s .z .z)))
       apply bF.cC
       (·exact sA)
       (dsimp only [bE,bH,cJ,bj,cR,eQ,cO,bf,ff,bO,bP,bd,be,bL,bc,bN,aO,aI,bM,aN,bJ,aT,aQ,aD.rv,na,zo])
       (try simp only [cV])
       (try simp only [h])
       (·first|exact pR|exact kR)
       (·first|exact pR|exact kR)
       all_goals(first|exact 0|exact undef)
end
end Go.Stx
