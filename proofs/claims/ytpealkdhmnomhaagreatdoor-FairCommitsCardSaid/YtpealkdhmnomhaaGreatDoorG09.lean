/-
 The reference's machine that checks; phases of the program's lists.
-/
import Derived.Test.YtpealkdhmnomhaaGreatDoorG08
set_option linter.unusedVariables false
set_option linter.unusedSimpArgs false
set_option linter.unusedSectionVars false
set_option maxRecDepth 20000
set_option maxHeartbeats 4000000
open Go.IntKind renaming u64->q8
open Go.Proofs.Tryz renaming prog->qV
open Go.Stx.AW.le renaming alloc->qW
open List renaming getD_eq_getElem?_getD->Za,getElem?_eq_getElem->q9
open Ne renaming symm->Zm
open Bool renaming false->qk,true->qg
open Go renaming IntKind->qw,Value->qd
open Go.IntKind renaming i64->qa,u64->qj
open Go.Stx.eh renaming cells->qi
open Go.Value renaming bool->qn,int->qb,pointer->qm
open Option renaming none->qh,some->qc
namespace Go.Stx
open Go Go.Proofs
attribute [local irreducible] TW bI cM aV aB aL cU dh
section
open T4
variable [Gl]
def rCheckO (v:qd) (rv:Int) (k:Nat) (f:Bool):eh:=qi [v,qb qa rv,qb qa k,qn f] qg 1
end
section
open T5
variable [Gl]
def kg (a:bh):Int:=if a.cell=8 then 9 else if a.fx=3 then 10 else 8
def gn (a:bh):Int:=if a.cell=8 then 22 else if a.fx=3 then 23 else 21
theorem M8 (a:bh) (A:AW) (hw:A.Wf):aB qV 212 [a.v] A (λv A'=>v=qb qa (kg a)/\A.le A'):=by
 refine aK Tryz.func212 λ_=>?_;by_cases h1:a.cell=8<;>by_cases h2:a.fx=3
 all_goals(revert hw;refine W cx (J4 h1 h2 bC @bh.v.eq_1) ?_<;>unhygienic intros)
 all_goals exact⟨_,rfl,by simp [kg,h1,h2],qW _ _⟩
theorem KU (a:bh) (A:AW) (hw:A.Wf):aB qV 117 [a.v] A (λv A'=>v=qb qa (gn a)/\A.le A'):=by
 refine aK Tryz.func117 λ_=>?_;by_cases h1:a.cell=8<;>by_cases h2:a.fx=3
 all_goals(revert hw;refine W cx (J4 h1 h2 bC @bh.v.eq_1) ?_<;>unhygienic intros)
 all_goals exact⟨_,rfl,by simp [gn,h1,h2],qW _ _⟩
theorem PU (v:qd) (l:List Int) (x:Int) (A:AW) (h:bK A qa v l) (hl:l.length<2^62) :
 aB qV 140 [v,qb qa x] A (λu A'=>(∃r:Int,u=qb qa r/\(0<=r↔x∈l))/\A=A'):=by
 refine aK Tryz.func140 λ_=>?_;obtain⟨o,c,rfl,_⟩:=h.bR;refine W cx cx ?_<;>(unhygienic intros);refine df (λk fr A'=>A=A'/\∃i:Nat,k=l.length-i/\i<=l.length/\fr 0=.slice o l.length c/\fr 1=qb qa x/\fr 7=qb qa l.length/\fr 8=qb qa i/\∀j,j<i->l[j]?≠qc x) l.length ?_ ?_;refine⟨rfl,0,by simp,by simp,rfl,rfl,rfl,rfl,by simp⟩;rintro k fr A' ⟨rfl,i,rfl,hi,h0,h1,h7,h8,hj⟩;by_cases bY:i<l.length;obtain⟨p,bS,rfl,bO,hcell⟩:=h.at bY;have gC:=zd (i:=i);refine aT ?_;refine W cx (J8 h0 h1 h7 h8 bO hcell bY gC) (J2 ?_ ?_)<;>intros;refine⟨_,rfl,⟨(i:Int),by simp,?_⟩,rfl⟩;have hx:l[i]=x:=by simp_all
 exact⟨λ_=>hx▸List.getElem_mem bY,λ_=>by omega⟩;refine⟨l.length-(i+1),by omega,rfl,i+1,rfl,by omega,?_,?_,?_,?_,?_⟩;simp [h0];simp [h1];simp [h7];simp;intro j kh;by_cases e:j=i;subst e;rw [q9 bY];intro e2;injection e2 with e2;simp_all;exact hj j Ya;refine aT ?_;refine W cx (J5 h0 h1 h7 h8 bY) ?_<;>intros;refine⟨_,rfl,⟨-1,by simp,?_⟩,rfl⟩;refine⟨λh=>by omega,λhm=>?_⟩;obtain⟨j,H0,Ms⟩:=List.getElem_of_mem hm;exact absurd (by rw [q9 H0,Ms]) (hj j Ya)
theorem AC (v:qd) (l:List Int) (x:Int) (A:AW) (h:bK A qa v l) (hl:l.length<2^62) :
 fD 105 [v,qb qa x] A (qn (decide (x∈l))):=by
 refine aK Tryz.func105 λ_=>?_
 repeat' (first|(refine iT λR hR=>?_;simp [];try simp (disch:=omega) only [ay,aw,af,an])|(refine hR _ _ ?_;clear hR R)|(refine hK _ _ ?_;clear hK K)|refine nx ?_|refine wn λK hK=>?_|simp only [wS]|(refine bD (PU v l x _ h hl) ?_<;>rintro _ _ ⟨⟨r,rfl,hr⟩,rfl⟩ _ _)|(show cM _ _ _ _ _ _;refine nx ?_))
 exact⟨_,rfl,by simp [hr],rfl⟩
end
section
abbrev Gm:List (Nat×Nat):=[(0,0),(1,0),(2,0),(3,0),(4,0),(5,0),(6,0),(7,0),(8,0),(9,0),(10,0)]
open T5
variable [Gl]
theorem aj.append {P:Program} {A:AW} {L K:List It} {t e:TypeId} {i:TypeInfo} {z:qd} {v:qd} {k:qw} {l:List Int} (h:aj A L) (hp:aE L (.h (au k v l)) K) (y:Int)
 (hu:P.underlying t=qc (.slice e)) (hi:P.info? e=qc i) (hz:i.zero=qc z) (iA:i.size=1) (pq:z.cells.size=1) (bW:l.length<2 ^ 40) (zZ:i.bytes<=8) (hw:A.Wf) :
 ∃v' A',fI P (A.alloc (qi [qb k y] qg 1)) t t v (.slice (qc ⟨A.next,0,qh⟩) 1 1)=qc (v',A')/\aj A' (.h (au k v' (l++[y]))::K)/\A'.Wf/\A.next<=A'.next/\∃o c,v'=.slice o (l.length+1) c:=by
 have h1:bB A (au k v l*aO K):=by
  unfold aj at h;rw [hp.aO] at h;exact h
 obtain⟨v',A',e1,h2,h3,h4⟩:=au.append (P:=P) (t:=t) y hu hi hz iA pq h1 bW zZ hw;obtain⟨o,c,h5,_⟩:=(au.is h2).bR;exact⟨v',A',e1,h2,h3,h4,o,c,by simpa using h5⟩
def xZ (eV:Nat) (v:qd):eh:=qi [qb qa eV,v] qg 1
def Ae (b:Nat) (eV:Nat) (l:List Int):HP:=td λv:qd=>pt b (xZ eV v)*au qa v l
def eO (eV:Nat) (l:List Int) (x:Int):Bool×List Int:=if x∈l then (qg,l) else if eV<=l.length then (qk,l) else (qg,l++[x])
theorem Ae.open {A:AW} {L K:List It} {b eV:Nat} {l:List Int} (h:aj A L) (hp:aE L (.h (Ae b eV l)) K):∃v,aj A (.at b (xZ eV v)::.h (au qa v l)::K):=by
 unfold aj at h;rw [hp.aO] at h;have h1:bB A (Ae b eV l*aO K):=h;unfold Ae at h1;rw [bB.ex] at h1;obtain⟨v,h2⟩:=h1;exact⟨v,h2.dD (by show _=pt b _*(au qa v l*aO K);rw [HP.de])⟩
theorem Ae.dJ {A:AW} {L K:List It} {b eV:Nat} {l:List Int} {v:qd} (h:aj A L) (hp:bf L [.at b (xZ eV v),.h (au qa v l)] K):aj A (.h (Ae b eV l)::K):=by
 unfold aj at h;rw [hp.aO] at h;show bB A (Ae b eV l*aO K);unfold Ae;rw [bB.ex];exact⟨v,h.dD (by show pt b _*(au qa v l*fl)*aO K=_;rw [dH])⟩
theorem MS (b eV:Nat) (v:qd) (l:List Int) (x:Int) (A:AW) (hg:A.bk b=qc (xZ eV v)) (h:bK A qa v l) (hl:l.length<2^62) :
 fD 267 [qm (qc ⟨b,0,qh⟩),qb qa x] A (qn (decide (x∈l))):=by
 refine aK Tryz.func267 λ_=>?_;dsimp only [xZ] at hg;refine W (J1 (AC v l x _ h hl)) (J2 hg @AW.ab) ?_<;>intros
 all_goals exact⟨_,rfl,rfl,rfl⟩
theorem nJ (b eV:Nat) (l:List Int) (x:Int) (hc:l.length<=eV) (yx:eV<=32) :
 bx qV 207 [qm (qc ⟨b,0,qh⟩),qb qa x] [.h (Ae b eV l)] (λu=>u=qn (eO eV l x).1) (λ_=>[.h (Ae b eV (eO eV l x).2)]):=by
 intro A F hw dU;refine aK Tryz.func207 λ_=>?_;obtain⟨vo,hS⟩:=Ae.open dU .z;have hI:=aj.tC hS (.s .z);have yu:=hS.g 0 rfl;have hg:=yu;dsimp only [xZ] at hg;obtain⟨oo,co,rfl,_⟩:=hI.bR;have wZ:=MS b eV _ l x A yu hI Ya;by_cases h1:x∈l;rw [decide_eq_true h1] at wZ;have e:eO eV l x=(qg,l):=ay h1;refine W (J2 (od Gm) @wZ) (J3 hg h1 @AW.ab) ?_<;>intros;refine⟨_,rfl,by simp [e],?_⟩;rw [e];exact dU;rw [decide_eq_false h1] at wZ;by_cases h2:eV<=l.length
 . have e:eO eV l x=(qk,l):=(by unfold eO;rw [aw h1,ay h2]);have h3:(eV:Int)<=l.length:=Ya
   skip
   refine W (J2 (od Gm) @wZ) (J4 hg h1 h3 @AW.ab) ?_<;>intros;refine⟨_,rfl,by simp [e],?_⟩;rw [e];exact dU
 have e:eO eV l x=(qg,l++[x]):=by unfold eO;rw [aw h1,aw h2]
 have h3:¬(eV:Int)<=l.length:=Ya
 have h4:¬(l.length:Int)=eV:=Ya
 obtain⟨v',A',e1,lO,jE,_,o2,c2,rfl⟩:=aj.append (P:=qV) (t:=24) hS (.s .z) x Tryz.underlying24 Tryz.info3 Tryz.zero3 rfl rfl Ya Yb hw;have BJ:=lO.g 1 rfl;dsimp only [xZ] at BJ;refine W (J2 (od Gm) @wZ) (J7 hg h1 h3 h4 e1 BJ bC) ?_<;>intros;refine⟨_,by rfl,by simp [e],?_⟩;rw [e];exact Ae.dJ (v:=.slice o2 (l.length+1) c2) (aj.gX lO (.s .z)) (.s .z (.s .z .z))
end
section
open T6
variable [Gl]
def mD (eV:Nat) (va vv vi:qd):eh:=qi [qb qa eV,va,vv,vi] qg 1
end
section
open T7
variable [Gl]
theorem aj.Rm {A:AW} {L K:List It} {k:qw} {v:qd} {l:List Int} (h:aj A L) (hp:aE L (.h (au k v l)) K) {j:Nat} (hj:j<l.length) :
 ∃b off c bS,v=.slice (qc ⟨b,off,qh⟩) l.length c/\off+l.length<=bS.length/\bS[off+j]? = qc (qb k (l.getD j 0))/\
  (∀y A' K',aj A' (.at b (qi (bS.set (off+j) (qb k y)) qg 1)::K')->aj A' (.h (au k v (l.set j y))::K'))/\aj A (.at b (qi bS qg 1)::K):=by
 have h1:bB A (au k v l*aO K):=by
  have h0:=h;unfold aj at h0;rw [hp.aO] at h0;exact h0
 rcases dK.cases h1 with ⟨_,h0,_⟩|⟨b,off,c,bS,rfl,h2,h3,h4,h5⟩;omega;rw [Nat.mul_one] at h3 h4;refine⟨b,off,c,bS,rfl,h3,?_,λy A' K' hh=>au.mk Yb Yu (by simpa using h3) ?_ hh,h5⟩;have:bS[off+j]? = (l.map (Value.int k))[j]?:=by rw [h4,List.getElem?_take_of_lt hj,List.getElem?_drop]
 rw [this,List.getElem?_map,q9 hj,Za,q9 hj];rfl;rw [List.map_set,h4,List.drop_set,aw Ya,show off+j-off=j by omega,List.length_set,List.take_set]
def sy (b:Nat) (s:uU):HP:=td λva:qd=>td λvv:qd=>td λvi:qd=>pt b (mD s.eV va vv vi)*(au qa va s.bZ*(au qj vv s.fU*au qa vi s.index))
theorem sy.open {A:AW} {L K:List It} {b:Nat} {s:uU} (h:aj A L) (hp:aE L (.h (sy b s)) K) :
 ∃va vv vi,aj A (.at b (mD s.eV va vv vi)::.h (au qa va s.bZ)::.h (au qj vv s.fU)::.h (au qa vi s.index)::K):=by
 unfold aj at h;rw [hp.aO] at h;have h1:bB A (sy b s*aO K):=h;unfold sy at h1;rw [bB.ex] at h1;obtain⟨va,h1⟩:=h1;rw [bB.ex] at h1;obtain⟨vv,h1⟩:=h1;rw [bB.ex] at h1;obtain⟨vi,h1⟩:=h1;exact⟨va,vv,vi,h1.dD (by show _=pt b _*(au qa va s.bZ*(au qj vv s.fU*(au qa vi s.index*aO K)));ac_rfl)⟩
theorem sy.dJ {A:AW} {L K:List It} {b:Nat} {s:uU} {va vv vi:qd} (h:aj A L) (hp:bf L [.at b (mD s.eV va vv vi),.h (au qa va s.bZ),.h (au qj vv s.fU),.h (au qa vi s.index)] K):aj A (.h (sy b s)::K):=by
 unfold aj at h;rw [hp.aO] at h;show bB A (sy b s*aO K);unfold sy;rw [bB.ex];refine⟨va,?_⟩;rw [bB.ex];refine⟨vv,?_⟩;rw [bB.ex];exact⟨vi,h.dD (by show pt b _*(au qa va s.bZ*(au qj vv s.fU*(au qa vi s.index*fl)))*aO K=_;rw [dH])⟩
theorem FD {a:Int} {n:Nat} (ha:0<=a):a.tmod (n:Int)=((a.toNat % n:Nat):Int):=by
 rw [Int.tmod_eq_emod_of_nonneg ha,Int.natCast_emod,Int.toNat_of_nonneg ha]
theorem Tv {n:Nat} (hn:0<n) (yt:n<=64) {a:Int} (ha:0<=a):(IntKind.i64.wrap (a.tmod (n:Int)*5)).tmod (n:Int)=(mM n a:Int):=by
 have h1:a.toNat % n<n:=Nat.mod_lt _ hn;rw [FD ha];generalize he:a.toNat % n=r at h1;rw [af (x:=(r:Int)*5) Ya Ya,FD Ya];have h2:((r:Int)*5).toNat=r*5:=Ya
 rw [h2];unfold mM;rw [he]
theorem st_next {n k:Nat} (hn:0<n) (yt:n<=64) (m:Nat):(((st n k m:Nat):Int)+1).tmod (n:Int)=((st n k (m+1):Nat):Int):=by
 have h1:=D3 (k:=k) (d:=m) hn;have h2:=D3 (k:=k) (d:=m+1) hn;rw [FD Ya];have h3:(((st n k m:Nat):Int)+1).toNat=st n k m+1:=Ya
 have h4:(st n k m+1) % n=st n k (m+1):=by unfold st;rw [Nat.mod_add_mod];rfl
 rw [h3,h4]
end
section
abbrev Ff:List (Nat×Nat):=[(0,0),(1,0),(2,0),(3,0),(4,0),(5,0),(6,0),(7,0),(8,0),(9,0),(10,0),(11,0),(12,0),(13,0),(14,0)]
abbrev Fe:List (Nat×Nat):=[(0,0),(1,0),(2,0),(3,0),(4,0),(5,0),(6,0),(7,0),(8,0),(9,0),(10,0),(11,0),(12,0),(13,0),(14,0),(15,0),(16,0),(17,0),(18,0),(19,0),(20,0),(21,0),(22,0),(23,0),(24,0)]
abbrev Rw:List (Nat×Nat):=[(0,0),(1,0),(2,0),(3,0),(4,0),(5,0),(6,2),(7,0),(8,0),(9,0)]
open T7
variable [Gl]
theorem Eb (b:Nat) (va vv vi:qd) (s:uU) (a:Int) (A:AW) (mF:ry s) (ha:0<=a) (yx:s.eV<=32) (OQ:s.index.length<=64) (hg:A.bk b=qc (mD s.eV va vv vi))
 (hIa:bK A qa va s.bZ) (hIi:bK A qa vi s.index) :
 ∃p,p<s.index.length/\((∃e,yG s.bZ a=qc e/\ix s.index p=e)\/(yG s.bZ a=qh/\ix s.index p<0/\CI s.index (mM s.index.length a)=p))/\
  fD 242 [qm (qc ⟨b,0,qh⟩),qb qa a] A (qb qa p):=by
 obtain⟨d,hd,hway,sl⟩:=mF.probe a;have hn:0<s.index.length:=Ya
 refine⟨_,D3 hn,sl,?_⟩;refine aK Tryz.func242 λ_=>?_;obtain⟨oa,ca,rfl,_⟩:=hIa.bR;obtain⟨oi,ci,rfl,_⟩:=hIi.bR;dsimp only [mD] at hg;have hk:=Tv (n:=s.index.length) hn OQ ha;have NU:=G5 hn a;generalize mM s.index.length a=k0 at *;have gZ:¬s.index=[]:=λe=>by rw [e] at hn;simp at hn
 have bW:s.bZ.length<=32:=Nat.le_trans mF.eV yx;refine W (J2 (od Ff) (od Fe)) (J4 hg hk gZ @AW.ab) ?_<;>(unhygienic intros);refine df (λk fr A'=>A=A'/\∃m:Nat,k=d-m/\m<=d/\fr 0=qm (qc ⟨b,0,qh⟩)/\fr 1=qb qa a/\fr 5=qb qa (st s.index.length k0 m)) d ?_ ?_;refine⟨rfl,0,by simp,by simp,rfl,rfl,by simp [E6 NU]⟩;rintro k fr A' ⟨rfl,m,rfl,hm,h0,h1,h5⟩;have dw:=st_next (n:=s.index.length) (k:=k0) hn OQ m;have OO:=D3 (k:=k0) (d:=m) hn;obtain⟨p,bS,rfl,bO,hcell⟩:=hIi.at OO;have lh:s.index[st s.index.length k0 m]=ix s.index (st s.index.length k0 m):=by unfold ix;rw [Za,q9 OO];rfl
 rw [lh] at hcell;have hrng:=mF.rng _ OO;by_cases bY:m<d;obtain⟨hge,hnea⟩:=hway m bY;obtain⟨x,hx⟩:∃x:Nat,ix s.index (st s.index.length k0 m)=x:=⟨(ix s.index (st s.index.length k0 m)).toNat,by omega⟩;rw [hx] at hcell hnea hrng;have hxl:x<s.bZ.length:=Ya
 obtain⟨pa,rowa,rfl,V5,Lw⟩:=hIa.at hxl;have hnea':¬s.bZ[x]=a:=by
  intro e;apply hnea;rw [Int.toNat_natCast,Za,q9 hxl];exact e
 generalize s.bZ[x]=y at *;refine aT ?_;refine W (J2 (od Ff) (od Fe)) (y9 hg h0 h1 h5 bO hcell V5 Lw hxl hnea' OO dw gZ @AW.ab) ?_<;>intros;refine⟨d-(m+1),by omega,rfl,m+1,rfl,by omega,?_,?_,?_⟩;simp [h0];simp [h1];simp;obtain rfl:m=d:=Ya
 rcases sl with ⟨e,Tr,he⟩|⟨Tr,he,_⟩;obtain⟨h3,h4,_⟩:=w7 Tr;rw [he] at hcell;obtain⟨pa,rowa,rfl,V5,Lw⟩:=hIa.at h3;have h5':s.bZ[e]=a:=by
  rw [Za,q9 h3] at h4;exact h4
 rw [h5'] at Lw;refine aT ?_;refine W (J2 (od Ff) (od Fe)) (vZ hg h0 h1 h5 bO hcell V5 Lw h3 OO gZ @AW.ab) ?_<;>intros;exact⟨_,by simp,rfl,rfl⟩;have he':¬0<=ix s.index (st s.index.length k0 m):=Ya
 refine aT ?_;refine W (J2 (od Ff) (od Fe)) (E5 hg h0 h1 h5 bO hcell he' OO gZ @AW.ab) ?_<;>intros;exact⟨_,by simp,rfl,rfl⟩
theorem Nw (b:Nat) (va vv vi:qd) (s:uU) (a:Int) (A:AW) (mF:ry s) (ha:0<=a) (yx:s.eV<=32) (OQ:s.index.length<=64) (hg:A.bk b=qc (mD s.eV va vv vi))
 (hIa:bK A qa va s.bZ) (hIv:bK A qj vv s.fU) (hIi:bK A qa vi s.index) :
 fD 178 [qm (qc ⟨b,0,qh⟩),qb qa a] A (.tuple #[qb qj (mn s a).1,qn (mn s a).2]):=by
 refine aK Tryz.func178 λ_=>?_;obtain⟨p,hp,hcase,mV⟩:=Eb b va vv vi s a A mF ha yx OQ hg hIa hIi;dsimp only [mD] at hg;have ha':¬a<0:=Ya
 obtain⟨oi,ci,rfl,_⟩:=hIi.bR;obtain⟨ov,cv,rfl,_⟩:=hIv.bR;obtain⟨q,bS,rfl,bO,hcell⟩:=hIi.at hp;have lh:s.index[p]=ix s.index p:=by unfold ix;rw [Za,q9 hp];rfl
 rw [lh] at hcell;rcases hcase with ⟨e,Tr,he⟩|⟨Tr,he,_⟩;rw [he] at hcell;have h3:e<s.fU.length:=by rw [mF.PN];exact(w7 Tr).1
 obtain⟨qv,rowv,rfl,V4,hcellv⟩:=hIv.at h3;have jW:mn s a=(s.fU[e],qg):=by simp [mn,Tr,q9 h3]
 have Ul:¬(e:Int)<0:=Ya
 refine W (J2 (od Rw) @mV) (E5 hg ha' bO hcell hp Ul V4 hcellv h3 @AW.ab) ?_<;>intros;exact⟨_,rfl,by simp [jW],rfl⟩;have jW:mn s a=(0,qk):=by simp [mn,Tr]
 refine W (J2 (od Rw) @mV) (J7 hg ha' bO hcell hp he @AW.ab) ?_<;>intros;exact⟨_,rfl,by simp [jW],rfl⟩
end
section
open T7
variable [Gl]
theorem KH (b eV:Nat) (v:qd) (l:List Int) (A:AW) (hg:A.bk b=qc (xZ eV v)) (h:bK A qa v l) (hl:l.length<2^39) :
 aB qV 219 [qm (qc ⟨b,0,qh⟩)] A (λu A'=>eE A.next A' qa u l/\A.le A'):=by
 refine aK Tryz.func219 λ_=>?_;dsimp only [xZ] at hg;refine W cx (J2 hg @AW.ab) ?_<;>(unhygienic intros);refine bD (kC v l A h hl) ?_;rintro u A1 ⟨h1,h2⟩ iZ _;refine W cx cx ?_<;>intros;exact⟨_,rfl,h1,h2⟩
theorem IJ (b eV:Nat) (va vv vi:qd) (l:List Int) (A:AW) (hg:A.bk b=qc (mD eV va vv vi)) (h:bK A qa va l) (hl:l.length<2^39) :
 aB qV 166 [qm (qc ⟨b,0,qh⟩)] A (λu A'=>eE A.next A' qa u l/\A.le A'):=by
 refine aK Tryz.func166 λ_=>?_;dsimp only [mD] at hg;refine W cx (J2 hg @AW.ab) ?_<;>(unhygienic intros);refine bD (kC va l A h hl) ?_;rintro u A1 ⟨h1,h2⟩ iZ _;refine W cx cx ?_<;>intros;exact⟨_,rfl,h1,h2⟩
theorem GB (b eV:Nat) (va vv vi:qd) (l:List Int) (A:AW) (hg:A.bk b=qc (mD eV va vv vi)) (h:bK A qj vv l) (hl:l.length<2^39) :
 aB qV 227 [qm (qc ⟨b,0,qh⟩)] A (λu A'=>eE A.next A' qj u l/\A.le A'):=by
 refine aK Tryz.func227 λ_=>?_;dsimp only [mD] at hg;refine W cx (J2 hg @AW.ab) ?_<;>(unhygienic intros);refine bD (jK vv l A h hl) ?_;rintro u A1 ⟨h1,h2⟩ iZ _;refine W cx cx ?_<;>intros;exact⟨_,rfl,h1,h2⟩
theorem Nv (b eV:Nat) (o:Option Addr) (n c:Nat) (vv vi:qd) (A:AW) (hg:A.bk b=qc (mD eV (.slice o n c) vv vi)) :
 fD 270 [qm (qc ⟨b,0,qh⟩)] A (qb qa n):=by
 refine aK Tryz.func270 λ_=>?_;dsimp only [mD] at hg;refine W cx (J2 hg @AW.ab) ?_<;>intros;exact⟨_,rfl,rfl,rfl⟩
theorem Nq (v:qd) (l:List Int) (rv:Int) (A:AW) (F:HP) (h:bK A qa v l) (hl:l.length<2^38) (hw:A.Wf) (hS:bB A F) :
 aB qV 218 [v,qb qa rv] A (λu A'=>∃b,u=qm (qc ⟨b,0,qh⟩)/\bB A' (kD b ⟨l,rv,qk⟩*F)/\A.le A'):=by
 refine aK Tryz.func218 λ_=>?_;revert hS hw;refine W cx cx ?_<;>(unhygienic intros);refine bD (kC v l A h Ya) ?_;rintro u A1 ⟨h1,h2⟩ iZ _;obtain⟨o1,c1,rfl,_⟩:=h1.is.bR;revert hS hw;(repeat first|revert R|revert K);refine W cx cx ?_<;>(unhygienic intros);refine⟨_,by (simp;done),A1.next,rfl,?_,h2.trans (qW _ _)⟩;have js:=(au.jd hS hw h2 h1).alloc iZ (qi [.slice o1 l.length c1,qb qa rv,qn qk] qg 1);unfold kD;rw [bB.ex];exact⟨.slice o1 l.length c1,js.dD (by show _=pt A1.next (qi [.slice o1 l.length c1,qb qa rv,qn qk] qg 1)*au qa (.slice o1 l.length c1) l*F;rw [HP.de])⟩
end
section
abbrev Vw:List (Nat×Nat):=[(0,0),(1,0),(2,0),(3,0),(4,0),(5,0),(6,0),(7,0),(8,0),(9,0),(10,0),(11,0)]
abbrev s9:List (Nat×Nat):=[(0,0),(1,0),(2,0),(3,0),(4,0),(5,0),(6,0),(7,0),(8,0),(9,0),(10,0),(11,0),(12,3),(13,0),(14,0),(15,0),(16,3)]
abbrev s8:List (Nat×Nat):=[(0,0),(1,0),(2,0),(3,0),(4,0),(5,0),(6,2),(7,0),(8,0),(9,0),(10,3),(11,0),(12,0),(13,3)]
abbrev s7:List (Nat×Nat):=[(0,0),(1,0),(2,0),(3,0),(4,0),(5,0),(6,0),(7,0),(8,0),(9,0),(10,0),(11,0),(12,0),(13,0),(14,0),(15,0),(16,0),(17,0),(18,0),(19,0),(20,0),(21,0),(22,0),(23,0),(24,0),(25,0),(26,0),(27,3),(28,0),(29,0),(30,0),(31,3)]
abbrev vD:List (Nat×Nat):=[(0,0),(1,0),(2,0),(3,0),(4,0),(5,0),(6,0),(7,0),(8,0),(9,2),(10,3),(11,0),(12,0),(13,3)]
open T7
variable [Gl]
structure iI where
 am:Int
 av:List Int
 ey:List Int
 dM:Int
 fZ:Bool
def iI.done (s:iI):Bool:=decide (s.ey.length=s.av.length)
def iV (b:Nat) (s:iI):HP:=td λvo:qd=>td λvw:qd=>
 pt b (qi [qb qa s.am,vo,vw,qb qj s.dM,qn s.fZ] qg 1)*(au qa vo s.av*au qj vw s.ey)
theorem iV.open {A:AW} {b:Nat} {s:iI} {F:HP} (h:bB A (iV b s*F)) :
 ∃vo vw,bB A (pt b (qi [qb qa s.am,vo,vw,qb qj s.dM,qn s.fZ] qg 1)*(au qa vo s.av*(au qj vw s.ey*F))):=by
 unfold iV at h;rw [bB.ex] at h;obtain⟨vo,h⟩:=h;rw [bB.ex] at h;obtain⟨vw,h⟩:=h;exact⟨vo,vw,h.dD Yd⟩
theorem iV.dJ {A:AW} {b:Nat} {s:iI} {F:HP} {vo vw:qd} (h:bB A (pt b (qi [qb qa s.am,vo,vw,qb qj s.dM,qn s.fZ] qg 1)*(au qa vo s.av*(au qj vw s.ey*F)))) :
 bB A (iV b s*F):=by
 unfold iV;rw [bB.ex];refine⟨vo,?_⟩;rw [bB.ex];exact⟨vw,h.dD Yd⟩
theorem pW (b:Nat) (s:iI) (A:AW) (F:HP) (h:bB A (iV b s*F)) :
 aB qV 214 [qm (qc ⟨b,0,qh⟩)] A (λv A'=>v=qn s.done/\A=A'):=by
 refine aK Tryz.func214 λhw=>?_;obtain⟨vo,vw,hS⟩:=iV.open h;obtain⟨oo,co,rfl,_⟩:=(au.is hS.right).bR;obtain⟨ow,cw,rfl,_⟩:=(au.is hS.right.right).bR;have hg:=hS.bk;refine W (J1 (od Vw)) (J2 hg @AW.ab) ?_<;>intros;simp [iI.done];omega
def dC (s:iI):Int:=s.av.getD s.ey.length 0
def gx (s:iI):Int:=q8.wrap (q8.wrap (s.dM+q8.wrap s.am)+1)
def dI (s:iI) (M:Nat->List Int):bh×iI×(Nat->List Int):=
 if s.done=qg then (bh.zero,s,M)
 else if s.fZ=qk then
  let a:=eR M 1 2 (dC s) lG
  (a,{ s with dM:=a.eY,fZ:=decide (oH a.eY<0) },M)
 else
  let a:=eR M 3 2 (dC s) (jJ s.dM (gx s))
  (a,{ s with fZ:=qk,ey:=if a.done=qg then s.ey++[s.dM] else s.ey },kL M 2 (dC s) (jJ s.dM (gx s)))
theorem IK (b pb:Nat) (s:iI) (M:Nat->List Int) (bW:s.ey.length<=s.av.length) (NR:s.av.length<2^38) :
 oR qV 213 [qm (qc ⟨b,0,qh⟩),qm (qc ⟨pb,0,qh⟩)] (iV b s*fg pb M)
  (λv=>BH (v=(dI s M).1.v)*(iV b (dI s M).2.1*fg pb (dI s M).2.2)):=by
 intro A F hw dU;refine aK Tryz.func213 λ_=>?_;rw [HP.de] at dU;have js:=((dU.alloc hw (qi bn qg 1)).alloc (hw.alloc _) (qi bn qg 1));have lO:bB ((A.alloc (qi bn qg 1)).alloc (qi bn qg 1)) (iV b s*(fg pb M*(pt (A.next+1) (qi bn qg 1)*(pt A.next (qi bn qg 1)*F)))):=js.dD YK;by_cases mL:s.done=qg;revert hw;refine W (J5 (od s9) (od s8) (od s7) (od vD) (pW b s _ _ lO)) (J3 mL bC @bn.eq_1) ?_<;>(unhygienic intros);have dw:dI s M=(bh.zero,s,M):=by unfold dI;rw [ay mL]
 rw [dw];refine⟨_,by simp [AW.ab];rfl,bB.post Xc ?_⟩;rw [HP.de];exact dU.le hw ((((qW A _).trans (qW _ _)).set (Nat.le_refl _) _));have Wo:s.done=qk:=by simpa using mL
 have bY:s.ey.length<s.av.length:=by
  have:¬s.ey.length=s.av.length:=by simpa [iI.done] using mL
  omega
 have fo:(s.ey.length:Int)<s.av.length:=Ya
 obtain⟨vo,vw,Av⟩:=iV.open dU;have hg:=Av.bk;have hSo:bB A (au qa vo s.av*(pt b (qi [qb qa s.am,vo,vw,qb qj s.dM,qn s.fZ] qg 1)*(au qj vw s.ey*(fg pb M*F)))):=Av.dD Yd;obtain⟨bo,off,c,bS,rfl,_,yu,sq,_,_⟩:=au.at hSo bY;obtain⟨ow,cw,rfl,_⟩:=(au.is Av.right.right).bR;obtain⟨nb,nb'⟩:=hw.ey hg;obtain⟨no,no'⟩:=hw.ey yu;have hidx:s.av[s.ey.length]=dC s:=by unfold dC;rw [Za,q9 bY];rfl
 rw [hidx] at sq;cases IT:s.fZ
 . rw [IT] at hg;revert hw;refine W (J5 (od s9) (od s8) (od s7) (od vD) (pW b s _ _ lO)) (vZ Wo hg yu sq nb nb' no no' bY fo bC @bn.eq_1) ?_<;>(unhygienic intros);have Ab:bB _ (fg pb M*(iV b s*(pt (A.next+1) (qi bn qg 1)*(pt A.next (qi bn qg 1)*F)))):=lO.dD Yd;refine(Nt pb M 2 (dC s)).use ((hw.alloc _).alloc _) Ab rfl ?_;intro v A2 w6 jE yt;obtain⟨rfl,BK⟩:=w6.rB;clear w6;have dw:dI s M=(eR M 1 2 (dC s) lG,{ s with dM:=(eR M 1 2 (dC s) lG).eY,fZ:=decide (oH (eR M 1 2 (dC s) lG).eY<0) },M):=by
    unfold dI;rw [aw mL,ay IT]
   generalize eR M 1 2 (dC s) lG=a at dw BK ⊢;have RT:bB A2 (iV b s*(pt (A.next+1) (qi bn qg 1)*(pt A.next (qi bn qg 1)*(fg pb M*F)))):=BK.dD Yd;obtain⟨D1,Ag,Wz⟩:=iV.open RT;have Fj:bB A2 (pt b (qi [qb qa s.am,D1,Ag,qb qj s.dM,qn s.fZ] qg 1)*(pt (A.next+1) (qi bn qg 1)*(pt A.next (qi bn qg 1)*(au qa D1 s.av*(au qj Ag s.ey*(fg pb M*F)))))):=Wz.dD Yd;have At:=Fj.bk;have DC:=Fj.right.bk;have C8:=Fj.right.right.bk;have n1:=Fj.ne;have n2:=Fj.ne2;have n3:=Fj.right.ne;refine W (J5 (od s9) (od s8) (od s7) (od vD) @B8) (mW At DC C8 n1 n2 n3 IT (Zm n1) (Zm n2) (Zm n3) bC @bn.eq_1 @bh.v.eq_1) ?_<;>intros;refine⟨_,by simp [AW.ab];rfl,bB.post YT ?_⟩;rw [dw,HP.de];refine iV.dJ (vo:=D1) (vw:=Ag) (bB.Ob Fj (by simp [AW.du,n2]) (λj x h1 h2 h3 hx=>?_));simp [AW.du,h1,h2,h3,hx]
 rw [IT] at hg;revert hw;refine W (J5 (od s9) (od s8) (od s7) (od vD) (pW b s _ _ lO)) (vZ Wo hg yu sq nb nb' no no' bY fo bC @bn.eq_1) ?_<;>(unhygienic intros);have Ab:bB _ (fg pb M*(iV b s*(pt (A.next+1) (qi bn qg 1)*(pt A.next (qi bn qg 1)*F)))):=lO.dD Yd;refine(Ns pb M 2 (dC s) _ _).use ((hw.alloc _).alloc _) Ab rfl ?_;intro v A2 w6 jE yt;obtain⟨rfl,BK⟩:=w6.rB;clear w6;have dw:dI s M=(eR M 3 2 (dC s) (jJ s.dM (gx s)),{ s with fZ:=qk,ey:=if (eR M 3 2 (dC s) (jJ s.dM (gx s))).done=qg then s.ey++[s.dM] else s.ey },kL M 2 (dC s) (jJ s.dM (gx s))):=by
  unfold dI;rw [aw mL,aw (by simp [IT])]
 have ri:q8.wrap (q8.wrap (s.dM+q8.wrap s.am)+1)=gx s:=rfl;rw [ri] at BK ⊢;generalize eR M 3 2 (dC s) (jJ s.dM (gx s))=a at dw BK ⊢;generalize kL M 2 (dC s) (jJ s.dM (gx s))=M' at dw BK;have RT:bB A2 (iV b s*(pt (A.next+1) (qi bn qg 1)*(pt A.next (qi bn qg 1)*(fg pb M'*F)))):=BK.dD Yd;obtain⟨D1,Ag,Wz⟩:=iV.open RT;have Fj:bB A2 (pt b (qi [qb qa s.am,D1,Ag,qb qj s.dM,qn s.fZ] qg 1)*(pt (A.next+1) (qi bn qg 1)*(pt A.next (qi bn qg 1)*(au qa D1 s.av*(au qj Ag s.ey*(fg pb M'*F)))))):=Wz.dD Yd;have At:=Fj.bk;have DC:=Fj.right.bk;have C8:=Fj.right.right.bk;have n1:=Fj.ne;have n2:=Fj.ne2;have n3:=Fj.right.ne;cases mo:a.done;refine W (J4 (od s9) (od s8) (od s7) (od vD)) (y9 At DC C8 n1 n2 n3 IT mo (Zm n1) (Zm n2) (Zm n3) bC @bn.eq_1 @bh.v.eq_1) ?_<;>intros;refine⟨_,by simp [AW.ab];rfl,bB.post (by rw [dw];simp [bh.v,mo]) ?_⟩
 rw [dw,HP.de];simp only [mo,Bool.false_eq_true,if_false];refine iV.dJ (vo:=D1) (vw:=Ag) (bB.Ob Fj (by simp [AW.du,n2]) (λj x h1 h2 h3 hx=>?_));simp [AW.du,h1,h2,h3,hx];revert hw;(repeat first|revert hc|revert R|revert K);refine W (J3 (od s9) (od s8) (od s7)) (y9 At DC C8 n1 n2 n3 IT mo (Zm n1) (Zm n2) (Zm n3) bC @bn.eq_1 @bh.v.eq_1) ?_<;>(unhygienic intros);refine Fu (λA3=>A3.Wf/\bB A3 (pt b (qi [qb qa s.am,D1,Ag,qb qj s.dM,qn qk] qg 1)*(pt (A.next+1) (qi a.cells qg 1)*(pt A.next (qi bn qg 1)*(au qa D1 s.av*(au qj Ag s.ey*(fg pb M'*F))))))) ?_ ?_;refine⟨(jE.set _ (jE.lt DC)).set _ (jE.lt At),bB.upd3 Fj Yb (by simp [AW.du,Zm n1,bh.cells,mo]) (by simp [AW.du,Zm n2,C8,bn]) (λj x h1 h2 h3 hx=>by simp [AW.du,h1,h2,hx])⟩;rintro A3 ⟨wV,EZ⟩;have hg3b:=EZ.bk;have hg31:=EZ.right.bk;have hg30:=EZ.right.right.bk
 obtain⟨v',A4,e1,pg,nz,_⟩:=au.append (P:=qV) (t:=28) s.dM Tryz.underlying28 Tryz.info35 Tryz.zero35 rfl rfl
  (EZ.dD Yd:bB A3 (au qj Ag s.ey*(pt b (qi [qb qa s.am,D1,Ag,qb qj s.dM,qn qk] qg 1)*(pt (A.next+1) (qi a.cells qg 1)*(pt A.next (qi bn qg 1)*(au qa D1 s.av*(fg pb M'*F)))))))
  Ya Yb wV
 have hS12:bB A4 (pt b (qi [qb qa s.am,D1,Ag,qb qj s.dM,qn qk] qg 1)*(pt (A.next+1) (qi a.cells qg 1)*(pt A.next (qi bn qg 1)*(au qa D1 s.av*(au qj v' (s.ey++[s.dM])*(fg pb M'*F)))))):=pg.dD Yd;have hg4b:=hS12.bk;have hg41:=hS12.right.bk;have hg40:=hS12.right.right.bk;obtain⟨o3,n3',zN⟩:True/\(b=A3.next)=False/\∀k,(b=A3.next+k)=False:=⟨trivial,(wV.ey hg3b).1,(wV.ey hg3b).2⟩;have hv':∃o c,v'=.slice o (s.ey.length+1) c:=by
  obtain⟨o,c,h,_⟩:=(au.is pg).bR;exact⟨o,c,by simpa using h⟩
 obtain⟨o',c',rfl⟩:=hv';refine W (J4 (od s9) (od s8) (od s7) (od vD)) (J19 hg3b hg31 hg30 hg4b hg41 hg40 n1 n2 n3 n3' zN e1 mo (Zm n1) (Zm n2) (Zm n3) bC @bn.eq_1 (J2 @bh.v.eq_1 @bh.cells.eq_1)) ?_<;>intros;refine⟨_,by simp [AW.ab];rfl,bB.post (by rw [dw];simp [bh.v,mo]) ?_⟩;rw [dw,HP.de];simp only [mo,if_true];refine iV.dJ (vo:=D1) (vw:=.slice o' (s.ey.length+1) c') (bB.Ob hS12 (by simp [AW.du,n2]) (λj x h1 h2 h3 hx=>?_));simp [AW.du,h1,h3,hx]
end
section
open T7
variable [Gl]
structure jO where
 os:List Int
 ws:List Int
def ji (b:Nat) (s:jO):HP:=td λvo:qd=>td λvw:qd=>
 pt b (qi [vo,vw] qg 1)*(au qa vo s.os*au qj vw s.ws)
theorem ji.open {A:AW} {b:Nat} {s:jO} {F:HP} (h:bB A (ji b s*F)) :
 ∃vo vw,bB A (pt b (qi [vo,vw] qg 1)*(au qa vo s.os*(au qj vw s.ws*F))):=by
 unfold ji at h;rw [bB.ex] at h;obtain⟨vo,h⟩:=h;rw [bB.ex] at h;obtain⟨vw,h⟩:=h;exact⟨vo,vw,h.dD Yd⟩
theorem ji.dJ {A:AW} {b:Nat} {s:jO} {F:HP} {vo vw:qd} (h:bB A (pt b (qi [vo,vw] qg 1)*(au qa vo s.os*(au qj vw s.ws*F)))) :
 bB A (ji b s*F):=by
 unfold ji;rw [bB.ex];refine⟨vo,?_⟩;rw [bB.ex];exact⟨vw,h.dD Yd⟩
def jO.done (s:jO):Bool:=decide (s.os.length=0)
theorem wx (b:Nat) (s:jO) (A:AW) (F:HP) (h:bB A (ji b s*F)) :
 aB qV 234 [qm (qc ⟨b,0,qh⟩)] A (λv A'=>v=qn s.done/\A=A'):=by
 refine aK Tryz.func234 λhw=>?_;obtain⟨vo,vw,hS⟩:=ji.open h;obtain⟨oo,co,rfl,_⟩:=(au.is hS.right).bR;obtain⟨ow,cw,rfl,_⟩:=(au.is hS.right.right).bR;have hg:=hS.bk;refine W cx (J2 hg @AW.ab) ?_<;>intros;simp [jO.done]
theorem au.tl {A:AW} {k:qw} {v:qd} {x:Int} {l:List Int} {F:HP} (h:bB A (au k v (x::l)*F)) :
 ∃b off c bS,v=.slice (qc ⟨b,off,qh⟩) (l.length+1) c/\A.bk b=qc (qi bS qg 1)/\(∀j o F',F=pt j o*F'->b≠j)/\(∀j o i o' F',F=pt j o*(pt i o'*F')->b≠i)/\bB A (au k (.slice (qc ⟨b,off+1,qh⟩) l.length (c-1)) l*F):=by
 rcases dK.cases h with ⟨_,h0,_⟩|⟨b,off,c,bS,rfl,h1,h2,h3,h4⟩;simp at h0;refine⟨b,off,c,bS,by simp,h4.bk,λj o F' e=>by subst e;exact h4.ne,λj o i o' F' e=>by subst e;exact h4.ne2,?_⟩;simp only [List.length_cons,Nat.mul_one] at h1 h2 h3;refine au.mk rfl Ya Ya ?_ h4;rw [List.drop_eq_getElem_cons Ya,List.map_cons,List.take_succ_cons] at h3;exact(List.cons.inj h3).2
def fF (s:jO) (M:Nat->List Int):bh×jO×(Nat->List Int):=
 if s.done=qg then (bh.zero,s,M)
 else (eR M 2 2 (s.os.getD 0 0) (ej (s.ws.getD 0 0)),⟨s.os.tail,s.ws.tail⟩,kL M 2 (s.os.getD 0 0) (ej (s.ws.getD 0 0)))
theorem KN (b pb:Nat) (s:jO) (M:Nat->List Int) (bW:s.os.length=s.ws.length) :
 oR qV 233 [qm (qc ⟨b,0,qh⟩),qm (qc ⟨pb,0,qh⟩)] (ji b s*fg pb M)
  (λv=>BH (v=(fF s M).1.v)*(ji b (fF s M).2.1*fg pb (fF s M).2.2)):=by
 intro A F hw dU;refine aK Tryz.func233 λ_=>?_;rw [HP.de] at dU;have js:=(dU.alloc hw (qi bn qg 1));have lO:bB (A.alloc (qi bn qg 1)) (ji b s*(fg pb M*(pt A.next (qi bn qg 1)*F))):=js.dD Yd;by_cases mL:s.done=qg;have hd:=wx b s _ _ lO;rw [mL] at hd;revert hw;refine Wu (J2 (⟨⟩:Ts (λ_=>True) [0,0,0,0,0,0,0,0,0,0,0,0,0,3,0,0,0,2,3,0] (.aM 0 (.aM 1 (.aM 2 (.aM 3 (.aM 4 (.aM 5 (.aM 6 (.aM 7 (.aM 8 (.aM 9 (.aM 10 (.aM 11 (.aM 12 (.uW 13 (.aM 14 (.aM 15 (.aM 16 (.aM 17 (.aM 18 (.aM 19 .nil)))))) 17 (.aM 13 (.aM 14 (.aM 15 (.aM 16 (.aM 18 (.aM 19 .nil))))))))))))))))))))) @hd) (J2 bC @bn.eq_1) ?_<;>(unhygienic intros);have dw:fF s M=(bh.zero,s,M):=by unfold fF;rw [ay mL]
 rw [dw];refine⟨_,by simp [AW.ab];rfl,bB.post Xc ?_⟩;rw [HP.de];exact dU.le hw ((qW A _).set (Nat.le_refl _) _);have hd:=wx b s _ _ lO;rw [show s.done=qk by simpa using mL] at hd;obtain⟨os,ws⟩:=s;cases os with
 | nil=>simp [jO.done] at mL
 | cons o os=>
 cases ws with
 | nil=>simp at bW
 | cons x ws=>
 have dw:fF ⟨o::os,x::ws⟩ M=(eR M 2 2 o (ej x),⟨os,ws⟩,kL M 2 o (ej x)):=by
  unfold fF;rw [aw mL];rfl
 obtain⟨vo,vw,Av⟩:=ji.open dU;have hg:=Av.bk;have hSo:bB A (au qa vo (o::os)*(pt b (qi [vo,vw] qg 1)*(au qj vw (x::ws)*(fg pb M*F)))):=Av.dD Yd;have hSw:bB A (au qj vw (x::ws)*(pt b (qi [vo,vw] qg 1)*(au qa vo (o::os)*(fg pb M*F)))):=Av.dD Yd;obtain⟨bo,off,c,bS,rfl,_,yu,sq,_,_⟩:=au.at hSo (j:=0) Yb;obtain⟨bw,offw,cw,roww,rfl,_,hgw,Wq,_,_⟩:=au.at hSw (j:=0) Yb;obtain⟨nb,nb'⟩:=hw.ey hg;obtain⟨no,no'⟩:=hw.ey yu;obtain⟨nw,nw'⟩:=hw.ey hgw;simp at yu sq hgw Wq;revert hw;refine Wu (J2 @hd (⟨⟩:Ts (λ_=>True) [0,0,0,0,0,0,0,0,0,0,0,0,0,3,0,0,0,2,3,3] (.aM 0 (.aM 1 (.aM 2 (.aM 3 (.aM 4 (.aM 5 (.aM 6 (.aM 7 (.aM 8 (.aM 9 (.aM 10 (.aM 11 (.aM 12 (.uW 13 (.aM 14 (.aM 15 (.aM 16 (.aM 17 (.aM 18 (.aM 19 .nil)))))) 17 (.aM 13 (.aM 14 (.aM 15 (.aM 16 (.aM 18 (.aM 19 .nil)))))))))))))))))))))) (mW hg yu sq hgw Wq nb nb' no no' nw nw' bC @bn.eq_1) (J2 ?_ ?_)<;>(unhygienic intros)
 . have Ab:bB _ (fg pb M*(ji b ⟨o::os,x::ws⟩*(pt A.next (qi bn qg 1)*F))):=lO.dD Yd;refine(vG pb M 2 o x).use (hw.alloc _) Ab rfl ?_;intro v A2 w6 jE yt;obtain⟨rfl,BK⟩:=w6.rB;clear w6;generalize eR M 2 2 o (ej x)=a at dw BK ⊢;generalize kL M 2 o (ej x)=M' at dw BK;generalize rS M 2 o=er at BK ⊢;have RT:bB A2 (ji b ⟨o::os,x::ws⟩*(pt A.next (qi bn qg 1)*(fg pb M'*F))):=BK.dD Yd;obtain⟨D1,Ag,Wz⟩:=ji.open RT;obtain⟨Hz,Gj,Ho,U8,rfl,uK,P5,Wd,Fj⟩:=au.tl (Wz.dD Yd:bB A2 (au qa D1 (o::os)*(pt b (qi [D1,Ag] qg 1)*(au qj Ag (x::ws)*(pt A.next (qi bn qg 1)*(fg pb M'*F))))));obtain⟨LO,Pq,Qz,F1,rfl,w5,P4,Wc,EZ⟩:=au.tl (Fj.dD Yd:bB A2 (au qj Ag (x::ws)*(pt b (qi [.slice (qc ⟨Hz,Gj,qh⟩) (os.length+1) Ho,Ag] qg 1)*(au qa (.slice (qc ⟨Hz,Gj+1,qh⟩) os.length (Ho-1)) os*(pt A.next (qi bn qg 1)*(fg pb M'*F))))));have pg:=(EZ.dD Yd:bB A2 (pt b (qi [.slice (qc ⟨Hz,Gj,qh⟩) (os.length+1) Ho,.slice (qc ⟨LO,Pq,qh⟩) (ws.length+1) Qz] qg 1)*(pt A.next (qi bn qg 1)*(au qa (.slice (qc ⟨Hz,Gj+1,qh⟩) os.length (Ho-1)) os*(au qj (.slice (qc ⟨LO,Pq+1,qh⟩) ws.length (Qz-1)) ws*(fg pb M'*F))))))
   have At:=pg.bk;have C8:=pg.right.bk;have n1:=pg.ne;obtain⟨pE,Bc⟩:=jE.ey At;obtain⟨Px,A8⟩:=jE.ey uK;obtain⟨Pw,AZ⟩:=jE.ey w5;obtain⟨Gx,Bd⟩:=jE.ey C8;have e1:(1:Int)<=(os.length:Int)+1:=Ya;have e2:(1:Int)<=(ws.length:Int)+1:=Ya;have n2:=P5 _ _ _ rfl;have n3:=P4 _ _ _ rfl;have Lf:A2.next≠b:=λe=>by rw [<-e] at pE;simp at pE
   have Nr:A2.next≠A.next:=λe=>by rw [<-e] at Gx;simp at Gx
   repeat' (first|(refine iT λR hR=>?_;simp [AW.ab,aG,bn,At,C8,uK,w5,Zm n1,n3,pE,Px,Pw,Gx,e1,e2,Lf,fC];try simp (disch:=omega) only [ay,aw,af,an])|(refine hR _ _ ?_;clear hR R)|(refine hK _ _ ?_;clear hK K)|refine nx ?_|(refine Sp λR hR=>?_;simp [aG,bh.v];try simp (disch:=omega) only [ay,aw,af,an])|refine So ?_|refine wn λK hK=>?_|simp only [wS]|(refine ⟨λA' CB=>by rw [CB]<;>rfl,?_⟩)|(refine wlS (λA'=>A'.bk LO=qc (qi F1 qg 1)) Tryz.mx [(0,0),(1,0),(2,0),(3,0),(4,0),(5,0),(6,0),(7,0),(8,0),(9,0),(10,0),(11,1),(12,0),(13,0),(14,3),(15,0),(16,0),(17,3)] Yc λK hK=>?_)|(show cM _ _ _ _ _ _;refine nx ?_))
   refine⟨_,by simp [AW.ab];rfl,bB.post YT ?_⟩;rw [dw,HP.de];refine ji.dJ (vo:=.slice (qc ⟨Hz,Gj+1,qh⟩) os.length (Ho-1)) (vw:=.slice (qc ⟨LO,Pq+1,qh⟩) ws.length (Qz-1)) (bB.WN pg Y1 (λj x h1 h2 hx=>?_));have hj:=(jE.ey hx).1;simp [AW.du,h1,h2,hx,hj]
 have Ab:bB _ (fg pb M*(ji b ⟨o::os,x::ws⟩*(pt (A.next+1) (qi bn qg 1)*(pt A.next (qi bn qg 1)*F)))):=((lO.alloc (hw.alloc _) (qi bn qg 1)).dD YK);refine(vG pb M 2 o x).use ((hw.alloc _).alloc _) Ab rfl ?_;intro v A2 w6 jE yt;obtain⟨rfl,BK⟩:=w6.rB;clear w6;generalize eR M 2 2 o (ej x)=a at dw BK ⊢;generalize kL M 2 o (ej x)=M' at dw BK;generalize rS M 2 o=er at BK ⊢;have RT:bB A2 (ji b ⟨o::os,x::ws⟩*(pt (A.next+1) (qi bn qg 1)*(pt A.next (qi bn qg 1)*(fg pb M'*F)))):=BK.dD Yd;obtain⟨D1,Ag,Wz⟩:=ji.open RT;obtain⟨Hz,Gj,Ho,U8,rfl,uK,P5,Wd,Fj⟩:=au.tl (Wz.dD Yd:bB A2 (au qa D1 (o::os)*(pt b (qi [D1,Ag] qg 1)*(pt (A.next+1) (qi bn qg 1)*(au qj Ag (x::ws)*(pt A.next (qi bn qg 1)*(fg pb M'*F)))))));obtain⟨LO,Pq,Qz,F1,rfl,w5,P4,Wc,EZ⟩:=au.tl (Fj.dD Yd:bB A2 (au qj Ag (x::ws)*(pt b (qi [.slice (qc ⟨Hz,Gj,qh⟩) (os.length+1) Ho,Ag] qg 1)*(pt (A.next+1) (qi bn qg 1)*(au qa (.slice (qc ⟨Hz,Gj+1,qh⟩) os.length (Ho-1)) os*(pt A.next (qi bn qg 1)*(fg pb M'*F)))))))
 have pg:=(EZ.dD Yd:bB A2 (pt b (qi [.slice (qc ⟨Hz,Gj,qh⟩) (os.length+1) Ho,.slice (qc ⟨LO,Pq,qh⟩) (ws.length+1) Qz] qg 1)*(pt (A.next+1) (qi bn qg 1)*(pt A.next (qi bn qg 1)*(au qa (.slice (qc ⟨Hz,Gj+1,qh⟩) os.length (Ho-1)) os*(au qj (.slice (qc ⟨LO,Pq+1,qh⟩) ws.length (Qz-1)) ws*(fg pb M'*F)))))));have At:=pg.bk;have DC:=pg.right.bk;have C8:=pg.right.right.bk;have n1:=pg.ne2;have n4:=pg.ne;have n5:=pg.right.ne;obtain⟨VF,PE⟩:=jE.ey DC;obtain⟨pE,Bc⟩:=jE.ey At;obtain⟨Px,A8⟩:=jE.ey uK;obtain⟨Pw,AZ⟩:=jE.ey w5;obtain⟨Gx,Bd⟩:=jE.ey C8;have e1:(1:Int)<=(os.length:Int)+1:=Ya
 have e2:(1:Int)<=(ws.length:Int)+1:=Ya
 have n2:=P5 _ _ _ rfl;have n3:=P4 _ _ _ rfl;have n6:=Wd _ _ _ _ _ rfl;have n7:=Wc _ _ _ _ _ rfl;have Lf:A2.next≠b:=λe=>by rw [<-e] at pE;simp at pE
 have Nr:A2.next≠A.next:=λe=>by rw [<-e] at Gx;simp at Gx
 repeat' (first|(refine iT λR hR=>?_;simp [AW.ab,aG,bn,At,C8,n6,n7,n4,Zm n4,uK,w5,Zm n1,n3,e1,e2,fC];try simp (disch:=omega) only [ay,aw,af,an])|(refine hR _ _ ?_;clear hR R)|(refine hK _ _ ?_;clear hK K)|refine nx ?_|(refine Sp λR hR=>?_;simp [aG,bn,DC,bh.v];try simp (disch:=omega) only [ay,aw,af,an])|refine So ?_|refine wn λK hK=>?_|simp only [wS]|(refine ⟨λA' CB=>by rw [CB]<;>rfl,?_⟩)|(refine wlS (λA'=>A'.bk LO=qc (qi F1 qg 1)) Tryz.mx [(0,0),(1,0),(2,0),(3,0),(4,0),(5,0),(6,0),(7,0),(8,0),(9,0),(10,0),(11,1),(12,0),(13,0),(14,3),(15,0),(16,0),(17,3)] Yc λK hK=>?_)|(show cM _ _ _ _ _ _;refine nx ?_))
 refine⟨_,by simp [AW.ab];rfl,bB.post YT ?_⟩;rw [dw,HP.de];refine ji.dJ (vo:=.slice (qc ⟨Hz,Gj+1,qh⟩) os.length (Ho-1)) (vw:=.slice (qc ⟨LO,Pq+1,qh⟩) ws.length (Qz-1)) (bB.Ob pg Y1 (λj x h1 h2 h3 hx=>?_));simp [AW.du,h1,h2,h3,hx]
end
end Go.Stx
