/-
 snapshot and stamped of FairCommits.
-/
import Derived.Test.YtpealkdhmnomhaaGreatDoorG35
set_option linter.unusedVariables false
set_option linter.unusedSimpArgs false
set_option linter.unusedSectionVars false
set_option maxRecDepth 20000
set_option maxHeartbeats 4000000
namespace Go.Stx
open Go Go.Proofs
attribute [local irreducible] TW bI cM aV aB aL cU dh
section
open T7
variable [Gl]
theorem CM {bS:List Value} {n t:Nat} {x:dm} (h:(bS.drop n).take 9=x.cells) (ht:t<9):bS[n+t]? = x.cells[t]?:=by
 rw [<-h,List.getElem?_take_of_lt ht,List.getElem?_drop]
theorem Gk {bS:List Value} {n:Nat} {v:Value} (h:bS[n]? = some v):(bS.drop n).take 1=[v]:=by
 have h1:n<bS.length:=by
  have:=(List.getElem?_eq_some_iff.1 h).1;exact this
 rw [List.drop_eq_getElem_cons h1];have h2:=(List.getElem?_eq_some_iff.1 h).2;simp [h2]
theorem Ir (l:List dm) (o:Option Addr) (sc:Nat) (p:Addr) (bS:List Value) (own:Bool) (th:Int) (i:Nat) (A:AW) (hi:i<=l.length) (hn:l.length<2^40)
 (ho:0<l.length->o=some p/\A.bk p.block=some (.cells bS own 9)) (hr:∀k (hk:k<l.length),p.off+k*9+9<=bS.length/\(bS.drop (p.off+k*9)).take 9=(l[k]).cells) :
 aB Tryz.prog 19 [.slice o l.length sc,.int .i64 th,.int .i64 i] A (λu A'=>u=.int .i64 (lB l th i)/\A=A'):=by
 refine aK Tryz.func19 λhw=>?_;have iZ:IntKind.i64.wrap ((i:Int)-1)=(i:Int)-1:=af (by omega) (by omega);revert hw;refine W cx (J1 iZ) ?_<;>(unhygienic intros);refine mH (λfr A'=>A=A'/\lB l th i = -1) ?_ ?_
 . refine df (λk fr A'=>A=A'/\∃j:Nat,k=j/\j<=i/\lB l th i=lB l th j/\fr 0=.slice o l.length sc/\fr 1=.int .i64 th/\fr 7=.int .i64 ((j:Int)-1)) i ?_ ?_;exact⟨rfl,i,rfl,Nat.le_refl _,rfl,by simp,by simp,by simp⟩;rintro j fr A' ⟨rfl,_,rfl,hj,hs,g0,g1,g7⟩;cases j with
   | zero=>
     refine aT ?_;refine W cx (J3 g0 g1 g7) ?_<;>intros;exact⟨rfl,hs⟩
   | succ j=>
     rw [show ((j+1:Nat):Int)-1=j by omega] at g7;have zG:j<l.length:=(by omega);obtain⟨rfl,hg⟩:=ho (by omega);obtain⟨q1,q2⟩:=hr j zG;have c0:bS[p.off+j*9]? = some (.int .i64 l[j].am):=CM (t:=0) q2 (by decide);have c1:bS[p.off+j*9+1]? = some (.int .i64 l[j].fu):=CM (t:=1) q2 (by decide);have d0:=Gk c0;have d1:=Gk c1;have Fi:¬(j:Int)<0:=(by omega);have H0:(j:Int)<l.length:=(by omega);have jE:IntKind.i64.wrap ((j:Int)-1)=(j:Int)-1:=af (by omega) (by omega);have dw:lB l th (j+1)=if l[j].am=th/\l[j].fu=3 then (j:Int) else lB l th j:=by
      show (if (l.getD j dm.zero).am=th/\(l.getD j dm.zero).fu=3 then (j:Int) else lB l th j)=_;rw [List.getD_eq_getElem?_getD,List.getElem?_eq_getElem zG];rfl
     rw [dw] at hs;refine aT ?_;by_cases h1:l[j].am=th;by_cases h2:l[j].fu=3;rw [ay ⟨h1,h2⟩] at hs;refine W cx (y9 g0 g1 g7 hg q1 c0 c1 d0 d1 Fi H0 h1 h2 @AW.ab) ?_<;>intros;exact⟨_,by simp [bA,aQ,aR];rfl,by simp [hs],rfl⟩;rw [aw (λe=>h2 e.2)] at hs;refine W cx (Uc g0 g1 g7 hg q1 c0 c1 d0 d1 Fi H0 h1 h2 jE @AW.ab) ?_<;>intros;exact⟨j,by omega,rfl,j,rfl,by omega,hs,by simp [g0],by simp [g1],by simp⟩;rw [aw (λe=>h1 e.1)] at hs;refine W cx (y9 g0 g1 g7 hg q1 c0 c1 d0 d1 Fi H0 h1 jE @AW.ab) ?_<;>intros;exact⟨j,by omega,rfl,j,rfl,by omega,hs,by simp [g0],by simp [g1],by simp⟩
 rintro fr A' ⟨rfl,hs⟩;refine W cx cx ?_<;>intros;exact⟨_,by simp [bA,aQ,aR];rfl,by rw [hs],rfl⟩
theorem FR {l:List dm} {th:Int} {f:Nat}:∀j,j<=f+1->jc l th f j=false
 | 0,_=>rfl
 | j+1,h=>by
   show (decide ((f:Int)<(j:Int)) && _ && _ || jc l th f j)=false;rw [FR j (by omega),decide_eq_false (by omega)];rfl
theorem Jq {l:List dm} {th f:Int} {j:Nat} (h:jc l th f j=true):∀k,j<=k->jc l th f k=true
 | 0,hk=>by
   have:j=0:=by omega
   subst this;exact h
 | k+1,hk=>by
   by_cases e:j=k+1;rw [<-e];exact h;show (_ || jc l th f k)=true;rw [Jq h k (by omega),Bool.or_true]
theorem KD (l:List dm) (o:Option Addr) (sc:Nat) (p:Addr) (bS:List Value) (own:Bool) (th:Int) (f i:Nat) (A:AW) (hfi:f<i) (hi:i<=l.length) (hn:l.length<2^40)
 (ho:0<l.length->o=some p/\A.bk p.block=some (.cells bS own 9)) (hr:∀k (hk:k<l.length),p.off+k*9+9<=bS.length/\(bS.drop (p.off+k*9)).take 9=(l[k]).cells) :
 aB Tryz.prog 20 [.slice o l.length sc,.int .i64 f,.int .i64 i,.int .i64 th] A (λu A'=>u=.bool (jc l th f i)/\A=A'):=by
 refine aK Tryz.func20 λhw=>?_;have iZ:IntKind.i64.wrap ((f:Int)+1)=((f+1:Nat):Int):=af (by omega) (by omega);revert hw;refine W cx (J1 iZ) ?_<;>(unhygienic intros);refine mH (λfr A'=>A=A'/\jc l th f i=false) ?_ ?_;refine df (λk fr A'=>A=A'/\∃j:Nat,k=i-j/\f<j/\j<=i/\jc l th f j=false/\fr 0=.slice o l.length sc/\fr 2=.int .i64 i/\fr 3=.int .i64 th/\fr 9=.int .i64 j) (i-(f+1)) ?_ ?_;exact⟨rfl,f+1,rfl,by omega,by omega,FR _ (Nat.le_refl _),by simp,by simp,by simp,by simp⟩;rintro k fr A' ⟨rfl,j,rfl,hfj,lf,hs,g0,g2,g3,g9⟩;by_cases bY:j<i;have zG:j<l.length:=by omega
 obtain⟨rfl,hg⟩:=ho (by omega);obtain⟨q1,q2⟩:=hr j zG;have c0:bS[p.off+j*9]? = some (.int .i64 l[j].am):=CM (t:=0) q2 (by decide);have c1:bS[p.off+j*9+1]? = some (.int .i64 l[j].fu):=CM (t:=1) q2 (by decide);have d0:=Gk c0;have d1:=Gk c1;have fo:(j:Int)<i:=by omega
 have Fi:¬(j:Int)<0:=by omega
 have H0:(j:Int)<l.length:=by omega
 have jE:IntKind.i64.wrap ((j:Int)+1)=((j+1:Nat):Int):=af (by omega) (by omega);have dw:jc l th f (j+1)=(decide (l[j].am≠th) && decide (l[j].fu=19)):=by
  show ((decide ((f:Int)<(j:Int)) && decide ((l.getD j dm.zero).am≠th) && decide ((l.getD j dm.zero).fu=19)) || jc l th f j)=_;rw [hs,decide_eq_true (by omega:(f:Int)<(j:Int)),List.getD_eq_getElem?_getD,List.getElem?_eq_getElem zG];simp
 refine aT ?_;by_cases h1:l[j].am=th;have uI:jc l th f (j+1)=false:=by rw [dw];simp [h1]
 refine W cx (Mg g0 g2 g3 g9 hg q1 c0 c1 d0 d1 fo Fi H0 h1 jE @AW.ab) ?_<;>intros;exact⟨i-(j+1),by omega,rfl,j+1,rfl,by omega,by omega,uI,by simp [g0],by simp [g2],by simp [g3],by simp⟩;by_cases h2:l[j].fu=19;have uI:=Jq (by rw [dw];simp [h1,h2]) i (by omega:j+1<=i);refine W cx (Mg g0 g2 g3 g9 hg q1 c0 c1 d0 d1 fo Fi H0 h1 h2 @AW.ab) ?_<;>intros;exact⟨_,by simp [bA,aQ,aR];rfl,by rw [uI],rfl⟩;have uI:jc l th f (j+1)=false:=by rw [dw];simp [h2]
 refine W cx (J17 g0 g2 g3 g9 hg q1 c0 c1 d0 d1 fo Fi H0 h1 h2 jE @AW.ab) ?_<;>intros;exact⟨i-(j+1),by omega,rfl,j+1,rfl,by omega,by omega,uI,by simp [g0],by simp [g2],by simp [g3],by simp⟩;have hji2:j=i:=by omega
 subst hji2;have fo:¬(j:Int)<j:=by omega
 refine aT ?_;refine W cx (J4 g0 g2 g3 g9) ?_<;>intros;exact⟨rfl,hs⟩;rintro fr A' ⟨rfl,hs⟩;refine W cx cx ?_<;>intros;exact⟨_,by simp [bA,aQ,aR];rfl,by rw [hs],rfl⟩
end
section
abbrev rG:List (Nat×Nat):=[(0,0),(1,0),(2,0),(3,0),(4,0),(5,0),(6,0),(7,0),(8,0),(9,2),(10,2),(11,3),(12,0),(13,3)]
abbrev rF:List (Nat×Nat):=[(0,0),(1,0),(2,0),(3,0),(4,0),(5,0),(6,0),(7,0),(8,0),(9,0),(10,0),(11,0),(12,0),(13,0),(14,0),(15,0),(16,0),(17,0),(18,0),(19,0),(20,0),(21,0),(22,2),(23,0),(24,0),(25,0)]
open T7
variable [Gl]
structure SX (A:AW) (v:Value) (A':AW):Prop where
 next:A.next<=A'.next
 bk:∀i,i<A.next->ep v≠some i->A'.bk i=A.bk i
theorem SX.app {A1 A A':AW} {v0 v v':Value} (h:SX A1 v0 A) (hv:∀j,ep v=some j->ep v0=some j\/A1.next<=j) {B:Nat} (k:Q3 B A A' v v'):SX A1 v0 A':=
 ⟨Nat.le_trans h.next k.next,λi hi hb=>(k.bk i (Nat.lt_of_lt_of_le hi h.next) λe=>by
  rcases hv i e with h1|h1;exact hb h1;omega).trans (h.bk i hi hb)⟩
theorem SX.set {A A':AW} {v:Value} (h:SX A v A') {b:Nat} (hb:A.next<=b) (o:Option eh):SX A v (A'.set b o):=
 ⟨h.next,λi hi hn=>(AW.aZ (by omega)).trans (h.bk i hi hn)⟩
theorem cm_made {A:AW} {c:aY} {vi vp vk:Value} {zs:List Int} {ps:List (List bq)} {kl:List Int} (h:Ua A c vi vp vk zs ps kl):∀i,i<(scM c zs ps kl).bu.length->KW (scM c zs ps kl).bu i:=by
 obtain⟨_,_,_,yt,Lq,lp⟩:=vg (h.e kl (λ_ h=>h) (Nat.le_refl _));exact cm_law vV h.WO Lq yt lp h.al kl (by have:=h.kl;omega)
section
attribute [-simp] pw
theorem DJ (hF:FOK) (hA:∀B,aB Tryz.prog 17 [] B (λu A'=>u=.bool true/\B=A')) (l0 l1 l2 l3 l4:Int) (vl vq:Value) (ls:List (List Int)) (nk:List Int) (A:AW)
 (hL:pH A vl ls) (hk:bK A .i64 vq nk) (Ly:ls.length<=maxLen) (hpk:nk.length<=17592186044415) :
 aB Tryz.prog 4 [.agg #[.int .i64 l0,.int .i64 l1,.int .i64 l2,.int .i64 l3,.int .i64 l4],vl,vq] A (λu A'=>u=.bool true):=by
 refine aK Tryz.func4 λhw=>?_;have cA:=λB=>hA B;obtain⟨oq,cq,rfl,_⟩:=hk.bR;revert hw;refine W (J2 (od rG) (od rF)) (J1 bC) ?_<;>(unhygienic intros);refine bD (Is hF.n l0 l1 l2 l3 l4 vl ls _ (hL.keeps (gW.nd (AW.le.alloc A _) hw)) Ly) ?_;rintro _ A3 ⟨b,c,vi,vp,vk,zs,ps,rfl,EU,_,⟨oi,ni,ci,rfl⟩,⟨op,np,cp,rfl⟩,⟨ok,nkk,ck,rfl⟩,hG⟩ wV _;have hk3:=hk.le (AW.le.alloc A (.cells [.int .i64 l0,.int .i64 l1,.int .i64 l2,.int .i64 l3,.int .i64 l4] true 1)) hw;have hwA:=hw.alloc (.cells [.int .i64 l0,.int .i64 l1,.int .i64 l2,.int .i64 l3,.int .i64 l4] true 1);clear hL hk;cases b
 . clear hG;unfold FX gU aY.cells;obtain⟨jm,d9,i9,c0,c1,c2,c3,iJ,iW,ja,i8,gL,jr⟩:=c;simp only [aa,ah];refine W (J3 (od rG) (od rF) @cA) (J1 bC) ?_<;>intros
   all_goals simp [aS,aX,bA,aQ,aR]
 replace hG:=hG rfl;by_cases h250:250<nk.length
 . clear hG;have WD:(250:Int)<nk.length:=(by omega);unfold FX gU aY.cells;obtain⟨jm,d9,i9,c0,c1,c2,c3,iJ,iW,ja,i8,gL,jr⟩:=c;simp only [aa,ah];refine W (J3 (od rG) (od rF) @cA) (J2 WD bC) ?_<;>intros
   all_goals simp [aS,aX,bA,aQ,aR]
 have WD:¬(250:Int)<nk.length:=by omega
 obtain⟨tL,⟨Z,B,us,hNZ,hP,hO,tE,hI,hIz,hus⟩,he,mV,hpn,hpn1,hz,rj⟩:=hG;have hO0:=hO.zQ (Nat.min_le_left Z A3.next);have hY1:=Nat.min_le_right Z A3.next;have hY2:(A.alloc (.cells [.int .i64 l0,.int .i64 l1,.int .i64 l2,.int .i64 l3,.int .i64 l4] true 1)).next<=min Z A3.next:=Nat.le_min.2 ⟨hNZ,EU.next⟩;generalize min Z A3.next=Y at hO0 hY1 hY2;obtain⟨_,_,e1,_⟩:=hI.is.bR;obtain⟨_,_,e2,_⟩:=hP.own.is.bR;obtain⟨_,_,e3,_⟩:=hO.is.bR;injection e1 with _ e1 _;injection e2 with _ e2 _;injection e3 with _ e3 _;subst e1 e2 e3;rw [hus];unfold FX gU aY.cells;have JP:=tL;obtain⟨jm,d9,i9,c0,c1,c2,c3,iJ,iW,ja,i8,gL,jr⟩:=c;simp only [aa,ah];revert hw;(repeat first|revert R|revert K);refine W (J2 (od rG) (od rF)) (J2 WD bC) ?_<;>(unhygienic intros)
 refine mH (λfr A'=>∃(vk:Value) (kl:List Int),(∀x∈kl,0<=x/\x<(ps.length:Int))/\kl.length=nk.length/\fr 7=pv A3.next/\
  SX A3 (.slice ok 0 ck) A'/\A'.Wf/\A'.bk A3.next=some (.cells [.int .i64 jm,.int .i64 d9,.int .i64 i9,.int .i64 c0,.int .i64 c1,.int .i64 c2,.int .i64 c3,.int .i64 iJ,.int .i64 iW,.int .i64 ja,.int .i64 i8,.int .i64 gL,.bool jr,.slice oi zs.length ci,.slice op ps.length cp,vk] true 1)/\dV Y A' 1 vk kl.length (kl.map (Value.int .i64))) ?_ ?_
 . refine df (λk fr A'=>∃(i:Nat) (vk:Value) (kl:List Int),(∀x∈kl,0<=x/\x<(ps.length:Int))/\k=nk.length-i/\i<=nk.length/\kl.length=i/\fr 2=.slice oq nk.length cq/\fr 7=pv A3.next/\fr 9=.int .i64 i/\
    SX A3 (.slice ok 0 ck) A'/\A'.Wf/\A'.bk A3.next=some (.cells [.int .i64 jm,.int .i64 d9,.int .i64 i9,.int .i64 c0,.int .i64 c1,.int .i64 c2,.int .i64 c3,.int .i64 iJ,.int .i64 iW,.int .i64 ja,.int .i64 i8,.int .i64 gL,.bool jr,.slice oi zs.length ci,.slice op ps.length cp,vk] true 1)/\dV Y A' 1 vk kl.length (kl.map (Value.int .i64))/\(∀j,ep vk=some j->ep (.slice ok 0 ck)=some j\/A3.next<j)) nk.length ?_ ?_
   have hu:=AW.le.lQ A3 (.cells [.int .i64 0,.int .i64 0,.int .i64 0,.int .i64 0,.int .i64 0,.int .i64 0,.int .i64 0,.int .i64 0,.int .i64 0,.int .i64 0,.int .i64 0,.int .i64 0,.bool false,.slice none 0 0,.slice none 0 0,.slice none 0 0] true 1) (some (.cells [.int .i64 jm,.int .i64 d9,.int .i64 i9,.int .i64 c0,.int .i64 c1,.int .i64 c2,.int .i64 c3,.int .i64 iJ,.int .i64 iW,.int .i64 ja,.int .i64 i8,.int .i64 gL,.bool jr,.slice oi zs.length ci,.slice op ps.length cp,.slice ok 0 ck] true 1));exact⟨0,.slice ok 0 ck,[],by simp,rfl,Nat.zero_le _,rfl,by simp,by simp,by simp,⟨hu.next,λi hi _=>hu.bk i hi⟩,(wV.alloc _).set _ (by simp),AW.bV,dV.le hu wV hO0,λj h=>.inl h⟩;rintro k fr A' ⟨i,vk,kl,Um,rfl,hi,hkli,g2,g7,g9,hS,jN,hb,iz,Qe⟩;have pe:=jN.lt hb;obtain⟨ovk,cvk,hvk,_⟩:=iz.is.bR;subst hvk;by_cases bY:i<nk.length;have hleA:(A.alloc (.cells [.int .i64 l0,.int .i64 l1,.int .i64 l2,.int .i64 l3,.int .i64 l4] true 1)).le A':=⟨Nat.le_trans EU.next hS.next,λj hj=>(hS.bk j (Nat.lt_of_lt_of_le hj EU.next) (λe=>by have:=(hO0.lt wV e).1;omega)).trans (EU.bk j hj)⟩
   obtain⟨q,bS,wW,bO,hcell⟩:=(hk3.le hleA hwA).at bY;subst wW;have cP:=λB=>Ax nk[i] (ps.length:Int) B (by omega) (by omega);have BH:=rI nk[i] ps.length (by omega);generalize nQ nk[i] ps.length=pv9 at cP BH;generalize nk[i]=px at hcell cP;have gC:=zd (i:=i);have fo:(i:Int)<nk.length:=(by omega);obtain⟨vk',A4,e4,vJ,k4⟩:=Ow (P:=Tryz.prog) (.int .i64 pv9) Tryz.underlying24 Tryz.info3 Tryz.zero3 rfl rfl (by simp) rfl iz (by omega) (by omega) jN;have gZ:ep (.slice ovk kl.length cvk)≠some A3.next:=λe=>by
    rcases Qe _ e with h|h;have:=(hO0.lt wV h).2;omega;omega
   have yy:=(k4.bk A3.next pe gZ).trans hb;have Wg:=k4.wf.lt yy;have Ab:=hS.app (λj hj=>(Qe j hj).imp id λh=>by omega) k4;have dw:nk.length-i=(nk.length-(i+1))+1:=(by omega);obtain⟨ok4,ck4,P0,_⟩:=vJ.is.bR;subst P0;refine aT ?_;refine W (J3 (od rG) (od rF) @cP) (H7 g2 g7 g9 fo gC bO hcell hb yy e4 bC) ?_<;>intros;refine⟨nk.length-(i+1),by omega,i+1,.slice ok4 (kl.length+1) ck4,kl++[pv9],λx hx=>by
    rcases List.mem_append.1 hx with h|h;exact Um x h;rw [List.mem_singleton.1 h];exact BH,rfl,by omega,by simp [hkli],by simp [g2],by simp [g7],by simp,Ab.set (Nat.le_refl _) _,k4.wf.set _ Wg,AW.bV,?_,λj hj=>?_⟩
   have Ls:∀j,ep (.slice ok4 (kl.length+1) ck4)=some j->j≠A3.next:=λj hj e=>by
    rcases k4.mR j hj with h|h;exact gZ (by rw [h,e]);omega
   have h:=vJ.iM (A':=A4.set A3.next (some (.cells [.int .i64 jm,.int .i64 d9,.int .i64 i9,.int .i64 c0,.int .i64 c1,.int .i64 c2,.int .i64 c3,.int .i64 iJ,.int .i64 iW,.int .i64 ja,.int .i64 i8,.int .i64 gL,.bool jr,.slice oi zs.length ci,.slice op ps.length cp,.slice ok4 (kl.length+1) ck4] true 1))) λj hj=>AW.aZ (Ls j hj)
   simpa using h
   rcases k4.mR j hj with h|h;exact Qe j h;exact .inr (by omega);have fo:¬(i:Int)<nk.length:=(by omega);refine aT ?_;revert hS hw;(repeat revert hc);refine W (J2 (od rG) (od rF)) (J4 g2 g7 g9 fo) ?_<;>(unhygienic intros);exact⟨_,kl,Um,by omega,by simp [g7],hS,jN,hb,iz⟩
 rintro fr A4 ⟨vk,kl,Um,hkl',g7,hS,nz,hb,iz⟩;have hI4:=hI.iM (A':=A4) λj hj=>hS.bk j (hI.lt wV hj).2 λe=>by
  have:=(hO.lt wV e).1;have:=hIz j hj;omega
 have IW:PS Z A4 (.slice op us.length cp) us ps:=by
  cases Fi:ep (.slice ok 0 ck) with
  | none=>exact hP.iM (λi h1 h2=>hS.bk i h2 (by rw [Fi];simp)) wV
  | some j0=>
    refine(tE j0 (A4.bk j0) Fi).iM (λi h1 h2=>?_) (wV.set _ (hO.lt wV Fi).2);by_cases e:i=j0;subst e;rw [AW.bV];rw [AW.aZ e];exact hS.bk i (by simpa using h2) (by rw [Fi];intro h;exact e (Option.some.inj h).symm)
 rw [hus] at IW;obtain⟨ok4,ck4,P0,_⟩:=iz.is.bR;subst P0
 have hG:Ua A4 ⟨jm,d9,i9,c0,c1,c2,c3,iJ,iW,ja,i8,gL,jr⟩ (.slice oi zs.length ci) (.slice op ps.length cp) (.slice ok4 kl.length ck4) zs ps kl:=
  ⟨JP,hI4.is,IW.progs,iz.is,λpk hs hl=>he pk (by omega) λx hx=>Um x (hs x hx),by omega,mV,hpn,hz,rj⟩
 clear hS iz hP hO tE hI hO0 hI4 IW he;have cR:=λB (hK:gW A4 B)=>runG (pk:=kl) hF hG (λ_ h=>h) (Nat.le_refl _) _ _ _ B (hG.i.keeps hK) (hG.p.kps hK) (hG.k.keeps hK);have hmo:=U6 (pk:=kl) hG (λ_ h=>h) (Nat.le_refl _);have EY:=cm_made hG;have dw:=hmo.s;clear hmo;generalize scM ⟨jm,d9,i9,c0,c1,c2,c3,iJ,iW,ja,i8,gL,jr⟩ zs ps kl=m at *;unfold FX gU aY.cells at cR;simp only [aa,ah] at cR;unfold F4 jC at cR;generalize (m.M 2).getD 0 0=d2 at cR;generalize (m.M 3).getD 0 0=d3 at cR;generalize (m.M 4).getD 0 0=d4 at cR;revert hw;(repeat revert hc);refine W (J2 (od rG) (od rF)) (J3 g7 hb bC) ?_<;>(unhygienic intros);refine bD (cR _ (gW.refl _)) ?_;rintro _ A5 ⟨z1,rfl,hk5,Ln⟩ BF _;obtain⟨so,sc,p,bS,own,V1,zV,bO⟩:=Jm Ln.st;injection V1 with NK _ uI;rw [NK,uI];clear hk5 Ln cR NK uI;obtain⟨rb,GP⟩:∃rb,A5.next=rb:=⟨_,rfl⟩;revert hw;(repeat first|revert hc|revert R|revert K);refine W (J2 (od rG) (od rF)) (J2 GP bC) ?_<;>(unhygienic intros)
 obtain⟨a0,e0⟩:∃a,a=jC z1.f.v0 (m.M 0):=⟨_,rfl⟩;obtain⟨a1,e1⟩:∃a,a=jC z1.f.v1 (m.M 1):=⟨_,rfl⟩;obtain⟨a5,e5⟩:∃a,a=jC z1.f.v5 (m.M 5):=⟨_,rfl⟩;obtain⟨a6,e6⟩:∃a,a=jC z1.f.v6 (m.M 6):=⟨_,rfl⟩;obtain⟨a7,e7⟩:∃a,a=jC z1.f.v7 (m.M 7):=⟨_,rfl⟩;obtain⟨a8,e8⟩:∃a,a=Value.slice z1.t.1 m.fN.length z1.t.2:=⟨_,rfl⟩;obtain⟨zK,Uv⟩:∃a,a=Value.slice z1.e.1 m.tO.length z1.e.2:=⟨_,rfl⟩;obtain⟨BA,e11⟩:∃a,a=Value.slice z1.o.1 m.fN.length z1.o.2:=⟨_,rfl⟩
 refine df (λk fr A'=>A'.Wf/\∃i:Nat,k=m.bu.length-i/\i<=m.bu.length/\fr 10=pv rb/\fr 14=.int .i64 i/\
  A'.bk rb=some (.cells [a0,a1,.int .u64 d2,.int .u64 d3,.int .u64 d4,a5,a6,a7,a8,.slice so m.bu.length sc,zK,BA] true 1)/\(0<m.bu.length->A'.bk p.block=some (.cells bS own 9))) m.bu.length ?_ ?_
 . refine⟨?_,0,rfl,Nat.zero_le _,by simp,by simp,?_,λe=>?_⟩
   . repeat' (first|assumption|apply AW.Wf.alloc|apply AW.Wf.set|(simp only [AW.be,GP];omega))
   simp [e0,e1,e5,e6,e7,e8,Uv,e11,jC];have h1:=BF.lt (zV e).2;have h2:¬p.block=rb:=(by omega);simp [AW.dx,AW.du,GP,h2,(zV e).2]
 rintro k fr A6 ⟨VY,i,rfl,hi,mc,uq,zR,hP⟩;by_cases bY:i<m.bu.length
 . obtain⟨q1,q2⟩:=bO i bY;have zP:=hP (by omega);obtain⟨ER,_⟩:=zV (by omega);subst ER;have gC:=zd (i:=i);have fo:(i:Int)<m.bu.length:=(by omega);have x1:=VY.lt zR;have x4:=VY.lt zP;have y1:¬rb=A6.next:=(by omega);have y4:¬p.block=A6.next:=(by omega);have mF:=EY i bY;unfold KW at mF;rw [show m.bu.getD i dm.zero=m.bu[i] by rw [List.getD_eq_getElem?_getD,List.getElem?_eq_getElem bY];rfl] at mF;generalize m.bu[i]=x at q2 mF;obtain⟨xt,xp,xa,⟨ak,ac,ai,ag,ap,ad⟩⟩:=x;dsimp only [dm.cells] at q2 mF;refine aT ?_;by_cases h15:xp=15
   . subst h15;obtain⟨⟨p0,p1⟩,p2,p3⟩:=mF rfl;have hkl2:=FS m.bu xt i;have cS:=λB (hB:B.bk p.block=some (.cells bS own 9))=>Ir m.bu (some p) sc p bS own xt i B (by omega) (by omega) (λ_=>⟨rfl,hB⟩) bO;generalize lB m.bu xt i=kz at p2 p3 hkl2 cS;obtain⟨kk,rfl⟩:∃kk:Nat,kz=kk:=⟨kz.toNat,by omega⟩;have j9:kk<m.bu.length:=(by omega);obtain⟨r1,r2⟩:=bO kk j9;have cT:=λB (hB:B.bk p.block=some (.cells bS own 9))=>KD m.bu (some p) sc p bS own xt kk i B (by omega) (by omega) (by omega) (λ_=>⟨rfl,hB⟩) bO;rw [Int.toNat_natCast,show m.bu.getD kk dm.zero=m.bu[kk] by rw [List.getD_eq_getElem?_getD,List.getElem?_eq_getElem j9];rfl] at p3;have c6:bS[p.off+kk*9+6]? = some (.int .u64 m.bu[kk].lU.eY):=CM (t:=6) r2 (by decide);have d6:=Gk c6;generalize m.bu[kk].lU.eY=gk at p3 c6 d6;have hkk0:¬(kk:Int)<0:=(by omega);have hkk1:(kk:Int)<m.bu.length:=(by omega);obtain⟨gd,Tp⟩:∃gd,ag / 64=gd:=⟨_,rfl⟩;rw [Tp] at p3 p1
     have Un:ag.tdiv 64=gd:=(by rw [Int.tdiv_eq_ediv_of_nonneg p0,Tp]);have hdw:IntKind.u64.wrap gd=gd:=an (by omega) (by omega);have hB:∀O O',((A6.alloc O).set A6.next O').bk p.block=some (.cells bS own 9):=λO O'=>by simp [AW.dx,AW.du,y4,zP]
     have cS:=λO O'=>cS _ (hB O O');have cT:=λO O'=>cT _ (hB O O');by_cases Wm:gk<gd
     . have p4:=p3 Wm;rw [p4] at cT;revert hw;(repeat revert hc);refine W (J4 (od rG) (od rF) @cS @cT) (J19 mc uq zR zP q1 q2 fo gC y1 y4 hkk0 hkk1 r1 c6 d6 Un hdw Wm bC) ?_<;>(unhygienic intros);refine⟨m.bu.length-(i+1),by omega,?_,i+1,rfl,by omega,by simp [mc],by simp,?_,λe=>?_⟩
       . repeat' (assumption)
       simp [AW.dx,AW.du,zR,y1];simp [AW.dx,AW.du,zP,y4]
     revert hw;(repeat revert hc);refine W (J4 (od rG) (od rF) @cS @cT) (J19 mc uq zR zP q1 q2 fo gC y1 y4 hkk0 hkk1 r1 c6 d6 Un hdw Wm bC) ?_<;>(unhygienic intros);refine⟨m.bu.length-(i+1),by omega,?_,i+1,rfl,by omega,by simp [mc],by simp,?_,λe=>?_⟩
     . repeat' (assumption)
     simp [AW.dx,AW.du,zR,y1];simp [AW.dx,AW.du,zP,y4]
   revert hw;(repeat revert hc);refine W (J2 (od rG) (od rF)) (vZ mc uq zR zP q1 q2 fo gC h15 y1 y4 bC) ?_<;>(unhygienic intros);refine⟨m.bu.length-(i+1),by omega,?_,i+1,rfl,by omega,by simp [mc],by simp,?_,λe=>?_⟩
   . repeat' (first|assumption|apply AW.Wf.alloc|apply AW.Wf.set|(simp only [AW.be];omega))
   simp [AW.dx,AW.du,zR,y1];simp [AW.dx,AW.du,zP,y4]
 have tD:i=m.bu.length:=by omega
 subst tD;have fo:¬((m.bu.length:Int)<m.bu.length):=by omega
 refine aT ?_;refine W (J3 (od rG) (od rF) @cA) (J5 mc uq zR fo bC) ?_<;>intros
 all_goals simp [aX,bA,aQ,aR]
end
end
end Go.Stx
