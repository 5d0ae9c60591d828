/-
 An attempt that nobody disturbs and that does not commit, without the program.
-/
import Derived.Test.YtnnbecihffpedaaGreatDoorG11
set_option linter.unusedVariables false
set_option linter.unusedSimpArgs false
set_option linter.unusedSectionVars false
set_option maxRecDepth 20000
set_option maxHeartbeats 4000000
namespace Go.Stx
open Go Go.Proofs
attribute [local irreducible] cB aW az aG bZ cz TW bC
section
variable [Gl]
variable {c:bH} {nt k:Nat} {M:Mm} {s:aF}
structure D3 (M:Mm):Prop where
 o:∀j:Nat,(M 1).getD j 0=0
 ck:Th M=0
def Tz (M:Mm):Prop:=SA M=0/\Sy M=0
def rlD (s:aF) (M:Mm):bm->Prop
 | .bq=>s.aA=2\/Tz M
 | .gE l=>Tz M/\∀av,l=.bI av->av=2
 | .cW=>Tz M
 | .aP r _=>Tz M/\(1<=r.br->r.d7=0)
 | .eh p=>Tz M/\(1<=p.br->p.head=(M 6).getD p.dC.toNat 0)
 | .cq=>SA M=0/\∃t,s.aI=some t/\if t.om=true then t.iu=0 else Sy M=0
 | .cG _=>True
 | .bJ=>True
 | .eT=>True
 | .dX p=>1<=p.br->p.head=(M 6).getD p.dC.toNat 0
 | .go=>True
 | _=>False
def re (s:aF):Bool:=match s.aC with
 | .cq | .cG _ | .bJ | .eT | .dX _ | .go=>true
 | .bq=>decide (s.aA=2)
 | _=>false
def lm (n:Int):Prop:=n=2\/n=3\/n=4\/n=7\/n=8
structure C0 (s:aF) (M:Mm):Prop where
 d:rlD s M s.aC
 sn:s.aC=.cW->∀e,s.bS=some e->e.br=2->e.aw=0
 rv:s.aC≠.cW->s.rv=0
 cd:re s=true->lm s.av
def nu (A R:Nat) (s:aF):Nat:=match s.aC with
 | .bq=>if s.aA=2 then 0 else 6+3*A+R
 | .gE _=>7+3*A+R
 | .cW=>match s.bS with|some e=>6+3*A+R+(3-e.br).toNat|none=>0
 | .aP r _=>6+3*A+R+(3-r.br).toNat
 | .eh p=>6+3*A+R+(3-p.br).toNat
 | .cq=>match s.aI with|some t=>4+3*s.ag.length+s.set.length+(if t.om=true then 0 else 1)|none=>0
 | .cG ck=>3+3*s.ag.length+ck.am.length
 | .bJ=>3+3*s.ag.length
 | .eT=>2+3*s.ag.length
 | .dX p=>1+(3-p.br).toNat+3*(s.ag.length-s.aj-1)
 | .go=>1
 | _=>0
section
variable {A R:Nat}
theorem uG (h0:s.rv=0) (hc:lm s.av) (hp:s.aj<=s.ag.length):C0 (fC s) M/\nu A R (fC s)<=1+3*(s.ag.length-s.aj):=by
 have h1:s.av≠1:=by unfold lm at hc;omega
 unfold fC;split;exact⟨⟨trivial,λe=>by simp at e,λ_=>h0,λ_=>hc⟩,by simp only [nu];omega⟩;rename_i h2;have h3:s.aj<s.ag.length:=by
  have:¬s.aj=s.ag.length:=λe=>h2 (.inr e);omega
 exact⟨⟨λe=>by simp at e,λe=>by simp at e,λ_=>h0,λ_=>hc⟩,by simp only [nu];omega⟩
structure Pr (s:aF) (M:Mm):Prop where
 rv:s.rv=0
 tz:Tz M
 st:s.aA=1
 e:jb s
 i:s.aC=.bq
theorem Ar (h:Pr s M) {av:Int} (hc:lm av):C0 (iL s av) M/\nu A R (iL s av)<=1+3*s.ag.length:=by
 have:=uG (s:={ s with av:=av }) (M:=M) (A:=A) (R:=R) h.rv hc (by have:=h.e.aj;dsimp only;omega);refine⟨this.1,?_⟩;have h2:=this.2;dsimp only at h2;unfold iL;omega
theorem Co (h:Pr s M) {av:Int} (hc:lm av):C0 (lZ s av) M/\nu A R (lZ s av)<=5+3*s.ag.length+s.set.length:=by
 have h1:decide (av=1)=false:=by unfold lm at hc;simp;omega
 unfold lZ;rw [h1,Bool.false_and,ap (by decide)];exact⟨⟨⟨h.tz.1,_,rfl,h.tz.2⟩,λe=>by simp at e,λ_=>h.rv,λ_=>hc⟩,by simp only [nu];simp;omega⟩
theorem sx (h:Pr s M):C0 s M/\nu A R s=6+3*A+R:=by
 have h2:¬s.aA=2:=by have:=h.st;omega
 refine⟨⟨(by rw [h.i];exact .inr h.tz),λe=>(by rw [h.i] at e;cases e),λ_=>h.rv,λe=>?_⟩,?_⟩;unfold re at e;rw [h.i] at e;simp [h.st] at e;unfold nu;rw [h.i];simp [h2]
theorem FF (h:Pr s M) (a v:Int):((ia s a v).1=true->Pr (ia s a v).2 M)/\((ia s a v).1=false->C0 (ia s a v).2 M/\nu A R (ia s a v).2<=1+3*s.ag.length)/\((ia s a v).1=true->(ia s a v).2.ag=s.ag/\(ia s a v).2.set=s.set):=by
 unfold ia;split;exact⟨λ_=>⟨h.rv,h.tz,h.st,⟨h.e.am,h.e.aJ,h.e.aI,h.e.aj,h.e.KG⟩,h.i⟩,λe=>by simp at e,λ_=>⟨rfl,rfl⟩⟩;exact⟨λe=>by simp at e,λ_=>Ar h (.inr (.inl rfl)),λe=>by simp at e⟩
def Bd (A R:Nat) (s:aF) (M:Mm) (n:Nat):Prop:=C0 s M/\nu A R s<=n
theorem Ic (h:Pr s M) (hA:s.ag.length<=A) (hR:s.set.length<=R) (b st:Int):Bd A R (jG s b st) M (6+3*A+R):=by
 unfold jG;split;have:=Co (A:=A) (R:=R) h (av:=8) (by unfold lm;omega);exact⟨this.1,by omega⟩;split;have:=Ar (A:=A) (R:=R) h (av:=3) (by unfold lm;omega);exact⟨this.1,by omega⟩;obtain⟨h1,h2,h3⟩:=FF (A:=A) (R:=R) h (s.cf.aR+b) 0;split;rename_i e;have h4:=h1 e;have:=sx (A:=A) (R:=R) (s:={ (ia s (s.cf.aR+b) 0).2 with ar:=s.ar++[b] }) (M:=M) ⟨h4.rv,h4.tz,h4.st,⟨h4.e.am,h4.e.aJ,h4.e.aI,h4.e.aj,h4.e.KG⟩,h4.i⟩;exact⟨this.1,Nat.le_of_eq this.2⟩;rename_i e;have:=h2 (by simpa using e);exact⟨this.1,by omega⟩
theorem GV:∀(n:Nat) (a:Int) (s:aF),Pr s M->s.ag.length<=A->((gh n a s).1=true->Pr (gh n a s).2 M)/\((gh n a s).1=false->Bd A R (gh n a s).2 M (6+3*A+R))
 | 0,a,s,h,_=>⟨λ_=>h,λe=>(by cases e)⟩
 | n+1,a,s,h,hA=>by
   unfold gh;obtain⟨h1,h2,h3⟩:=FF (A:=A) (R:=R) h a 0;split;rename_i e;exact GV n (a+1) _ (h1 e) (by rw [(h3 e).1];exact hA);rename_i e;have:=h2 (by simpa using e);exact⟨λe=>(by cases e),λ_=>⟨this.1,by show nu A R (ia s a 0).2<=_;omega⟩⟩
theorem Qo (h:Pr s M) (hA:s.ag.length+1<=A) (dC iy:Int):Bd A R (fu s dC iy) M (6+3*A+R):=by
 unfold fu;split;have:=Ar (A:=A) (R:=R) h (av:=4) (by unfold lm;omega);exact⟨this.1,by omega⟩;dsimp only;have h0:Pr { s with ag:=s.ag++[iy] } M:=⟨h.rv,h.tz,h.st,⟨h.e.am,h.e.aJ,h.e.aI,h.e.aj,h.e.KG⟩,h.i⟩;have hl:({ s with ag:=s.ag++[iy] }:aF).ag.length<=A:=by dsimp only;rw [List.length_append];exact hA
 generalize ({ s with ag:=s.ag++[iy] }:aF)=s1 at h0 hl;obtain⟨h1,h2,h3⟩:=FF (A:=A) (R:=R) h0 (s.cf.aR+iy) (dC+1);split;rename_i e;have h4:=h1 e;obtain⟨z1,z2⟩:=GV (A:=A) (R:=R) (2 ^ dC.toNat) (gv s.cf iy) _ h4 (by rw [(h3 e).1];exact hl);split;rename_i e2;have h5:=z1 e2;have:=sx (A:=A) (R:=R) (s:={ (gh (2 ^ dC.toNat) (gv s.cf iy) (ia s1 (s.cf.aR+iy) (dC+1)).2).2 with value:=IntKind.u64.wrap (gv s.cf iy) }) (M:=M) ⟨h5.rv,h5.tz,h5.st,⟨h5.e.am,h5.e.aJ,h5.e.aI,h5.e.aj,h5.e.KG⟩,h5.i⟩;exact⟨this.1,Nat.le_of_eq this.2⟩;rename_i e2;exact z2 (by simpa using e2);rename_i e;have:=h2 (by simpa using e);exact⟨this.1,by omega⟩
theorem Ug (h:Pr s M) (hA:s.ag.length<=A) (hR:s.set.length<=R) (l:D4) (hl:∀av,l=.bI av->av=2):Bd A R (sY s l) M (6+3*A+R):=by
 unfold sY;cases l with
 | rO=>have:=Co (A:=A) (R:=R) h (av:=7) (by unfold lm;omega);exact⟨this.1,by have:=this.2;dsimp only;omega⟩
 | NB=>have:=Co (A:=A) (R:=R) h (av:=8) (by unfold lm;omega);exact⟨this.1,by have:=this.2;dsimp only;omega⟩
 | bI av=>have:=Co (A:=A) (R:=R) h (av:=av) (by unfold lm;have:=hl av rfl;omega);exact⟨this.1,by have:=this.2;dsimp only;omega⟩
 | take v=>have:=sx (A:=A) (R:=R) (s:={ s with value:=v }) (M:=M) ⟨h.rv,h.tz,h.st,⟨h.e.am,h.e.aJ,h.e.aI,h.e.aj,h.e.KG⟩,h.i⟩;exact⟨this.1,Nat.le_of_eq this.2⟩
 | kX a v=>
   dsimp only;split;have:=Co (A:=A) (R:=R) h (av:=7) (by unfold lm;omega);exact⟨this.1,by omega⟩;obtain⟨h1,h2,h3⟩:=FF (A:=A) (R:=R) h a v;cases e:(ia s a v).1;have:=h2 e;exact⟨this.1,by omega⟩;have:=sx (A:=A) (R:=R) (h1 e);exact⟨this.1,Nat.le_of_eq this.2⟩
 | yV=>have:=Ar (A:=A) (R:=R) h (av:=3) (by unfold lm;omega);exact⟨this.1,by have:=this.2;dsimp only;omega⟩
 | cU b v=>exact Ic h hA hR b v
def AQ (A R:Nat) (s:aF) (r:rK):Prop:=D3 r.2.2.2/\C0 r.2.2.1 r.2.2.2/\nu A R r.2.2.1<nu A R s
theorem D3.Fw {M':Mm} (h:D3 M) (h1:M' 1=M 1) (h2:M' 2=M 2):D3 M':=⟨λj=>by rw [h1];exact h.o j,by unfold Th;rw [h2];exact h.ck⟩
theorem D3.BX {M':Mm} (h:D3 M) (hl:GJ M M'):D3 M':=h.Fw hl.2.1 hl.2.2.1
theorem Tz.BX {M':Mm} (h:Tz M) (hl:GJ M M'):Tz M':=by unfold Tz SA Sy at *;rw [hl.2.2.2.1,hl.2.2.2.2];exact h
theorem Lt {M:Mm} {i:Nat} (hi:2<=i/\i<=4) (h:(M i).length=1):f5 M ((i:Int)+1) 0=true:=
 Cf (by omega) (by omega) (by rw [show ((i:Int)+1-1).toNat=i by omega,h];decide)
theorem Pf {M:Mm} {i:Nat} (hi:2<=i/\i<=4) (h:(M i).length=1):(gy M ((i:Int)+1) 0).eV=(M i).getD 0 0:=by
 unfold gy;rw [(um (Lt hi h)).1];unfold jP;rw [ay (by omega),show ((i:Int)+1-1).toNat=i by omega];rfl
theorem Pe (hZ:D3 M) (x:Int):(gy M 2 x).eV=0:=by
 unfold gy;rcases nV M 1 2 x lf with h|⟨_,h⟩;exact h;rw [h];exact hZ.o _
theorem P2 (hM:js c nt k M) (hZ:D3 M) (h:C0 s M) (cL:s.aA=1) (e:gn) (he:s.bS=some e) (nc:0<=e.br/\e.br<=2) (hd:s.aC=.cW):AQ A R s (gC s M e):=by
 have h1:Tz M:=by have:=h.d;rw [hd] at this;exact this
 have h2:=h.sn hd e he;have hl:=KC e M;have yN:nu A R s=6+3*A+R+(3-e.br).toNat:=by unfold nu;rw [hd];dsimp only;rw [he]
 have hc:e.br=0\/e.br=1\/e.br=2:=by omega
 rcases hc with e0|e1|e2;have q:(eG e M).2.1={ e with br:=1 }:=by unfold eG;rw [ay e0]
 unfold gC AQ;dsimp only;rw [q,ap (by dsimp only;omega)];refine⟨hZ.BX hl,⟨by dsimp only;rw [hd];exact h1.BX hl,λ_ e' N1 h'=>?_,λe'=>absurd hd e',λe'=>?_⟩,?_⟩;have N1:=Option.some.inj N1;subst N1;cases h';unfold re at e';dsimp only at e';rw [hd] at e';cases e';rw [yN];unfold nu;dsimp only;rw [hd];dsimp only;omega;have g:=Pf (M:=M) (i:=2) (by omega) hM.l2;have q:(eG e M).2.1={ e with br:=2,aw:=0 }:=by
  unfold eG;rw [ap (by omega),ay e1];have:(gy M 3 0).eV=0:=g.trans hZ.ck;rw [this]
 unfold gC AQ;dsimp only;rw [q,ap (by dsimp only;omega)];refine⟨hZ.BX hl,⟨by dsimp only;rw [hd];exact h1.BX hl,λ_ e' N1 h'=>?_,λe'=>absurd hd e',λe'=>?_⟩,?_⟩;have N1:=Option.some.inj N1;subst N1;rfl;unfold re at e';dsimp only at e';rw [hd] at e';cases e';rw [yN];unfold nu;dsimp only;rw [hd];dsimp only;omega;have h0:=h2 e2;have q:(eG e M).2.1={ e with br:=3 }:=by unfold eG;rw [ap (by omega),ap (by omega),ay e2]
 unfold gC AQ;dsimp only;rw [q,ay rfl];refine⟨hZ.BX hl,⟨.inr (h1.BX hl),λe'=>(by cases e'),λ_=>?_,λe'=>?_⟩,?_⟩;show (gn.Ae { e with br:=3 })=0;unfold gn.Ae;rw [ap (by dsimp only;omega)];dsimp only;rw [h0];rfl;unfold re at e';dsimp only at e';rw [decide_eq_true_eq] at e';omega;rw [yN];unfold nu;dsimp only;rw [ap (by omega)];omega
theorem Cr (h:C0 s M) (cL:s.aA=1) (hE:jb s) (gl:s.aC≠.cW) (ht:Tz M) {s':aF} (h1:s'.bS=s.bS) (h2:s'.aA=s.aA) (h3:s'.am=s.am/\s'.aJ=s.aJ/\s'.aI=s.aI/\s'.aj=s.aj/\s'.ai=s.ai) (h4:s'.aC=.bq):Pr s' M:=
 ⟨by have:=h.rv gl;unfold aF.rv at *;rw [h1];exact this,ht,h2.trans cL,⟨h3.1.trans hE.am,h3.2.1.trans hE.aJ,h3.2.2.1.trans hE.aI,h3.2.2.2.1.trans hE.aj,h3.2.2.2.2.trans hE.KG⟩,h4⟩
theorem Q5 (hb:iS c k s) (hM:js c nt k M) (hZ:D3 M) (h:C0 s M) (cL:s.aA=1) (r:fV) (u:yf) (hE:jb s) (nc:0<=r.br/\r.br<=2) (tG:r.dh=false) (Rv:r.rv=s.rv) (hd:s.aC=.aP r u) (hA:s.ag.length<=A) (hR:s.set.length<=s.cf.reads.toNat/\s.cf.reads.toNat<=R):AQ A R s (dq s M r u):=by
 obtain⟨h1,h2⟩:Tz M/\(1<=r.br->r.d7=0):=by have:=h.d;rw [hd] at this;exact this
 have gl:s.aC≠.cW:=by rw [hd];intro e;cases e
 have h0:=h.rv gl;have yN:nu A R s=6+3*A+R+(3-r.br).toNat:=by unfold nu;rw [hd]
 have g:=Pe hZ r.fw;have hc:r.br=0\/r.br=1\/r.br=2:=by omega
 rcases hc with e0|e1|e2;have q:dg r M=(gy M 2 r.fw,{ r with d7:=0,br:=1 },M):=by
  unfold dg;rw [ay e0];dsimp only;rw [g,ap (by rw [Rv,h0];decide)]
 unfold dq AQ;dsimp only;rw [q];dsimp only [fV.done];simp only [show decide ((1:Int)=3)=false from rfl,if_true];exact⟨hZ,⟨⟨h1,λ_=>rfl⟩,λe'=>(by cases e'),λ_=>h0,λe'=>(by cases e')⟩,by rw [yN];simp only [nu];omega⟩;have q:dg r M=(gy M 1 r.cg,{ r with value:=(gy M 1 r.cg).eV,br:=2 },M):=by
  unfold dg;rw [ap (by omega),ay e1]
 unfold dq AQ;dsimp only;rw [q];dsimp only [fV.done];simp only [show decide ((2:Int)=3)=false from rfl,if_true];exact⟨hZ,⟨⟨h1,λ_=>h2 (by omega)⟩,λe'=>(by cases e'),λ_=>h0,λe'=>(by cases e')⟩,by rw [yN];simp only [nu];omega⟩;have q:dg r M=(gy M 2 r.fw,{ r with dh:=false,br:=3 },M):=by
  unfold dg;rw [ap (by omega),ap (by omega),ay e2,g,h2 (by omega)];rfl
 unfold dq AQ;dsimp only;rw [q];dsimp only [fV.done];simp only [eq_self,decide_true,Bool.true_eq_false,Bool.false_eq_true,if_false];have hs:=Bq (ee:=s.cf.reads.toNat) (l:=s.set) r.fw hR.1
 have key:Bd A R (if (dy s.cf.reads.toNat s.set r.fw).1=true then Ab { (if r.cg<s.cf.aR/\¬r.cg∈s.reads then { s with aC:=.aP { r with dh:=false,br:=3 } u,reads:=s.reads++[r.cg] } else { s with aC:=.aP { r with dh:=false,br:=3 } u }:aF) with set:=(dy s.cf.reads.toNat s.set r.fw).2,aC:=.bq } (fV.val { r with dh:=false,br:=3 }) u
  else iL (if r.cg<s.cf.aR/\¬r.cg∈s.reads then { s with aC:=.aP { r with dh:=false,br:=3 } u,reads:=s.reads++[r.cg] } else { s with aC:=.aP { r with dh:=false,br:=3 } u }:aF) 3) M (6+3*A+R):=by
  split
  . have hp:Pr ({ (if r.cg<s.cf.aR/\¬r.cg∈s.reads then { s with aC:=.aP { r with dh:=false,br:=3 } u,reads:=s.reads++[r.cg] } else { s with aC:=.aP { r with dh:=false,br:=3 } u }:aF) with set:=(dy s.cf.reads.toNat s.set r.fw).2,aC:=.bq }:aF) M:=by
     refine Cr h cL hE gl h1 ?_ ?_ ?_ rfl;dsimp only;split<;>rfl;dsimp only;split<;>rfl;dsimp only;split<;>exact⟨rfl,rfl,rfl,rfl,rfl⟩
    have ha:(if r.cg<s.cf.aR/\¬r.cg∈s.reads then { s with aC:=.aP { r with dh:=false,br:=3 } u,reads:=s.reads++[r.cg] } else { s with aC:=.aP { r with dh:=false,br:=3 } u }:aF).ag=s.ag:=by split<;>rfl
    generalize (if r.cg<s.cf.aR/\¬r.cg∈s.reads then { s with aC:=.aP { r with dh:=false,br:=3 } u,reads:=s.reads++[r.cg] } else { s with aC:=.aP { r with dh:=false,br:=3 } u }:aF)=s2 at hp ha;cases u with
    | take=>have:=sx (A:=A) (R:=R) (s:={ ({ s2 with set:=(dy s.cf.reads.toNat s.set r.fw).2,aC:=.bq }:aF) with value:=fV.val { r with dh:=false,br:=3 } }) (M:=M) ⟨hp.rv,hp.tz,hp.st,⟨hp.e.am,hp.e.aJ,hp.e.aI,hp.e.aj,hp.e.KG⟩,rfl⟩;exact⟨this.1,Nat.le_of_eq this.2⟩
    | cU b=>exact Ic hp (by dsimp only;rw [ha];exact hA) (by dsimp only;omega) b _
  have hp:Pr ({ (if r.cg<s.cf.aR/\¬r.cg∈s.reads then { s with aC:=.aP { r with dh:=false,br:=3 } u,reads:=s.reads++[r.cg] } else { s with aC:=.aP { r with dh:=false,br:=3 } u }:aF) with aC:=.bq }:aF) M:=by
   refine Cr h cL hE gl h1 ?_ ?_ ?_ rfl;dsimp only;split<;>rfl;dsimp only;split<;>rfl;dsimp only;split<;>exact⟨rfl,rfl,rfl,rfl,rfl⟩
  have ha:(if r.cg<s.cf.aR/\¬r.cg∈s.reads then { s with aC:=.aP { r with dh:=false,br:=3 } u,reads:=s.reads++[r.cg] } else { s with aC:=.aP { r with dh:=false,br:=3 } u }:aF).ag=s.ag:=by split<;>rfl
  generalize (if r.cg<s.cf.aR/\¬r.cg∈s.reads then { s with aC:=.aP { r with dh:=false,br:=3 } u,reads:=s.reads++[r.cg] } else { s with aC:=.aP { r with dh:=false,br:=3 } u }:aF)=s2 at hp ha;have hf:=uG (s:={ s2 with av:=3 }) (M:=M) (A:=A) (R:=R) hp.rv (.inr (.inl rfl)) (by have:=hp.e.aj;dsimp only at this ⊢;omega);refine⟨hf.1,?_⟩;have h9:nu A R (fC { s2 with av:=3 })<=1+3*(s2.ag.length-s2.aj):=hf.2;have h8:s2.ag.length<=A:=by rw [ha];exact hA
  show nu A R (fC { s2 with av:=3 })<=_;omega
 by_cases e:(dy s.cf.reads.toNat s.set r.fw).1=true;rw [ay e] at key ⊢;exact⟨hZ,key.1,Nat.lt_of_le_of_lt key.2 (by rw [yN];omega)⟩;rw [ap e] at key ⊢;exact⟨hZ,key.1,Nat.lt_of_le_of_lt key.2 (by rw [yN];omega)⟩
theorem H1 (hM:js c nt k M) {dC:Int} (h:0<=dC/\dC<=3):f5 M 7 dC=true:=Cf (by omega) h.1 (by rw [show ((7:Int)-1).toNat=6 from rfl,hM.l6];omega)
theorem F1 (hM:js c nt k M) {dC:Int} (h:0<=dC/\dC<=3):(gy M 7 dC).eV=(M 6).getD dC.toNat 0:=by
 unfold gy;rw [(um (H1 hM h)).1];rfl
theorem LV (hM:js c nt k M) {dC w:Int} (h:0<=dC/\dC<=3):(Bb M 7 dC ((M 6).getD dC.toNat 0) w).done=true:=by
 unfold Bb;rw [(um (H1 hM h)).2];show decide ((jP M 7).getD dC.toNat 0=(M 6).getD dC.toNat 0)=true;exact decide_eq_true rfl
theorem TZ (hM:js c nt k M) (hZ:D3 M) (h:C0 s M) (cL:s.aA=1) (p:nQ) (hE:jb s) (iR:0<=p.dC/\p.dC<=3) (nc:0<=p.br/\p.br<=2) (hd:s.aC=.eh p) (hA:s.ag.length+1<=A):AQ A R s (ki s M p):=by
 obtain⟨h1,h2⟩:Tz M/\(1<=p.br->p.head=(M 6).getD p.dC.toNat 0):=by have:=h.d;rw [hd] at this;exact this
 have gl:s.aC≠.cW:=by rw [hd];intro e;cases e
 have h0:=h.rv gl;have yN:nu A R s=6+3*A+R+(3-p.br).toNat:=by unfold nu;rw [hd]
 have hl:=OH p M;have bI:∀b,Bd A R (fu { s with aC:=.bq } p.dC b) (dY p M).2.2 (6+3*A+R):=λb=>Qo (s:={ s with aC:=.bq }) ⟨h0,h1.BX hl,cL,⟨hE.am,hE.aJ,hE.aI,hE.aj,hE.KG⟩,rfl⟩ hA p.dC b;have hc:p.br=0\/p.br=1\/p.br=2:=by omega
 rcases hc with e0|e1|e2;have q2:(dY p M).2.2=M:=by unfold dY;rw [ay e0]
 rw [q2] at bI;by_cases e3:gT ((M 6).getD p.dC.toNat 0)<0;have q:(dY p M).2.1={ p with head:=(M 6).getD p.dC.toNat 0,br:=3 }:=by unfold dY;rw [ay e0,F1 hM iR];dsimp only;rw [ay e3]
 unfold ki AQ;dsimp only;rw [q2,q];dsimp only;rw [ay rfl];have:=bI p.block;exact⟨hZ,this.1,Nat.lt_of_le_of_lt this.2 (by rw [yN];omega)⟩;have q:(dY p M).2.1={ p with head:=(M 6).getD p.dC.toNat 0,br:=1 }:=by unfold dY;rw [ay e0,F1 hM iR];dsimp only;rw [ap e3]
 unfold ki AQ;dsimp only;rw [q2,q];dsimp only;rw [ap (by decide)];exact⟨hZ,⟨⟨h1,λ_=>rfl⟩,λe'=>(by cases e'),λ_=>h0,λe'=>(by cases e')⟩,by rw [yN];simp only [nu];omega⟩;have q:(dY p M).2.1={ p with next:=(gy M 8 (gT p.head)).eV,br:=2 }/\(dY p M).2.2=M:=by unfold dY;rw [ap (by omega),ay e1];exact⟨rfl,rfl⟩
 unfold ki AQ;dsimp only;rw [q.2] at bI hl ⊢;rw [q.1];dsimp only;rw [ap (by decide)];exact⟨hZ,⟨⟨h1,λ_=>h2 (by omega)⟩,λe'=>(by cases e'),λ_=>h0,λe'=>(by cases e')⟩,by rw [yN];simp only [nu];omega⟩;have hh:=h2 (by omega);have q:(dY p M).2.1={ p with br:=3,block:=gT p.head }:=by unfold dY;rw [ap (by omega),ap (by omega),ay e2,hh];dsimp only;rw [ay (LV hM iR),<-hh]
 unfold ki AQ;dsimp only;rw [q];dsimp only;rw [ay rfl];have:=bI (gT p.head);exact⟨hZ.BX hl,this.1,Nat.lt_of_le_of_lt this.2 (by rw [yN];omega)⟩
theorem Ra (hM:js c nt k M) (hZ:D3 M) (h:C0 s M) (p:eZ) (iR:0<=p.dC/\p.dC<=3) (nc:0<=p.br/\p.br<=2) (hp:s.aj<s.ag.length) (hd:s.aC=.dX p):AQ A R s (gU s M p):=by
 have h2:1<=p.br->p.head=(M 6).getD p.dC.toNat 0:=by have:=h.d;rw [hd] at this;exact this
 have gl:s.aC≠.cW:=by rw [hd];intro e;cases e
 have h0:=h.rv gl;have s8:lm s.av:=h.cd (by unfold re;rw [hd]);have yN:nu A R s=1+(3-p.br).toNat+3*(s.ag.length-s.aj-1):=by unfold nu;rw [hd]
 have hl:=ME p M;have hc:p.br=0\/p.br=1\/p.br=2:=by omega
 rcases hc with e0|e1|e2;have q:(ct p M).2.1={ p with head:=(M 6).getD p.dC.toNat 0,br:=1 }/\(ct p M).2.2=M:=by unfold ct;rw [ay e0,F1 hM iR];exact⟨rfl,rfl⟩
 unfold gU AQ;dsimp only;rw [q.2,q.1];dsimp only;rw [ap (by decide)];exact⟨hZ,⟨λ_=>rfl,λe'=>(by cases e'),λ_=>h0,λ_=>s8⟩,by rw [yN];simp only [nu];omega⟩;have q:(ct p M).2.1={ p with br:=2 }/\(ct p M).2.2 6=M 6:=by
  unfold ct;rw [ap (by omega),ay e1];exact⟨rfl,ml (by omega)⟩
 unfold gU AQ;dsimp only;rw [q.1];dsimp only;rw [ap (by decide)];exact⟨hZ.BX hl,⟨λ_=>by rw [q.2];exact h2 (by omega),λe'=>(by cases e'),λ_=>h0,λ_=>s8⟩,by rw [yN];simp only [nu];omega⟩;have hh:=h2 (by omega);have q:(ct p M).2.1={ p with br:=3 }:=by unfold ct;rw [ap (by omega),ap (by omega),ay e2,hh];dsimp only;rw [ay (LV hM iR),<-hh]
 unfold gU AQ;dsimp only;rw [q];dsimp only;rw [ay rfl];have:=uG (s:={ s with aj:=s.aj+1,aC:=.dX { p with br:=3 } }) (M:=(ct p M).2.2) (A:=A) (R:=R) h0 s8 (by dsimp only;omega);refine⟨hZ.BX hl,this.1,?_⟩;have h9:=this.2;dsimp only at h9;rw [yN];omega
theorem Q0 (hM:js c nt k M) (hZ:D3 M) (h:C0 s M) (t:jw) (ht:s.aI=some t) (h1:t.done=false) (hd:s.aC=.cq):AQ A R s (gi s M t):=by
 obtain⟨g1,t',g2,g3⟩:SA M=0/\∃t,s.aI=some t/\if t.om=true then t.iu=0 else Sy M=0:=by have:=h.d;rw [hd] at this;exact this
 rw [ht] at g2;have g2:=Option.some.inj g2;subst g2;have gl:s.aC≠.cW:=by rw [hd];intro e;cases e
 have h0:=h.rv gl;have s8:lm s.av:=h.cd (by unfold re;rw [hd]);have yN:nu A R s=4+3*s.ag.length+s.set.length+(if t.om=true then 0 else 1):=by unfold nu;rw [hd];dsimp only;rw [ht]
 cases e:t.om;rw [ap (by rw [e];decide)] at g3 yN;have a1:(Tn M 4 0 1).eV=0:=by
  unfold Tn;rw [(um (show f5 M 4 0=true from Lt (i:=3) (by omega) hM.l3)).1];exact g3
 have q:(fJ t M).2.1={ t with om:=true,iu:=0 }/\(fJ t M).2.2=Vt M 4 0 1:=by unfold fJ;rw [ap (by rw [h1];decide),ay e,a1];exact⟨rfl,rfl⟩
 have m1:Vt M 4 0 1 1=M 1/\Vt M 4 0 1 2=M 2/\Vt M 4 0 1 4=M 4:=⟨ml (by omega),ml (by omega),ml (by omega)⟩;unfold gi AQ;dsimp only;rw [q.1,q.2];dsimp only;rw [ap (by rw [h1];decide)];refine⟨hZ.Fw m1.1 m1.2.1,⟨?_,λe'=>absurd e' gl,λ_=>h0,λ_=>s8⟩,?_⟩;dsimp only;rw [hd];exact⟨by unfold SA at *;rw [m1.2.2];exact g1,_,rfl,by rw [ay rfl]⟩;rw [yN];unfold nu;dsimp only;rw [hd];dsimp only;rw [ay rfl];omega;rw [ay e] at g3 yN;have a1:(gy M 5 0).eV=0:=(Pf (M:=M) (i:=4) (by omega) hM.l4).trans g1;have q:(fJ t M).2.1={ t with done:=true }/\(fJ t M).2.2=M:=by unfold fJ;rw [ap (by rw [h1];decide),ap (by rw [e];decide),a1,g3];exact⟨rfl,rfl⟩
 unfold gi AQ;dsimp only;rw [q.1,q.2];dsimp only;rw [ay rfl];by_cases hs:s.set.length=0;rw [ay hs];exact⟨hZ,⟨trivial,λe'=>(by cases e'),λ_=>h0,λ_=>s8⟩,by rw [yN];simp only [nu];omega⟩;rw [ap hs];exact⟨hZ,⟨trivial,λe'=>(by cases e'),λ_=>h0,λ_=>s8⟩,by rw [yN];simp only [nu];omega⟩
theorem P9 (hZ:D3 M) (h:C0 s M) (ck:gw) (hf:ck.iw=false) (hn:0<ck.am.length) (Rv:ck.rv=s.rv) (hd:s.aC=.cG ck):AQ A R s (fO s M ck):=by
 have gl:s.aC≠.cW:=by rw [hd];intro e;cases e
 have h0:=h.rv gl;have s8:lm s.av:=h.cd (by unfold re;rw [hd]);have yN:nu A R s=3+3*s.ag.length+ck.am.length:=by unfold nu;rw [hd]
 have q:(iA ck M).2.1={ ck with am:=ck.am.tail }/\(iA ck M).2.2=M:=by
  unfold iA;rw [ap (by unfold gw.done;rw [hf];simp;intro e;rw [e] at hn;cases hn),Pe hZ,Rv,h0];exact⟨by rw [show decide (jL 0>0)=false from rfl,<-hf],rfl⟩
 unfold fO AQ;dsimp only;rw [q.1,q.2];dsimp only;rw [ap (by rw [hf];decide)];split;exact⟨hZ,⟨trivial,λe'=>(by cases e'),λ_=>h0,λ_=>s8⟩,by rw [yN];simp only [nu];omega⟩;exact⟨hZ,⟨trivial,λe'=>(by cases e'),λ_=>h0,λ_=>s8⟩,by rw [yN];simp only [nu,List.length_tail];omega⟩
theorem Q4 (hc:cx c) (hk:k<2^40) (hA:nj c k s) (hM:js c nt k M) (hZ:D3 M) (h:C0 s M) (cL:s.aA=1) (hb:s.gD=true) (V3:c.ag.toNat<=A) (UU:c.reads.toNat<=R):AQ A R s (bE s M):=by
 have hB:=hA.b;have hD:=hA.d;have sS:s.ag.length<=A:=by have:=hB.ln;omega
 have Kb:s.set.length<=R:=by have:=hB.set;omega
 have tG:=hB.cf;have code1:lm s.av->s.fU=false:=λe=>by unfold aF.fU lm at *;rw [decide_eq_false (by omega)];rfl
 unfold bE;cases hd:s.aC with
 | bq=>unfold aF.gD at hb;rw [hd] at hb;cases hb
 | gE l=>
   rw [hd] at hD;obtain⟨hE,_⟩:=hD;have gl:s.aC≠.cW:=(by rw [hd];intro e;cases e);obtain⟨h1,h2⟩:Tz M/\∀av,l=.bI av->av=2:=by have:=h.d;rw [hd] at this;exact this
   have hp:Pr { s with aC:=.bq } M:=Cr h cL hE gl h1 rfl rfl ⟨rfl,rfl,rfl,rfl,rfl⟩ rfl;have:=Ug (A:=A) (R:=R) hp sS Kb l h2;refine⟨hZ,this.1,Nat.lt_of_le_of_lt this.2 ?_⟩;unfold nu;rw [hd];dsimp only;omega
 | cW=>
   rw [hd] at hD;obtain⟨hE,e,he,_,nc,_⟩:=hD;rw [he];exact P2 hM hZ h cL e he nc hd
 | aP r u=>
   rw [hd] at hD;obtain⟨hE,nc,_,UR,_,_,Rv⟩:=hD;exact Q5 hB hM hZ h cL r u hE nc UR Rv hd sS (by rw [tG];exact⟨hB.set,UU⟩)
 | eh p=>
   rw [hd] at hD;obtain⟨hE,ha,iR,_,_,_,nc,_⟩:=hD;exact TZ hM hZ h cL p hE iR nc hd (by omega)
 | cq=>
   rw [hd] at hD;obtain⟨_,_,t,ht,h1,_⟩:=hD;rw [ht];exact Q0 hM hZ h t ht h1 hd
 | cG ck=>
   rw [hd] at hD;obtain⟨_,_,_,hf,⟨q,hq,zF⟩,Rv⟩:=hD;exact P9 hZ h ck hf (by rw [zF,List.length_drop];omega) Rv hd
 | bJ=>
   rw [hd] at hD;obtain⟨_,hL,t,ht⟩:=hD;have gl:s.aC≠.cW:=(by rw [hd];intro e;cases e);have s8:lm s.av:=h.cd (by unfold re;rw [hd]);have hs:=code1 s8;have ho:s.am.length=0:=by
    have:=hL.2;rw [hs] at this;have:=mt this.2 (by decide);omega
   unfold fb AQ;dsimp only;rw [ap (by rw [hs];simp),ap (by rw [hs];decide)];unfold fK;dsimp only;rw [ay ho];refine⟨hZ,⟨trivial,λe'=>(by cases e'),λ_=>h.rv gl,λ_=>s8⟩,?_⟩;simp only [nu,hd];omega
 | eT=>
   have gl:s.aC≠.cW:=(by rw [hd];intro e;cases e);have s8:lm s.av:=h.cd (by unfold re;rw [hd]);rw [hd] at hD;have:=uG (s:=s) (M:=Dq M 5 0 (zw s.fA)) (A:=A) (R:=R) (h.rv gl) s8 hB.push;refine⟨hZ.Fw (ml (by omega)) (ml (by omega)),this.1,Nat.lt_of_le_of_lt this.2 ?_⟩;simp only [nu,hd];omega
 | dX p=>
   rw [hd] at hD;obtain⟨_,hp,B6,iR,_,nc⟩:=hD;have hb:=hB.NH (s.ag.getD s.aj 0) (Ib hp);have hl:=(uy hc _ hb).1;exact Ra hM hZ h p (by rw [iR,B6];exact hl) nc hp hd
 | go=>
   have gl:s.aC≠.cW:=(by rw [hd];intro e;cases e);have s8:lm s.av:=h.cd (by unfold re;rw [hd]);refine⟨hZ.Fw (ml (by omega)) (ml (by omega)),⟨.inl rfl,λe'=>(by cases e'),λ_=>h.rv gl,λ_=>s8⟩,?_⟩;simp [nu,hd]
 | ei=>have:=h.d;rw [hd] at this;exact this.elim
 | dI w=>have:=h.d;rw [hd] at this;exact this.elim
 | bX w=>have:=h.d;rw [hd] at this;exact this.elim
 | gr=>have:=h.d;rw [hd] at this;exact this.elim
end
end
section
variable [Gl]
structure lT where
 pc:Int
 gd:Int
 val:Int
structure St where
 br:Int
 ak:Int
 gd:Int
 word:Int
 reads:List Int
 cM:List Int
structure gu where
 ak:Int
 xh:Int
 L8:Int
 Ap:aU
def gu.zero:gu:=⟨0,0,0,aU.zero⟩
structure iJ where
 ak:Int
 lw:Int
 fH:Bool
 xD:Int
 next:Int
def iJ.done (f:iJ):Bool:=f.fH && decide (f.lw<=f.next)
def iJ.skip (f:iJ):iJ:=if f.next=f.ak then { f with next:=f.next+1 } else f
def iJ.yI (f:iJ) (kr:Int):Bool:=if kr=0 then true else if kr=1 then false else decide (f.xD<=IntKind.u64.wrap (kr-2))
def iJ.me (f:iJ):Int:=if f.fH=true then IntKind.i64.wrap f.xD else -1
def gq (f:iJ) (M:Mm):aU×iJ:=
 if f.done=true then (aU.zero,f)
 else if f.fH=false then (gy M 3 0,({ f with fH:=true,xD:=(gy M 3 0).eV }:iJ).skip)
 else (gy M 6 f.next,if f.yI (gy M 6 f.next).eV=true then ({ f with next:=f.next+1 }:iJ).skip else f)
def lS (c:bH) (l:List (Int×Int)) (sX:Int) (bs:List Int):List (Int×Int):=
 l++(bs.filter λb=>decide (0<=c8 c b)).map λb=>(b,sX)
def jk (l:List (Int×Int)) (me:Int):List (Int×Int):=l.filter λx=>decide (me<x.2)
def kH (c:bH) (l:List (Int×Int)) (me:Int):List eZ:=(l.filter λx=>!decide (me<x.2)).map λx=>⟨c8 c x.1,x.1,0,0⟩
def wF:List eZ->Mm->aU×List eZ×Mm
 | [],M=>(aU.zero,[],M)
 | p::l,M=>((ct p M).1,if (ct p M).2.1.br=3 then l else (ct p M).2.1::l,(ct p M).2.2)
structure R8 where
 r0:Int
 r1:Int
 r2:Int
 r3:Int
 r4:Int
 r5:Int
 r6:Int
 r7:Int
def R8.bt (r:R8) (i:Int):Int:=if i=0 then r.r0 else if i=1 then r.r1 else if i=2 then r.r2 else if i=3 then r.r3 else if i=4 then r.r4 else if i=5 then r.r5 else if i=6 then r.r6 else r.r7
def R8.set (r:R8) (i v:Int):R8:=
 if i=0 then { r with r0:=v } else if i=1 then { r with r1:=v } else if i=2 then { r with r2:=v } else if i=3 then { r with r3:=v }
 else if i=4 then { r with r4:=v } else if i=5 then { r with r5:=v } else if i=6 then { r with r6:=v } else { r with r7:=v }
def R8.zero:R8:=⟨0,0,0,0,0,0,0,0⟩
def R8.cells (r:R8):List Value:=[.int .u64 r.r0,.int .u64 r.r1,.int .u64 r.r2,.int .u64 r.r3,.int .u64 r.r4,.int .u64 r.r5,.int .u64 r.r6,.int .u64 r.r7]
structure aV where
 gP:Option aF
 bB:Int
 jg:R8
 gF:Int
 d7:List lT
 aT:Bool
 eU:Int
 dx:Option iJ
 dB:Option (List eZ)
 cf:bH
 id:Int
 nt:Int
 av:List bg
 pc:Int
 df:R8
 gA:Int
 done:Bool
 fG:List (Int×Int)
 gx:List lT
 hU:Int
def wd (c:bH) (id nt:Int) (p:List bg):aV:=⟨none,0,.zero,0,[],false,0,none,none,c,id,nt,p,0,.zero,0,decide (p.length=0),[],[],0⟩
def aV.to (t:aV) (pc:Int):aV:={ t with pc:=pc,done:=decide (pc=t.av.length) }
def aV.m9 (t:aV):aV:=t.to (t.pc+1)
def aV.nk (t:aV) (gd v:Int):aV:={ t with gx:=t.gx++[⟨t.pc,gd,v⟩] }
def aV.cg (t:aV) (r bL:Int):Int:=IntKind.u64.wrap (t.df.bt r+IntKind.u64.wrap bL)
def aV.sQ (t:aV) (k:Int):bg:=t.av.getD k.toNat ⟨0,0,0,0,0⟩
def aV.eX (t:aV):bg:=t.sQ t.pc
def aV.fp (t:aV) (a v:Int):aV:={ t with df:=t.df.set a v }
variable (eW:Int->Int->Int->Int)
def aV.gE (t:aV) (i:bg):aV:=
 (if i.op=1 then t.fp i.a (IntKind.u64.wrap i.bL) else if i.op=2 then t.fp i.a (t.df.bt i.b) else if i.op=3 then t.fp i.a (eW i.bL (t.df.bt i.b) (t.df.bt i.c))
  else if i.op=17 then t.fp i.a (IntKind.u64.wrap t.gA) else t).to
 (t.pc+1+if i.op=4\/(i.op=5/\t.df.bt i.a=0)\/(i.op=6/\t.df.bt i.a≠0) then i.bL else 0)
def aV.ot (t:aV):aV:={ t with gP:=some (fy (ey t.cf t.id)).2,d7:=[],hU:=t.hU+1 }
def aV.Bw (t:aV) (i:bg) (s:aF):aF:=
 if i.op=10 then (GP s (t.cg i.b i.bL)).2 else if i.op=11 then (E4 s (t.cg i.a i.bL) (t.df.bt i.b)).2 else if i.op=14 then (K4 s i.bL).2
 else if i.op=15 then (Kv s (t.df.bt i.a)).2 else if i.op=8 then (Cq s 1).2 else if i.op=9 then (Cq s 2).2 else s
def aV.rU (t:aV) (i:bg):Int:=if i.op=12 then t.cg i.b i.bL else t.cg i.a i.bL
def aV.CW (t:aV) (i:bg) (v:Int):aV:=if i.op=12 then ((t.fp i.a v).nk 4 v).m9 else (t.nk 5 v).m9
def aV.eV (t:aV) (r gd v:Int):aV:={ t.fp r v with d7:=t.d7++[⟨t.pc,gd,v⟩] }
def aV.kU (t:aV) (i:bg) (s:aF):aV:=
 let t1:aV:={ t with gP:=none,aT:=false }
 if s.av=1 then t1.CW i (if i.op=13 then t.df.bt i.b else s.value) else if s.av=6 then (t1.nk 7 6).m9 else t1
def aV.nf (t:aV) (s:aF):aV:=
 if s.av=1 then { t with gP:=none,gx:=t.gx++t.d7,fG:=if 0<s.ar.length then lS t.cf t.fG s.sX s.ar else t.fG }
 else { t with gP:=none,df:=t.jg }
def aV.jo (t:aV) (av:Int):aV:=
 ({ t with gF:=0,gA:=av,gx:=t.gx++[⟨t.bB,3,IntKind.u64.wrap av⟩] }:aV).to (cQ t.av t.bB.toNat+1)
def aV.bI (t:aV) (s:aF):aV:=
 if s.av=9 then (if t.gF<(t.sQ t.bB).bL then (t.nf s).to t.bB else (t.nf s).jo 5) else (t.nf s).jo s.av
def aV.rI (t:aV) (i:bg) (s:aF):aV:=
 if s.aA=2 then (if t.aT=true then t.kU i s else t.bI s)
 else if t.aT=true then t
 else (if i.op=10 then t.eV i.a 1 s.value else if i.op=14 then t.eV i.a 2 s.value else t).m9
abbrev ThR:=gu×List St×aV×Mm
def aV.vz (t:aV) (M:Mm) (s:aF):ThR:=
 let r:=bE s M
 let t1:aV:={ t with gP:=some r.2.2.1 }
 (⟨0,r.2.1,t.hU,r.1⟩,
  if r.2.1=3 then [⟨0,t.id,3,0,[],[]⟩]
  else if r.2.1=16/\r.2.2.1.ai=true then [⟨0,t.id,4,0,r.2.2.1.reads,if r.2.2.1.av=1 then r.2.2.1.bp.bK.filter (λa=>decide (a<r.2.2.1.cf.aR)) else []⟩] else [],
  if r.2.2.1.gD=true then t1 else t1.rI t.eX r.2.2.1,r.2.2.2)
def aV.ask (t:aV) (i:bg) (s:aF):aV:=
 { t with eU:=t.eU+1,gP:=some (if 1<t.eU+1 then (Cq s 1).2 else if i.op=12 then (GP s (t.rU i)).2 else (E4 s (t.rU i) (t.df.bt i.b)).2) }
def aV.tX (t:aV) (i:bg) (s:aF):aF:=if 1<t.eU+1 then (Cq s 1).2 else if i.op=12 then (GP s (t.rU i)).2 else (E4 s (t.rU i) (t.df.bt i.b)).2
def aV.jH (t:aV):aV:=match t.dB with
 | some []=>(({ t with dx:=none,dB:=none }:aV).nk 6 0).m9
 | _=>t
def aV.uH (t:aV) (M:Mm) (f:iJ):gu×aV×Mm:=
 match t.dB with
 | none=>
   let r:=gq f M
   (⟨0,if r.1.cell=3 then 25 else 26,0,r.1⟩,
    (if r.2.done=true then ({ t with dx:=some r.2,dB:=some (kH t.cf t.fG r.2.me),fG:=jk t.fG r.2.me }:aV) else { t with dx:=some r.2 }).jH,M)
 | some l=>
   let r:=wF l M
   (⟨0,gL r.1,0,r.1⟩,({ t with dB:=some r.2.1 }:aV).jH,r.2.2)
def aV.plain (t:aV) (M:Mm) (i:bg):ThR:=
 let cg:=t.rU i
 if t.cf.aR<=cg then (gu.zero,[],((if i.op=12 then t.fp i.a 0 else t).nk 7 7).m9,M)
 else if t.cf.aT=true then (({ t with aT:=true,eU:=0 }:aV).ot).vz M (fy (ey t.cf t.id)).2
 else if i.op=12 then (⟨0,1,0,gy M 1 cg⟩,[⟨0,t.id,1,cg,[],[]⟩],t.CW i (gy M 1 cg).put,M)
 else (⟨0,1,0,Bm M 1 cg (t.df.bt i.b)⟩,[⟨0,t.id,2,cg,[],[]⟩],t.CW i (Bm M 1 cg (t.df.bt i.b)).put,Dq M 1 cg (t.df.bt i.b))
def aV.lj (t:aV) (M:Mm) (i:bg):ThR:=
 if i.op=7 then (({ t with bB:=t.pc,jg:=t.df,gF:=t.gF+1 }:aV).ot).vz M (fy (ey t.cf t.id)).2
 else match t.gP with
 | some s=>
   if i.op=10\/i.op=11\/i.op=14\/i.op=15\/i.op=8\/i.op=9 then ({ t with gP:=some (t.Bw i s) }:aV).vz M (t.Bw i s)
   else (⟨0,0,t.hU,aU.zero⟩,[],t.gE eW i,M)
 | none=>
   if i.op=12\/i.op=13 then t.plain M i
   else if i.op=16 then
    let f:iJ:=⟨t.id,t.nt,false,0,0⟩
    let r:=({ t with dx:=some f }:aV).uH M f
    (r.1,[],r.2.1,r.2.2)
   else (gu.zero,[],t.gE eW i,M)
def aV.ly (t:aV) (M:Mm):ThR:=
 match t.dx with
 | some f=>let r:=t.uH M f;(r.1,[],r.2.1,r.2.2)
 | none=>match t.gP with
   | some s=>if s.gD=true then t.vz M s else if t.aT=true then (t.ask t.eX s).vz M (t.tX t.eX s) else t.lj eW M t.eX
   | none=>t.lj eW M t.eX
def aV.step (t:aV) (M:Mm):Bool×ThR:=
 if t.done=true then (false,gu.zero,[],t,M)
 else
  let r:=t.ly eW M
  (true,{ r.1 with ak:=t.id },r.2)
end
section
open T22
variable [Gl]
theorem CD (c:bH) (hF:rM c) (nt:Nat) (h1:1<=nt) (wR:nt<=16) (vi:Value) (cr:List Int) (hi:(cr.length:Int)=c.aR) (A:AW) (F:HP) (hw:A.Wf) (hS:ah A [.h (au .u64 vi cr),.h F]) :
 az Tryz.prog 26 [c.v,.int .i64 (nt:Int),vi] A (λv A'=>∃pb,v=.tuple #[pv pb,.int .i64 0]/\ah A' [dH pb (jE c nt cr),.h (au .u64 vi cr),.h F]):=by
 have ho:=hF.ok.am;have hl:=uw hF;obtain⟨aR,am,base,n0,n1,n2,n3,reads,cM,ag,ar,aw,aT⟩:=c;dsimp only at hi ho hl;have di:bn A (au .u64 vi cr*(F*eP)):=hS;refine(DT nt (iq n0 n1).length am.toNat vi cr aR am base n0 n1 n2 n3 reads cM ag ar aw aT hF A (F*eP) (au .u64 vi cr) (λA F h=>au.is h) hw di h1 wR hi (by omega) rfl).mono ?_;rintro v A' ⟨pb,rfl,h⟩;refine⟨pb,rfl,?_⟩;have e:(λk=>if k=0 then cr++List.replicate (iq n0 n1).length 0 else if k=1 then List.replicate am.toNat 0 else if k=5 then List.replicate nt 0 else if k=6 then jn n0 n1 else if k=7 then iq n0 n1 else [0])=jE ⟨aR,am,base,n0,n1,n2,n3,reads,cM,ag,ar,aw,aT⟩ nt cr:=by
  unfold jE;dsimp only;rw [<-hl,Int.toNat_natCast]
 rw [e] at h;exact h
theorem vE {c:bH} (hc:cx c):((ir c).length:Int)=c.aR:=by
 have:=hc.aR;unfold ir;simp;omega
theorem G3 {c:bH} (j:Nat) (hj:(j:Int)<c.aR):(ir c).take (j+1)=(ir c).take j++[10*(j:Int)+1]:=by
 rw [List.take_add_one];congr 1;unfold ir;rw [List.getElem?_map,List.getElem?_range (by omega)];rfl
theorem PV {P:Program} {f:FuncId} {args:List Value} {A:AW} {Q:HP} {X:Nat->It} {g:Nat->Value} (h:∀F,ah A [.h Q,.h F]->az P f args A (λv A'=>∃pb,v=g pb/\ah A' [X pb,.h Q,.h F]))
 {L K:List It} {k:Value->AW->Prop} (hS:ah A L) (hp:aB L (.h Q) K) (hk:∀pb A',ah A' (X pb::.h Q::K)->A'.Wf->k (g pb) A'):az P f args A k:=by
 have mT:ah A [.h Q,.h (aL K)]:=by
  unfold ah at *;rw [hp.aL] at hS;show bn A (Q*(aL K*eP));rw [dt];exact hS
 refine bV (h (aL K) mT) ?_;rintro _ A' ⟨pb,rfl,h2⟩ lp _;refine hk pb A' ?_ lp;unfold ah at *;have h3:bn A' ((X pb).hp*(Q*(aL K*eP))):=h2;rwa [dt] at h3
set_option maxRecDepth 100000 in
theorem Bl (c:bH) (hF:rM c) (nt:Nat) (DO:1<=nt) (wR:nt<=16) (A:AW) (F:HP) (hw:A.Wf) (hS:ah A [.h F]) :
 az Tryz.prog 10 [c.v,.int .i64 (nt:Int)] A (λv A'=>∃pb mb,v=.tuple #[.agg #[pv pb,pv mb],.bool true]/\ah A' [dH pb (jE c nt (ir c)),Bx c mb (jE c nt (ir c)),.h F]):=by
 refine aH Tryz.func10 λ_=>?_;have WO:=hF.ok.aR;have b6:=vE hF.ok;have M3:=λvi A F hw hS=>CD c hF nt DO wR vi (ir c) b6 A F hw hS;have SS:=λvi A F hw hS=>Hh c hF nt wR vi (ir c) b6 A F hw hS;dsimp only [bH.v] at M3 SS ⊢;revert hS hw;refine W cy (J1 bF) ?_<;>(unhygienic intros)
 refine dW (λk fr A'=>A'.Wf/\∃(j:Nat) (v6:Value) (q:List Int),q=(ir c).take j/\k=(ir c).length-j/\j<=(ir c).length/\fr 1=.int .i64 (nt:Int)/\fr 2=pv A.next/\fr 4=pv (A.next+1)/\fr 6=v6/\fr 7=.int .i64 (j:Int)/\
  ah A' [.at A.next (oN c),.at (A.next+1) (.cells [.pointer none,.pointer none] true 1),.h (au .u64 v6 q),.h F]) (ir c).length ?_ ?_
 refine⟨(hw.alloc _).alloc _,0,na,[],by simp,by simp,by simp,by simp,by simp,by simp,by simp,by simp,?_⟩;apply ah.bI;apply ah.pS .u64
 (·exact sA)
 (·first|exact pA|exact kA)
 clear hS hw;rintro k fr A1 ⟨hw,j,v6,q,zF,rfl,hj,f1,f2,f4,f6,f7,hS⟩;have hql:q.length=j:=by rw [zF];simp;omega
 obtain⟨o6,c6,rfl,_⟩:=(ah.pG hS (.s (.s .z))).dO;have hq:=Pq hS hw;by_cases fZ:(j:Int)<c.aR
 . have LT:IntKind.i64.wrap ((j:Int)+1)=((j+1:Nat):Int):=an (by omega) (by omega);have e0:IntKind.i64.wrap (10*(j:Int))=10*(j:Int):=an (by omega) (by omega);have e2:IntKind.i64.wrap (10*(j:Int)+1)=10*(j:Int)+1:=an (by omega) (by omega);have e3:IntKind.u64.wrap (10*(j:Int)+1)=10*(j:Int)+1:=ax (by omega) (by omega);have IS:=G3 j fZ
   repeat' (first|(with_reducible apply lwU;(·first|(simp;done)|(simp;rfl));(·first|(simp;done)|(simp;rfl));(·exact wA);(·exact sA);(·first|exact pA|exact kA);(·first|(simp;done)|(simp;rfl)|(simp [hq];done)|(simp [hq];rfl));(·first|omega|(simp;omega));(·intro _ _;trivial);rintro _ _ _ hS hw _;(try dsimp only [AW.bx] at hS);have hq:=LM hS hw)|(refine jK λR hR=>?_;simp [an,ax,f1,f2,f4,f6,f7,hq,fZ,e0,e2,e3,LT,AW.ab,aD];try simp (disch:=omega) only [ay,ap,an,ax])|(refine hR _ _ ?_;clear hR R)|(refine hK _ _ ?_;clear hK K)|refine nx ?_|refine wn λK hK=>?_|simp only [wS]|(show cB _ _ _ _ _ _;refine nx ?_)|(refine wc rfl (λhc=>?_) (λhc=>?_)<;>(try simp at hc)<;>(try omega))|(refine ib (λhc=>?_) (λhc=>?_)<;>(try omega)<;>(try simp (disch:=omega) only [ay,ap])))
   refine⟨(ir c).length-(j+1),by omega,?_,j+1,_,q++[10*(j:Int)+1],by rw [IS,zF],rfl,by omega,by simp [f1],by simp [f2],by simp [f4],by simp;rfl,by simp,?_⟩;exact wA;apply ah.bI
   (·exact sA)
   (·first|exact pA|exact kA)
 have V1:j=(ir c).length:=by omega
 have Rx:q=ir c:=by rw [zF,V1,List.take_length]
 subst Rx;clear zF
 repeat' (first|(refine jK λR hR=>?_;simp [an,ax,f1,f2,f4,f6,f7,hq,fZ,AW.ab,aD];try simp (disch:=omega) only [ay,ap,an,ax])|(refine hR _ _ ?_;clear hR R)|(refine hK _ _ ?_;clear hK K)|refine nx ?_|refine wn λK hK=>?_|simp only [wS]|(show cB _ _ _ _ _ _;refine nx ?_)|(refine wc rfl (λhc=>?_) (λhc=>?_)<;>(try simp at hc)<;>(try omega))|(refine ib (λhc=>?_) (λhc=>?_)<;>(try omega)<;>(try simp (disch:=omega) only [ay,ap])))
 refine PV (X:=λpb=>dH pb (jE c nt (ir c))) (g:=λpb=>.tuple #[pv pb,.int .i64 0]) (λF hS=>M3 _ A1 F hw hS) hS (.s (.s .z)) ?_;intro pb A2 hS hw;have hq:=Pq hS hw
 repeat' (first|(refine jK λR hR=>?_;simp [an,ax,f1,f2,f4,f6,f7,hq,AW.ab,aD];try simp (disch:=omega) only [ay,ap,an,ax])|(refine hR _ _ ?_;clear hR R)|(refine hK _ _ ?_;clear hK K)|refine nx ?_|refine wn λK hK=>?_|simp only [wS]|(show cB _ _ _ _ _ _;refine nx ?_)|(refine wc rfl (λhc=>?_) (λhc=>?_)<;>(try simp at hc)<;>(try omega))|(refine ib (λhc=>?_) (λhc=>?_)<;>(try omega)<;>(try simp (disch:=omega) only [ay,ap])))
 refine PV (X:=λpb=>Bx c pb (jE c nt (ir c))) (g:=λpb=>pv pb) (λF hS=>SS _ A2 F hw hS) hS (.s .z) ?_;intro mb A3 hS hw;have hq:=Pq hS hw
 repeat' (first|(refine jK λR hR=>?_;simp [an,ax,f1,f2,f4,f6,f7,hq,AW.ab,aD];try simp (disch:=omega) only [ay,ap,an,ax])|(refine hR _ _ ?_;clear hR R)|(refine hK _ _ ?_;clear hK K)|refine nx ?_|refine wn λK hK=>?_|simp only [wS]|(show cB _ _ _ _ _ _;refine nx ?_)|(refine wc rfl (λhc=>?_) (λhc=>?_)<;>(try simp at hc)<;>(try omega))|(refine ib (λhc=>?_) (λhc=>?_)<;>(try omega)<;>(try simp (disch:=omega) only [ay,ap])))
 refine⟨_,by first|(simp [hq,f4,AW.ab];done)|(simp [hq,f4,AW.ab];rfl),pb,mb,rfl,?_⟩;apply ah.bI
 (·exact sA)
 (·first|exact pA|exact kA)
end
end Go.Stx
