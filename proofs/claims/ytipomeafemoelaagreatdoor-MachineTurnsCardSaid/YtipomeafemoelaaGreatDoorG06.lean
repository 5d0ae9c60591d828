/-
 The program's attempt: its steps, fourth part.
-/
import Derived.Test.YtipomeafemoelaaGreatDoorG05
set_option linter.unusedVariables false
set_option linter.unusedSimpArgs false
set_option linter.unusedSectionVars false
set_option maxRecDepth 20000
set_option maxHeartbeats 4000000
open Go.IntKind renaming i64->qg
open Go.Proofs.Tryz renaming func116->Zk,mx->qj,prog->qa
open Go.Value renaming int->qp
open List renaming replicate->qc,replicate_succ->kap
open Nat renaming lt_of_le_of_lt->Zw
namespace Go.Stx
open Go Go.Proofs
attribute [local irreducible] TW bG c8 aY aD aO cK da
section
abbrev As:List (Nat×Nat):=[(0,0),(1,2),(2,0),(3,0),(4,0),(5,0),(6,0),(7,0),(8,0),(9,0),(10,0),(11,0),(12,0),(13,0),(14,0)]
abbrev Ar:List (Nat×Nat):=[(0,0),(1,0),(2,0),(3,0),(4,0),(5,0),(6,0),(8,0),(9,0),(10,0),(11,0),(12,0),(7,2),(13,2),(14,2),(15,0),(16,0),(17,3),(18,0),(19,0),(20,0),(21,3)]
open T17 T13
variable [Gl]
theorem BA (b pb:Nat) (s:aJ) (w:je) (M:Mm) (hd:s.aH=.bH w) (bX:w.os.length=w.ws.length) :
 bn qa 123 [pv b,pv pb] [.h (bf b s),dN pb M] (λv=>v=.tuple #[(mF s M w).1.v,.int .i64 (mF s M w).2.1])
  (λ_=>[.h (bf b (mF s M w).2.2.1),dN pb (mF s M w).2.2.2]):=by
 (unhygienic cases s);dsimp only at hd;subst hd;obtain⟨x,w',M',hr⟩:∃x e' M',gM w M=(x,e',M'):=⟨_,_,_,rfl⟩;have dz:=λn=>P6 n pb w M bX;rw [hr] at dz;have hvv:∀dd,aJ.nJ ⟨cf,aj,aF,aC,value,b7,am,reads,an,ay,set,bz,aB,ao,aP,aL,au,dd⟩=aJ.nJ ⟨cf,aj,aF,aC,value,b7,am,reads,an,ay,set,bz,aB,ao,aP,aL,au,.bH w⟩:=λdd=>rfl;obtain⟨vr,hvr⟩:∃vr,aJ.nJ ⟨cf,aj,aF,aC,value,b7,am,reads,an,ay,set,bz,aB,ao,aP,aL,au,.bH w⟩=vr:=⟨_,rfl⟩;rw [hvr] at hvv;cases h2:w'.done
 . have e:mF ⟨cf,aj,aF,aC,value,b7,am,reads,an,ay,set,bz,aB,ao,aP,aL,au,.bH w⟩ M w=(x,18,⟨cf,aj,aF,aC,value,b7,am,reads,an,ay,set,bz,aB,ao,aP,aL,au,.bH w'⟩,M'):=by
    unfold mF;rw [hr];dsimp only;rw [h2];simp
   rw [e];intro A F hw hS;refine aN Tryz.func123 λ_=>?_;dsimp only [aa,af] at hS;obtain⟨x0,hS⟩:=bf.open hS .z;(unhygienic cases x0);dsimp only [cr,iJ,cZ,eH,bD.fY,aa,af] at hS;have hq:=eV hS hw;revert hq hS hw;clear hS;refine Wp (J2 (Tg.mk (n:=10) @wu) (dz m)) (J4 h2 bE @bk.eq_1 @aZ.v.eq_1) ?_<;>(unhygienic intros);refine⟨_,by simp [hq,AW.ab,aG];rfl,by first|(simp [aZ.v];done)|(simp [aZ.v,h];done),?_⟩;apply bf.bS
   (·exact sA)
   exact fP
   (·first|exact pP|exact kP)
   all_goals(first|exact 0|exact undef)
 by_cases h:0<=vr
 . have e:mF ⟨cf,aj,aF,aC,value,b7,am,reads,an,ay,set,bz,aB,ao,aP,aL,au,.bH w⟩ M w=(x,18,⟨cf,aj,aF,aC,value,b7,am,reads,an,ay,set,bz,aB,ao,aP,aL,au,.fb⟩,M'):=by
    unfold mF;rw [hr];dsimp only;rw [h2,hvr,aA rfl,aA h]
   rw [e];intro A F hw hS;refine aN Tryz.func123 λ_=>?_;dsimp only [aa,af] at hS;obtain⟨x0,hS⟩:=bf.open hS .z;(unhygienic cases x0);dsimp only [cr,iJ,cZ,eH,bD.fY,aa,af] at hS;have hq:=eV hS hw;revert hq hS hw;(repeat first|clear hq|clear hS|clear hw|revert hc|revert R|revert K);refine Wp (J3 (Tg.mk (n:=10) @wu) (Tg.mk (n:=30) (λA' h1 h2=>pL b ⟨cf,aj,aF,aC,value,b7,am,reads,an,ay,set,bz,aB,ao,aP,aL,au,.bH w'⟩ 12 (.bH w') A' h1 h2)) (dz m)) (J6 h h2 hvv bE @bk.eq_1 @aZ.v.eq_1) ?_<;>(unhygienic intros);refine⟨_,by simp [hq,AW.ab,aG];rfl,by first|(simp [aZ.v];done)|(simp [aZ.v,h];done),?_⟩;apply bf.bS
   (·exact sA)
   exact fP
   (·first|exact pP|exact kP)
   all_goals(first|exact 0|exact undef)
 have e:mF ⟨cf,aj,aF,aC,value,b7,am,reads,an,ay,set,bz,aB,ao,aP,aL,au,.bH w⟩ M w=(x,18,⟨cf,aj,aF,aC,value,b7,am,reads,an,ay,set,bz,aB,ao,aP,aL,au,.ey⟩,M'):=by
  unfold mF;rw [hr];dsimp only;rw [h2,hvr,aA rfl,aw h]
 rw [e];intro A F hw hS;refine aN Tryz.func123 λ_=>?_;dsimp only [aa,af] at hS;obtain⟨x0,hS⟩:=bf.open hS .z;(unhygienic cases x0);dsimp only [cr,iJ,cZ,eH,bD.fY,aa,af] at hS;have hq:=eV hS hw;revert hq hS hw;(repeat first|clear hq|clear hS|clear hw|revert hc|revert R|revert K);refine Wp (J3 (Tg.mk (n:=10) @wu) (Tg.mk (n:=30) (λA' h1 h2=>pL b ⟨cf,aj,aF,aC,value,b7,am,reads,an,ay,set,bz,aB,ao,aP,aL,au,.bH w'⟩ 12 (.bH w') A' h1 h2)) (dz m)) (J6 h h2 hvv bE @bk.eq_1 @aZ.v.eq_1) ?_<;>(unhygienic intros);refine⟨_,by simp [hq,AW.ab,aG];rfl,by first|(simp [aZ.v];done)|(simp [aZ.v,h];done),?_⟩;apply bf.bS
 (·exact sA)
 exact fP
 (·first|exact pP|exact kP)
 all_goals(first|exact 0|exact undef)
theorem C8 (b pb:Nat) (s:aJ)  (M:Mm) (hd:s.aH=.bK) (hC:gL s) (Xd:s.ao.length<2^20) (Tb:s.ao.length=0\/∃l,s.aP=some l/\s.ao.length=l.dT.length) :
 bn qa 121 [pv b,pv pb] [.h (bf b s),dN pb M] (λv=>v=.tuple #[(ff s M).1.v,.int .i64 (ff s M).2.1])
  (λ_=>[.h (bf b (ff s M).2.2.1),dN pb (ff s M).2.2.2]):=by
 (unhygienic cases s);dsimp only at hd;subst hd;dsimp only at Xd Tb;have bX:=hC.len;have hvl:=hC.bz.Nf;dsimp only at bX hvl;obtain⟨x,hx⟩:∃x,iA M 3 0=x:=⟨_,rfl⟩;have dz:=SN pb M 3 0;rw [hx] at dz;obtain⟨t0,t1⟩:=hC.cf.aB;dsimp only at t0 t1;have YA:IntKind.u64.wrap cf.aB=cf.aB:=ax (by omega) (by omega);cases h3:aJ.il ⟨cf,aj,aF,aC,value,b7,am,reads,an,ay,set,bz,aB,ao,aP,aL,au,.bK⟩
 . have h4:∀ck dc,aJ.il ⟨cf,aj,aF,aC,value,b7,dc,reads,an,ay,set,bz,ck,ao,aP,aL,au,.bK⟩=false:=λ_ _=>h3;have e:ff ⟨cf,aj,aF,aC,value,b7,am,reads,an,ay,set,bz,aB,ao,aP,aL,au,.bK⟩ M=(x,16,fJ ⟨cf,aj,aF,aC,value,b7,true,reads,an,ay,set,bz,x.fi,ao,aP,aL,au,.bK⟩,M):=by
    unfold ff;rw [hx,h3];simp
   rw [e];intro A F hw hS;refine aN Tryz.func121 λ_=>?_;dsimp only [aa,af] at hS;obtain⟨x0,hS⟩:=bf.open hS .z;(unhygienic cases x0);dsimp only [cr,iJ,cZ,eH,bD.fY,aa,af] at hS;have hq:=eV hS hw
   repeat' (first|(refine kY λR hR=>?_;simp [ar,ax,hq,h4,AW.ab,aG,bk,aZ.v];try simp (disch:=omega) only [aA,aw,ar,ax])|(refine hR _ _ ?_;clear hR R)|(refine hK _ _ ?_;clear hK K)|refine nx ?_|refine wn λK hK=>?_|simp only [wS,As,Ar]|refine wl qj As (by decide +kernel) λK hK=>?_|refine wl qj Ar (by decide +kernel) λK hK=>?_|(apply bn.ft (dz);(·exact wA);(·exact sA);(·first|exact pP|exact kP);rintro _ _ rfl hS hw _;have hS:=lA hS;have hq:=CH hS hw)|(apply CP (λA' h1 h2=>ld b ⟨cf,aj,aF,aC,value,b7,am,reads,an,ay,set,bz,x.fi,ao,aP,aL,au,.bK⟩ 8 .bK A' h1 h2);(·exact wA);(·exact sA);(·exact fP);all_goals(try (first|exact 0|exact undef)))|(apply CP (λA' h1 h2=>ld b ⟨cf,aj,aF,aC,value,b7,true,reads,an,ay,set,bz,x.fi,ao,aP,aL,au,.bK⟩ 8 .bK A' h1 h2);(·exact wA);(·exact sA);(·exact fP);all_goals(try (first|exact 0|exact undef)))|(apply bn.ki (uB b ⟨cf,aj,aF,aC,value,b7,true,reads,an,ay,set,bz,x.fi,ao,aP,aL,au,.bK⟩ 8 .bK Xd Tb);(·exact wA);(·exact sA);(·exact fP);(·first|exact pP|exact kP);(rintro _ _ _ hS hw _;have hS:=lA hS);(try (have hq:=CH hS hw));all_goals(try (first|exact 0|exact undef)))|(show c8 _ _ _ _ _ _;refine nx ?_)|(refine wc rfl (λhc=>?_) (λhc=>?_)<;>(try simp at hc)<;>(try omega)<;>(try (simp [h2] at hc;done))<;>(try (simp [h3] at hc;done))<;>(try (simp [h4] at hc;done)))|(refine ib (λhc=>?_) (λhc=>?_)<;>(try omega)<;>(try simp (disch:=omega) only [aA,aw])))
   refine⟨_,by simp [hq,AW.ab,aG];rfl,by first|(simp [aZ.v];done)|(simp [aZ.v,h];done),?_⟩;apply ah.bS
   (·exact sA)
   (·first|exact pP|exact kP)
 have h4:∀ck dc,aJ.il ⟨cf,aj,aF,aC,value,b7,dc,reads,an,ay,set,bz,ck,ao,aP,aL,au,.bK⟩=true:=λ_ _=>h3;by_cases h:cf.aB<=x.fi
 . have e:ff ⟨cf,aj,aF,aC,value,b7,am,reads,an,ay,set,bz,aB,ao,aP,aL,au,.bK⟩ M=(x,16,fJ ⟨cf,aj,aF,6,value,b7,am,reads,an,ay,set,bz,x.fi,ao,aP,aL,au,.bK⟩,M):=by
    unfold ff;rw [hx,h3,YA];simp [h]
   rw [e];intro A F hw hS;refine aN Tryz.func121 λ_=>?_;dsimp only [aa,af] at hS;obtain⟨x0,hS⟩:=bf.open hS .z;(unhygienic cases x0);dsimp only [cr,iJ,cZ,eH,bD.fY,aa,af] at hS;have hq:=eV hS hw;revert hq hS hw;(repeat first|clear hq|clear hS|clear hw|revert hc|revert R|revert K);refine Wp (J5 (Tg.mk (n:=30) (λA' h1 h2=>ld b ⟨cf,aj,aF,aC,value,b7,am,reads,an,ay,set,bz,x.fi,ao,aP,aL,au,.bK⟩ 8 .bK A' h1 h2)) (Tg.mk (n:=20) (uB b ⟨cf,aj,aF,6,value,b7,am,reads,an,ay,set,bz,x.fi,ao,aP,aL,au,.bK⟩ 8 .bK Xd Tb)) (od As) (od Ar) @dz) (J6 h h4 YA bE @bk.eq_1 @aZ.v.eq_1) ?_<;>(unhygienic intros);refine⟨_,by simp [hq,AW.ab,aG];rfl,by first|(simp [aZ.v];done)|(simp [aZ.v,h];done),?_⟩;apply ah.bS
   (·exact sA)
   (·first|exact pP|exact kP)
 have e:ff ⟨cf,aj,aF,aC,value,b7,am,reads,an,ay,set,bz,aB,ao,aP,aL,au,.bK⟩ M=(x,16,⟨cf,aj,aF,aC,value,b7,true,reads,an,ay,set,bz,x.fi,ao,aP,aL,au,.di ⟨bz.bL,bz.fq⟩⟩,M):=by
  unfold ff;rw [hx,h3,YA];simp [h]
 rw [e];intro A F hw hS;refine aN Tryz.func121 λ_=>?_;dsimp only [aa,af] at hS;obtain⟨x0,hS⟩:=bf.open hS .z;(unhygienic cases x0);dsimp only [cr,iJ,cZ,eH,bD.fY,aa,af] at hS;have hq:=eV hS hw
 repeat' (first|(refine kY λR hR=>?_;simp [ar,ax,hq,h,h4,YA,AW.ab,aG,bk,aZ.v];try simp (disch:=omega) only [aA,aw,ar,ax])|(refine hR _ _ ?_;clear hR R)|(refine hK _ _ ?_;clear hK K)|refine nx ?_|refine wn λK hK=>?_|simp only [wS,As,Ar]|refine wl qj As (by decide +kernel) λK hK=>?_|refine wl qj Ar (by decide +kernel) λK hK=>?_|(apply bn.ft (dz);(·exact wA);(·exact sA);(·first|exact pP|exact kP);rintro _ _ rfl hS hw _;have hS:=lA hS;have hq:=CH hS hw)|(apply CP (λA' h1 h2=>ld b ⟨cf,aj,aF,aC,value,b7,am,reads,an,ay,set,bz,x.fi,ao,aP,aL,au,.bK⟩ 8 .bK A' h1 h2);(·exact wA);(·exact sA);(·exact fP);all_goals(try (first|exact 0|exact undef)))|(apply CP (λA' h1 h2=>ld b ⟨cf,aj,aF,aC,value,b7,true,reads,an,ay,set,bz,x.fi,ao,aP,aL,au,.bK⟩ 8 .bK A' h1 h2);(·exact wA);(·exact sA);(·exact fP);all_goals(try (first|exact 0|exact undef)))|(apply uT;(·exact wA);(·exact sA);(·first|exact pP|exact kP);(·first|omega|(simp;omega)|(simp [hq];done));((first|rintro _ _ _ hS hw fO|rintro _ _ hS hw fO|rintro _ _ hS hw);(try refine⟨fO,?_⟩);(try dsimp only [AW.bd] at hS);have hq:=CH hS hw))|(apply Gz;(·exact wA);(·exact sA);(·first|exact pP|exact kP);(·first|omega|(simp;omega)|(simp [hq];done));((first|rintro _ _ _ hS hw fO|rintro _ _ hS hw fO|rintro _ _ hS hw);(try refine⟨fO,?_⟩);(try dsimp only [AW.bd] at hS);have hq:=CH hS hw))|(apply IF;(·exact wA);(·exact sA);(·first|exact pP|exact kP);(·first|exact pP|exact kP);(·first|omega|(simp;omega)|(simp [hq];done));(·first|omega|(simp;omega)|(simp [hq];done));((first|rintro _ _ _ hS hw fO|rintro _ _ hS hw fO|rintro _ _ hS hw);(try refine⟨fO,?_⟩);(try dsimp only [AW.bd] at hS);have hq:=CH hS hw))|(show c8 _ _ _ _ _ _;refine nx ?_)|(refine wc rfl (λhc=>?_) (λhc=>?_)<;>(try simp at hc)<;>(try omega)<;>(try (simp [h2] at hc;done))<;>(try (simp [h3] at hc;done))<;>(try (simp [h4] at hc;done)))|(refine ib (λhc=>?_) (λhc=>?_)<;>(try omega)<;>(try simp (disch:=omega) only [aA,aw])))
 refine⟨_,by simp [hq,AW.ab,aG];rfl,by first|(simp [aZ.v];done)|(simp [aZ.v,h];done),?_⟩;apply bf.bS
 (·exact sA)
 exact fP
 (·first|exact pP|exact kP)
 all_goals(first|exact 0|exact undef)
end
section
open T17 T13
variable [Gl]
theorem av.SD {A:AW} {F:HP} (kk:IntKind) (n:Nat) (h:bB A F) (hw:A.Wf):bB (A.alloc (.cells (fB [.int kk 0] n) true 1)) (av kk (.slice (some ⟨A.next,0,none⟩) n n) (qc n 0)*F):=by
 have bX:(fB [qp kk 0] n).length=n:=by simp [jE]
 have hcs:(qc n (0:Int)).map (qp kk)=fB [qp kk 0] n:=by
  clear bX
  induction n with
  | zero=>rfl
  | succ n ih=>rw [kap,List.map_cons,ih];rfl
 refine av.mk (by simp) (by simp) (by simp [bX]) ?_ (h.alloc hw _);rw [hcs,List.drop_zero,List.take_of_length_le (by simp [bX])]
theorem ah.SD {A:AW} {L:List It} (kk:IntKind) (n:Nat) (h:ah A L) (hw:A.Wf):ah (A.alloc (.cells (fB [.int kk 0] n) true 1)) (.h (av kk (.slice (some ⟨A.next,0,none⟩) n n) (qc n 0))::L):=av.SD kk n h hw
theorem D2 (b pb:Nat) (s:aJ) (w:je) (M:Mm) (hd:s.aH=.di w) (bX:w.os.length=w.ws.length) (Xd:s.ao.length<2^20) :
 bn qa 122 [pv b,pv pb] [.h (bf b s),dN pb M] (λv=>v=.tuple #[(gA s M w).1.v,.int .i64 (gA s M w).2.1])
  (λ_=>[.h (bf b (gA s M w).2.2.1),dN pb (gA s M w).2.2.2]):=by
 (unhygienic cases s);dsimp only at hd;subst hd;dsimp only at Xd;obtain⟨x,w',M',hr⟩:∃x e' M',kh w M=(x,e',M'):=⟨_,_,_,rfl⟩;have dz:=λn=>RA n pb w M bX;rw [hr] at dz;obtain⟨vr,hvr⟩:∃vr,aJ.nJ ⟨cf,aj,aF,aC,value,b7,am,reads,an,ay,set,bz,aB,ao,aP,aL,au,.di w⟩=vr:=⟨_,rfl⟩;have hvv:aJ.nJ ⟨cf,aj,aF,aC,value,b7,am,reads,an,ay,set,bz,aB,ao,aP,aL,au,.di w'⟩=vr:=hvr;cases h2:w'.done
 . have e:gA ⟨cf,aj,aF,aC,value,b7,am,reads,an,ay,set,bz,aB,ao,aP,aL,au,.di w⟩ M w=(x,17,⟨cf,aj,aF,aC,value,b7,am,reads,an,ay,set,bz,aB,ao,aP,aL,au,.di w'⟩,M'):=by
    unfold gA;rw [hr];dsimp only;rw [h2];simp
   rw [e];intro A F hw hS;refine aN Tryz.func122 λ_=>?_;dsimp only [aa,af] at hS;obtain⟨x0,hS⟩:=bf.open hS .z;(unhygienic cases x0);dsimp only [cr,iJ,cZ,eH,bD.fY,aa,af] at hS;have hq:=fZ hS hw;revert hq hS hw;clear hS;refine Wp (J2 (Tg.mk (n:=10) @DP) (dz m)) (J4 h2 bE @bk.eq_1 @aZ.v.eq_1) ?_<;>(unhygienic intros);refine⟨_,by simp [hq,AW.ab,aG];rfl,by first|(simp [aZ.v];done)|(simp [aZ.v,h];done),?_⟩;apply bf.bS
   (·exact sA)
   exact fP
   (·first|exact pP|exact kP)
   all_goals(first|exact 0|exact undef)
 have e:gA ⟨cf,aj,aF,aC,value,b7,am,reads,an,ay,set,bz,aB,ao,aP,aL,au,.di w⟩ M w=(x,17,⟨cf,aj,aF,aC,value,b7,am,reads,an,ay,set,bz,aB,ao,aP,aL,au,.bH ⟨ao,qc ao.length (kF vr)⟩⟩,M'):=by
  unfold gA;rw [hr];dsimp only;rw [h2,aA rfl,hvr]
 rw [e];intro A F hw hS;refine aN Tryz.func122 λ_=>?_;dsimp only [aa,af] at hS;obtain⟨x0,hS⟩:=bf.open hS .z;(unhygienic cases x0);dsimp only [cr,iJ,cZ,eH,bD.fY,aa,af] at hS;obtain⟨oo,co,rfl,_⟩:=(ah.tE hS (.s (.s (.s (.s (.s (.s (.s (.s (.s .z)))))))))).cy;have hq:=fZ hS hw;revert hq hS hw;(repeat first|clear hq|clear hS|clear hw|revert hc|revert R|revert K);refine Wp cF (J3 bE @bk.eq_1 @aZ.v.eq_1) ?_<;>(unhygienic intros);apply bn.ft (dz m)
 (·exact wA)
 (·exact sA)
 (·first|exact pP|exact kP)
 rintro _ A1 rfl hS hw _;have hS:=lA hS;have hq:=fZ hS hw;revert hq hS hw;(repeat first|clear hq|clear hS|clear hw|revert hc|revert R|revert K);refine Wp (J1 (Tg.mk (n:=10) @DP)) (J4 h2 bE @bk.eq_1 @aZ.v.eq_1) ?_<;>(unhygienic intros);obtain⟨n,hn⟩:∃n,ao.length=n:=⟨_,rfl⟩;have hinv:∀i,i<=n->qc i (kF vr)++qc (n-i) 0=(qc i (kF vr)++qc (n-i) (0:Int)):=λ_ _=>rfl
 refine ef (λk fr A'=>A'.Wf/\∃i:Nat,k=n-i/\i<=n/\fr 0=pv b/\fr 4=.pointer (some ⟨A.next,0,none⟩)/\fr 6=.pointer (some ⟨A1.next,0,none⟩)/\fr 7=.slice (some ⟨A1.next+1,0,none⟩) n n/\fr 29=.int .i64 n/\fr 30=.int .i64 i/\
  ah A' (.h (av .u64 (.slice (some ⟨A1.next+1,0,none⟩) n n) (qc i (kF vr)++qc (n-i) 0))::.at A1.next (.cells [.int .i64 x.fI,.int .i64 x.cell,.int .i64 x.cL,.int .u64 x.fi,.int .u64 x.put,.bool x.done] true 1)::.at A.next (.cells bk true 1)::.h (iH m w')::dN pb M'::(cr b ⟨cf,aj,aF,aC,value,b7,am,reads,an,ay,set,bz,aB,ao,aP,aL,au,.di w'⟩ 9 (.di w') ⟨eu,eS,bM,de,db,m,c0,c1,c2,dk,bx,bU,.slice oo ao.length co,eB,dl,fl,b6,bZ,bj,dm,dw,gQ,eC⟩++[.h F]))) n ?_ ?_
 refine⟨?_,0,by simp,by simp,by simp,by simp,by simp,by simp [hn],by simp [hn],by simp,?_⟩
 (·exact wA)
 simp only [List.replicate_zero,af,Nat.sub_zero];rw [<-hn];apply ah.bS;apply ah.SD
 (·exact sA)
 (·exact wA)
 (dsimp only [cr,iJ,cZ,eH,bD.fY,rE,mt,rZ,yR,my,mo,jc,rF,ru,yG,rx,aa,af])
 (·first|exact pP|exact kP)
 rintro k fr A' ⟨hw,i,rfl,hi,h0,h4',h6,h7,h29,h30,hS⟩;dsimp only [cr,iJ,cZ,eH,bD.fY,rE,mt,rZ,yR,my,mo,jc,rF,ru,yG,rx,aa,af] at hS;refine ba ?_;by_cases cD:i<n
 . have iC:(i:Int)<n:=(by omega);have gS:=By (i:=i);have hll:(qc i (kF vr)++qc (n-i) (0:Int)).length=n:=(by simp;omega);obtain⟨bv,Ve,cv,X2,hv,hbv,bV,j5,iY⟩:=ah.OI hS .z (j:=i) (by omega);rw [hll] at hv hbv;injection hv with Rg SS YE;injection Rg with Rg;injection Rg with Rg hv4 _;subst Rg;subst hv4;have rQ:=hS;have hS:=iY;have hq:=fZ hS hw;have NB:i<X2.length:=(by omega);simp only [Nat.zero_add] at bV j5;revert hq hS hw;(repeat first|clear hq|clear hS|clear hw|revert hc|revert R|revert K);refine Wp (J2 (Tg.mk (n:=30) (λA' h1 h2=>pL b ⟨cf,aj,aF,aC,value,b7,am,reads,an,ay,set,bz,aB,ao,aP,aL,au,.di w'⟩ 9 (.di w') A' h1 h2)) @MU) (mB h0 h4' h6 h7 h29 h30 hvv cD iC gS bV NB bE) ?_<;>(unhygienic intros);refine⟨n-(i+1),by omega,hw.set _ (ah.ltR hS hw .z (Nat.le_refl _)),i+1,rfl,by omega,by simp [h0],by simp [h4'],by simp [h6],by simp [h7],by simp [h29],by simp,?_⟩;have h9:=j5 (kF vr) _ _ (ah.gy hS .z)
   have e9:(qc i (kF vr)++qc (n-i) (0:Int)).set i (kF vr)=qc (i+1) (kF vr)++qc (n-(i+1)) 0:=by
    rw [List.set_append_right _ _ (by simp)];simp only [List.length_replicate,Nat.sub_self];rw [show n-i=(n-(i+1))+1 by omega,kap,List.set_cons_zero,List.replicate_succ',List.append_assoc];rfl
   rw [e9] at h9;exact h9
 have IV:i=n:=by omega
 subst IV;simp only [Nat.sub_self,List.replicate_zero,List.append_nil] at hS;have hq:=fZ hS hw;revert hq hS hw;(repeat first|clear hq|clear hS|clear hw|revert hc|revert R|revert K);refine Wp (J1 (Tg.mk (n:=12) @wz)) (J7 h0 h4' h6 h7 h29 h30 bE) ?_<;>(unhygienic intros);rw [show qc ao.length (kF vr)=qc i (kF vr) by rw [hn]];refine⟨_,by simp [hq,h4',AW.ab,aG];rfl,by simp [aZ.v,bk],?_⟩;apply bf.bS
 (·exact sA)
 exact fP
 (·first|exact pP|exact kP)
 all_goals(first|exact 0|exact undef)
end
section
abbrev sQ:List (Nat×Nat):=[(0,0),(1,0),(2,0),(3,0),(4,0),(5,0),(6,0),(7,0),(8,0),(9,0),(10,0),(11,0),(12,0),(13,0),(14,0),(15,0),(16,0),(17,0),(18,0),(19,0),(20,2),(21,0),(22,0)]
abbrev sP:List (Nat×Nat):=[(0,0),(1,0),(2,0),(3,0),(4,0),(5,0),(6,0),(7,0),(8,0),(9,0),(10,2),(11,3),(12,0),(13,0),(14,0),(15,3)]
abbrev sO:List (Nat×Nat):=[(0,0),(1,0),(2,0),(3,0),(4,0),(5,0),(6,0),(7,0),(8,0),(9,0),(10,0),(11,0),(12,0),(13,2),(14,3),(15,0)]
abbrev sN:List (Nat×Nat):=[(0,0),(1,0),(2,0),(3,0),(4,0),(5,0),(6,0),(7,0),(8,0),(9,2),(10,3)]
open T20 T13
variable [Gl]
set_option maxHeartbeats 16000000 in
theorem D3 (b pb:Nat) (s:aJ) (c:iI) (M:Mm) (hd:s.aH=.bh c .take) (hC:gL s) (hrl:s.reads.length+1<2^20) (hca:0<=c.bW/\c.bW<=2) (se:c.ig=gw s.cf c.dJ) :
 bn qa 116 [pv b,pv pb] [.h (bf b s),dN pb M] (λv=>v=.tuple #[(du s M c .take).1.v,.int .i64 (du s M c .take).2.1])
  (λ_=>[.h (bf b (du s M c .take).2.2.1),dN pb (du s M c .take).2.2.2]):=by
 (unhygienic cases s);dsimp only at hd;subst hd
 skip
 dsimp only at se hrl;obtain⟨hr0,O5⟩:=hC.cf.reads;have j5:=hC.set;dsimp only at hr0 O5 j5;have xN:cf.reads.toNat<=32:=by omega
 obtain⟨x,c',M',hr⟩:∃x e' M',dC c M=(x,e',M'):=⟨_,_,_,rfl⟩;have dz:=λn=>yd n pb c M;rw [hr] at dz;have CG:qg.wrap (5+c.bW)=5+c.bW:=ar (by omega) (by omega);have jx:qg.wrap (c.bW+1)=c.bW+1:=ar (by omega) (by omega);have xT:¬c'.bW=3->c'.bW=c.bW+1:=by
  intro hn;have Rh:(dC c M).2.1=c':=by rw [hr]
  rcases rD c M with ⟨h,e⟩|⟨h,e⟩|⟨h,e⟩|⟨h,e⟩|⟨h,e⟩|⟨h,e⟩<;>(rw [e] at Rh;subst Rh;dsimp only at hn ⊢;try omega)
 have BY:c'.dJ=c.dJ:=by
  have Rh:(dC c M).2.1=c':=by rw [hr]
  rcases rD c M with ⟨h,e⟩|⟨h,e⟩|⟨h,e⟩|⟨h,e⟩|⟨h,e⟩|⟨h,e⟩<;>(rw [e] at Rh;subst Rh;rfl)
 have nT:=xn cf hC.cf c.dJ;dsimp only [br.v] at nT;cases h2:c'.done
 . have h3:¬c'.bW=3:=by simpa [iI.done] using h2
   have e:du ⟨cf,aj,aF,aC,value,b7,am,reads,an,ay,set,bz,aB,ao,aP,aL,au,.bh c .take⟩ M c .take=(x,5+c.bW,⟨cf,aj,aF,aC,value,b7,am,reads,an,ay,set,bz,aB,ao,aP,aL,au,.bh c' .take⟩,M'):=by
    unfold du;rw [hr];dsimp only;rw [h2];simp
   rw [e];intro A F hw hS;refine aN Zk λ_=>?_;dsimp only [aa,af] at hS;obtain⟨x0,hS⟩:=bf.open hS .z;(unhygienic cases x0);dsimp only [cr,iJ,cZ,eH,bD.fY,aa,af] at hS;have hq:=fZ hS hw;revert hq hS hw;clear hS;refine Wu (J7 (Tg.mk (n:=10) @eY) (od sQ) (od sP) (od sO) (od sN) (dz m) (⟨⟩:Ts (λA'=>A'.bp b=some (.cells [pv eu,pv eS,dk,bx,bU,oc b7 bM,pv m,.int .i64 c.bW,fl,jK aP de,iQ aL db,b6,bZ,bj,dm,.int .i64 cf.be,.int .i64 cf.ao,.int .i64 cf.base,.int .i64 cf.c0,.int .i64 cf.c1,.int .i64 cf.c2,.int .i64 cf.c3,.int .i64 cf.reads,.int .i64 cf.bP,.int .i64 cf.an,.int .i64 cf.ay,.int .i64 cf.aB,.bool cf.aW,.int .i64 aj,.int .i64 aF,.int .i64 aC,.int .i64 3,dw,.func (.func 141) #[] #[pv c0],.int .i64 c.dJ,.int .u64 value,b5,.int .u64 aB,.bool am,.int .i64 au] true 1)) [0,0,0,0,0,0,3,0,0,0,0,1,0,2,3,0] (.aK 0 (.aK 1 (.aK 2 (.aK 3 (.aK 4 (.aK 5 (.aK 7 (.aK 8 (.aK 9 (.aK 10 (.aK 11 (.aK 12 (.tC 6 (.aK 13 (.aK 14 (.aK 15 .nil))) 13 (.aK 6 (.aK 14 (.aK 15 .nil)))))))))))))))))) (J6 h2 CG jx bE @bk.eq_1 @aZ.v.eq_1) (J2 ?_ ?_)<;>(unhygienic intros)
   all_goals(have h:c'.bW=c.bW+1/\c'.dJ=c.dJ:=⟨xT h3,BY⟩)
   all_goals(
    refine⟨_,by simp [hq,AW.ab,aG];rfl,by simp [aZ.v],?_⟩;apply bf.bS
    (·exact sA)
    exact fP
    (·first|exact pP|exact kP)
    all_goals(first|exact 0|exact undef))
 cases h4:c'.iu
 . by_cases h5:c.dJ<cf.be
   . by_cases h6:c.dJ∈reads
     . have h7:(if c.dJ<cf.be/\¬c.dJ∈reads then (⟨cf,aj,aF,aC,value,b7,am,reads++[c.dJ],an,ay,set,bz,aB,ao,aP,aL,au,.bh c' .take⟩:aJ) else ⟨cf,aj,aF,aC,value,b7,am,reads,an,ay,set,bz,aB,ao,aP,aL,au,.bh c' .take⟩)=⟨cf,aj,aF,aC,value,b7,am,reads,an,ay,set,bz,aB,ao,aP,aL,au,.bh c' .take⟩:=aw (λh=>h.2 h6);obtain⟨q,l2,tZ⟩:∃q l2,eg cf.reads.toNat set c.ig=(q,l2):=⟨_,_,rfl⟩;have iK:=λn=>mE n cf.reads.toNat set (gw cf c.dJ) j5 xN;rw [<-se,tZ] at iK;dsimp only at iK;have JN:l2.length<=cf.reads.toNat:=by
        have h9:(eg cf.reads.toNat set c.ig).2=l2:=(by rw [tZ]);rw [<-h9];unfold eg;split;exact j5;split;exact j5;simp;omega
       have GL:q=false->l2=set:=by
        intro EN;have h9:(eg cf.reads.toNat set c.ig).2=l2:=(by rw [tZ]);have h8:(eg cf.reads.toNat set c.ig).1=q:=(by rw [tZ]);rw [<-h9];rw [EN] at h8;unfold eg at h8 ⊢;split;rfl;split;rfl;rename_i g1 g2;rw [aw g1,aw g2] at h8;cases h8
       cases q
       . have Ti:=GL rfl;subst l2;have e:du ⟨cf,aj,aF,aC,value,b7,am,reads,an,ay,set,bz,aB,ao,aP,aL,au,.bh c .take⟩ M c .take=(x,5+c.bW,jQ ⟨cf,aj,aF,aC,value,b7,am,reads,an,ay,set,bz,aB,ao,aP,aL,au,.bh c' .take⟩ 3,M'):=by
          unfold du;rw [hr];dsimp only;rw [h2,h4,tZ,h7];rfl
         rw [e];intro A F hw hS;refine aN Zk λ_=>?_;dsimp only [aa,af] at hS;obtain⟨x0,hS⟩:=bf.open hS .z;(unhygienic cases x0);dsimp only [cr,iJ,cZ,eH,bD.fY,aa,af] at hS;have hq:=fZ hS hw;rw [se] at iK;revert hq hS hw;(repeat first|clear hq|clear hS|clear hw|revert hc|revert R|revert K);refine Wu (xe (Tg.mk (n:=10) @eY) (Tg.mk (n:=10) @dV) (Tg.mk (n:=14) @gC) (Tg.mk (n:=20) (js b ⟨cf,aj,aF,aC,value,b7,am,reads,an,ay,set,bz,aB,ao,aP,aL,au,.bh c' .take⟩ 3 3 .bF hC.cf hC.al hC.push (Zw hC.nC (by decide)))) (od sQ) (od sP) (od sO) (od sN) @nT (dz m) (iK eu) (⟨⟩:Ts (λA'=>A'.bp b=some (.cells [pv eu,pv eS,dk,bx,bU,oc b7 bM,pv m,.int .i64 c.bW,fl,jK aP de,iQ aL db,b6,bZ,bj,dm,.int .i64 cf.be,.int .i64 cf.ao,.int .i64 cf.base,.int .i64 cf.c0,.int .i64 cf.c1,.int .i64 cf.c2,.int .i64 cf.c3,.int .i64 cf.reads,.int .i64 cf.bP,.int .i64 cf.an,.int .i64 cf.ay,.int .i64 cf.aB,.bool cf.aW,.int .i64 aj,.int .i64 aF,.int .i64 aC,.int .i64 3,dw,.func (.func 141) #[] #[pv c0],.int .i64 c.dJ,.int .u64 value,b5,.int .u64 aB,.bool am,.int .i64 au] true 1)) [0,0,0,0,0,0,3,0,0,0,0,1,0,2,3,0] (.aK 0 (.aK 1 (.aK 2 (.aK 3 (.aK 4 (.aK 5 (.aK 7 (.aK 8 (.aK 9 (.aK 10 (.aK 11 (.aK 12 (.tC 6 (.aK 13 (.aK 14 (.aK 15 .nil))) 13 (.aK 6 (.aK 14 (.aK 15 .nil)))))))))))))))))) (J9 h2 h4 h5 h6 CG jx bE @bk.eq_1 @aZ.v.eq_1) (J2 ?_ ?_)<;>(unhygienic intros)
         all_goals(
          refine⟨_,by simp [hq,AW.ab,aG];rfl,by simp [aZ.v],?_⟩;apply ah.bS
          (·exact sA)
          (·first|exact pP|exact kP))
       have e:du ⟨cf,aj,aF,aC,value,b7,am,reads,an,ay,set,bz,aB,ao,aP,aL,au,.bh c .take⟩ M c .take=(x,5+c.bW,zW ⟨cf,aj,aF,aC,value,b7,am,reads,an,ay,l2,bz,aB,ao,aP,aL,au,.bF⟩ c'.val .take,M'):=by
        unfold du;rw [hr];dsimp only;rw [h2,h4,tZ,h7];rfl
       rw [e];intro A F hw hS;refine aN Zk λ_=>?_;dsimp only [aa,af] at hS;obtain⟨x0,hS⟩:=bf.open hS .z;(unhygienic cases x0);dsimp only [cr,iJ,cZ,eH,bD.fY,aa,af] at hS;have hq:=fZ hS hw;rw [se] at iK;revert hq hS hw;(repeat first|clear hq|clear hS|clear hw|revert hc|revert R|revert K);refine Wu (mB (Tg.mk (n:=10) @eY) (Tg.mk (n:=10) @dV) (Tg.mk (n:=14) @gC) (Tg.mk (n:=10) @kG) (Tg.mk (n:=21) (pM b c0 ⟨cf,aj,aF,aC,value,b7,am,reads,an,ay,l2,bz,aB,ao,aP,aL,au,.bF⟩ c'.val rfl)) (od sQ) (od sP) (od sO) (od sN) @nT (dz m) (iK eu) (⟨⟩:Ts (λA'=>A'.bp b=some (.cells [pv eu,pv eS,dk,bx,bU,oc b7 bM,pv m,.int .i64 c.bW,fl,jK aP de,iQ aL db,b6,bZ,bj,dm,.int .i64 cf.be,.int .i64 cf.ao,.int .i64 cf.base,.int .i64 cf.c0,.int .i64 cf.c1,.int .i64 cf.c2,.int .i64 cf.c3,.int .i64 cf.reads,.int .i64 cf.bP,.int .i64 cf.an,.int .i64 cf.ay,.int .i64 cf.aB,.bool cf.aW,.int .i64 aj,.int .i64 aF,.int .i64 aC,.int .i64 3,dw,.func (.func 141) #[] #[pv c0],.int .i64 c.dJ,.int .u64 value,b5,.int .u64 aB,.bool am,.int .i64 au] true 1)) [0,0,0,0,0,0,3,0,0,0,0,1,0,2,3,0] (.aK 0 (.aK 1 (.aK 2 (.aK 3 (.aK 4 (.aK 5 (.aK 7 (.aK 8 (.aK 9 (.aK 10 (.aK 11 (.aK 12 (.tC 6 (.aK 13 (.aK 14 (.aK 15 .nil))) 13 (.aK 6 (.aK 14 (.aK 15 .nil)))))))))))))))))) (J9 h2 h4 h5 h6 CG jx bE @bk.eq_1 @aZ.v.eq_1) (J2 ?_ ?_)<;>(unhygienic intros)
       all_goals(
        refine⟨_,by simp [hq,AW.ab,aG];rfl,by simp [aZ.v],?_⟩;apply ah.bS
        (·exact sA)
        (·first|exact pP|exact kP))
     have h7:(if c.dJ<cf.be/\¬c.dJ∈reads then (⟨cf,aj,aF,aC,value,b7,am,reads++[c.dJ],an,ay,set,bz,aB,ao,aP,aL,au,.bh c' .take⟩:aJ) else ⟨cf,aj,aF,aC,value,b7,am,reads,an,ay,set,bz,aB,ao,aP,aL,au,.bh c' .take⟩)=⟨cf,aj,aF,aC,value,b7,am,reads++[c.dJ],an,ay,set,bz,aB,ao,aP,aL,au,.bh c' .take⟩:=aA ⟨h5,h6⟩;obtain⟨q,l2,tZ⟩:∃q l2,eg cf.reads.toNat set c.ig=(q,l2):=⟨_,_,rfl⟩;have iK:=λn=>mE n cf.reads.toNat set (gw cf c.dJ) j5 xN;rw [<-se,tZ] at iK;dsimp only at iK;have JN:l2.length<=cf.reads.toNat:=by
      have h9:(eg cf.reads.toNat set c.ig).2=l2:=(by rw [tZ]);rw [<-h9];unfold eg;split;exact j5;split;exact j5;simp;omega
     have GL:q=false->l2=set:=by
      intro EN;have h9:(eg cf.reads.toNat set c.ig).2=l2:=(by rw [tZ]);have h8:(eg cf.reads.toNat set c.ig).1=q:=(by rw [tZ]);rw [<-h9];rw [EN] at h8;unfold eg at h8 ⊢;split;rfl;split;rfl;rename_i g1 g2;rw [aw g1,aw g2] at h8;cases h8
     cases q
     . have Ti:=GL rfl;subst l2;have e:du ⟨cf,aj,aF,aC,value,b7,am,reads,an,ay,set,bz,aB,ao,aP,aL,au,.bh c .take⟩ M c .take=(x,5+c.bW,jQ ⟨cf,aj,aF,aC,value,b7,am,reads++[c.dJ],an,ay,set,bz,aB,ao,aP,aL,au,.bh c' .take⟩ 3,M'):=by
        unfold du;rw [hr];dsimp only;rw [h2,h4,tZ,h7];rfl
       rw [e];intro A F hw hS;refine aN Zk λ_=>?_;dsimp only [aa,af] at hS;obtain⟨x0,hS⟩:=bf.open hS .z;(unhygienic cases x0);dsimp only [cr,iJ,cZ,eH,bD.fY,aa,af] at hS;have hq:=fZ hS hw;rw [se] at iK;revert hq hS hw;(repeat first|clear hq|clear hS|clear hw|revert hc|revert R|revert K);refine Wu (xe (Tg.mk (n:=10) @eY) (Tg.mk (n:=10) @dV) (Tg.mk (n:=14) @gC) (Tg.mk (n:=20) (js b ⟨cf,aj,aF,aC,value,b7,am,reads++[c.dJ],an,ay,set,bz,aB,ao,aP,aL,au,.bh c' .take⟩ 3 3 .bF hC.cf hC.al hC.push (Zw hC.nC (by decide)))) (od sQ) (od sP) (od sO) (od sN) @nT (dz m) (iK eu) (⟨⟩:Ts (λA'=>A'.bp b=some (.cells [pv eu,pv eS,dk,bx,bU,oc b7 bM,pv m,.int .i64 c.bW,fl,jK aP de,iQ aL db,b6,bZ,bj,dm,.int .i64 cf.be,.int .i64 cf.ao,.int .i64 cf.base,.int .i64 cf.c0,.int .i64 cf.c1,.int .i64 cf.c2,.int .i64 cf.c3,.int .i64 cf.reads,.int .i64 cf.bP,.int .i64 cf.an,.int .i64 cf.ay,.int .i64 cf.aB,.bool cf.aW,.int .i64 aj,.int .i64 aF,.int .i64 aC,.int .i64 3,dw,.func (.func 141) #[] #[pv c0],.int .i64 c.dJ,.int .u64 value,b5,.int .u64 aB,.bool am,.int .i64 au] true 1)) [0,0,0,0,0,0,3,0,0,0,0,1,0,2,3,0] (.aK 0 (.aK 1 (.aK 2 (.aK 3 (.aK 4 (.aK 5 (.aK 7 (.aK 8 (.aK 9 (.aK 10 (.aK 11 (.aK 12 (.tC 6 (.aK 13 (.aK 14 (.aK 15 .nil))) 13 (.aK 6 (.aK 14 (.aK 15 .nil)))))))))))))))))) (J9 h2 h4 h5 h6 CG jx bE @bk.eq_1 @aZ.v.eq_1) (J2 ?_ ?_)<;>(unhygienic intros)
       all_goals(
        refine⟨_,by simp [hq,AW.ab,aG];rfl,by simp [aZ.v],?_⟩;apply ah.bS
        (·exact sA)
        (·first|exact pP|exact kP))
     have e:du ⟨cf,aj,aF,aC,value,b7,am,reads,an,ay,set,bz,aB,ao,aP,aL,au,.bh c .take⟩ M c .take=(x,5+c.bW,zW ⟨cf,aj,aF,aC,value,b7,am,reads++[c.dJ],an,ay,l2,bz,aB,ao,aP,aL,au,.bF⟩ c'.val .take,M'):=by
      unfold du;rw [hr];dsimp only;rw [h2,h4,tZ,h7];rfl
     rw [e];intro A F hw hS;refine aN Zk λ_=>?_;dsimp only [aa,af] at hS;obtain⟨x0,hS⟩:=bf.open hS .z;(unhygienic cases x0);dsimp only [cr,iJ,cZ,eH,bD.fY,aa,af] at hS;have hq:=fZ hS hw;rw [se] at iK;revert hq hS hw;(repeat first|clear hq|clear hS|clear hw|revert hc|revert R|revert K);refine Wu (mB (Tg.mk (n:=10) @eY) (Tg.mk (n:=10) @dV) (Tg.mk (n:=14) @gC) (Tg.mk (n:=10) @kG) (Tg.mk (n:=21) (pM b c0 ⟨cf,aj,aF,aC,value,b7,am,reads++[c.dJ],an,ay,l2,bz,aB,ao,aP,aL,au,.bF⟩ c'.val rfl)) (od sQ) (od sP) (od sO) (od sN) @nT (dz m) (iK eu) (⟨⟩:Ts (λA'=>A'.bp b=some (.cells [pv eu,pv eS,dk,bx,bU,oc b7 bM,pv m,.int .i64 c.bW,fl,jK aP de,iQ aL db,b6,bZ,bj,dm,.int .i64 cf.be,.int .i64 cf.ao,.int .i64 cf.base,.int .i64 cf.c0,.int .i64 cf.c1,.int .i64 cf.c2,.int .i64 cf.c3,.int .i64 cf.reads,.int .i64 cf.bP,.int .i64 cf.an,.int .i64 cf.ay,.int .i64 cf.aB,.bool cf.aW,.int .i64 aj,.int .i64 aF,.int .i64 aC,.int .i64 3,dw,.func (.func 141) #[] #[pv c0],.int .i64 c.dJ,.int .u64 value,b5,.int .u64 aB,.bool am,.int .i64 au] true 1)) [0,0,0,0,0,0,3,0,0,0,0,1,0,2,3,0] (.aK 0 (.aK 1 (.aK 2 (.aK 3 (.aK 4 (.aK 5 (.aK 7 (.aK 8 (.aK 9 (.aK 10 (.aK 11 (.aK 12 (.tC 6 (.aK 13 (.aK 14 (.aK 15 .nil))) 13 (.aK 6 (.aK 14 (.aK 15 .nil)))))))))))))))))) (J9 h2 h4 h5 h6 CG jx bE @bk.eq_1 @aZ.v.eq_1) (J2 ?_ ?_)<;>(unhygienic intros)
     all_goals(
      refine⟨_,by simp [hq,AW.ab,aG];rfl,by simp [aZ.v],?_⟩;apply ah.bS
      (·exact sA)
      (·first|exact pP|exact kP))
   have h6:True:=trivial;have h7:(if c.dJ<cf.be/\¬c.dJ∈reads then (⟨cf,aj,aF,aC,value,b7,am,reads++[c.dJ],an,ay,set,bz,aB,ao,aP,aL,au,.bh c' .take⟩:aJ) else ⟨cf,aj,aF,aC,value,b7,am,reads,an,ay,set,bz,aB,ao,aP,aL,au,.bh c' .take⟩)=⟨cf,aj,aF,aC,value,b7,am,reads,an,ay,set,bz,aB,ao,aP,aL,au,.bh c' .take⟩:=aw (λh=>h5 h.1);obtain⟨q,l2,tZ⟩:∃q l2,eg cf.reads.toNat set c.ig=(q,l2):=⟨_,_,rfl⟩;have iK:=λn=>mE n cf.reads.toNat set (gw cf c.dJ) j5 xN;rw [<-se,tZ] at iK;dsimp only at iK;have JN:l2.length<=cf.reads.toNat:=by
    have h9:(eg cf.reads.toNat set c.ig).2=l2:=(by rw [tZ]);rw [<-h9];unfold eg;split;exact j5;split;exact j5;simp;omega
   have GL:q=false->l2=set:=by
    intro EN;have h9:(eg cf.reads.toNat set c.ig).2=l2:=(by rw [tZ]);have h8:(eg cf.reads.toNat set c.ig).1=q:=(by rw [tZ]);rw [<-h9];rw [EN] at h8;unfold eg at h8 ⊢;split;rfl;split;rfl;rename_i g1 g2;rw [aw g1,aw g2] at h8;cases h8
   cases q
   . have Ti:=GL rfl;subst l2;have e:du ⟨cf,aj,aF,aC,value,b7,am,reads,an,ay,set,bz,aB,ao,aP,aL,au,.bh c .take⟩ M c .take=(x,5+c.bW,jQ ⟨cf,aj,aF,aC,value,b7,am,reads,an,ay,set,bz,aB,ao,aP,aL,au,.bh c' .take⟩ 3,M'):=by
      unfold du;rw [hr];dsimp only;rw [h2,h4,tZ,h7];rfl
     rw [e];intro A F hw hS;refine aN Zk λ_=>?_;dsimp only [aa,af] at hS;obtain⟨x0,hS⟩:=bf.open hS .z;(unhygienic cases x0);dsimp only [cr,iJ,cZ,eH,bD.fY,aa,af] at hS;have hq:=fZ hS hw;rw [se] at iK;revert hq hS hw;(repeat first|clear hq|clear hS|clear hw|revert hc|revert R|revert K);refine Wu (xe (Tg.mk (n:=10) @eY) (Tg.mk (n:=10) @dV) (Tg.mk (n:=14) @gC) (Tg.mk (n:=20) (js b ⟨cf,aj,aF,aC,value,b7,am,reads,an,ay,set,bz,aB,ao,aP,aL,au,.bh c' .take⟩ 3 3 .bF hC.cf hC.al hC.push (Zw hC.nC (by decide)))) (od sQ) (od sP) (od sO) (od sN) @nT (dz m) (iK eu) (⟨⟩:Ts (λA'=>A'.bp b=some (.cells [pv eu,pv eS,dk,bx,bU,oc b7 bM,pv m,.int .i64 c.bW,fl,jK aP de,iQ aL db,b6,bZ,bj,dm,.int .i64 cf.be,.int .i64 cf.ao,.int .i64 cf.base,.int .i64 cf.c0,.int .i64 cf.c1,.int .i64 cf.c2,.int .i64 cf.c3,.int .i64 cf.reads,.int .i64 cf.bP,.int .i64 cf.an,.int .i64 cf.ay,.int .i64 cf.aB,.bool cf.aW,.int .i64 aj,.int .i64 aF,.int .i64 aC,.int .i64 3,dw,.func (.func 141) #[] #[pv c0],.int .i64 c.dJ,.int .u64 value,b5,.int .u64 aB,.bool am,.int .i64 au] true 1)) [0,0,0,0,0,0,3,0,0,0,0,1,0,2,3,0] (.aK 0 (.aK 1 (.aK 2 (.aK 3 (.aK 4 (.aK 5 (.aK 7 (.aK 8 (.aK 9 (.aK 10 (.aK 11 (.aK 12 (.tC 6 (.aK 13 (.aK 14 (.aK 15 .nil))) 13 (.aK 6 (.aK 14 (.aK 15 .nil)))))))))))))))))) (J9 h2 h4 h5 h6 CG jx bE @bk.eq_1 @aZ.v.eq_1) (J2 ?_ ?_)<;>(unhygienic intros)
     all_goals(
      refine⟨_,by simp [hq,AW.ab,aG];rfl,by simp [aZ.v],?_⟩;apply ah.bS
      (·exact sA)
      (·first|exact pP|exact kP))
   have e:du ⟨cf,aj,aF,aC,value,b7,am,reads,an,ay,set,bz,aB,ao,aP,aL,au,.bh c .take⟩ M c .take=(x,5+c.bW,zW ⟨cf,aj,aF,aC,value,b7,am,reads,an,ay,l2,bz,aB,ao,aP,aL,au,.bF⟩ c'.val .take,M'):=by
    unfold du;rw [hr];dsimp only;rw [h2,h4,tZ,h7];rfl
   rw [e];intro A F hw hS;refine aN Zk λ_=>?_;dsimp only [aa,af] at hS;obtain⟨x0,hS⟩:=bf.open hS .z;(unhygienic cases x0);dsimp only [cr,iJ,cZ,eH,bD.fY,aa,af] at hS;have hq:=fZ hS hw;rw [se] at iK;revert hq hS hw;(repeat first|clear hq|clear hS|clear hw|revert hc|revert R|revert K);refine Wu (mB (Tg.mk (n:=10) @eY) (Tg.mk (n:=10) @dV) (Tg.mk (n:=14) @gC) (Tg.mk (n:=10) @kG) (Tg.mk (n:=21) (pM b c0 ⟨cf,aj,aF,aC,value,b7,am,reads,an,ay,l2,bz,aB,ao,aP,aL,au,.bF⟩ c'.val rfl)) (od sQ) (od sP) (od sO) (od sN) @nT (dz m) (iK eu) (⟨⟩:Ts (λA'=>A'.bp b=some (.cells [pv eu,pv eS,dk,bx,bU,oc b7 bM,pv m,.int .i64 c.bW,fl,jK aP de,iQ aL db,b6,bZ,bj,dm,.int .i64 cf.be,.int .i64 cf.ao,.int .i64 cf.base,.int .i64 cf.c0,.int .i64 cf.c1,.int .i64 cf.c2,.int .i64 cf.c3,.int .i64 cf.reads,.int .i64 cf.bP,.int .i64 cf.an,.int .i64 cf.ay,.int .i64 cf.aB,.bool cf.aW,.int .i64 aj,.int .i64 aF,.int .i64 aC,.int .i64 3,dw,.func (.func 141) #[] #[pv c0],.int .i64 c.dJ,.int .u64 value,b5,.int .u64 aB,.bool am,.int .i64 au] true 1)) [0,0,0,0,0,0,3,0,0,0,0,1,0,2,3,0] (.aK 0 (.aK 1 (.aK 2 (.aK 3 (.aK 4 (.aK 5 (.aK 7 (.aK 8 (.aK 9 (.aK 10 (.aK 11 (.aK 12 (.tC 6 (.aK 13 (.aK 14 (.aK 15 .nil))) 13 (.aK 6 (.aK 14 (.aK 15 .nil)))))))))))))))))) (J9 h2 h4 h5 h6 CG jx bE @bk.eq_1 @aZ.v.eq_1) (J2 ?_ ?_)<;>(unhygienic intros)
   all_goals(
    refine⟨_,by simp [hq,AW.ab,aG];rfl,by simp [aZ.v],?_⟩;apply ah.bS
    (·exact sA)
    (·first|exact pP|exact kP))
 have e:du ⟨cf,aj,aF,aC,value,b7,am,reads,an,ay,set,bz,aB,ao,aP,aL,au,.bh c .take⟩ M c .take=(x,5+c.bW,jQ ⟨cf,aj,aF,aC,value,b7,am,reads,an,ay,set,bz,aB,ao,aP,aL,au,.bh c' .take⟩ 9,M'):=by
  unfold du;rw [hr];dsimp only;rw [h2,h4];simp
 rw [e];intro A F hw hS;refine aN Zk λ_=>?_;dsimp only [aa,af] at hS;obtain⟨x0,hS⟩:=bf.open hS .z;(unhygienic cases x0);dsimp only [cr,iJ,cZ,eH,bD.fY,aa,af] at hS;have hq:=fZ hS hw;revert hq hS hw;(repeat first|clear hq|clear hS|clear hw|revert hc|revert R|revert K);refine Wu (J9 (Tg.mk (n:=10) @eY) (Tg.mk (n:=10) @dV) (Tg.mk (n:=20) (js b ⟨cf,aj,aF,aC,value,b7,am,reads,an,ay,set,bz,aB,ao,aP,aL,au,.bh c' .take⟩ 3 9 .bF hC.cf hC.al hC.push (Zw hC.nC (by decide)))) (od sQ) (od sP) (od sO) (od sN) (dz m) (⟨⟩:Ts (λA'=>A'.bp b=some (.cells [pv eu,pv eS,dk,bx,bU,oc b7 bM,pv m,.int .i64 c.bW,fl,jK aP de,iQ aL db,b6,bZ,bj,dm,.int .i64 cf.be,.int .i64 cf.ao,.int .i64 cf.base,.int .i64 cf.c0,.int .i64 cf.c1,.int .i64 cf.c2,.int .i64 cf.c3,.int .i64 cf.reads,.int .i64 cf.bP,.int .i64 cf.an,.int .i64 cf.ay,.int .i64 cf.aB,.bool cf.aW,.int .i64 aj,.int .i64 aF,.int .i64 aC,.int .i64 3,dw,.func (.func 141) #[] #[pv c0],.int .i64 c.dJ,.int .u64 value,b5,.int .u64 aB,.bool am,.int .i64 au] true 1)) [0,0,0,0,0,0,3,0,0,0,0,1,0,2,3,0] (.aK 0 (.aK 1 (.aK 2 (.aK 3 (.aK 4 (.aK 5 (.aK 7 (.aK 8 (.aK 9 (.aK 10 (.aK 11 (.aK 12 (.tC 6 (.aK 13 (.aK 14 (.aK 15 .nil))) 13 (.aK 6 (.aK 14 (.aK 15 .nil)))))))))))))))))) (J7 h2 h4 CG jx bE @bk.eq_1 @aZ.v.eq_1) (J2 ?_ ?_)<;>(unhygienic intros)
 all_goals(
  refine⟨_,by simp [hq,AW.ab,aG];rfl,by simp [aZ.v],?_⟩;apply ah.bS
  (·exact sA)
  (·first|exact pP|exact kP))
end
section
abbrev sM:List (Nat×Nat):=[(0,0),(1,0),(2,0),(3,0),(4,0),(5,0),(6,0),(7,0),(8,0),(9,0),(10,0),(11,0),(12,0),(13,0),(14,0),(15,0),(16,0),(17,0),(18,0),(19,0),(20,2),(21,0),(22,0)]
abbrev sL:List (Nat×Nat):=[(0,0),(1,0),(2,0),(3,0),(4,0),(5,0),(6,0),(7,0),(8,0),(9,0),(10,2),(11,3),(12,0),(13,0),(14,0),(15,3)]
abbrev sK:List (Nat×Nat):=[(0,0),(1,0),(2,0),(3,0),(4,0),(5,0),(6,0),(7,0),(8,0),(9,0),(10,0),(11,0),(12,0),(13,2),(14,3),(15,0)]
abbrev sJ:List (Nat×Nat):=[(0,0),(1,0),(2,0),(3,0),(4,0),(5,0),(6,0),(7,0),(8,0),(9,2),(10,3)]
open T20 T13
variable [Gl]
set_option maxHeartbeats 16000000 in
theorem D4 (b pb:Nat) (s:aJ) (c:iI) (kb:Int) (M:Mm) (hd:s.aH=.bh c (.dg kb)) (hC:gL s) (hrl:s.reads.length+1<2^20) (hca:0<=c.bW/\c.bW<=2) (se:c.ig=gw s.cf c.dJ) (hkb:0<=kb/\kb<s.cf.nb) :
 bn qa 116 [pv b,pv pb] [.h (bf b s),dN pb M] (λv=>v=.tuple #[(du s M c (.dg kb)).1.v,.int .i64 (du s M c (.dg kb)).2.1])
  (λ_=>[.h (bf b (du s M c (.dg kb)).2.2.1),dN pb (du s M c (.dg kb)).2.2.2]):=by
 (unhygienic cases s);dsimp only at hd;subst hd;dsimp only at hkb;dsimp only at se hrl;obtain⟨hr0,O5⟩:=hC.cf.reads;have j5:=hC.set;dsimp only at hr0 O5 j5;have xN:cf.reads.toNat<=32:=by omega
 obtain⟨x,c',M',hr⟩:∃x e' M',dC c M=(x,e',M'):=⟨_,_,_,rfl⟩;have dz:=λn=>yd n pb c M;rw [hr] at dz;have CG:qg.wrap (5+c.bW)=5+c.bW:=ar (by omega) (by omega);have jx:qg.wrap (c.bW+1)=c.bW+1:=ar (by omega) (by omega);have xT:¬c'.bW=3->c'.bW=c.bW+1:=by
  intro hn;have Rh:(dC c M).2.1=c':=by rw [hr]
  rcases rD c M with ⟨h,e⟩|⟨h,e⟩|⟨h,e⟩|⟨h,e⟩|⟨h,e⟩|⟨h,e⟩<;>(rw [e] at Rh;subst Rh;dsimp only at hn ⊢;try omega)
 have BY:c'.dJ=c.dJ:=by
  have Rh:(dC c M).2.1=c':=by rw [hr]
  rcases rD c M with ⟨h,e⟩|⟨h,e⟩|⟨h,e⟩|⟨h,e⟩|⟨h,e⟩|⟨h,e⟩<;>(rw [e] at Rh;subst Rh;rfl)
 have nT:=xn cf hC.cf c.dJ;dsimp only [br.v] at nT;have hCX:∀rd l2,rd.length<2^20->l2.length<=cf.reads.toNat->gL ⟨cf,aj,aF,aC,value,b7,am,rd,an,ay,l2,bz,aB,ao,aP,aL,au,.bF⟩:=λrd l2 h1 h2=>⟨hC.cf,hC.Mb,hC.bz,hC.eA,hC.cL,hC.HN,hC.Rt,hC.nC,hC.push,h2,h1,hC.Dj⟩;cases h2:c'.done
 . have h3:¬c'.bW=3:=by simpa [iI.done] using h2
   have e:du ⟨cf,aj,aF,aC,value,b7,am,reads,an,ay,set,bz,aB,ao,aP,aL,au,.bh c (.dg kb)⟩ M c (.dg kb)=(x,5+c.bW,⟨cf,aj,aF,aC,value,b7,am,reads,an,ay,set,bz,aB,ao,aP,aL,au,.bh c' (.dg kb)⟩,M'):=by
    unfold du;rw [hr];dsimp only;rw [h2];simp
   rw [e];intro A F hw hS;refine aN Zk λ_=>?_;dsimp only [aa,af] at hS;obtain⟨x0,hS⟩:=bf.open hS .z;(unhygienic cases x0);dsimp only [cr,iJ,cZ,eH,bD.fY,aa,af] at hS;have hq:=fZ hS hw;revert hq hS hw;clear hS;refine Wu (J7 (Tg.mk (n:=10) @eY) (od sM) (od sL) (od sK) (od sJ) (dz m) (⟨⟩:Ts (λA'=>A'.bp b=some (.cells [pv eu,pv eS,dk,bx,bU,oc b7 bM,pv m,.int .i64 c.bW,fl,jK aP de,iQ aL db,b6,bZ,bj,dm,.int .i64 cf.be,.int .i64 cf.ao,.int .i64 cf.base,.int .i64 cf.c0,.int .i64 cf.c1,.int .i64 cf.c2,.int .i64 cf.c3,.int .i64 cf.reads,.int .i64 cf.bP,.int .i64 cf.an,.int .i64 cf.ay,.int .i64 cf.aB,.bool cf.aW,.int .i64 aj,.int .i64 aF,.int .i64 aC,.int .i64 3,dw,.func (.func 223) #[] #[pv c0,pv c1],.int .i64 c.dJ,.int .u64 value,b5,.int .u64 aB,.bool am,.int .i64 au] true 1)) [0,0,0,0,0,0,3,0,0,0,0,1,0,2,3,0] (.aK 0 (.aK 1 (.aK 2 (.aK 3 (.aK 4 (.aK 5 (.aK 7 (.aK 8 (.aK 9 (.aK 10 (.aK 11 (.aK 12 (.tC 6 (.aK 13 (.aK 14 (.aK 15 .nil))) 13 (.aK 6 (.aK 14 (.aK 15 .nil)))))))))))))))))) (J6 h2 CG jx bE @bk.eq_1 @aZ.v.eq_1) (J2 ?_ ?_)<;>(unhygienic intros)
   all_goals(have h:c'.bW=c.bW+1/\c'.dJ=c.dJ:=⟨xT h3,BY⟩)
   all_goals(
    refine⟨_,by simp [hq,AW.ab,aG];rfl,by simp [aZ.v],?_⟩;apply bf.bS
    (·exact sA)
    exact fP
    (·first|exact pP|exact kP)
    all_goals(first|exact 0|exact undef))
 cases h4:c'.iu
 . by_cases h5:c.dJ<cf.be
   . by_cases h6:c.dJ∈reads
     . have h7:(if c.dJ<cf.be/\¬c.dJ∈reads then (⟨cf,aj,aF,aC,value,b7,am,reads++[c.dJ],an,ay,set,bz,aB,ao,aP,aL,au,.bh c' (.dg kb)⟩:aJ) else ⟨cf,aj,aF,aC,value,b7,am,reads,an,ay,set,bz,aB,ao,aP,aL,au,.bh c' (.dg kb)⟩)=⟨cf,aj,aF,aC,value,b7,am,reads,an,ay,set,bz,aB,ao,aP,aL,au,.bh c' (.dg kb)⟩:=aw (λh=>h.2 h6);obtain⟨q,l2,tZ⟩:∃q l2,eg cf.reads.toNat set c.ig=(q,l2):=⟨_,_,rfl⟩;have iK:=λn=>mE n cf.reads.toNat set (gw cf c.dJ) j5 xN;rw [<-se,tZ] at iK;dsimp only at iK;have JN:l2.length<=cf.reads.toNat:=by
        have h9:(eg cf.reads.toNat set c.ig).2=l2:=(by rw [tZ]);rw [<-h9];unfold eg;split;exact j5;split;exact j5;simp;omega
       have GL:q=false->l2=set:=by
        intro EN;have h9:(eg cf.reads.toNat set c.ig).2=l2:=(by rw [tZ]);have h8:(eg cf.reads.toNat set c.ig).1=q:=(by rw [tZ]);rw [<-h9];rw [EN] at h8;unfold eg at h8 ⊢;split;rfl;split;rfl;rename_i g1 g2;rw [aw g1,aw g2] at h8;cases h8
       cases q
       . have Ti:=GL rfl;subst l2;have e:du ⟨cf,aj,aF,aC,value,b7,am,reads,an,ay,set,bz,aB,ao,aP,aL,au,.bh c (.dg kb)⟩ M c (.dg kb)=(x,5+c.bW,jQ ⟨cf,aj,aF,aC,value,b7,am,reads,an,ay,set,bz,aB,ao,aP,aL,au,.bh c' (.dg kb)⟩ 3,M'):=by
          unfold du;rw [hr];dsimp only;rw [h2,h4,tZ,h7];rfl
         rw [e];intro A F hw hS;refine aN Zk λ_=>?_;dsimp only [aa,af] at hS;obtain⟨x0,hS⟩:=bf.open hS .z;(unhygienic cases x0);dsimp only [cr,iJ,cZ,eH,bD.fY,aa,af] at hS;have hq:=fZ hS hw;rw [se] at iK;revert hq hS hw;(repeat first|clear hq|clear hS|clear hw|revert hc|revert R|revert K);refine Wu (xe (Tg.mk (n:=10) @eY) (Tg.mk (n:=10) @dV) (Tg.mk (n:=14) @gC) (Tg.mk (n:=20) (js b ⟨cf,aj,aF,aC,value,b7,am,reads,an,ay,set,bz,aB,ao,aP,aL,au,.bh c' (.dg kb)⟩ 3 3 .bF hC.cf hC.al hC.push (Zw hC.nC (by decide)))) (od sM) (od sL) (od sK) (od sJ) @nT (dz m) (iK eu) (⟨⟩:Ts (λA'=>A'.bp b=some (.cells [pv eu,pv eS,dk,bx,bU,oc b7 bM,pv m,.int .i64 c.bW,fl,jK aP de,iQ aL db,b6,bZ,bj,dm,.int .i64 cf.be,.int .i64 cf.ao,.int .i64 cf.base,.int .i64 cf.c0,.int .i64 cf.c1,.int .i64 cf.c2,.int .i64 cf.c3,.int .i64 cf.reads,.int .i64 cf.bP,.int .i64 cf.an,.int .i64 cf.ay,.int .i64 cf.aB,.bool cf.aW,.int .i64 aj,.int .i64 aF,.int .i64 aC,.int .i64 3,dw,.func (.func 223) #[] #[pv c0,pv c1],.int .i64 c.dJ,.int .u64 value,b5,.int .u64 aB,.bool am,.int .i64 au] true 1)) [0,0,0,0,0,0,3,0,0,0,0,1,0,2,3,0] (.aK 0 (.aK 1 (.aK 2 (.aK 3 (.aK 4 (.aK 5 (.aK 7 (.aK 8 (.aK 9 (.aK 10 (.aK 11 (.aK 12 (.tC 6 (.aK 13 (.aK 14 (.aK 15 .nil))) 13 (.aK 6 (.aK 14 (.aK 15 .nil)))))))))))))))))) (J9 h2 h4 h5 h6 CG jx bE @bk.eq_1 @aZ.v.eq_1) (J2 ?_ ?_)<;>(unhygienic intros)
         all_goals(
          refine⟨_,by simp [hq,AW.ab,aG];rfl,by simp [aZ.v],?_⟩;apply ah.bS
          (·exact sA)
          (·first|exact pP|exact kP))
       have e:du ⟨cf,aj,aF,aC,value,b7,am,reads,an,ay,set,bz,aB,ao,aP,aL,au,.bh c (.dg kb)⟩ M c (.dg kb)=(x,5+c.bW,zW ⟨cf,aj,aF,aC,value,b7,am,reads,an,ay,l2,bz,aB,ao,aP,aL,au,.bF⟩ c'.val (.dg kb),M'):=by
        unfold du;rw [hr];dsimp only;rw [h2,h4,tZ,h7];rfl
       rw [e];intro A F hw hS;refine aN Zk λ_=>?_;dsimp only [aa,af] at hS;obtain⟨x0,hS⟩:=bf.open hS .z;(unhygienic cases x0);dsimp only [cr,iJ,cZ,eH,bD.fY,aa,af] at hS;have hq:=fZ hS hw;rw [se] at iK;revert hq hS hw;(repeat first|clear hq|clear hS|clear hw|revert hc|revert R|revert K);refine Wu (mB (Tg.mk (n:=10) @eY) (Tg.mk (n:=10) @dV) (Tg.mk (n:=14) @gC) (Tg.mk (n:=10) @kG) (Tg.mk (n:=21) (s7 b c0 c1 ⟨cf,aj,aF,aC,value,b7,am,reads,an,ay,l2,bz,aB,ao,aP,aL,au,.bF⟩ kb c'.val rfl (hCX (reads) l2 (by omega) JN) hkb)) (od sM) (od sL) (od sK) (od sJ) @nT (dz m) (iK eu) (⟨⟩:Ts (λA'=>A'.bp b=some (.cells [pv eu,pv eS,dk,bx,bU,oc b7 bM,pv m,.int .i64 c.bW,fl,jK aP de,iQ aL db,b6,bZ,bj,dm,.int .i64 cf.be,.int .i64 cf.ao,.int .i64 cf.base,.int .i64 cf.c0,.int .i64 cf.c1,.int .i64 cf.c2,.int .i64 cf.c3,.int .i64 cf.reads,.int .i64 cf.bP,.int .i64 cf.an,.int .i64 cf.ay,.int .i64 cf.aB,.bool cf.aW,.int .i64 aj,.int .i64 aF,.int .i64 aC,.int .i64 3,dw,.func (.func 223) #[] #[pv c0,pv c1],.int .i64 c.dJ,.int .u64 value,b5,.int .u64 aB,.bool am,.int .i64 au] true 1)) [0,0,0,0,0,0,3,0,0,0,0,1,0,2,3,0] (.aK 0 (.aK 1 (.aK 2 (.aK 3 (.aK 4 (.aK 5 (.aK 7 (.aK 8 (.aK 9 (.aK 10 (.aK 11 (.aK 12 (.tC 6 (.aK 13 (.aK 14 (.aK 15 .nil))) 13 (.aK 6 (.aK 14 (.aK 15 .nil)))))))))))))))))) (J9 h2 h4 h5 h6 CG jx bE @bk.eq_1 @aZ.v.eq_1) (J2 ?_ ?_)<;>(unhygienic intros)
       all_goals(
        refine⟨_,by simp [hq,AW.ab,aG];rfl,by simp [aZ.v],?_⟩;apply ah.bS
        (·exact sA)
        (·first|exact pP|exact kP))
     have h7:(if c.dJ<cf.be/\¬c.dJ∈reads then (⟨cf,aj,aF,aC,value,b7,am,reads++[c.dJ],an,ay,set,bz,aB,ao,aP,aL,au,.bh c' (.dg kb)⟩:aJ) else ⟨cf,aj,aF,aC,value,b7,am,reads,an,ay,set,bz,aB,ao,aP,aL,au,.bh c' (.dg kb)⟩)=⟨cf,aj,aF,aC,value,b7,am,reads++[c.dJ],an,ay,set,bz,aB,ao,aP,aL,au,.bh c' (.dg kb)⟩:=aA ⟨h5,h6⟩;obtain⟨q,l2,tZ⟩:∃q l2,eg cf.reads.toNat set c.ig=(q,l2):=⟨_,_,rfl⟩;have iK:=λn=>mE n cf.reads.toNat set (gw cf c.dJ) j5 xN;rw [<-se,tZ] at iK;dsimp only at iK;have JN:l2.length<=cf.reads.toNat:=by
      have h9:(eg cf.reads.toNat set c.ig).2=l2:=(by rw [tZ]);rw [<-h9];unfold eg;split;exact j5;split;exact j5;simp;omega
     have GL:q=false->l2=set:=by
      intro EN;have h9:(eg cf.reads.toNat set c.ig).2=l2:=(by rw [tZ]);have h8:(eg cf.reads.toNat set c.ig).1=q:=(by rw [tZ]);rw [<-h9];rw [EN] at h8;unfold eg at h8 ⊢;split;rfl;split;rfl;rename_i g1 g2;rw [aw g1,aw g2] at h8;cases h8
     cases q
     . have Ti:=GL rfl;subst l2;have e:du ⟨cf,aj,aF,aC,value,b7,am,reads,an,ay,set,bz,aB,ao,aP,aL,au,.bh c (.dg kb)⟩ M c (.dg kb)=(x,5+c.bW,jQ ⟨cf,aj,aF,aC,value,b7,am,reads++[c.dJ],an,ay,set,bz,aB,ao,aP,aL,au,.bh c' (.dg kb)⟩ 3,M'):=by
        unfold du;rw [hr];dsimp only;rw [h2,h4,tZ,h7];rfl
       rw [e];intro A F hw hS;refine aN Zk λ_=>?_;dsimp only [aa,af] at hS;obtain⟨x0,hS⟩:=bf.open hS .z;(unhygienic cases x0);dsimp only [cr,iJ,cZ,eH,bD.fY,aa,af] at hS;have hq:=fZ hS hw;rw [se] at iK;revert hq hS hw;(repeat first|clear hq|clear hS|clear hw|revert hc|revert R|revert K);refine Wu (xe (Tg.mk (n:=10) @eY) (Tg.mk (n:=10) @dV) (Tg.mk (n:=14) @gC) (Tg.mk (n:=20) (js b ⟨cf,aj,aF,aC,value,b7,am,reads++[c.dJ],an,ay,set,bz,aB,ao,aP,aL,au,.bh c' (.dg kb)⟩ 3 3 .bF hC.cf hC.al hC.push (Zw hC.nC (by decide)))) (od sM) (od sL) (od sK) (od sJ) @nT (dz m) (iK eu) (⟨⟩:Ts (λA'=>A'.bp b=some (.cells [pv eu,pv eS,dk,bx,bU,oc b7 bM,pv m,.int .i64 c.bW,fl,jK aP de,iQ aL db,b6,bZ,bj,dm,.int .i64 cf.be,.int .i64 cf.ao,.int .i64 cf.base,.int .i64 cf.c0,.int .i64 cf.c1,.int .i64 cf.c2,.int .i64 cf.c3,.int .i64 cf.reads,.int .i64 cf.bP,.int .i64 cf.an,.int .i64 cf.ay,.int .i64 cf.aB,.bool cf.aW,.int .i64 aj,.int .i64 aF,.int .i64 aC,.int .i64 3,dw,.func (.func 223) #[] #[pv c0,pv c1],.int .i64 c.dJ,.int .u64 value,b5,.int .u64 aB,.bool am,.int .i64 au] true 1)) [0,0,0,0,0,0,3,0,0,0,0,1,0,2,3,0] (.aK 0 (.aK 1 (.aK 2 (.aK 3 (.aK 4 (.aK 5 (.aK 7 (.aK 8 (.aK 9 (.aK 10 (.aK 11 (.aK 12 (.tC 6 (.aK 13 (.aK 14 (.aK 15 .nil))) 13 (.aK 6 (.aK 14 (.aK 15 .nil)))))))))))))))))) (J9 h2 h4 h5 h6 CG jx bE @bk.eq_1 @aZ.v.eq_1) (J2 ?_ ?_)<;>(unhygienic intros)
       all_goals(
        refine⟨_,by simp [hq,AW.ab,aG];rfl,by simp [aZ.v],?_⟩;apply ah.bS
        (·exact sA)
        (·first|exact pP|exact kP))
     have e:du ⟨cf,aj,aF,aC,value,b7,am,reads,an,ay,set,bz,aB,ao,aP,aL,au,.bh c (.dg kb)⟩ M c (.dg kb)=(x,5+c.bW,zW ⟨cf,aj,aF,aC,value,b7,am,reads++[c.dJ],an,ay,l2,bz,aB,ao,aP,aL,au,.bF⟩ c'.val (.dg kb),M'):=by
      unfold du;rw [hr];dsimp only;rw [h2,h4,tZ,h7];rfl
     rw [e];intro A F hw hS;refine aN Zk λ_=>?_;dsimp only [aa,af] at hS;obtain⟨x0,hS⟩:=bf.open hS .z;(unhygienic cases x0);dsimp only [cr,iJ,cZ,eH,bD.fY,aa,af] at hS;have hq:=fZ hS hw;rw [se] at iK;revert hq hS hw;(repeat first|clear hq|clear hS|clear hw|revert hc|revert R|revert K);refine Wu (mB (Tg.mk (n:=10) @eY) (Tg.mk (n:=10) @dV) (Tg.mk (n:=14) @gC) (Tg.mk (n:=10) @kG) (Tg.mk (n:=21) (s7 b c0 c1 ⟨cf,aj,aF,aC,value,b7,am,reads++[c.dJ],an,ay,l2,bz,aB,ao,aP,aL,au,.bF⟩ kb c'.val rfl (hCX (reads++[c.dJ]) l2 (by simp<;>omega) JN) hkb)) (od sM) (od sL) (od sK) (od sJ) @nT (dz m) (iK eu) (⟨⟩:Ts (λA'=>A'.bp b=some (.cells [pv eu,pv eS,dk,bx,bU,oc b7 bM,pv m,.int .i64 c.bW,fl,jK aP de,iQ aL db,b6,bZ,bj,dm,.int .i64 cf.be,.int .i64 cf.ao,.int .i64 cf.base,.int .i64 cf.c0,.int .i64 cf.c1,.int .i64 cf.c2,.int .i64 cf.c3,.int .i64 cf.reads,.int .i64 cf.bP,.int .i64 cf.an,.int .i64 cf.ay,.int .i64 cf.aB,.bool cf.aW,.int .i64 aj,.int .i64 aF,.int .i64 aC,.int .i64 3,dw,.func (.func 223) #[] #[pv c0,pv c1],.int .i64 c.dJ,.int .u64 value,b5,.int .u64 aB,.bool am,.int .i64 au] true 1)) [0,0,0,0,0,0,3,0,0,0,0,1,0,2,3,0] (.aK 0 (.aK 1 (.aK 2 (.aK 3 (.aK 4 (.aK 5 (.aK 7 (.aK 8 (.aK 9 (.aK 10 (.aK 11 (.aK 12 (.tC 6 (.aK 13 (.aK 14 (.aK 15 .nil))) 13 (.aK 6 (.aK 14 (.aK 15 .nil)))))))))))))))))) (J9 h2 h4 h5 h6 CG jx bE @bk.eq_1 @aZ.v.eq_1) (J2 ?_ ?_)<;>(unhygienic intros)
     all_goals(
      refine⟨_,by simp [hq,AW.ab,aG];rfl,by simp [aZ.v],?_⟩;apply ah.bS
      (·exact sA)
      (·first|exact pP|exact kP))
   have h6:True:=trivial;have h7:(if c.dJ<cf.be/\¬c.dJ∈reads then (⟨cf,aj,aF,aC,value,b7,am,reads++[c.dJ],an,ay,set,bz,aB,ao,aP,aL,au,.bh c' (.dg kb)⟩:aJ) else ⟨cf,aj,aF,aC,value,b7,am,reads,an,ay,set,bz,aB,ao,aP,aL,au,.bh c' (.dg kb)⟩)=⟨cf,aj,aF,aC,value,b7,am,reads,an,ay,set,bz,aB,ao,aP,aL,au,.bh c' (.dg kb)⟩:=aw (λh=>h5 h.1);obtain⟨q,l2,tZ⟩:∃q l2,eg cf.reads.toNat set c.ig=(q,l2):=⟨_,_,rfl⟩;have iK:=λn=>mE n cf.reads.toNat set (gw cf c.dJ) j5 xN;rw [<-se,tZ] at iK;dsimp only at iK;have JN:l2.length<=cf.reads.toNat:=by
    have h9:(eg cf.reads.toNat set c.ig).2=l2:=(by rw [tZ]);rw [<-h9];unfold eg;split;exact j5;split;exact j5;simp;omega
   have GL:q=false->l2=set:=by
    intro EN;have h9:(eg cf.reads.toNat set c.ig).2=l2:=(by rw [tZ]);have h8:(eg cf.reads.toNat set c.ig).1=q:=(by rw [tZ]);rw [<-h9];rw [EN] at h8;unfold eg at h8 ⊢;split;rfl;split;rfl;rename_i g1 g2;rw [aw g1,aw g2] at h8;cases h8
   cases q
   . have Ti:=GL rfl;subst l2;have e:du ⟨cf,aj,aF,aC,value,b7,am,reads,an,ay,set,bz,aB,ao,aP,aL,au,.bh c (.dg kb)⟩ M c (.dg kb)=(x,5+c.bW,jQ ⟨cf,aj,aF,aC,value,b7,am,reads,an,ay,set,bz,aB,ao,aP,aL,au,.bh c' (.dg kb)⟩ 3,M'):=by
      unfold du;rw [hr];dsimp only;rw [h2,h4,tZ,h7];rfl
     rw [e];intro A F hw hS;refine aN Zk λ_=>?_;dsimp only [aa,af] at hS;obtain⟨x0,hS⟩:=bf.open hS .z;(unhygienic cases x0);dsimp only [cr,iJ,cZ,eH,bD.fY,aa,af] at hS;have hq:=fZ hS hw;rw [se] at iK;revert hq hS hw;(repeat first|clear hq|clear hS|clear hw|revert hc|revert R|revert K);refine Wu (xe (Tg.mk (n:=10) @eY) (Tg.mk (n:=10) @dV) (Tg.mk (n:=14) @gC) (Tg.mk (n:=20) (js b ⟨cf,aj,aF,aC,value,b7,am,reads,an,ay,set,bz,aB,ao,aP,aL,au,.bh c' (.dg kb)⟩ 3 3 .bF hC.cf hC.al hC.push (Zw hC.nC (by decide)))) (od sM) (od sL) (od sK) (od sJ) @nT (dz m) (iK eu) (⟨⟩:Ts (λA'=>A'.bp b=some (.cells [pv eu,pv eS,dk,bx,bU,oc b7 bM,pv m,.int .i64 c.bW,fl,jK aP de,iQ aL db,b6,bZ,bj,dm,.int .i64 cf.be,.int .i64 cf.ao,.int .i64 cf.base,.int .i64 cf.c0,.int .i64 cf.c1,.int .i64 cf.c2,.int .i64 cf.c3,.int .i64 cf.reads,.int .i64 cf.bP,.int .i64 cf.an,.int .i64 cf.ay,.int .i64 cf.aB,.bool cf.aW,.int .i64 aj,.int .i64 aF,.int .i64 aC,.int .i64 3,dw,.func (.func 223) #[] #[pv c0,pv c1],.int .i64 c.dJ,.int .u64 value,b5,.int .u64 aB,.bool am,.int .i64 au] true 1)) [0,0,0,0,0,0,3,0,0,0,0,1,0,2,3,0] (.aK 0 (.aK 1 (.aK 2 (.aK 3 (.aK 4 (.aK 5 (.aK 7 (.aK 8 (.aK 9 (.aK 10 (.aK 11 (.aK 12 (.tC 6 (.aK 13 (.aK 14 (.aK 15 .nil))) 13 (.aK 6 (.aK 14 (.aK 15 .nil)))))))))))))))))) (J9 h2 h4 h5 h6 CG jx bE @bk.eq_1 @aZ.v.eq_1) (J2 ?_ ?_)<;>(unhygienic intros)
     all_goals(
      refine⟨_,by simp [hq,AW.ab,aG];rfl,by simp [aZ.v],?_⟩;apply ah.bS
      (·exact sA)
      (·first|exact pP|exact kP))
   have e:du ⟨cf,aj,aF,aC,value,b7,am,reads,an,ay,set,bz,aB,ao,aP,aL,au,.bh c (.dg kb)⟩ M c (.dg kb)=(x,5+c.bW,zW ⟨cf,aj,aF,aC,value,b7,am,reads,an,ay,l2,bz,aB,ao,aP,aL,au,.bF⟩ c'.val (.dg kb),M'):=by
    unfold du;rw [hr];dsimp only;rw [h2,h4,tZ,h7];rfl
   rw [e];intro A F hw hS;refine aN Zk λ_=>?_;dsimp only [aa,af] at hS;obtain⟨x0,hS⟩:=bf.open hS .z;(unhygienic cases x0);dsimp only [cr,iJ,cZ,eH,bD.fY,aa,af] at hS;have hq:=fZ hS hw;rw [se] at iK;revert hq hS hw;(repeat first|clear hq|clear hS|clear hw|revert hc|revert R|revert K);refine Wu (mB (Tg.mk (n:=10) @eY) (Tg.mk (n:=10) @dV) (Tg.mk (n:=14) @gC) (Tg.mk (n:=10) @kG) (Tg.mk (n:=21) (s7 b c0 c1 ⟨cf,aj,aF,aC,value,b7,am,reads,an,ay,l2,bz,aB,ao,aP,aL,au,.bF⟩ kb c'.val rfl (hCX (reads) l2 (by omega) JN) hkb)) (od sM) (od sL) (od sK) (od sJ) @nT (dz m) (iK eu) (⟨⟩:Ts (λA'=>A'.bp b=some (.cells [pv eu,pv eS,dk,bx,bU,oc b7 bM,pv m,.int .i64 c.bW,fl,jK aP de,iQ aL db,b6,bZ,bj,dm,.int .i64 cf.be,.int .i64 cf.ao,.int .i64 cf.base,.int .i64 cf.c0,.int .i64 cf.c1,.int .i64 cf.c2,.int .i64 cf.c3,.int .i64 cf.reads,.int .i64 cf.bP,.int .i64 cf.an,.int .i64 cf.ay,.int .i64 cf.aB,.bool cf.aW,.int .i64 aj,.int .i64 aF,.int .i64 aC,.int .i64 3,dw,.func (.func 223) #[] #[pv c0,pv c1],.int .i64 c.dJ,.int .u64 value,b5,.int .u64 aB,.bool am,.int .i64 au] true 1)) [0,0,0,0,0,0,3,0,0,0,0,1,0,2,3,0] (.aK 0 (.aK 1 (.aK 2 (.aK 3 (.aK 4 (.aK 5 (.aK 7 (.aK 8 (.aK 9 (.aK 10 (.aK 11 (.aK 12 (.tC 6 (.aK 13 (.aK 14 (.aK 15 .nil))) 13 (.aK 6 (.aK 14 (.aK 15 .nil)))))))))))))))))) (J9 h2 h4 h5 h6 CG jx bE @bk.eq_1 @aZ.v.eq_1) (J2 ?_ ?_)<;>(unhygienic intros)
   all_goals(
    refine⟨_,by simp [hq,AW.ab,aG];rfl,by simp [aZ.v],?_⟩;apply ah.bS
    (·exact sA)
    (·first|exact pP|exact kP))
 have e:du ⟨cf,aj,aF,aC,value,b7,am,reads,an,ay,set,bz,aB,ao,aP,aL,au,.bh c (.dg kb)⟩ M c (.dg kb)=(x,5+c.bW,jQ ⟨cf,aj,aF,aC,value,b7,am,reads,an,ay,set,bz,aB,ao,aP,aL,au,.bh c' (.dg kb)⟩ 9,M'):=by
  unfold du;rw [hr];dsimp only;rw [h2,h4];simp
 rw [e];intro A F hw hS;refine aN Zk λ_=>?_;dsimp only [aa,af] at hS;obtain⟨x0,hS⟩:=bf.open hS .z;(unhygienic cases x0);dsimp only [cr,iJ,cZ,eH,bD.fY,aa,af] at hS;have hq:=fZ hS hw;revert hq hS hw;(repeat first|clear hq|clear hS|clear hw|revert hc|revert R|revert K);refine Wu (J9 (Tg.mk (n:=10) @eY) (Tg.mk (n:=10) @dV) (Tg.mk (n:=20) (js b ⟨cf,aj,aF,aC,value,b7,am,reads,an,ay,set,bz,aB,ao,aP,aL,au,.bh c' (.dg kb)⟩ 3 9 .bF hC.cf hC.al hC.push (Zw hC.nC (by decide)))) (od sM) (od sL) (od sK) (od sJ) (dz m) (⟨⟩:Ts (λA'=>A'.bp b=some (.cells [pv eu,pv eS,dk,bx,bU,oc b7 bM,pv m,.int .i64 c.bW,fl,jK aP de,iQ aL db,b6,bZ,bj,dm,.int .i64 cf.be,.int .i64 cf.ao,.int .i64 cf.base,.int .i64 cf.c0,.int .i64 cf.c1,.int .i64 cf.c2,.int .i64 cf.c3,.int .i64 cf.reads,.int .i64 cf.bP,.int .i64 cf.an,.int .i64 cf.ay,.int .i64 cf.aB,.bool cf.aW,.int .i64 aj,.int .i64 aF,.int .i64 aC,.int .i64 3,dw,.func (.func 223) #[] #[pv c0,pv c1],.int .i64 c.dJ,.int .u64 value,b5,.int .u64 aB,.bool am,.int .i64 au] true 1)) [0,0,0,0,0,0,3,0,0,0,0,1,0,2,3,0] (.aK 0 (.aK 1 (.aK 2 (.aK 3 (.aK 4 (.aK 5 (.aK 7 (.aK 8 (.aK 9 (.aK 10 (.aK 11 (.aK 12 (.tC 6 (.aK 13 (.aK 14 (.aK 15 .nil))) 13 (.aK 6 (.aK 14 (.aK 15 .nil)))))))))))))))))) (J7 h2 h4 CG jx bE @bk.eq_1 @aZ.v.eq_1) (J2 ?_ ?_)<;>(unhygienic intros)
 all_goals(
  refine⟨_,by simp [hq,AW.ab,aG];rfl,by simp [aZ.v],?_⟩;apply ah.bS
  (·exact sA)
  (·first|exact pP|exact kP))
end
end Go.Stx
