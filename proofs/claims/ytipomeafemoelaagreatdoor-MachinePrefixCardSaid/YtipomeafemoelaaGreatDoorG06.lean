/-
 The program's attempt: its steps, fourth part.
-/
import Derived.Test.YtipomeafemoelaaGreatDoorG05
set_option linter.unusedVariables false
set_option linter.unusedSimpArgs false
set_option linter.unusedSectionVars false
set_option maxRecDepth 20000
set_option maxHeartbeats 4000000
namespace Go.Stx
open Go Go.Proofs
attribute [local irreducible] TW bA cM aS ax aH cJ de
section
abbrev xX:List (Nat×Nat):=[(0,0),(1,2),(2,0),(3,0),(4,0),(5,0),(6,0),(7,0),(8,0),(9,0),(10,0),(11,0),(12,0),(13,0),(14,0)]
abbrev xW:List (Nat×Nat):=[(0,0),(1,0),(2,0),(3,0),(4,0),(5,0),(6,0),(8,0),(9,0),(10,0),(11,0),(12,0),(7,2),(13,2),(14,2),(15,0),(16,0),(17,3),(18,0),(19,0),(20,0),(21,3)]
open T17 T13
variable [Gl]
theorem zh (b pb:Nat) (s:aM) (w:kg) (M:Mm) (hd:s.aG=.da w) (bG:w.os.length=w.ws.length) :
 bf Tryz.prog 123 [pv b,pv pb] [.h (aX b s),dG pb M] (λv=>v=.tuple #[(oh s M w).1.v,.int .i64 (oh s M w).2.1])
  (λ_=>[.h (aX b (oh s M w).2.2.1),dG pb (oh s M w).2.2.2]):=by
 (unhygienic cases s);dsimp only at hd;subst hd;obtain⟨x,w',M',hr⟩:∃x e' M',lj w M=(x,e',M'):=⟨_,_,_,rfl⟩;have dl:=λn=>NB n pb w M bG;rw [hr] at dl;have Yp:∀dd,aM.tG ⟨cf,am,aA,az,value,bY,aj,reads,ak,av,set,bu,aw,ao,aJ,aI,an,dd⟩=aM.tG ⟨cf,am,aA,az,value,bY,aj,reads,ak,av,set,bu,aw,ao,aJ,aI,an,.da w⟩:=λdd=>rfl;obtain⟨vr,Xf⟩:∃vr,aM.tG ⟨cf,am,aA,az,value,bY,aj,reads,ak,av,set,bu,aw,ao,aJ,aI,an,.da w⟩=vr:=⟨_,rfl⟩;rw [Xf] at Yp;cases h2:w'.done
 . have e:oh ⟨cf,am,aA,az,value,bY,aj,reads,ak,av,set,bu,aw,ao,aJ,aI,an,.da w⟩ M w=(x,18,⟨cf,am,aA,az,value,bY,aj,reads,ak,av,set,bu,aw,ao,aJ,aI,an,.da w'⟩,M'):=by
    unfold oh;rw [hr];dsimp only;rw [h2];simp
   rw [e];intro A F hw hS;refine aF Tryz.func123 λ_=>?_;dsimp only [aa,ag] at hS;obtain⟨x0,hS⟩:=aX.open hS .z;(unhygienic cases x0);dsimp only [b9,gZ,cF,ez,br.gf,aa,ag] at hS;have hq:=eK hS hw;revert hq hS hw;clear hS;refine Wp (J2 (Tg.mk (n:=10) @ud) (dl m)) (J4 h2 bz @be.eq_1 @aW.v.eq_1) ?_<;>(unhygienic intros);refine⟨_,by simp [hq,AW.af,aB];rfl,by first|(simp [aW.v];done)|(simp [aW.v,h];done),?_⟩;apply aX.bO
   (·exact sA)
   exact fP
   (·first|exact pP|exact kP)
   all_goals(first|exact 0|exact undef)
 by_cases h:0<=vr
 . have e:oh ⟨cf,am,aA,az,value,bY,aj,reads,ak,av,set,bu,aw,ao,aJ,aI,an,.da w⟩ M w=(x,18,⟨cf,am,aA,az,value,bY,aj,reads,ak,av,set,bu,aw,ao,aJ,aI,an,.jb⟩,M'):=by
    unfold oh;rw [hr];dsimp only;rw [h2,Xf,if_pos rfl,if_pos h]
   rw [e];intro A F hw hS;refine aF Tryz.func123 λ_=>?_;dsimp only [aa,ag] at hS;obtain⟨x0,hS⟩:=aX.open hS .z;(unhygienic cases x0);dsimp only [b9,gZ,cF,ez,br.gf,aa,ag] at hS;have hq:=eK hS hw;revert hq hS hw;(repeat first|clear hq|clear hS|clear hw|revert hc|revert R|revert K);refine Wp (J3 (Tg.mk (n:=10) @ud) (Tg.mk (n:=30) (λA' h1 h2=>oY b ⟨cf,am,aA,az,value,bY,aj,reads,ak,av,set,bu,aw,ao,aJ,aI,an,.da w'⟩ 12 (.da w') A' h1 h2)) (dl m)) (J6 h h2 Yp bz @be.eq_1 @aW.v.eq_1) ?_<;>(unhygienic intros);refine⟨_,by simp [hq,AW.af,aB];rfl,by first|(simp [aW.v];done)|(simp [aW.v,h];done),?_⟩;apply aX.bO
   (·exact sA)
   exact fP
   (·first|exact pP|exact kP)
   all_goals(first|exact 0|exact undef)
 have e:oh ⟨cf,am,aA,az,value,bY,aj,reads,ak,av,set,bu,aw,ao,aJ,aI,an,.da w⟩ M w=(x,18,⟨cf,am,aA,az,value,bY,aj,reads,ak,av,set,bu,aw,ao,aJ,aI,an,.gH⟩,M'):=by
  unfold oh;rw [hr];dsimp only;rw [h2,Xf,if_pos rfl,if_neg h]
 rw [e];intro A F hw hS;refine aF Tryz.func123 λ_=>?_;dsimp only [aa,ag] at hS;obtain⟨x0,hS⟩:=aX.open hS .z;(unhygienic cases x0);dsimp only [b9,gZ,cF,ez,br.gf,aa,ag] at hS;have hq:=eK hS hw;revert hq hS hw;(repeat first|clear hq|clear hS|clear hw|revert hc|revert R|revert K);refine Wp (J3 (Tg.mk (n:=10) @ud) (Tg.mk (n:=30) (λA' h1 h2=>oY b ⟨cf,am,aA,az,value,bY,aj,reads,ak,av,set,bu,aw,ao,aJ,aI,an,.da w'⟩ 12 (.da w') A' h1 h2)) (dl m)) (J6 h h2 Yp bz @be.eq_1 @aW.v.eq_1) ?_<;>(unhygienic intros);refine⟨_,by simp [hq,AW.af,aB];rfl,by first|(simp [aW.v];done)|(simp [aW.v,h];done),?_⟩;apply aX.bO
 (·exact sA)
 exact fP
 (·first|exact pP|exact kP)
 all_goals(first|exact 0|exact undef)
theorem Be (b pb:Nat) (s:aM)  (M:Mm) (hd:s.aG=.cH) (hC:gq s) (Uy:s.ao.length<2^20) (Qx:s.ao.length=0\/∃l,s.aJ=some l/\s.ao.length=l.fe.length) :
 bf Tryz.prog 121 [pv b,pv pb] [.h (aX b s),dG pb M] (λv=>v=.tuple #[(fY s M).1.v,.int .i64 (fY s M).2.1])
  (λ_=>[.h (aX b (fY s M).2.2.1),dG pb (fY s M).2.2.2]):=by
 (unhygienic cases s);dsimp only at hd;subst hd;dsimp only at Uy Qx;have bG:=hC.len;have hvl:=hC.bu.KU;dsimp only at bG hvl;obtain⟨x,hx⟩:∃x,iP M 3 0=x:=⟨_,rfl⟩;have dl:=Qh pb M 3 0;rw [hx] at dl;obtain⟨t0,t1⟩:=hC.cf.aw;dsimp only at t0 t1;have VL:IntKind.u64.wrap cf.aw=cf.aw:=ar (by omega) (by omega);cases h3:aM.iW ⟨cf,am,aA,az,value,bY,aj,reads,ak,av,set,bu,aw,ao,aJ,aI,an,.cH⟩
 . have h4:∀ck dc,aM.iW ⟨cf,am,aA,az,value,bY,dc,reads,ak,av,set,bu,ck,ao,aJ,aI,an,.cH⟩=false:=λ_ _=>h3;have e:fY ⟨cf,am,aA,az,value,bY,aj,reads,ak,av,set,bu,aw,ao,aJ,aI,an,.cH⟩ M=(x,16,gU ⟨cf,am,aA,az,value,bY,true,reads,ak,av,set,bu,x.fA,ao,aJ,aI,an,.cH⟩,M):=by
    unfold fY;rw [hx,h3];simp
   rw [e];intro A F hw hS;refine aF Tryz.func121 λ_=>?_;dsimp only [aa,ag] at hS;obtain⟨x0,hS⟩:=aX.open hS .z;(unhygienic cases x0);dsimp only [b9,gZ,cF,ez,br.gf,aa,ag] at hS;have hq:=eK hS hw
   repeat' (first|(refine jX λR hR=>?_;simp [ai,ar,hq,h4,AW.af,aB,be,aW.v];try simp (disch:=omega) only [if_pos,if_neg,ai,ar])|(refine hR _ _ ?_;clear hR R)|(refine hK _ _ ?_;clear hK K)|refine nx ?_|refine wn λK hK=>?_|simp only [wS,xX,xW]|refine wl Tryz.mx xX (by decide +kernel) λK hK=>?_|refine wl Tryz.mx xW (by decide +kernel) λK hK=>?_|(apply bf.eZ (dl);(·exact wA);(·exact sA);(·first|exact pP|exact kP);rintro _ _ rfl hS hw _;have hS:=lA hS;have hq:=AG hS hw)|(apply AN (λA' h1 h2=>kT b ⟨cf,am,aA,az,value,bY,aj,reads,ak,av,set,bu,x.fA,ao,aJ,aI,an,.cH⟩ 8 .cH A' h1 h2);(·exact wA);(·exact sA);(·exact fP);all_goals(try (first|exact 0|exact undef)))|(apply AN (λA' h1 h2=>kT b ⟨cf,am,aA,az,value,bY,true,reads,ak,av,set,bu,x.fA,ao,aJ,aI,an,.cH⟩ 8 .cH A' h1 h2);(·exact wA);(·exact sA);(·exact fP);all_goals(try (first|exact 0|exact undef)))|(apply bf.jT (sr b ⟨cf,am,aA,az,value,bY,true,reads,ak,av,set,bu,x.fA,ao,aJ,aI,an,.cH⟩ 8 .cH Uy Qx);(·exact wA);(·exact sA);(·exact fP);(·first|exact pP|exact kP);(rintro _ _ _ hS hw _;have hS:=lA hS);(try (have hq:=AG hS hw));all_goals(try (first|exact 0|exact undef)))|(show cM _ _ _ _ _ _;refine nx ?_)|(refine wc rfl (λhc=>?_) (λhc=>?_)<;>(try simp at hc)<;>(try omega)<;>(try (simp [h2] at hc;done))<;>(try (simp [h3] at hc;done))<;>(try (simp [h4] at hc;done)))|(refine ib (λhc=>?_) (λhc=>?_)<;>(try omega)<;>(try simp (disch:=omega) only [if_pos,if_neg])))
   refine⟨_,by simp [hq,AW.af,aB];rfl,by first|(simp [aW.v];done)|(simp [aW.v,h];done),?_⟩;apply ah.bO
   (·exact sA)
   (·first|exact pP|exact kP)
 have h4:∀ck dc,aM.iW ⟨cf,am,aA,az,value,bY,dc,reads,ak,av,set,bu,ck,ao,aJ,aI,an,.cH⟩=true:=λ_ _=>h3;by_cases h:cf.aw<=x.fA
 . have e:fY ⟨cf,am,aA,az,value,bY,aj,reads,ak,av,set,bu,aw,ao,aJ,aI,an,.cH⟩ M=(x,16,gU ⟨cf,am,aA,6,value,bY,aj,reads,ak,av,set,bu,x.fA,ao,aJ,aI,an,.cH⟩,M):=by
    unfold fY;rw [hx,h3,VL];simp [h]
   rw [e];intro A F hw hS;refine aF Tryz.func121 λ_=>?_;dsimp only [aa,ag] at hS;obtain⟨x0,hS⟩:=aX.open hS .z;(unhygienic cases x0);dsimp only [b9,gZ,cF,ez,br.gf,aa,ag] at hS;have hq:=eK hS hw;revert hq hS hw;(repeat first|clear hq|clear hS|clear hw|revert hc|revert R|revert K);refine Wp (J5 (Tg.mk (n:=30) (λA' h1 h2=>kT b ⟨cf,am,aA,az,value,bY,aj,reads,ak,av,set,bu,x.fA,ao,aJ,aI,an,.cH⟩ 8 .cH A' h1 h2)) (Tg.mk (n:=20) (sr b ⟨cf,am,aA,6,value,bY,aj,reads,ak,av,set,bu,x.fA,ao,aJ,aI,an,.cH⟩ 8 .cH Uy Qx)) (od xX) (od xW) @dl) (J6 h h4 VL bz @be.eq_1 @aW.v.eq_1) ?_<;>(unhygienic intros);refine⟨_,by simp [hq,AW.af,aB];rfl,by first|(simp [aW.v];done)|(simp [aW.v,h];done),?_⟩;apply ah.bO
   (·exact sA)
   (·first|exact pP|exact kP)
 have e:fY ⟨cf,am,aA,az,value,bY,aj,reads,ak,av,set,bu,aw,ao,aJ,aI,an,.cH⟩ M=(x,16,⟨cf,am,aA,az,value,bY,true,reads,ak,av,set,bu,x.fA,ao,aJ,aI,an,.eS ⟨bu.bT,bu.fg⟩⟩,M):=by
  unfold fY;rw [hx,h3,VL];simp [h]
 rw [e];intro A F hw hS;refine aF Tryz.func121 λ_=>?_;dsimp only [aa,ag] at hS;obtain⟨x0,hS⟩:=aX.open hS .z;(unhygienic cases x0);dsimp only [b9,gZ,cF,ez,br.gf,aa,ag] at hS;have hq:=eK hS hw
 repeat' (first|(refine jX λR hR=>?_;simp [ai,ar,hq,h,h4,VL,AW.af,aB,be,aW.v];try simp (disch:=omega) only [if_pos,if_neg,ai,ar])|(refine hR _ _ ?_;clear hR R)|(refine hK _ _ ?_;clear hK K)|refine nx ?_|refine wn λK hK=>?_|simp only [wS,xX,xW]|refine wl Tryz.mx xX (by decide +kernel) λK hK=>?_|refine wl Tryz.mx xW (by decide +kernel) λK hK=>?_|(apply bf.eZ (dl);(·exact wA);(·exact sA);(·first|exact pP|exact kP);rintro _ _ rfl hS hw _;have hS:=lA hS;have hq:=AG hS hw)|(apply AN (λA' h1 h2=>kT b ⟨cf,am,aA,az,value,bY,aj,reads,ak,av,set,bu,x.fA,ao,aJ,aI,an,.cH⟩ 8 .cH A' h1 h2);(·exact wA);(·exact sA);(·exact fP);all_goals(try (first|exact 0|exact undef)))|(apply AN (λA' h1 h2=>kT b ⟨cf,am,aA,az,value,bY,true,reads,ak,av,set,bu,x.fA,ao,aJ,aI,an,.cH⟩ 8 .cH A' h1 h2);(·exact wA);(·exact sA);(·exact fP);all_goals(try (first|exact 0|exact undef)))|(apply sO;(·exact wA);(·exact sA);(·first|exact pP|exact kP);(·first|omega|(simp;omega)|(simp [hq];done));((first|rintro _ _ _ hS hw eJ|rintro _ _ hS hw eJ|rintro _ _ hS hw);(try refine⟨eJ,?_⟩);(try dsimp only [AW.aV] at hS);have hq:=AG hS hw))|(apply EA;(·exact wA);(·exact sA);(·first|exact pP|exact kP);(·first|omega|(simp;omega)|(simp [hq];done));((first|rintro _ _ _ hS hw eJ|rintro _ _ hS hw eJ|rintro _ _ hS hw);(try refine⟨eJ,?_⟩);(try dsimp only [AW.aV] at hS);have hq:=AG hS hw))|(apply GE;(·exact wA);(·exact sA);(·first|exact pP|exact kP);(·first|exact pP|exact kP);(·first|omega|(simp;omega)|(simp [hq];done));(·first|omega|(simp;omega)|(simp [hq];done));((first|rintro _ _ _ hS hw eJ|rintro _ _ hS hw eJ|rintro _ _ hS hw);(try refine⟨eJ,?_⟩);(try dsimp only [AW.aV] at hS);have hq:=AG hS hw))|(show cM _ _ _ _ _ _;refine nx ?_)|(refine wc rfl (λhc=>?_) (λhc=>?_)<;>(try simp at hc)<;>(try omega)<;>(try (simp [h2] at hc;done))<;>(try (simp [h3] at hc;done))<;>(try (simp [h4] at hc;done)))|(refine ib (λhc=>?_) (λhc=>?_)<;>(try omega)<;>(try simp (disch:=omega) only [if_pos,if_neg])))
 refine⟨_,by simp [hq,AW.af,aB];rfl,by first|(simp [aW.v];done)|(simp [aW.v,h];done),?_⟩;apply aX.bO
 (·exact sA)
 exact fP
 (·first|exact pP|exact kP)
 all_goals(first|exact 0|exact undef)
end
section
open T17 T13
variable [Gl]
theorem ap.P9 {A:AW} {F:HP} (kk:IntKind) (n:Nat) (h:bk A F) (hw:A.Wf):bk (A.alloc (.cells (ft [.int kk 0] n) true 1)) (ap kk (.slice (some ⟨A.next,0,none⟩) n n) (List.replicate n 0)*F):=by
 have bG:(ft [Value.int kk 0] n).length=n:=by simp [jn]
 have hcs:(List.replicate n (0:Int)).map (Value.int kk)=ft [Value.int kk 0] n:=by
  clear bG
  induction n with
  | zero=>rfl
  | succ n ih=>rw [List.replicate_succ,List.map_cons,ih];rfl
 refine ap.mk (by simp) (by simp) (by simp [bG]) ?_ (h.alloc hw _);rw [hcs,List.drop_zero,List.take_of_length_le (by simp [bG])]
theorem ah.P9 {A:AW} {L:List It} (kk:IntKind) (n:Nat) (h:ah A L) (hw:A.Wf):ah (A.alloc (.cells (ft [.int kk 0] n) true 1)) (.h (ap kk (.slice (some ⟨A.next,0,none⟩) n n) (List.replicate n 0))::L):=ap.P9 kk n h hw
theorem B9 (b pb:Nat) (s:aM) (w:kg) (M:Mm) (hd:s.aG=.eS w) (bG:w.os.length=w.ws.length) (Uy:s.ao.length<2^20) :
 bf Tryz.prog 122 [pv b,pv pb] [.h (aX b s),dG pb M] (λv=>v=.tuple #[(iv s M w).1.v,.int .i64 (iv s M w).2.1])
  (λ_=>[.h (aX b (iv s M w).2.2.1),dG pb (iv s M w).2.2.2]):=by
 (unhygienic cases s);dsimp only at hd;subst hd;dsimp only at Uy;obtain⟨x,w',M',hr⟩:∃x e' M',nC w M=(x,e',M'):=⟨_,_,_,rfl⟩;have dl:=λn=>O9 n pb w M bG;rw [hr] at dl;obtain⟨vr,Xf⟩:∃vr,aM.tG ⟨cf,am,aA,az,value,bY,aj,reads,ak,av,set,bu,aw,ao,aJ,aI,an,.eS w⟩=vr:=⟨_,rfl⟩;have Yp:aM.tG ⟨cf,am,aA,az,value,bY,aj,reads,ak,av,set,bu,aw,ao,aJ,aI,an,.eS w'⟩=vr:=Xf;cases h2:w'.done
 . have e:iv ⟨cf,am,aA,az,value,bY,aj,reads,ak,av,set,bu,aw,ao,aJ,aI,an,.eS w⟩ M w=(x,17,⟨cf,am,aA,az,value,bY,aj,reads,ak,av,set,bu,aw,ao,aJ,aI,an,.eS w'⟩,M'):=by
    unfold iv;rw [hr];dsimp only;rw [h2];simp
   rw [e];intro A F hw hS;refine aF Tryz.func122 λ_=>?_;dsimp only [aa,ag] at hS;obtain⟨x0,hS⟩:=aX.open hS .z;(unhygienic cases x0);dsimp only [b9,gZ,cF,ez,br.gf,aa,ag] at hS;have hq:=fC hS hw;revert hq hS hw;clear hS;refine Wp (J2 (Tg.mk (n:=10) @BQ) (dl m)) (J4 h2 bz @be.eq_1 @aW.v.eq_1) ?_<;>(unhygienic intros);refine⟨_,by simp [hq,AW.af,aB];rfl,by first|(simp [aW.v];done)|(simp [aW.v,h];done),?_⟩;apply aX.bO
   (·exact sA)
   exact fP
   (·first|exact pP|exact kP)
   all_goals(first|exact 0|exact undef)
 have e:iv ⟨cf,am,aA,az,value,bY,aj,reads,ak,av,set,bu,aw,ao,aJ,aI,an,.eS w⟩ M w=(x,17,⟨cf,am,aA,az,value,bY,aj,reads,ak,av,set,bu,aw,ao,aJ,aI,an,.da ⟨ao,List.replicate ao.length (mQ vr)⟩⟩,M'):=by
  unfold iv;rw [hr];dsimp only;rw [h2,if_pos rfl,Xf]
 rw [e];intro A F hw hS;refine aF Tryz.func122 λ_=>?_;dsimp only [aa,ag] at hS;obtain⟨x0,hS⟩:=aX.open hS .z;(unhygienic cases x0);dsimp only [b9,gZ,cF,ez,br.gf,aa,ag] at hS;obtain⟨oo,co,rfl,_⟩:=(ah.qT hS (.s (.s (.s (.s (.s (.s (.s (.s (.s .z)))))))))).bE;have hq:=fC hS hw;revert hq hS hw;(repeat first|clear hq|clear hS|clear hw|revert hc|revert R|revert K);refine Wp cd (J3 bz @be.eq_1 @aW.v.eq_1) ?_<;>(unhygienic intros);apply bf.eZ (dl m)
 (·exact wA)
 (·exact sA)
 (·first|exact pP|exact kP)
 rintro _ A1 rfl hS hw _;have hS:=lA hS;have hq:=fC hS hw;revert hq hS hw;(repeat first|clear hq|clear hS|clear hw|revert hc|revert R|revert K);refine Wp (J1 (Tg.mk (n:=10) @BQ)) (J4 h2 bz @be.eq_1 @aW.v.eq_1) ?_<;>(unhygienic intros);obtain⟨n,hn⟩:∃n,ao.length=n:=⟨_,rfl⟩;have hinv:∀i,i<=n->List.replicate i (mQ vr)++List.replicate (n-i) 0=(List.replicate i (mQ vr)++List.replicate (n-i) (0:Int)):=λ_ _=>rfl
 refine cW (λk fr A'=>A'.Wf/\∃i:Nat,k=n-i/\i<=n/\fr 0=pv b/\fr 4=.pointer (some ⟨A.next,0,none⟩)/\fr 6=.pointer (some ⟨A1.next,0,none⟩)/\fr 7=.slice (some ⟨A1.next+1,0,none⟩) n n/\fr 29=.int .i64 n/\fr 30=.int .i64 i/\
  ah A' (.h (ap .u64 (.slice (some ⟨A1.next+1,0,none⟩) n n) (List.replicate i (mQ vr)++List.replicate (n-i) 0))::.at A1.next (.cells [.int .i64 x.gu,.int .i64 x.cell,.int .i64 x.dJ,.int .u64 x.fA,.int .u64 x.put,.bool x.done] true 1)::.at A.next (.cells be true 1)::.h (gY m w')::dG pb M'::(b9 b ⟨cf,am,aA,az,value,bY,aj,reads,ak,av,set,bu,aw,ao,aJ,aI,an,.eS w'⟩ 9 (.eS w') ⟨eb,eG,bH,c8,cU,m,c0,c1,c2,df,bn,bU,.slice oo ao.length co,eh,dg,eV,bX,bV,bd,dh,dk,gt,ei⟩++[.h F]))) n ?_ ?_
 refine⟨?_,0,by simp,by simp,by simp,by simp,by simp,by simp [hn],by simp [hn],by simp,?_⟩
 (·exact wA)
 simp only [List.replicate_zero,ag,Nat.sub_zero];rw [<-hn];apply ah.bO;apply ah.P9
 (·exact sA)
 (·exact wA)
 (dsimp only [b9,gZ,cF,ez,br.gf,pU,lY,qq,wT,mf,lV,iL,pV,pM,wH,pN,aa,ag])
 (·first|exact pP|exact kP)
 rintro k fr A' ⟨hw,i,rfl,hi,h0,h4',h6,h7,Xw,h30,hS⟩;dsimp only [b9,gZ,cF,ez,br.gf,pU,lY,qq,wT,mf,lV,iL,pV,pM,wH,pN,aa,ag] at hS;refine aO ?_;by_cases bL:i<n
 . have gW:(i:Int)<n:=(by omega);have fU:=uR (i:=i);have hll:(List.replicate i (mQ vr)++List.replicate (n-i) (0:Int)).length=n:=(by simp;omega);obtain⟨bv,Sx,cv,Vg,hv,hbv,bI,ke,iz⟩:=ah.Mn hS .z (j:=i) (by omega);rw [hll] at hv hbv;injection hv with MH hv2 VO;injection MH with MH;injection MH with MH hv4 _;subst MH;subst hv4;have qh:=hS;have hS:=iz;have hq:=fC hS hw;have Lo:i<Vg.length:=(by omega);simp only [Nat.zero_add] at bI ke;revert hq hS hw;(repeat first|clear hq|clear hS|clear hw|revert hc|revert R|revert K);refine Wp (J2 (Tg.mk (n:=30) (λA' h1 h2=>oY b ⟨cf,am,aA,az,value,bY,aj,reads,ak,av,set,bu,aw,ao,aJ,aI,an,.eS w'⟩ 9 (.eS w') A' h1 h2)) @KB) (mi h0 h4' h6 h7 Xw h30 Yp bL gW fU bI Lo bz) ?_<;>(unhygienic intros);refine⟨n-(i+1),by omega,hw.set _ (ah.ltR hS hw .z (Nat.le_refl _)),i+1,rfl,by omega,by simp [h0],by simp [h4'],by simp [h6],by simp [h7],by simp [Xw],by simp,?_⟩;have h9:=ke (mQ vr) _ _ (ah.fX hS .z)
   have e9:(List.replicate i (mQ vr)++List.replicate (n-i) (0:Int)).set i (mQ vr)=List.replicate (i+1) (mQ vr)++List.replicate (n-(i+1)) 0:=by
    rw [List.set_append_right _ _ (by simp)];simp only [List.length_replicate,Nat.sub_self];rw [show n-i=(n-(i+1))+1 by omega,List.replicate_succ,List.set_cons_zero,List.replicate_succ',List.append_assoc];rfl
   rw [e9] at h9;exact h9
 have Ls:i=n:=by omega
 subst Ls;simp only [Nat.sub_self,List.replicate_zero,List.append_nil] at hS;have hq:=fC hS hw;revert hq hS hw;(repeat first|clear hq|clear hS|clear hw|revert hc|revert R|revert K);refine Wp (J1 (Tg.mk (n:=12) @uk)) (J7 h0 h4' h6 h7 Xw h30 bz) ?_<;>(unhygienic intros);rw [show List.replicate ao.length (mQ vr)=List.replicate i (mQ vr) by rw [hn]];refine⟨_,by simp [hq,h4',AW.af,aB];rfl,by simp [aW.v,be],?_⟩;apply aX.bO
 (·exact sA)
 exact fP
 (·first|exact pP|exact kP)
 all_goals(first|exact 0|exact undef)
end
section
abbrev qS:List (Nat×Nat):=[(0,0),(1,0),(2,0),(3,0),(4,0),(5,0),(6,0),(7,0),(8,0),(9,0),(10,0),(11,0),(12,0),(13,0),(14,0),(15,0),(16,0),(17,0),(18,0),(19,0),(20,2),(21,0),(22,0)]
abbrev qR:List (Nat×Nat):=[(0,0),(1,0),(2,0),(3,0),(4,0),(5,0),(6,0),(7,0),(8,0),(9,0),(10,2),(11,3),(12,0),(13,0),(14,0),(15,3)]
abbrev qQ:List (Nat×Nat):=[(0,0),(1,0),(2,0),(3,0),(4,0),(5,0),(6,0),(7,0),(8,0),(9,0),(10,0),(11,0),(12,0),(13,2),(14,3),(15,0)]
abbrev qP:List (Nat×Nat):=[(0,0),(1,0),(2,0),(3,0),(4,0),(5,0),(6,0),(7,0),(8,0),(9,2),(10,3)]
open T20 T13
variable [Gl]
set_option maxHeartbeats 16000000 in
theorem Ca (b pb:Nat) (s:aM) (c:ip) (M:Mm) (hd:s.aG=.bh c .take) (hC:gq s) (hrl:s.reads.length+1<2^20) (hca:0<=c.bR/\c.bR<=2) (AH:c.gE=gz s.cf c.dD) :
 bf Tryz.prog 116 [pv b,pv pb] [.h (aX b s),dG pb M] (λv=>v=.tuple #[(dR s M c .take).1.v,.int .i64 (dR s M c .take).2.1])
  (λ_=>[.h (aX b (dR s M c .take).2.2.1),dG pb (dR s M c .take).2.2.2]):=by
 (unhygienic cases s);dsimp only at hd;subst hd
 skip
 dsimp only at AH hrl;obtain⟨Xh,CX⟩:=hC.cf.reads;have ke:=hC.set;dsimp only at Xh CX ke;have vE:cf.reads.toNat<=32:=by omega
 obtain⟨x,c',M',hr⟩:∃x e' M',dY c M=(x,e',M'):=⟨_,_,_,rfl⟩;have dl:=λn=>vT n pb c M;rw [hr] at dl;have AE:IntKind.i64.wrap (5+c.bR)=5+c.bR:=ai (by omega) (by omega);have jg:IntKind.i64.wrap (c.bR+1)=c.bR+1:=ai (by omega) (by omega);have GV:¬c'.bR=3->c'.bR=c.bR+1:=by
  intro hn;have OR:(dY c M).2.1=c':=by rw [hr]
  rcases pT c M with ⟨h,e⟩|⟨h,e⟩|⟨h,e⟩|⟨h,e⟩|⟨h,e⟩|⟨h,e⟩<;>(rw [e] at OR;subst OR;dsimp only at hn ⊢;try omega)
 have zV:c'.dD=c.dD:=by
  have OR:(dY c M).2.1=c':=by rw [hr]
  rcases pT c M with ⟨h,e⟩|⟨h,e⟩|⟨h,e⟩|⟨h,e⟩|⟨h,e⟩|⟨h,e⟩<;>(rw [e] at OR;subst OR;rfl)
 have nB:=uV cf hC.cf c.dD;dsimp only [bq.v] at nB;cases h2:c'.done
 . have h3:¬c'.bR=3:=by simpa [ip.done] using h2
   have e:dR ⟨cf,am,aA,az,value,bY,aj,reads,ak,av,set,bu,aw,ao,aJ,aI,an,.bh c .take⟩ M c .take=(x,5+c.bR,⟨cf,am,aA,az,value,bY,aj,reads,ak,av,set,bu,aw,ao,aJ,aI,an,.bh c' .take⟩,M'):=by
    unfold dR;rw [hr];dsimp only;rw [h2];simp
   rw [e];intro A F hw hS;refine aF Tryz.func116 λ_=>?_;dsimp only [aa,ag] at hS;obtain⟨x0,hS⟩:=aX.open hS .z;(unhygienic cases x0);dsimp only [b9,gZ,cF,ez,br.gf,aa,ag] at hS;have hq:=fC hS hw;revert hq hS hw;clear hS;refine Wu (J7 (Tg.mk (n:=10) @eO) (od qS) (od qR) (od qQ) (od qP) (dl m) (⟨⟩:Ts (λA'=>A'.bg b=some (.cells [pv eb,pv eG,df,bn,bU,nH bY bH,pv m,.int .i64 c.bR,eV,jt aJ c8,ik aI cU,bX,bV,bd,dh,.int .i64 cf.ba,.int .i64 cf.ao,.int .i64 cf.base,.int .i64 cf.c0,.int .i64 cf.c1,.int .i64 cf.c2,.int .i64 cf.c3,.int .i64 cf.reads,.int .i64 cf.bK,.int .i64 cf.ak,.int .i64 cf.av,.int .i64 cf.aw,.bool cf.aT,.int .i64 am,.int .i64 aA,.int .i64 az,.int .i64 3,dk,.func (.func 141) #[] #[pv c0],.int .i64 c.dD,.int .u64 value,bW,.int .u64 aw,.bool aj,.int .i64 an] true 1)) [0,0,0,0,0,0,3,0,0,0,0,1,0,2,3,0] (.aD 0 (.aD 1 (.aD 2 (.aD 3 (.aD 4 (.aD 5 (.aD 7 (.aD 8 (.aD 9 (.aD 10 (.aD 11 (.aD 12 (.qD 6 (.aD 13 (.aD 14 (.aD 15 .nil))) 13 (.aD 6 (.aD 14 (.aD 15 .nil)))))))))))))))))) (J6 h2 AE jg bz @be.eq_1 @aW.v.eq_1) (J2 ?_ ?_)<;>(unhygienic intros)
   all_goals(have h:c'.bR=c.bR+1/\c'.dD=c.dD:=⟨GV h3,zV⟩)
   all_goals(
    refine⟨_,by simp [hq,AW.af,aB];rfl,by simp [aW.v],?_⟩;apply aX.bO
    (·exact sA)
    exact fP
    (·first|exact pP|exact kP)
    all_goals(first|exact 0|exact undef))
 cases h4:c'.gM
 . by_cases h5:c.dD<cf.ba
   . by_cases h6:c.dD∈reads
     . have h7:(if c.dD<cf.ba/\¬c.dD∈reads then (⟨cf,am,aA,az,value,bY,aj,reads++[c.dD],ak,av,set,bu,aw,ao,aJ,aI,an,.bh c' .take⟩:aM) else ⟨cf,am,aA,az,value,bY,aj,reads,ak,av,set,bu,aw,ao,aJ,aI,an,.bh c' .take⟩)=⟨cf,am,aA,az,value,bY,aj,reads,ak,av,set,bu,aw,ao,aJ,aI,an,.bh c' .take⟩:=if_neg (λh=>h.2 h6);obtain⟨q,l2,rS⟩:∃q l2,dZ cf.reads.toNat set c.gE=(q,l2):=⟨_,_,rfl⟩;have gV:=λn=>mm n cf.reads.toNat set (gz cf c.dD) ke vE;rw [<-AH,rS] at gV;dsimp only at gV;have FD:l2.length<=cf.reads.toNat:=by
        have h9:(dZ cf.reads.toNat set c.gE).2=l2:=(by rw [rS]);rw [<-h9];unfold dZ;split;exact ke;split;exact ke;simp;omega
       have EN:q=false->l2=set:=by
        intro CY;have h9:(dZ cf.reads.toNat set c.gE).2=l2:=(by rw [rS]);have h8:(dZ cf.reads.toNat set c.gE).1=q:=(by rw [rS]);rw [<-h9];rw [CY] at h8;unfold dZ at h8 ⊢;split;rfl;split;rfl;rename_i g1 g2;rw [if_neg g1,if_neg g2] at h8;cases h8
       cases q
       . have QD:=EN rfl;subst l2;have e:dR ⟨cf,am,aA,az,value,bY,aj,reads,ak,av,set,bu,aw,ao,aJ,aI,an,.bh c .take⟩ M c .take=(x,5+c.bR,kz ⟨cf,am,aA,az,value,bY,aj,reads,ak,av,set,bu,aw,ao,aJ,aI,an,.bh c' .take⟩ 3,M'):=by
          unfold dR;rw [hr];dsimp only;rw [h2,h4,rS,h7];rfl
         rw [e];intro A F hw hS;refine aF Tryz.func116 λ_=>?_;dsimp only [aa,ag] at hS;obtain⟨x0,hS⟩:=aX.open hS .z;(unhygienic cases x0);dsimp only [b9,gZ,cF,ez,br.gf,aa,ag] at hS;have hq:=fC hS hw;rw [AH] at gV;revert hq hS hw;(repeat first|clear hq|clear hS|clear hw|revert hc|revert R|revert K);refine Wu (tA (Tg.mk (n:=10) @eO) (Tg.mk (n:=10) @dN) (Tg.mk (n:=14) @gg) (Tg.mk (n:=20) (iY b ⟨cf,am,aA,az,value,bY,aj,reads,ak,av,set,bu,aw,ao,aJ,aI,an,.bh c' .take⟩ 3 3 .bF hC.cf hC.al hC.push (Nat.lt_of_le_of_lt hC.mW (by decide)))) (od qS) (od qR) (od qQ) (od qP) @nB (dl m) (gV eb) (⟨⟩:Ts (λA'=>A'.bg b=some (.cells [pv eb,pv eG,df,bn,bU,nH bY bH,pv m,.int .i64 c.bR,eV,jt aJ c8,ik aI cU,bX,bV,bd,dh,.int .i64 cf.ba,.int .i64 cf.ao,.int .i64 cf.base,.int .i64 cf.c0,.int .i64 cf.c1,.int .i64 cf.c2,.int .i64 cf.c3,.int .i64 cf.reads,.int .i64 cf.bK,.int .i64 cf.ak,.int .i64 cf.av,.int .i64 cf.aw,.bool cf.aT,.int .i64 am,.int .i64 aA,.int .i64 az,.int .i64 3,dk,.func (.func 141) #[] #[pv c0],.int .i64 c.dD,.int .u64 value,bW,.int .u64 aw,.bool aj,.int .i64 an] true 1)) [0,0,0,0,0,0,3,0,0,0,0,1,0,2,3,0] (.aD 0 (.aD 1 (.aD 2 (.aD 3 (.aD 4 (.aD 5 (.aD 7 (.aD 8 (.aD 9 (.aD 10 (.aD 11 (.aD 12 (.qD 6 (.aD 13 (.aD 14 (.aD 15 .nil))) 13 (.aD 6 (.aD 14 (.aD 15 .nil)))))))))))))))))) (J9 h2 h4 h5 h6 AE jg bz @be.eq_1 @aW.v.eq_1) (J2 ?_ ?_)<;>(unhygienic intros)
         all_goals(
          refine⟨_,by simp [hq,AW.af,aB];rfl,by simp [aW.v],?_⟩;apply ah.bO
          (·exact sA)
          (·first|exact pP|exact kP))
       have e:dR ⟨cf,am,aA,az,value,bY,aj,reads,ak,av,set,bu,aw,ao,aJ,aI,an,.bh c .take⟩ M c .take=(x,5+c.bR,BS ⟨cf,am,aA,az,value,bY,aj,reads,ak,av,l2,bu,aw,ao,aJ,aI,an,.bF⟩ c'.val .take,M'):=by
        unfold dR;rw [hr];dsimp only;rw [h2,h4,rS,h7];rfl
       rw [e];intro A F hw hS;refine aF Tryz.func116 λ_=>?_;dsimp only [aa,ag] at hS;obtain⟨x0,hS⟩:=aX.open hS .z;(unhygienic cases x0);dsimp only [b9,gZ,cF,ez,br.gf,aa,ag] at hS;have hq:=fC hS hw;rw [AH] at gV;revert hq hS hw;(repeat first|clear hq|clear hS|clear hw|revert hc|revert R|revert K);refine Wu (mi (Tg.mk (n:=10) @eO) (Tg.mk (n:=10) @dN) (Tg.mk (n:=14) @gg) (Tg.mk (n:=10) @kh) (Tg.mk (n:=21) (oZ b c0 ⟨cf,am,aA,az,value,bY,aj,reads,ak,av,l2,bu,aw,ao,aJ,aI,an,.bF⟩ c'.val rfl)) (od qS) (od qR) (od qQ) (od qP) @nB (dl m) (gV eb) (⟨⟩:Ts (λA'=>A'.bg b=some (.cells [pv eb,pv eG,df,bn,bU,nH bY bH,pv m,.int .i64 c.bR,eV,jt aJ c8,ik aI cU,bX,bV,bd,dh,.int .i64 cf.ba,.int .i64 cf.ao,.int .i64 cf.base,.int .i64 cf.c0,.int .i64 cf.c1,.int .i64 cf.c2,.int .i64 cf.c3,.int .i64 cf.reads,.int .i64 cf.bK,.int .i64 cf.ak,.int .i64 cf.av,.int .i64 cf.aw,.bool cf.aT,.int .i64 am,.int .i64 aA,.int .i64 az,.int .i64 3,dk,.func (.func 141) #[] #[pv c0],.int .i64 c.dD,.int .u64 value,bW,.int .u64 aw,.bool aj,.int .i64 an] true 1)) [0,0,0,0,0,0,3,0,0,0,0,1,0,2,3,0] (.aD 0 (.aD 1 (.aD 2 (.aD 3 (.aD 4 (.aD 5 (.aD 7 (.aD 8 (.aD 9 (.aD 10 (.aD 11 (.aD 12 (.qD 6 (.aD 13 (.aD 14 (.aD 15 .nil))) 13 (.aD 6 (.aD 14 (.aD 15 .nil)))))))))))))))))) (J9 h2 h4 h5 h6 AE jg bz @be.eq_1 @aW.v.eq_1) (J2 ?_ ?_)<;>(unhygienic intros)
       all_goals(
        refine⟨_,by simp [hq,AW.af,aB];rfl,by simp [aW.v],?_⟩;apply ah.bO
        (·exact sA)
        (·first|exact pP|exact kP))
     have h7:(if c.dD<cf.ba/\¬c.dD∈reads then (⟨cf,am,aA,az,value,bY,aj,reads++[c.dD],ak,av,set,bu,aw,ao,aJ,aI,an,.bh c' .take⟩:aM) else ⟨cf,am,aA,az,value,bY,aj,reads,ak,av,set,bu,aw,ao,aJ,aI,an,.bh c' .take⟩)=⟨cf,am,aA,az,value,bY,aj,reads++[c.dD],ak,av,set,bu,aw,ao,aJ,aI,an,.bh c' .take⟩:=if_pos ⟨h5,h6⟩;obtain⟨q,l2,rS⟩:∃q l2,dZ cf.reads.toNat set c.gE=(q,l2):=⟨_,_,rfl⟩;have gV:=λn=>mm n cf.reads.toNat set (gz cf c.dD) ke vE;rw [<-AH,rS] at gV;dsimp only at gV;have FD:l2.length<=cf.reads.toNat:=by
      have h9:(dZ cf.reads.toNat set c.gE).2=l2:=(by rw [rS]);rw [<-h9];unfold dZ;split;exact ke;split;exact ke;simp;omega
     have EN:q=false->l2=set:=by
      intro CY;have h9:(dZ cf.reads.toNat set c.gE).2=l2:=(by rw [rS]);have h8:(dZ cf.reads.toNat set c.gE).1=q:=(by rw [rS]);rw [<-h9];rw [CY] at h8;unfold dZ at h8 ⊢;split;rfl;split;rfl;rename_i g1 g2;rw [if_neg g1,if_neg g2] at h8;cases h8
     cases q
     . have QD:=EN rfl;subst l2;have e:dR ⟨cf,am,aA,az,value,bY,aj,reads,ak,av,set,bu,aw,ao,aJ,aI,an,.bh c .take⟩ M c .take=(x,5+c.bR,kz ⟨cf,am,aA,az,value,bY,aj,reads++[c.dD],ak,av,set,bu,aw,ao,aJ,aI,an,.bh c' .take⟩ 3,M'):=by
        unfold dR;rw [hr];dsimp only;rw [h2,h4,rS,h7];rfl
       rw [e];intro A F hw hS;refine aF Tryz.func116 λ_=>?_;dsimp only [aa,ag] at hS;obtain⟨x0,hS⟩:=aX.open hS .z;(unhygienic cases x0);dsimp only [b9,gZ,cF,ez,br.gf,aa,ag] at hS;have hq:=fC hS hw;rw [AH] at gV;revert hq hS hw;(repeat first|clear hq|clear hS|clear hw|revert hc|revert R|revert K);refine Wu (tA (Tg.mk (n:=10) @eO) (Tg.mk (n:=10) @dN) (Tg.mk (n:=14) @gg) (Tg.mk (n:=20) (iY b ⟨cf,am,aA,az,value,bY,aj,reads++[c.dD],ak,av,set,bu,aw,ao,aJ,aI,an,.bh c' .take⟩ 3 3 .bF hC.cf hC.al hC.push (Nat.lt_of_le_of_lt hC.mW (by decide)))) (od qS) (od qR) (od qQ) (od qP) @nB (dl m) (gV eb) (⟨⟩:Ts (λA'=>A'.bg b=some (.cells [pv eb,pv eG,df,bn,bU,nH bY bH,pv m,.int .i64 c.bR,eV,jt aJ c8,ik aI cU,bX,bV,bd,dh,.int .i64 cf.ba,.int .i64 cf.ao,.int .i64 cf.base,.int .i64 cf.c0,.int .i64 cf.c1,.int .i64 cf.c2,.int .i64 cf.c3,.int .i64 cf.reads,.int .i64 cf.bK,.int .i64 cf.ak,.int .i64 cf.av,.int .i64 cf.aw,.bool cf.aT,.int .i64 am,.int .i64 aA,.int .i64 az,.int .i64 3,dk,.func (.func 141) #[] #[pv c0],.int .i64 c.dD,.int .u64 value,bW,.int .u64 aw,.bool aj,.int .i64 an] true 1)) [0,0,0,0,0,0,3,0,0,0,0,1,0,2,3,0] (.aD 0 (.aD 1 (.aD 2 (.aD 3 (.aD 4 (.aD 5 (.aD 7 (.aD 8 (.aD 9 (.aD 10 (.aD 11 (.aD 12 (.qD 6 (.aD 13 (.aD 14 (.aD 15 .nil))) 13 (.aD 6 (.aD 14 (.aD 15 .nil)))))))))))))))))) (J9 h2 h4 h5 h6 AE jg bz @be.eq_1 @aW.v.eq_1) (J2 ?_ ?_)<;>(unhygienic intros)
       all_goals(
        refine⟨_,by simp [hq,AW.af,aB];rfl,by simp [aW.v],?_⟩;apply ah.bO
        (·exact sA)
        (·first|exact pP|exact kP))
     have e:dR ⟨cf,am,aA,az,value,bY,aj,reads,ak,av,set,bu,aw,ao,aJ,aI,an,.bh c .take⟩ M c .take=(x,5+c.bR,BS ⟨cf,am,aA,az,value,bY,aj,reads++[c.dD],ak,av,l2,bu,aw,ao,aJ,aI,an,.bF⟩ c'.val .take,M'):=by
      unfold dR;rw [hr];dsimp only;rw [h2,h4,rS,h7];rfl
     rw [e];intro A F hw hS;refine aF Tryz.func116 λ_=>?_;dsimp only [aa,ag] at hS;obtain⟨x0,hS⟩:=aX.open hS .z;(unhygienic cases x0);dsimp only [b9,gZ,cF,ez,br.gf,aa,ag] at hS;have hq:=fC hS hw;rw [AH] at gV;revert hq hS hw;(repeat first|clear hq|clear hS|clear hw|revert hc|revert R|revert K);refine Wu (mi (Tg.mk (n:=10) @eO) (Tg.mk (n:=10) @dN) (Tg.mk (n:=14) @gg) (Tg.mk (n:=10) @kh) (Tg.mk (n:=21) (oZ b c0 ⟨cf,am,aA,az,value,bY,aj,reads++[c.dD],ak,av,l2,bu,aw,ao,aJ,aI,an,.bF⟩ c'.val rfl)) (od qS) (od qR) (od qQ) (od qP) @nB (dl m) (gV eb) (⟨⟩:Ts (λA'=>A'.bg b=some (.cells [pv eb,pv eG,df,bn,bU,nH bY bH,pv m,.int .i64 c.bR,eV,jt aJ c8,ik aI cU,bX,bV,bd,dh,.int .i64 cf.ba,.int .i64 cf.ao,.int .i64 cf.base,.int .i64 cf.c0,.int .i64 cf.c1,.int .i64 cf.c2,.int .i64 cf.c3,.int .i64 cf.reads,.int .i64 cf.bK,.int .i64 cf.ak,.int .i64 cf.av,.int .i64 cf.aw,.bool cf.aT,.int .i64 am,.int .i64 aA,.int .i64 az,.int .i64 3,dk,.func (.func 141) #[] #[pv c0],.int .i64 c.dD,.int .u64 value,bW,.int .u64 aw,.bool aj,.int .i64 an] true 1)) [0,0,0,0,0,0,3,0,0,0,0,1,0,2,3,0] (.aD 0 (.aD 1 (.aD 2 (.aD 3 (.aD 4 (.aD 5 (.aD 7 (.aD 8 (.aD 9 (.aD 10 (.aD 11 (.aD 12 (.qD 6 (.aD 13 (.aD 14 (.aD 15 .nil))) 13 (.aD 6 (.aD 14 (.aD 15 .nil)))))))))))))))))) (J9 h2 h4 h5 h6 AE jg bz @be.eq_1 @aW.v.eq_1) (J2 ?_ ?_)<;>(unhygienic intros)
     all_goals(
      refine⟨_,by simp [hq,AW.af,aB];rfl,by simp [aW.v],?_⟩;apply ah.bO
      (·exact sA)
      (·first|exact pP|exact kP))
   have h6:True:=trivial;have h7:(if c.dD<cf.ba/\¬c.dD∈reads then (⟨cf,am,aA,az,value,bY,aj,reads++[c.dD],ak,av,set,bu,aw,ao,aJ,aI,an,.bh c' .take⟩:aM) else ⟨cf,am,aA,az,value,bY,aj,reads,ak,av,set,bu,aw,ao,aJ,aI,an,.bh c' .take⟩)=⟨cf,am,aA,az,value,bY,aj,reads,ak,av,set,bu,aw,ao,aJ,aI,an,.bh c' .take⟩:=if_neg (λh=>h5 h.1);obtain⟨q,l2,rS⟩:∃q l2,dZ cf.reads.toNat set c.gE=(q,l2):=⟨_,_,rfl⟩;have gV:=λn=>mm n cf.reads.toNat set (gz cf c.dD) ke vE;rw [<-AH,rS] at gV;dsimp only at gV;have FD:l2.length<=cf.reads.toNat:=by
    have h9:(dZ cf.reads.toNat set c.gE).2=l2:=(by rw [rS]);rw [<-h9];unfold dZ;split;exact ke;split;exact ke;simp;omega
   have EN:q=false->l2=set:=by
    intro CY;have h9:(dZ cf.reads.toNat set c.gE).2=l2:=(by rw [rS]);have h8:(dZ cf.reads.toNat set c.gE).1=q:=(by rw [rS]);rw [<-h9];rw [CY] at h8;unfold dZ at h8 ⊢;split;rfl;split;rfl;rename_i g1 g2;rw [if_neg g1,if_neg g2] at h8;cases h8
   cases q
   . have QD:=EN rfl;subst l2;have e:dR ⟨cf,am,aA,az,value,bY,aj,reads,ak,av,set,bu,aw,ao,aJ,aI,an,.bh c .take⟩ M c .take=(x,5+c.bR,kz ⟨cf,am,aA,az,value,bY,aj,reads,ak,av,set,bu,aw,ao,aJ,aI,an,.bh c' .take⟩ 3,M'):=by
      unfold dR;rw [hr];dsimp only;rw [h2,h4,rS,h7];rfl
     rw [e];intro A F hw hS;refine aF Tryz.func116 λ_=>?_;dsimp only [aa,ag] at hS;obtain⟨x0,hS⟩:=aX.open hS .z;(unhygienic cases x0);dsimp only [b9,gZ,cF,ez,br.gf,aa,ag] at hS;have hq:=fC hS hw;rw [AH] at gV;revert hq hS hw;(repeat first|clear hq|clear hS|clear hw|revert hc|revert R|revert K);refine Wu (tA (Tg.mk (n:=10) @eO) (Tg.mk (n:=10) @dN) (Tg.mk (n:=14) @gg) (Tg.mk (n:=20) (iY b ⟨cf,am,aA,az,value,bY,aj,reads,ak,av,set,bu,aw,ao,aJ,aI,an,.bh c' .take⟩ 3 3 .bF hC.cf hC.al hC.push (Nat.lt_of_le_of_lt hC.mW (by decide)))) (od qS) (od qR) (od qQ) (od qP) @nB (dl m) (gV eb) (⟨⟩:Ts (λA'=>A'.bg b=some (.cells [pv eb,pv eG,df,bn,bU,nH bY bH,pv m,.int .i64 c.bR,eV,jt aJ c8,ik aI cU,bX,bV,bd,dh,.int .i64 cf.ba,.int .i64 cf.ao,.int .i64 cf.base,.int .i64 cf.c0,.int .i64 cf.c1,.int .i64 cf.c2,.int .i64 cf.c3,.int .i64 cf.reads,.int .i64 cf.bK,.int .i64 cf.ak,.int .i64 cf.av,.int .i64 cf.aw,.bool cf.aT,.int .i64 am,.int .i64 aA,.int .i64 az,.int .i64 3,dk,.func (.func 141) #[] #[pv c0],.int .i64 c.dD,.int .u64 value,bW,.int .u64 aw,.bool aj,.int .i64 an] true 1)) [0,0,0,0,0,0,3,0,0,0,0,1,0,2,3,0] (.aD 0 (.aD 1 (.aD 2 (.aD 3 (.aD 4 (.aD 5 (.aD 7 (.aD 8 (.aD 9 (.aD 10 (.aD 11 (.aD 12 (.qD 6 (.aD 13 (.aD 14 (.aD 15 .nil))) 13 (.aD 6 (.aD 14 (.aD 15 .nil)))))))))))))))))) (J9 h2 h4 h5 h6 AE jg bz @be.eq_1 @aW.v.eq_1) (J2 ?_ ?_)<;>(unhygienic intros)
     all_goals(
      refine⟨_,by simp [hq,AW.af,aB];rfl,by simp [aW.v],?_⟩;apply ah.bO
      (·exact sA)
      (·first|exact pP|exact kP))
   have e:dR ⟨cf,am,aA,az,value,bY,aj,reads,ak,av,set,bu,aw,ao,aJ,aI,an,.bh c .take⟩ M c .take=(x,5+c.bR,BS ⟨cf,am,aA,az,value,bY,aj,reads,ak,av,l2,bu,aw,ao,aJ,aI,an,.bF⟩ c'.val .take,M'):=by
    unfold dR;rw [hr];dsimp only;rw [h2,h4,rS,h7];rfl
   rw [e];intro A F hw hS;refine aF Tryz.func116 λ_=>?_;dsimp only [aa,ag] at hS;obtain⟨x0,hS⟩:=aX.open hS .z;(unhygienic cases x0);dsimp only [b9,gZ,cF,ez,br.gf,aa,ag] at hS;have hq:=fC hS hw;rw [AH] at gV;revert hq hS hw;(repeat first|clear hq|clear hS|clear hw|revert hc|revert R|revert K);refine Wu (mi (Tg.mk (n:=10) @eO) (Tg.mk (n:=10) @dN) (Tg.mk (n:=14) @gg) (Tg.mk (n:=10) @kh) (Tg.mk (n:=21) (oZ b c0 ⟨cf,am,aA,az,value,bY,aj,reads,ak,av,l2,bu,aw,ao,aJ,aI,an,.bF⟩ c'.val rfl)) (od qS) (od qR) (od qQ) (od qP) @nB (dl m) (gV eb) (⟨⟩:Ts (λA'=>A'.bg b=some (.cells [pv eb,pv eG,df,bn,bU,nH bY bH,pv m,.int .i64 c.bR,eV,jt aJ c8,ik aI cU,bX,bV,bd,dh,.int .i64 cf.ba,.int .i64 cf.ao,.int .i64 cf.base,.int .i64 cf.c0,.int .i64 cf.c1,.int .i64 cf.c2,.int .i64 cf.c3,.int .i64 cf.reads,.int .i64 cf.bK,.int .i64 cf.ak,.int .i64 cf.av,.int .i64 cf.aw,.bool cf.aT,.int .i64 am,.int .i64 aA,.int .i64 az,.int .i64 3,dk,.func (.func 141) #[] #[pv c0],.int .i64 c.dD,.int .u64 value,bW,.int .u64 aw,.bool aj,.int .i64 an] true 1)) [0,0,0,0,0,0,3,0,0,0,0,1,0,2,3,0] (.aD 0 (.aD 1 (.aD 2 (.aD 3 (.aD 4 (.aD 5 (.aD 7 (.aD 8 (.aD 9 (.aD 10 (.aD 11 (.aD 12 (.qD 6 (.aD 13 (.aD 14 (.aD 15 .nil))) 13 (.aD 6 (.aD 14 (.aD 15 .nil)))))))))))))))))) (J9 h2 h4 h5 h6 AE jg bz @be.eq_1 @aW.v.eq_1) (J2 ?_ ?_)<;>(unhygienic intros)
   all_goals(
    refine⟨_,by simp [hq,AW.af,aB];rfl,by simp [aW.v],?_⟩;apply ah.bO
    (·exact sA)
    (·first|exact pP|exact kP))
 have e:dR ⟨cf,am,aA,az,value,bY,aj,reads,ak,av,set,bu,aw,ao,aJ,aI,an,.bh c .take⟩ M c .take=(x,5+c.bR,kz ⟨cf,am,aA,az,value,bY,aj,reads,ak,av,set,bu,aw,ao,aJ,aI,an,.bh c' .take⟩ 9,M'):=by
  unfold dR;rw [hr];dsimp only;rw [h2,h4];simp
 rw [e];intro A F hw hS;refine aF Tryz.func116 λ_=>?_;dsimp only [aa,ag] at hS;obtain⟨x0,hS⟩:=aX.open hS .z;(unhygienic cases x0);dsimp only [b9,gZ,cF,ez,br.gf,aa,ag] at hS;have hq:=fC hS hw;revert hq hS hw;(repeat first|clear hq|clear hS|clear hw|revert hc|revert R|revert K);refine Wu (J9 (Tg.mk (n:=10) @eO) (Tg.mk (n:=10) @dN) (Tg.mk (n:=20) (iY b ⟨cf,am,aA,az,value,bY,aj,reads,ak,av,set,bu,aw,ao,aJ,aI,an,.bh c' .take⟩ 3 9 .bF hC.cf hC.al hC.push (Nat.lt_of_le_of_lt hC.mW (by decide)))) (od qS) (od qR) (od qQ) (od qP) (dl m) (⟨⟩:Ts (λA'=>A'.bg b=some (.cells [pv eb,pv eG,df,bn,bU,nH bY bH,pv m,.int .i64 c.bR,eV,jt aJ c8,ik aI cU,bX,bV,bd,dh,.int .i64 cf.ba,.int .i64 cf.ao,.int .i64 cf.base,.int .i64 cf.c0,.int .i64 cf.c1,.int .i64 cf.c2,.int .i64 cf.c3,.int .i64 cf.reads,.int .i64 cf.bK,.int .i64 cf.ak,.int .i64 cf.av,.int .i64 cf.aw,.bool cf.aT,.int .i64 am,.int .i64 aA,.int .i64 az,.int .i64 3,dk,.func (.func 141) #[] #[pv c0],.int .i64 c.dD,.int .u64 value,bW,.int .u64 aw,.bool aj,.int .i64 an] true 1)) [0,0,0,0,0,0,3,0,0,0,0,1,0,2,3,0] (.aD 0 (.aD 1 (.aD 2 (.aD 3 (.aD 4 (.aD 5 (.aD 7 (.aD 8 (.aD 9 (.aD 10 (.aD 11 (.aD 12 (.qD 6 (.aD 13 (.aD 14 (.aD 15 .nil))) 13 (.aD 6 (.aD 14 (.aD 15 .nil)))))))))))))))))) (J7 h2 h4 AE jg bz @be.eq_1 @aW.v.eq_1) (J2 ?_ ?_)<;>(unhygienic intros)
 all_goals(
  refine⟨_,by simp [hq,AW.af,aB];rfl,by simp [aW.v],?_⟩;apply ah.bO
  (·exact sA)
  (·first|exact pP|exact kP))
end
section
abbrev qO:List (Nat×Nat):=[(0,0),(1,0),(2,0),(3,0),(4,0),(5,0),(6,0),(7,0),(8,0),(9,0),(10,0),(11,0),(12,0),(13,0),(14,0),(15,0),(16,0),(17,0),(18,0),(19,0),(20,2),(21,0),(22,0)]
abbrev qN:List (Nat×Nat):=[(0,0),(1,0),(2,0),(3,0),(4,0),(5,0),(6,0),(7,0),(8,0),(9,0),(10,2),(11,3),(12,0),(13,0),(14,0),(15,3)]
abbrev qM:List (Nat×Nat):=[(0,0),(1,0),(2,0),(3,0),(4,0),(5,0),(6,0),(7,0),(8,0),(9,0),(10,0),(11,0),(12,0),(13,2),(14,3),(15,0)]
abbrev qL:List (Nat×Nat):=[(0,0),(1,0),(2,0),(3,0),(4,0),(5,0),(6,0),(7,0),(8,0),(9,2),(10,3)]
open T20 T13
variable [Gl]
set_option maxHeartbeats 16000000 in
theorem Cb (b pb:Nat) (s:aM) (c:ip) (kb:Int) (M:Mm) (hd:s.aG=.bh c (.dq kb)) (hC:gq s) (hrl:s.reads.length+1<2^20) (hca:0<=c.bR/\c.bR<=2) (AH:c.gE=gz s.cf c.dD) (hkb:0<=kb/\kb<s.cf.nb) :
 bf Tryz.prog 116 [pv b,pv pb] [.h (aX b s),dG pb M] (λv=>v=.tuple #[(dR s M c (.dq kb)).1.v,.int .i64 (dR s M c (.dq kb)).2.1])
  (λ_=>[.h (aX b (dR s M c (.dq kb)).2.2.1),dG pb (dR s M c (.dq kb)).2.2.2]):=by
 (unhygienic cases s);dsimp only at hd;subst hd;dsimp only at hkb;dsimp only at AH hrl;obtain⟨Xh,CX⟩:=hC.cf.reads;have ke:=hC.set;dsimp only at Xh CX ke;have vE:cf.reads.toNat<=32:=by omega
 obtain⟨x,c',M',hr⟩:∃x e' M',dY c M=(x,e',M'):=⟨_,_,_,rfl⟩;have dl:=λn=>vT n pb c M;rw [hr] at dl;have AE:IntKind.i64.wrap (5+c.bR)=5+c.bR:=ai (by omega) (by omega);have jg:IntKind.i64.wrap (c.bR+1)=c.bR+1:=ai (by omega) (by omega);have GV:¬c'.bR=3->c'.bR=c.bR+1:=by
  intro hn;have OR:(dY c M).2.1=c':=by rw [hr]
  rcases pT c M with ⟨h,e⟩|⟨h,e⟩|⟨h,e⟩|⟨h,e⟩|⟨h,e⟩|⟨h,e⟩<;>(rw [e] at OR;subst OR;dsimp only at hn ⊢;try omega)
 have zV:c'.dD=c.dD:=by
  have OR:(dY c M).2.1=c':=by rw [hr]
  rcases pT c M with ⟨h,e⟩|⟨h,e⟩|⟨h,e⟩|⟨h,e⟩|⟨h,e⟩|⟨h,e⟩<;>(rw [e] at OR;subst OR;rfl)
 have nB:=uV cf hC.cf c.dD;dsimp only [bq.v] at nB;have hCX:∀rd l2,rd.length<2^20->l2.length<=cf.reads.toNat->gq ⟨cf,am,aA,az,value,bY,aj,rd,ak,av,l2,bu,aw,ao,aJ,aI,an,.bF⟩:=λrd l2 h1 h2=>⟨hC.cf,hC.Pi,hC.bu,hC.ef,hC.dJ,hC.Hs,hC.O2,hC.mW,hC.push,h2,h1,hC.Bq⟩;cases h2:c'.done
 . have h3:¬c'.bR=3:=by simpa [ip.done] using h2
   have e:dR ⟨cf,am,aA,az,value,bY,aj,reads,ak,av,set,bu,aw,ao,aJ,aI,an,.bh c (.dq kb)⟩ M c (.dq kb)=(x,5+c.bR,⟨cf,am,aA,az,value,bY,aj,reads,ak,av,set,bu,aw,ao,aJ,aI,an,.bh c' (.dq kb)⟩,M'):=by
    unfold dR;rw [hr];dsimp only;rw [h2];simp
   rw [e];intro A F hw hS;refine aF Tryz.func116 λ_=>?_;dsimp only [aa,ag] at hS;obtain⟨x0,hS⟩:=aX.open hS .z;(unhygienic cases x0);dsimp only [b9,gZ,cF,ez,br.gf,aa,ag] at hS;have hq:=fC hS hw;revert hq hS hw;clear hS;refine Wu (J7 (Tg.mk (n:=10) @eO) (od qO) (od qN) (od qM) (od qL) (dl m) (⟨⟩:Ts (λA'=>A'.bg b=some (.cells [pv eb,pv eG,df,bn,bU,nH bY bH,pv m,.int .i64 c.bR,eV,jt aJ c8,ik aI cU,bX,bV,bd,dh,.int .i64 cf.ba,.int .i64 cf.ao,.int .i64 cf.base,.int .i64 cf.c0,.int .i64 cf.c1,.int .i64 cf.c2,.int .i64 cf.c3,.int .i64 cf.reads,.int .i64 cf.bK,.int .i64 cf.ak,.int .i64 cf.av,.int .i64 cf.aw,.bool cf.aT,.int .i64 am,.int .i64 aA,.int .i64 az,.int .i64 3,dk,.func (.func 223) #[] #[pv c0,pv c1],.int .i64 c.dD,.int .u64 value,bW,.int .u64 aw,.bool aj,.int .i64 an] true 1)) [0,0,0,0,0,0,3,0,0,0,0,1,0,2,3,0] (.aD 0 (.aD 1 (.aD 2 (.aD 3 (.aD 4 (.aD 5 (.aD 7 (.aD 8 (.aD 9 (.aD 10 (.aD 11 (.aD 12 (.qD 6 (.aD 13 (.aD 14 (.aD 15 .nil))) 13 (.aD 6 (.aD 14 (.aD 15 .nil)))))))))))))))))) (J6 h2 AE jg bz @be.eq_1 @aW.v.eq_1) (J2 ?_ ?_)<;>(unhygienic intros)
   all_goals(have h:c'.bR=c.bR+1/\c'.dD=c.dD:=⟨GV h3,zV⟩)
   all_goals(
    refine⟨_,by simp [hq,AW.af,aB];rfl,by simp [aW.v],?_⟩;apply aX.bO
    (·exact sA)
    exact fP
    (·first|exact pP|exact kP)
    all_goals(first|exact 0|exact undef))
 cases h4:c'.gM
 . by_cases h5:c.dD<cf.ba
   . by_cases h6:c.dD∈reads
     . have h7:(if c.dD<cf.ba/\¬c.dD∈reads then (⟨cf,am,aA,az,value,bY,aj,reads++[c.dD],ak,av,set,bu,aw,ao,aJ,aI,an,.bh c' (.dq kb)⟩:aM) else ⟨cf,am,aA,az,value,bY,aj,reads,ak,av,set,bu,aw,ao,aJ,aI,an,.bh c' (.dq kb)⟩)=⟨cf,am,aA,az,value,bY,aj,reads,ak,av,set,bu,aw,ao,aJ,aI,an,.bh c' (.dq kb)⟩:=if_neg (λh=>h.2 h6);obtain⟨q,l2,rS⟩:∃q l2,dZ cf.reads.toNat set c.gE=(q,l2):=⟨_,_,rfl⟩;have gV:=λn=>mm n cf.reads.toNat set (gz cf c.dD) ke vE;rw [<-AH,rS] at gV;dsimp only at gV;have FD:l2.length<=cf.reads.toNat:=by
        have h9:(dZ cf.reads.toNat set c.gE).2=l2:=(by rw [rS]);rw [<-h9];unfold dZ;split;exact ke;split;exact ke;simp;omega
       have EN:q=false->l2=set:=by
        intro CY;have h9:(dZ cf.reads.toNat set c.gE).2=l2:=(by rw [rS]);have h8:(dZ cf.reads.toNat set c.gE).1=q:=(by rw [rS]);rw [<-h9];rw [CY] at h8;unfold dZ at h8 ⊢;split;rfl;split;rfl;rename_i g1 g2;rw [if_neg g1,if_neg g2] at h8;cases h8
       cases q
       . have QD:=EN rfl;subst l2;have e:dR ⟨cf,am,aA,az,value,bY,aj,reads,ak,av,set,bu,aw,ao,aJ,aI,an,.bh c (.dq kb)⟩ M c (.dq kb)=(x,5+c.bR,kz ⟨cf,am,aA,az,value,bY,aj,reads,ak,av,set,bu,aw,ao,aJ,aI,an,.bh c' (.dq kb)⟩ 3,M'):=by
          unfold dR;rw [hr];dsimp only;rw [h2,h4,rS,h7];rfl
         rw [e];intro A F hw hS;refine aF Tryz.func116 λ_=>?_;dsimp only [aa,ag] at hS;obtain⟨x0,hS⟩:=aX.open hS .z;(unhygienic cases x0);dsimp only [b9,gZ,cF,ez,br.gf,aa,ag] at hS;have hq:=fC hS hw;rw [AH] at gV;revert hq hS hw;(repeat first|clear hq|clear hS|clear hw|revert hc|revert R|revert K);refine Wu (tA (Tg.mk (n:=10) @eO) (Tg.mk (n:=10) @dN) (Tg.mk (n:=14) @gg) (Tg.mk (n:=20) (iY b ⟨cf,am,aA,az,value,bY,aj,reads,ak,av,set,bu,aw,ao,aJ,aI,an,.bh c' (.dq kb)⟩ 3 3 .bF hC.cf hC.al hC.push (Nat.lt_of_le_of_lt hC.mW (by decide)))) (od qO) (od qN) (od qM) (od qL) @nB (dl m) (gV eb) (⟨⟩:Ts (λA'=>A'.bg b=some (.cells [pv eb,pv eG,df,bn,bU,nH bY bH,pv m,.int .i64 c.bR,eV,jt aJ c8,ik aI cU,bX,bV,bd,dh,.int .i64 cf.ba,.int .i64 cf.ao,.int .i64 cf.base,.int .i64 cf.c0,.int .i64 cf.c1,.int .i64 cf.c2,.int .i64 cf.c3,.int .i64 cf.reads,.int .i64 cf.bK,.int .i64 cf.ak,.int .i64 cf.av,.int .i64 cf.aw,.bool cf.aT,.int .i64 am,.int .i64 aA,.int .i64 az,.int .i64 3,dk,.func (.func 223) #[] #[pv c0,pv c1],.int .i64 c.dD,.int .u64 value,bW,.int .u64 aw,.bool aj,.int .i64 an] true 1)) [0,0,0,0,0,0,3,0,0,0,0,1,0,2,3,0] (.aD 0 (.aD 1 (.aD 2 (.aD 3 (.aD 4 (.aD 5 (.aD 7 (.aD 8 (.aD 9 (.aD 10 (.aD 11 (.aD 12 (.qD 6 (.aD 13 (.aD 14 (.aD 15 .nil))) 13 (.aD 6 (.aD 14 (.aD 15 .nil)))))))))))))))))) (J9 h2 h4 h5 h6 AE jg bz @be.eq_1 @aW.v.eq_1) (J2 ?_ ?_)<;>(unhygienic intros)
         all_goals(
          refine⟨_,by simp [hq,AW.af,aB];rfl,by simp [aW.v],?_⟩;apply ah.bO
          (·exact sA)
          (·first|exact pP|exact kP))
       have e:dR ⟨cf,am,aA,az,value,bY,aj,reads,ak,av,set,bu,aw,ao,aJ,aI,an,.bh c (.dq kb)⟩ M c (.dq kb)=(x,5+c.bR,BS ⟨cf,am,aA,az,value,bY,aj,reads,ak,av,l2,bu,aw,ao,aJ,aI,an,.bF⟩ c'.val (.dq kb),M'):=by
        unfold dR;rw [hr];dsimp only;rw [h2,h4,rS,h7];rfl
       rw [e];intro A F hw hS;refine aF Tryz.func116 λ_=>?_;dsimp only [aa,ag] at hS;obtain⟨x0,hS⟩:=aX.open hS .z;(unhygienic cases x0);dsimp only [b9,gZ,cF,ez,br.gf,aa,ag] at hS;have hq:=fC hS hw;rw [AH] at gV;revert hq hS hw;(repeat first|clear hq|clear hS|clear hw|revert hc|revert R|revert K);refine Wu (mi (Tg.mk (n:=10) @eO) (Tg.mk (n:=10) @dN) (Tg.mk (n:=14) @gg) (Tg.mk (n:=10) @kh) (Tg.mk (n:=21) (re b c0 c1 ⟨cf,am,aA,az,value,bY,aj,reads,ak,av,l2,bu,aw,ao,aJ,aI,an,.bF⟩ kb c'.val rfl (hCX (reads) l2 (by omega) FD) hkb)) (od qO) (od qN) (od qM) (od qL) @nB (dl m) (gV eb) (⟨⟩:Ts (λA'=>A'.bg b=some (.cells [pv eb,pv eG,df,bn,bU,nH bY bH,pv m,.int .i64 c.bR,eV,jt aJ c8,ik aI cU,bX,bV,bd,dh,.int .i64 cf.ba,.int .i64 cf.ao,.int .i64 cf.base,.int .i64 cf.c0,.int .i64 cf.c1,.int .i64 cf.c2,.int .i64 cf.c3,.int .i64 cf.reads,.int .i64 cf.bK,.int .i64 cf.ak,.int .i64 cf.av,.int .i64 cf.aw,.bool cf.aT,.int .i64 am,.int .i64 aA,.int .i64 az,.int .i64 3,dk,.func (.func 223) #[] #[pv c0,pv c1],.int .i64 c.dD,.int .u64 value,bW,.int .u64 aw,.bool aj,.int .i64 an] true 1)) [0,0,0,0,0,0,3,0,0,0,0,1,0,2,3,0] (.aD 0 (.aD 1 (.aD 2 (.aD 3 (.aD 4 (.aD 5 (.aD 7 (.aD 8 (.aD 9 (.aD 10 (.aD 11 (.aD 12 (.qD 6 (.aD 13 (.aD 14 (.aD 15 .nil))) 13 (.aD 6 (.aD 14 (.aD 15 .nil)))))))))))))))))) (J9 h2 h4 h5 h6 AE jg bz @be.eq_1 @aW.v.eq_1) (J2 ?_ ?_)<;>(unhygienic intros)
       all_goals(
        refine⟨_,by simp [hq,AW.af,aB];rfl,by simp [aW.v],?_⟩;apply ah.bO
        (·exact sA)
        (·first|exact pP|exact kP))
     have h7:(if c.dD<cf.ba/\¬c.dD∈reads then (⟨cf,am,aA,az,value,bY,aj,reads++[c.dD],ak,av,set,bu,aw,ao,aJ,aI,an,.bh c' (.dq kb)⟩:aM) else ⟨cf,am,aA,az,value,bY,aj,reads,ak,av,set,bu,aw,ao,aJ,aI,an,.bh c' (.dq kb)⟩)=⟨cf,am,aA,az,value,bY,aj,reads++[c.dD],ak,av,set,bu,aw,ao,aJ,aI,an,.bh c' (.dq kb)⟩:=if_pos ⟨h5,h6⟩;obtain⟨q,l2,rS⟩:∃q l2,dZ cf.reads.toNat set c.gE=(q,l2):=⟨_,_,rfl⟩;have gV:=λn=>mm n cf.reads.toNat set (gz cf c.dD) ke vE;rw [<-AH,rS] at gV;dsimp only at gV;have FD:l2.length<=cf.reads.toNat:=by
      have h9:(dZ cf.reads.toNat set c.gE).2=l2:=(by rw [rS]);rw [<-h9];unfold dZ;split;exact ke;split;exact ke;simp;omega
     have EN:q=false->l2=set:=by
      intro CY;have h9:(dZ cf.reads.toNat set c.gE).2=l2:=(by rw [rS]);have h8:(dZ cf.reads.toNat set c.gE).1=q:=(by rw [rS]);rw [<-h9];rw [CY] at h8;unfold dZ at h8 ⊢;split;rfl;split;rfl;rename_i g1 g2;rw [if_neg g1,if_neg g2] at h8;cases h8
     cases q
     . have QD:=EN rfl;subst l2;have e:dR ⟨cf,am,aA,az,value,bY,aj,reads,ak,av,set,bu,aw,ao,aJ,aI,an,.bh c (.dq kb)⟩ M c (.dq kb)=(x,5+c.bR,kz ⟨cf,am,aA,az,value,bY,aj,reads++[c.dD],ak,av,set,bu,aw,ao,aJ,aI,an,.bh c' (.dq kb)⟩ 3,M'):=by
        unfold dR;rw [hr];dsimp only;rw [h2,h4,rS,h7];rfl
       rw [e];intro A F hw hS;refine aF Tryz.func116 λ_=>?_;dsimp only [aa,ag] at hS;obtain⟨x0,hS⟩:=aX.open hS .z;(unhygienic cases x0);dsimp only [b9,gZ,cF,ez,br.gf,aa,ag] at hS;have hq:=fC hS hw;rw [AH] at gV;revert hq hS hw;(repeat first|clear hq|clear hS|clear hw|revert hc|revert R|revert K);refine Wu (tA (Tg.mk (n:=10) @eO) (Tg.mk (n:=10) @dN) (Tg.mk (n:=14) @gg) (Tg.mk (n:=20) (iY b ⟨cf,am,aA,az,value,bY,aj,reads++[c.dD],ak,av,set,bu,aw,ao,aJ,aI,an,.bh c' (.dq kb)⟩ 3 3 .bF hC.cf hC.al hC.push (Nat.lt_of_le_of_lt hC.mW (by decide)))) (od qO) (od qN) (od qM) (od qL) @nB (dl m) (gV eb) (⟨⟩:Ts (λA'=>A'.bg b=some (.cells [pv eb,pv eG,df,bn,bU,nH bY bH,pv m,.int .i64 c.bR,eV,jt aJ c8,ik aI cU,bX,bV,bd,dh,.int .i64 cf.ba,.int .i64 cf.ao,.int .i64 cf.base,.int .i64 cf.c0,.int .i64 cf.c1,.int .i64 cf.c2,.int .i64 cf.c3,.int .i64 cf.reads,.int .i64 cf.bK,.int .i64 cf.ak,.int .i64 cf.av,.int .i64 cf.aw,.bool cf.aT,.int .i64 am,.int .i64 aA,.int .i64 az,.int .i64 3,dk,.func (.func 223) #[] #[pv c0,pv c1],.int .i64 c.dD,.int .u64 value,bW,.int .u64 aw,.bool aj,.int .i64 an] true 1)) [0,0,0,0,0,0,3,0,0,0,0,1,0,2,3,0] (.aD 0 (.aD 1 (.aD 2 (.aD 3 (.aD 4 (.aD 5 (.aD 7 (.aD 8 (.aD 9 (.aD 10 (.aD 11 (.aD 12 (.qD 6 (.aD 13 (.aD 14 (.aD 15 .nil))) 13 (.aD 6 (.aD 14 (.aD 15 .nil)))))))))))))))))) (J9 h2 h4 h5 h6 AE jg bz @be.eq_1 @aW.v.eq_1) (J2 ?_ ?_)<;>(unhygienic intros)
       all_goals(
        refine⟨_,by simp [hq,AW.af,aB];rfl,by simp [aW.v],?_⟩;apply ah.bO
        (·exact sA)
        (·first|exact pP|exact kP))
     have e:dR ⟨cf,am,aA,az,value,bY,aj,reads,ak,av,set,bu,aw,ao,aJ,aI,an,.bh c (.dq kb)⟩ M c (.dq kb)=(x,5+c.bR,BS ⟨cf,am,aA,az,value,bY,aj,reads++[c.dD],ak,av,l2,bu,aw,ao,aJ,aI,an,.bF⟩ c'.val (.dq kb),M'):=by
      unfold dR;rw [hr];dsimp only;rw [h2,h4,rS,h7];rfl
     rw [e];intro A F hw hS;refine aF Tryz.func116 λ_=>?_;dsimp only [aa,ag] at hS;obtain⟨x0,hS⟩:=aX.open hS .z;(unhygienic cases x0);dsimp only [b9,gZ,cF,ez,br.gf,aa,ag] at hS;have hq:=fC hS hw;rw [AH] at gV;revert hq hS hw;(repeat first|clear hq|clear hS|clear hw|revert hc|revert R|revert K);refine Wu (mi (Tg.mk (n:=10) @eO) (Tg.mk (n:=10) @dN) (Tg.mk (n:=14) @gg) (Tg.mk (n:=10) @kh) (Tg.mk (n:=21) (re b c0 c1 ⟨cf,am,aA,az,value,bY,aj,reads++[c.dD],ak,av,l2,bu,aw,ao,aJ,aI,an,.bF⟩ kb c'.val rfl (hCX (reads++[c.dD]) l2 (by simp<;>omega) FD) hkb)) (od qO) (od qN) (od qM) (od qL) @nB (dl m) (gV eb) (⟨⟩:Ts (λA'=>A'.bg b=some (.cells [pv eb,pv eG,df,bn,bU,nH bY bH,pv m,.int .i64 c.bR,eV,jt aJ c8,ik aI cU,bX,bV,bd,dh,.int .i64 cf.ba,.int .i64 cf.ao,.int .i64 cf.base,.int .i64 cf.c0,.int .i64 cf.c1,.int .i64 cf.c2,.int .i64 cf.c3,.int .i64 cf.reads,.int .i64 cf.bK,.int .i64 cf.ak,.int .i64 cf.av,.int .i64 cf.aw,.bool cf.aT,.int .i64 am,.int .i64 aA,.int .i64 az,.int .i64 3,dk,.func (.func 223) #[] #[pv c0,pv c1],.int .i64 c.dD,.int .u64 value,bW,.int .u64 aw,.bool aj,.int .i64 an] true 1)) [0,0,0,0,0,0,3,0,0,0,0,1,0,2,3,0] (.aD 0 (.aD 1 (.aD 2 (.aD 3 (.aD 4 (.aD 5 (.aD 7 (.aD 8 (.aD 9 (.aD 10 (.aD 11 (.aD 12 (.qD 6 (.aD 13 (.aD 14 (.aD 15 .nil))) 13 (.aD 6 (.aD 14 (.aD 15 .nil)))))))))))))))))) (J9 h2 h4 h5 h6 AE jg bz @be.eq_1 @aW.v.eq_1) (J2 ?_ ?_)<;>(unhygienic intros)
     all_goals(
      refine⟨_,by simp [hq,AW.af,aB];rfl,by simp [aW.v],?_⟩;apply ah.bO
      (·exact sA)
      (·first|exact pP|exact kP))
   have h6:True:=trivial;have h7:(if c.dD<cf.ba/\¬c.dD∈reads then (⟨cf,am,aA,az,value,bY,aj,reads++[c.dD],ak,av,set,bu,aw,ao,aJ,aI,an,.bh c' (.dq kb)⟩:aM) else ⟨cf,am,aA,az,value,bY,aj,reads,ak,av,set,bu,aw,ao,aJ,aI,an,.bh c' (.dq kb)⟩)=⟨cf,am,aA,az,value,bY,aj,reads,ak,av,set,bu,aw,ao,aJ,aI,an,.bh c' (.dq kb)⟩:=if_neg (λh=>h5 h.1);obtain⟨q,l2,rS⟩:∃q l2,dZ cf.reads.toNat set c.gE=(q,l2):=⟨_,_,rfl⟩;have gV:=λn=>mm n cf.reads.toNat set (gz cf c.dD) ke vE;rw [<-AH,rS] at gV;dsimp only at gV;have FD:l2.length<=cf.reads.toNat:=by
    have h9:(dZ cf.reads.toNat set c.gE).2=l2:=(by rw [rS]);rw [<-h9];unfold dZ;split;exact ke;split;exact ke;simp;omega
   have EN:q=false->l2=set:=by
    intro CY;have h9:(dZ cf.reads.toNat set c.gE).2=l2:=(by rw [rS]);have h8:(dZ cf.reads.toNat set c.gE).1=q:=(by rw [rS]);rw [<-h9];rw [CY] at h8;unfold dZ at h8 ⊢;split;rfl;split;rfl;rename_i g1 g2;rw [if_neg g1,if_neg g2] at h8;cases h8
   cases q
   . have QD:=EN rfl;subst l2;have e:dR ⟨cf,am,aA,az,value,bY,aj,reads,ak,av,set,bu,aw,ao,aJ,aI,an,.bh c (.dq kb)⟩ M c (.dq kb)=(x,5+c.bR,kz ⟨cf,am,aA,az,value,bY,aj,reads,ak,av,set,bu,aw,ao,aJ,aI,an,.bh c' (.dq kb)⟩ 3,M'):=by
      unfold dR;rw [hr];dsimp only;rw [h2,h4,rS,h7];rfl
     rw [e];intro A F hw hS;refine aF Tryz.func116 λ_=>?_;dsimp only [aa,ag] at hS;obtain⟨x0,hS⟩:=aX.open hS .z;(unhygienic cases x0);dsimp only [b9,gZ,cF,ez,br.gf,aa,ag] at hS;have hq:=fC hS hw;rw [AH] at gV;revert hq hS hw;(repeat first|clear hq|clear hS|clear hw|revert hc|revert R|revert K);refine Wu (tA (Tg.mk (n:=10) @eO) (Tg.mk (n:=10) @dN) (Tg.mk (n:=14) @gg) (Tg.mk (n:=20) (iY b ⟨cf,am,aA,az,value,bY,aj,reads,ak,av,set,bu,aw,ao,aJ,aI,an,.bh c' (.dq kb)⟩ 3 3 .bF hC.cf hC.al hC.push (Nat.lt_of_le_of_lt hC.mW (by decide)))) (od qO) (od qN) (od qM) (od qL) @nB (dl m) (gV eb) (⟨⟩:Ts (λA'=>A'.bg b=some (.cells [pv eb,pv eG,df,bn,bU,nH bY bH,pv m,.int .i64 c.bR,eV,jt aJ c8,ik aI cU,bX,bV,bd,dh,.int .i64 cf.ba,.int .i64 cf.ao,.int .i64 cf.base,.int .i64 cf.c0,.int .i64 cf.c1,.int .i64 cf.c2,.int .i64 cf.c3,.int .i64 cf.reads,.int .i64 cf.bK,.int .i64 cf.ak,.int .i64 cf.av,.int .i64 cf.aw,.bool cf.aT,.int .i64 am,.int .i64 aA,.int .i64 az,.int .i64 3,dk,.func (.func 223) #[] #[pv c0,pv c1],.int .i64 c.dD,.int .u64 value,bW,.int .u64 aw,.bool aj,.int .i64 an] true 1)) [0,0,0,0,0,0,3,0,0,0,0,1,0,2,3,0] (.aD 0 (.aD 1 (.aD 2 (.aD 3 (.aD 4 (.aD 5 (.aD 7 (.aD 8 (.aD 9 (.aD 10 (.aD 11 (.aD 12 (.qD 6 (.aD 13 (.aD 14 (.aD 15 .nil))) 13 (.aD 6 (.aD 14 (.aD 15 .nil)))))))))))))))))) (J9 h2 h4 h5 h6 AE jg bz @be.eq_1 @aW.v.eq_1) (J2 ?_ ?_)<;>(unhygienic intros)
     all_goals(
      refine⟨_,by simp [hq,AW.af,aB];rfl,by simp [aW.v],?_⟩;apply ah.bO
      (·exact sA)
      (·first|exact pP|exact kP))
   have e:dR ⟨cf,am,aA,az,value,bY,aj,reads,ak,av,set,bu,aw,ao,aJ,aI,an,.bh c (.dq kb)⟩ M c (.dq kb)=(x,5+c.bR,BS ⟨cf,am,aA,az,value,bY,aj,reads,ak,av,l2,bu,aw,ao,aJ,aI,an,.bF⟩ c'.val (.dq kb),M'):=by
    unfold dR;rw [hr];dsimp only;rw [h2,h4,rS,h7];rfl
   rw [e];intro A F hw hS;refine aF Tryz.func116 λ_=>?_;dsimp only [aa,ag] at hS;obtain⟨x0,hS⟩:=aX.open hS .z;(unhygienic cases x0);dsimp only [b9,gZ,cF,ez,br.gf,aa,ag] at hS;have hq:=fC hS hw;rw [AH] at gV;revert hq hS hw;(repeat first|clear hq|clear hS|clear hw|revert hc|revert R|revert K);refine Wu (mi (Tg.mk (n:=10) @eO) (Tg.mk (n:=10) @dN) (Tg.mk (n:=14) @gg) (Tg.mk (n:=10) @kh) (Tg.mk (n:=21) (re b c0 c1 ⟨cf,am,aA,az,value,bY,aj,reads,ak,av,l2,bu,aw,ao,aJ,aI,an,.bF⟩ kb c'.val rfl (hCX (reads) l2 (by omega) FD) hkb)) (od qO) (od qN) (od qM) (od qL) @nB (dl m) (gV eb) (⟨⟩:Ts (λA'=>A'.bg b=some (.cells [pv eb,pv eG,df,bn,bU,nH bY bH,pv m,.int .i64 c.bR,eV,jt aJ c8,ik aI cU,bX,bV,bd,dh,.int .i64 cf.ba,.int .i64 cf.ao,.int .i64 cf.base,.int .i64 cf.c0,.int .i64 cf.c1,.int .i64 cf.c2,.int .i64 cf.c3,.int .i64 cf.reads,.int .i64 cf.bK,.int .i64 cf.ak,.int .i64 cf.av,.int .i64 cf.aw,.bool cf.aT,.int .i64 am,.int .i64 aA,.int .i64 az,.int .i64 3,dk,.func (.func 223) #[] #[pv c0,pv c1],.int .i64 c.dD,.int .u64 value,bW,.int .u64 aw,.bool aj,.int .i64 an] true 1)) [0,0,0,0,0,0,3,0,0,0,0,1,0,2,3,0] (.aD 0 (.aD 1 (.aD 2 (.aD 3 (.aD 4 (.aD 5 (.aD 7 (.aD 8 (.aD 9 (.aD 10 (.aD 11 (.aD 12 (.qD 6 (.aD 13 (.aD 14 (.aD 15 .nil))) 13 (.aD 6 (.aD 14 (.aD 15 .nil)))))))))))))))))) (J9 h2 h4 h5 h6 AE jg bz @be.eq_1 @aW.v.eq_1) (J2 ?_ ?_)<;>(unhygienic intros)
   all_goals(
    refine⟨_,by simp [hq,AW.af,aB];rfl,by simp [aW.v],?_⟩;apply ah.bO
    (·exact sA)
    (·first|exact pP|exact kP))
 have e:dR ⟨cf,am,aA,az,value,bY,aj,reads,ak,av,set,bu,aw,ao,aJ,aI,an,.bh c (.dq kb)⟩ M c (.dq kb)=(x,5+c.bR,kz ⟨cf,am,aA,az,value,bY,aj,reads,ak,av,set,bu,aw,ao,aJ,aI,an,.bh c' (.dq kb)⟩ 9,M'):=by
  unfold dR;rw [hr];dsimp only;rw [h2,h4];simp
 rw [e];intro A F hw hS;refine aF Tryz.func116 λ_=>?_;dsimp only [aa,ag] at hS;obtain⟨x0,hS⟩:=aX.open hS .z;(unhygienic cases x0);dsimp only [b9,gZ,cF,ez,br.gf,aa,ag] at hS;have hq:=fC hS hw;revert hq hS hw;(repeat first|clear hq|clear hS|clear hw|revert hc|revert R|revert K);refine Wu (J9 (Tg.mk (n:=10) @eO) (Tg.mk (n:=10) @dN) (Tg.mk (n:=20) (iY b ⟨cf,am,aA,az,value,bY,aj,reads,ak,av,set,bu,aw,ao,aJ,aI,an,.bh c' (.dq kb)⟩ 3 9 .bF hC.cf hC.al hC.push (Nat.lt_of_le_of_lt hC.mW (by decide)))) (od qO) (od qN) (od qM) (od qL) (dl m) (⟨⟩:Ts (λA'=>A'.bg b=some (.cells [pv eb,pv eG,df,bn,bU,nH bY bH,pv m,.int .i64 c.bR,eV,jt aJ c8,ik aI cU,bX,bV,bd,dh,.int .i64 cf.ba,.int .i64 cf.ao,.int .i64 cf.base,.int .i64 cf.c0,.int .i64 cf.c1,.int .i64 cf.c2,.int .i64 cf.c3,.int .i64 cf.reads,.int .i64 cf.bK,.int .i64 cf.ak,.int .i64 cf.av,.int .i64 cf.aw,.bool cf.aT,.int .i64 am,.int .i64 aA,.int .i64 az,.int .i64 3,dk,.func (.func 223) #[] #[pv c0,pv c1],.int .i64 c.dD,.int .u64 value,bW,.int .u64 aw,.bool aj,.int .i64 an] true 1)) [0,0,0,0,0,0,3,0,0,0,0,1,0,2,3,0] (.aD 0 (.aD 1 (.aD 2 (.aD 3 (.aD 4 (.aD 5 (.aD 7 (.aD 8 (.aD 9 (.aD 10 (.aD 11 (.aD 12 (.qD 6 (.aD 13 (.aD 14 (.aD 15 .nil))) 13 (.aD 6 (.aD 14 (.aD 15 .nil)))))))))))))))))) (J7 h2 h4 AE jg bz @be.eq_1 @aW.v.eq_1) (J2 ?_ ?_)<;>(unhygienic intros)
 all_goals(
  refine⟨_,by simp [hq,AW.af,aB];rfl,by simp [aW.v],?_⟩;apply ah.bO
  (·exact sA)
  (·first|exact pP|exact kP))
end
end Go.Stx
