/-
 The program's attempt: its steps, fourth part.
-/
import Derived.Test.YtejgooipbmnioaaGreatDoorG14
set_option linter.unusedVariables false
set_option linter.unusedSimpArgs false
set_option linter.unusedSectionVars false
set_option maxRecDepth 20000
set_option maxHeartbeats 4000000
namespace Go.Stx
open Go Go.Proofs
attribute [local irreducible] TW cg eg bn aC aV cR df
section
abbrev tZ:List (Nat×Nat):=[(0,0),(1,2),(2,0),(3,0),(4,0),(5,0),(6,0),(7,0),(8,0),(9,0),(10,0),(11,0),(12,0),(13,0),(14,0)]
abbrev tY:List (Nat×Nat):=[(0,0),(1,0),(2,0),(3,0),(4,0),(5,0),(6,0),(8,0),(9,0),(10,0),(11,0),(12,0),(7,2),(13,2),(14,2),(15,0),(16,0),(17,3),(18,0),(19,0),(20,0),(21,3)]
open T14 T10
variable [Gl]
set_option maxRecDepth 20000 in
set_option maxHeartbeats 4000000 in
theorem u6 (b pb:Nat) (s:aT) (w:iQ) (M:Mm) (hd:s.aG=.cD w) (bW:w.os.length=w.ws.length) :
 aY Tryz.prog 155 [pv b,pv pb] [.h (bf b s),dx pb M] (fun v=>v=.tuple #[(lL s M w).1.v,.int .i64 (lL s M w).2.1])
  (fun _=>[.h (bf b (lL s M w).2.2.1),dx pb (lL s M w).2.2.2]):=by
 obtain⟨cf,am,aA,ay,value,bL,aj,reads,ai,av,set,bp,ax,an,aI,aH,ao,aG⟩:=s
 dsimp only at hd
 subst hd
 obtain⟨x,w',M',hr⟩:∃x e' M',jz w M=(x,e',M'):=⟨_,_,_,rfl⟩
 have cL:=fun n=>IL n pb w M bW
 rw [hr] at cL
 have RE:∀dd,aT.qE ⟨cf,am,aA,ay,value,bL,aj,reads,ai,av,set,bp,ax,an,aI,aH,ao,dd⟩=aT.qE ⟨cf,am,aA,ay,value,bL,aj,reads,ai,av,set,bp,ax,an,aI,aH,ao,.cD w⟩:=fun dd=>rfl
 obtain⟨vr,QM⟩:∃vr,aT.qE ⟨cf,am,aA,ay,value,bL,aj,reads,ai,av,set,bp,ax,an,aI,aH,ao,.cD w⟩=vr:=⟨_,rfl⟩
 rw [QM] at RE
 cases h2:w'.done
 · have e:lL ⟨cf,am,aA,ay,value,bL,aj,reads,ai,av,set,bp,ax,an,aI,aH,ao,.cD w⟩ M w=(x,18,⟨cf,am,aA,ay,value,bL,aj,reads,ai,av,set,bp,ax,an,aI,aH,ao,.cD w'⟩,M'):=by
    unfold lL;rw [hr];dsimp only;rw [h2];simp
   rw [e]
   intro A F hw hS
   refine ab Tryz.func155 rfl (by kernel_rfl) fun _=>?_
   dsimp only [af,ag] at hS
   obtain⟨⟨bD,bJ,aJ,aX,aW,m,c0,c1,c2,aZ,aE,aL,aN,bk,aS,bP,aO,aM,aB,bc,bd,bZ,bl⟩,hS⟩:=bf.open hS .z
   dsimp only [bx,ei,br,b8,aU.dT,af,ag] at hS
   have hq:=dZ hS hw
   revert hq hS hw;clear hS;refine Wp (J2 (Tg.mk (n:=10) @qR) (cL m)) (J5 h2 @AW.aa @ah.eq_1 @bj.eq_1 @ba.v.eq_1) (J1 ?_)<;>unhygienic intros
   refine⟨_,by simp [hq,AW.aa,ah];rfl,by first|(simp [ba.v];done)|(simp [ba.v,h];done),?_⟩
   apply bf.bS
   (·exact sA)
   (dsimp only [bx,eP,ei,br,b8,aU.dT,ed,cF,cy,dk,cp,dm,eV,cq,cm,bt,dl,dh,eU,di,af,ag])
   try simp only [h]
   (·first|exact pP|exact kP)
   (·first|exact pP|exact kP)
   all_goals(first|exact 0|exact undef)
 · by_cases h:0≤vr
   · have e:lL ⟨cf,am,aA,ay,value,bL,aj,reads,ai,av,set,bp,ax,an,aI,aH,ao,.cD w⟩ M w=(x,18,⟨cf,am,aA,ay,value,bL,aj,reads,ai,av,set,bp,ax,an,aI,aH,ao,.gV⟩,M'):=by
      unfold lL;rw [hr];dsimp only;rw [h2,QM,if_pos rfl,if_pos h]
     rw [e]
     intro A F hw hS
     refine ab Tryz.func155 rfl (by kernel_rfl) fun _=>?_
     dsimp only [af,ag] at hS
     obtain⟨⟨bD,bJ,aJ,aX,aW,m,c0,c1,c2,aZ,aE,aL,aN,bk,aS,bP,aO,aM,aB,bc,bd,bZ,bl⟩,hS⟩:=bf.open hS .z
     dsimp only [bx,ei,br,b8,aU.dT,af,ag] at hS
     have hq:=dZ hS hw
     revert hq hS hw;(repeat first|clear hq|clear hS|clear hw|revert hc|revert zn|revert zA|revert R|revert K);refine Wp (J3 (Tg.mk (n:=10) @qR) (Tg.mk (n:=30) (fun A' h1 h2=>my b ⟨cf,am,aA,ay,value,bL,aj,reads,ai,av,set,bp,ax,an,aI,aH,ao,.cD w'⟩ 12 (.cD w') A' h1 h2)) (cL m)) (J7 h h2 RE @AW.aa @ah.eq_1 @bj.eq_1 @ba.v.eq_1) (J1 ?_)<;>unhygienic intros
     refine⟨_,by simp [hq,AW.aa,ah];rfl,by first|(simp [ba.v];done)|(simp [ba.v,h];done),?_⟩
     apply bf.bS
     (·exact sA)
     (dsimp only [bx,eP,ei,br,b8,aU.dT,ed,cF,cy,dk,cp,dm,eV,cq,cm,bt,dl,dh,eU,di,af,ag])
     try simp only [h]
     (·first|exact pP|exact kP)
     (·first|exact pP|exact kP)
     all_goals(first|exact 0|exact undef)
   · have e:lL ⟨cf,am,aA,ay,value,bL,aj,reads,ai,av,set,bp,ax,an,aI,aH,ao,.cD w⟩ M w=(x,18,⟨cf,am,aA,ay,value,bL,aj,reads,ai,av,set,bp,ax,an,aI,aH,ao,.fL⟩,M'):=by
      unfold lL;rw [hr];dsimp only;rw [h2,QM,if_pos rfl,if_neg h]
     rw [e]
     intro A F hw hS
     refine ab Tryz.func155 rfl (by kernel_rfl) fun _=>?_
     dsimp only [af,ag] at hS
     obtain⟨⟨bD,bJ,aJ,aX,aW,m,c0,c1,c2,aZ,aE,aL,aN,bk,aS,bP,aO,aM,aB,bc,bd,bZ,bl⟩,hS⟩:=bf.open hS .z
     dsimp only [bx,ei,br,b8,aU.dT,af,ag] at hS
     have hq:=dZ hS hw
     revert hq hS hw;(repeat first|clear hq|clear hS|clear hw|revert hc|revert zn|revert zA|revert R|revert K);refine Wp (J3 (Tg.mk (n:=10) @qR) (Tg.mk (n:=30) (fun A' h1 h2=>my b ⟨cf,am,aA,ay,value,bL,aj,reads,ai,av,set,bp,ax,an,aI,aH,ao,.cD w'⟩ 12 (.cD w') A' h1 h2)) (cL m)) (J7 h h2 RE @AW.aa @ah.eq_1 @bj.eq_1 @ba.v.eq_1) (J1 ?_)<;>unhygienic intros
     refine⟨_,by simp [hq,AW.aa,ah];rfl,by first|(simp [ba.v];done)|(simp [ba.v,h];done),?_⟩
     apply bf.bS
     (·exact sA)
     (dsimp only [bx,eP,ei,br,b8,aU.dT,ed,cF,cy,dk,cp,dm,eV,cq,cm,bt,dl,dh,eU,di,af,ag])
     try simp only [h]
     (·first|exact pP|exact kP)
     (·first|exact pP|exact kP)
     all_goals(first|exact 0|exact undef)
set_option maxRecDepth 20000 in
set_option maxHeartbeats 4000000 in
theorem xd (b pb:Nat) (s:aT)  (M:Mm) (hd:s.aG=.cu) (hC:fA s) (Ou:s.an.length<2^20) (Lx:s.an.length=0∨∃l,s.aI=some l∧s.an.length=l.eo.length) :
 aY Tryz.prog 153 [pv b,pv pb] [.h (bf b s),dx pb M] (fun v=>v=.tuple #[(fp s M).1.v,.int .i64 (fp s M).2.1])
  (fun _=>[.h (bf b (fp s M).2.2.1),dx pb (fp s M).2.2.2]):=by
 obtain⟨cf,am,aA,ay,value,bL,aj,reads,ai,av,set,bp,ax,an,aI,aH,ao,aG⟩:=s
 dsimp only at hd
 subst hd
 dsimp only at Ou Lx
 have bW:=hC.len
 have Yz:=hC.bp.Gy
 dsimp only at bW Yz
 obtain⟨x,hx⟩:∃x,gI M 3 0=x:=⟨_,rfl⟩
 have cL:=Lk pb M 3 0
 rw [hx] at cL
 obtain⟨t0,t1⟩:=hC.cf.ax
 dsimp only at t0 t1
 have PA:IntKind.u64.wrap cf.ax=cf.ax:=az (by omega) (by omega)
 cases h3:aT.gQ ⟨cf,am,aA,ay,value,bL,aj,reads,ai,av,set,bp,ax,an,aI,aH,ao,.cu⟩
 · have h4:∀ck dc,aT.gQ ⟨cf,am,aA,ay,value,bL,dc,reads,ai,av,set,bp,ck,an,aI,aH,ao,.cu⟩=false:=fun _ _=>h3
   have e:fp ⟨cf,am,aA,ay,value,bL,aj,reads,ai,av,set,bp,ax,an,aI,aH,ao,.cu⟩ M=(x,16,ga ⟨cf,am,aA,ay,value,bL,true,reads,ai,av,set,bp,x.fg,an,aI,aH,ao,.cu⟩,M):=by
    unfold fp;rw [hx,h3];simp
   rw [e]
   intro A F hw hS
   refine ab Tryz.func153 rfl (by kernel_rfl) fun _=>?_
   dsimp only [af,ag] at hS
   obtain⟨⟨bD,bJ,aJ,aX,aW,m,c0,c1,c2,aZ,aE,aL,aN,bk,aS,bP,aO,aM,aB,bc,bd,bZ,bl⟩,hS⟩:=bf.open hS .z
   dsimp only [bx,ei,br,b8,aU.dT,af,ag] at hS
   have hq:=dZ hS hw
   repeat' (first
   | (refine jx fun R hR=>?_;simp [aw,az,hq,h4,AW.aa,ah,bj,ba.v];try simp (disch:=omega) only [if_pos,if_neg,aw,az])
   | (refine hR _ _ ?_;clear hR R)|(refine hK _ _ ?_;clear hK K)|refine nx ?_
   | refine wn fun K hK=>?_
   | simp only [wS,tZ,tY]
   | refine wl Tryz.mx tZ (by decide +kernel) fun K hK=>?_
   | refine wl Tryz.mx tY (by decide +kernel) fun K hK=>?_
   | (apply aY.cA (cL);(·exact wA);(·exact sA);(·first|exact pP|exact kP);rintro _ _ rfl hS hw _;have hS:=lA hS;have hq:=wG hS hw)
   | (apply wN (fun A' h1 h2=>jg b ⟨cf,am,aA,ay,value,bL,aj,reads,ai,av,set,bp,x.fg,an,aI,aH,ao,.cu⟩ 8 .cu A' h1 h2);(·exact wA);(·exact sA);(·exact fP);all_goals(try (first|exact 0|exact undef)))
   | (apply wN (fun A' h1 h2=>jg b ⟨cf,am,aA,ay,value,bL,true,reads,ai,av,set,bp,x.fg,an,aI,aH,ao,.cu⟩ 8 .cu A' h1 h2);(·exact wA);(·exact sA);(·exact fP);all_goals(try (first|exact 0|exact undef)))
   | (apply aY.qz (pI b ⟨cf,am,aA,ay,value,bL,true,reads,ai,av,set,bp,x.fg,an,aI,aH,ao,.cu⟩ 8 .cu Ou Lx);(·exact wA);(·exact sA);(·exact fP);(·first|exact pP|exact kP);(rintro _ _ _ hS hw _;have hS:=lA hS);(try (have hq:=wG hS hw));all_goals(try (first|exact 0|exact undef)))
   | refine wb ?_|refine wr ?_|refine wk ?_|refine we ?_|refine ws ?_|refine wq ?_
   | (refine wc rfl (fun hc=>?_) (fun hc=>?_)<;>(try simp at hc)<;>(try omega)<;>(try (simp [h2] at hc;done))<;>(try (simp [h3] at hc;done))<;>(try (simp [h4] at hc;done)))
   | (refine ib (fun hc=>?_) (fun hc=>?_)<;>(try omega)<;>(try simp (disch:=omega) only [if_pos,if_neg])))
   refine⟨_,by simp [hq,AW.aa,ah];rfl,by first|(simp [ba.v];done)|(simp [ba.v,h];done),?_⟩
   apply ak.bS
   (·exact sA)
   (·first|exact pP|exact kP)
 · have h4:∀ck dc,aT.gQ ⟨cf,am,aA,ay,value,bL,dc,reads,ai,av,set,bp,ck,an,aI,aH,ao,.cu⟩=true:=fun _ _=>h3
   by_cases h:cf.ax≤x.fg
   · have e:fp ⟨cf,am,aA,ay,value,bL,aj,reads,ai,av,set,bp,ax,an,aI,aH,ao,.cu⟩ M=(x,16,ga ⟨cf,am,aA,6,value,bL,aj,reads,ai,av,set,bp,x.fg,an,aI,aH,ao,.cu⟩,M):=by
      unfold fp;rw [hx,h3,PA];simp [h]
     rw [e]
     intro A F hw hS
     refine ab Tryz.func153 rfl (by kernel_rfl) fun _=>?_
     dsimp only [af,ag] at hS
     obtain⟨⟨bD,bJ,aJ,aX,aW,m,c0,c1,c2,aZ,aE,aL,aN,bk,aS,bP,aO,aM,aB,bc,bd,bZ,bl⟩,hS⟩:=bf.open hS .z
     dsimp only [bx,ei,br,b8,aU.dT,af,ag] at hS
     have hq:=dZ hS hw
     revert hq hS hw;(repeat first|clear hq|clear hS|clear hw|revert hc|revert zn|revert zA|revert R|revert K);refine Wp (J5 (Tg.mk (n:=30) (fun A' h1 h2=>jg b ⟨cf,am,aA,ay,value,bL,aj,reads,ai,av,set,bp,x.fg,an,aI,aH,ao,.cu⟩ 8 .cu A' h1 h2)) (Tg.mk (n:=20) (pI b ⟨cf,am,aA,6,value,bL,aj,reads,ai,av,set,bp,x.fg,an,aI,aH,ao,.cu⟩ 8 .cu Ou Lx)) (od tZ) (od tY) @cL) (J7 h h4 PA @AW.aa @ah.eq_1 @bj.eq_1 @ba.v.eq_1) (J1 ?_)<;>unhygienic intros
     refine⟨_,by simp [hq,AW.aa,ah];rfl,by first|(simp [ba.v];done)|(simp [ba.v,h];done),?_⟩
     apply ak.bS
     (·exact sA)
     (·first|exact pP|exact kP)
   · have e:fp ⟨cf,am,aA,ay,value,bL,aj,reads,ai,av,set,bp,ax,an,aI,aH,ao,.cu⟩ M=(x,16,⟨cf,am,aA,ay,value,bL,true,reads,ai,av,set,bp,x.fg,an,aI,aH,ao,.ee ⟨bp.bU,bp.ey⟩⟩,M):=by
      unfold fp;rw [hx,h3,PA];simp [h]
     rw [e]
     intro A F hw hS
     refine ab Tryz.func153 rfl (by kernel_rfl) fun _=>?_
     dsimp only [af,ag] at hS
     obtain⟨⟨bD,bJ,aJ,aX,aW,m,c0,c1,c2,aZ,aE,aL,aN,bk,aS,bP,aO,aM,aB,bc,bd,bZ,bl⟩,hS⟩:=bf.open hS .z
     dsimp only [bx,ei,br,b8,aU.dT,af,ag] at hS
     have hq:=dZ hS hw
     repeat' (first
     | (refine jx fun R hR=>?_;simp [aw,az,hq,h,h4,PA,AW.aa,ah,bj,ba.v];try simp (disch:=omega) only [if_pos,if_neg,aw,az])
     | (refine hR _ _ ?_;clear hR R)|(refine hK _ _ ?_;clear hK K)|refine nx ?_
     | refine wn fun K hK=>?_
     | simp only [wS,tZ,tY]
     | refine wl Tryz.mx tZ (by decide +kernel) fun K hK=>?_
     | refine wl Tryz.mx tY (by decide +kernel) fun K hK=>?_
     | (apply aY.cA (cL);(·exact wA);(·exact sA);(·first|exact pP|exact kP);rintro _ _ rfl hS hw _;have hS:=lA hS;have hq:=wG hS hw)
     | (apply wN (fun A' h1 h2=>jg b ⟨cf,am,aA,ay,value,bL,aj,reads,ai,av,set,bp,x.fg,an,aI,aH,ao,.cu⟩ 8 .cu A' h1 h2);(·exact wA);(·exact sA);(·exact fP);all_goals(try (first|exact 0|exact undef)))
     | (apply wN (fun A' h1 h2=>jg b ⟨cf,am,aA,ay,value,bL,true,reads,ai,av,set,bp,x.fg,an,aI,aH,ao,.cu⟩ 8 .cu A' h1 h2);(·exact wA);(·exact sA);(·exact fP);all_goals(try (first|exact 0|exact undef)))
     | (apply pZ;(·exact wA);(·exact sA);(·first|exact pP|exact kP);(·first|omega|(simp;omega)|(simp [hq];done));((first|rintro _ _ _ hS hw eT|rintro _ _ hS hw eT|rintro _ _ hS hw);(try refine⟨eT,?_⟩);(try dsimp only [AW.bq] at hS);have hq:=wG hS hw))
     | (apply At;(·exact wA);(·exact sA);(·first|exact pP|exact kP);(·first|omega|(simp;omega)|(simp [hq];done));((first|rintro _ _ _ hS hw eT|rintro _ _ hS hw eT|rintro _ _ hS hw);(try refine⟨eT,?_⟩);(try dsimp only [AW.bq] at hS);have hq:=wG hS hw))
     | (apply CG;(·exact wA);(·exact sA);(·first|exact pP|exact kP);(·first|exact pP|exact kP);(·first|omega|(simp;omega)|(simp [hq];done));(·first|omega|(simp;omega)|(simp [hq];done));((first|rintro _ _ _ hS hw eT|rintro _ _ hS hw eT|rintro _ _ hS hw);(try refine⟨eT,?_⟩);(try dsimp only [AW.bq] at hS);have hq:=wG hS hw))
     | refine wb ?_|refine wr ?_|refine wk ?_|refine we ?_|refine ws ?_|refine wq ?_
     | (refine wc rfl (fun hc=>?_) (fun hc=>?_)<;>(try simp at hc)<;>(try omega)<;>(try (simp [h2] at hc;done))<;>(try (simp [h3] at hc;done))<;>(try (simp [h4] at hc;done)))
     | (refine ib (fun hc=>?_) (fun hc=>?_)<;>(try omega)<;>(try simp (disch:=omega) only [if_pos,if_neg])))
     refine⟨_,by simp [hq,AW.aa,ah];rfl,by first|(simp [ba.v];done)|(simp [ba.v,h];done),?_⟩
     apply bf.bS
     (·exact sA)
     (dsimp only [bx,eP,ei,br,b8,aU.dT,ed,cF,cy,dk,cp,dm,eV,cq,cm,bt,dl,dh,eU,di,af,ag])
     try simp only [h]
     (·first|exact pP|exact kP)
     (·first|exact pP|exact kP)
     all_goals(first|exact 0|exact undef)
end
section
open T14 T10
variable [Gl]
theorem au.KW {A:AW} {F:HP} (kk:IntKind) (n:Nat) (h:bz A F) (hw:A.Wf):bz (A.alloc (.cells (ep [.int kk 0] n) true 1)) (au kk (.slice (some ⟨A.next,0,none⟩) n n) (List.replicate n 0)*F):=by
 have bW:(ep [Value.int kk 0] n).length=n:=by simp [ic]
 have vE:(List.replicate n (0:Int)).map (Value.int kk)=ep [Value.int kk 0] n:=by
  clear bW
  induction n with
  | zero=>rfl
  | succ n ih=>rw [List.replicate_succ,List.map_cons,ih];rfl
 refine au.mk (by simp) (by simp) (by simp [bW]) ?_ (h.alloc hw _)
 rw [vE,List.drop_zero,List.take_of_length_le (by simp [bW])]
theorem ak.KW {A:AW} {L:List It} (kk:IntKind) (n:Nat) (h:ak A L) (hw:A.Wf):ak (A.alloc (.cells (ep [.int kk 0] n) true 1)) (.h (au kk (.slice (some ⟨A.next,0,none⟩) n n) (List.replicate n 0))::L):=au.KW kk n h hw
set_option maxRecDepth 20000 in
set_option maxHeartbeats 4000000 in
theorem yd (b pb:Nat) (s:aT) (w:iQ) (M:Mm) (hd:s.aG=.ee w) (bW:w.os.length=w.ws.length) (Ou:s.an.length<2^20) :
 aY Tryz.prog 154 [pv b,pv pb] [.h (bf b s),dx pb M] (fun v=>v=.tuple #[(gn s M w).1.v,.int .i64 (gn s M w).2.1])
  (fun _=>[.h (bf b (gn s M w).2.2.1),dx pb (gn s M w).2.2.2]):=by
 obtain⟨cf,am,aA,ay,value,bL,aj,reads,ai,av,set,bp,ax,an,aI,aH,ao,aG⟩:=s
 dsimp only at hd
 subst hd
 dsimp only at Ou
 obtain⟨x,w',M',hr⟩:∃x e' M',lf w M=(x,e',M'):=⟨_,_,_,rfl⟩
 have cL:=fun n=>Kb n pb w M bW
 rw [hr] at cL
 obtain⟨vr,QM⟩:∃vr,aT.qE ⟨cf,am,aA,ay,value,bL,aj,reads,ai,av,set,bp,ax,an,aI,aH,ao,.ee w⟩=vr:=⟨_,rfl⟩
 have RE:aT.qE ⟨cf,am,aA,ay,value,bL,aj,reads,ai,av,set,bp,ax,an,aI,aH,ao,.ee w'⟩=vr:=QM
 cases h2:w'.done
 · have e:gn ⟨cf,am,aA,ay,value,bL,aj,reads,ai,av,set,bp,ax,an,aI,aH,ao,.ee w⟩ M w=(x,17,⟨cf,am,aA,ay,value,bL,aj,reads,ai,av,set,bp,ax,an,aI,aH,ao,.ee w'⟩,M'):=by
    unfold gn;rw [hr];dsimp only;rw [h2];simp
   rw [e]
   intro A F hw hS
   refine ab Tryz.func154 rfl (by kernel_rfl) fun _=>?_
   dsimp only [af,ag] at hS
   obtain⟨⟨bD,bJ,aJ,aX,aW,m,c0,c1,c2,aZ,aE,aL,aN,bk,aS,bP,aO,aM,aB,bc,bd,bZ,bl⟩,hS⟩:=bf.open hS .z
   dsimp only [bx,ei,br,b8,aU.dT,af,ag] at hS
   have hq:=eW hS hw
   revert hq hS hw;clear hS;refine Wp (J2 (Tg.mk (n:=10) @xP) (cL m)) (J5 h2 @AW.aa @ah.eq_1 @bj.eq_1 @ba.v.eq_1) (J1 ?_)<;>unhygienic intros
   refine⟨_,by simp [hq,AW.aa,ah];rfl,by first|(simp [ba.v];done)|(simp [ba.v,h];done),?_⟩
   apply bf.bS
   (·exact sA)
   (dsimp only [bx,eP,ei,br,b8,aU.dT,ed,cF,cy,dk,cp,dm,eV,cq,cm,bt,dl,dh,eU,di,af,ag])
   try simp only [h]
   (·first|exact pP|exact kP)
   (·first|exact pP|exact kP)
   all_goals(first|exact 0|exact undef)
 · have e:gn ⟨cf,am,aA,ay,value,bL,aj,reads,ai,av,set,bp,ax,an,aI,aH,ao,.ee w⟩ M w=(x,17,⟨cf,am,aA,ay,value,bL,aj,reads,ai,av,set,bp,ax,an,aI,aH,ao,.cD ⟨an,List.replicate an.length (kN vr)⟩⟩,M'):=by
    unfold gn;rw [hr];dsimp only;rw [h2,if_pos rfl,QM]
   rw [e]
   intro A F hw hS
   refine ab Tryz.func154 rfl (by kernel_rfl) fun _=>?_
   dsimp only [af,ag] at hS
   obtain⟨⟨bD,bJ,aJ,aX,aW,m,c0,c1,c2,aZ,aE,aL,aN,bk,aS,bP,aO,aM,aB,bc,bd,bZ,bl⟩,hS⟩:=bf.open hS .z
   dsimp only [bx,ei,br,b8,aU.dT,af,ag] at hS
   obtain⟨oo,co,rfl,_⟩:=(ak.nH hS (.s (.s (.s (.s (.s (.s (.s (.s (.s .z)))))))))).dJ
   have hq:=eW hS hw
   revert hq hS hw;(repeat first|clear hq|clear hS|clear hw|revert hc|revert zn|revert zA|revert R|revert K);refine Wp trivial (J4 @AW.aa @ah.eq_1 @bj.eq_1 @ba.v.eq_1) (J1 ?_)<;>unhygienic intros
   apply aY.cA (cL m)
   (·exact wA)
   (·exact sA)
   (·first|exact pP|exact kP)
   rintro _ A1 rfl hS hw _
   have hS:=lA hS
   have hq:=eW hS hw
   revert hq hS hw;(repeat first|clear hq|clear hS|clear hw|revert hc|revert zn|revert zA|revert R|revert K);refine Wp (J1 (Tg.mk (n:=10) @xP)) (J5 h2 @AW.aa @ah.eq_1 @bj.eq_1 @ba.v.eq_1) (J1 ?_)<;>unhygienic intros
   obtain⟨n,hn⟩:∃n,an.length=n:=⟨_,rfl⟩
   have Za:∀i,i≤n→List.replicate i (kN vr)++List.replicate (n-i) 0=(List.replicate i (kN vr)++List.replicate (n-i) (0:Int)):=fun _ _=>rfl
   refine eS (fun k fr A'=>A'.Wf∧∃i:Nat,k=n-i∧i≤n∧fr 0=pv b∧fr 4=.pointer (some ⟨A.next,0,none⟩)∧fr 6=.pointer (some ⟨A1.next,0,none⟩)∧fr 7=.slice (some ⟨A1.next+1,0,none⟩) n n∧fr 29=.int .i64 n∧fr 30=.int .i64 i∧
    ak A' (.h (au .u64 (.slice (some ⟨A1.next+1,0,none⟩) n n) (List.replicate i (kN vr)++List.replicate (n-i) 0))::.at A1.next (.cells [.int .i64 x.fY,.int .i64 x.cell,.int .i64 x.dq,.int .u64 x.fg,.int .u64 x.put,.bool x.done] true 1)::.at A.next (.cells bj true 1)::.h (gg m w')::dx pb M'::(bx b ⟨cf,am,aA,ay,value,bL,aj,reads,ai,av,set,bp,ax,an,aI,aH,ao,.ee w'⟩ 9 (.ee w') ⟨bD,bJ,aJ,aX,aW,m,c0,c1,c2,aZ,aE,aL,.slice oo an.length co,bk,aS,bP,aO,aM,aB,bc,bd,bZ,bl⟩++[.h F]))) n ?_ ?_
   · refine⟨?_,0,by simp,by simp,by simp,by simp,by simp,by simp [hn],by simp [hn],by simp,?_⟩
     (·exact wA)
     · simp only [List.replicate_zero,ag,Nat.sub_zero]
       rw [←hn]
       apply ak.bS
       · apply ak.KW
         (·exact sA)
         (·exact wA)
       (dsimp only [bx,ei,br,b8,aU.dT,dk,cp,dm,eV,cq,cm,bt,dl,dh,eU,di,af,ag])
       (·first|exact pP|exact kP)
   · rintro k fr A' ⟨hw,i,rfl,hi,h0,TZ,h6,h7,Q4,Xs,hS⟩
     dsimp only [bx,ei,br,b8,aU.dT,dk,cp,dm,eV,cq,cm,bt,dl,dh,eU,di,af,ag] at hS
     refine dI ?_
     by_cases dO:i<n
     · have fG:(i:Int)<n:=by omega
       have mf:IntKind.i64.wrap ((i:Int)+1)=((i+1:Nat):Int):=aw (by omega) (by omega)
       have Jb:(List.replicate i (kN vr)++List.replicate (n-i) (0:Int)).length=n:=by simp;omega
       obtain⟨bv,MR,cv,Pc,hv,Xh,dG,jB,ij⟩:=ak.HK hS .z (j:=i) (by omega)
       rw [Jb] at hv Xh
       injection hv with Lo U2 QN
       injection Lo with Lo
       injection Lo with Lo YC _
       subst Lo;subst YC
       have mh:=hS
       have hS:=ij
       have hq:=eW hS hw
       have H7:i<Pc.length:=by omega
       simp only [Nat.zero_add] at dG jB
       revert hq hS hw;(repeat first|clear hq|clear hS|clear hw|revert hc|revert zn|revert zA|revert R|revert K);refine Wp (J2 (Tg.mk (n:=30) (fun A' h1 h2=>my b ⟨cf,am,aA,ay,value,bL,aj,reads,ai,av,set,bp,ax,an,aI,aH,ao,.ee w'⟩ 9 (.ee w') A' h1 h2)) @Gf) (Dz h0 TZ h6 h7 Q4 Xs RE dO fG mf dG H7 @AW.aa @ah.eq_1) (J1 ?_)<;>unhygienic intros
       refine⟨n-(i+1),by omega,hw.set _ (ak.Rz hS hw .z (Nat.le_refl _)),i+1,rfl,by omega,by simp [h0],by simp [TZ],by simp [h6],by simp [h7],by simp [Q4],by simp,?_⟩
       have h9:=jB (kN vr) _ _ (ak.ez hS .z)
       have e9:(List.replicate i (kN vr)++List.replicate (n-i) (0:Int)).set i (kN vr)=List.replicate (i+1) (kN vr)++List.replicate (n-(i+1)) 0:=by
        rw [List.set_append_right _ _ (by simp)]
        simp only [List.length_replicate,Nat.sub_self]
        rw [show n-i=(n-(i+1))+1 by omega,List.replicate_succ,List.set_cons_zero,List.replicate_succ',List.append_assoc];rfl
       rw [e9] at h9
       exact h9
     · have GQ:i=n:=by omega
       subst GQ
       simp only [Nat.sub_self,List.replicate_zero,List.append_nil] at hS
       have hq:=eW hS hw
       revert hq hS hw;(repeat first|clear hq|clear hS|clear hw|revert hc|revert zn|revert zA|revert R|revert K);refine Wp (J1 (Tg.mk (n:=12) @qX)) (J8 h0 TZ h6 h7 Q4 Xs @AW.aa @ah.eq_1) (J1 ?_)<;>unhygienic intros
       rw [show List.replicate an.length (kN vr)=List.replicate i (kN vr) by rw [hn]]
       refine⟨_,by simp [hq,TZ,AW.aa,ah];rfl,by simp [ba.v,bj],?_⟩
       apply bf.bS
       (·exact sA)
       (dsimp only [bx,eP,ei,br,b8,aU.dT,ed,cF,cy,dk,cp,dm,eV,cq,cm,bt,dl,dh,eU,di,af,ag])
       try simp only [h]
       (·first|exact pP|exact kP)
       (·first|exact pP|exact kP)
       all_goals(first|exact 0|exact undef)
end
end Go.Stx
