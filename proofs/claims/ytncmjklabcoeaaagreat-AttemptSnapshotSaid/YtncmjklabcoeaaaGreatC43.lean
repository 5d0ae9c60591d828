/-
 What the statements ask of a pair of attempts.
-/
import Derived.Test.YtncmjklabcoeaaaGreatC42
set_option linter.unusedVariables false
set_option linter.unusedSimpArgs false
set_option maxRecDepth 20000
set_option maxHeartbeats 4000000
namespace Go.Stx
open Go Go.Proofs
attribute [local irreducible] fj cm aH bB dK ei
def xa (c:bG) (n:Int):Int:=if eO n 11=10 then eO (IntKind.i64.wrap (n.tdiv 11)) 30 else eO (IntKind.i64.wrap (n.tdiv 11)) c.aF
theorem vp {c:bG} (hc:dt c) (n:Int):0≤xa c n:=by
 have h1:=hc.aF
 unfold xa
 split
 · exact(eU _ 30 (by omega)).1
 · exact(eU _ c.aF (by omega)).1
theorem JZ (c:bG) (hc:dt c) (n:Int) (A:AW):aH Tryz.prog 69 [c.v,.int .i64 n] A (fun v A'=>v=.int .u64 (xa c n)∧A=A'):=by
 refine aH.GT (V:=.int .u64 (xa c n)) (by simp) (fun hw=>?_) (by kernel_rfl)
 refine ab Tryz.func69 rfl (by kernel_rfl) fun _=>?_
 obtain⟨w0,w1⟩:=hc.aF
 have p1:=eU (IntKind.i64.wrap (n.tdiv 11)) 30 (by omega)
 have p2:=eU (IntKind.i64.wrap (n.tdiv 11)) c.aF (by omega)
 have u1:IntKind.u64.wrap (eO (IntKind.i64.wrap (n.tdiv 11)) 30)=eO (IntKind.i64.wrap (n.tdiv 11)) 30:=au (by omega) (by omega)
 have u2:IntKind.u64.wrap (eO (IntKind.i64.wrap (n.tdiv 11)) c.aF)=eO (IntKind.i64.wrap (n.tdiv 11)) c.aF:=au (by omega) (by omega)
 dsimp only [bG.v]
 unfold xa
 by_cases h:eO n 11=10
 · repeat' (first
 | (refine il fun R hR=>?_;simp [ak,au,h,u1,AW.aa];try simp (disch:=omega) only [if_pos,if_neg,ak,au])
 | (refine hR _ _ ?_;clear hR R)|(refine hK _ _ ?_;clear hK K)|refine nx ?_
 | refine wn fun K hK=>?_
 | simp only [wS]
 | (refine bD (eu _ 11 _ (by omega) (by omega)) ?_;rintro _ _ ⟨rfl,rfl⟩ _ _)
 | (refine bD (eu _ 30 _ (by omega) (by omega)) ?_;rintro _ _ ⟨rfl,rfl⟩ _ _)
 | refine wb ?_|refine wr ?_|refine wk ?_|refine we ?_|refine ws ?_|refine wq ?_
 | (refine wc rfl (fun hc=>?_) (fun hc=>?_)<;>(try simp at hc)<;>(try omega)<;>(try (simp [h2] at hc;done))<;>(try (simp [h3] at hc;done))<;>(try (simp [h4] at hc;done)))
 | (refine ib (fun hc=>?_) (fun hc=>?_)<;>(try omega)<;>(try simp (disch:=omega) only [if_pos,if_neg])))
   refine⟨_,by first|(simp;done)|(simp;rfl),by simp [h],AW.le.alloc _ _⟩
 · repeat' (first
 | (refine il fun R hR=>?_;simp [ak,au,h,u2,AW.aa];try simp (disch:=omega) only [if_pos,if_neg,ak,au])
 | (refine hR _ _ ?_;clear hR R)|(refine hK _ _ ?_;clear hK K)|refine nx ?_
 | refine wn fun K hK=>?_
 | simp only [wS]
 | (refine bD (eu _ 11 _ (by omega) (by omega)) ?_;rintro _ _ ⟨rfl,rfl⟩ _ _)
 | (refine bD (eu _ c.aF _ (by omega) (by omega)) ?_;rintro _ _ ⟨rfl,rfl⟩ _ _)
 | refine wb ?_|refine wr ?_|refine wk ?_|refine we ?_|refine ws ?_|refine wq ?_
 | (refine wc rfl (fun hc=>?_) (fun hc=>?_)<;>(try simp at hc)<;>(try omega)<;>(try (simp [h2] at hc;done))<;>(try (simp [h3] at hc;done))<;>(try (simp [h4] at hc;done)))
 | (refine ib (fun hc=>?_) (fun hc=>?_)<;>(try omega)<;>(try simp (disch:=omega) only [if_pos,if_neg])))
   refine⟨_,by first|(simp;done)|(simp;rfl),by simp [h],AW.le.alloc _ _⟩
structure nc where
 ag:Int
 eV:Int
 cA:Int
 v:Int
def nc.val (q:nc):Value:=.agg #[.int .i64 q.ag,.int .i64 q.eV,.int .i64 q.cA,.int .u64 q.v]
def nc.cells (q:nc):List Value:=[.int .i64 q.ag,.int .i64 q.eV,.int .i64 q.cA,.int .u64 q.v]
def xB (c:bG) (q:nc) (s:aD):Int×aD:=
 if eO q.eV 16<5 then Bn s (xa c q.cA)
 else if eO q.eV 16<9 then CF s (xa c q.cA) q.v
 else if eO q.eV 16=9∨eO q.eV 16=10 then An s (eO q.cA 3)
 else if eO q.eV 16=11 then AB s (xa c q.cA)
 else if eO q.eV 16=12 then AB s (IntKind.u64.wrap (eL c (eO q.cA 4)))
 else if eO q.eV 16=13 then xN s 2
 else xN s 1
theorem L9 (c:bG) (hc:dt c) (a r:Nat) (q:nc) (s1 s2:aD) (NL:ep s1) (zM:ep s2) (uZ:(s2.ac.length:Int)≤s2.cf.ac) :
 aP Tryz.prog 26 [.agg #[pv a,pv r],c.v,q.val] [.h (bI a s1),.h (bF r s2)] (fun v=>v=.bool (decide ((xB c q s1).1=(xB c q s2).1))) (fun _=>[.h (bI a (xB c q s1).2),.h (bF r (xB c q s2).2)]):=by
 intro A F hw hS
 refine ab Tryz.func26 rfl (by kernel_rfl) fun _=>?_
 dsimp only [na,zo] at hS
 have mg:an (((A.alloc (.cells [pv a,pv r] true 1)).alloc (.cells c.cells true 1)).alloc (.cells q.cells true 1)) _:=
  (an.jn (an.jn (an.jn hS hw) (hw.alloc _)) ((hw.alloc _).alloc _))
 have gJ:=((hw.alloc (.cells [pv a,pv r] true 1)).alloc (.cells c.cells true 1)).alloc (.cells q.cells true 1)
 have hS:=mg
 have hw:=gJ
 have ha:=vp hc q.cA
 have S5:=fun A'=>JZ c hc q.cA A'
 have MA:=fun b A'=>rE c hc b A'
 simp only [AW.aZ] at hS
 dsimp only [bG.v,nc.val,bG.cells,nc.cells] at S5 MA hS hw ⊢
 have hq:=ZQ hS hw
 unfold xB
 by_cases h5:eO q.eV 16<5
 · rw [if_pos h5,if_pos h5]
   repeat' (first
   | (refine il fun R hR=>?_;simp [ak,au,hq,h5,AW.aa,af];try simp (disch:=omega) only [if_pos,if_neg,ak,au])
   | (refine hR _ _ ?_;clear hR R)|(refine hK _ _ ?_;clear hK K)|refine nx ?_
   | refine wn fun K hK=>?_
   | simp only [wS]
   | (refine bD (eu _ 16 _ (by omega) (by omega)) ?_;rintro _ _ ⟨rfl,rfl⟩ _ _)
   | (refine bD (S5 _) ?_;rintro _ _ ⟨rfl,rfl⟩ _ _)
   | (refine ⟨fun A' g1 g2 g3=>by simp [AW.aa,g1,g2,g3],?_⟩)
   | (refine ⟨⟨by simp [hq],by simp [hq],by simp [hq]⟩,?_⟩)
   | (refine AC (fun A'=>A'.cy A.next=some (.cells [pv a,pv r] true 1)∧A'.cy (A.next+1)=some (.cells [.int .i64 c.aF,.int .i64 c.aj,.int .i64 c.base,.int .i64 c.c0,.int .i64 c.c1,.int .i64 c.c2,.int .i64 c.c3,.int .i64 c.ah,.int .i64 c.bX,.int .i64 c.ac,.int .i64 c.ap,.int .i64 c.ao,.bool c.cT] true 1)∧A'.cy (A.next+1+1)=some (.cells [.int .i64 q.ag,.int .i64 q.eV,.int .i64 q.cA,.int .u64 q.v] true 1)) Tryz.mx [(0,0),(1,0),(2,0),(3,0),(4,0),(7,0),(8,1),(9,1),(10,0),(11,1),(5,2),(6,3),(12,2),(13,3),(14,0),(15,0)] (by decide +kernel) fun K hK=>?_)
   | (apply aP.el (Jt a s1 _ NL ha);(·exact wA);(·exact sA);(·first|exact pR|exact kR);rintro _ _ rfl hS hw _;have hS:=lA hS;have hq:=ZM hS hw)
   | (apply aP.el (He r s2 _ zM ha);(·exact wA);(·exact sA);(·first|exact pR|exact kR);rintro _ _ rfl hS hw _;have hS:=lA hS;have hq:=ZM hS hw)
   | refine wb ?_|refine wr ?_|refine wk ?_|refine we ?_|refine ws ?_|refine wq ?_
   | (refine wc rfl (fun hc=>?_) (fun hc=>?_)<;>(try simp at hc)<;>(try omega)<;>(try (simp [h2] at hc;done))<;>(try (simp [h3] at hc;done))<;>(try (simp [h4] at hc;done)))
   | (refine ib (fun hc=>?_) (fun hc=>?_)<;>(try omega)<;>(try simp (disch:=omega) only [if_pos,if_neg])))
   refine⟨_,by first|(simp;done)|(simp;rfl),by simp,?_⟩
   apply an.cC hS
   (·first|exact pR|exact kR)
 rw [if_neg h5,if_neg h5]
 by_cases h9:eO q.eV 16<9
 · rw [if_pos h9,if_pos h9]
   repeat' (first
   | (refine il fun R hR=>?_;simp [ak,au,hq,h5,h9,AW.aa,af];try simp (disch:=omega) only [if_pos,if_neg,ak,au])
   | (refine hR _ _ ?_;clear hR R)|(refine hK _ _ ?_;clear hK K)|refine nx ?_
   | refine wn fun K hK=>?_
   | simp only [wS]
   | (refine bD (eu _ 16 _ (by omega) (by omega)) ?_;rintro _ _ ⟨rfl,rfl⟩ _ _)
   | (refine bD (S5 _) ?_;rintro _ _ ⟨rfl,rfl⟩ _ _)
   | (refine ⟨fun A' g1 g2 g3=>by simp [AW.aa,g1,g2,g3],?_⟩)
   | (refine ⟨⟨by simp [hq],by simp [hq],by simp [hq]⟩,?_⟩)
   | (refine AC (fun A'=>A'.cy A.next=some (.cells [pv a,pv r] true 1)∧A'.cy (A.next+1)=some (.cells [.int .i64 c.aF,.int .i64 c.aj,.int .i64 c.base,.int .i64 c.c0,.int .i64 c.c1,.int .i64 c.c2,.int .i64 c.c3,.int .i64 c.ah,.int .i64 c.bX,.int .i64 c.ac,.int .i64 c.ap,.int .i64 c.ao,.bool c.cT] true 1)∧A'.cy (A.next+1+1)=some (.cells [.int .i64 q.ag,.int .i64 q.eV,.int .i64 q.cA,.int .u64 q.v] true 1)) Tryz.mx [(0,0),(1,0),(2,0),(3,0),(4,0),(6,0),(7,0),(9,0),(10,1),(11,1),(12,0),(13,1),(15,0),(16,1),(5,2),(8,3),(14,2),(17,3),(18,0),(19,0)] (by decide +kernel) fun K hK=>?_)
   | (apply aP.el (xQ a s1 _ _);(·exact wA);(·exact sA);(·first|exact pR|exact kR);rintro _ _ rfl hS hw _;have hS:=lA hS;have hq:=ZM hS hw)
   | (apply aP.el (E5 r s2 _ _ zM ha);(·exact wA);(·exact sA);(·first|exact pR|exact kR);rintro _ _ rfl hS hw _;have hS:=lA hS;have hq:=ZM hS hw)
   | refine wb ?_|refine wr ?_|refine wk ?_|refine we ?_|refine ws ?_|refine wq ?_
   | (refine wc rfl (fun hc=>?_) (fun hc=>?_)<;>(try simp at hc)<;>(try omega)<;>(try (simp [h2] at hc;done))<;>(try (simp [h3] at hc;done))<;>(try (simp [h4] at hc;done)))
   | (refine ib (fun hc=>?_) (fun hc=>?_)<;>(try omega)<;>(try simp (disch:=omega) only [if_pos,if_neg])))
   refine⟨_,by first|(simp;done)|(simp;rfl),by simp,?_⟩
   apply an.cC hS
   (·first|exact pR|exact kR)
 rw [if_neg h9,if_neg h9]
 by_cases GS:eO q.eV 16=9∨eO q.eV 16=10
 · rw [if_pos GS,if_pos GS]
   rcases GS with GS|GS
   all_goals(
   have Np:=eU q.cA 3 (by omega)
   repeat' (first
   | (refine il fun R hR=>?_;simp [ak,au,hq,GS,AW.aa,af];try simp (disch:=omega) only [if_pos,if_neg,ak,au])
   | (refine hR _ _ ?_;clear hR R)|(refine hK _ _ ?_;clear hK K)|refine nx ?_
   | refine wn fun K hK=>?_
   | simp only [wS]
   | (refine bD (eu _ 16 _ (by omega) (by omega)) ?_;rintro _ _ ⟨rfl,rfl⟩ _ _)
   | (refine bD (eu _ 3 _ (by omega) (by omega)) ?_;rintro _ _ ⟨rfl,rfl⟩ _ _)
   | (refine ⟨fun A' g1 g2 g3=>by simp [AW.aa,g1,g2,g3],?_⟩)
   | (refine ⟨⟨by simp [hq],by simp [hq],by simp [hq]⟩,?_⟩)
   | (refine AC (fun A'=>A'.cy A.next=some (.cells [pv a,pv r] true 1)∧A'.cy (A.next+1)=some (.cells [.int .i64 c.aF,.int .i64 c.aj,.int .i64 c.base,.int .i64 c.c0,.int .i64 c.c1,.int .i64 c.c2,.int .i64 c.c3,.int .i64 c.ah,.int .i64 c.bX,.int .i64 c.ac,.int .i64 c.ap,.int .i64 c.ao,.bool c.cT] true 1)∧A'.cy (A.next+1+1)=some (.cells [.int .i64 q.ag,.int .i64 q.eV,.int .i64 q.cA,.int .u64 q.v] true 1)) Tryz.mx [(0,0),(1,0),(2,0),(4,0),(5,1),(6,0),(3,3),(7,3),(8,0),(9,0)] (by decide +kernel) fun K hK=>?_)
   | (apply aP.el (Am a s1 _ NL);(·exact wA);(·exact sA);(·first|exact pR|exact kR);rintro _ _ rfl hS hw _;have hS:=lA hS;have hq:=ZM hS hw)
   | (apply aP.el (wH r s2 _ zM uZ);(·exact wA);(·exact sA);(·first|exact pR|exact kR);rintro _ _ rfl hS hw _;have hS:=lA hS;have hq:=ZM hS hw)
   | refine wb ?_|refine wr ?_|refine wk ?_|refine we ?_|refine ws ?_|refine wq ?_
   | (refine wc rfl (fun hc=>?_) (fun hc=>?_)<;>(try simp at hc)<;>(try omega)<;>(try (simp [h2] at hc;done))<;>(try (simp [h3] at hc;done))<;>(try (simp [h4] at hc;done)))
   | (refine ib (fun hc=>?_) (fun hc=>?_)<;>(try omega)<;>(try simp (disch:=omega) only [if_pos,if_neg])))
   refine⟨_,by first|(simp;done)|(simp;rfl),by simp,?_⟩
   apply an.cC hS
   (·first|exact pR|exact kR))
 rw [if_neg GS,if_neg GS]
 have RG:¬eO q.eV 16=9:=fun e=>GS (.inl e)
 have Ny:¬eO q.eV 16=10:=fun e=>GS (.inr e)
 by_cases Kt:eO q.eV 16=11
 · rw [if_pos Kt,if_pos Kt]
   repeat' (first
   | (refine il fun R hR=>?_;simp [ak,au,hq,Kt,AW.aa,af];try simp (disch:=omega) only [if_pos,if_neg,ak,au])
   | (refine hR _ _ ?_;clear hR R)|(refine hK _ _ ?_;clear hK K)|refine nx ?_
   | refine wn fun K hK=>?_
   | simp only [wS]
   | (refine bD (eu _ 16 _ (by omega) (by omega)) ?_;rintro _ _ ⟨rfl,rfl⟩ _ _)
   | (refine bD (S5 _) ?_;rintro _ _ ⟨rfl,rfl⟩ _ _)
   | (refine ⟨fun A' g1 g2 g3=>by simp [AW.aa,g1,g2,g3],?_⟩)
   | (refine ⟨⟨by simp [hq],by simp [hq],by simp [hq]⟩,?_⟩)
   | (refine AC (fun A'=>A'.cy A.next=some (.cells [pv a,pv r] true 1)∧A'.cy (A.next+1)=some (.cells [.int .i64 c.aF,.int .i64 c.aj,.int .i64 c.base,.int .i64 c.c0,.int .i64 c.c1,.int .i64 c.c2,.int .i64 c.c3,.int .i64 c.ah,.int .i64 c.bX,.int .i64 c.ac,.int .i64 c.ap,.int .i64 c.ao,.bool c.cT] true 1)∧A'.cy (A.next+1+1)=some (.cells [.int .i64 q.ag,.int .i64 q.eV,.int .i64 q.cA,.int .u64 q.v] true 1)) Tryz.mx [(0,0),(1,0),(2,0),(3,0),(4,0),(7,0),(8,1),(9,1),(10,0),(11,1),(5,2),(6,3),(12,2),(13,3),(14,0),(15,0)] (by decide +kernel) fun K hK=>?_)
   | (apply aP.el (Cs a s1 _ NL);(·exact wA);(·exact sA);(·first|exact pR|exact kR);rintro _ _ rfl hS hw _;have hS:=lA hS;have hq:=ZM hS hw)
   | (apply aP.el (ul r s2 _ zM);(·exact wA);(·exact sA);(·first|exact pR|exact kR);rintro _ _ rfl hS hw _;have hS:=lA hS;have hq:=ZM hS hw)
   | refine wb ?_|refine wr ?_|refine wk ?_|refine we ?_|refine ws ?_|refine wq ?_
   | (refine wc rfl (fun hc=>?_) (fun hc=>?_)<;>(try simp at hc)<;>(try omega)<;>(try (simp [h2] at hc;done))<;>(try (simp [h3] at hc;done))<;>(try (simp [h4] at hc;done)))
   | (refine ib (fun hc=>?_) (fun hc=>?_)<;>(try omega)<;>(try simp (disch:=omega) only [if_pos,if_neg])))
   refine⟨_,by first|(simp;done)|(simp;rfl),by simp,?_⟩
   apply an.cC hS
   (·first|exact pR|exact kR)
 rw [if_neg Kt,if_neg Kt]
 by_cases Ks:eO q.eV 16=12
 · rw [if_pos Ks,if_pos Ks]
   repeat' (first
   | (refine il fun R hR=>?_;simp [ak,au,hq,Ks,AW.aa,af];try simp (disch:=omega) only [if_pos,if_neg,ak,au])
   | (refine hR _ _ ?_;clear hR R)|(refine hK _ _ ?_;clear hK K)|refine nx ?_
   | refine wn fun K hK=>?_
   | simp only [wS]
   | (refine bD (eu _ 16 _ (by omega) (by omega)) ?_;rintro _ _ ⟨rfl,rfl⟩ _ _)
   | (refine bD (eu _ 4 _ (by omega) (by omega)) ?_;rintro _ _ ⟨rfl,rfl⟩ _ _)
   | (refine bD (MA _ _) ?_;rintro _ _ ⟨rfl,rfl⟩ _ _)
   | (refine ⟨fun A' g1 g2 g3=>by simp [AW.aa,g1,g2,g3],?_⟩)
   | (refine ⟨⟨by simp [hq],by simp [hq],by simp [hq]⟩,?_⟩)
   | (refine AC (fun A'=>A'.cy A.next=some (.cells [pv a,pv r] true 1)∧A'.cy (A.next+1)=some (.cells [.int .i64 c.aF,.int .i64 c.aj,.int .i64 c.base,.int .i64 c.c0,.int .i64 c.c1,.int .i64 c.c2,.int .i64 c.c3,.int .i64 c.ah,.int .i64 c.bX,.int .i64 c.ac,.int .i64 c.ap,.int .i64 c.ao,.bool c.cT] true 1)∧A'.cy (A.next+1+1)=some (.cells [.int .i64 q.ag,.int .i64 q.eV,.int .i64 q.cA,.int .u64 q.v] true 1)) Tryz.mx [(0,0),(1,0),(2,0),(3,0),(7,0),(8,1),(9,1),(10,0),(4,2),(5,0),(6,3),(11,2),(12,0),(13,3),(14,0),(15,0)] (by decide +kernel) fun K hK=>?_)
   | (apply aP.el (Cs a s1 _ NL);(·exact wA);(·exact sA);(·first|exact pR|exact kR);rintro _ _ rfl hS hw _;have hS:=lA hS;have hq:=ZM hS hw)
   | (apply aP.el (ul r s2 _ zM);(·exact wA);(·exact sA);(·first|exact pR|exact kR);rintro _ _ rfl hS hw _;have hS:=lA hS;have hq:=ZM hS hw)
   | refine wb ?_|refine wr ?_|refine wk ?_|refine we ?_|refine ws ?_|refine wq ?_
   | (refine wc rfl (fun hc=>?_) (fun hc=>?_)<;>(try simp at hc)<;>(try omega)<;>(try (simp [h2] at hc;done))<;>(try (simp [h3] at hc;done))<;>(try (simp [h4] at hc;done)))
   | (refine ib (fun hc=>?_) (fun hc=>?_)<;>(try omega)<;>(try simp (disch:=omega) only [if_pos,if_neg])))
   refine⟨_,by first|(simp;done)|(simp;rfl),by simp,?_⟩
   apply an.cC hS
   (·first|exact pR|exact kR)
 rw [if_neg Ks,if_neg Ks]
 by_cases MF:eO q.eV 16=13
 · rw [if_pos MF,if_pos MF]
   repeat' (first
   | (refine il fun R hR=>?_;simp [ak,au,hq,MF,AW.aa,af];try simp (disch:=omega) only [if_pos,if_neg,ak,au])
   | (refine hR _ _ ?_;clear hR R)|(refine hK _ _ ?_;clear hK K)|refine nx ?_
   | refine wn fun K hK=>?_
   | simp only [wS]
   | (refine bD (eu _ 16 _ (by omega) (by omega)) ?_;rintro _ _ ⟨rfl,rfl⟩ _ _)
   | (refine ⟨fun A' g1 g2 g3=>by simp [AW.aa,g1,g2,g3],?_⟩)
   | (refine ⟨⟨by simp [hq],by simp [hq],by simp [hq]⟩,?_⟩)
   | (refine AC (fun A'=>A'.cy A.next=some (.cells [pv a,pv r] true 1)∧A'.cy (A.next+1)=some (.cells [.int .i64 c.aF,.int .i64 c.aj,.int .i64 c.base,.int .i64 c.c0,.int .i64 c.c1,.int .i64 c.c2,.int .i64 c.c3,.int .i64 c.ah,.int .i64 c.bX,.int .i64 c.ac,.int .i64 c.ap,.int .i64 c.ao,.bool c.cT] true 1)∧A'.cy (A.next+1+1)=some (.cells [.int .i64 q.ag,.int .i64 q.eV,.int .i64 q.cA,.int .u64 q.v] true 1)) Tryz.mx [(0,0),(1,0),(3,0),(4,1),(2,3),(5,3),(6,0),(7,0)] (by decide +kernel) fun K hK=>?_)
   | (apply aP.el (pp a s1 _);(·exact wA);(·exact sA);(·first|exact pR|exact kR);rintro _ _ rfl hS hw _;have hS:=lA hS;have hq:=ZM hS hw)
   | (apply aP.el (vI r s2 _);(·exact wA);(·exact sA);(·first|exact pR|exact kR);rintro _ _ rfl hS hw _;have hS:=lA hS;have hq:=ZM hS hw)
   | refine wb ?_|refine wr ?_|refine wk ?_|refine we ?_|refine ws ?_|refine wq ?_
   | (refine wc rfl (fun hc=>?_) (fun hc=>?_)<;>(try simp at hc)<;>(try omega)<;>(try (simp [h2] at hc;done))<;>(try (simp [h3] at hc;done))<;>(try (simp [h4] at hc;done)))
   | (refine ib (fun hc=>?_) (fun hc=>?_)<;>(try omega)<;>(try simp (disch:=omega) only [if_pos,if_neg])))
   refine⟨_,by first|(simp;done)|(simp;rfl),by simp,?_⟩
   apply an.cC hS
   (·first|exact pR|exact kR)
 rw [if_neg MF,if_neg MF]
 repeat' (first
 | (refine il fun R hR=>?_;simp [ak,au,hq,h5,h9,RG,Ny,Kt,Ks,MF,AW.aa,af];try simp (disch:=omega) only [if_pos,if_neg,ak,au])
 | (refine hR _ _ ?_;clear hR R)|(refine hK _ _ ?_;clear hK K)|refine nx ?_
 | refine wn fun K hK=>?_
 | simp only [wS]
 | (refine bD (eu _ 16 _ (by omega) (by omega)) ?_;rintro _ _ ⟨rfl,rfl⟩ _ _)
 | (refine ⟨fun A' g1 g2 g3=>by simp [AW.aa,g1,g2,g3],?_⟩)
 | (refine ⟨⟨by simp [hq],by simp [hq],by simp [hq]⟩,?_⟩)
 | (refine AC (fun A'=>A'.cy A.next=some (.cells [pv a,pv r] true 1)∧A'.cy (A.next+1)=some (.cells [.int .i64 c.aF,.int .i64 c.aj,.int .i64 c.base,.int .i64 c.c0,.int .i64 c.c1,.int .i64 c.c2,.int .i64 c.c3,.int .i64 c.ah,.int .i64 c.bX,.int .i64 c.ac,.int .i64 c.ap,.int .i64 c.ao,.bool c.cT] true 1)∧A'.cy (A.next+1+1)=some (.cells [.int .i64 q.ag,.int .i64 q.eV,.int .i64 q.cA,.int .u64 q.v] true 1)) Tryz.mx [(0,0),(1,0),(3,0),(4,1),(2,3),(5,3),(6,0),(7,0)] (by decide +kernel) fun K hK=>?_)
 | (apply aP.el (pp a s1 _);(·exact wA);(·exact sA);(·first|exact pR|exact kR);rintro _ _ rfl hS hw _;have hS:=lA hS;have hq:=ZM hS hw)
 | (apply aP.el (vI r s2 _);(·exact wA);(·exact sA);(·first|exact pR|exact kR);rintro _ _ rfl hS hw _;have hS:=lA hS;have hq:=ZM hS hw)
 | refine wb ?_|refine wr ?_|refine wk ?_|refine we ?_|refine ws ?_|refine wq ?_
 | (refine wc rfl (fun hc=>?_) (fun hc=>?_)<;>(try simp at hc)<;>(try omega)<;>(try (simp [h2] at hc;done))<;>(try (simp [h3] at hc;done))<;>(try (simp [h4] at hc;done)))
 | (refine ib (fun hc=>?_) (fun hc=>?_)<;>(try omega)<;>(try simp (disch:=omega) only [if_pos,if_neg])))
 refine⟨_,by first|(simp;done)|(simp;rfl),by simp,?_⟩
 apply an.cC hS
 (·first|exact pR|exact kR)
end Go.Stx
