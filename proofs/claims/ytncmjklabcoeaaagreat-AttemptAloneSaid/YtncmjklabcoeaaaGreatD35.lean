/-
 The program's attempt: the words that it has read and those that it will write.
-/
import Derived.Test.YtncmjklabcoeaaaGreatD19
import Derived.Test.YtncmjklabcoeaaaGreatD26
set_option linter.unusedVariables false
set_option linter.unusedSimpArgs false
set_option maxRecDepth 20000
set_option maxHeartbeats 4000000
namespace Go.Stx
open Go Go.Proofs
attribute [local irreducible] fj cm aH bB dK ei
theorem E9 {A:AW} {L:List It} {k:Value→AW→Prop} {w:Nat} (DF:w≤32) (hw:A.Wf) (hS:an A L) (hk:∀n A',an A' (.h (fY n (gv w))::L)→A'.Wf→k (pv n) A'):aH Tryz.prog 67 [.int .i64 w] A k:=by
 refine bD (Da w DF A L hw hS) ?_
 rintro _ A' ⟨n,rfl,h1⟩ gY _
 exact hk n A' h1 gY
theorem Jo (c:bG) (hc:dt c) (t:Int) (A:AW) (F:HP) (hw:A.Wf) (hS:an A [.h F]) :
 aH Tryz.prog 25 [c.v,.int .i64 t] A (fun v A'=>∃b,v=pv b∧an A' [.h (bF b (iD c t)),.h F]):=by
 refine ab Tryz.func25 rfl (by kernel_rfl) fun _=>?_
 obtain⟨r0,r1⟩:=hc.ah
 obtain⟨w0,w1⟩:=hc.bX
 obtain⟨w,Mq⟩:∃w:Nat,c.bX=w:=⟨c.bX.toNat,by omega⟩
 dsimp only [bG.v]
 rw [Mq]
 repeat' (first
 | (refine il fun R hR=>?_;simp [ak,au,AW.aa,af];try simp (disch:=omega) only [if_pos,if_neg,ak,au])
 | (refine hR _ _ ?_;clear hR R)|(refine hK _ _ ?_;clear hK K)|refine nx ?_
 | refine wn fun K hK=>?_
 | simp only [wS]
 | (refine bD (C8 c.ah _ ⟨by omega,r1⟩) ?_;rintro _ _ ⟨rfl,rfl⟩ _ _)
 | (refine ⟨fun A' kL=>by simp [AW.aa,kL],?_⟩)
 | (refine ⟨by simp [hq],?_⟩)
 | (refine AC (fun A'=>A'.cy A.next=some (.cells [.int .i64 c.aF,.int .i64 c.aj,.int .i64 c.base,.int .i64 c.c0,.int .i64 c.c1,.int .i64 c.c2,.int .i64 c.c3,.int .i64 c.ah,.int .i64 w,.int .i64 c.ac,.int .i64 c.ap,.int .i64 c.ao,.bool c.cT] true 1)) Tryz.mx [(0,1),(1,0),(2,0),(3,0),(5,0),(6,0),(4,2),(7,3),(8,0),(9,2),(10,0)] (by decide +kernel) fun K hK=>?_)
 | (apply E9 (by omega);(·exact wA);(·exact sA);((first|rintro _ _ _ hS hw eG|rintro _ _ hS hw eG|rintro _ _ hS hw);(try refine⟨eG,?_⟩);(try dsimp only [AW.aZ] at hS);have hq:=ZM hS hw))
 | refine wb ?_|refine wr ?_|refine wk ?_|refine we ?_|refine ws ?_|refine wq ?_
 | (refine wc rfl (fun hc=>?_) (fun hc=>?_)<;>(try simp at hc)<;>(try omega)<;>(try (simp [h2] at hc;done))<;>(try (simp [h3] at hc;done))<;>(try (simp [h4] at hc;done)))
 | (refine ib (fun hc=>?_) (fun hc=>?_)<;>(try omega)<;>(try simp (disch:=omega) only [if_pos,if_neg])))
 have e:iD c t=⟨c,t,0,0,0,none,false,[],[],[],[],gv w,0,[],none,none,0,.bm⟩:=by unfold iD;rw [Mq]
 have h:=Mq
 refine⟨_,by first|rfl|(simp;rfl),_,rfl,?_⟩
 rw [e]
 apply bF.cC (dr:=.slice none 0 0) (cx:=.bool false) (dv:=.bool false)
 · apply an.rV .i64
   apply an.rV .i64
   apply an.rV .i64
   apply an.rV .i64
   apply an.JS
   apply an.JS
   apply an.JS
   (·exact sA)
 (dsimp only [bE,bH,cJ,bj,cR,eQ,cO,bf,ff,bO,bP,bd,be,bL,bc,bN,aO,aI,bM,aN,bJ,aT,aQ,aD.rv,na,zo])
 (try simp only [cV])
 (try simp only [h])
 (try simp only [m8,gK,ms])
 (·first|exact pR|exact kR)
 (·first|exact pR|exact kR)
 all_goals(first|exact 0|exact undef)
end Go.Stx
