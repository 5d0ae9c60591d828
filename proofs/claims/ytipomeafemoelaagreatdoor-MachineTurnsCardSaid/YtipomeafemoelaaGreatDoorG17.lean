/-
 The program's machine: what a run has left.
-/
import Derived.Test.YtipomeafemoelaaGreatDoorG16
set_option linter.unusedVariables false
set_option linter.unusedSimpArgs false
set_option linter.unusedSectionVars false
set_option maxRecDepth 20000
set_option maxHeartbeats 4000000
open Exists renaming intro->kaf
open Go.IntKind renaming i64->qg
open Go.Proofs.Tryz renaming func52->Zb,mx->qj,prog->qa
open Go.Stx.AW.le renaming alloc->qb,refl->qi,set->qZ,trans->qY
open Go.Value renaming oneCell'->qL
open Int renaming tmod_eq_emod_of_nonneg->qU
open List renaming drop_eq_getElem_cons->q9,flatMap_cons->kaI,getElem?_append_left->ZI,getElem?_eq_getElem->qk,getElem?_eq_some_iff->qK,getElem?_map->Zg,getElem_mem->Zh,length_append->qm,length_map->qD,length_singleton->q8,length_take_le->kbl,map_append->Zr,take_length->ZY,take_succ_eq_append_getElem->ZX
open Nat renaming le_refl->qf,le_succ->qz,lt_or_ge->Zt
open Prod renaming fst->qB
namespace Go.Stx
open Go Go.Proofs
attribute [local irreducible] TW bG c8 aY aD aO cK da
section
abbrev oI:List (Nat×Nat):=[(0,0),(1,0),(2,0),(3,2),(4,2),(5,3),(6,0),(7,3)]
abbrev oH:List (Nat×Nat):=[(0,0),(1,0),(3,0),(4,0),(2,2),(6,0),(5,2),(7,3),(8,0),(9,3)]
open T2
variable [Gl]
variable [AF]
theorem Q2 {P:Program} {n:Nat} {Q:Exit->Fr->AW->Prop} {a:Fr} {A:AW} {x:Code} {K:Fr->AW->Prop} (J:Fr->AW->Prop) (h1:c8 P n x (aR J Q) a A) (h2:∀a A,J a A->K a A):c8 P n x (aR K Q) a A:=
 Bb h1 λe a A h=>by cases e<;>first|exact h2 a A h|exact h
theorem Kn (b:Nat) (m:sr) (bX:∀k,k<8->(m.M k).length<2^39) (hm2:0<(m.M 2).length) (Rj:0<(m.M 3).length) (hm4:0<(m.M 4).length) (hl:m.fN.length<=16) (JL:m.cJ.length<2^30) (hel:m.sU.length<2^30)
 (AI:∀t∈m.fN,t.gH.length<2^30) (Pe:∀e∈m.sU,e.reads.length<2^38/\e.bP.length<2^38) :
 d7 qa 24 [pv b] [.h (FZ b m)] (λz v=>v=.agg (Gm m z).toArray) (λz=>.h (FZ b m)::P5 m z):=by
 intro A F hw dA;refine aN Tryz.func24 λ_=>?_;dsimp only [aa,af] at dA;obtain⟨⟨pb,vt,vs,ve⟩,q,EN,hS⟩:=FZ.open dA .z;have hql:q.length=m.fN.length:=by rw [<-EN,qD]
 have mO:(q.map qB).length=m.fN.length:=by rw [qD,hql]
 clear dA;dsimp only [Sz,aa,af] at hS;have Y0:=λ{A:AW} {L K:List It} {k:Value->AW->Prop}=>Np pb m.M bX hm2 Rj hm4 (A:=A) (L:=L) (K:=K) (k:=k);generalize hM0:m.M=M0 at hS Y0;obtain⟨ot,ct,rfl,_⟩:=fW.cy (ah.lm hS (.s (.s .z)));obtain⟨os,cs,rfl,_⟩:=fW.cy (ah.lm hS (.s (.s (.s (.s .z)))));obtain⟨q2,O7,kZ⟩:=fX.open hS (.s (.s (.s (.s (.s .z)))));have hq2l:q2.length=m.sU.length:=by rw [<-O7,qD]
 dsimp only [Fb,aa,af] at kZ;obtain⟨oe,ce,rfl,_⟩:=fW.cy (ah.lm kZ .z);clear hS;have hS:=kZ;clear kZ;rw [mO] at hS;have hq:=gh hS hw;revert hq hS hw;refine W (J2 (od oI) (od oH)) (J1 bE) ?_<;>(unhygienic intros);refine Q2 (λfr A'=>A'.Wf/\fr 0=pv b/\fr 2=pv A.next/\∃rb f o cz,fr 3=pv rb/\ah A' [.h (vA M0 f),.h (mQ (.slice o m.cJ.length cz) m.cJ),.at rb (.cells [jT f.v0 (M0 0),jT f.v1 (M0 1),.int .u64 ((M0 2).getD 0 0),.int .u64 ((M0 3).getD 0 0),.int .u64 ((M0 4).getD 0 0),jT f.v5 (M0 5),jT f.v6 (M0 6),jT f.v7 (M0 7),.slice none 0 0,.slice o m.cJ.length cz,.slice none 0 0,.slice none 0 0] true 1),.h (dv 6 (.slice oe q2.length ce) q2.length (gz q2)),.h (ez q2),.at b (.cells [pv pb,.slice ot m.fN.length ct,.slice os m.cJ.length cs,.slice oe q2.length ce] true 1),dN pb M0,.h (mA (.slice ot m.fN.length ct) (q.map qB)),.h (lu q),.h (mQ (.slice os m.cJ.length cs) m.cJ),.at A.next (.cells [.slice none 0 0,.slice none 0 0,.int .u64 0,.int .u64 0,.int .u64 0,.slice none 0 0,.slice none 0 0,.slice none 0 0,.slice none 0 0,.slice none 0 0,.slice none 0 0,.slice none 0 0] true 1),.h F]) ?_ ?_
 . repeat' (first|(refine kY λR hR=>?_;simp [ar,ax,hq,AW.ab,aG];try simp (disch:=omega) only [aA,aw,ar,ax])|(refine hR _ _ ?_;clear hR R)|(refine hK _ _ ?_;clear hK K)|refine nx ?_|(refine PK λR hR=>?_;simp [ar,ax,hq,AW.ab,aG];try simp (disch:=omega) only [aA,aw,ar,ax])|(refine Ma (λR hR=>?_) (λR hR=>?_)<;>(simp [ar,ax,hq,AW.ab,aG];try simp (disch:=omega) only [aA,aw,ar,ax]))|refine PI ?_|refine wn λK hK=>?_|simp only [wS,oI,oH]|simp only [bG,tK,lG,Option.map_none,Option.map_some,List.getElem?_toArray,List.getElem?_cons_zero,List.getElem?_cons_succ,List.getD_cons_zero,List.getD_cons_succ,Option.bind_some]|refine wl qj oI (by decide +kernel) λK hK=>?_|refine wl qj oH (by decide +kernel) λK hK=>?_|(refine wt (λ_=>True) qj [0,0,0,0,2,0,0,0,0,2,0,2,3] (.aK 0 (.aK 1 (.aK 2 (.aK 3 (.aK 5 (.aK 6 (.aK 7 (.aK 8 (.tC 4 (.tC 9 (.aK 10 (.aK 11 (.aK 12 .nil))) 11 (.aK 9 (.aK 10 (.aK 12 .nil)))) 11 (.aK 4 (.aK 9 (.aK 10 (.aK 12 .nil))))))))))))) (by decide +kernel) λK hK=>?_)|(apply Y0;(·exact wA);(·exact sA);(·first|exact pA|exact kA);((first|rintro _ _ _ hS hw fO|rintro _ _ hS hw fO|rintro _ _ hS hw);(try refine⟨fO,?_⟩);(try dsimp only [AW.bd] at hS);have hq:=gh hS hw))|(apply H3 JL;(·exact wA);(·exact sA);(·first|exact pA|exact kA);((first|rintro _ _ _ hS hw fO|rintro _ _ hS hw fO|rintro _ _ hS hw);(try refine⟨fO,?_⟩);(try dsimp only [AW.bd] at hS);have hq:=gh hS hw))|(show c8 _ _ _ _ _ _;refine nx ?_)|(refine wc rfl (λhc=>?_) (λhc=>?_)<;>(try simp at hc)<;>(try omega))|(refine ib (λhc=>?_) (λhc=>?_)<;>(try omega)<;>(try simp (disch:=omega) only [aA,aw])))
   all_goals(
    simp only [aR];refine⟨?_,by simp,by simp,?_⟩;exact wA;apply kaf;apply kaf;apply kaf;apply kaf;refine And.intro (by simp;rfl) ?_;apply ah.bS
    (·exact sA)
    (·first|exact pe|exact pj))
 clear hS hw hq Y0;rintro fr A1 ⟨hw,h0,h2,rb,f,o,cz,h3,hS⟩;generalize A.next=N at hS h2;have hq:=gh hS hw;revert hq hS hw;(repeat first|clear hq|clear hS|clear hw|revert hc|revert R|revert K);refine W (J2 (od oI) (od oH)) (J4 h0 h2 h3 bE) ?_<;>(unhygienic intros)
 refine ef (λk fr A'=>A'.Wf/\∃(i:Nat) (vtt voo:Value),k=m.fN.length-i/\i<=m.fN.length/\fr 0=pv b/\fr 2=pv N/\fr 3=pv rb/\fr 25=.slice ot m.fN.length ct/\fr 26=.int .i64 m.fN.length/\fr 27=.int .i64 i/\
  ah A' [.h (mA (.slice ot m.fN.length ct) (q.map qB)),.h (lu q),.h (xU vtt ((m.fN.take i).map aT.d)),.h (mR voo ((m.fN.take i).map aT.gH)),.h (vA M0 f),.h (mQ (.slice o m.cJ.length cz) m.cJ),.at rb (.cells [jT f.v0 (M0 0),jT f.v1 (M0 1),.int .u64 ((M0 2).getD 0 0),.int .u64 ((M0 3).getD 0 0),.int .u64 ((M0 4).getD 0 0),jT f.v5 (M0 5),jT f.v6 (M0 6),jT f.v7 (M0 7),vtt,.slice o m.cJ.length cz,.slice none 0 0,voo] true 1),.h (dv 6 (.slice oe q2.length ce) q2.length (gz q2)),.h (ez q2),.at b (.cells [pv pb,.slice ot m.fN.length ct,.slice os m.cJ.length cs,.slice oe q2.length ce] true 1),dN pb M0,.h (mQ (.slice os m.cJ.length cs) m.cJ),.at N (.cells [.slice none 0 0,.slice none 0 0,.int .u64 0,.int .u64 0,.int .u64 0,.slice none 0 0,.slice none 0 0,.slice none 0 0,.slice none 0 0,.slice none 0 0,.slice none 0 0,.slice none 0 0] true 1),.h F]) m.fN.length ?_ ?_
 refine⟨hw,0,.slice none 0 0,.slice none 0 0,by omega,by omega,by simp [h0],by simp [h2],by simp [h3],by simp,by simp,by simp,?_⟩;have h1:=ah.Yh (ah.Yj hS);apply ah.bS;exact h1
 (·first|exact pe|exact pj)
 clear hS hw hq h0 h2 h3;rintro k fr A2 ⟨hw,i,vtt,voo,rfl,hi,h0,h2,h3,Xv,h26,UF,hS⟩;have hlim:((m.fN.take i).map aT.d).length<2^30:=by rw [qD];have:=kbl i m.fN;omega
 have hlim2:((m.fN.take i).map aT.gH).length<2^30:=by rw [qD];have:=kbl i m.fN;omega
 by_cases cD:i<m.fN.length
 . have iC:(i:Int)<m.fN.length:=(by omega);have gS:=By (i:=i);have hiq:i<q.length:=(by omega);obtain⟨tb,off,cc,b8,e25,bV,Li,iY,kJ⟩:=ah.ptrI hS .z (i:=i) (by omega);injection e25 with e1 e2 e3;subst e1 e3;obtain⟨R,kZ,tg⟩:=ah.WK hiq iY (.s .z);have Mc:m.fN[i]=q[i].2:=by
    have:m.fN[i]? = some q[i].2:=by rw [<-EN,Zg,qk hiq];rfl
    rw [qk cD] at this;injection this
   have hobt:=AI m.fN[i] (Zh cD);rw [List.getElem_map] at bV;have j5:∀y,q[i]=y->q.set i y=q:=λy e=>by rw [<-e,List.set_getElem_self]
   generalize hx:q[i]=x at *;obtain⟨bt,t⟩:=x;dsimp only at Mc bV kZ tg;have j5:=j5 _ rfl;rw [Mc] at hobt;clear hS iY;obtain⟨⟨⟨cW,eD,kC,fm,Cl,vo'⟩,vc⟩,hS⟩:=tH.open kZ .z;clear kZ;dsimp only [DX,aa,af] at hS;rw [mO] at kJ;have Xg:off+i<b8.length:=(by omega);obtain⟨hir2,yl⟩:=qK.1 bV
   have bS:∀(RC RD:Value) (lt:List vO) (lo:List (List j7)) (A':AW) (L' K1 K2 K3 K8:List It),ah A' L'->aX L' (DX bt t ⟨cW,eD,kC,fm,Cl,vo'⟩ vc) K1->aE K1 (.h R) K2->aE K2 (.at tb (.cells b8 true 1)) K3->
    aX K3 [.h (xU RC lt),.h (mR RD lo),.h (vA M0 f),.h (mQ (.slice o m.cJ.length cz) m.cJ),.at rb (.cells [jT f.v0 (M0 0),jT f.v1 (M0 1),.int .u64 ((M0 2).getD 0 0),.int .u64 ((M0 3).getD 0 0),.int .u64 ((M0 4).getD 0 0),jT f.v5 (M0 5),jT f.v6 (M0 6),jT f.v7 (M0 7),RC,.slice o m.cJ.length cz,.slice none 0 0,RD] true 1),.h (dv 6 (.slice oe q2.length ce) q2.length (gz q2)),.h (ez q2),.at b (.cells [pv pb,.slice (some ⟨tb,off,none⟩) m.fN.length ct,.slice os m.cJ.length cs,.slice oe q2.length ce] true 1),dN pb M0,.h (mQ (.slice os m.cJ.length cs) m.cJ),.at N (.cells [.slice none 0 0,.slice none 0 0,.int .u64 0,.int .u64 0,.int .u64 0,.slice none 0 0,.slice none 0 0,.slice none 0 0,.slice none 0 0,.slice none 0 0,.slice none 0 0,.slice none 0 0] true 1),.h F] K8->ah A' [.h (mA (.slice (some ⟨tb,off,none⟩) m.fN.length ct) (q.map qB)),.h (lu q),.h (xU RC lt),.h (mR RD lo),.h (vA M0 f),.h (mQ (.slice o m.cJ.length cz) m.cJ),.at rb (.cells [jT f.v0 (M0 0),jT f.v1 (M0 1),.int .u64 ((M0 2).getD 0 0),.int .u64 ((M0 3).getD 0 0),.int .u64 ((M0 4).getD 0 0),jT f.v5 (M0 5),jT f.v6 (M0 6),jT f.v7 (M0 7),RC,.slice o m.cJ.length cz,.slice none 0 0,RD] true 1),.h (dv 6 (.slice oe q2.length ce) q2.length (gz q2)),.h (ez q2),.at b (.cells [pv pb,.slice (some ⟨tb,off,none⟩) m.fN.length ct,.slice os m.cJ.length cs,.slice oe q2.length ce] true 1),dN pb M0,.h (mQ (.slice os m.cJ.length cs) m.cJ),.at N (.cells [.slice none 0 0,.slice none 0 0,.int .u64 0,.int .u64 0,.int .u64 0,.slice none 0 0,.slice none 0 0,.slice none 0 0,.slice none 0 0,.slice none 0 0,.slice none 0 0,.slice none 0 0] true 1),.h F]:=λRC RD lt lo A' L' K1 K2 K3 K8 h e1 e2 e3 e4=>by
    have g1:=tH.dP (b:=bt) (t:=t) h e1;have g2:=tg A' _ _ _ t g1 .z e2;rw [j5] at g2;exact ah.bS (kJ A' _ _ g2 (.s e3)) (.s .z (.s .z e4))
   have ed:(m.fN.take (i+1)).map aT.d=(m.fN.take i).map aT.d++[t.d]:=(by rw [ZX cD,Zr,Mc];rfl);have eo:(m.fN.take (i+1)).map aT.gH=(m.fN.take i).map aT.gH++[t.gH]:=(by rw [ZX cD,Zr,Mc];rfl);generalize (m.fN.take i).map aT.d=lt at *;generalize (m.fN.take i).map aT.gH=lo at *;obtain⟨ott2,ctt2,rfl,_⟩:=fW.cy (ah.lm hS (.s (.s (.s (.s (.s (.s (.s (.s (.s (.s .z)))))))))));have hq:=gh hS hw;refine ba ?_
   repeat' (first|(with_reducible apply WX (t:=t.d);(·first|(simp;done)|(simp;rfl));(·first|(simp;done)|(simp;rfl));(·exact wA);(·exact sA);(·first|exact pA|exact kA);(·first|exact AW.bY _ _|((repeat' (first|apply aE.z|apply aE.s));done)|(simp [hq];(repeat' (first|rfl|refine⟨rfl,?_⟩));done)|(simp;done)|(simp;rfl)|(simp [hq];done)|(simp [hq];rfl));(·first|omega|(simp;omega));(·intro _ _;trivial);rintro _ _ _ hS hw _;(try dsimp only [AW.bd] at hS);have hq:=gh hS hw)|(with_reducible apply lwObl;(·first|(simp;done)|(simp;rfl));(·first|(simp;done)|(simp;rfl));(·exact wA);(·exact sA);(·first|exact pA|exact kA);(·first|exact AW.bY _ _|((repeat' (first|apply aE.z|apply aE.s));done)|(simp [hq];(repeat' (first|rfl|refine⟨rfl,?_⟩));done)|(simp;done)|(simp;rfl)|(simp [hq];done)|(simp [hq];rfl));(·first|omega|(simp;omega));(·intro _ _;trivial);rintro _ _ _ hS hw _;(try dsimp only [AW.bd] at hS);have hq:=gh hS hw)|(refine Ma (λR hR=>?_) (λR hR=>?_)<;>(first|(with_reducible apply WX (t:=t.d);(·first|(simp;done)|(simp;rfl));(·first|(simp;done)|(simp;rfl));(·exact wA);(·exact sA);(·first|exact pA|exact kA);(·first|exact AW.bY _ _|((repeat' (first|apply aE.z|apply aE.s));done)|(simp [hq];(repeat' (first|rfl|refine⟨rfl,?_⟩));done)|(simp;done)|(simp;rfl)|(simp [hq];done)|(simp [hq];rfl));(·first|omega|(simp;omega));(·intro _ _;trivial);rintro _ _ _ hS hw _;(try dsimp only [AW.bd] at hS);have hq:=gh hS hw)|(simp [ar,ax,hq,h0,h2,h3,Xv,h26,UF,iC,gS,Li,bV,Xg,yl,XX,R8.cells,AW.ab,aG];try simp (disch:=omega) only [aA,aw,ar,ax])))|(refine kY λR hR=>?_;simp [ar,ax,hq,h0,h2,h3,Xv,h26,UF,iC,gS,Li,bV,Xg,yl,XX,R8.cells,AW.ab,aG];try simp (disch:=omega) only [aA,aw,ar,ax])|(refine hR _ _ ?_;clear hR R)|(refine hK _ _ ?_;clear hK K)|refine nx ?_|refine wn λK hK=>?_|simp only [wS,oI,oH]|refine wl qj oI (by decide +kernel) λK hK=>?_|refine wl qj oH (by decide +kernel) λK hK=>?_|(apply Kb bt t.d _;(·exact wA);(·exact sA);(·first|exact pA|exact kA);((first|rintro _ _ _ hS hw fO|rintro _ _ hS hw fO|rintro _ _ hS hw);(try refine⟨fO,?_⟩);(try dsimp only [AW.bd] at hS);have hq:=gh hS hw))|(apply PO bt t.d _ t.gH hobt;(·exact wA);(·exact sA);(·first|exact pA|exact kA);((first|rintro _ _ _ hS hw fO|rintro _ _ hS hw fO|rintro _ _ hS hw);(try refine⟨fO,?_⟩);(try dsimp only [AW.bd] at hS);have hq:=gh hS hw))|(show c8 _ _ _ _ _ _;refine nx ?_)|(refine wc rfl (λhc=>?_) (λhc=>?_)<;>(try simp at hc)<;>(try omega))|(refine ib (λhc=>?_) (λhc=>?_)<;>(try omega)<;>(try simp (disch:=omega) only [aA,aw])))
   refine⟨m.fN.length-(i+1),by omega,?_,i+1,?_⟩;exact wA;rw [ed,eo];apply kaf;apply kaf;refine⟨rfl,by omega,by simp [h0],by simp [h2],by simp [h3],by simp [Xv],by simp [h26],by simp,?_⟩;apply bS
   (·exact sA)
   unfold DX;dsimp only
   (·first|exact pe|exact pj)
   (·first|exact pe|exact pj)
   (·first|exact pe|exact pj)
   (·first|exact pe|exact pj)
 have vT:i=m.fN.length:=by omega
 subst vT;have iC:¬((m.fN.length:Int)<m.fN.length):=by omega
 rw [ZY] at hS;clear hlim hlim2;have hq:=gh hS hw;refine ba ?_;revert hq hS hw;(repeat first|clear hq|clear hS|clear hw|revert hc|revert R|revert K);refine W (J2 (od oI) (od oH)) (J8 h0 h2 h3 Xv h26 UF iC bE) ?_<;>(unhygienic intros)
 refine ef (λk fr A'=>A'.Wf/\∃(i:Nat) (vee:Value),k=q2.length-i/\i<=q2.length/\fr 0=pv b/\fr 2=pv N/\fr 3=pv rb/\fr 49=.slice oe q2.length ce/\fr 50=.int .i64 q2.length/\fr 51=.int .i64 i/\
  ah A' [.h (fX vee (m.sU.take i)),.h (mA (.slice ot m.fN.length ct) (q.map qB)),.h (lu q),.h (xU vtt (m.fN.map aT.d)),.h (mR voo (m.fN.map aT.gH)),.h (vA M0 f),.h (mQ (.slice o m.cJ.length cz) m.cJ),.at rb (.cells [jT f.v0 (M0 0),jT f.v1 (M0 1),.int .u64 ((M0 2).getD 0 0),.int .u64 ((M0 3).getD 0 0),.int .u64 ((M0 4).getD 0 0),jT f.v5 (M0 5),jT f.v6 (M0 6),jT f.v7 (M0 7),vtt,.slice o m.cJ.length cz,vee,voo] true 1),.h (dv 6 (.slice oe q2.length ce) q2.length (gz q2)),.h (ez q2),.at b (.cells [pv pb,.slice ot m.fN.length ct,.slice os m.cJ.length cs,.slice oe q2.length ce] true 1),dN pb M0,.h (mQ (.slice os m.cJ.length cs) m.cJ),.at N (.cells [.slice none 0 0,.slice none 0 0,.int .u64 0,.int .u64 0,.int .u64 0,.slice none 0 0,.slice none 0 0,.slice none 0 0,.slice none 0 0,.slice none 0 0,.slice none 0 0,.slice none 0 0] true 1),.h F]) q2.length ?_ ?_
 refine⟨hw,0,.slice none 0 0,by omega,by omega,by simp [h0],by simp [h2],by simp [h3],by simp,by simp,by simp,?_⟩;exact fX.nil hS;clear hS hw hq h0 h2 h3 Xv h26 UF;rintro k fr A3 ⟨hw,i,vee,rfl,hi,h0,h2,h3,Xu,h50,h51,hS⟩;by_cases cD:i<q2.length
 . have iC:(i:Int)<q2.length:=(by omega);have gS:=By (i:=i);obtain⟨p,b8,rfl,bV,fO,hcell⟩:=fW.WN (ah.lm hS (.s (.s (.s (.s (.s (.s (.s (.s .z))))))))) cD (LG q2 cD);have Y6:=Pe q2[i].1 (by rw [<-O7];exact List.mem_map_of_mem (Zh cD));have Mc:m.sU.take (i+1)=m.sU.take i++[q2[i].1]:=by
    rw [ZX (by omega)];congr 2;have:m.sU[i]? = some q2[i].1:=by rw [<-O7,Zg,qk cD];rfl
    rw [qk (by omega)] at this;injection this
   have Tc:(m.sU.take i).length<2^30:=by have:=kbl i m.sU;simp;omega
   obtain⟨h5,h6⟩:=I1 cD hS (.s (.s (.s (.s (.s (.s (.s (.s (.s .z)))))))));generalize m.sU.take i=le at *;generalize hx:q2[i]=x at *;obtain⟨⟨ea,et,ek,ew,er,ewr⟩,r,w⟩:=x;dsimp only [zt] at hcell Y6 h5 h6;obtain⟨o1,c1,rfl,_⟩:=h5.cy;obtain⟨o2,c2,rfl,_⟩:=h6.cy;have heR:=λ{A:AW} {L K:List It} {k:Value->AW->Prop}=>V5 cD hx Y6.1 (A:=A) (L:=L) (K:=K) (k:=k);have heW:=λ{A:AW} {L K:List It} {k:Value->AW->Prop}=>V4 cD hx Y6.2 (A:=A) (L:=L) (K:=K) (k:=k);dsimp only at heR heW;clear hx h5 h6;have hq:=gh hS hw;refine ba ?_
   repeat' (first|(with_reducible apply W0 (e:=⟨ea,et,ek,ew,er,ewr⟩);(·first|(simp;done)|(simp;rfl));(·first|(simp;done)|(simp;rfl));(·exact wA);(·exact sA);(·first|exact pA|exact kA);(·first|exact AW.bY _ _|((repeat' (first|apply aE.z|apply aE.s));done)|(simp [hq];(repeat' (first|rfl|refine⟨rfl,?_⟩));done)|(simp;done)|(simp;rfl)|(simp [hq];done)|(simp [hq];rfl));(·first|omega|(simp;omega));(·intro _ _;trivial);rintro _ _ _ hS hw _;(try dsimp only [AW.bd] at hS);have hq:=gh hS hw)|(refine kY λR hR=>?_;simp [ar,ax,hq,h0,h2,h3,Xu,h50,h51,iC,gS,fO,bV,hcell,AW.ab,aG];try simp (disch:=omega) only [aA,aw,ar,ax])|(refine hR _ _ ?_;clear hR R)|(refine hK _ _ ?_;clear hK K)|refine nx ?_|refine wn λK hK=>?_|simp only [wS,oI,oH]|refine wl qj oI (by decide +kernel) λK hK=>?_|refine wl qj oH (by decide +kernel) λK hK=>?_|(apply heR;(·exact wA);(·exact sA);(·first|exact pA|exact kA);((first|rintro _ _ _ hS hw fO|rintro _ _ hS hw fO|rintro _ _ hS hw);(try refine⟨fO,?_⟩);(try dsimp only [AW.bd] at hS);have hq:=gh hS hw))|(apply heW;(·exact wA);(·exact sA);(·first|exact pA|exact kA);((first|rintro _ _ _ hS hw fO|rintro _ _ hS hw fO|rintro _ _ hS hw);(try refine⟨fO,?_⟩);(try dsimp only [AW.bd] at hS);have hq:=gh hS hw))|(show c8 _ _ _ _ _ _;refine nx ?_)|(refine wc rfl (λhc=>?_) (λhc=>?_)<;>(try simp at hc)<;>(try omega))|(refine ib (λhc=>?_) (λhc=>?_)<;>(try omega)<;>(try simp (disch:=omega) only [aA,aw])))
   dsimp only at Mc;refine⟨q2.length-(i+1),by omega,?_,i+1,?_⟩;exact wA;rw [Mc];apply kaf;refine⟨rfl,by omega,by simp [h0],by simp [h2],by simp [h3],by simp [Xu],by simp [h50],by simp,?_⟩;apply ah.bS
   (·exact sA)
   (·first|exact pe|exact pj)
 have vT:i=q2.length:=by omega
 subst vT;have iC:¬((q2.length:Int)<q2.length):=by omega
 have e:m.sU.take q2.length=m.sU:=by rw [hq2l,ZY]
 rw [e] at hS;clear e;obtain⟨ott,ctt,rfl,_⟩:=fW.cy (ah.lm hS (.s (.s (.s .z))));simp only [qD] at hS;obtain⟨qe,Me,yr⟩:=fX.open hS .z;have hqel:qe.length=m.sU.length:=by rw [<-Me,qD]
 dsimp only [Fb,aa,af] at yr;obtain⟨oee,cee,rfl,_⟩:=fW.cy (ah.lm yr .z);clear yr;rw [hqel] at hS;obtain⟨qo,hqo,yr⟩:=mR.open hS (.s (.s (.s (.s .z))));have hqol:qo.length=m.fN.length:=by rw [<-qD (f:=aT.gH),<-hqo,qD]
 dsimp only [MY,aa,af] at yr;obtain⟨oo,co,rfl,_⟩:=fW.cy (ah.lm yr .z);clear yr;rw [hqol] at hS;have hq:=gh hS hw;refine ba ?_;revert hq hS hw;(repeat first|clear hq|clear hS|clear hw|revert hc|revert R|revert K);refine W (J2 (od oI) (od oH)) (J9 h0 h2 h3 Xu h50 h51 iC @jT.eq_1 bE) ?_<;>(unhygienic intros);subst hM0;have fin2:∀(B:AW) (o1 o2:dQ),ah B [.h (fX (.slice oee m.sU.length cee) m.sU),.h (mA (.slice ot m.fN.length ct) (q.map qB)),.h (lu q),.h (xU (.slice ott m.fN.length ctt) (m.fN.map aT.d)),.h (mR (.slice oo m.fN.length co) (m.fN.map aT.gH)),.h (vA m.M f),.h (mQ (.slice o m.cJ.length cz) m.cJ),.at rb o1,.h (dv 6 (.slice oe q2.length ce) q2.length (gz q2)),.h (ez q2),.at b (.cells [pv pb,.slice ot m.fN.length ct,.slice os m.cJ.length cs,.slice oe q2.length ce] true 1),dN pb m.M,.h (mQ (.slice os m.cJ.length cs) m.cJ),.at N o2,.h F]->ah B [.h (FZ b m),.h (vA m.M f),.h (xU (.slice ott m.fN.length ctt) (m.fN.map aT.d)),.h (mQ (.slice o m.cJ.length cz) m.cJ),.h (fX (.slice oee m.sU.length cee) m.sU),.h (mR (.slice oo m.fN.length co) (m.fN.map aT.gH)),.h F]:=λB o1 o2 h=>by
  have h1:ah B (.h (fX (.slice oe q2.length ce) m.sU)::[.h (fX (.slice oee m.sU.length cee) m.sU),.h (mA (.slice ot m.fN.length ct) (q.map qB)),.h (lu q),.h (xU (.slice ott m.fN.length ctt) (m.fN.map aT.d)),.h (mR (.slice oo m.fN.length co) (m.fN.map aT.gH)),.h (vA m.M f),.h (mQ (.slice o m.cJ.length cz) m.cJ),.at rb o1,.at b (.cells [pv pb,.slice ot m.fN.length ct,.slice os m.cJ.length cs,.slice oe q2.length ce] true 1),dN pb m.M,.h (mQ (.slice os m.cJ.length cs) m.cJ),.at N o2,.h F]):=fX.dP (q:=q2) O7 h (by unfold Fb;(first|exact pA|exact kA));have h2:ah B (.h (FZ b m)::[.h (fX (.slice oee m.sU.length cee) m.sU),.h (xU (.slice ott m.fN.length ctt) (m.fN.map aT.d)),.h (mR (.slice oo m.fN.length co) (m.fN.map aT.gH)),.h (vA m.M f),.h (mQ (.slice o m.cJ.length cz) m.cJ),.at rb o1,.at N o2,.h F]):=FZ.dP (m:=m) (f:=⟨pb,.slice ot m.fN.length ct,.slice os m.cJ.length cs,.slice oe q2.length ce⟩) (q:=q) EN h1 (by unfold Sz;dsimp only;(first|exact pA|exact kA))
  apply ah.bS;exact h2
  (·first|exact pe|exact pj)
 refine⟨_,by(simp [h2,AW.ab];rfl),?_⟩;refine⟨⟨f,(ott,ctt),(o,cz),(oee,cee),(oo,co)⟩,by simp [Gm,jT],?_⟩;show ah _ [.h (FZ b m),.h (vA m.M f),.h (xU (.slice ott m.fN.length ctt) (m.fN.map aT.d)),.h (mQ (.slice o m.cJ.length cz) m.cJ),.h (fX (.slice oee m.sU.length cee) m.sU),.h (mR (.slice oo m.fN.length co) (m.fN.map aT.gH)),.h F];apply fin2;apply ah.bS
 (·exact sA)
 (·first|exact pe|exact pj)
end
section
open T2
variable [Gl]
variable [AF]
def JE (l:List FO):Prop:=∀e∈l,e.reads.length<2^38/\e.bP.length<2^38
theorem JE.nil:JE []:=λe he=>by cases he
theorem JE.aK {e:FO} (h1:e.reads.length<2^38) (h2:e.bP.length<2^38):JE [e]:=λe' he=>by
 rw [List.mem_singleton] at he;subst he;exact⟨h1,h2⟩
theorem Bk {t:aT} {s:aJ} {M:Mm} (h:FP t s M):JE (t.vN M s).2.1:=by
 have h1:=h.hC.kL;have h2:=h.hC.len;unfold aT.vN;dsimp only;split;exact JE.aK (by simp) (by simp);split;refine JE.aK (by dsimp only;omega) ?_;dsimp only;split;have:=List.length_filter_le (λa=>decide (a<(bC s M).2.2.1.cf.be)) (bC s M).2.2.1.bz.bL;omega;decide;exact JE.nil
theorem Qb {t:aT} {M:Mm} {i:bm} (h:t.cf.aW=true->FP ({ t with aW:=true,fC:=0 }:aT).sy (fU (eP t.cf t.id)).2 M):JE (t.plain M i).2.1:=by
 unfold aT.plain;dsimp only;split;exact JE.nil;split;rename_i h1;exact Bk (h h1);split<;>exact JE.aK (by simp) (by simp)
theorem RU {d8:Int->Int->Int->Int} (hA:xf d8) {c:br} {nt k:Nat} (hc:cX c) (hk:k+1<2^24) {t:aT} {M:Mm} (hM:k9 c nt k M) (h:lw c nt k t) (pY:Dm t.aC):JE (t.step d8 M).2.2.1:=by
 unfold aT.step;split;exact JE.nil;rename_i hd;have hd:t.done=false:=by simpa using hd
 show JE (t.lX d8 M).2.1;unfold aT.lX;split;exact JE.nil;rename_i dL;split;rename_i s dB;split;rename_i hb;exact Bk (T3 hc hk hM h hd dB hb);rename_i hb;have hb:s.jN=false:=by simpa using hb
 split;rename_i hs;exact Bk (XA hc hk hM h hd dB hs);rename_i hs;have hx:=TJ hA hc hk hM h hd dB hb (by simpa using hs) pY;unfold aT.k7;rw [aw hx.xQ.1,dB];dsimp only;split;rename_i hr;exact Bk (hx.hr hr);exact JE.nil;rename_i dB;have hx:=TL hA hc hk hM h hd dB dL pY;unfold aT.k7;split;rename_i h7;exact Bk (hx.hb h7);rw [dB];dsimp only;split;rename_i hp;exact Qb λhs=>hx.hp hs hp;split<;>exact JE.nil
structure vy (c:br) (nt k:Nat) (m:sr):Prop where
 M:k9 c nt k m.M
 T:∀t∈m.fN,lw c nt k t/\Dm t.aC
 n:m.fN.length=nt
 s:m.cJ.length<=k
 e:m.sU.length<=k
 b:JE m.sU
theorem vy.mono {c:br} {nt k k':Nat} {m:sr} (h:vy c nt k m) (hk:k<=k'):vy c nt k' m:=
 ⟨h.M.mono hk,λt ht=>⟨(h.T t ht).1.mono hk,(h.T t ht).2⟩,h.n,Nat.le_trans h.s hk,Nat.le_trans h.e hk,h.b⟩
theorem vy.pick {d8:Int->Int->Int->Int} (hA:xf d8) {c:br} {nt k:Nat} (hc:cX c) (hk:k+1<2^24) {m:sr} (h:vy c nt k m) (id:Int):vy c nt (k+1) (m.pick d8 id):=by
 unfold sr.pick;split;split;exact h.mono (qz k);rename_i t ht;obtain⟨mv,pY⟩:=h.T t (List.mem_of_getElem? ht);dsimp only;split;obtain⟨g1,g2⟩:=U0 (d8:=d8) hc (by omega) h.M mv;have g3:=RU hA hc hk h.M mv pY;have g4:=Kg (d8:=d8) (t:=t) (M:=m.M);refine⟨g2,λt' ht'=>?_,by rw [List.length_set];exact h.n,by rw [qm];have:=h.s;simp only [q8];omega,?_,?_⟩;rcases List.mem_or_eq_of_mem_set ht' with h1|h1;exact⟨(h.T t' h1).1.mono (qz k),(h.T t' h1).2⟩;subst h1;exact⟨g1,by rw [Hc];exact pY⟩;have:=h.e;rw [qm,qD];rcases g4 with g4|⟨e,g4⟩<;>rw [g4]<;>simp<;>omega;intro e he;rcases List.mem_append.1 he with h1|h1;exact h.b e h1;obtain⟨e',h2,rfl⟩:=List.mem_map.1 h1;exact g3 e' h2;exact h.mono (qz k);exact h.mono (qz k)
def pD (d8:Int->Int->Int->Int) (m:sr) (pk:List Int):sr:=pk.foldl (sr.pick d8) m
theorem Ec (d8:Int->Int->Int->Int) (m:sr) (pk:List Int) (x:Int):pD d8 m (pk++[x])=(pD d8 m pk).pick d8 x:=by
 unfold pD;rw [List.foldl_append];rfl
theorem vy.run {d8:Int->Int->Int->Int} (hA:xf d8) {c:br} {nt:Nat} (hc:cX c):∀(pk:List Int) {k:Nat} {m:sr},vy c nt k m->k+pk.length<2^24->vy c nt (k+pk.length) (pD d8 m pk)
 | [],k,m,h,_=>h
 | x::pk,k,m,h,hk=>by
   rw [List.length_cons] at hk ⊢;have:=vy.run hA hc pk (h.pick hA hc (by omega) x) (by omega);rw [show k+(pk.length+1)=k+1+pk.length by omega];exact this
theorem Ev {c:br} (AL:pK c) {zs:List Int} {ps:List (List bm)} (hz:(zs.length:Int)=c.be) (hn:ps.length<=16) (kO:∀i (hi:i<ps.length),(cG ps[i]).2=0) (pY:∀p∈ps,Dm p):vy c ps.length 0 (pH c zs ps):=by
 refine⟨P0 AL ps.length hz,λt ht=>?_,?_,qf _,qf _,JE.nil⟩;obtain⟨i,hi,rfl⟩:=List.mem_mapIdx.1 ht;exact⟨Qe ⟨by omega,by omega,hn⟩ (kO i hi),pY _ (Zh hi)⟩;show (ps.mapIdx _).length=_;rw [List.length_mapIdx]
theorem EW {A:AW} (hw:A.Wf) (o:dQ):pV (A.alloc o).bp=pt A.next o*pV A.bp:=by
 have hn:A.bp A.next=none:=by
  cases h:A.bp A.next with
  | none=>rfl
  | some x=>exact absurd (hw.lt h) (Nat.lt_irrefl _)
 have e:(A.alloc o).bp=Hp.un (λj=>if j=A.next then some o else none) A.bp:=by
  funext i;rw [AW.dt];unfold Hp.un;by_cases h:i=A.next<;>simp [h]
 have d:Hp.dj (λj=>if j=A.next then some o else none) A.bp:=by
  intro i;by_cases h:i=A.next;subst h;exact .inr hn;exact .inl (aw h)
 ext h;constructor;intro h1;exact⟨_,_,d,(show h=_ from h1).trans e,rfl,rfl⟩;rintro ⟨h1,h2,g1,g2,g3,g4⟩;show h=_;have g3':h1=_:=g3;have g4':h2=_:=g4;rw [g2,g3',g4',e]
theorem vy.len {c:br} {nt k:Nat} {m:sr} (hc:cX c) (hn:nt<=16) (h:vy c nt k m):∀k,k<8->(m.M k).length<2^39:=by
 have h0:=h.M.l0;have h1:=h.M.l1;have h2:=h.M.l2;have h3:=h.M.l3;have h4:=h.M.l4;have h5:=h.M.l5;have h6:=h.M.l6;have h7:=h.M.l7;have hb:=hc.nb;have hw:=hc.be;have ho:=hc.ao;intro k hk;have:k=0\/k=1\/k=2\/k=3\/k=4\/k=5\/k=6\/k=7:=by omega
 rcases this with rfl|rfl|rfl|rfl|rfl|rfl|rfl|rfl<;>omega
theorem Km {d8:Int->Int->Int->Int} (hA:xf d8) (hF:FOK) {c:br} (AL:pK c) (vi vp vk:Value) (zs:List Int) (ps:List (List bm)) (pk:List Int) (A:AW) (YD:cd A .u64 vi zs) (hp:jf A vp ps) (hk:cd A .i64 vk pk) (he:(jt c zs.length ps pk).2.2=0) (hpk:pk.length<2^20) (pY:∀p∈ps,Dm p) :
 aD qa 8 [MG c vi vp vk] A (λu A'=>∃z,u=.tuple #[.agg (Gm (pD d8 (pH c zs ps) pk) z).toArray,.int .i64 0,.int .i64 0,.int .i64 0]/\ah A' (P5 (pD d8 (pH c zs ps) pk) z++[.h (pV A.bp)])):=by
 refine aN Tryz.func8 λhw=>?_;obtain⟨hr,hce,ER,AK,Pa,kO⟩:=xk he;obtain⟨oi,ci,rfl,_⟩:=YD.cy;obtain⟨op,cp,rfl,_⟩:=hp.cy;obtain⟨ok,ck,rfl,_⟩:=hk.cy;have UE:=AL.ok;have hok0:=Ev AL Pa AK kO pY;have cN:=λB (fO:A.le B)=>Qf hF AL (.slice oi zs.length ci) (.slice op ps.length cp) (.slice ok pk.length ck) zs ps pk B (YD.le fO hw) (hp.le fO hw) (hk.le fO hw) he;generalize hm0:pH c zs ps=m0 at *;obtain⟨mC,fR,lS,c0,c1,c2,c3,kL,lO,lT,lR,iZ,mW⟩:=c;unfold MG km br.cells at cN ⊢;simp only [aa,af] at cN ⊢;revert hw;refine W cF (J1 bE) ?_<;>(unhygienic intros);refine bO (cN _ ((qb A _).trans (qb _ _))) ?_;rintro _ A2 ⟨b,rfl,dA⟩ kc _;rw [EW (hw.alloc _),EW hw] at dA;have hS:ah A2 [.h (FZ b m0),.at (A.next+1) (.cells [.slice none 0 0,.slice none 0 0,.int .u64 0,.int .u64 0,.int .u64 0,.slice none 0 0,.slice none 0 0,.slice none 0 0,.slice none 0 0,.slice none 0 0,.slice none 0 0,.slice none 0 0] true 1),.at A.next (.cells [.int .i64 mC,.int .i64 fR,.int .i64 lS,.int .i64 c0,.int .i64 c1,.int .i64 c2,.int .i64 c3,.int .i64 kL,.int .i64 lO,.int .i64 lT,.int .i64 lR,.int .i64 iZ,.bool mW,.slice oi zs.length ci,.slice op ps.length cp,.slice ok pk.length ck] true 1),.h (pV A.bp)]:=by
  have e:∀P Q R H:HP,P*((Q*(R*H))*eZ)=P*(Q*(R*(H*eZ))):=λP Q R H=>by ac_rfl
  exact bB.dZ dA (e _ _ _ _)
 clear dA;have Lb:=hw;replace hw:=kc;clear kc;have hq:=gh hS hw;revert hq hS hw;(repeat first|clear hq|clear hS|clear hw|revert hc|revert R|revert K);refine W cF (J1 bE) ?_<;>(unhygienic intros)
 refine ef (λk fr A'=>A'.Wf/\∃(i:Nat),k=pk.length-i/\i<=pk.length/\fr 2=pv (A.next+1)/\fr 6=pv b/\fr 23=.slice ok pk.length ck/\fr 24=.int .i64 pk.length/\fr 25=.int .i64 i/\
  ah A' [.h (FZ b (pD d8 m0 (pk.take i))),.at (A.next+1) (.cells [.slice none 0 0,.slice none 0 0,.int .u64 0,.int .u64 0,.int .u64 0,.slice none 0 0,.slice none 0 0,.slice none 0 0,.slice none 0 0,.slice none 0 0,.slice none 0 0,.slice none 0 0] true 1),.at A.next (.cells [.int .i64 mC,.int .i64 fR,.int .i64 lS,.int .i64 c0,.int .i64 c1,.int .i64 c2,.int .i64 c3,.int .i64 kL,.int .i64 lO,.int .i64 lT,.int .i64 lR,.int .i64 iZ,.bool mW,.slice oi zs.length ci,.slice op ps.length cp,.slice ok pk.length ck] true 1),.h (pV A.bp)]) pk.length ?_ ?_
 exact⟨hw,0,by omega,by omega,by simp,by simp,by simp,by simp,by simp,hS⟩;clear hS hw hq;rintro k fr A3 ⟨hw,i,rfl,hi,h2,h6,h23,h24,Xv,hS⟩;have hkp:kg A A3:=hS.keeps 3 rfl;have Mc:(pk.take i).length=i:=by rw [List.length_take];omega
 have BT:=vy.run hA UE (pk.take i) hok0 (by omega);rw [Mc,Nat.zero_add] at BT;by_cases cD:i<pk.length
 . have iC:(i:Int)<pk.length:=(by omega);have gS:=By (i:=i);obtain⟨pp,b8,rfl,bV,hcell⟩:=cd.at (fW.keeps hkp hk) cD;have e1:pk.take (i+1)=pk.take i++[pk[i]]:=ZX cD;have SX:=Qc hA hF UE (k:=i) (by omega) b (pD d8 m0 (pk.take i)) BT.M BT.T (by rw [BT.n];exact AK) (by have:=BT.s;omega) (by have:=BT.e;omega) pk[i];rw [<-Ec,<-e1] at SX;clear e1;generalize pk[i]=id at *;generalize (pD d8 m0 (pk.take i)).did d8 id=dd at SX;have hq:=gh hS hw;refine ba ?_;revert hq hS hw;(repeat first|clear hq|clear hS|clear hw|revert hc|revert R|revert K);refine W (J1 @SX) (DM h2 h6 h23 h24 Xv iC gS bV hcell bE) ?_<;>(unhygienic intros);refine⟨pk.length-(i+1),by omega,?_,i+1,rfl,by omega,by simp [h2],by simp [h6],by simp [h23],by simp [h24],by simp,?_⟩;exact wA;apply ah.bS
   (·exact sA)
   (·first|exact pe|exact pj)
 have vT:i=pk.length:=by omega
 subst vT;have iC:¬((pk.length:Int)<pk.length):=by omega
 rw [ZY] at hS BT;generalize pD d8 m0 pk=m at *;have hres:=Kn b m (BT.len UE AK) (by rw [BT.M.l2];decide) (by rw [BT.M.l3];decide) (by rw [BT.M.l4];decide) (by rw [BT.n];exact AK) (by have:=BT.s;omega) (by have:=BT.e;omega) (λt ht=>by have:=(BT.T t ht).1.co.gH;omega) BT.b;dsimp only [P5] at hres;have hq:=gh hS hw;refine ba ?_;revert hq hS hw;(repeat first|clear hq|clear hS|clear hw|revert hc|revert R|revert K);refine W (J1 (Tg.mk (n:=32) @hres)) (J9 h2 h6 h23 h24 Xv iC @Gm.eq_1 @jT.eq_1 bE) ?_<;>(unhygienic intros);refine⟨.tuple #[.agg (Gm m xw).toArray,.int .i64 0,.int .i64 0,.int .i64 0],?_,xw,rfl,?_⟩;simp [h2,Gm,jT,AW.ab,bu,aQ,aS];show ah _ [.h (vA m.M xw.f),.h (xU (.slice xw.t.1 m.fN.length xw.t.2) (m.fN.map aT.d)),.h (mQ (.slice xw.s.1 m.cJ.length xw.s.2) m.cJ),.h (fX (.slice xw.e.1 m.sU.length xw.e.2) m.sU),.h (mR (.slice xw.o.1 m.fN.length xw.o.2) (m.fN.map aT.gH)),.h (pV A.bp)]
 apply ah.bS
 (·exact sA)
 (·first|exact pe|exact pj)
end
section
namespace TLawK
theorem mK [Gl] {A:AW} {L:List It} {T:Prop} (hS:ah A L) (hw:A.Wf) (h':(aV A L/\bq A L/\bQ L)=T:=by first|(dsimp only [aa,af,aV,bq,bQ,eQ];done)|exact rfl):T:=h'▸hS.eJ hw
end TLawK
open TLawK
variable [Gl]
end
section
open T7
variable [Gl]
variable [AF]
theorem Is {A:AW} {v:Value} {α:Type} {f:α->List Value} {k:Nat} {l:List α} (hf:∀x,(f x).length=k) (h:fW A k v l.length (l.flatMap f)) {i:Nat} (hi:i<l.length) :
 ∃p c b8 own,v=.slice (some p) l.length c/\A.bp p.block=some (.cells b8 own k)/\p.off+i*k+k<=b8.length/\(b8.drop (p.off+i*k)).take k=f l[i]:=by
 rcases h with ⟨_,h0,_⟩|⟨p,c,b8,own,u,e1,e2,e3,e4,e5,e6⟩;omega;have e3':A.bp p.block=some (.cells b8 own k):=e4▸e3;have h7:i*k+k<=l.length*k:=by
  have:=Nat.mul_le_mul_right k (show i+1<=l.length by omega);rwa [Nat.add_mul,Nat.one_mul] at this
 refine⟨p,c,b8,own,e1,e3',by omega,?_⟩;have:=uF f k hf l i hi;rw [e6,List.drop_take,List.drop_drop,List.take_take,Nat.min_eq_left (by omega)] at this;exact this
def Ut (A:AW) (v:Value) (l:List FO):Prop:=∃q:List Bq,q.map qB=l/\fW A 6 v q.length (gz q)/\∀i (hi:i<q.length),cd A .i64 q[i].2.1 q[i].1.reads/\cd A .i64 q[i].2.2 q[i].1.bP
def XG (A:AW) (v:Value) (l:List (List j7)):Prop:=∃q:List (Value×List j7),q.map Prod.snd=l/\fW A 1 v q.length (q.map qB)/\∀i (hi:i<q.length),fW A 3 q[i].1 q[i].2.length (uL q[i].2)
structure XF (A:AW) (m:sr) (z:WE):Prop where
 im:PD A (.agg #[jT z.f.v0 (m.M 0),jT z.f.v1 (m.M 1),.int .u64 ((m.M 2).getD 0 0),.int .u64 ((m.M 3).getD 0 0),.int .u64 ((m.M 4).getD 0 0),jT z.f.v5 (m.M 5),jT z.f.v6 (m.M 6),jT z.f.v7 (m.M 7)]) m.M
 th:fW A 11 (.slice z.t.1 m.fN.length z.t.2) (m.fN.map aT.d).length (Ms (m.fN.map aT.d))
 st:fW A 9 (.slice z.s.1 m.cJ.length z.s.2) m.cJ.length (H4 m.cJ)
 ev:Ut A (.slice z.e.1 m.sU.length z.e.2) m.sU
 ob:XG A (.slice z.o.1 m.fN.length z.o.2) (m.fN.map aT.gH)
theorem ah.isEvt {A:AW} {L K:List It} {v:Value} {l:List FO} (h:ah A L) (hp:aE L (.h (fX v l)) K):Ut A v l:=by
 obtain⟨q,h1,h2⟩:=fX.open h hp;dsimp only [Fb,aa,af] at h2;exact⟨q,h1,ah.lm h2 .z,λi hi=>I1 hi h2 (.s .z)⟩
theorem MX {A:AW} {L K:List It} {q:List (Value×List j7)} {i:Nat} (hi:i<q.length) (hS:ah A L) (hp:aE L (.h (gB q)) K):fW A 3 q[i].1 q[i].2.length (uL q[i].2):=by
 have e:q=q.take i++(q[i]::q.drop (i+1)):=by rw [<-q9 hi,List.take_append_drop]
 have h:=congrArg gB e;rw [CA] at h;unfold ah at hS;rw [hp.aM] at hS;have h2:bB A (gB q*aM K):=hS;rw [h] at h2;have h3:bB A (dv 3 q[i].1 q[i].2.length (uL q[i].2)*(gB (q.take i)*gB (q.drop (i+1))*aM K)):=by
  refine bB.dZ h2 ?_;show gB (q.take i)*(iU q[i].1 q[i].2*gB (q.drop (i+1)))*aM K=iU q[i].1 q[i].2*(gB (q.take i)*gB (q.drop (i+1))*aM K)
  ac_rfl
 exact dv.is h3
theorem ah.isObl {A:AW} {L K:List It} {v:Value} {l:List (List j7)} (h:ah A L) (hp:aE L (.h (mR v l)) K):XG A v l:=by
 obtain⟨q,h1,h2⟩:=mR.open h hp;dsimp only [MY,aa,af] at h2;exact⟨q,h1,ah.lm h2 .z,λi hi=>MX hi h2 (.s .z)⟩
theorem ah.W4 {A:AW} {L:List It} {m:sr} {z:WE} (h:ah A (P5 m z++L)):XF A m z:=by
 dsimp only [P5,aa,af] at h;exact⟨vA.is h .z,ah.lm h (.s .z),ah.lm h (.s (.s .z)),ah.isEvt h (.s (.s (.s .z))),ah.isObl h (.s (.s (.s (.s .z))))⟩
end
section
namespace TGFbW
theorem mK [Gl] {A:AW} {L:List It} {T:Prop} (hS:ah A L) (hw:A.Wf) (h':(aV A L/\bq A L/\bQ L)=T:=by first|(dsimp only [aa,af,aV,bq,bQ,eQ];done)|exact rfl):T:=h'▸hS.eJ hw
end TGFbW
open TGFbW
variable [Gl]
end
section
variable [Gl]
theorem dS.jJ {B:Nat} {A A':AW} {size:Nat} {v:Value} {n:Nat} {cs:List Value} (h:dS B A size v n cs) (he:∀j,fu v=some j->A'.bp j=A.bp j):dS B A' size v n cs:=by
 rcases h with h|⟨p,c,b8,rfl,h2,hs,h3,h4,h5⟩;exact .inl h;exact .inr ⟨p,c,b8,rfl,h2,hs,h3,(he _ rfl).trans h4,h5⟩
theorem dS.lt {B:Nat} {A:AW} {size:Nat} {v:Value} {n:Nat} {cs:List Value} (h:dS B A size v n cs) (hw:A.Wf) {j:Nat} (hj:fu v=some j):B<=j/\j<A.next:=by
 rcases h with ⟨rfl,_⟩|⟨p,c,b8,rfl,h2,hs,h3,h4,h5⟩;cases hj;injection hj with hj;subst hj;exact⟨h3,hw.lt h4⟩
structure Rd (B:Nat) (A A':AW) (v v':Value):Prop where
 le:∀A0:AW,A0.next<=B->A0.le A->A0.le A'
 wf:A'.Wf
 next:A.next<=A'.next
 bp:∀j,j<A.next->fu v≠some j->A'.bp j=A.bp j
 mc:∀j,fu v'=some j->fu v=some j\/A.next<=j
theorem Wr {A:AW} {B:Nat} {v:Value} {n:Nat} {cs:List Value} (x:bm) (jy:dS B A 5 v n cs) (hn:n<2 ^ 30) (hB:B<=A.next) (hw:A.Wf) :
 ∃v' A',fy qa (A.alloc (.cells (az x) true 5)) 75 75 v (.slice (some ⟨A.next,0,none⟩) 1 1)=some (v',A')/\dS B A' 5 v' (n+1) (cs++az x)/\Rd B A A' v v':=by
 have EP:=dS.le (qb A (.cells (az x) true 5)) hw jy;have jm:gD (A.alloc (.cells (az x) true 5)) 5 (.slice (some ⟨A.next,0,none⟩) 1 1)=some (1,az x):=by
  simp [gD,AW.b8,az]
 obtain⟨v',A',h1,h2,h3,h4,h5,h6,h7⟩:=ke (P:=qa) (size:=5) (t:=75) Tryz.underlying75 Tryz.info74 Tryz.zero74 rfl rfl (by omega) EP jm (by simp [az,qL]) (by omega) (by show (n+1)*40<=140737488355328;omega) (by rw [AW.bd];omega) (hw.alloc _);refine⟨v',A',h1,h2,λA0 ha hl=>h3 A0 ha (hl.trans (qb A _)),h4,by rw [AW.bd] at h5;omega,λj hj gT=>?_,λj hj=>?_⟩;rw [h6 j (by simp;omega) gT,AW.fV _ _ (by omega)];rcases h7 with rfl|h7;exact .inl hj;rw [h7] at hj;injection hj with hj;simp at hj;exact .inr (by omega)
theorem Wq {A:AW} {B:Nat} {v:Value} {l:List Int} (y:Int) (jy:fk B A .i64 v l) (hn:l.length<2 ^ 30) (hB:B<=A.next) (hw:A.Wf) :
 ∃v' A',fy qa (A.alloc (.cells [.int .i64 y] true 1)) 24 24 v (.slice (some ⟨A.next,0,none⟩) 1 1)=some (v',A')/\fk B A' .i64 v' (l++[y])/\Rd B A A' v v':=by
 have EP:=dS.le (qb A (.cells [.int .i64 y] true 1)) hw jy;have jm:gD (A.alloc (.cells [.int .i64 y] true 1)) 1 (.slice (some ⟨A.next,0,none⟩) 1 1)=some (1,[.int .i64 y]):=by
  simp [gD,AW.b8]
 obtain⟨v',A',h1,h2,h3,h4,h5,h6,h7⟩:=ke (P:=qa) (size:=1) (t:=24) Tryz.underlying24 Tryz.info3 Tryz.zero3 rfl rfl (by omega) EP jm (by simp [qL]) (by omega) (by show (l.length+1)*8<=140737488355328;omega) (by rw [AW.bd];omega) (hw.alloc _);refine⟨v',A',h1,by unfold fk;simpa using h2,λA0 ha hl=>h3 A0 ha (hl.trans (qb A _)),h4,by rw [AW.bd] at h5;omega,λj hj gT=>?_,λj hj=>?_⟩;rw [h6 j (by simp;omega) gT,AW.fV _ _ (by omega)];rcases h7 with rfl|h7;exact .inl hj;rw [h7] at hj;injection hj with hj;simp at hj;exact .inr (by omega)
theorem LC (y:Int):∀(l:List bm) (j:Nat) (hj:j<l.length),(l.flatMap az).set (j*5+4) (.int .i64 y)=(l.set j { l[j] with bR:=y }).flatMap az
 | x::l,0,_=>by
   simp [az]
 | x::l,j+1,h=>by
   have ih:=LC y l j (by simpa using h);rw [kaI,List.set_cons_succ,kaI,List.getElem_cons_succ,<-ih];have e:(j+1)*5+4=(az x).length+(j*5+4):=(by simp [az];omega);rw [e,List.set_append_right _ _ (by omega),Nat.add_sub_cancel_left]
theorem PU {A:AW} {B:Nat} {p:Addr} {c:Nat} {l:List bm} (y:Int) {j:Nat} (jy:dS B A 5 (.slice (some p) l.length c) l.length (l.flatMap az)) (hj:j<l.length) (hw:A.Wf) :
 ∃A',aG qa A 3 ⟨p.block,p.off+j*5+4,none⟩ (.int .i64 y)=some A'/\dS B A' 5 (.slice (some p) l.length c) l.length ((l.set j { l[j] with bR:=y }).flatMap az)/\A'.Wf/\A'.next=A.next/\(∀i,i≠p.block->A'.bp i=A.bp i)/\p.spot=none:=by
 rcases jy with ⟨h,_⟩|⟨q,c',b8,e,h2,hs,h3,h4,h5,h6⟩;cases h;injection e with e1 e2 e3;injection e1 with e1;subst e1;refine⟨A.set p.block (some (.cells (b8.set (p.off+j*5+4) (.int .i64 y)) true 5)),?_,?_,hw.set _ (hw.lt h4),rfl,λi hi=>AW.bg hi,hs⟩;have ho:p.off+j*5+4+1<=b8.length:=by omega
 simp [aG,h4,Tryz.info3,qL,ho];refine .inr ⟨p,c,b8.set (p.off+j*5+4) (.int .i64 y),rfl,by omega,hs,h3,AW.cY,by simpa using h5,?_⟩;rw [<-LC y l j hj,h6];rw [List.drop_set,aw (by omega),List.take_set,show p.off+j*5+4-p.off=j*5+4 by omega]
end
section
open T2
variable [Gl]
variable [AF]
theorem ah.kp {A0 A:AW} {L K:List It} (hS:ah A L) (hp:aE L (.h (pV A0.bp)) K):kg A0 A:=by
 unfold ah at hS;rw [hp.aM] at hS;exact kg.MW hS
end
def jZ (n:Int):Prop:=n=0\/n=1\/n=5\/n=8\/n=11\/n=12
structure L6 (x:bm):Prop where
 e:cg x=0
 j:x.op=4\/x.op=5\/x.op=6->x.bR=0
 a:x.op=3->jZ x.bR
def Cj (b:Bool) (o:Int):Prop:=(o=1\/o=2\/o=3\/o=4\/o=5\/o=6)\/(b=false/\(o=7\/o=12\/o=13\/o=16\/o=17))\/(b=true/\(o=8\/o=9\/o=10\/o=11\/o=14\/o=15))
def opN (b:Bool) (o:Int):Bool:=if o=7 then true else if o=8 then false else b
inductive nH:List bm->Bool->Prop
 | nil:nH [] false
 | xI {ps:List bm} {b:Bool} {x:bm}:nH ps b->L6 x->Cj b x.op->nH (ps++[x]) (opN b x.op)
theorem Qn {p r:List bm} {k:Nat} (h:k<p.length):d6 (p++r) k=d6 p k:=by
 unfold d6;rw [ZI h]
theorem xl {p r:List bm}:∀{k:Nat},k<=p.length->bT (p++r) k=bT p k
 | 0,_=>rfl
 | k+1,h=>by
   rw [bT,bT,xl (k:=k) (by omega),Qn (by omega)]
theorem nH.XZ {ps:List bm} {b:Bool} (h:nH ps b):(bT ps ps.length).isSome=b/\∀k x,ps[k]? = some x->L6 x/\Cj (bT ps k).isSome x.op:=by
 induction h with
 | nil=>exact⟨rfl,λk x hk=>by simp at hk⟩
 | @xI ps b x h hx ho ih=>
   obtain⟨h1,h2⟩:=ih;have hk:d6 (ps++[x]) ps.length=x.op:=lE (by simp);refine⟨?_,λk y hy=>?_⟩
   . rw [qm,q8,bT,xl (qf _),hk];unfold opN;cases hs:bT ps ps.length with
     | none=>
       rw [hs] at h1;subst h1;by_cases h7:x.op=7;rw [aA h7];simp [h7];simp only;rw [aw h7,aw h7];by_cases h8:x.op=8;rw [aA h8];rfl;rw [aw h8]
     | some q=>
       rw [hs] at h1;subst h1;have h7:¬x.op=7:=by
        intro h7;rcases ho with h|⟨h,_⟩|⟨_,h⟩;omega;cases h;omega
       simp only;rw [aw h7];by_cases h8:x.op=8;rw [aA h8,aA h8];rfl;rw [aw h8,aw h8]
   by_cases hl:k<ps.length;rw [ZI hl] at hy;rw [xl (Nat.le_of_lt hl)];exact h2 k y hy;have hkl:k<(ps++[x]).length:=(qK.1 hy).1;rw [qm,q8] at hkl;have e:k=ps.length:=(by omega);subst e;rw [List.getElem?_append_right (qf _)] at hy;simp at hy;subst hy;rw [xl (qf _),h1];exact⟨hx,ho⟩
theorem Fp {Hb:Nat->Option Nat->Int->Bool} {p:List bm} (h:∀j x,p[j]? = some x->uI Hb j (bT p j) x=0) (he:bT p p.length=none) :
 ∀(l:List bm) (k:Nat),p.drop k=l->k<=p.length->(i5 Hb l k (bT p k)).2=0
 | [],k,hd,hk=>by
   have:p.length<=k:=List.drop_eq_nil_iff.1 hd;have e:k=p.length:=(by omega);subst e;rw [he];rfl
 | x::l,k,hd,hk=>by
   have cD:k<p.length:=by
    rcases Zt k p.length with h1|h1;exact h1;rw [List.drop_eq_nil_of_le h1] at hd;cases hd
   rw [q9 cD] at hd;obtain⟨h1,h2⟩:=List.cons.inj hd;have hx:p[k]? = some x:=(by rw [qk cD,h1]);have h0:=h k x hx;unfold i5;rw [aA h0,yX hx h0];exact Fp h he l (k+1) h2 cD
theorem Vt {p:List bm} {k:Nat} {x:bm} (hx:p[k]? = some x) (ho:x.op=4\/x.op=5\/x.op=6):fG p k (bT p k) 0=true:=by
 have cD:k<p.length:=(qK.1 hx).1;have e:=lE hx;unfold fG;simp only [Int.toNat_zero,Nat.add_zero];rw [aw (by omega)];cases hs:bT p k with
 | none=>
   simp only [Bool.not_eq_true'];unfold gX;rw [List.any_eq_false];intro b hb;have:=List.mem_range.1 hb;have:decide (k<b)=false:=by simp;omega
   simp [this]
 | some b=>
   simp only [decide_eq_true_eq];obtain⟨h1,h2,h3⟩:=kj hs;unfold dq;obtain⟨g1,g2,g3,g4⟩:=mr (p:=p) (k:=b+1) (by omega);rcases Zt (li p (b+1)) (k+1) with h4|h4;exfalso;have h5:=g4 (by omega);rcases Zt (li p (b+1)) k with h6|h6;exact h3 _ (by omega) h6 h5;have:li p (b+1)=k:=by omega
   rw [this,e] at h5;omega;exact h4
theorem nH.ok {ps:List bm} (h:nH ps false) (hl:ps.length<=64):(cG ps).2=0:=by
 obtain⟨h1,h2⟩:=h.XZ;have he:bT ps ps.length=none:=by simpa using h1
 unfold cG;rw [aw (by omega)];refine Fp (λj x hx=>?_) he ps 0 rfl (Nat.zero_le _);obtain⟨g,o⟩:=h2 j x hx;have ge:=g.e;have gj:=g.j;have hj:=λho=>Vt hx ho;revert o hj;generalize bT ps j=sb;intro o hj;unfold uI;rw [aA ge,aw,aw]
 . cases hk:ee x with
   | none=>rfl
   | some n=>
     obtain⟨k1,k2,k3⟩:=uw hk;simp only;rw [k1,gj k3,aA (hj k3)]
 unfold bA;rw [aA ge];rcases o with o|⟨ob,o⟩|⟨ob,o⟩;rw [aw (by omega),aw (by omega)];simp;rw [aw (by omega),aA (by omega),ob];simp;rw [aA (by omega),ob];simp;rcases o with o|⟨ob,o⟩|⟨ob,o⟩;omega;rw [ob];simp;omega;rw [ob];simp;omega
theorem nH.d8 {ps:List bm} {b:Bool} (h:nH ps b):∀x∈ps,x.op=3->jZ x.bR:=λx hx h3=>by
 obtain⟨k,hk⟩:=List.mem_iff_getElem?.1 hx;exact(h.XZ.2 k x hk).1.a h3
section
namespace TMdW
theorem mK [Gl] {A:AW} {L:List It} {T:Prop} (hS:ah A L) (hw:A.Wf) (h':(aV A L/\bq A L/\bQ L)=T:=by first|(dsimp only [aa,af,aV,bq,bQ,eQ];done)|exact rfl):T:=h'▸hS.eJ hw
end TMdW
open TMdW
variable [Gl]
theorem IP (op:Int) (n:Nat) (hn:(n:Int)<18446744073709551616):∃x:bm,x.op=op/\(1<=op/\op<=17->L6 x)/\∀A,aD qa 52 [.int .i64 op,.int .u64 n] A (λu A'=>u=.agg (az x).toArray/\A=A'):=by
 obtain⟨va,ha⟩:∃va,qg.wrap ((n:Int).tmod 4)=va:=⟨_,rfl⟩;obtain⟨vb,hb⟩:∃vb,qg.wrap (((n:Int) / 4).tmod 4)=vb:=⟨_,rfl⟩;obtain⟨vc,lb⟩:∃vc,qg.wrap (((n:Int) / 16).tmod 4)=vc:=⟨_,rfl⟩;obtain⟨kk,hk⟩:∃kk,qg.wrap (((n:Int) / 64).tmod 1024)=kk:=⟨_,rfl⟩;have VK:0<=kk/\kk<1024:=by
  rw [<-hk,qU (by omega),ar (by omega) (by omega)];omega
 obtain⟨r7,h7⟩:∃r7,kk.tmod 7=r7:=⟨_,rfl⟩;obtain⟨r6,h6⟩:∃r6,kk.tmod 6=r6:=⟨_,rfl⟩;obtain⟨r5,h5⟩:∃r5,kk.tmod 5=r5:=⟨_,rfl⟩;obtain⟨r3,h3⟩:∃r3,kk.tmod 3=r3:=⟨_,rfl⟩;obtain⟨r2,h2⟩:∃r2,r3.tmod 2=r2:=⟨_,rfl⟩;have h60:0<=r6/\r6<6:=by rw [<-h6,qU VK.1];omega
 have h30:0<=r3/\r3<3:=by rw [<-h3,qU VK.1];omega
 obtain⟨r1,h1⟩:∃r1,qg.wrap (1+r3)=r1:=⟨_,rfl⟩;have hva:0<=va/\va<4:=by rw [<-ha,qU (by omega),ar (by omega) (by omega)];omega
 have hvb:0<=vb/\vb<4:=by rw [<-hb,qU (by omega),ar (by omega) (by omega)];omega
 have hvc:0<=vc/\vc<4:=by rw [<-lb,qU (by omega),ar (by omega) (by omega)];omega
 have h20:0<=r2/\r2<2:=by rw [<-h2,qU h30.1];omega
 have NK:1<=r1/\r1<4:=by rw [<-h1,ar (by omega) (by omega)];omega
 have bS:∀(A:AW) (v:Value) (o o':dQ),v=v->A.le ((A.alloc o).set A.next (some o')):=λA v o o' _=>by
  refine⟨by simp,λi hi=>?_⟩;have e1:¬i=A.next:=by omega
  have e2:¬A.next=i:=by omega
  simp [AW.df,AW.dt,e1,e2]
 by_cases o1:op=1
 . subst o1;refine⟨⟨1,va,0,0,r7⟩,rfl,λ_=>⟨by simp [cg,gJ,lW,ki,lV,fj]<;>omega,by simp,by simp [jZ]⟩,λA=>aD.tG (dh.agg (by simp [az])) (λhw=>?_) (by kernel_rfl)⟩;refine aN Zb λ_=>?_;refine W cF (DM ha hb lb hk h7 h5 h3 h2 h1 bE) ?_<;>intros
   all_goals(refine ⟨_,by simp [iF,AW.ab];rfl,by simp [az],?_⟩;repeat' (first|exact qi _|refine qZ ?_ (by simp<;>omega) _|refine qY ?_ (qb _ _)))
 by_cases o2:op=2
 . subst o2;refine⟨⟨2,va,vb,0,0⟩,rfl,λ_=>⟨by simp [cg,gJ,lW,ki,lV,fj]<;>omega,by simp,by simp [jZ]⟩,λA=>aD.tG (dh.agg (by simp [az])) (λhw=>?_) (by kernel_rfl)⟩;refine aN Zb λ_=>?_;refine W cF (JD ha hb lb hk h7 h5 h3 h2 h1 o1 bE) ?_<;>intros
   all_goals(refine ⟨_,by simp [iF,AW.ab];rfl,by simp [az],?_⟩;repeat' (first|exact qi _|refine qZ ?_ (by simp<;>omega) _|refine qY ?_ (qb _ _)))
 by_cases o3:op=3
 . subst o3;have hr:r6=0\/r6=1\/r6=2\/r6=3\/r6=4\/r6=5:=(by omega);rcases hr with rfl|rfl|rfl|rfl|rfl|rfl
   . skip
     refine⟨⟨3,va,vb,vc,0⟩,rfl,λ_=>⟨by simp [cg,gJ,lW,ki,lV,fj]<;>omega,by simp,by simp [jZ]⟩,λA=>aD.tG (dh.agg (by simp [az])) (λhw=>?_) (by kernel_rfl)⟩;refine aN Zb λ_=>?_;refine W cF (mB ha hb lb hk h7 h5 h3 h2 h1 h6 o1 o2 bE) ?_<;>intros
     all_goals(refine ⟨_,by simp [iF,AW.ab];rfl,by simp [az],?_⟩;repeat' (first|exact qi _|refine qZ ?_ (by simp<;>omega) _|refine qY ?_ (qb _ _)))
   . skip
     refine⟨⟨3,va,vb,vc,1⟩,rfl,λ_=>⟨by simp [cg,gJ,lW,ki,lV,fj]<;>omega,by simp,by simp [jZ]⟩,λA=>aD.tG (dh.agg (by simp [az])) (λhw=>?_) (by kernel_rfl)⟩;refine aN Zb λ_=>?_;refine W cF (mB ha hb lb hk h7 h5 h3 h2 h1 h6 o1 o2 bE) ?_<;>intros
     all_goals(refine ⟨_,by simp [iF,AW.ab];rfl,by simp [az],?_⟩;repeat' (first|exact qi _|refine qZ ?_ (by simp<;>omega) _|refine qY ?_ (qb _ _)))
   . skip
     refine⟨⟨3,va,vb,vc,5⟩,rfl,λ_=>⟨by simp [cg,gJ,lW,ki,lV,fj]<;>omega,by simp,by simp [jZ]⟩,λA=>aD.tG (dh.agg (by simp [az])) (λhw=>?_) (by kernel_rfl)⟩;refine aN Zb λ_=>?_;refine W cF (mB ha hb lb hk h7 h5 h3 h2 h1 h6 o1 o2 bE) ?_<;>intros
     all_goals(refine ⟨_,by simp [iF,AW.ab];rfl,by simp [az],?_⟩;repeat' (first|exact qi _|refine qZ ?_ (by simp<;>omega) _|refine qY ?_ (qb _ _)))
   . skip
     refine⟨⟨3,va,vb,vc,8⟩,rfl,λ_=>⟨by simp [cg,gJ,lW,ki,lV,fj]<;>omega,by simp,by simp [jZ]⟩,λA=>aD.tG (dh.agg (by simp [az])) (λhw=>?_) (by kernel_rfl)⟩;refine aN Zb λ_=>?_;refine W cF (mB ha hb lb hk h7 h5 h3 h2 h1 h6 o1 o2 bE) ?_<;>intros
     all_goals(refine ⟨_,by simp [iF,AW.ab];rfl,by simp [az],?_⟩;repeat' (first|exact qi _|refine qZ ?_ (by simp<;>omega) _|refine qY ?_ (qb _ _)))
   . skip
     refine⟨⟨3,va,vb,vc,11⟩,rfl,λ_=>⟨by simp [cg,gJ,lW,ki,lV,fj]<;>omega,by simp,by simp [jZ]⟩,λA=>aD.tG (dh.agg (by simp [az])) (λhw=>?_) (by kernel_rfl)⟩;refine aN Zb λ_=>?_;refine W cF (mB ha hb lb hk h7 h5 h3 h2 h1 h6 o1 o2 bE) ?_<;>intros
     all_goals(refine ⟨_,by simp [iF,AW.ab];rfl,by simp [az],?_⟩;repeat' (first|exact qi _|refine qZ ?_ (by simp<;>omega) _|refine qY ?_ (qb _ _)))
   skip
   refine⟨⟨3,va,vb,vc,12⟩,rfl,λ_=>⟨by simp [cg,gJ,lW,ki,lV,fj]<;>omega,by simp,by simp [jZ]⟩,λA=>aD.tG (dh.agg (by simp [az])) (λhw=>?_) (by kernel_rfl)⟩;refine aN Zb λ_=>?_;refine W cF (mB ha hb lb hk h7 h5 h3 h2 h1 h6 o1 o2 bE) ?_<;>intros
   all_goals(refine ⟨_,by simp [iF,AW.ab];rfl,by simp [az],?_⟩;repeat' (first|exact qi _|refine qZ ?_ (by simp<;>omega) _|refine qY ?_ (qb _ _)))
 by_cases nd:op=10
 . subst nd;refine⟨⟨10,va,vb,0,r5⟩,rfl,λ_=>⟨by simp [cg,gJ,lW,ki,lV,fj]<;>omega,by simp,by simp [jZ]⟩,λA=>aD.tG (dh.agg (by simp [az])) (λhw=>?_) (by kernel_rfl)⟩;refine aN Zb λ_=>?_;refine W cF (mB ha hb lb hk h7 h5 h3 h2 h1 o1 o2 o3 bE) ?_<;>intros
   all_goals(refine ⟨_,by simp [iF,AW.ab];rfl,by simp [az],?_⟩;repeat' (first|exact qi _|refine qZ ?_ (by simp<;>omega) _|refine qY ?_ (qb _ _)))
 by_cases o11:op=11
 . subst o11;refine⟨⟨11,va,vb,0,r5⟩,rfl,λ_=>⟨by simp [cg,gJ,lW,ki,lV,fj]<;>omega,by simp,by simp [jZ]⟩,λA=>aD.tG (dh.agg (by simp [az])) (λhw=>?_) (by kernel_rfl)⟩;refine aN Zb λ_=>?_;refine W cF (xY ha hb lb hk h7 h5 h3 h2 h1 o1 o2 o3 nd bE) ?_<;>intros
   all_goals(refine ⟨_,by simp [iF,AW.ab];rfl,by simp [az],?_⟩;repeat' (first|exact qi _|refine qZ ?_ (by simp<;>omega) _|refine qY ?_ (qb _ _)))
 by_cases o12:op=12
 . subst o12;refine⟨⟨12,va,vb,0,r5⟩,rfl,λ_=>⟨by simp [cg,gJ,lW,ki,lV,fj]<;>omega,by simp,by simp [jZ]⟩,λA=>aD.tG (dh.agg (by simp [az])) (λhw=>?_) (by kernel_rfl)⟩;refine aN Zb λ_=>?_;refine W cF (Rv ha hb lb hk h7 h5 h3 h2 h1 o1 o2 o3 nd o11 bE) ?_<;>intros
   all_goals(refine ⟨_,by simp [iF,AW.ab];rfl,by simp [az],?_⟩;repeat' (first|exact qi _|refine qZ ?_ (by simp<;>omega) _|refine qY ?_ (qb _ _)))
 by_cases o13:op=13
 . subst o13;refine⟨⟨13,va,vb,0,r5⟩,rfl,λ_=>⟨by simp [cg,gJ,lW,ki,lV,fj]<;>omega,by simp,by simp [jZ]⟩,λA=>aD.tG (dh.agg (by simp [az])) (λhw=>?_) (by kernel_rfl)⟩;refine aN Zb λ_=>?_;refine W cF (Mh ha hb lb hk h7 h5 h3 h2 h1 o1 o2 o3 nd o11 o12 bE) ?_<;>intros
   all_goals(refine ⟨_,by simp [iF,AW.ab];rfl,by simp [az],?_⟩;repeat' (first|exact qi _|refine qZ ?_ (by simp<;>omega) _|refine qY ?_ (qb _ _)))
 by_cases o14:op=14
 . subst o14;refine⟨⟨14,va,0,0,r2⟩,rfl,λ_=>⟨by simp [cg,gJ,lW,ki,lV,fj]<;>omega,by simp,by simp [jZ]⟩,λA=>aD.tG (dh.agg (by simp [az])) (λhw=>?_) (by kernel_rfl)⟩;refine aN Zb λ_=>?_;refine W cF (WF ha hb lb hk h7 h5 h3 h2 h1 o1 o2 o3 nd o11 o12 o13 bE) ?_<;>intros
   all_goals(refine ⟨_,by simp [iF,AW.ab];rfl,by simp [az],?_⟩;repeat' (first|exact qi _|refine qZ ?_ (by simp<;>omega) _|refine qY ?_ (qb _ _)))
 by_cases o15:op=15
 . subst o15;refine⟨⟨15,va,0,0,0⟩,rfl,λ_=>⟨by simp [cg,gJ,lW,ki,lV,fj]<;>omega,by simp,by simp [jZ]⟩,λA=>aD.tG (dh.agg (by simp [az])) (λhw=>?_) (by kernel_rfl)⟩;refine aN Zb λ_=>?_;refine W cF (Us ha hb lb hk h7 h5 h3 h2 h1 o1 o2 o3 nd o11 o12 o13 o14 bE) ?_<;>intros
   all_goals(refine ⟨_,by simp [iF,AW.ab];rfl,by simp [az],?_⟩;repeat' (first|exact qi _|refine qZ ?_ (by simp<;>omega) _|refine qY ?_ (qb _ _)))
 by_cases o17:op=17
 . subst o17;refine⟨⟨17,va,0,0,0⟩,rfl,λ_=>⟨by simp [cg,gJ,lW,ki,lV,fj]<;>omega,by simp,by simp [jZ]⟩,λA=>aD.tG (dh.agg (by simp [az])) (λhw=>?_) (by kernel_rfl)⟩;refine aN Zb λ_=>?_;refine W cF (J19 ha hb lb hk h7 h5 h3 h2 h1 o1 o2 o3 nd o11 o12 o13 o14 o15 bE) ?_<;>intros
   all_goals(refine ⟨_,by simp [iF,AW.ab];rfl,by simp [az],?_⟩;repeat' (first|exact qi _|refine qZ ?_ (by simp<;>omega) _|refine qY ?_ (qb _ _)))
 by_cases o7:op=7
 . subst o7;refine⟨⟨7,0,0,0,r1⟩,rfl,λ_=>⟨by simp [cg,gJ,lW,ki,lV,fj]<;>omega,by simp,by simp [jZ]⟩,λA=>aD.tG (dh.agg (by simp [az])) (λhw=>?_) (by kernel_rfl)⟩;refine aN Zb λ_=>?_;refine W cF (J20 ha hb lb hk h7 h5 h3 h2 h1 o1 o2 o3 nd o11 o12 o13 o14 o15 o17 (J1 bE)) ?_<;>intros
   all_goals(refine ⟨_,by simp [iF,AW.ab];rfl,by simp [az],?_⟩;repeat' (first|exact qi _|refine qZ ?_ (by simp<;>omega) _|refine qY ?_ (qb _ _)))
 refine⟨⟨op,0,0,0,0⟩,rfl,λho=>?_,λA=>aD.tG (dh.agg (by simp [az])) (λhw=>?_) (by kernel_rfl)⟩;have ho2:op=4\/op=5\/op=6\/op=8\/op=9\/op=16:=by omega
 rcases ho2 with rfl|rfl|rfl|rfl|rfl|rfl<;>exact⟨by decide,by simp,by simp⟩;refine aN Zb λ_=>?_;refine W cF (J20 ha hb lb hk h7 h5 h3 h2 h1 o1 o2 o3 nd o11 o12 o13 o14 o15 o17 (J2 o7 bE)) ?_<;>intros
 all_goals(refine ⟨_,by simp [iF,AW.ab];rfl,by simp [az],?_⟩;repeat' (first|exact qi _|refine qZ ?_ (by simp<;>omega) _|refine qY ?_ (qb _ _)))
end
end Go.Stx
