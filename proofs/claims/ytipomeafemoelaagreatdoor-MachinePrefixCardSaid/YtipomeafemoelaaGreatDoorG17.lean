/-
 The program's machine: what a run has left.
-/
import Derived.Test.YtipomeafemoelaaGreatDoorG16
set_option linter.unusedVariables false
set_option linter.unusedSimpArgs false
set_option linter.unusedSectionVars false
set_option maxRecDepth 20000
set_option maxHeartbeats 4000000
namespace Go.Stx
open Go Go.Proofs
attribute [local irreducible] TW bA cM aS ax aH cJ de
section
abbrev nX:List (Nat×Nat):=[(0,0),(1,0),(2,0),(3,2),(4,2),(5,3),(6,0),(7,3)]
abbrev nW:List (Nat×Nat):=[(0,0),(1,0),(3,0),(4,0),(2,2),(6,0),(5,2),(7,3),(8,0),(9,3)]
open T2
variable [Gl]
variable [AF]
theorem FP {P:Program} {n:Nat} {Q:Exit->Fr->AW->Prop} {a:Fr} {A:AW} {x:Code} {K:Fr->AW->Prop} (J:Fr->AW->Prop) (h1:cM P n x (aL J Q) a A) (h2:∀a A,J a A->K a A):cM P n x (aL K Q) a A:=
 yI h1 λe a A h=>by cases e<;>first|exact h2 a A h|exact h
theorem Ig (b:Nat) (m:r9) (bG:∀k,k<8->(m.M k).length<2^39) (YI:0<(m.M 2).length) (OU:0<(m.M 3).length) (hm4:0<(m.M 4).length) (hl:m.gJ.length<=16) (GN:m.cG.length<2^30) (hel:m.lC.length<2^30)
 (vG:∀t∈m.gJ,t.ga.length<2^30) (FE:∀e∈m.lC,e.reads.length<2^38/\e.bK.length<2^38) :
 dT Tryz.prog 24 [pv b] [.h (D2 b m)] (λz v=>v=.agg (zB m z).toArray) (λz=>.h (D2 b m)::NA m z):=by
 intro A F hw dm;refine aF Tryz.func24 λ_=>?_;dsimp only [aa,ag] at dm;obtain⟨⟨pb,vt,vs,ve⟩,q,CY,hS⟩:=D2.open dm .z;have VV:q.length=m.gJ.length:=by rw [<-CY,List.length_map]
 have nh:(q.map Prod.fst).length=m.gJ.length:=by rw [List.length_map,VV]
 clear dm;dsimp only [P8,aa,ag] at hS;have Wc:=λ{A:AW} {L K:List It} {k:Value->AW->Prop}=>Ld pb m.M bG YI OU hm4 (A:=A) (L:=L) (K:=K) (k:=k);generalize hM0:m.M=M0 at hS Wc;obtain⟨ot,ct,rfl,_⟩:=dM.bE (ah.jQ hS (.s (.s .z)));obtain⟨os,cs,rfl,_⟩:=dM.bE (ah.jQ hS (.s (.s (.s (.s .z)))));obtain⟨q2,MJ,kL⟩:=fB.open hS (.s (.s (.s (.s (.s .z)))));have hq2l:q2.length=m.lC.length:=by rw [<-MJ,List.length_map]
 dsimp only [Dk,aa,ag] at kL;obtain⟨oe,ce,rfl,_⟩:=dM.bE (ah.jQ kL .z);clear hS;have hS:=kL;clear kL;rw [nh] at hS;have hq:=fk hS hw;revert hq hS hw;refine W (J2 (od nX) (od nW)) (J1 bz) ?_<;>(unhygienic intros);refine FP (λfr A'=>A'.Wf/\fr 0=pv b/\fr 2=pv A.next/\∃rb f o cz,fr 3=pv rb/\ah A' [.h (tf M0 f),.h (mw (.slice o m.cG.length cz) m.cG),.at rb (.cells [j9 f.v0 (M0 0),j9 f.v1 (M0 1),.int .u64 ((M0 2).getD 0 0),.int .u64 ((M0 3).getD 0 0),.int .u64 ((M0 4).getD 0 0),j9 f.v5 (M0 5),j9 f.v6 (M0 6),j9 f.v7 (M0 7),.slice none 0 0,.slice o m.cG.length cz,.slice none 0 0,.slice none 0 0] true 1),.h (cY 6 (.slice oe q2.length ce) q2.length (eP q2)),.h (ee q2),.at b (.cells [pv pb,.slice ot m.gJ.length ct,.slice os m.cG.length cs,.slice oe q2.length ce] true 1),dG pb M0,.h (mh (.slice ot m.gJ.length ct) (q.map Prod.fst)),.h (lc q),.h (mw (.slice os m.cG.length cs) m.cG),.at A.next (.cells [.slice none 0 0,.slice none 0 0,.int .u64 0,.int .u64 0,.int .u64 0,.slice none 0 0,.slice none 0 0,.slice none 0 0,.slice none 0 0,.slice none 0 0,.slice none 0 0,.slice none 0 0] true 1),.h F]) ?_ ?_
 . repeat' (first|(refine jX λR hR=>?_;simp [ai,ar,hq,AW.af,aB];try simp (disch:=omega) only [if_pos,if_neg,ai,ar])|(refine hR _ _ ?_;clear hR R)|(refine hK _ _ ?_;clear hK K)|refine nx ?_|(refine Md λR hR=>?_;simp [ai,ar,hq,AW.af,aB];try simp (disch:=omega) only [if_pos,if_neg,ai,ar])|(refine H0 (λR hR=>?_) (λR hR=>?_)<;>(simp [ai,ar,hq,AW.af,aB];try simp (disch:=omega) only [if_pos,if_neg,ai,ar]))|refine Mc ?_|refine wn λK hK=>?_|simp only [wS,nX,nW]|simp only [bA,rg,kU,Option.map_none,Option.map_some,List.getElem?_toArray,List.getElem?_cons_zero,List.getElem?_cons_succ,List.getD_cons_zero,List.getD_cons_succ,Option.bind_some]|refine wl Tryz.mx nX (by decide +kernel) λK hK=>?_|refine wl Tryz.mx nW (by decide +kernel) λK hK=>?_|(refine wt (λ_=>True) Tryz.mx [0,0,0,0,2,0,0,0,0,2,0,2,3] (.aD 0 (.aD 1 (.aD 2 (.aD 3 (.aD 5 (.aD 6 (.aD 7 (.aD 8 (.qD 4 (.qD 9 (.aD 10 (.aD 11 (.aD 12 .nil))) 11 (.aD 9 (.aD 10 (.aD 12 .nil)))) 11 (.aD 4 (.aD 9 (.aD 10 (.aD 12 .nil))))))))))))) (by decide +kernel) λK hK=>?_)|(apply Wc;(·exact wA);(·exact sA);(·first|exact pA|exact kA);((first|rintro _ _ _ hS hw eJ|rintro _ _ hS hw eJ|rintro _ _ hS hw);(try refine⟨eJ,?_⟩);(try dsimp only [AW.aV] at hS);have hq:=fk hS hw))|(apply F6 GN;(·exact wA);(·exact sA);(·first|exact pA|exact kA);((first|rintro _ _ _ hS hw eJ|rintro _ _ hS hw eJ|rintro _ _ hS hw);(try refine⟨eJ,?_⟩);(try dsimp only [AW.aV] at hS);have hq:=fk hS hw))|(show cM _ _ _ _ _ _;refine nx ?_)|(refine wc rfl (λhc=>?_) (λhc=>?_)<;>(try simp at hc)<;>(try omega))|(refine ib (λhc=>?_) (λhc=>?_)<;>(try omega)<;>(try simp (disch:=omega) only [if_pos,if_neg])))
   all_goals(
    simp only [aL];refine⟨?_,by simp,by simp,?_⟩;exact wA;apply Exists.intro;apply Exists.intro;apply Exists.intro;apply Exists.intro;refine And.intro (by simp;rfl) ?_;apply ah.bO
    (·exact sA)
    (·first|exact nM|exact nZ))
 clear hS hw hq Wc;rintro fr A1 ⟨hw,h0,h2,rb,f,o,cz,h3,hS⟩;generalize A.next=N at hS h2;have hq:=fk hS hw;revert hq hS hw;(repeat first|clear hq|clear hS|clear hw|revert hc|revert R|revert K);refine W (J2 (od nX) (od nW)) (J4 h0 h2 h3 bz) ?_<;>(unhygienic intros)
 refine cW (λk fr A'=>A'.Wf/\∃(i:Nat) (XL XM:Value),k=m.gJ.length-i/\i<=m.gJ.length/\fr 0=pv b/\fr 2=pv N/\fr 3=pv rb/\fr 25=.slice ot m.gJ.length ct/\fr 26=.int .i64 m.gJ.length/\fr 27=.int .i64 i/\
  ah A' [.h (mh (.slice ot m.gJ.length ct) (q.map Prod.fst)),.h (lc q),.h (vL XL ((m.gJ.take i).map aU.d)),.h (my XM ((m.gJ.take i).map aU.ga)),.h (tf M0 f),.h (mw (.slice o m.cG.length cz) m.cG),.at rb (.cells [j9 f.v0 (M0 0),j9 f.v1 (M0 1),.int .u64 ((M0 2).getD 0 0),.int .u64 ((M0 3).getD 0 0),.int .u64 ((M0 4).getD 0 0),j9 f.v5 (M0 5),j9 f.v6 (M0 6),j9 f.v7 (M0 7),XL,.slice o m.cG.length cz,.slice none 0 0,XM] true 1),.h (cY 6 (.slice oe q2.length ce) q2.length (eP q2)),.h (ee q2),.at b (.cells [pv pb,.slice ot m.gJ.length ct,.slice os m.cG.length cs,.slice oe q2.length ce] true 1),dG pb M0,.h (mw (.slice os m.cG.length cs) m.cG),.at N (.cells [.slice none 0 0,.slice none 0 0,.int .u64 0,.int .u64 0,.int .u64 0,.slice none 0 0,.slice none 0 0,.slice none 0 0,.slice none 0 0,.slice none 0 0,.slice none 0 0,.slice none 0 0] true 1),.h F]) m.gJ.length ?_ ?_
 refine⟨hw,0,.slice none 0 0,.slice none 0 0,by omega,by omega,by simp [h0],by simp [h2],by simp [h3],by simp,by simp,by simp,?_⟩;have h1:=ah.Vq (ah.Vt hS);apply ah.bO;exact h1
 (·first|exact nM|exact nZ)
 clear hS hw hq h0 h2 h3;rintro k fr A2 ⟨hw,i,XL,XM,rfl,hi,h0,h2,h3,UP,Zj,R4,hS⟩;have hlim:((m.gJ.take i).map aU.d).length<2^30:=by rw [List.length_map];have:=List.length_take_le i m.gJ;omega
 have YO:((m.gJ.take i).map aU.ga).length<2^30:=by rw [List.length_map];have:=List.length_take_le i m.gJ;omega
 by_cases bL:i<m.gJ.length
 . have gW:(i:Int)<m.gJ.length:=(by omega);have fU:=uR (i:=i);have hiq:i<q.length:=(by omega);obtain⟨tb,off,cc,bP,e25,bI,I5,iz,kv⟩:=ah.XZ hS .z (i:=i) (by omega);injection e25 with e1 e2 e3;subst e1 e3;obtain⟨R,kL,vF⟩:=ah.TZ hiq iz (.s .z);have HM:m.gJ[i]=q[i].2:=by
    have:m.gJ[i]? = some q[i].2:=by rw [<-CY,List.getElem?_map,List.getElem?_eq_getElem hiq];rfl
    rw [List.getElem?_eq_getElem bL] at this;injection this
   have YC:=vG m.gJ[i] (List.getElem_mem bL);rw [List.getElem_map] at bI;have ke:∀y,q[i]=y->q.set i y=q:=λy e=>by rw [<-e,List.set_getElem_self]
   generalize hx:q[i]=x at *;obtain⟨bt,t⟩:=x;dsimp only at HM bI kL vF;have ke:=ke _ rfl;rw [HM] at YC;clear hS iz;obtain⟨⟨⟨cy,ep,ka,eX,Al,vo'⟩,vc⟩,hS⟩:=rF.open kL .z;clear kL;dsimp only [BZ,aa,ag] at hS;rw [nh] at kv;have UB:off+i<bP.length:=(by omega);obtain⟨hir2,wg⟩:=List.getElem?_eq_some_iff.1 bI
   have bO:∀(Pb Pc:Value) (lt:List r8) (lo:List (List iq)) (A':AW) (L' K1 K2 K3 K8:List It),ah A' L'->aP L' (BZ bt t ⟨cy,ep,ka,eX,Al,vo'⟩ vc) K1->ay K1 (.h R) K2->ay K2 (.at tb (.cells bP true 1)) K3->
    aP K3 [.h (vL Pb lt),.h (my Pc lo),.h (tf M0 f),.h (mw (.slice o m.cG.length cz) m.cG),.at rb (.cells [j9 f.v0 (M0 0),j9 f.v1 (M0 1),.int .u64 ((M0 2).getD 0 0),.int .u64 ((M0 3).getD 0 0),.int .u64 ((M0 4).getD 0 0),j9 f.v5 (M0 5),j9 f.v6 (M0 6),j9 f.v7 (M0 7),Pb,.slice o m.cG.length cz,.slice none 0 0,Pc] true 1),.h (cY 6 (.slice oe q2.length ce) q2.length (eP q2)),.h (ee q2),.at b (.cells [pv pb,.slice (some ⟨tb,off,none⟩) m.gJ.length ct,.slice os m.cG.length cs,.slice oe q2.length ce] true 1),dG pb M0,.h (mw (.slice os m.cG.length cs) m.cG),.at N (.cells [.slice none 0 0,.slice none 0 0,.int .u64 0,.int .u64 0,.int .u64 0,.slice none 0 0,.slice none 0 0,.slice none 0 0,.slice none 0 0,.slice none 0 0,.slice none 0 0,.slice none 0 0] true 1),.h F] K8->ah A' [.h (mh (.slice (some ⟨tb,off,none⟩) m.gJ.length ct) (q.map Prod.fst)),.h (lc q),.h (vL Pb lt),.h (my Pc lo),.h (tf M0 f),.h (mw (.slice o m.cG.length cz) m.cG),.at rb (.cells [j9 f.v0 (M0 0),j9 f.v1 (M0 1),.int .u64 ((M0 2).getD 0 0),.int .u64 ((M0 3).getD 0 0),.int .u64 ((M0 4).getD 0 0),j9 f.v5 (M0 5),j9 f.v6 (M0 6),j9 f.v7 (M0 7),Pb,.slice o m.cG.length cz,.slice none 0 0,Pc] true 1),.h (cY 6 (.slice oe q2.length ce) q2.length (eP q2)),.h (ee q2),.at b (.cells [pv pb,.slice (some ⟨tb,off,none⟩) m.gJ.length ct,.slice os m.cG.length cs,.slice oe q2.length ce] true 1),dG pb M0,.h (mw (.slice os m.cG.length cs) m.cG),.at N (.cells [.slice none 0 0,.slice none 0 0,.int .u64 0,.int .u64 0,.int .u64 0,.slice none 0 0,.slice none 0 0,.slice none 0 0,.slice none 0 0,.slice none 0 0,.slice none 0 0,.slice none 0 0] true 1),.h F]:=λPb Pc lt lo A' L' K1 K2 K3 K8 h e1 e2 e3 e4=>by
    have g1:=rF.dA (b:=bt) (t:=t) h e1;have g2:=vF A' _ _ _ t g1 .z e2;rw [ke] at g2;exact ah.bO (kv A' _ _ g2 (.s e3)) (.s .z (.s .z e4))
   have ed:(m.gJ.take (i+1)).map aU.d=(m.gJ.take i).map aU.d++[t.d]:=(by rw [List.take_succ_eq_append_getElem bL,List.map_append,HM];rfl);have eo:(m.gJ.take (i+1)).map aU.ga=(m.gJ.take i).map aU.ga++[t.ga]:=(by rw [List.take_succ_eq_append_getElem bL,List.map_append,HM];rfl);generalize (m.gJ.take i).map aU.d=lt at *;generalize (m.gJ.take i).map aU.ga=lo at *;obtain⟨ott2,ctt2,rfl,_⟩:=dM.bE (ah.jQ hS (.s (.s (.s (.s (.s (.s (.s (.s (.s (.s .z)))))))))));have hq:=fk hS hw;refine aO ?_
   repeat' (first|(with_reducible apply Ui (t:=t.d);(·first|(simp;done)|(simp;rfl));(·first|(simp;done)|(simp;rfl));(·exact wA);(·exact sA);(·first|exact pA|exact kA);(·first|exact AW.bM _ _|((repeat' (first|apply ay.z|apply ay.s));done)|(simp [hq];(repeat' (first|rfl|refine⟨rfl,?_⟩));done)|(simp;done)|(simp;rfl)|(simp [hq];done)|(simp [hq];rfl));(·first|omega|(simp;omega));(·intro _ _;trivial);rintro _ _ _ hS hw _;(try dsimp only [AW.aV] at hS);have hq:=fk hS hw)|(with_reducible apply Ye;(·first|(simp;done)|(simp;rfl));(·first|(simp;done)|(simp;rfl));(·exact wA);(·exact sA);(·first|exact pA|exact kA);(·first|exact AW.bM _ _|((repeat' (first|apply ay.z|apply ay.s));done)|(simp [hq];(repeat' (first|rfl|refine⟨rfl,?_⟩));done)|(simp;done)|(simp;rfl)|(simp [hq];done)|(simp [hq];rfl));(·first|omega|(simp;omega));(·intro _ _;trivial);rintro _ _ _ hS hw _;(try dsimp only [AW.aV] at hS);have hq:=fk hS hw)|(refine H0 (λR hR=>?_) (λR hR=>?_)<;>(first|(with_reducible apply Ui (t:=t.d);(·first|(simp;done)|(simp;rfl));(·first|(simp;done)|(simp;rfl));(·exact wA);(·exact sA);(·first|exact pA|exact kA);(·first|exact AW.bM _ _|((repeat' (first|apply ay.z|apply ay.s));done)|(simp [hq];(repeat' (first|rfl|refine⟨rfl,?_⟩));done)|(simp;done)|(simp;rfl)|(simp [hq];done)|(simp [hq];rfl));(·first|omega|(simp;omega));(·intro _ _;trivial);rintro _ _ _ hS hw _;(try dsimp only [AW.aV] at hS);have hq:=fk hS hw)|(simp [ai,ar,hq,h0,h2,h3,UP,Zj,R4,gW,fU,I5,bI,UB,wg,Vc,R8.cells,AW.af,aB];try simp (disch:=omega) only [if_pos,if_neg,ai,ar])))|(refine jX λR hR=>?_;simp [ai,ar,hq,h0,h2,h3,UP,Zj,R4,gW,fU,I5,bI,UB,wg,Vc,R8.cells,AW.af,aB];try simp (disch:=omega) only [if_pos,if_neg,ai,ar])|(refine hR _ _ ?_;clear hR R)|(refine hK _ _ ?_;clear hK K)|refine nx ?_|refine wn λK hK=>?_|simp only [wS,nX,nW]|refine wl Tryz.mx nX (by decide +kernel) λK hK=>?_|refine wl Tryz.mx nW (by decide +kernel) λK hK=>?_|(apply H4 bt t.d _;(·exact wA);(·exact sA);(·first|exact pA|exact kA);((first|rintro _ _ _ hS hw eJ|rintro _ _ hS hw eJ|rintro _ _ hS hw);(try refine⟨eJ,?_⟩);(try dsimp only [AW.aV] at hS);have hq:=fk hS hw))|(apply No bt t.d _ t.ga YC;(·exact wA);(·exact sA);(·first|exact pA|exact kA);((first|rintro _ _ _ hS hw eJ|rintro _ _ hS hw eJ|rintro _ _ hS hw);(try refine⟨eJ,?_⟩);(try dsimp only [AW.aV] at hS);have hq:=fk hS hw))|(show cM _ _ _ _ _ _;refine nx ?_)|(refine wc rfl (λhc=>?_) (λhc=>?_)<;>(try simp at hc)<;>(try omega))|(refine ib (λhc=>?_) (λhc=>?_)<;>(try omega)<;>(try simp (disch:=omega) only [if_pos,if_neg])))
   refine⟨m.gJ.length-(i+1),by omega,?_,i+1,?_⟩;exact wA;rw [ed,eo];apply Exists.intro;apply Exists.intro;refine⟨rfl,by omega,by simp [h0],by simp [h2],by simp [h3],by simp [UP],by simp [Zj],by simp,?_⟩;apply bO
   (·exact sA)
   unfold BZ;dsimp only
   (·first|exact nM|exact nZ)
   (·first|exact nM|exact nZ)
   (·first|exact nM|exact nZ)
   (·first|exact nM|exact nZ)
 have tJ:i=m.gJ.length:=by omega
 subst tJ;have gW:¬((m.gJ.length:Int)<m.gJ.length):=by omega
 rw [List.take_length] at hS;clear hlim YO;have hq:=fk hS hw;refine aO ?_;revert hq hS hw;(repeat first|clear hq|clear hS|clear hw|revert hc|revert R|revert K);refine W (J2 (od nX) (od nW)) (J8 h0 h2 h3 UP Zj R4 gW bz) ?_<;>(unhygienic intros)
 refine cW (λk fr A'=>A'.Wf/\∃(i:Nat) (vee:Value),k=q2.length-i/\i<=q2.length/\fr 0=pv b/\fr 2=pv N/\fr 3=pv rb/\fr 49=.slice oe q2.length ce/\fr 50=.int .i64 q2.length/\fr 51=.int .i64 i/\
  ah A' [.h (fB vee (m.lC.take i)),.h (mh (.slice ot m.gJ.length ct) (q.map Prod.fst)),.h (lc q),.h (vL XL (m.gJ.map aU.d)),.h (my XM (m.gJ.map aU.ga)),.h (tf M0 f),.h (mw (.slice o m.cG.length cz) m.cG),.at rb (.cells [j9 f.v0 (M0 0),j9 f.v1 (M0 1),.int .u64 ((M0 2).getD 0 0),.int .u64 ((M0 3).getD 0 0),.int .u64 ((M0 4).getD 0 0),j9 f.v5 (M0 5),j9 f.v6 (M0 6),j9 f.v7 (M0 7),XL,.slice o m.cG.length cz,vee,XM] true 1),.h (cY 6 (.slice oe q2.length ce) q2.length (eP q2)),.h (ee q2),.at b (.cells [pv pb,.slice ot m.gJ.length ct,.slice os m.cG.length cs,.slice oe q2.length ce] true 1),dG pb M0,.h (mw (.slice os m.cG.length cs) m.cG),.at N (.cells [.slice none 0 0,.slice none 0 0,.int .u64 0,.int .u64 0,.int .u64 0,.slice none 0 0,.slice none 0 0,.slice none 0 0,.slice none 0 0,.slice none 0 0,.slice none 0 0,.slice none 0 0] true 1),.h F]) q2.length ?_ ?_
 refine⟨hw,0,.slice none 0 0,by omega,by omega,by simp [h0],by simp [h2],by simp [h3],by simp,by simp,by simp,?_⟩;exact fB.nil hS;clear hS hw hq h0 h2 h3 UP Zj R4;rintro k fr A3 ⟨hw,i,vee,rfl,hi,h0,h2,h3,UO,Ws,h51,hS⟩;by_cases bL:i<q2.length
 . have gW:(i:Int)<q2.length:=(by omega);have fU:=uR (i:=i);obtain⟨p,bP,rfl,bI,eJ,hcell⟩:=dM.T9 (ah.jQ hS (.s (.s (.s (.s (.s (.s (.s (.s .z))))))))) bL (Jq q2 bL);have Wj:=FE q2[i].1 (by rw [<-MJ];exact List.mem_map_of_mem (List.getElem_mem bL));have HM:m.lC.take (i+1)=m.lC.take i++[q2[i].1]:=by
    rw [List.take_succ_eq_append_getElem (by omega)];congr 2;have:m.lC[i]? = some q2[i].1:=by rw [<-MJ,List.getElem?_map,List.getElem?_eq_getElem bL];rfl
    rw [List.getElem?_eq_getElem (by omega)] at this;injection this
   have Qy:(m.lC.take i).length<2^30:=by have:=List.length_take_le i m.lC;simp;omega
   obtain⟨h5,h6⟩:=GY bL hS (.s (.s (.s (.s (.s (.s (.s (.s (.s .z)))))))));generalize m.lC.take i=le at *;generalize hx:q2[i]=x at *;obtain⟨⟨ea,et,ek,ew,er,ewr⟩,r,w⟩:=x;dsimp only [uA] at hcell Wj h5 h6;obtain⟨o1,c1,rfl,_⟩:=h5.bE;obtain⟨o2,c2,rfl,_⟩:=h6.bE;have heR:=λ{A:AW} {L K:List It} {k:Value->AW->Prop}=>Tp bL hx Wj.1 (A:=A) (L:=L) (K:=K) (k:=k);have heW:=λ{A:AW} {L K:List It} {k:Value->AW->Prop}=>To bL hx Wj.2 (A:=A) (L:=L) (K:=K) (k:=k);dsimp only at heR heW;clear hx h5 h6;have hq:=fk hS hw;refine aO ?_
   repeat' (first|(with_reducible apply Ul (e:=⟨ea,et,ek,ew,er,ewr⟩);(·first|(simp;done)|(simp;rfl));(·first|(simp;done)|(simp;rfl));(·exact wA);(·exact sA);(·first|exact pA|exact kA);(·first|exact AW.bM _ _|((repeat' (first|apply ay.z|apply ay.s));done)|(simp [hq];(repeat' (first|rfl|refine⟨rfl,?_⟩));done)|(simp;done)|(simp;rfl)|(simp [hq];done)|(simp [hq];rfl));(·first|omega|(simp;omega));(·intro _ _;trivial);rintro _ _ _ hS hw _;(try dsimp only [AW.aV] at hS);have hq:=fk hS hw)|(refine jX λR hR=>?_;simp [ai,ar,hq,h0,h2,h3,UO,Ws,h51,gW,fU,eJ,bI,hcell,AW.af,aB];try simp (disch:=omega) only [if_pos,if_neg,ai,ar])|(refine hR _ _ ?_;clear hR R)|(refine hK _ _ ?_;clear hK K)|refine nx ?_|refine wn λK hK=>?_|simp only [wS,nX,nW]|refine wl Tryz.mx nX (by decide +kernel) λK hK=>?_|refine wl Tryz.mx nW (by decide +kernel) λK hK=>?_|(apply heR;(·exact wA);(·exact sA);(·first|exact pA|exact kA);((first|rintro _ _ _ hS hw eJ|rintro _ _ hS hw eJ|rintro _ _ hS hw);(try refine⟨eJ,?_⟩);(try dsimp only [AW.aV] at hS);have hq:=fk hS hw))|(apply heW;(·exact wA);(·exact sA);(·first|exact pA|exact kA);((first|rintro _ _ _ hS hw eJ|rintro _ _ hS hw eJ|rintro _ _ hS hw);(try refine⟨eJ,?_⟩);(try dsimp only [AW.aV] at hS);have hq:=fk hS hw))|(show cM _ _ _ _ _ _;refine nx ?_)|(refine wc rfl (λhc=>?_) (λhc=>?_)<;>(try simp at hc)<;>(try omega))|(refine ib (λhc=>?_) (λhc=>?_)<;>(try omega)<;>(try simp (disch:=omega) only [if_pos,if_neg])))
   dsimp only at HM;refine⟨q2.length-(i+1),by omega,?_,i+1,?_⟩;exact wA;rw [HM];apply Exists.intro;refine⟨rfl,by omega,by simp [h0],by simp [h2],by simp [h3],by simp [UO],by simp [Ws],by simp,?_⟩;apply ah.bO
   (·exact sA)
   (·first|exact nM|exact nZ)
 have tJ:i=q2.length:=by omega
 subst tJ;have gW:¬((q2.length:Int)<q2.length):=by omega
 have e:m.lC.take q2.length=m.lC:=by rw [hq2l,List.take_length]
 rw [e] at hS;clear e;obtain⟨W7,XB,rfl,_⟩:=dM.bE (ah.jQ hS (.s (.s (.s .z))));simp only [List.length_map] at hS;obtain⟨qe,HO,tM⟩:=fB.open hS .z;have VW:qe.length=m.lC.length:=by rw [<-HO,List.length_map]
 dsimp only [Dk,aa,ag] at tM;obtain⟨PT,Rq,rfl,_⟩:=dM.bE (ah.jQ tM .z);clear tM;rw [VW] at hS;obtain⟨qo,hqo,tM⟩:=my.open hS (.s (.s (.s (.s .z))));have hqol:qo.length=m.gJ.length:=by rw [<-List.length_map (f:=aU.ga),<-hqo,List.length_map]
 dsimp only [KF,aa,ag] at tM;obtain⟨oo,co,rfl,_⟩:=dM.bE (ah.jQ tM .z);clear tM;rw [hqol] at hS;have hq:=fk hS hw;refine aO ?_;revert hq hS hw;(repeat first|clear hq|clear hS|clear hw|revert hc|revert R|revert K);refine W (J2 (od nX) (od nW)) (J9 h0 h2 h3 UO Ws h51 gW @j9.eq_1 bz) ?_<;>(unhygienic intros);subst hM0;have fin2:∀(B:AW) (o1 o2:dH),ah B [.h (fB (.slice PT m.lC.length Rq) m.lC),.h (mh (.slice ot m.gJ.length ct) (q.map Prod.fst)),.h (lc q),.h (vL (.slice W7 m.gJ.length XB) (m.gJ.map aU.d)),.h (my (.slice oo m.gJ.length co) (m.gJ.map aU.ga)),.h (tf m.M f),.h (mw (.slice o m.cG.length cz) m.cG),.at rb o1,.h (cY 6 (.slice oe q2.length ce) q2.length (eP q2)),.h (ee q2),.at b (.cells [pv pb,.slice ot m.gJ.length ct,.slice os m.cG.length cs,.slice oe q2.length ce] true 1),dG pb m.M,.h (mw (.slice os m.cG.length cs) m.cG),.at N o2,.h F]->ah B [.h (D2 b m),.h (tf m.M f),.h (vL (.slice W7 m.gJ.length XB) (m.gJ.map aU.d)),.h (mw (.slice o m.cG.length cz) m.cG),.h (fB (.slice PT m.lC.length Rq) m.lC),.h (my (.slice oo m.gJ.length co) (m.gJ.map aU.ga)),.h F]:=λB o1 o2 h=>by
  have h1:ah B (.h (fB (.slice oe q2.length ce) m.lC)::[.h (fB (.slice PT m.lC.length Rq) m.lC),.h (mh (.slice ot m.gJ.length ct) (q.map Prod.fst)),.h (lc q),.h (vL (.slice W7 m.gJ.length XB) (m.gJ.map aU.d)),.h (my (.slice oo m.gJ.length co) (m.gJ.map aU.ga)),.h (tf m.M f),.h (mw (.slice o m.cG.length cz) m.cG),.at rb o1,.at b (.cells [pv pb,.slice ot m.gJ.length ct,.slice os m.cG.length cs,.slice oe q2.length ce] true 1),dG pb m.M,.h (mw (.slice os m.cG.length cs) m.cG),.at N o2,.h F]):=fB.dA (q:=q2) MJ h (by unfold Dk;(first|exact pA|exact kA));have h2:ah B (.h (D2 b m)::[.h (fB (.slice PT m.lC.length Rq) m.lC),.h (vL (.slice W7 m.gJ.length XB) (m.gJ.map aU.d)),.h (my (.slice oo m.gJ.length co) (m.gJ.map aU.ga)),.h (tf m.M f),.h (mw (.slice o m.cG.length cz) m.cG),.at rb o1,.at N o2,.h F]):=D2.dA (m:=m) (f:=⟨pb,.slice ot m.gJ.length ct,.slice os m.cG.length cs,.slice oe q2.length ce⟩) (q:=q) CY h1 (by unfold P8;dsimp only;(first|exact pA|exact kA))
  apply ah.bO;exact h2
  (·first|exact nM|exact nZ)
 refine⟨_,by(simp [h2,AW.af];rfl),?_⟩;refine⟨⟨f,(W7,XB),(o,cz),(PT,Rq),(oo,co)⟩,by simp [zB,j9],?_⟩;show ah _ [.h (D2 b m),.h (tf m.M f),.h (vL (.slice W7 m.gJ.length XB) (m.gJ.map aU.d)),.h (mw (.slice o m.cG.length cz) m.cG),.h (fB (.slice PT m.lC.length Rq) m.lC),.h (my (.slice oo m.gJ.length co) (m.gJ.map aU.ga)),.h F];apply fin2;apply ah.bO
 (·exact sA)
 (·first|exact nM|exact nZ)
end
section
open T2
variable [Gl]
variable [AF]
def E4 (l:List zd):Prop:=∀e∈l,e.reads.length<2^38/\e.bK.length<2^38
theorem E4.nil:E4 []:=λe he=>by cases he
theorem E4.aD {e:zd} (h1:e.reads.length<2^38) (h2:e.bK.length<2^38):E4 [e]:=λe' he=>by
 rw [List.mem_singleton] at he;subst he;exact⟨h1,h2⟩
theorem yQ {t:aU} {s:aM} {M:Mm} (h:DT t s M):E4 (t.wE M s).2.1:=by
 have h1:=h.hC.jB;have h2:=h.hC.len;unfold aU.wE;dsimp only;split;exact E4.aD (by simp) (by simp);split;refine E4.aD (by dsimp only;omega) ?_;dsimp only;split;have:=List.length_filter_le (λa=>decide (a<(cK s M).2.2.1.cf.ba)) (cK s M).2.2.1.bu.bT;omega;decide;exact E4.nil
theorem NH {t:aU} {M:Mm} {i:aZ} (h:t.cf.aT=true->DT ({ t with aT:=true,fp:=0 }:aU).tg (gO (fG t.cf t.id)).2 M):E4 (t.plain M i).2.1:=by
 unfold aU.plain;dsimp only;split;exact E4.nil;split;rename_i h1;exact yQ (h h1);split<;>exact E4.aD (by simp) (by simp)
theorem Ps {d6:Int->Int->Int->Int} (hA:yZ d6) {c:bq} {nt k:Nat} (hc:db c) (hk:k+1<2^24) {t:aU} {M:Mm} (hM:lR c nt k M) (h:lu c nt k t) (qz:E5 t.az):E4 (t.step d6 M).2.2.1:=by
 unfold aU.step;split;exact E4.nil;rename_i hd;have hd:t.done=false:=by simpa using hd
 show E4 (t.tT d6 M).2.1;unfold aU.tT;split;exact E4.nil;rename_i dC;split;rename_i s dt;split;rename_i hb;exact yQ (Rs hc hk hM h hd dt hb);rename_i hb;have hb:s.kN=false:=by simpa using hb
 split;rename_i hs;exact yQ (UT hc hk hM h hd dt hs);rename_i hs;have hx:=Ra hA hc hk hM h hd dt hb (by simpa using hs) qz;unfold aU.mc;rw [if_neg hx.vH.1,dt];dsimp only;split;rename_i hr;exact yQ (hx.hr hr);exact E4.nil;rename_i dt;have hx:=Rc hA hc hk hM h hd dt dC qz;unfold aU.mc;split;rename_i h7;exact yQ (hx.hb h7);rw [dt];dsimp only;split;rename_i hp;exact NH λhs=>hx.hp hs hp;split<;>exact E4.nil
structure tD (c:bq) (nt k:Nat) (m:r9):Prop where
 M:lR c nt k m.M
 T:∀t∈m.gJ,lu c nt k t/\E5 t.az
 n:m.gJ.length=nt
 s:m.cG.length<=k
 e:m.lC.length<=k
 b:E4 m.lC
theorem tD.mono {c:bq} {nt k k':Nat} {m:r9} (h:tD c nt k m) (hk:k<=k'):tD c nt k' m:=
 ⟨h.M.mono hk,λt ht=>⟨(h.T t ht).1.mono hk,(h.T t ht).2⟩,h.n,Nat.le_trans h.s hk,Nat.le_trans h.e hk,h.b⟩
theorem tD.pick {d6:Int->Int->Int->Int} (hA:yZ d6) {c:bq} {nt k:Nat} (hc:db c) (hk:k+1<2^24) {m:r9} (h:tD c nt k m) (id:Int):tD c nt (k+1) (m.pick d6 id):=by
 unfold r9.pick;split;split;exact h.mono (Nat.le_succ k);rename_i t ht;obtain⟨lZ,qz⟩:=h.T t (List.mem_of_getElem? ht);dsimp only;split;obtain⟨g1,g2⟩:=Sn (d6:=d6) hc (by omega) h.M lZ;have g3:=Ps hA hc hk h.M lZ qz;have g4:=H9 (d6:=d6) (t:=t) (M:=m.M);refine⟨g2,λt' ht'=>?_,by rw [List.length_set];exact h.n,by rw [List.length_append];have:=h.s;simp only [List.length_singleton];omega,?_,?_⟩;rcases List.mem_or_eq_of_mem_set ht' with h1|h1;exact⟨(h.T t' h1).1.mono (Nat.le_succ k),(h.T t' h1).2⟩;subst h1;exact⟨g1,by rw [Fd];exact qz⟩;have:=h.e;rw [List.length_append,List.length_map];rcases g4 with g4|⟨e,g4⟩<;>rw [g4]<;>simp<;>omega;intro e he;rcases List.mem_append.1 he with h1|h1;exact h.b e h1;obtain⟨e',h2,rfl⟩:=List.mem_map.1 h1;exact g3 e' h2;exact h.mono (Nat.le_succ k);exact h.mono (Nat.le_succ k)
def jA (d6:Int->Int->Int->Int) (m:r9) (pk:List Int):r9:=pk.foldl (r9.pick d6) m
theorem Ko (d6:Int->Int->Int->Int) (m:r9) (pk:List Int) (x:Int):jA d6 m (pk++[x])=(jA d6 m pk).pick d6 x:=by
 unfold jA;rw [List.foldl_append];rfl
theorem tD.run {d6:Int->Int->Int->Int} (hA:yZ d6) {c:bq} {nt:Nat} (hc:db c):∀(pk:List Int) {k:Nat} {m:r9},tD c nt k m->k+pk.length<2^24->tD c nt (k+pk.length) (jA d6 m pk)
 | [],k,m,h,_=>h
 | x::pk,k,m,h,hk=>by
   rw [List.length_cons] at hk ⊢;have:=tD.run hA hc pk (h.pick hA hc (by omega) x) (by omega);rw [show k+(pk.length+1)=k+1+pk.length by omega];exact this
theorem II {c:bq} (GR:qZ c) {zs:List Int} {ps:List (List aZ)} (hz:(zs.length:Int)=c.ba) (hn:ps.length<=16) (ln:∀i (hi:i<ps.length),(cD ps[i]).2=0) (qz:∀p∈ps,E5 p):tD c ps.length 0 (vZ c zs ps):=by
 refine⟨Nw GR ps.length hz,λt ht=>?_,?_,Nat.le_refl _,Nat.le_refl _,E4.nil⟩;obtain⟨i,hi,rfl⟩:=List.mem_mapIdx.1 ht;exact⟨NN ⟨by omega,by omega,hn⟩ (ln i hi),qz _ (List.getElem_mem hi)⟩;show (ps.mapIdx _).length=_;rw [List.length_mapIdx]
theorem C5 {A:AW} (hw:A.Wf) (o:dH):ma (A.alloc o).bg=pt A.next o*ma A.bg:=by
 have hn:A.bg A.next=none:=by
  cases h:A.bg A.next with
  | none=>rfl
  | some x=>exact absurd (hw.lt h) (Nat.lt_irrefl _)
 have e:(A.alloc o).bg=Hp.un (λj=>if j=A.next then some o else none) A.bg:=by
  funext i;rw [AW.eg];unfold Hp.un;by_cases h:i=A.next<;>simp [h]
 have d:Hp.dj (λj=>if j=A.next then some o else none) A.bg:=by
  intro i;by_cases h:i=A.next;subst h;exact .inr hn;exact .inl (if_neg h)
 ext h;constructor;intro h1;exact⟨_,_,d,(show h=_ from h1).trans e,rfl,rfl⟩;rintro ⟨h1,h2,g1,g2,g3,g4⟩;show h=_;have g3':h1=_:=g3;have g4':h2=_:=g4;rw [g2,g3',g4',e]
theorem tD.len {c:bq} {nt k:Nat} {m:r9} (hc:db c) (hn:nt<=16) (h:tD c nt k m):∀k,k<8->(m.M k).length<2^39:=by
 have h0:=h.M.l0;have h1:=h.M.l1;have h2:=h.M.l2;have h3:=h.M.l3;have h4:=h.M.l4;have h5:=h.M.l5;have h6:=h.M.l6;have h7:=h.M.l7;have hb:=hc.nb;have hw:=hc.ba;have ho:=hc.ao;intro k hk;have:k=0\/k=1\/k=2\/k=3\/k=4\/k=5\/k=6\/k=7:=by omega
 rcases this with rfl|rfl|rfl|rfl|rfl|rfl|rfl|rfl<;>omega
theorem If {d6:Int->Int->Int->Int} (hA:yZ d6) (hF:FOK) {c:bq} (GR:qZ c) (vi vp vk:Value) (zs:List Int) (ps:List (List aZ)) (pk:List Int) (A:AW) (RY:bx A .u64 vi zs) (hp:gs A vp ps) (hk:bx A .i64 vk pk) (he:(iZ c zs.length ps pk).2.2=0) (hpk:pk.length<2^20) (qz:∀p∈ps,E5 p) :
 ax Tryz.prog 8 [HK c vi vp vk] A (λu A'=>∃z,u=.tuple #[.agg (zB (jA d6 (vZ c zs ps) pk) z).toArray,.int .i64 0,.int .i64 0,.int .i64 0]/\ah A' (NA (jA d6 (vZ c zs ps) pk) z++[.h (ma A.bg)])):=by
 refine aF Tryz.func8 λhw=>?_;obtain⟨hr,hce,C0,zP,OT,ln⟩:=zu he;obtain⟨oi,ci,rfl,_⟩:=RY.bE;obtain⟨op,cp,rfl,_⟩:=hp.bE;obtain⟨ok,ck,rfl,_⟩:=hk.bE;have Wo:=GR.ok;have hok0:=II GR OT zP ln qz;have cN:=λB (eJ:A.le B)=>NO hF GR (.slice oi zs.length ci) (.slice op ps.length cp) (.slice ok pk.length ck) zs ps pk B (RY.le eJ hw) (hp.le eJ hw) (hk.le eJ hw) he;generalize hm0:vZ c zs ps=m0 at *;obtain⟨lf,fi,kH,c0,c1,c2,c3,jB,kw,kI,kD,jk,lx⟩:=c;unfold HK jv bq.cells at cN ⊢;simp only [aa,ag] at cN ⊢;revert hw;refine W cd (J1 bz) ?_<;>(unhygienic intros);refine bD (cN _ ((AW.le.alloc A _).trans (AW.le.alloc _ _))) ?_;rintro _ A2 ⟨b,rfl,dm⟩ jR _;rw [C5 (hw.alloc _),C5 hw] at dm;have hS:ah A2 [.h (D2 b m0),.at (A.next+1) (.cells [.slice none 0 0,.slice none 0 0,.int .u64 0,.int .u64 0,.int .u64 0,.slice none 0 0,.slice none 0 0,.slice none 0 0,.slice none 0 0,.slice none 0 0,.slice none 0 0,.slice none 0 0] true 1),.at A.next (.cells [.int .i64 lf,.int .i64 fi,.int .i64 kH,.int .i64 c0,.int .i64 c1,.int .i64 c2,.int .i64 c3,.int .i64 jB,.int .i64 kw,.int .i64 kI,.int .i64 kD,.int .i64 jk,.bool lx,.slice oi zs.length ci,.slice op ps.length cp,.slice ok pk.length ck] true 1),.h (ma A.bg)]:=by
  have e:∀P Q R H:HP,P*((Q*(R*H))*eC)=P*(Q*(R*(H*eC))):=λP Q R H=>by ac_rfl
  exact bk.dK dm (e _ _ _ _)
 clear dm;have I0:=hw;replace hw:=jR;clear jR;have hq:=fk hS hw;revert hq hS hw;(repeat first|clear hq|clear hS|clear hw|revert hc|revert R|revert K);refine W cd (J1 bz) ?_<;>(unhygienic intros)
 refine cW (λk fr A'=>A'.Wf/\∃(i:Nat),k=pk.length-i/\i<=pk.length/\fr 2=pv (A.next+1)/\fr 6=pv b/\fr 23=.slice ok pk.length ck/\fr 24=.int .i64 pk.length/\fr 25=.int .i64 i/\
  ah A' [.h (D2 b (jA d6 m0 (pk.take i))),.at (A.next+1) (.cells [.slice none 0 0,.slice none 0 0,.int .u64 0,.int .u64 0,.int .u64 0,.slice none 0 0,.slice none 0 0,.slice none 0 0,.slice none 0 0,.slice none 0 0,.slice none 0 0,.slice none 0 0] true 1),.at A.next (.cells [.int .i64 lf,.int .i64 fi,.int .i64 kH,.int .i64 c0,.int .i64 c1,.int .i64 c2,.int .i64 c3,.int .i64 jB,.int .i64 kw,.int .i64 kI,.int .i64 kD,.int .i64 jk,.bool lx,.slice oi zs.length ci,.slice op ps.length cp,.slice ok pk.length ck] true 1),.h (ma A.bg)]) pk.length ?_ ?_
 exact⟨hw,0,by omega,by omega,by simp,by simp,by simp,by simp,by simp,hS⟩;clear hS hw hq;rintro k fr A3 ⟨hw,i,rfl,hi,h2,h6,h23,h24,UP,hS⟩;have V7:ff A A3:=hS.keeps 3 rfl;have HM:(pk.take i).length=i:=by rw [List.length_take];omega
 have zQ:=tD.run hA Wo (pk.take i) hok0 (by omega);rw [HM,Nat.zero_add] at zQ;by_cases bL:i<pk.length
 . have gW:(i:Int)<pk.length:=(by omega);have fU:=uR (i:=i);obtain⟨pp,bP,rfl,bI,hcell⟩:=bx.at (dM.keeps V7 hk) bL;have e1:pk.take (i+1)=pk.take i++[pk[i]]:=List.take_succ_eq_append_getElem bL;have Qp:=NJ hA hF Wo (k:=i) (by omega) b (jA d6 m0 (pk.take i)) zQ.M zQ.T (by rw [zQ.n];exact zP) (by have:=zQ.s;omega) (by have:=zQ.e;omega) pk[i];rw [<-Ko,<-e1] at Qp;clear e1;generalize pk[i]=id at *;generalize (jA d6 m0 (pk.take i)).XA d6 id=dd at Qp;have hq:=fk hS hw;refine aO ?_;revert hq hS hw;(repeat first|clear hq|clear hS|clear hw|revert hc|revert R|revert K);refine W (J1 @Qp) (Bs h2 h6 h23 h24 UP gW fU bI hcell bz) ?_<;>(unhygienic intros);refine⟨pk.length-(i+1),by omega,?_,i+1,rfl,by omega,by simp [h2],by simp [h6],by simp [h23],by simp [h24],by simp,?_⟩;exact wA;apply ah.bO
   (·exact sA)
   (·first|exact nM|exact nZ)
 have tJ:i=pk.length:=by omega
 subst tJ;have gW:¬((pk.length:Int)<pk.length):=by omega
 rw [List.take_length] at hS zQ;generalize jA d6 m0 pk=m at *;have Yu:=Ig b m (zQ.len Wo zP) (by rw [zQ.M.l2];decide) (by rw [zQ.M.l3];decide) (by rw [zQ.M.l4];decide) (by rw [zQ.n];exact zP) (by have:=zQ.s;omega) (by have:=zQ.e;omega) (λt ht=>by have:=(zQ.T t ht).1.co.ga;omega) zQ.b;dsimp only [NA] at Yu;have hq:=fk hS hw;refine aO ?_;revert hq hS hw;(repeat first|clear hq|clear hS|clear hw|revert hc|revert R|revert K);refine W (J1 (Tg.mk (n:=32) @Yu)) (J9 h2 h6 h23 h24 UP gW @zB.eq_1 @j9.eq_1 bz) ?_<;>(unhygienic intros);refine⟨.tuple #[.agg (zB m xw).toArray,.int .i64 0,.int .i64 0,.int .i64 0],?_,xw,rfl,?_⟩;simp [h2,zB,j9,AW.af,bm,aK,aN];show ah _ [.h (tf m.M xw.f),.h (vL (.slice xw.t.1 m.gJ.length xw.t.2) (m.gJ.map aU.d)),.h (mw (.slice xw.s.1 m.cG.length xw.s.2) m.cG),.h (fB (.slice xw.e.1 m.lC.length xw.e.2) m.lC),.h (my (.slice xw.o.1 m.gJ.length xw.o.2) (m.gJ.map aU.ga)),.h (ma A.bg)]
 apply ah.bO
 (·exact sA)
 (·first|exact nM|exact nZ)
end
section
namespace TLawK
theorem mr [Gl] {A:AW} {L:List It} {T:Prop} (hS:ah A L) (hw:A.Wf) (h':(aR A L/\bj A L/\bN L)=T:=by first|(dsimp only [aa,ag,aR,bj,bN,eE];done)|exact rfl):T:=h'▸hS.eD hw
end TLawK
open TLawK
variable [Gl]
theorem EE (va vb:Value) (M:Nat->List Int) (A:AW) (ha:td A va M) (hb:td A vb M) (bG:∀k,k<8->(M k).length<2^39) :
 ax Tryz.prog 18 [va,vb] A (λv A'=>v=.bool true/\A.le A'):=by
 refine aF Tryz.func18 λhw=>?_;obtain⟨a0,a1,a5,a6,a7,rfl,i0,i1,i5,i6,i7⟩:=ha;obtain⟨b0,b1,b5,b6,b7,rfl,j0,j1,j5,j6,j7⟩:=hb;have l2:∀x y,A.le ((A.alloc x).alloc y):=λx y=>(AW.le.alloc A x).trans (AW.le.alloc _ y);have m0:=bG 0 (by omega);have m1:=bG 1 (by omega);have m5:=bG 5 (by omega);have m6:=bG 6 (by omega);have m7:=bG 7 (by omega)
 repeat' (first|(refine jX λR hR=>?_;simp [ai,ar,AW.af];try simp (disch:=omega) only [if_pos,if_neg,ai,ar])|(refine hR _ _ ?_;clear hR R)|(refine hK _ _ ?_;clear hK K)|refine nx ?_|refine wn λK hK=>?_|simp only [wS]|(refine bD (pK a0 b0 (M 0) (M 0) _ (i0.le (l2 _ _) hw) (j0.le (l2 _ _) hw) (by omega)) ?_;rintro _ _ ⟨rfl,rfl⟩ _ _)|(refine bD (pK a1 b1 (M 1) (M 1) _ (i1.le (l2 _ _) hw) (j1.le (l2 _ _) hw) (by omega)) ?_;rintro _ _ ⟨rfl,rfl⟩ _ _)|(refine bD (pK a5 b5 (M 5) (M 5) _ (i5.le (l2 _ _) hw) (j5.le (l2 _ _) hw) (by omega)) ?_;rintro _ _ ⟨rfl,rfl⟩ _ _)|(refine bD (pK a6 b6 (M 6) (M 6) _ (i6.le (l2 _ _) hw) (j6.le (l2 _ _) hw) (by omega)) ?_;rintro _ _ ⟨rfl,rfl⟩ _ _)|(refine bD (pK a7 b7 (M 7) (M 7) _ (i7.le (l2 _ _) hw) (j7.le (l2 _ _) hw) (by omega)) ?_;rintro _ _ ⟨rfl,rfl⟩ _ _)|(show cM _ _ _ _ _ _;refine nx ?_)|(refine wc rfl (λhc=>?_) (λhc=>?_)<;>(try simp at hc)<;>(try omega))|(refine ib (λhc=>?_) (λhc=>?_)<;>(try omega)<;>(try simp (disch:=omega) only [if_pos,if_neg])))
 refine⟨_,by first|(simp;done)|(simp;rfl),by first|rfl|simp,l2 _ _⟩
end
section
abbrev zK:List (Nat×Nat):=[(0,0),(1,0),(2,0),(3,0),(4,0),(5,0),(6,0),(7,0),(8,0)]
abbrev zJ:List (Nat×Nat):=[(0,0),(1,0),(2,0),(3,0),(4,0),(5,0),(6,0),(7,0),(8,2),(9,0)]
open T7
variable [Gl]
variable [AF]
theorem sy {A:AW} {v:Value} {α:Type} {f:α->List Value} {k:Nat} {l:List α} (hf:∀x,(f x).length=k) (h:dM A k v l.length (l.flatMap f)) {i:Nat} (hi:i<l.length) :
 ∃p c bP own,v=.slice (some p) l.length c/\A.bg p.block=some (.cells bP own k)/\p.off+i*k+k<=bP.length/\(bP.drop (p.off+i*k)).take k=f l[i]:=by
 rcases h with ⟨_,h0,_⟩|⟨p,c,bP,own,u,e1,e2,e3,e4,e5,e6⟩;omega;have e3':A.bg p.block=some (.cells bP own k):=e4▸e3;have h7:i*k+k<=l.length*k:=by
  have:=Nat.mul_le_mul_right k (show i+1<=l.length by omega);rwa [Nat.add_mul,Nat.one_mul] at this
 refine⟨p,c,bP,own,e1,e3',by omega,?_⟩;have:=sz f k hf l i hi;rw [e6,List.drop_take,List.drop_drop,List.take_take,Nat.min_eq_left (by omega)] at this;exact this
theorem Bj (va vb:Value) (l:List r8) (A:AW) (ha:dM A 11 va l.length (FZ l)) (hb:dM A 11 vb l.length (FZ l)) (hl:l.length<2^30) :
 ax Tryz.prog 28 [va,vb] A (λv A'=>v=.bool true/\A=A'):=by
 refine aF Tryz.func28 λhw=>?_;obtain⟨oa,ca,rfl,_⟩:=ha.bE;obtain⟨ob,cb,rfl,_⟩:=hb.bE;revert hw;refine W (J1 (od zK)) (J1 @AW.af) ?_<;>(unhygienic intros);refine cW (λk fr A'=>A=A'/\∃i:Nat,k=l.length-i/\i<=l.length/\fr 0=.slice oa l.length ca/\fr 1=.slice ob l.length cb/\fr 5=.int .i64 i) l.length ?_ ?_;exact⟨rfl,0,by simp,by simp,rfl,rfl,rfl⟩;rintro k fr A' ⟨rfl,i,rfl,hi,h0,h1,h5⟩;by_cases bL:i<l.length;obtain⟨x1,c1,r1,w1,q1,q2,q3,q4⟩:=sy (f:=r8.T3) (λ_=>rfl) ha bL;obtain⟨x2,c2,r2,w2,p1,p2,p3,NF⟩:=sy (f:=r8.T3) (λ_=>rfl) hb bL;injection q1 with q1 _ q5;injection p1 with p1 _ p5;subst q1 p1 q5 p5;dsimp only [r8.T3] at q4 NF;have fU:=uR (i:=i);refine aO ?_;refine W (J1 (od zK)) (tA h0 h1 h5 q2 q3 q4 p2 p3 NF bL fU @AW.af) ?_<;>intros;refine⟨l.length-(i+1),by omega,rfl,i+1,rfl,by omega,?_,?_,?_⟩;simp [h0];simp [h1];simp;refine aO ?_;refine W (J1 (od zK)) (J4 h0 h1 h5 bL) ?_<;>intros;exact⟨_,by first|rfl|(simp;rfl),rfl,rfl⟩
theorem wd (va vb:Value) (l:List fR) (A:AW) (ha:dM A 9 va l.length (tS l)) (hb:dM A 9 vb l.length (tS l)) (hl:l.length<2^30) :
 ax Tryz.prog 12 [va,vb] A (λv A'=>v=.bool true/\A=A'):=by
 refine aF Tryz.func12 λhw=>?_;obtain⟨oa,ca,rfl,_⟩:=ha.bE;obtain⟨ob,cb,rfl,_⟩:=hb.bE;revert hw;refine W (J1 (od zK)) (J1 @AW.af) ?_<;>(unhygienic intros);refine cW (λk fr A'=>A=A'/\∃i:Nat,k=l.length-i/\i<=l.length/\fr 0=.slice oa l.length ca/\fr 1=.slice ob l.length cb/\fr 5=.int .i64 i) l.length ?_ ?_;exact⟨rfl,0,by simp,by simp,rfl,rfl,rfl⟩;rintro k fr A' ⟨rfl,i,rfl,hi,h0,h1,h5⟩;by_cases bL:i<l.length;obtain⟨x1,c1,r1,w1,q1,q2,q3,q4⟩:=sy (f:=fR.cells) (λ_=>rfl) ha bL;obtain⟨x2,c2,r2,w2,p1,p2,p3,NF⟩:=sy (f:=fR.cells) (λ_=>rfl) hb bL;injection q1 with q1 _ q5;injection p1 with p1 _ p5;subst q1 p1 q5 p5;dsimp only [fR.cells] at q4 NF;have fU:=uR (i:=i);refine aO ?_;refine W (J1 (od zK)) (tA h0 h1 h5 q2 q3 q4 p2 p3 NF bL fU @AW.af) ?_<;>intros;refine⟨l.length-(i+1),by omega,rfl,i+1,rfl,by omega,?_,?_,?_⟩;simp [h0];simp [h1];simp;refine aO ?_;refine W (J1 (od zK)) (J4 h0 h1 h5 bL) ?_<;>intros
 exact⟨_,by first|rfl|(simp;rfl),rfl,rfl⟩
def mj (A:AW) (v:Value) (l:List zd):Prop:=∃q:List vP,q.map Prod.fst=l/\dM A 6 v q.length (eP q)/\∀i (hi:i<q.length),bx A .i64 q[i].2.1 q[i].1.reads/\bx A .i64 q[i].2.2 q[i].1.bK
def uP (A:AW) (v:Value) (l:List (List iq)):Prop:=∃q:List (Value×List iq),q.map Prod.snd=l/\dM A 1 v q.length (q.map Prod.fst)/\∀i (hi:i<q.length),dM A 3 q[i].1 q[i].2.length (oJ q[i].2)
theorem mj.keeps {A B:AW} (hk:ff A B) {v:Value} {l:List zd} (h:mj A v l):mj B v l:=by
 obtain⟨q,h1,h2,h3⟩:=h;exact⟨q,h1,dM.keeps hk h2,λi hi=>⟨dM.keeps hk (h3 i hi).1,dM.keeps hk (h3 i hi).2⟩⟩
theorem uP.keeps {A B:AW} (hk:ff A B) {v:Value} {l:List (List iq)} (h:uP A v l):uP B v l:=by
 obtain⟨q,h1,h2,h3⟩:=h;exact⟨q,h1,dM.keeps hk h2,λi hi=>dM.keeps hk (h3 i hi)⟩
theorem mj.bE {A:AW} {v:Value} {l:List zd} (h:mj A v l):∃o c,v=.slice o l.length c:=by
 obtain⟨q,h1,h2,_⟩:=h;obtain⟨o,c,e,_⟩:=h2.bE;exact⟨o,c,by rw [e,<-h1,List.length_map]⟩
theorem uP.bE {A:AW} {v:Value} {l:List (List iq)} (h:uP A v l):∃o c,v=.slice o l.length c:=by
 obtain⟨q,h1,h2,_⟩:=h;obtain⟨o,c,e,_⟩:=h2.bE;exact⟨o,c,by rw [e,<-h1,List.length_map]⟩
theorem mj.at {A:AW} {v:Value} {l:List zd} (h:mj A v l) {i:Nat} (hi:i<l.length) :
 ∃p c bP own r w,v=.slice (some p) l.length c/\A.bg p.block=some (.cells bP own 6)/\p.off+i*6+6<=bP.length/\(bP.drop (p.off+i*6)).take 6=[.int .i64 l[i].bR,.int .i64 l[i].am,.int .i64 l[i].gu,.int .i64 l[i].Ni,r,w]/\bx A .i64 r l[i].reads/\bx A .i64 w l[i].bK:=by
 obtain⟨q,h1,h2,h3⟩:=h;subst h1;rw [List.length_map] at hi ⊢;obtain⟨p,c,bP,own,e1,e2,e3,e4⟩:=sy (f:=λy:vP=>uA y.1 y.2.1 y.2.2) (λ_=>rfl) h2 hi;refine⟨p,c,bP,own,q[i].2.1,q[i].2.2,e1,e2,e3,?_,?_,?_⟩;rw [e4,List.getElem_map];rfl;rw [List.getElem_map];exact(h3 i hi).1;rw [List.getElem_map];exact(h3 i hi).2
theorem uP.at {A:AW} {v:Value} {l:List (List iq)} (h:uP A v l) {i:Nat} (hi:i<l.length) :
 ∃p c bP own u,v=.slice (some p) l.length c/\A.bg p.block=some (.cells bP own 1)/\p.off+i*1+1<=bP.length/\(bP.drop (p.off+i*1)).take 1=[u]/\dM A 3 u l[i].length (oJ l[i]):=by
 obtain⟨q,h1,h2,h3⟩:=h;subst h1;rw [List.length_map] at hi ⊢;have h4:dM A 1 v q.length (q.flatMap λy=>[y.1]):=by
  have e:∀q:List (Value×List iq),(q.flatMap λy=>[y.1])=q.map Prod.fst:=λq=>by
   induction q with
   | nil=>rfl
   | cons y q ih=>rw [List.flatMap_cons,ih];rfl
  rw [e];exact h2
 obtain⟨p,c,bP,own,e1,e2,e3,e4⟩:=sy (f:=λy:Value×List iq=>[y.1]) (λ_=>rfl) h4 hi;exact⟨p,c,bP,own,q[i].1,e1,e2,e3,e4,by rw [List.getElem_map];exact h3 i hi⟩
theorem EF (e1 e2 e3 e4:Int) (r1 w1 r2 w2:Value) (rs ws:List Int) (A:AW) (h1:bx A .i64 r1 rs) (h2:bx A .i64 w1 ws) (h3:bx A .i64 r2 rs) (h4:bx A .i64 w2 ws) (hl1:rs.length<2^40) (FD:ws.length<2^40) :
 ax Tryz.prog 30 [.agg #[.int .i64 e1,.int .i64 e2,.int .i64 e3,.int .i64 e4,r1,w1],.agg #[.int .i64 e1,.int .i64 e2,.int .i64 e3,.int .i64 e4,r2,w2]] A (λv A'=>v=.bool true/\A=A'):=by
 refine ax.qt (cL.hY rfl) (λhw=>?_) (by kernel_rfl);refine aF Tryz.func30 λ_=>?_;have l2:∀x y,A.le ((A.alloc x).alloc y):=λx y=>(AW.le.alloc A x).trans (AW.le.alloc _ y);have c1:=λx y=>FA r1 r2 rs rs _ (h1.le (l2 x y) hw) (h3.le (l2 x y) hw) (by omega);have c2:=λx y=>FA w1 w2 ws ws _ (h2.le (l2 x y) hw) (h4.le (l2 x y) hw) (by omega);simp only [decide_true] at c1 c2;refine W (J2 @c1 @c2) (J1 @AW.af) ?_<;>intros;exact⟨_,by first|rfl|(simp;rfl),rfl,l2 _ _⟩
theorem ul (va vb:Value) (l:List zd) (A:AW) (ha:mj A va l) (hb:mj A vb l) (hl:l.length<2^30) (FE:E4 l) :
 ax Tryz.prog 13 [va,vb] A (λv A'=>v=.bool true/\A=A'):=by
 refine aF Tryz.func13 λhw=>?_;obtain⟨oa,ca,rfl⟩:=ha.bE;obtain⟨ob,cb,rfl⟩:=hb.bE;revert hw;refine W (J1 (od zJ)) (J1 @AW.af) ?_<;>(unhygienic intros);refine cW (λk fr A'=>A=A'/\∃i:Nat,k=l.length-i/\i<=l.length/\fr 0=.slice oa l.length ca/\fr 1=.slice ob l.length cb/\fr 5=.int .i64 i) l.length ?_ ?_;exact⟨rfl,0,by simp,by simp,rfl,rfl,rfl⟩;rintro k fr A' ⟨rfl,i,rfl,hi,h0,h1,h5⟩;by_cases bL:i<l.length;obtain⟨x1,c1,r1,w1,u1,z1,q1,q2,q3,q4,q5a,q6⟩:=ha.at bL;obtain⟨x2,c2,r2,w2,u2,z2,p1,p2,p3,NF,p5a,p6⟩:=hb.at bL;injection q1 with q1 _ q5;injection p1 with p1 _ p5;subst q1 p1 q5 p5;have fU:=uR (i:=i);have Y2:=EF l[i].bR l[i].am l[i].gu l[i].Ni _ _ _ _ _ _ A q5a q6 p5a p6 (by have:=(FE l[i] (List.getElem_mem bL)).1;omega) (by have:=(FE l[i] (List.getElem_mem bL)).2;omega);refine aO ?_;refine W (J2 (od zJ) @Y2) (tA h0 h1 h5 q2 q3 q4 p2 p3 NF bL fU @AW.af) ?_<;>intros;refine⟨l.length-(i+1),by omega,rfl,i+1,rfl,by omega,?_,?_,?_⟩
 simp [h0];simp [h1];simp;refine aO ?_;refine W (J1 (od zJ)) (J4 h0 h1 h5 bL) ?_<;>intros;exact⟨_,by first|rfl|(simp;rfl),rfl,rfl⟩
theorem IV (va vb:Value) (l:List (List iq)) (A:AW) (ha:uP A va l) (hb:uP A vb l) (hl:l.length<2^30) (vG:∀x∈l,x.length<2^30) :
 ax Tryz.prog 29 [va,vb] A (λv A'=>v=.bool true/\A=A'):=by
 refine aF Tryz.func29 λhw=>?_;obtain⟨oa,ca,rfl⟩:=ha.bE;obtain⟨ob,cb,rfl⟩:=hb.bE;revert hw;refine W (J1 (od zJ)) (J1 @AW.af) ?_<;>(unhygienic intros);refine cW (λk fr A'=>A=A'/\∃i:Nat,k=l.length-i/\i<=l.length/\fr 0=.slice oa l.length ca/\fr 1=.slice ob l.length cb/\fr 5=.int .i64 i) l.length ?_ ?_;exact⟨rfl,0,by simp,by simp,rfl,rfl,rfl⟩;rintro k fr A' ⟨rfl,i,rfl,hi,h0,h1,h5⟩;by_cases bL:i<l.length;obtain⟨x1,c1,r1,w1,u1,q1,q2,q3,q4,q5a⟩:=ha.at bL;obtain⟨x2,c2,r2,w2,u2,p1,p2,p3,NF,p5a⟩:=hb.at bL;simp only [Nat.mul_one] at q3 q4 p3 NF;have q4:r1[x1.off+i]? = some u1:=by have h:=congrArg (λl=>l[0]?) q4;simpa using h
 have NF:r2[x2.off+i]? = some u2:=by have h:=congrArg (λl=>l[0]?) NF;simpa using h
 have q6:x1.off+i<r1.length:=by omega
 have p6:x2.off+i<r2.length:=by omega
 obtain⟨q7,q8⟩:=List.getElem?_eq_some_iff.1 q4;obtain⟨p7,p8⟩:=List.getElem?_eq_some_iff.1 NF;injection q1 with q1 _ q5;injection p1 with p1 _ p5;subst q1 p1 q5 p5;have fU:=uR (i:=i);have Y2:=ax.qt (cL.hY rfl) (λ_=>Eu u1 u2 l[i] A q5a p5a (vG _ (List.getElem_mem bL))) (by kernel_rfl);refine aO ?_;refine W (J2 (od zJ) @Y2) (JN h0 h1 h5 q2 q3 q4 p2 p3 NF q6 p6 q8 p8 bL fU @AW.af) ?_<;>intros;refine⟨l.length-(i+1),by omega,rfl,i+1,rfl,by omega,?_,?_,?_⟩;simp [h0];simp [h1];simp;refine aO ?_;refine W (J1 (od zJ)) (J4 h0 h1 h5 bL) ?_<;>intros;exact⟨_,by first|rfl|(simp;rfl),rfl,rfl⟩
structure yX (A:AW) (m:r9) (z:OI):Prop where
 im:td A (.agg #[j9 z.f.v0 (m.M 0),j9 z.f.v1 (m.M 1),.int .u64 ((m.M 2).getD 0 0),.int .u64 ((m.M 3).getD 0 0),.int .u64 ((m.M 4).getD 0 0),j9 z.f.v5 (m.M 5),j9 z.f.v6 (m.M 6),j9 z.f.v7 (m.M 7)]) m.M
 th:dM A 11 (.slice z.t.1 m.gJ.length z.t.2) (m.gJ.map aU.d).length (FZ (m.gJ.map aU.d))
 st:dM A 9 (.slice z.s.1 m.cG.length z.s.2) m.cG.length (tS m.cG)
 ev:mj A (.slice z.e.1 m.lC.length z.e.2) m.lC
 ob:uP A (.slice z.o.1 m.gJ.length z.o.2) (m.gJ.map aU.ga)
theorem td.keeps {A B:AW} (hk:ff A B) {v:Value} {M:Nat->List Int} (h:td A v M):td B v M:=by
 obtain⟨v0,v1,v5,v6,v7,e,i0,i1,i5,i6,i7⟩:=h;exact⟨v0,v1,v5,v6,v7,e,dM.keeps hk i0,dM.keeps hk i1,dM.keeps hk i5,dM.keeps hk i6,dM.keeps hk i7⟩
theorem yX.keeps {A B:AW} (hk:ff A B) {m:r9} {z:OI} (h:yX A m z):yX B m z:=
 ⟨h.im.keeps hk,dM.keeps hk h.th,dM.keeps hk h.st,h.ev.keeps hk,h.ob.keeps hk⟩
theorem ah.Yn {A:AW} {L K:List It} {v:Value} {l:List zd} (h:ah A L) (hp:ay L (.h (fB v l)) K):mj A v l:=by
 obtain⟨q,h1,h2⟩:=fB.open h hp;dsimp only [Dk,aa,ag] at h2;exact⟨q,h1,ah.jQ h2 .z,λi hi=>GY hi h2 (.s .z)⟩
theorem KE {A:AW} {L K:List It} {q:List (Value×List iq)} {i:Nat} (hi:i<q.length) (hS:ah A L) (hp:ay L (.h (gb q)) K):dM A 3 q[i].1 q[i].2.length (oJ q[i].2):=by
 have e:q=q.take i++(q[i]::q.drop (i+1)):=by rw [<-List.drop_eq_getElem_cons hi,List.take_append_drop]
 have h:=congrArg gb e;rw [AA] at h;unfold ah at hS;rw [hp.aE] at hS;have h2:bk A (gb q*aE K):=hS;rw [h] at h2;have h3:bk A (cY 3 q[i].1 q[i].2.length (oJ q[i].2)*(gb (q.take i)*gb (q.drop (i+1))*aE K)):=by
  refine bk.dK h2 ?_;show gb (q.take i)*(ir q[i].1 q[i].2*gb (q.drop (i+1)))*aE K=ir q[i].1 q[i].2*(gb (q.take i)*gb (q.drop (i+1))*aE K)
  ac_rfl
 exact cY.is h3
theorem ah.Ym {A:AW} {L K:List It} {v:Value} {l:List (List iq)} (h:ah A L) (hp:ay L (.h (my v l)) K):uP A v l:=by
 obtain⟨q,h1,h2⟩:=my.open h hp;dsimp only [KF,aa,ag] at h2;exact⟨q,h1,ah.jQ h2 .z,λi hi=>KE hi h2 (.s .z)⟩
theorem ah.Up {A:AW} {L:List It} {m:r9} {z:OI} (h:ah A (NA m z++L)):yX A m z:=by
 dsimp only [NA,aa,ag] at h;exact⟨tf.is h .z,ah.jQ h (.s .z),ah.jQ h (.s (.s .z)),ah.Yn h (.s (.s (.s .z))),ah.Ym h (.s (.s (.s (.s .z))))⟩
theorem CK (m:r9) (z1 z2:OI) (A:AW) (h1:yX A m z1) (h2:yX A m z2) (bG:∀k,k<8->(m.M k).length<2^39) (hl:m.gJ.length<2^30) (GN:m.cG.length<2^30) (hel:m.lC.length<2^30) (vG:∀t∈m.gJ,t.ga.length<2^30) (FE:E4 m.lC) :
 ax Tryz.prog 11 [.agg (zB m z1).toArray,.agg (zB m z2).toArray] A (λv A'=>v=.bool true/\A=A'):=by
 refine ax.qt (cL.hY rfl) (λhw=>?_) (by kernel_rfl);refine aF Tryz.func11 λ_=>?_;have l2:∀x y,A.le ((A.alloc x).alloc y):=λx y=>(AW.le.alloc A x).trans (AW.le.alloc _ y);have kp:∀x y,ff A ((A.alloc x).alloc y):=λx y=>ff.jC (l2 x y) hw;have c1:=λx y=>ax.qt (cL.hY rfl) (λ_=>EE _ _ m.M _ (h1.keeps (kp x y)).im (h2.keeps (kp x y)).im bG) (by kernel_rfl);have c2:=λx y=>Bj _ _ _ _ (h1.keeps (kp x y)).th (h2.keeps (kp x y)).th (by rw [List.length_map];exact hl);have c3:=λx y=>wd _ _ _ _ (h1.keeps (kp x y)).st (h2.keeps (kp x y)).st GN;have c4:=λx y=>ul _ _ _ _ (h1.keeps (kp x y)).ev (h2.keeps (kp x y)).ev hel FE;have c5:=λx y=>IV _ _ _ _ (h1.keeps (kp x y)).ob (h2.keeps (kp x y)).ob (by rw [List.length_map];exact hl) (λo ho=>by obtain⟨t,ht,rfl⟩:=List.mem_map.1 ho;exact vG t ht);unfold zB;unfold j9 at c1 ⊢;refine W (J5 @c1 @c2 @c3 @c4 @c5) (J1 @AW.af) ?_<;>intros
 exact⟨_,by first|rfl|(simp;rfl),rfl,l2 _ _⟩
end
section
namespace TGFbW
theorem mr [Gl] {A:AW} {L:List It} {T:Prop} (hS:ah A L) (hw:A.Wf) (h':(aR A L/\bj A L/\bN L)=T:=by first|(dsimp only [aa,ag,aR,bj,bN,eE];done)|exact rfl):T:=h'▸hS.eD hw
end TGFbW
open TGFbW
variable [Gl]
end
section
variable [Gl]
theorem dB.jO {B:Nat} {A A':AW} {size:Nat} {v:Value} {n:Nat} {cs:List Value} (h:dB B A size v n cs) (he:∀j,fa v=some j->A'.bg j=A.bg j):dB B A' size v n cs:=by
 rcases h with h|⟨p,c,bP,rfl,h2,hs,h3,h4,h5⟩;exact .inl h;exact .inr ⟨p,c,bP,rfl,h2,hs,h3,(he _ rfl).trans h4,h5⟩
theorem dB.lt {B:Nat} {A:AW} {size:Nat} {v:Value} {n:Nat} {cs:List Value} (h:dB B A size v n cs) (hw:A.Wf) {j:Nat} (hj:fa v=some j):B<=j/\j<A.next:=by
 rcases h with ⟨rfl,_⟩|⟨p,c,bP,rfl,h2,hs,h3,h4,h5⟩;cases hj;injection hj with hj;subst hj;exact⟨h3,hw.lt h4⟩
structure OO (B:Nat) (A A':AW) (v v':Value):Prop where
 le:∀A0:AW,A0.next<=B->A0.le A->A0.le A'
 wf:A'.Wf
 next:A.next<=A'.next
 bg:∀j,j<A.next->fa v≠some j->A'.bg j=A.bg j
 lK:∀j,fa v'=some j->fa v=some j\/A.next<=j
theorem M7 {A:AW} {B:Nat} {v:Value} {n:Nat} {cs:List Value} (x:aZ) (gB:dB B A 5 v n cs) (hn:n<2 ^ 30) (hB:B<=A.next) (hw:A.Wf) :
 ∃v' A',eU Tryz.prog (A.alloc (.cells (au x) true 5)) 75 75 v (.slice (some ⟨A.next,0,none⟩) 1 1)=some (v',A')/\dB B A' 5 v' (n+1) (cs++au x)/\OO B A A' v v':=by
 have yp:=dB.le (AW.le.alloc A (.cells (au x) true 5)) hw gB;have iF:fK (A.alloc (.cells (au x) true 5)) 5 (.slice (some ⟨A.next,0,none⟩) 1 1)=some (1,au x):=by
  simp [fK,AW.bP,au]
 obtain⟨v',A',h1,h2,h3,h4,h5,h6,h7⟩:=jm (P:=Tryz.prog) (size:=5) (t:=75) Tryz.underlying75 Tryz.info74 Tryz.zero74 rfl rfl (by omega) yp iF (by simp [au,Value.oneCell']) (by omega) (by show (n+1)*40<=140737488355328;omega) (by rw [AW.aV];omega) (hw.alloc _);refine⟨v',A',h1,h2,λA0 ha hl=>h3 A0 ha (hl.trans (AW.le.alloc A _)),h4,by rw [AW.aV] at h5;omega,λj hj hU=>?_,λj hj=>?_⟩;rw [h6 j (by simp;omega) hU,AW.fz _ _ (by omega)];rcases h7 with rfl|h7;exact .inl hj;rw [h7] at hj;injection hj with hj;simp at hj;exact .inr (by omega)
theorem TK {A:AW} {B:Nat} {v:Value} {l:List Int} (y:Int) (gB:dx B A .i64 v l) (hn:l.length<2 ^ 30) (hB:B<=A.next) (hw:A.Wf) :
 ∃v' A',eU Tryz.prog (A.alloc (.cells [.int .i64 y] true 1)) 24 24 v (.slice (some ⟨A.next,0,none⟩) 1 1)=some (v',A')/\dx B A' .i64 v' (l++[y])/\OO B A A' v v':=by
 have yp:=dB.le (AW.le.alloc A (.cells [.int .i64 y] true 1)) hw gB;have iF:fK (A.alloc (.cells [.int .i64 y] true 1)) 1 (.slice (some ⟨A.next,0,none⟩) 1 1)=some (1,[.int .i64 y]):=by
  simp [fK,AW.bP]
 obtain⟨v',A',h1,h2,h3,h4,h5,h6,h7⟩:=jm (P:=Tryz.prog) (size:=1) (t:=24) Tryz.underlying24 Tryz.info3 Tryz.zero3 rfl rfl (by omega) yp iF (by simp [Value.oneCell']) (by omega) (by show (l.length+1)*8<=140737488355328;omega) (by rw [AW.aV];omega) (hw.alloc _);refine⟨v',A',h1,by unfold dx;simpa using h2,λA0 ha hl=>h3 A0 ha (hl.trans (AW.le.alloc A _)),h4,by rw [AW.aV] at h5;omega,λj hj hU=>?_,λj hj=>?_⟩;rw [h6 j (by simp;omega) hU,AW.fz _ _ (by omega)];rcases h7 with rfl|h7;exact .inl hj;rw [h7] at hj;injection hj with hj;simp at hj;exact .inr (by omega)
theorem Jm (y:Int):∀(l:List aZ) (j:Nat) (hj:j<l.length),(l.flatMap au).set (j*5+4) (.int .i64 y)=(l.set j { l[j] with bQ:=y }).flatMap au
 | x::l,0,_=>by
   simp [au]
 | x::l,j+1,h=>by
   have ih:=Jm y l j (by simpa using h);rw [List.flatMap_cons,List.set_cons_succ,List.flatMap_cons,List.getElem_cons_succ,<-ih];have e:(j+1)*5+4=(au x).length+(j*5+4):=(by simp [au];omega);rw [e,List.set_append_right _ _ (by omega),Nat.add_sub_cancel_left]
theorem Nt {A:AW} {B:Nat} {p:Addr} {c:Nat} {l:List aZ} (y:Int) {j:Nat} (gB:dB B A 5 (.slice (some p) l.length c) l.length (l.flatMap au)) (hj:j<l.length) (hw:A.Wf) :
 ∃A',aB Tryz.prog A 3 ⟨p.block,p.off+j*5+4,none⟩ (.int .i64 y)=some A'/\dB B A' 5 (.slice (some p) l.length c) l.length ((l.set j { l[j] with bQ:=y }).flatMap au)/\A'.Wf/\A'.next=A.next/\(∀i,i≠p.block->A'.bg i=A.bg i)/\p.spot=none:=by
 rcases gB with ⟨h,_⟩|⟨q,c',bP,e,h2,hs,h3,h4,h5,h6⟩;cases h;injection e with e1 e2 e3;injection e1 with e1;subst e1;refine⟨A.set p.block (some (.cells (bP.set (p.off+j*5+4) (.int .i64 y)) true 5)),?_,?_,hw.set _ (hw.lt h4),rfl,λi hi=>AW.aY hi,hs⟩;have ho:p.off+j*5+4+1<=bP.length:=by omega
 simp [aB,h4,Tryz.info3,Value.oneCell',ho];refine .inr ⟨p,c,bP.set (p.off+j*5+4) (.int .i64 y),rfl,by omega,hs,h3,AW.cm,by simpa using h5,?_⟩;rw [<-Jm y l j hj,h6];rw [List.drop_set,if_neg (by omega),List.take_set,show p.off+j*5+4-p.off=j*5+4 by omega]
end
end Go.Stx
