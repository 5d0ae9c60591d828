/-
 The program's machine: what a run has left.
-/
import Derived.Test.YtpealkdhmnomhaaGreatDoorG28
import Derived.Laws.FloatArith
set_option linter.unusedVariables false
set_option linter.unusedSimpArgs false
set_option linter.unusedSectionVars false
set_option maxRecDepth 20000
set_option maxHeartbeats 4000000
open Exists renaming intro->ZS
open Go.Extern.MathFloatBits renaming float64bits->kbr,float64frombits->kbq
open Go.FloatKind renaming f64->kaV
open Go.IntKind renaming u64->q8
open Go.Oper renaming upon_value->kbC
open Go.Proofs.Tryz renaming prog->qV
open Go.Result renaming andThen->kbH
open Ieee renaming double->ka8
open List renaming getElem?_eq_getElem->q9,getElem?_map->ZX,getElem_mem->ZR,length_map->Zs,length_take_le->kbX
open Prod renaming fst->Zq
open Bool renaming true->qg
open Go renaming Value->qd
open Go.IntKind renaming i64->qa,u64->qj
open Go.Stx.eh renaming cells->qi
open Go.Value renaming slice->qf
open Option renaming none->qh,some->qc
namespace Go.Stx
open Go Go.Proofs
attribute [local irreducible] TW bI cM aV aB aL cU dh
section
abbrev pV:List (Nat×Nat):=[(0,0),(1,0),(2,0),(3,2),(4,2),(5,3),(6,0),(7,3)]
abbrev pU:List (Nat×Nat):=[(0,0),(1,0),(3,0),(4,0),(2,2),(6,0),(5,2),(7,3),(8,0),(9,3)]
open T2
variable [Gl]
variable [AF]
theorem TY {P:Program} {n:Nat} {Q:Exit->Fr->AW->Prop} {a:Fr} {A:AW} {x:Code} {K:Fr->AW->Prop} (J:Fr->AW->Prop) (h1:cM P n x (aS J Q) a A) (h2:∀a A,J a A->K a A):cM P n x (aS K Q) a A:=
 CN h1 λe a A h=>by cases e<;>first|exact h2 a A h|exact h
theorem MV (b:Nat) (m:rW) (bW:∀k,k<8->(m.M k).length<2^39) (hm2:0<(m.M 2).length) (RN:0<(m.M 3).length) (hm4:0<(m.M 4).length) (hl:m.fN.length<=16) (OO:m.bu.length<2^30) (hel:m.tO.length<2^30)
 (Cx:∀t∈m.fN,t.io.length<2^30) (RP:∀e∈m.tO,e.reads.length<2^38/\e.bU.length<2^38) :
 eI qV 31 [pv b] [.h (H6 b m)] (λz v=>v=.agg (F4 m z).toArray) (λz=>.h (H6 b m)::SK m z):=by
 intro A F hw dU;refine aK Tryz.func31 λ_=>?_;dsimp only [aa,ah] at dU;obtain⟨⟨pb,vt,vs,ve⟩,q,Fh,hS⟩:=H6.open dU .z;have hql:q.length=m.fN.length:=by rw [<-Fh,Zs]
 have mV:(q.map Zq).length=m.fN.length:=by rw [Zs,hql]
 clear dU;dsimp only [VG,aa,ah] at hS;have himg:=λ{A:AW} {L K:List It} {k:qd->AW->Prop}=>PW pb m.M bW hm2 RN hm4 (A:=A) (L:=L) (K:=K) (k:=k);generalize hM0:m.M=M0 at hS himg;obtain⟨ot,ct,rfl,_⟩:=fL.bR (aj.lX hS (.s (.s .z)));obtain⟨os,cs,rfl,_⟩:=fL.bR (aj.lX hS (.s (.s (.s (.s .z)))));obtain⟨q2,RJ,lO⟩:=gA.open hS (.s (.s (.s (.s (.s .z)))));have hq2l:q2.length=m.tO.length:=by rw [<-RJ,Zs]
 dsimp only [Hh,aa,ah] at lO;obtain⟨oe,ce,rfl,_⟩:=fL.bR (aj.lX lO .z);clear hS;have hS:=lO;clear lO;rw [mV] at hS;have hq:=gI hS hw;revert hq hS hw;refine W (J2 (od pV) (od pU)) (J1 bC) ?_<;>(unhygienic intros);refine TY (λfr A'=>A'.Wf/\fr 0=pv b/\fr 2=pv A.next/\∃rb f o cz,fr 3=pv rb/\aj A' [.h (xr M0 f),.h (nW (qf o m.bu.length cz) m.bu),.at rb (qi [jC f.v0 (M0 0),jC f.v1 (M0 1),.int qj ((M0 2).getD 0 0),.int qj ((M0 3).getD 0 0),.int qj ((M0 4).getD 0 0),jC f.v5 (M0 5),jC f.v6 (M0 6),jC f.v7 (M0 7),qf qh 0 0,qf o m.bu.length cz,qf qh 0 0,qf qh 0 0] qg 1),.h (dK 6 (qf oe q2.length ce) q2.length (hY q2)),.h (eU q2),.at b (qi [pv pb,qf ot m.fN.length ct,qf os m.bu.length cs,qf oe q2.length ce] qg 1),ei pb M0,.h (lJ (qf ot m.fN.length ct) (q.map Zq)),.h (mv q),.h (nW (qf os m.bu.length cs) m.bu),.at A.next (qi [qf qh 0 0,qf qh 0 0,.int qj 0,.int qj 0,.int qj 0,qf qh 0 0,qf qh 0 0,qf qh 0 0,qf qh 0 0,qf qh 0 0,qf qh 0 0,qf qh 0 0] qg 1),.h F]) ?_ ?_
 . repeat' (first|(refine hR _ _ ?_;clear hR R)|(refine hK _ _ ?_;clear hK K)|refine nx ?_|(refine Sp λR hR=>?_;simp [hq,AW.ab,aG];try simp (disch:=omega) only [ay,aw,af,an])|(refine OM (λR hR=>?_) (λR hR=>?_)<;>(simp [];try simp (disch:=omega) only [ay,aw,af,an]))|refine So ?_|simp only [bI,u6,mJ,Option.map_none,List.getElem?_toArray,List.getElem?_cons_zero,List.getElem?_cons_succ,List.getD_cons_zero,List.getD_cons_succ]|(refine wt (λ_=>True) Tryz.mx [0,0,0,0,2,0,0,0,0,2,0,2,3] (.aM 0 (.aM 1 (.aM 2 (.aM 3 (.aM 5 (.aM 6 (.aM 7 (.aM 8 (.uW 4 (.uW 9 (.aM 10 (.aM 11 (.aM 12 .nil))) 11 (.aM 9 (.aM 10 (.aM 12 .nil)))) 11 (.aM 4 (.aM 9 (.aM 10 (.aM 12 .nil))))))))))))) Yc λK hK=>?_)|(apply himg;(·exact wA);(·exact sA);(·exact kA);((rintro _ _ hS hw fA);(try refine⟨fA,?_⟩);have hq:=gI hS hw))|(apply Kq OO;(·exact wA);(·exact sA);(·exact kA);((rintro _ _ _ hS hw fA);(try refine⟨fA,?_⟩);have hq:=gI hS hw)))
   all_goals(
    simp only [aS];refine⟨?_,by simp,by simp,?_⟩;exact wA;apply ZS;apply ZS;apply ZS;apply ZS;refine And.intro (by simp;rfl) ?_;apply aj.bX
    (·exact sA)
    (·exact pZ))
 clear hS hw hq himg;rintro fr A1 ⟨hw,h0,h2,rb,f,o,cz,h3,hS⟩;generalize A.next=N at hS h2;have hq:=gI hS hw;revert hq hS hw;(repeat revert hc);refine W (J2 (od pV) (od pU)) (J4 h0 h2 h3 bC) ?_<;>(unhygienic intros)
 refine df (λk fr A'=>A'.Wf/\∃(i:Nat) (vtt voo:qd),k=m.fN.length-i/\i<=m.fN.length/\fr 0=pv b/\fr 2=pv N/\fr 3=pv rb/\fr 25=qf ot m.fN.length ct/\fr 26=.int qa m.fN.length/\fr 27=.int qa i/\
  aj A' [.h (lJ (qf ot m.fN.length ct) (q.map Zq)),.h (mv q),.h (Ad vtt ((m.fN.take i).map aU.d)),.h (nX voo ((m.fN.take i).map aU.io)),.h (xr M0 f),.h (nW (qf o m.bu.length cz) m.bu),.at rb (qi [jC f.v0 (M0 0),jC f.v1 (M0 1),.int qj ((M0 2).getD 0 0),.int qj ((M0 3).getD 0 0),.int qj ((M0 4).getD 0 0),jC f.v5 (M0 5),jC f.v6 (M0 6),jC f.v7 (M0 7),vtt,qf o m.bu.length cz,qf qh 0 0,voo] qg 1),.h (dK 6 (qf oe q2.length ce) q2.length (hY q2)),.h (eU q2),.at b (qi [pv pb,qf ot m.fN.length ct,qf os m.bu.length cs,qf oe q2.length ce] qg 1),ei pb M0,.h (nW (qf os m.bu.length cs) m.bu),.at N (qi [qf qh 0 0,qf qh 0 0,.int qj 0,.int qj 0,.int qj 0,qf qh 0 0,qf qh 0 0,qf qh 0 0,qf qh 0 0,qf qh 0 0,qf qh 0 0,qf qh 0 0] qg 1),.h F]) m.fN.length ?_ ?_
 refine⟨hw,0,qf qh 0 0,qf qh 0 0,by omega,by omega,by simp [h0],by simp [h2],by simp [h3],by simp,by simp,by simp,?_⟩;have h1:=aj.nilTst (aj.nilObl hS);apply aj.bX;exact h1
 (·exact pZ)
 clear hS hw hq h0 h2 h3;rintro k fr A2 ⟨hw,i,vtt,voo,rfl,hi,h0,h2,h3,h25,h26,h27,hS⟩;have hlim:((m.fN.take i).map aU.d).length<2^30:=by rw [Zs];have:=kbX i m.fN;omega
 have hlim2:((m.fN.take i).map aU.io).length<2^30:=by rw [Zs];have:=kbX i m.fN;omega
 by_cases bY:i<m.fN.length
 . have fo:(i:Int)<m.fN.length:=Ya;have gC:=zd (i:=i);have hiq:i<q.length:=Ya;obtain⟨tb,off,cc,bS,e25,bO,NO,js,lh⟩:=aj.ptrI hS .z (i:=i) Ya;injection e25 with e1 e2 e3;subst e1 e3;obtain⟨R,lO,ri⟩:=aj.thsAt hiq js (.s .z);have ON:m.fN[i]=q[i].2:=by
    have:m.fN[i]? = qc q[i].2:=by rw [<-Fh,ZX,q9 hiq];rfl
    rw [q9 bY] at this;injection this
   have hobt:=Cx m.fN[i] (ZR bY);rw [List.getElem_map] at bO;have jx:∀y,q[i]=y->q.set i y=q:=λy e=>by rw [<-e,List.set_getElem_self]
   generalize hx:q[i]=x at *;obtain⟨bt,t⟩:=x;dsimp only at ON bO lO ri;have jx:=jx _ rfl;rw [ON] at hobt;clear hS js;obtain⟨⟨⟨di,fe,ly,fK,D0,vo'⟩,vc⟩,hS⟩:=u3.open lO .z;clear lO;dsimp only [FH,aa,ah] at hS;rw [mV] at lh;have hir:off+i<bS.length:=Ya;obtain⟨hir2,uo⟩:=List.getElem?_eq_some_iff.1 bO
   have bX:∀(UE UF:qd) (lt:List xK) (lo:List (List k9)) (A':AW) (L' K1 K2 K3 K8:List It),aj A' L'->bf L' (FH bt t ⟨di,fe,ly,fK,D0,vo'⟩ vc) K1->aE K1 (.h R) K2->aE K2 (.at tb (qi bS qg 1)) K3->
    bf K3 [.h (Ad UE lt),.h (nX UF lo),.h (xr M0 f),.h (nW (qf o m.bu.length cz) m.bu),.at rb (qi [jC f.v0 (M0 0),jC f.v1 (M0 1),.int qj ((M0 2).getD 0 0),.int qj ((M0 3).getD 0 0),.int qj ((M0 4).getD 0 0),jC f.v5 (M0 5),jC f.v6 (M0 6),jC f.v7 (M0 7),UE,qf o m.bu.length cz,qf qh 0 0,UF] qg 1),.h (dK 6 (qf oe q2.length ce) q2.length (hY q2)),.h (eU q2),.at b (qi [pv pb,qf (qc ⟨tb,off,qh⟩) m.fN.length ct,qf os m.bu.length cs,qf oe q2.length ce] qg 1),ei pb M0,.h (nW (qf os m.bu.length cs) m.bu),.at N (qi [qf qh 0 0,qf qh 0 0,.int qj 0,.int qj 0,.int qj 0,qf qh 0 0,qf qh 0 0,qf qh 0 0,qf qh 0 0,qf qh 0 0,qf qh 0 0,qf qh 0 0] qg 1),.h F] K8->aj A' [.h (lJ (qf (qc ⟨tb,off,qh⟩) m.fN.length ct) (q.map Zq)),.h (mv q),.h (Ad UE lt),.h (nX UF lo),.h (xr M0 f),.h (nW (qf o m.bu.length cz) m.bu),.at rb (qi [jC f.v0 (M0 0),jC f.v1 (M0 1),.int qj ((M0 2).getD 0 0),.int qj ((M0 3).getD 0 0),.int qj ((M0 4).getD 0 0),jC f.v5 (M0 5),jC f.v6 (M0 6),jC f.v7 (M0 7),UE,qf o m.bu.length cz,qf qh 0 0,UF] qg 1),.h (dK 6 (qf oe q2.length ce) q2.length (hY q2)),.h (eU q2),.at b (qi [pv pb,qf (qc ⟨tb,off,qh⟩) m.fN.length ct,qf os m.bu.length cs,qf oe q2.length ce] qg 1),ei pb M0,.h (nW (qf os m.bu.length cs) m.bu),.at N (qi [qf qh 0 0,qf qh 0 0,.int qj 0,.int qj 0,.int qj 0,qf qh 0 0,qf qh 0 0,qf qh 0 0,qf qh 0 0,qf qh 0 0,qf qh 0 0,qf qh 0 0] qg 1),.h F]:=λUE UF lt lo A' L' K1 K2 K3 K8 h e1 e2 e3 e4=>by
    have g1:=u3.dJ (b:=bt) (t:=t) h e1;have g2:=ri A' _ _ _ t g1 .z e2;rw [jx] at g2;exact aj.bX (lh A' _ _ g2 (.s e3)) (.s .z (.s .z e4))
   have ed:(m.fN.take (i+1)).map aU.d=(m.fN.take i).map aU.d++[t.d]:=XE;have eo:(m.fN.take (i+1)).map aU.io=(m.fN.take i).map aU.io++[t.io]:=XE;generalize (m.fN.take i).map aU.d=lt at *;generalize (m.fN.take i).map aU.io=lo at *;obtain⟨ott2,ctt2,rfl,_⟩:=fL.bR (aj.lX hS (.s (.s (.s (.s (.s (.s (.s (.s (.s (.s .z)))))))))));have hq:=gI hS hw;refine aT ?_
   repeat' (first|(with_reducible apply lwTst (t:=t.d);(·(simp;rfl));(·(simp;rfl));(·exact wA);(·exact sA);(·exact kA);(·exact AW.bN _ _);(·omega);(·intro _ _;trivial);rintro _ _ _ hS hw _;have hq:=gI hS hw)|(with_reducible apply lwObl;(·(simp;rfl));(·(simp;rfl));(·exact wA);(·exact sA);(·exact pA);(·exact AW.bN _ _);(·omega);(·intro _ _;trivial);rintro _ _ _ hS hw _;have hq:=gI hS hw)|(refine iT λR hR=>?_;simp [hq,h3,h25,h26,h27,fo,gC,hir,uo,stV,R8.cells,AW.ab,aG];try simp (disch:=omega) only [ay,aw,af,an])|(refine hR _ _ ?_;clear hR R)|(refine hK _ _ ?_;clear hK K)|refine nx ?_|refine wn λK hK=>?_|simp only [wS,pV]|refine wl Tryz.mx pV Yc λK hK=>?_|(apply MK bt t.d _;(·exact wA);(·exact sA);(·exact kA);((rintro _ _ hS hw fA);(try refine⟨fA,?_⟩);have hq:=gI hS hw))|(apply St bt t.d _ t.io hobt;(·exact wA);(·exact sA);(·exact pA);((rintro _ _ _ hS hw fA);(try refine⟨fA,?_⟩);have hq:=gI hS hw))|(show cM _ _ _ _ _ _;refine nx ?_)|(refine wc rfl (λhc=>?_) (λhc=>?_)<;>(try simp at hc)))
   refine⟨m.fN.length-(i+1),by omega,?_,i+1,?_⟩;exact wA;rw [ed,eo];apply ZS;apply ZS;refine⟨rfl,by omega,by simp [h0],by simp [h2],by simp [h3],by simp [h25],by simp [h26],by simp,?_⟩;apply bX
   (·exact sA)
   unfold FH;dsimp only
   (·exact pZ)
   (·exact rh)
   (·exact rh)
   (·exact pZ)
 have tD:i=m.fN.length:=Ya
 subst tD;have fo:¬((m.fN.length:Int)<m.fN.length):=Ya
 rw [List.take_length] at hS;clear hlim hlim2;have hq:=gI hS hw;refine aT ?_;revert hq hS hw;(repeat revert hc);refine W (J2 (od pV) (od pU)) (J8 h0 h2 h3 h25 h26 h27 fo bC) ?_<;>(unhygienic intros)
 refine df (λk fr A'=>A'.Wf/\∃(i:Nat) (vee:qd),k=q2.length-i/\i<=q2.length/\fr 0=pv b/\fr 2=pv N/\fr 3=pv rb/\fr 49=qf oe q2.length ce/\fr 50=.int qa q2.length/\fr 51=.int qa i/\
  aj A' [.h (gA vee (m.tO.take i)),.h (lJ (qf ot m.fN.length ct) (q.map Zq)),.h (mv q),.h (Ad vtt (m.fN.map aU.d)),.h (nX voo (m.fN.map aU.io)),.h (xr M0 f),.h (nW (qf o m.bu.length cz) m.bu),.at rb (qi [jC f.v0 (M0 0),jC f.v1 (M0 1),.int qj ((M0 2).getD 0 0),.int qj ((M0 3).getD 0 0),.int qj ((M0 4).getD 0 0),jC f.v5 (M0 5),jC f.v6 (M0 6),jC f.v7 (M0 7),vtt,qf o m.bu.length cz,vee,voo] qg 1),.h (dK 6 (qf oe q2.length ce) q2.length (hY q2)),.h (eU q2),.at b (qi [pv pb,qf ot m.fN.length ct,qf os m.bu.length cs,qf oe q2.length ce] qg 1),ei pb M0,.h (nW (qf os m.bu.length cs) m.bu),.at N (qi [qf qh 0 0,qf qh 0 0,.int qj 0,.int qj 0,.int qj 0,qf qh 0 0,qf qh 0 0,qf qh 0 0,qf qh 0 0,qf qh 0 0,qf qh 0 0,qf qh 0 0] qg 1),.h F]) q2.length ?_ ?_
 refine⟨hw,0,qf qh 0 0,by omega,by omega,by simp [h0],by simp [h2],by simp [h3],by simp,by simp,by simp,?_⟩;exact gA.nil hS;clear hS hw hq h0 h2 h3 h25 h26 h27;rintro k fr A3 ⟨hw,i,vee,rfl,hi,h0,h2,h3,h49,h50,h51,hS⟩;by_cases bY:i<q2.length
 . have fo:(i:Int)<q2.length:=Ya;have gC:=zd (i:=i);obtain⟨p,bS,rfl,bO,fA,hcell⟩:=fL.recAt (aj.lX hS (.s (.s (.s (.s (.s (.s (.s (.s .z))))))))) bY (Of q2 bY);have hevi:=RP q2[i].1 (by rw [<-RJ];exact List.mem_map_of_mem (ZR bY));have ON:m.tO.take (i+1)=m.tO.take i++[q2[i].1]:=by
    rw [List.take_succ_eq_append_getElem Ya];congr 2;have:m.tO[i]? = qc q2[i].1:=by rw [<-RJ,ZX,q9 bY];rfl
    rw [q9 Ya] at this;injection this
   have NS:(m.tO.take i).length<2^30:=by have:=kbX i m.tO;simp;omega
   obtain⟨h5,h6⟩:=LC bY hS (.s (.s (.s (.s (.s (.s (.s (.s (.s .z)))))))));generalize m.tO.take i=le at *;generalize hx:q2[i]=x at *;obtain⟨⟨ea,et,ek,ew,er,ewr⟩,r,w⟩:=x;dsimp only [Bo] at hcell hevi h5 h6;obtain⟨o1,c1,rfl,_⟩:=h5.bR;obtain⟨o2,c2,rfl,_⟩:=h6.bR;have heR:=λ{A:AW} {L K:List It} {k:qd->AW->Prop}=>evR_use bY hx hevi.1 (A:=A) (L:=L) (K:=K) (k:=k);have heW:=λ{A:AW} {L K:List It} {k:qd->AW->Prop}=>evW_use bY hx hevi.2 (A:=A) (L:=L) (K:=K) (k:=k);dsimp only at heR heW;clear hx h5 h6;have hq:=gI hS hw;refine aT ?_
   repeat' (first|(with_reducible apply lwEvm (e:=⟨ea,et,ek,ew,er,ewr⟩);(·(simp;rfl));(·(simp;rfl));(·exact wA);(·exact sA);(·exact pA);(·(simp;(repeat' (first|rfl|refine⟨rfl,?_⟩));done));(·omega);(·intro _ _;trivial);rintro _ _ _ hS hw _;have hq:=gI hS hw)|(refine iT λR hR=>?_;simp [hq,h3,h49,h50,h51,fo,gC,fA,bO,hcell,AW.ab,aG];try simp (disch:=omega) only [ay,aw,af,an])|(refine hR _ _ ?_;clear hR R)|(refine hK _ _ ?_;clear hK K)|refine nx ?_|refine wn λK hK=>?_|simp only [wS,pU]|refine wl Tryz.mx pU Yc λK hK=>?_|(apply heR;(·exact wA);(·exact sA);(·exact kA);((rintro _ _ _ hS hw fA);(try refine⟨fA,?_⟩);have hq:=gI hS hw))|(apply heW;(·exact wA);(·exact sA);(·exact kA);((rintro _ _ _ hS hw fA);(try refine⟨fA,?_⟩);have hq:=gI hS hw))|(show cM _ _ _ _ _ _;refine nx ?_)|(refine wc rfl (λhc=>?_) (λhc=>?_)<;>(try simp at hc)))
   dsimp only at ON;refine⟨q2.length-(i+1),by omega,?_,i+1,?_⟩;exact wA;rw [ON];apply ZS;refine⟨rfl,by omega,by simp [h0],by simp [h2],by simp [h3],by simp [h49],by simp [h50],by simp,?_⟩;apply aj.bX
   (·exact sA)
   (·exact pZ)
 have tD:i=q2.length:=Ya
 subst tD;have fo:¬((q2.length:Int)<q2.length):=Ya
 have e:m.tO.take q2.length=m.tO:=by rw [hq2l,List.take_length]
 rw [e] at hS;clear e;obtain⟨ott,ctt,rfl,_⟩:=fL.bR (aj.lX hS (.s (.s (.s .z))));simp only [Zs] at hS;obtain⟨qe,IQ,Av⟩:=gA.open hS .z;have hqel:qe.length=m.tO.length:=by rw [<-IQ,Zs]
 dsimp only [Hh,aa,ah] at Av;obtain⟨oee,cee,rfl,_⟩:=fL.bR (aj.lX Av .z);clear Av;rw [hqel] at hS;obtain⟨qo,hqo,Av⟩:=nX.open hS (.s (.s (.s (.s .z))));have hqol:qo.length=m.fN.length:=by rw [<-Zs (f:=aU.io),<-hqo,Zs]
 dsimp only [Pt,aa,ah] at Av;obtain⟨oo,co,rfl,_⟩:=fL.bR (aj.lX Av .z);clear Av;rw [hqol] at hS;have hq:=gI hS hw;refine aT ?_;revert hq hS hw;(repeat revert hc);refine W (J2 (od pV) (od pU)) (J9 h0 h2 h3 h49 h50 h51 fo @jC.eq_1 bC) ?_<;>(unhygienic intros);subst hM0;have fin2:∀(B:AW) (o1 o2:eh),aj B [.h (gA (qf oee m.tO.length cee) m.tO),.h (lJ (qf ot m.fN.length ct) (q.map Zq)),.h (mv q),.h (Ad (qf ott m.fN.length ctt) (m.fN.map aU.d)),.h (nX (qf oo m.fN.length co) (m.fN.map aU.io)),.h (xr m.M f),.h (nW (qf o m.bu.length cz) m.bu),.at rb o1,.h (dK 6 (qf oe q2.length ce) q2.length (hY q2)),.h (eU q2),.at b (qi [pv pb,qf ot m.fN.length ct,qf os m.bu.length cs,qf oe q2.length ce] qg 1),ei pb m.M,.h (nW (qf os m.bu.length cs) m.bu),.at N o2,.h F]->aj B [.h (H6 b m),.h (xr m.M f),.h (Ad (qf ott m.fN.length ctt) (m.fN.map aU.d)),.h (nW (qf o m.bu.length cz) m.bu),.h (gA (qf oee m.tO.length cee) m.tO),.h (nX (qf oo m.fN.length co) (m.fN.map aU.io)),.h F]:=λB o1 o2 h=>by
  have h1:aj B (.h (gA (qf oe q2.length ce) m.tO)::[.h (gA (qf oee m.tO.length cee) m.tO),.h (lJ (qf ot m.fN.length ct) (q.map Zq)),.h (mv q),.h (Ad (qf ott m.fN.length ctt) (m.fN.map aU.d)),.h (nX (qf oo m.fN.length co) (m.fN.map aU.io)),.h (xr m.M f),.h (nW (qf o m.bu.length cz) m.bu),.at rb o1,.at b (qi [pv pb,qf ot m.fN.length ct,qf os m.bu.length cs,qf oe q2.length ce] qg 1),ei pb m.M,.h (nW (qf os m.bu.length cs) m.bu),.at N o2,.h F]):=gA.dJ (q:=q2) RJ h (by unfold Hh;(exact pA));have h2:aj B (.h (H6 b m)::[.h (gA (qf oee m.tO.length cee) m.tO),.h (Ad (qf ott m.fN.length ctt) (m.fN.map aU.d)),.h (nX (qf oo m.fN.length co) (m.fN.map aU.io)),.h (xr m.M f),.h (nW (qf o m.bu.length cz) m.bu),.at rb o1,.at N o2,.h F]):=H6.dJ (m:=m) (f:=⟨pb,qf ot m.fN.length ct,qf os m.bu.length cs,qf oe q2.length ce⟩) (q:=q) Fh h1 Xm
  apply aj.bX;exact h2
  (·exact pZ)
 refine⟨_,by(simp [h2,AW.ab];rfl),?_⟩;refine⟨⟨f,(ott,ctt),(o,cz),(oee,cee),(oo,co)⟩,by simp [F4,jC],?_⟩;show aj _ [.h (H6 b m),.h (xr m.M f),.h (Ad (qf ott m.fN.length ctt) (m.fN.map aU.d)),.h (nW (qf o m.bu.length cz) m.bu),.h (gA (qf oee m.tO.length cee) m.tO),.h (nX (qf oo m.fN.length co) (m.fN.map aU.io)),.h F];apply fin2;apply aj.bX
 (·exact sA)
 (·exact pZ)
end
section
open Go.Proofs Go
theorem SZ {b:Nat} (h:0x7ff0000000000000<b % 2^63):kaV.format.order b b=qh:=by
 show (ka8.read b).order (ka8.read b)=qh;have e:∃s t,ka8.read b=.nan s t:=by
  unfold Ieee.Format.read;have e1:ka8.signWeight=2^63:=rfl;have e2:ka8.binade=2^52:=rfl;have e3:ka8.infRung=0x7ff0000000000000:=Yf
  rw [e1,e2,e3];dsimp only;rw [aw Ya,aw Ya,aw Ya];exact⟨_,_,rfl⟩
 obtain⟨s,t,e⟩:=e;rw [e];rfl
def Gd (b:Nat):Int:=if kaV.format.order b b=qc .eq then b else 9221120237041090560
def RY (x y:Nat):Int:=match kaV.format.add x y with
 | some r=>Gd r
 | none=>9221120237041090560
theorem CE (x y:Nat) (w:World):Calls qV 260 #[.int qa 12,.float .f64 x,.float .f64 y] w λe w'=>e=.returned (.int qj (RY x y))/\(w'=w\/w'=w.drew):=by
 unfold RY;cases hadd:kaV.format.add x y with
 | some r=>
   have hr:=λw=>run_float_arith (P:=qV) w .add 339 .f64 x y r hadd
   go_enter Tryz.func260,Tryz.ntmps260
   go_wp2
   all_goals first
    | (go_ret;refine⟨?_,.inl rfl⟩;simp_all [Gd];done)
    | (rw [run_callFunc_extern Tryz.func257 Ye Ye Ye (e:=kbr) Ye]
       rw [show ∀w,(kbr #[Value.float kaV r]).run qV w=.ok (.int qj r) w from λw=>rfl];simp only [kbH];rw [kbC]
       go_wp2
       go_ret
       refine⟨?_,.inl rfl⟩;simp_all [Gd];done)
 | none=>
   obtain⟨r,h1,hr⟩:∃r,0x7ff0000000000000<r % 2^63/\(binOp .add 339 (.float .f64 x) (.float .f64 y)).run qV w=.ok (.float .f64 r) w.drew:=by
    refine⟨(Question.nanBits .f64 x y).cut (w.tape w.drawn (.nanBits .f64 x y)),?_,?_⟩;simp only [Question.cut];generalize w.tape w.drawn (Question.nanBits kaV x y)=t;have hu:t / 2 % (2 ^ 52-1)<2 ^ 52-1:=Nat.mod_lt _ Yf;generalize t / 2 % (2 ^ 52-1)=u at hu ⊢;have hq:t % 2=0\/t % 2=1:=Ya;rcases hq with hq|hq<;>rw [hq]<;>omega;simp [binOp,Op.floatArith,hadd,Question.forced]
   have h2:=SZ h1
   go_enter Tryz.func260,Tryz.ntmps260
   go_wp2
   all_goals first
    | (go_ret;refine⟨?_,.inr rfl⟩;simp_all;done)
    | (rw [run_callFunc_extern Tryz.func257 Ye Ye Ye (e:=kbr) Ye]
       rw [show ∀w,(kbr #[Value.float kaV r]).run qV w=.ok (.int qj r) w from λw=>rfl];simp only [kbH];rw [kbC]
       go_wp2
       go_ret
       refine⟨?_,.inr rfl⟩;simp_all [Gd];done)
theorem Ov (x y:Int) (w:World):Calls qV 189 #[.int qa 12,.int qj x,.int qj y] w λe w'=>e=.returned (.tuple #[.int qj (RY x.toNat y.toNat),.int qa 0])/\(w'=w\/w'=w.drew):=by
 have hf:=λx y w=>CE x y w
 go_enter Tryz.func189,Tryz.ntmps189
 go_wp2
 all_goals rw [run_callFunc_extern Tryz.func259 Ye Ye Ye (e:=kbq) Ye]
 all_goals rw [show ∀w,(kbq #[Value.int qj x]).run qV w=.ok (.float .f64 x.toNat) w from λw=>rfl]
 all_goals simp only [kbH]
 all_goals rw [kbC]
 all_goals go_wp2
 all_goals rw [run_callFunc_extern Tryz.func259 Ye Ye Ye (e:=kbq) Ye]
 all_goals rw [show ∀w,(kbq #[Value.int qj y]).run qV w=.ok (.float .f64 y.toNat) w from λw=>rfl]
 all_goals simp only [kbH]
 all_goals rw [kbC]
 all_goals go_wp2_with (go_at_call 260;refine(CE _ _ _).mono ?_;rintro e w' ⟨rfl,jN⟩)
 go_ret2
 exact⟨rfl,jN⟩
theorem wordV {m:Mp} {l l':List qd} (h:jB m l l') (hp:∀v∈l,∃k n,v=.int k n):l'=l:=by
 induction l generalizing l' with
 | nil=>exact h.sj
 | cons v l ih=>
   obtain⟨v',t',rfl,hv,ht⟩:=h.nj;obtain⟨k,n,rfl⟩:=hp v Yb;have e:v'=.int k n:=by cases hv;rfl
   rw [e,ih ht λx hx=>hp x YB]
theorem Gg [Gl] {f:FuncId} {args:List qd} {x y:Int} (A:AW) (hc:kW qV f=qg) (ha:∀v∈args,∃k n,v=.int k n)
 (h:∀w:World,Calls qV f args.toArray w λe w'=>e=.returned (.tuple #[.int qj x,.int qa y])/\(w'=w\/w'=w.drew)):fD f args A (.tuple #[.int qj x,.int qa y]):=by
 show aB _ _ _ _ _;unfold aB;refine⟨hc,λm w iq hs hl=>?_⟩;have e:=wordV hl ha;have e2:iq=args.toArray:=by apply Array.ext';simpa using e
 subst e2;refine(h w).mono ?_;rintro e w' ⟨rfl,hw⟩;refine⟨_,_,m,A,rfl,?_,?_,rfl,rfl⟩;rcases hw with rfl|rfl;exact(Jc.refl _).evo hs;exact(Jc.drew _).evo hs;refine .tuple rfl λi v v' h1 h2=>?_;rw [h1] at h2;injection h2 with h2;subst h2
 match i,h1 with
 | 0,h1=>injection h1 with h1;subst h1;exact .int _ _
 | 1,h1=>injection h1 with h1;subst h1;exact .int _ _
theorem R4 [Gl] {P:Program} {f:FuncId} {R:qd->Prop} (h:aB P f [] AW.mr λv _=>R v) (hR:∀v,R v->gg v=qg) (A:AW):aB P f [] A λv A'=>R v/\A'=A:=by
 unfold aB at h ⊢;refine⟨h.1,λm w iq hs hl=>?_⟩;have HZ:jB Mp.mr [] iq.toList:=by rw [hl.sj];exact .nil
 refine(h.2 Mp.mr w iq (k7.mr w hs.laid) HZ).mono ?_;rintro e w' ⟨v,v',m',A',rfl,ev,hv,hr⟩;have e1:=hv.oM (hR v hr);subst e1;refine⟨v',v',m,A,rfl,Jc.evo hs ⟨λb hb=>ev.uY b hb ?_,ev.os,ev.tape,ev.output,ev.size⟩,.kS (hR v' hr) m,hr,rfl⟩;rintro ⟨i,o,p,hi,_⟩;cases hi
end
section
open T7
variable [Gl]
def xorF (x y:Int):Int:=q8.wrap (BitVec.ofInt 64 x ^^^ BitVec.ofInt 64 y).toNat
def OA (fn x y:Int):Int:=if fn=0 then q8.wrap (x+y) else if fn=1 then q8.wrap (x-y) else if fn=5 then xorF x y else if fn=8 then (if x=y then 1 else 0) else if fn=11 then (if x<y then 1 else 0) else RY x.toNat y.toNat
theorem I8 (b:Bool) (A:AW):fD 280 [.bool b] A (.int qj (if b=qg then 1 else 0)):=by
 refine aK Tryz.func280 λhw=>?_;cases b;refine W cx cx ?_<;>intros;exact⟨_,rfl,rfl,rfl⟩;refine W cx cx ?_<;>intros;exact⟨_,rfl,rfl,rfl⟩
theorem LW (fn x y:Int) (h:fn=0\/fn=1\/fn=5\/fn=8\/fn=11) (A:AW):fD 261 [.int qa fn,.int qj x,.int qj y] A (.int qj (OA fn x y)):=by
 refine aK Tryz.func261 λhw=>?_;have ht:=λb A=>I8 b A;rcases h with rfl|rfl|rfl|rfl|rfl
 all_goals
  all_goals(revert hw;refine W (J1 @ht) trivial ?_<;>unhygienic intros)
  refine⟨_,rfl,?_,rfl⟩
  first|(simp [OA,xorF];done)|(simp [OA,xorF];rfl)
theorem vT (fn x y:Int) (h:fn=0\/fn=1\/fn=5\/fn=8\/fn=11) (A:AW):fD 189 [.int qa fn,.int qj x,.int qj y] A (.tuple #[.int qj (OA fn x y),.int qa 0]):=by
 refine aK Tryz.func189 λhw=>?_;have hi:=λA=>LW fn x y h A;generalize OA fn x y=v at hi;rcases h with rfl|rfl|rfl|rfl|rfl
 all_goals
  all_goals(revert hw;refine W (J1 @hi) trivial ?_<;>unhygienic intros)
  exact⟨_,rfl,rfl,rfl⟩
instance madeAF:AF:=⟨kX⟩
theorem vV:xN OA:=λfn x y h A=>by
 rcases h with rfl|rfl|rfl|rfl|rfl|rfl;exact vT 0 x y Yb A;exact vT 1 x y Yb A;exact vT 5 x y Yb A;exact vT 8 x y Yb A;exact vT 11 x y Yb A;exact Gg A Ye Yb λw=>Ov x y w
end
end Go.Stx
