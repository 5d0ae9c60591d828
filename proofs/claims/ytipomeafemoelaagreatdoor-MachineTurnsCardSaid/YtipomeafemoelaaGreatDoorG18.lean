/-
 The two slices that make.Program builds.
-/
import Derived.Test.YtipomeafemoelaaGreatDoorG17
set_option linter.unusedVariables false
set_option linter.unusedSimpArgs false
set_option linter.unusedSectionVars false
set_option maxRecDepth 20000
set_option maxHeartbeats 4000000
open Bool renaming false_eq_true->qt
open Go.IntKind renaming i64->qg,signed->kaK,u64->qd
open Go.Proofs.Tryz renaming prog->qa
open Go.Stx.AW.le renaming alloc->qb,refl->qi
open Go.Value renaming int->qp
open Int renaming tmod_eq_emod_of_nonneg->qU
open List renaming getElem?_append_left->ZI,getElem?_eq_some_iff->qK,length_append->qm,length_cons->qI,length_nil->ZP,length_singleton->q8,mem_append->qQ,mem_singleton->ZL,set_getElem_self->kao
open Nat renaming le_refl->qf,le_trans->qM,lt_of_lt_of_le->kai,mul_le_mul_left->kah,zero_add->Zj,zero_le->qG
namespace Go.Stx
open Go Go.Proofs
attribute [local irreducible] TW bG c8 aY aD aO cK da
section
namespace TMdY
theorem mK [Gl] {A:AW} {L:List It} {T:Prop} (hS:ah A L) (hw:A.Wf) (h':(aV A L/\bq A L/\bQ L)=T:=by first|(dsimp only [aa,af,aV,bq,bQ,eQ];done)|exact rfl):T:=h'▸hS.eJ hw
end TMdY
open TMdY
variable [Gl]
structure PJ (A0 A:AW) (vp vj:Value) (ps:List bm) (jl:List Int) (N:Nat):Prop where
 own:dS A0.next A 5 vp ps.length (ps.flatMap az)
 Er:fk A0.next A .i64 vj jl
 range:∀x∈jl,0<=x/\x<(N:Int)
 LK:∀j,fu vp=some j->fu vj≠some j
 le:A0.le A
 wf:A.Wf
theorem PJ.grow {A0 A B:AW} {vp vj:Value} {ps:List bm} {jl:List Int} {N:Nat} (h:PJ A0 A vp vj ps jl N) (hl:A.le B) (hw:B.Wf):PJ A0 B vp vj ps jl N:=
 ⟨h.own.le hl h.wf,dS.le hl h.wf h.Er,h.range,h.LK,h.le.trans hl,hw⟩
theorem PJ.ne {A0 A:AW} {vp vj:Value} {ps:List bm} {jl:List Int} {N:Nat} (h:PJ A0 A vp vj ps jl N) {b:Nat} (hb:A.next<=b):fu vp≠some b/\fu vj≠some b:=by
 refine⟨λe=>?_,λe=>?_⟩;have:=h.own.lt h.wf e;omega;have:=dS.lt h.Er h.wf e;omega
theorem PJ.Nj {A0 A:AW} {vp vj:Value} {ps:List bm} {jl:List Int} (h:PJ A0 A vp vj ps jl ps.length) (hj:jl.length<2 ^ 30) {b:Nat} {o:dQ} (hb:A.bp b=some o) (gT:fu vp≠some b/\fu vj≠some b) :
 ∃Uv A',fy qa (A.alloc (.cells [.int .i64 ps.length] true 1)) 24 24 vj (.slice (some ⟨A.next,0,none⟩) 1 1)=some (Uv,A')/\PJ A0 A' vp Uv ps (jl++[(ps.length:Int)]) (ps.length+1)/\A'.bp b=some o/\fu vp≠some b:=by
 have Tq:=h.wf.lt hb;obtain⟨Uv,A',e,h2,k⟩:=Wq (ps.length:Int) h.Er hj h.le.next h.wf;refine⟨Uv,A',e,⟨h.own.jJ λj hj=>k.bp j (h.own.lt h.wf hj).2 (h.LK j hj),h2,λx hx=>?_,λj hj yn=>?_,k.le A0 (qf _) h.le,k.wf⟩,?_,gT.1⟩;rcases qQ.1 hx with hx|hx;have:=h.range x hx;omega;simp at hx;omega;rcases k.mc j yn with e2|e2;exact h.LK j hj e2;have:=(h.own.lt h.wf hj).2;omega;rw [k.bp b Tq gT.2,hb]
theorem PJ.fz {A0 A:AW} {vp vj:Value} {ps:List bm} {jl:List Int} {N:Nat} (h:PJ A0 A vp vj ps jl N) (hn:ps.length<2 ^ 30) (x:bm) :
 ∃FQ A',fy qa (A.alloc (.cells (az x) true 5)) 75 75 vp (.slice (some ⟨A.next,0,none⟩) 1 1)=some (FQ,A')/\PJ A0 A' FQ vj (ps++[x]) jl N:=by
 obtain⟨FQ,A',e,h2,k⟩:=Wr x h.own hn h.le.next h.wf;refine⟨FQ,A',e,⟨?_,dS.jJ h.Er λj hj=>k.bp j (dS.lt h.Er h.wf hj).2 λe2=>h.LK j e2 hj,h.range,λj hj yn=>?_,k.le A0 (qf _) h.le,k.wf⟩⟩
 simpa [List.flatMap_append] using h2
 rcases k.mc j hj with e2|e2;exact h.LK j e2 yn;have:=(dS.lt h.Er h.wf yn).2;omega
theorem PJ.mono {A0 A:AW} {vp vj:Value} {ps:List bm} {jl:List Int} {N M:Nat} (h:PJ A0 A vp vj ps jl N) (hm:N<=M):PJ A0 A vp vj ps jl M:=
 ⟨h.own,h.Er,λx hx=>by have:=h.range x hx;omega,h.LK,h.le,h.wf⟩
theorem PJ.R1 {A0 A:AW} {p:Addr} {n c:Nat} {vj:Value} {ps:List bm} {jl:List Int} {N:Nat} (y:Int) (h:PJ A0 A (.slice (some p) n c) vj ps jl N) (hn:n=ps.length) {j:Nat} (hj:j<ps.length) :
 ∃A',aG qa A 3 ⟨p.block,p.off+j*5+4,none⟩ (.int .i64 y)=some A'/\PJ A0 A' (.slice (some p) n c) vj (ps.set j { ps[j] with bR:=y }) jl N:=by
 subst hn;obtain⟨A',e,h2,hw,hn,hg,_⟩:=PU y h.own hj h.wf;have hb:=(h.own.lt h.wf (j:=p.block) rfl).1;refine⟨A',e,⟨?_,dS.jJ h.Er λi hi=>hg i λe2=>h.LK p.block rfl (by rw [<-e2];exact hi),h.range,h.LK,⟨by rw [hn];exact h.le.next,λi hi=>?_⟩,hw⟩⟩;rw [List.length_set];exact h2;rw [hg i (by omega)];exact h.le.bp i hi
structure Halt (p:Prop):Prop where
 bp:p
theorem halt2 {P:Program} {n:Nat} {Q:Exit->Fr->AW->Prop} {a:Fr} {A:AW} {c:Code} (h:Halt (c8 P n (.block 2 c) Q a A)):c8 P n (.block 2 c) Q a A:=h.bp
theorem haltc {P:Program} {n:Nat} {Q:Exit->Fr->AW->Prop} {a:Fr} {A:AW} {c d:Code} (h:Halt (c8 P n (.cond (.tmp 158) c d) Q a A)):c8 P n (.cond (.tmp 158) c d) Q a A:=h.bp
theorem LQ {P:Program} {n:Nat} {Q:Exit->Fr->AW->Prop} {a:Fr} {A:AW} {x:Code} {K:Fr->AW->Prop} (J:Fr->AW->Prop) (h1:c8 P n x (aR J Q) a A) (h2:∀a A,J a A->K a A):c8 P n x (aR K Q) a A:=
 Bb h1 λe a A h=>by cases e<;>first|exact h2 a A h|exact h
theorem ui {P:Program} {n:Nat} {id:Nat} {Q:Exit->Fr->AW->Prop} {a:Fr} {A:AW} {x:Code} {K:Fr->AW->Prop} (J:Fr->AW->Prop) (h1:c8 P n x (cx id (aR J Q)) a A) (h2:∀a A,J a A->K a A):c8 P n x (cx id (aR K Q)) a A:=
 Bb h1 λe a A h=>by
  cases e with
  | normal=>exact h2 a A h
  | exit k=>
    simp only [cx] at h ⊢;split at h;rename_i e;rw [aA e];exact h2 a A h;rename_i e;rw [aw e];exact h
  | _=>exact h
def vQ (ps:List bm) (jl:List Int):Prop:=(∀x∈jl,∃j:Nat,x=(j:Int)/\∃i,ps[j]? = some i/\i.bR=0/\i.op≠3)/\jl.Nodup
def JG (ps:List bm):Prop:=∀x∈ps,x.op=3->jZ x.bR
theorem vQ.nil (ps:List bm):vQ ps []:=⟨λx hx=>by(cases hx),List.nodup_nil⟩
theorem vQ.xI {ps:List bm} {jl:List Int} (h:vQ ps jl) (x:bm):vQ (ps++[x]) jl:=by
 refine⟨λy hy=>?_,h.2⟩;obtain⟨j,e,i,h1,h2⟩:=h.1 y hy;have hl:=(qK.1 h1).1;exact⟨j,e,i,by rw [ZI hl];exact h1,h2⟩
theorem vQ.Nj {ps:List bm} {jl:List Int} (h:vQ ps jl) {x:bm} (h0:x.bR=0) (h3:x.op≠3):vQ (ps++[x]) (jl++[(ps.length:Int)]):=by
 have h1:=h.xI x;refine⟨λy hy=>?_,?_⟩;rcases qQ.1 hy with hy|hy;exact h1.1 y hy;rw [ZL] at hy;exact⟨ps.length,hy,x,by simp,h0,h3⟩;rw [List.nodup_append];refine⟨h.2,by simp,λa ha b hb=>?_⟩;rw [ZL] at hb;subst hb;obtain⟨j,e,i,g1,_⟩:=h.1 a ha;have hl:=(qK.1 g1).1;omega
theorem vQ.set {ps:List bm} {j:Nat} {jl:List Int} (h:vQ ps ((j:Int)::jl)) (y:bm):vQ (ps.set j y) jl:=by
 obtain⟨h1,h2⟩:=h;rw [List.nodup_cons] at h2;refine⟨λx hx=>?_,h2.2⟩;obtain⟨k,e,i,g1,g2⟩:=h1 x (List.mem_cons_of_mem _ hx);have gT:¬j=k:=λe2=>h2.1 (by rw [e2,<-e];exact hx);exact⟨k,e,i,by rw [List.getElem?_set_ne gT];exact g1,g2⟩
theorem vQ.head {ps:List bm} {j:Nat} {jl:List Int} (h:vQ ps ((j:Int)::jl)) (hj:j<ps.length):ps[j].bR=0/\ps[j].op≠3:=by
 obtain⟨k,e,i,g1,g2⟩:=h.1 _ List.mem_cons_self;have:j=k:=by omega
 subst this;rw [List.getElem?_eq_getElem hj] at g1;injection g1 with g1;rw [g1];exact g2
theorem JG.set {ps:List bm} (h:JG ps) {j:Nat} {y:bm} (hy:y.op≠3):JG (ps.set j y):=λx hx h3=>by
 rcases List.mem_or_eq_of_mem_set hx with h1|h1;exact h x h1 h3;subst h1;exact absurd h3 hy
theorem L6.setA {a b c r:Int} {o bR:Int} (ho:o=5\/o=6) (h:L6 ⟨o,a,b,c,bR⟩) (hr:0<=r/\r<4):L6 ⟨o,r,b,c,bR⟩:=by
 obtain⟨h1,h2,h3⟩:=h;refine⟨?_,h2,h3⟩;rcases ho with rfl|rfl;simp [cg,gJ,lW,ki,lV,fj] at h1 ⊢;omega;simp [cg,gJ,lW,ki,lV,fj] at h1 ⊢;omega
theorem Cj.v {b:Bool} {o:Int} (h:Cj b o):1<=o/\o<=17:=by
 rcases h with h|⟨_,h⟩|⟨_,h⟩<;>omega
def PgJ (A0:AW) (ol:Option Addr) (cl:Nat) (l:List Int) (me:Int) (heap plain:Bool) (i:Nat) (vp vj:Value) (b:Bool) (fr:Fr):Prop:=
 fr 0=.slice ol l.length cl/\fr 1=.int .i64 me/\fr 2=.bool heap/\fr 3=.bool plain/\fr 9=vp/\fr 10=.bool b/\fr 11=vj/\fr 12=.int .i64 i
set_option maxHeartbeats 16000000 in
theorem ox (hn:Gl.N=4) (vl:Value) (l:List Int) (me:Int) (heap plain:Bool) (A:AW) (h:cd A .i64 vl l) (hm:0<=me/\me<=1000) :
 aD qa 36 [vl,.int .i64 me,.bool heap,.bool plain] A (λu A'=>∃p:List bm,p.length<=1001/\dS A.next A' 5 u p.length (p.flatMap az)/\A.le A'/\A'.Wf/\(me<=64->(cG p).2=0)/\JG p):=by
 refine aN Tryz.func36 λhw=>?_;obtain⟨ol,cl,rfl,_⟩:=h.cy;have hws:qg.wrap (me-1)=me-1:=ar (by omega) (by omega);revert hw;refine W cF cF ?_<;>(unhygienic intros);refine ui (λfr A'=>∃(ps:List bm) (jl:List Int) (vp vj:Value) (b:Bool),ps.length<=1000/\jl.length<=1000/\fr 9=vp/\fr 10=.bool b/\fr 11=vj/\PJ A A' vp vj ps jl ps.length/\nH ps b/\vQ ps jl/\((ps.length:Int)<=me-1\/ps.length=0)) ?_ ?_
 rotate_left
 . rintro fr A' ⟨ps,jl,vp,vj,b,Qs,CK,g9,mh,kT,hJ,NI,HD,Tf⟩
   repeat' (first|(refine kY λR hR=>?_;simp [ar,ax,g9,mh,kT];try simp (disch:=omega) only [aA,aw,ar,ax])|(refine hR _ _ ?_;clear hR R)|(refine hK _ _ ?_;clear hK K)|refine nx ?_|refine wn λK hK=>?_|simp only [wS]|(refine haltc ?_)|(show c8 _ _ _ _ _ _;refine nx ?_)|(refine wc rfl (λhc=>?_) (λhc=>?_)<;>(try simp at hc)<;>(try omega))|(refine ib (λhc=>?_) (λhc=>?_)<;>(try omega)<;>(try simp (disch:=omega) only [aA,aw])))
   refine⟨?_⟩;refine LQ (λfr A'=>∃(ps:List bm) (vp:Value),ps.length<=1001/\fr 9=vp/\fr 11=vj/\PJ A A' vp vj ps jl ps.length/\(me<=64->(cG ps).2=0)/\vQ ps jl/\JG ps) ?_ ?_
   . cases b with
     | false=>
       refine W cF (J3 g9 mh kT) ?_<;>intros;exact⟨ps,vp,by omega,by simp [g9],by simp [kT],hJ,λhm6=>NI.ok (by omega),HD,NI.d8⟩
     | true=>
       obtain⟨FQ,A5,e5,QF⟩:=hJ.fz (by omega) ⟨8,0,0,0,0⟩;simp only [az] at e5;refine W cF (J4 g9 mh kT e5) ?_<;>intros;have hG8:nH (ps++[⟨8,0,0,0,0⟩]) false:=nH.xI (x:=⟨8,0,0,0,0⟩) NI ⟨by decide,by simp,by simp⟩ (by simp [Cj]);have Lm:ps.length=0->False:=λe=>by rw [List.eq_nil_of_length_eq_zero e] at NI;have:=NI.XZ.1;simp [bT] at this
       exact⟨ps++[⟨8,0,0,0,0⟩],FQ,by simp;omega,by simp,by simp [kT],QF.mono (by simp),λhm6=>hG8.ok (by rw [qm,q8];rcases Tf with h1|h1<;>first|omega|exact absurd h1 Lm),HD.xI ⟨8,0,0,0,0⟩,λx hx h3=>hG8.d8 x hx h3⟩
   clear hJ g9 mh kT NI HD Tf;rintro fr A' ⟨ps,vp,Qs,g9,kT,hJ,hV,HD,hAl⟩;obtain⟨oj,cj,hvj,_⟩:=hJ.Er.is.cy;obtain⟨op,cp,uU,_⟩:=hJ.own.is.cy;subst uU;subst hvj;generalize CI:ps.length=nl at g9 hJ Qs;revert hw;(repeat first|clear hw|revert hc|revert R|revert K);refine W cF (J2 g9 kT) ?_<;>(unhygienic intros);refine ef (λk fr A'=>∃(i:Nat) (ps:List bm),k=jl.length-i/\i<=jl.length/\ps.length=nl/\fr 9=.slice op nl cp/\fr 11=.slice oj jl.length cj/\fr 17=.int .i64 i/\PJ A A' (.slice op nl cp) (.slice oj jl.length cj) ps jl nl/\(me<=64->(cG ps).2=0)/\vQ ps (jl.drop i)/\JG ps) jl.length ?_ ?_;exact⟨0,ps,rfl,qG _,CI,by simp [g9],by simp [kT],by simp,hJ,hV,HD,hAl⟩;clear CI hJ g9 kT hV HD hAl;rintro k fr A' ⟨i,ps,rfl,hi,CI,g9,kT,Lx,hJ,hV,HD,hAl⟩;by_cases cD:i<jl.length;obtain⟨q,b8,xO,bV,hcell⟩:=hJ.Er.is.at cD;subst xO;obtain⟨hr0,O5⟩:=hJ.range jl[i] (List.getElem_mem cD);obtain⟨j,hj⟩:∃j:Nat,jl[i]=(j:Int):=⟨jl[i].toNat,by omega⟩
   rw [hj] at hcell O5;have hjn:j<nl:=(by omega);rw [List.drop_eq_getElem_cons cD,hj] at HD;obtain⟨hz0,hz3⟩:=HD.head (show j<ps.length by omega);have gS:=By (i:=i);have VF:∃pa,op=some pa:=by
    rcases hJ.own with ⟨e,e2,_⟩|⟨p,c,b8,e,_⟩;omega;injection e with e _ _;exact⟨p,e⟩
   obtain⟨pa,rfl⟩:=VF;obtain⟨A1,e1,hJ1⟩:=hJ.R1 1 CI.symm (show j<ps.length by omega);have hal1:JG (ps.set j { ps[j] with bR:=1 }):=hAl.set hz3;have hjl1:=HD.set { ps[j] with bR:=1 };have hjl0:=HD.set ps[j];rw [kao] at hjl0;obtain⟨Ux,YN⟩:∃Ux,ps.set j { ps[j] with bR:=1 }=Ux:=⟨_,rfl⟩;have Xo:∀h:j<Ux.length,Ux.set j { Ux[j] with bR:=0 }=ps:=by
    subst YN;intro h;rw [List.set_set,List.getElem_set_self];have e:({ ({ ps[j] with bR:=1 }:bm) with bR:=0 }:bm)=ps[j]:=by
     generalize ps[j]=y at hz0;obtain⟨y1,y2,y3,y4,y5⟩:=y;dsimp only at hz0;subst hz0;rfl
    rw [e,kao]
   rw [YN] at hJ1 hal1 hjl1;have YQ:Ux.length=nl:=(by rw [<-YN,List.length_set,CI]);have cC:=Gr hn (.slice (some pa) nl cp) Ux A1 (by have:=hJ1.own.is;unfold ly;rw [YQ] at this ⊢;exact this);unfold oQ at cC;obtain⟨q2,row2,O7,yl,Tp⟩:=hJ1.Er.is.at cD;injection O7 with O7;subst O7;rw [hj] at Tp;have dy:jl.length-i=(jl.length-(i+1))+1:=(by omega);by_cases z:(lZ Ux).2=0;refine ba ?_;refine W (J1 @cC) (DM g9 kT Lx cD gS bV hcell hjn e1 z) ?_<;>intros;exact⟨jl.length-(i+1),by omega,i+1,Ux,rfl,by omega,YQ,by simp [g9],by simp [kT],by simp,hJ1,λ_=>by rw [<-TX];exact z,hjl1,hal1⟩;obtain⟨A2,e2,Rn⟩:=hJ1.R1 0 YQ.symm (show j<Ux.length by omega);refine ba ?_;refine W (J1 @cC) (mB g9 kT Lx cD gS bV hcell yl Tp hjn e1 e2 z) ?_<;>intros;rw [Xo] at Rn;exact⟨jl.length-(i+1),by omega,i+1,ps,rfl,by omega,CI,by simp [g9],by simp [kT],by simp,Rn,hV,hjl0,hAl⟩;refine ba ?_;refine W cF (J4 g9 kT Lx cD) ?_<;>intros
   refine⟨_,rfl,ps,by omega,?_,hJ.le,hJ.wf,hV,hAl⟩;have:=hJ.own;rw [CI] at this ⊢;exact this
 refine ef (λk fr A'=>∃(i:Nat) (ps:List bm) (jl:List Int) (vp vj:Value) (b:Bool),k=l.length-i/\i<=l.length/\i<=1000/\ps.length=i/\jl.length<=i/\PgJ A ol cl l me heap plain i vp vj b fr/\PJ A A' vp vj ps jl ps.length/\nH ps b/\vQ ps jl/\((ps.length:Int)<=me-1\/ps.length=0)) l.length ?_ ?_;exact⟨0,[],[],_,_,false,rfl,qG _,qG _,rfl,qG _,⟨rfl,rfl,rfl,rfl,rfl,rfl,rfl,rfl⟩,⟨dS.nil _ _ _,fk.nil _ _ _,by simp,by simp [fu],qi A,hw⟩,.nil,vQ.nil _,.inr rfl⟩;rintro k fr A' ⟨i,ps,jl,vp,vj,b,rfl,hi,hi9,Qs,CK,⟨g0,g1,g2,g3,g9,mh,kT,rp⟩,hJ,NI,HD,Tf⟩;obtain⟨op,cp,uU,hcp⟩:=hJ.own.is.cy;have hvp0:=uU;by_cases cD:i<l.length
 . by_cases oP:(ps.length:Int)<me-1
   . obtain⟨q,b8,xO,bV,hcell⟩:=(h.le hJ.le hw).at cD;subst xO;obtain⟨nn,YP⟩:∃nn:Nat,qd.wrap l[i]=(nn:Int):=⟨(qd.wrap l[i]).toNat,by
      simp only [IntKind.wrap,IntKind.bits,kaK,Bool.false_and,qt,if_false];omega⟩
     have hnn2:(nn:Int)<18446744073709551616:=by
      rw [<-YP];simp only [IntKind.wrap,IntKind.bits,kaK,Bool.false_and,qt,if_false];omega
     obtain⟨kd,vD⟩:∃kd,qg.wrap ((nn:Int).tmod 16)=kd:=⟨_,rfl⟩;have hkd0:0<=kd/\kd<16:=by
      rw [<-vD,qU (by omega),ar (by omega) (by omega)];omega
     obtain⟨n1,ER⟩:∃n1:Nat,(nn:Int) / 16=(n1:Int):=⟨nn / 16,by omega⟩;have hn12:(n1:Int)<18446744073709551616:=(by omega);have gS:=By (i:=i);have dy:l.length-i=(l.length-(i+1))+1:=(by omega);refine ba ?_
     repeat' (first|(refine halt2 ?_)|(refine kY λR hR=>?_;simp [ar,ax,g0,g1,g2,g3,g9,mh,kT,rp,uU,cD,oP,hws,bV,hcell,YP,vD,ER];try simp (disch:=omega) only [aA,aw,ar,ax])|(refine hR _ _ ?_;clear hR R)|(refine hK _ _ ?_;clear hK K)|refine nx ?_|refine wn λK hK=>?_|simp only [wS]|(show c8 _ _ _ _ _ _;refine nx ?_)|(refine wc rfl (λhc=>?_) (λhc=>?_)<;>(try simp at hc)<;>(try omega))|(refine ib (λhc=>?_) (λhc=>?_)<;>(try omega)<;>(try simp (disch:=omega) only [aA,aw])))
     refine⟨?_⟩;refine LQ (λUH A2=>∃(o:Int) (n2:Nat),(n2:Int)<18446744073709551616/\UH 15=.int .i64 o/\UH 13=.int .u64 n2/\PgJ A (some q) cl l me heap plain i vp vj b UH/\A'.le A2/\A2.Wf/\Cj b o) ?_ ?_
     . have Rj:(n1:Int).tmod 3=((n1 % 3:Nat):Int):=(by rw [qU (by omega)];omega);have S8:(n1:Int).tmod 5=((n1 % 5:Nat):Int):=(by rw [qU (by omega)];omega);obtain⟨n3,Xl⟩:∃n3:Nat,(n1:Int) / 3=(n3:Int):=⟨n1 / 3,by omega⟩;obtain⟨n5,Rm⟩:∃n5:Nat,(n1:Int) / 5=(n5:Int):=⟨n1 / 5,by omega⟩;have hr3:n1 % 3=0\/n1 % 3=1\/n1 % 3=2:=(by omega);have hr5:n1 % 5=0\/n1 % 5=1\/n1 % 5=2\/n1 % 5=3\/n1 % 5=4:=(by omega);have YE:(n3:Int)<18446744073709551616:=(by omega);have hv5:(n5:Int)<18446744073709551616:=(by omega);by_cases k1:kd<2
       . rcases hr3 with hr|hr|hr<;>rw [hr] at Rj
         . skip
           refine W cF (xY g0 g1 g2 g3 g9 mh kT rp uU vD k1 Rj Xl @AW.ab) ?_<;>intros
           all_goals(refine ⟨_,_,?_,rfl,rfl,⟨by simp [g0],by simp [g1],by simp [g2],by simp [g3],by simp [g9],by simp [mh],by simp [kT],by simp [rp]⟩,?_,?_,?_⟩<;>first|exact qi _|exact qb _ _|exact hJ.wf|exact hJ.wf.alloc _|omega|(simp [Cj];done))
         . skip
           refine W cF (xY g0 g1 g2 g3 g9 mh kT rp uU vD k1 Rj Xl @AW.ab) ?_<;>intros
           all_goals(refine ⟨_,_,?_,rfl,rfl,⟨by simp [g0],by simp [g1],by simp [g2],by simp [g3],by simp [g9],by simp [mh],by simp [kT],by simp [rp]⟩,?_,?_,?_⟩<;>first|exact qi _|exact qb _ _|exact hJ.wf|exact hJ.wf.alloc _|omega|(simp [Cj];done))
         skip
         refine W cF (xY g0 g1 g2 g3 g9 mh kT rp uU vD k1 Rj Xl @AW.ab) ?_<;>intros
         all_goals(refine ⟨_,_,?_,rfl,rfl,⟨by simp [g0],by simp [g1],by simp [g2],by simp [g3],by simp [g9],by simp [mh],by simp [kT],by simp [rp]⟩,?_,?_,?_⟩<;>first|exact qi _|exact qb _ _|exact hJ.wf|exact hJ.wf.alloc _|omega|(simp [Cj];done))
       by_cases k2:kd=2/\0<ps.length
       . obtain⟨k2,k3⟩:=k2;subst k2;rcases hr3 with hr|hr|hr<;>rw [hr] at Rj
         . skip
           refine W cF (xY g0 g1 g2 g3 g9 mh kT rp uU vD k3 Rj Xl @AW.ab) ?_<;>intros
           all_goals(refine ⟨_,_,?_,rfl,rfl,⟨by simp [g0],by simp [g1],by simp [g2],by simp [g3],by simp [g9],by simp [mh],by simp [kT],by simp [rp]⟩,?_,?_,?_⟩<;>first|exact qi _|exact qb _ _|exact hJ.wf|exact hJ.wf.alloc _|omega|(simp [Cj];done))
         . skip
           refine W cF (xY g0 g1 g2 g3 g9 mh kT rp uU vD k3 Rj Xl @AW.ab) ?_<;>intros
           all_goals(refine ⟨_,_,?_,rfl,rfl,⟨by simp [g0],by simp [g1],by simp [g2],by simp [g3],by simp [g9],by simp [mh],by simp [kT],by simp [rp]⟩,?_,?_,?_⟩<;>first|exact qi _|exact qb _ _|exact hJ.wf|exact hJ.wf.alloc _|omega|(simp [Cj];done))
         skip
         refine W cF (xY g0 g1 g2 g3 g9 mh kT rp uU vD k3 Rj Xl @AW.ab) ?_<;>intros
         all_goals(refine ⟨_,_,?_,rfl,rfl,⟨by simp [g0],by simp [g1],by simp [g2],by simp [g3],by simp [g9],by simp [mh],by simp [kT],by simp [rp]⟩,?_,?_,?_⟩<;>first|exact qi _|exact qb _ _|exact hJ.wf|exact hJ.wf.alloc _|omega|(simp [Cj];done))
       have k3:kd=2->¬0<ps.length:=λh1 h2=>k2 ⟨h1,h2⟩;clear k2;cases b with
       | false=>
         cases plain with
         | true=>
           by_cases k4:kd<7
           . rcases hr5 with hr|hr|hr|hr|hr<;>rw [hr] at S8
             . by_cases k5:kd=2
               . have k6:=k3 k5;subst k5;refine W cF (xY g0 g1 g2 g3 g9 mh kT rp uU vD k6 S8 Rm @AW.ab) ?_<;>intros
                 all_goals(refine ⟨_,_,?_,rfl,rfl,⟨by simp [g0],by simp [g1],by simp [g2],by simp [g3],by simp [g9],by simp [mh],by simp [kT],by simp [rp]⟩,?_,?_,?_⟩<;>first|exact qi _|exact qb _ _|exact hJ.wf|exact hJ.wf.alloc _|omega|(simp [Cj];done))
               skip
               refine W cF (Mh g0 g1 g2 g3 g9 mh kT rp uU vD k1 k4 k5 S8 Rm @AW.ab) ?_<;>intros
               all_goals(refine ⟨_,_,?_,rfl,rfl,⟨by simp [g0],by simp [g1],by simp [g2],by simp [g3],by simp [g9],by simp [mh],by simp [kT],by simp [rp]⟩,?_,?_,?_⟩<;>first|exact qi _|exact qb _ _|exact hJ.wf|exact hJ.wf.alloc _|omega|(simp [Cj];done))
             . by_cases k5:kd=2
               . have k6:=k3 k5;subst k5;refine W cF (xY g0 g1 g2 g3 g9 mh kT rp uU vD k6 S8 Rm @AW.ab) ?_<;>intros
                 all_goals(refine ⟨_,_,?_,rfl,rfl,⟨by simp [g0],by simp [g1],by simp [g2],by simp [g3],by simp [g9],by simp [mh],by simp [kT],by simp [rp]⟩,?_,?_,?_⟩<;>first|exact qi _|exact qb _ _|exact hJ.wf|exact hJ.wf.alloc _|omega|(simp [Cj];done))
               skip
               refine W cF (Mh g0 g1 g2 g3 g9 mh kT rp uU vD k1 k4 k5 S8 Rm @AW.ab) ?_<;>intros
               all_goals(refine ⟨_,_,?_,rfl,rfl,⟨by simp [g0],by simp [g1],by simp [g2],by simp [g3],by simp [g9],by simp [mh],by simp [kT],by simp [rp]⟩,?_,?_,?_⟩<;>first|exact qi _|exact qb _ _|exact hJ.wf|exact hJ.wf.alloc _|omega|(simp [Cj];done))
             . by_cases k5:kd=2
               . have k6:=k3 k5;subst k5;refine W cF (xY g0 g1 g2 g3 g9 mh kT rp uU vD k6 S8 Rm @AW.ab) ?_<;>intros
                 all_goals(refine ⟨_,_,?_,rfl,rfl,⟨by simp [g0],by simp [g1],by simp [g2],by simp [g3],by simp [g9],by simp [mh],by simp [kT],by simp [rp]⟩,?_,?_,?_⟩<;>first|exact qi _|exact qb _ _|exact hJ.wf|exact hJ.wf.alloc _|omega|(simp [Cj];done))
               skip
               refine W cF (Mh g0 g1 g2 g3 g9 mh kT rp uU vD k1 k4 k5 S8 Rm @AW.ab) ?_<;>intros
               all_goals(refine ⟨_,_,?_,rfl,rfl,⟨by simp [g0],by simp [g1],by simp [g2],by simp [g3],by simp [g9],by simp [mh],by simp [kT],by simp [rp]⟩,?_,?_,?_⟩<;>first|exact qi _|exact qb _ _|exact hJ.wf|exact hJ.wf.alloc _|omega|(simp [Cj];done))
             . by_cases k5:kd=2
               . have k6:=k3 k5;subst k5;refine W cF (xY g0 g1 g2 g3 g9 mh kT rp uU vD k6 S8 Rm @AW.ab) ?_<;>intros
                 all_goals(refine ⟨_,_,?_,rfl,rfl,⟨by simp [g0],by simp [g1],by simp [g2],by simp [g3],by simp [g9],by simp [mh],by simp [kT],by simp [rp]⟩,?_,?_,?_⟩<;>first|exact qi _|exact qb _ _|exact hJ.wf|exact hJ.wf.alloc _|omega|(simp [Cj];done))
               skip
               refine W cF (Mh g0 g1 g2 g3 g9 mh kT rp uU vD k1 k4 k5 S8 Rm @AW.ab) ?_<;>intros
               all_goals(refine ⟨_,_,?_,rfl,rfl,⟨by simp [g0],by simp [g1],by simp [g2],by simp [g3],by simp [g9],by simp [mh],by simp [kT],by simp [rp]⟩,?_,?_,?_⟩<;>first|exact qi _|exact qb _ _|exact hJ.wf|exact hJ.wf.alloc _|omega|(simp [Cj];done))
             by_cases k5:kd=2
             . have k6:=k3 k5;subst k5;refine W cF (xY g0 g1 g2 g3 g9 mh kT rp uU vD k6 S8 Rm @AW.ab) ?_<;>intros
               all_goals(refine ⟨_,_,?_,rfl,rfl,⟨by simp [g0],by simp [g1],by simp [g2],by simp [g3],by simp [g9],by simp [mh],by simp [kT],by simp [rp]⟩,?_,?_,?_⟩<;>first|exact qi _|exact qb _ _|exact hJ.wf|exact hJ.wf.alloc _|omega|(simp [Cj];done))
             skip
             refine W cF (Mh g0 g1 g2 g3 g9 mh kT rp uU vD k1 k4 k5 S8 Rm @AW.ab) ?_<;>intros
             all_goals(refine ⟨_,_,?_,rfl,rfl,⟨by simp [g0],by simp [g1],by simp [g2],by simp [g3],by simp [g9],by simp [mh],by simp [kT],by simp [rp]⟩,?_,?_,?_⟩<;>first|exact qi _|exact qb _ _|exact hJ.wf|exact hJ.wf.alloc _|omega|(simp [Cj];done))
           have k5:¬kd=2:=(by omega);refine W cF (xY g0 g1 g2 g3 g9 mh kT rp uU vD k1 k4 k5 @AW.ab) (J2 ?_ ?_)<;>intros
           all_goals(refine ⟨_,_,?_,rfl,rfl,⟨by simp [g0],by simp [g1],by simp [g2],by simp [g3],by simp [g9],by simp [mh],by simp [kT],by simp [rp]⟩,?_,?_,?_⟩<;>first|exact qi _|exact qb _ _|exact hJ.wf|exact hJ.wf.alloc _|omega|(simp [Cj];done))
         | false=>
           by_cases k5:kd=2
           . have k6:=k3 k5;subst k5;refine W cF (xe g0 g1 g2 g3 g9 mh kT rp uU vD k6 @AW.ab) ?_<;>intros
             all_goals(refine ⟨_,_,?_,rfl,rfl,⟨by simp [g0],by simp [g1],by simp [g2],by simp [g3],by simp [g9],by simp [mh],by simp [kT],by simp [rp]⟩,?_,?_,?_⟩<;>first|exact qi _|exact qb _ _|exact hJ.wf|exact hJ.wf.alloc _|omega|(simp [Cj];done))
           skip
           refine W cF (mB g0 g1 g2 g3 g9 mh kT rp uU vD k1 k5 @AW.ab) (J3 ?_ ?_ ?_)<;>intros
           all_goals(refine ⟨_,_,?_,rfl,rfl,⟨by simp [g0],by simp [g1],by simp [g2],by simp [g3],by simp [g9],by simp [mh],by simp [kT],by simp [rp]⟩,?_,?_,?_⟩<;>first|exact qi _|exact qb _ _|exact hJ.wf|exact hJ.wf.alloc _|omega|(simp [Cj];done))
       | true=>
         have hm4:(n1:Int).tmod 4=((n1 % 4:Nat):Int):=(by rw [qU (by omega)];omega);by_cases k5:kd=2
         . have k6:=k3 k5;subst k5;refine W cF (xe g0 g1 g2 g3 g9 mh kT rp uU vD k6 @AW.ab) ?_<;>intros
           all_goals(refine ⟨_,_,?_,rfl,rfl,⟨by simp [g0],by simp [g1],by simp [g2],by simp [g3],by simp [g9],by simp [mh],by simp [kT],by simp [rp]⟩,?_,?_,?_⟩<;>first|exact qi _|exact qb _ _|exact hJ.wf|exact hJ.wf.alloc _|omega|(simp [Cj];done))
         skip
         refine W cF (xY g0 g1 g2 g3 g9 mh kT rp uU vD k1 k5 hm4 @AW.ab) (J9 ?_ ?_ ?_ ?_ ?_ ?_ ?_ ?_ ?_)<;>intros
         all_goals(refine ⟨_,_,?_,rfl,rfl,⟨by simp [g0],by simp [g1],by simp [g2],by simp [g3],by simp [g9],by simp [mh],by simp [kT],by simp [rp]⟩,?_,?_,?_⟩<;>first|exact qi _|exact qb _ _|exact hJ.wf|exact hJ.wf.alloc _|omega|(simp [Cj];done))
     rintro UH A2 ⟨o,n2,AK,f15,f13,⟨f0,f1,f2,f3,f9,Rs,Rr,Rq⟩,VJ,kc,hOp⟩;clear YP hnn2 vD hkd0 ER hn12 bV hcell;subst uU;obtain⟨x,hx,hIG0,cI⟩:=IP o n2 AK;have Rn:=hJ.grow VJ kc;obtain⟨ra,Md⟩:∃ra,qg.wrap ((n2:Int).tmod 4)=ra:=⟨_,rfl⟩;have hra0:0<=ra/\ra<4:=(by rw [<-Md,qU (by omega),ar (by omega) (by omega)];omega);obtain⟨xo,xa,xb,xc,xi⟩:=x;simp only at hx;subst hx;simp only [az] at cI;have VX:=hIG0 hOp.v;clear hIG0;have hz:∀O O',((A2.alloc O).set A2.next O').Wf:=λO O'=>(kc.alloc O).set _ (by simp);by_cases o5:xo=5
     . subst o5;obtain⟨A3,Ls⟩:∃A3,((A2.alloc (.cells [.int .i64 0,.int .i64 0,.int .i64 0,.int .i64 0,.int .i64 0] true 1)).set A2.next (some (.cells [.int .i64 5,.int .i64 xa,.int .i64 xb,.int .i64 xc,.int .i64 xi] true 1))).set A2.next (some (.cells [.int .i64 5,.int .i64 ra,.int .i64 xb,.int .i64 xc,.int .i64 xi] true 1))=A3:=⟨_,rfl⟩;have wH:(A2.alloc (.cells [.int .i64 0,.int .i64 0,.int .i64 0,.int .i64 0,.int .i64 0] true 1)).set A2.next (some (.cells [.int .i64 5,.int .i64 ra,.int .i64 xb,.int .i64 xc,.int .i64 xi] true 1))=A3:=(by rw [<-Ls,AW.set_set]);have TA:PJ A A3 (.slice op ps.length cp) vj ps jl ps.length:=(by rw [<-wH];exact Rn.grow (AW.le.lP A2 _ _) (hz _ _));have vW:A3.bp A2.next=some (.cells [.int .i64 5,.int .i64 ra,.int .i64 xb,.int .i64 xc,.int .i64 xi] true 1):=(by rw [<-wH];simp);obtain⟨Uv,A4,e4,hJ4,yq,-⟩:=TA.Nj (by omega) vW (Rn.ne (qf _));obtain⟨FQ,A5,e5,QF⟩:=hJ4.fz (by omega) ⟨5,ra,xb,xc,xi⟩
       simp only [az] at e5
       repeat' (first|(refine kY λR hR=>?_;simp [ar,ax,f0,f1,f2,f3,f9,Rs,Rr,Rq,f13,f15,Md,gS,AW.ab,aG,Ls,vW,e4,yq,e5,ite_self];try simp (disch:=omega) only [aA,aw,ar,ax])|(refine hR _ _ ?_;clear hR R)|(refine hK _ _ ?_;clear hK K)|refine nx ?_|refine wn λK hK=>?_|simp only [wS]|(refine bO (cI _) ?_;rintro _ _ ⟨rfl,rfl⟩ _ _)|(show c8 _ _ _ _ _ _;refine nx ?_)|(refine wc rfl (λhc=>?_) (λhc=>?_)<;>(try simp at hc)<;>(try omega))|(refine ib (λhc=>?_) (λhc=>?_)<;>(try omega)<;>(try simp (disch:=omega) only [aA,aw])))
       refine⟨l.length-(i+1),by omega,i+1,ps++[⟨5,ra,xb,xc,xi⟩],(jl++[(ps.length:Int)]),FQ,Uv,b,rfl,by omega,by omega,by simp [Qs],by first|omega|(simp;omega),⟨?_,?_,?_,?_,?_,?_,?_,?_⟩,?_,?_,?_,.inl (by rw [qm,q8];omega)⟩
       iterate 8 simp [f0,f1,f2,f3,f9,Rs,Rr,Rq]
       exact QF.mono (by simp);exact nH.xI (x:=⟨5,ra,xb,xc,xi⟩) NI (L6.setA (by omega) VX hra0) hOp;exact HD.Nj (x:=⟨5,ra,xb,xc,xi⟩) (VX.j (by simp)) (by simp)
     by_cases o6:xo=6
     . subst o6;obtain⟨A3,Ls⟩:∃A3,((A2.alloc (.cells [.int .i64 0,.int .i64 0,.int .i64 0,.int .i64 0,.int .i64 0] true 1)).set A2.next (some (.cells [.int .i64 6,.int .i64 xa,.int .i64 xb,.int .i64 xc,.int .i64 xi] true 1))).set A2.next (some (.cells [.int .i64 6,.int .i64 ra,.int .i64 xb,.int .i64 xc,.int .i64 xi] true 1))=A3:=⟨_,rfl⟩;have wH:(A2.alloc (.cells [.int .i64 0,.int .i64 0,.int .i64 0,.int .i64 0,.int .i64 0] true 1)).set A2.next (some (.cells [.int .i64 6,.int .i64 ra,.int .i64 xb,.int .i64 xc,.int .i64 xi] true 1))=A3:=(by rw [<-Ls,AW.set_set]);have TA:PJ A A3 (.slice op ps.length cp) vj ps jl ps.length:=(by rw [<-wH];exact Rn.grow (AW.le.lP A2 _ _) (hz _ _));have vW:A3.bp A2.next=some (.cells [.int .i64 6,.int .i64 ra,.int .i64 xb,.int .i64 xc,.int .i64 xi] true 1):=(by rw [<-wH];simp);obtain⟨Uv,A4,e4,hJ4,yq,-⟩:=TA.Nj (by omega) vW (Rn.ne (qf _));obtain⟨FQ,A5,e5,QF⟩:=hJ4.fz (by omega) ⟨6,ra,xb,xc,xi⟩
       simp only [az] at e5
       repeat' (first|(refine kY λR hR=>?_;simp [ar,ax,f0,f1,f2,f3,f9,Rs,Rr,Rq,f13,f15,Md,gS,AW.ab,aG,Ls,vW,e4,yq,e5,o5,ite_self];try simp (disch:=omega) only [aA,aw,ar,ax])|(refine hR _ _ ?_;clear hR R)|(refine hK _ _ ?_;clear hK K)|refine nx ?_|refine wn λK hK=>?_|simp only [wS]|(refine bO (cI _) ?_;rintro _ _ ⟨rfl,rfl⟩ _ _)|(show c8 _ _ _ _ _ _;refine nx ?_)|(refine wc rfl (λhc=>?_) (λhc=>?_)<;>(try simp at hc)<;>(try omega))|(refine ib (λhc=>?_) (λhc=>?_)<;>(try omega)<;>(try simp (disch:=omega) only [aA,aw])))
       refine⟨l.length-(i+1),by omega,i+1,ps++[⟨6,ra,xb,xc,xi⟩],(jl++[(ps.length:Int)]),FQ,Uv,b,rfl,by omega,by omega,by simp [Qs],by first|omega|(simp;omega),⟨?_,?_,?_,?_,?_,?_,?_,?_⟩,?_,?_,?_,.inl (by rw [qm,q8];omega)⟩
       iterate 8 simp [f0,f1,f2,f3,f9,Rs,Rr,Rq]
       exact QF.mono (by simp);exact nH.xI (x:=⟨6,ra,xb,xc,xi⟩) NI (L6.setA (by omega) VX hra0) hOp;exact HD.Nj (x:=⟨6,ra,xb,xc,xi⟩) (VX.j (by simp)) (by simp)
     by_cases o4:xo=4
     . subst o4;obtain⟨A3,Ls⟩:∃A3,(A2.alloc (.cells [.int .i64 0,.int .i64 0,.int .i64 0,.int .i64 0,.int .i64 0] true 1)).set A2.next (some (.cells [.int .i64 4,.int .i64 xa,.int .i64 xb,.int .i64 xc,.int .i64 xi] true 1))=A3:=⟨_,rfl⟩;have wH:=Ls;have TA:PJ A A3 (.slice op ps.length cp) vj ps jl ps.length:=(by rw [<-wH];exact Rn.grow (AW.le.lP A2 _ _) (hz _ _));have vW:A3.bp A2.next=some (.cells [.int .i64 4,.int .i64 xa,.int .i64 xb,.int .i64 xc,.int .i64 xi] true 1):=(by rw [<-wH];simp);obtain⟨Uv,A4,e4,hJ4,yq,-⟩:=TA.Nj (by omega) vW (Rn.ne (qf _));obtain⟨FQ,A5,e5,QF⟩:=hJ4.fz (by omega) ⟨4,xa,xb,xc,xi⟩;simp only [az] at e5
       repeat' (first|(refine kY λR hR=>?_;simp [ar,ax,f0,f1,f2,f3,f9,Rs,Rr,Rq,f13,f15,Md,gS,AW.ab,aG,Ls,vW,e4,yq,e5,o5,o6,ite_self];try simp (disch:=omega) only [aA,aw,ar,ax])|(refine hR _ _ ?_;clear hR R)|(refine hK _ _ ?_;clear hK K)|refine nx ?_|refine wn λK hK=>?_|simp only [wS]|(refine bO (cI _) ?_;rintro _ _ ⟨rfl,rfl⟩ _ _)|(show c8 _ _ _ _ _ _;refine nx ?_)|(refine wc rfl (λhc=>?_) (λhc=>?_)<;>(try simp at hc)<;>(try omega))|(refine ib (λhc=>?_) (λhc=>?_)<;>(try omega)<;>(try simp (disch:=omega) only [aA,aw])))
       refine⟨l.length-(i+1),by omega,i+1,ps++[⟨4,xa,xb,xc,xi⟩],(jl++[(ps.length:Int)]),FQ,Uv,b,rfl,by omega,by omega,by simp [Qs],by first|omega|(simp;omega),⟨?_,?_,?_,?_,?_,?_,?_,?_⟩,?_,?_,?_,.inl (by rw [qm,q8];omega)⟩
       iterate 8 simp [f0,f1,f2,f3,f9,Rs,Rr,Rq]
       exact QF.mono (by simp);exact nH.xI (x:=⟨4,xa,xb,xc,xi⟩) NI (VX) hOp;exact HD.Nj (x:=⟨4,xa,xb,xc,xi⟩) (VX.j (by simp)) (by simp)
     by_cases o7:xo=7
     . subst o7;obtain⟨A3,Ls⟩:∃A3,(A2.alloc (.cells [.int .i64 0,.int .i64 0,.int .i64 0,.int .i64 0,.int .i64 0] true 1)).set A2.next (some (.cells [.int .i64 7,.int .i64 xa,.int .i64 xb,.int .i64 xc,.int .i64 xi] true 1))=A3:=⟨_,rfl⟩;have wH:=Ls;have TA:PJ A A3 (.slice op ps.length cp) vj ps jl ps.length:=(by rw [<-wH];exact Rn.grow (AW.le.lP A2 _ _) (hz _ _));have vW:A3.bp A2.next=some (.cells [.int .i64 7,.int .i64 xa,.int .i64 xb,.int .i64 xc,.int .i64 xi] true 1):=(by rw [<-wH];simp);obtain⟨FQ,A5,e5,QF⟩:=TA.fz (by omega) ⟨7,xa,xb,xc,xi⟩;simp only [az] at e5
       repeat' (first|(refine kY λR hR=>?_;simp [ar,ax,f0,f1,f2,f3,f9,Rs,Rr,Rq,f13,f15,Md,gS,AW.ab,aG,Ls,vW,e5,o5,o6,o4,ite_self];try simp (disch:=omega) only [aA,aw,ar,ax])|(refine hR _ _ ?_;clear hR R)|(refine hK _ _ ?_;clear hK K)|refine nx ?_|refine wn λK hK=>?_|simp only [wS]|(refine bO (cI _) ?_;rintro _ _ ⟨rfl,rfl⟩ _ _)|(show c8 _ _ _ _ _ _;refine nx ?_)|(refine wc rfl (λhc=>?_) (λhc=>?_)<;>(try simp at hc)<;>(try omega))|(refine ib (λhc=>?_) (λhc=>?_)<;>(try omega)<;>(try simp (disch:=omega) only [aA,aw])))
       refine⟨l.length-(i+1),by omega,i+1,ps++[⟨7,xa,xb,xc,xi⟩],jl,FQ,vj,true,rfl,by omega,by omega,by simp [Qs],by first|omega|(simp;omega),⟨?_,?_,?_,?_,?_,?_,?_,?_⟩,?_,?_,?_,.inl (by rw [qm,q8];omega)⟩
       iterate 8 simp [f0,f1,f2,f3,f9,Rs,Rr,Rq]
       exact QF.mono (by simp);exact nH.xI (x:=⟨7,xa,xb,xc,xi⟩) NI (VX) hOp;exact HD.xI _
     by_cases o8:xo=8
     . subst o8;obtain⟨A3,Ls⟩:∃A3,(A2.alloc (.cells [.int .i64 0,.int .i64 0,.int .i64 0,.int .i64 0,.int .i64 0] true 1)).set A2.next (some (.cells [.int .i64 8,.int .i64 xa,.int .i64 xb,.int .i64 xc,.int .i64 xi] true 1))=A3:=⟨_,rfl⟩;have wH:=Ls;have TA:PJ A A3 (.slice op ps.length cp) vj ps jl ps.length:=(by rw [<-wH];exact Rn.grow (AW.le.lP A2 _ _) (hz _ _));have vW:A3.bp A2.next=some (.cells [.int .i64 8,.int .i64 xa,.int .i64 xb,.int .i64 xc,.int .i64 xi] true 1):=(by rw [<-wH];simp);obtain⟨FQ,A5,e5,QF⟩:=TA.fz (by omega) ⟨8,xa,xb,xc,xi⟩;simp only [az] at e5
       repeat' (first|(refine kY λR hR=>?_;simp [ar,ax,f0,f1,f2,f3,f9,Rs,Rr,Rq,f13,f15,Md,gS,AW.ab,aG,Ls,vW,e5,o5,o6,o4,o7,ite_self];try simp (disch:=omega) only [aA,aw,ar,ax])|(refine hR _ _ ?_;clear hR R)|(refine hK _ _ ?_;clear hK K)|refine nx ?_|refine wn λK hK=>?_|simp only [wS]|(refine bO (cI _) ?_;rintro _ _ ⟨rfl,rfl⟩ _ _)|(show c8 _ _ _ _ _ _;refine nx ?_)|(refine wc rfl (λhc=>?_) (λhc=>?_)<;>(try simp at hc)<;>(try omega))|(refine ib (λhc=>?_) (λhc=>?_)<;>(try omega)<;>(try simp (disch:=omega) only [aA,aw])))
       refine⟨l.length-(i+1),by omega,i+1,ps++[⟨8,xa,xb,xc,xi⟩],jl,FQ,vj,false,rfl,by omega,by omega,by simp [Qs],by first|omega|(simp;omega),⟨?_,?_,?_,?_,?_,?_,?_,?_⟩,?_,?_,?_,.inl (by rw [qm,q8];omega)⟩
       iterate 8 simp [f0,f1,f2,f3,f9,Rs,Rr,Rq]
       exact QF.mono (by simp);exact nH.xI (x:=⟨8,xa,xb,xc,xi⟩) NI (VX) hOp;exact HD.xI _
     obtain⟨A3,Ls⟩:∃A3,(A2.alloc (.cells [.int .i64 0,.int .i64 0,.int .i64 0,.int .i64 0,.int .i64 0] true 1)).set A2.next (some (.cells [.int .i64 xo,.int .i64 xa,.int .i64 xb,.int .i64 xc,.int .i64 xi] true 1))=A3:=⟨_,rfl⟩;have wH:=Ls;have TA:PJ A A3 (.slice op ps.length cp) vj ps jl ps.length:=(by rw [<-wH];exact Rn.grow (AW.le.lP A2 _ _) (hz _ _));have vW:A3.bp A2.next=some (.cells [.int .i64 xo,.int .i64 xa,.int .i64 xb,.int .i64 xc,.int .i64 xi] true 1):=(by rw [<-wH];simp);obtain⟨FQ,A5,e5,QF⟩:=TA.fz (by omega) ⟨xo,xa,xb,xc,xi⟩;simp only [az] at e5
     repeat' (first|(refine kY λR hR=>?_;simp [ar,ax,f0,f1,f2,f3,f9,Rs,Rr,Rq,f13,f15,Md,gS,AW.ab,aG,Ls,vW,e5,o5,o6,o4,o7,o8,ite_self];try simp (disch:=omega) only [aA,aw,ar,ax])|(refine hR _ _ ?_;clear hR R)|(refine hK _ _ ?_;clear hK K)|refine nx ?_|refine wn λK hK=>?_|simp only [wS]|(refine bO (cI _) ?_;rintro _ _ ⟨rfl,rfl⟩ _ _)|(show c8 _ _ _ _ _ _;refine nx ?_)|(refine wc rfl (λhc=>?_) (λhc=>?_)<;>(try simp at hc)<;>(try omega))|(refine ib (λhc=>?_) (λhc=>?_)<;>(try omega)<;>(try simp (disch:=omega) only [aA,aw])))
     refine⟨l.length-(i+1),by omega,i+1,ps++[⟨xo,xa,xb,xc,xi⟩],jl,FQ,vj,b,rfl,by omega,by omega,by simp [Qs],by first|omega|(simp;omega),⟨?_,?_,?_,?_,?_,?_,?_,?_⟩,?_,?_,?_,.inl (by rw [qm,q8];omega)⟩
     iterate 8 simp [f0,f1,f2,f3,f9,Rs,Rr,Rq]
     exact QF.mono (by simp);have hg:=nH.xI NI VX hOp;rw [show opN b xo=b by simp [opN,o7,o8]] at hg;exact hg;exact HD.xI _
   refine ba ?_;refine W cF (xe g0 g1 g2 g3 g9 mh kT rp uU cD oP hws) ?_<;>intros;exact⟨ps,jl,vp,vj,b,by omega,by omega,by simp [g9,uU],by simp [mh],by simp [kT],hJ,NI,HD,Tf⟩
 refine ba ?_;refine W cF (JD g0 g1 g2 g3 g9 mh kT rp uU cD hws) ?_<;>intros;exact⟨ps,jl,vp,vj,b,by omega,by omega,by simp [g9,uU],by simp [mh],by simp [kT],hJ,NI,HD,Tf⟩
end
section
variable [Gl]
theorem Pw {P:Program} {t e:TypeId} {i:TypeInfo} {z:Value} {A:AW} {B:Nat} {v:Value} {n:Nat} {cs:List Value} (x:Value) (hu:P.underlying t=some (.slice e)) (hi:P.info? e=some i) (hz:i.zero=some z) (hs:i.size=1) (oK:z.cells.size=1) (zj:i.bytes<=24)
 (hx:x.oneCell'=true) (jy:dS B A 1 v n cs) (hn:n<2 ^ 30) (hB:B<=A.next) (hw:A.Wf) :
 ∃v' A',fy P (A.alloc (.cells [x] true 1)) t t v (.slice (some ⟨A.next,0,none⟩) 1 1)=some (v',A')/\dS B A' 1 v' (n+1) (cs++[x])/\Rd B A A' v v':=by
 have EP:=dS.le (qb A (.cells [x] true 1)) hw jy;have jm:gD (A.alloc (.cells [x] true 1)) 1 (.slice (some ⟨A.next,0,none⟩) 1 1)=some (1,[x]):=by
  simp [gD,AW.b8]
 have hb:(n+1)*i.bytes<=140737488355328:=by
  have:=kah (n+1) zj;omega
 obtain⟨v',A',h1,h2,h3,h4,h5,h6,h7⟩:=ke (P:=P) (size:=1) (t:=t) hu hi hz hs oK (by omega) EP jm (by rw [List.all_cons,hx];rfl) (by omega) hb (by rw [AW.bd];omega) (hw.alloc _);refine⟨v',A',h1,h2,λA0 ha hl=>h3 A0 ha (hl.trans (qb A _)),h4,by rw [AW.bd] at h5;omega,λj hj gT=>?_,λj hj=>?_⟩;rw [h6 j (by simp;omega) gT,AW.fV _ _ (by omega)];rcases h7 with rfl|h7;exact .inl hj;rw [h7] at hj;injection hj with hj;simp at hj;exact .inr (by omega)
structure PS (B:Nat) (A:AW) (vp:Value) (us:List Value) (ps:List (List bm)):Prop where
 own:dS B A 1 vp us.length us
 len:us.length=ps.length
 el:∀i (hi:i<ps.length),∃u,us[i]? = some u/\dS B A 5 u ps[i].length (ps[i].flatMap az)/\∀j,fu vp=some j->fu u≠some j
theorem dS.zL {B C:Nat} (hc:C<=B) {A:AW} {size:Nat} {v:Value} {n:Nat} {cs:List Value} (h:dS B A size v n cs):dS C A size v n cs:=by
 rcases h with h|⟨p,c,b8,h1,h2,hs,h3,h4,h5⟩;exact .inl h;exact .inr ⟨p,c,b8,h1,h2,hs,by omega,h4,h5⟩
theorem PS.le {B:Nat} {A A':AW} {vp:Value} {us:List Value} {ps:List (List bm)} (h:PS B A vp us ps) (hl:A.le A') (hw:A.Wf):PS B A' vp us ps:=
 ⟨h.own.le hl hw,h.len,λi hi=>let ⟨u,h1,h2,h3⟩:=h.el i hi;⟨u,h1,h2.le hl hw,h3⟩⟩
theorem PS.jJ {B:Nat} {A A':AW} {vp:Value} {us:List Value} {ps:List (List bm)} (h:PS B A vp us ps) (he:∀j,B<=j->j<A.next->A'.bp j=A.bp j) (hw:A.Wf):PS B A' vp us ps:=
 ⟨h.own.jJ λj hj=>he j (h.own.lt hw hj).1 (h.own.lt hw hj).2,h.len,λi hi=>let ⟨u,h1,h2,h3⟩:=h.el i hi;⟨u,h1,h2.jJ λj hj=>he j (h2.lt hw hj).1 (h2.lt hw hj).2,h3⟩⟩
theorem PS.nil (B:Nat) (A:AW):PS B A (.slice none 0 0) [] []:=⟨dS.nil _ _ _,rfl,λi hi=>by simp at hi⟩
theorem dS.aK {B:Nat} {A:AW} {size:Nat} {v:Value} {n:Nat} {cs:List Value} (h:dS B A size v n cs):v.oneCell'=true:=by
 rcases h with ⟨rfl,_⟩|⟨p,c,b8,rfl,_⟩<;>rfl
theorem PS.progs {B:Nat} {A:AW} {vp:Value} {us:List Value} {ps:List (List bm)} (h:PS B A vp us ps):jf A vp ps:=by
 refine⟨us,?_,λi hi=>?_⟩;rw [<-h.len];exact h.own.is;obtain⟨u,h1,h2,h3⟩:=h.el i hi;exact⟨u,h1,h2.is⟩
theorem PS.add {B:Nat} {A:AW} {vp:Value} {us:List Value} {ps:List (List bm)} (h:PS B A vp us ps) {u:Value} {p:List bm} (hu:dS B A 5 u p.length (p.flatMap az)) (gT:∀j,fu vp=some j->fu u≠some j)
 (hn:us.length<2 ^ 30) (hB:B<=A.next) (hw:A.Wf) :
 ∃v' A',fy qa (A.alloc (.cells [u] true 1)) 29 29 vp (.slice (some ⟨A.next,0,none⟩) 1 1)=some (v',A')/\PS B A' v' (us++[u]) (ps++[p])/\Rd B A A' vp v':=by
 obtain⟨v',A',e,h2,k⟩:=Pw (P:=qa) u Tryz.underlying29 Tryz.info75 Tryz.zero75 rfl rfl (by simp) hu.aK h.own hn hB hw;have Qv:∀{x:Value} {n cs},dS B A 5 x n cs->(∀j,fu vp=some j->fu x≠some j)->dS B A' 5 x n cs/\∀j,fu v'=some j->fu x≠some j:=λ{x n cs} hx hd=>by
  refine⟨hx.jJ λj hj=>k.bp j (hx.lt hw hj).2 λe2=>hd j e2 hj,λj hj yn=>?_⟩;rcases k.mc j hj with e2|e2;exact hd j e2 yn;have:=(hx.lt hw yn).2;omega
 refine⟨v',A',e,⟨by rw [qm];exact h2,by simp [h.len],λi hi=>?_⟩,k⟩;by_cases cD:i<ps.length;obtain⟨x,h3,h4,h5⟩:=h.el i cD;obtain⟨h6,h7⟩:=Qv h4 h5;refine⟨x,?_,?_,h7⟩;rw [ZI (by rw [h.len];exact cD),h3];rw [List.getElem_append_left cD];exact h6;have Pc:i=ps.length:=by simp at hi;omega
 subst Pc;obtain⟨h6,h7⟩:=Qv hu gT;refine⟨u,?_,?_,h7⟩;rw [<-h.len];simp
 simpa using h6
end
section
open T7
variable [Gl]
def nZ (a n:Int):Int:=qd.wrap a % n
theorem vH (a n:Int) (hn:0<n):0<=nZ a n/\nZ a n<n:=⟨Int.emod_nonneg _ (by omega),Int.emod_lt_of_pos _ hn⟩
theorem GO (a n:Int) (A:AW) (hn:0<n) (AK:n<=9223372036854775807) :
 aD qa 10 [.int .i64 a,.int .i64 n] A (λv A'=>v=.int .i64 (nZ a n)/\A=A'):=by
 refine aN Tryz.func10 λhw=>?_;have jx:qd.wrap n=n:=ax (by omega) (by omega);have gT:n≠0:=by omega
 obtain⟨h1,h2⟩:=ja a;obtain⟨h3,h4⟩:=vH a n hn;have hr:(qd.wrap a).tmod n=nZ a n:=qU h1;have kc:qg.wrap (nZ a n)=nZ a n:=ar (by omega) (by omega);refine W cF (J4 jx gT hr kc) ?_<;>intros;simp
end
section
abbrev kN:List (Nat×Nat):=[(0,0),(1,0),(2,0),(3,0),(4,0),(5,0),(6,0),(10,0),(7,2),(8,0),(9,0),(11,2),(12,2),(13,3),(14,0),(15,3)]
abbrev kM:List (Nat×Nat):=[(0,0),(1,0),(2,0),(3,0),(4,0),(5,0),(6,0),(7,2),(8,2),(9,3),(10,0),(11,3)]
open T7
variable [Gl]
structure SB (A:AW) (b:Nat) (A':AW):Prop where
 next:A.next<=A'.next
 bp:∀i,i<A.next->i≠b->A'.bp i=A.bp i
theorem SB.refl (A:AW) (b:Nat):SB A b A:=⟨qf _,λ_ _ _=>rfl⟩
theorem SB.trans {A B C:AW} {b:Nat} (h:SB A b B) (k:SB B b C):SB A b C:=⟨qM h.next k.next,λi hi hb=>(k.bp i (kai hi h.next) hb).trans (h.bp i hi hb)⟩
theorem SB.sE {A B:AW} {b:Nat} (h:A.le B):SB A b B:=⟨h.next,λi hi _=>h.bp i hi⟩
theorem SB.set {A B:AW} {b:Nat} (h:SB A b B) (o:Option dQ):SB A b (B.set b o):=⟨h.next,λi hi hb=>(AW.bg hb).trans (h.bp i hi hb)⟩
theorem SB.le {A0 A B:AW} {b:Nat} (h:A0.le A) (hb:A0.next<=b) (k:SB A b B):A0.le B:=⟨qM h.next k.next,λi hi=>(k.bp i (kai hi h.next) (by omega)).trans (h.bp i hi)⟩
theorem SB.app {A1 A A':AW} {b:Nat} {v v':Value} (h:SB A1 b A) (hv:∀j,fu v=some j->A1.next<=j) (k:Rd A1.next A A' v v'):SB A1 b A':=
 ⟨qM h.next k.next,λi hi hb=>(k.bp i (kai hi h.next) λe=>by have:=hv i e;omega).trans (h.bp i hi hb)⟩
theorem Ug {P:Program} {t e:TypeId} {i:TypeInfo} {z:Value} {A:AW} {B:Nat} {v:Value} {n:Nat} {cs:List Value} (x:Value) (hu:P.underlying t=some (.slice e)) (hi:P.info? e=some i) (hz:i.zero=some z) (hs:i.size=1) (oK:z.cells.size=1) (zj:i.bytes<=8)
 (hx:x.oneCell'=true) (jy:dS B A 1 v n cs) (hn:n<17592186044415) (hB:B<=A.next) (hw:A.Wf) :
 ∃v' A',fy P (A.alloc (.cells [x] true 1)) t t v (.slice (some ⟨A.next,0,none⟩) 1 1)=some (v',A')/\dS B A' 1 v' (n+1) (cs++[x])/\Rd B A A' v v':=by
 have EP:=dS.le (qb A (.cells [x] true 1)) hw jy;have jm:gD (A.alloc (.cells [x] true 1)) 1 (.slice (some ⟨A.next,0,none⟩) 1 1)=some (1,[x]):=by
  simp [gD,AW.b8]
 have hb:(n+1)*i.bytes<=140737488355328:=by
  have:=kah (n+1) zj;omega
 obtain⟨v',A',h1,h2,h3,h4,h5,h6,h7⟩:=ke (P:=P) (size:=1) (t:=t) hu hi hz hs oK (by omega) EP jm (by rw [List.all_cons,hx];rfl) (by omega) hb (by rw [AW.bd];omega) (hw.alloc _);refine⟨v',A',h1,h2,λA0 ha hl=>h3 A0 ha (hl.trans (qb A _)),h4,by rw [AW.bd] at h5;omega,λj hj gT=>?_,λj hj=>?_⟩;rw [h6 j (by simp;omega) gT,AW.fV _ _ (by omega)];rcases h7 with rfl|h7;exact .inl hj;rw [h7] at hj;injection hj with hj;simp at hj;exact .inr (by omega)
def QP (me:Int) (q:List bm):Prop:=q.length<=1001/\(me<=64->(cG q).2=0)/\JG q
theorem MF (hn:Gl.N=4) (c:br) (VQ:0<=c.be/\c.be<=64) (n:Nat) (hn16:n<=16) (vl vk:Value) (ls:List (List Int)) (pk:List Int) (me:Int) (heap plain:Bool) (A:AW) (hL:r9 A vl ls)
 (hm:0<=me/\me<=1000) (hk:cd A .i64 vk pk) (hkl:pk.length<=17592186044415) (hnp:pk=[]\/1<=n) :
 aD qa 21 [c.v,.int .i64 n,vl,.int .i64 me,.bool heap,.bool plain,vk] A (λu A'=>∃(oi:Option Addr) (ni ci:Nat) (vp:Value) (ok:Option Addr) (ck:Nat) (us:List Value) (ps:List (List bm)) (kl zs:List Int) (Z:Nat),
  u=MG c (.slice oi ni ci) vp (.slice ok kl.length ck)/\A.next<=Z/\PS Z A' vp us ps/\A.le A'/\A'.Wf/\dS Z A' 1 (.slice ok kl.length ck) kl.length (kl.map (qp .i64))/\kl.length=pk.length/\us.length=n/\(∀q∈ps,QP me q)/\(∀j o,fu (.slice ok kl.length ck)=some j->PS Z (A'.set j o) vp us ps)/\
  (ni:Int)=c.be/\(∀x∈kl,0<=x/\x<(n:Int))/\zs.length=ni/\dS A.next A' 1 (.slice oi ni ci) ni (zs.map (qp .u64))/\∀j,fu (.slice oi ni ci)=some j->j<Z):=by
 refine aN Tryz.func21 λhw=>?_;obtain⟨ol,cl,rfl,_⟩:=hL.cy;obtain⟨Uy,UI,rfl,_⟩:=hk.cy;have cB:=λB=>Eg c B;generalize DI c=bl at cB;have zh:c.v=.agg c.cells.toArray:=rfl;obtain⟨mC,fR,lS,c0,c1,c2,c3,kL,lO,lT,lR,iZ,mW⟩:=c;simp only at VQ;obtain⟨G6,rfl⟩:∃G6:Nat,mC=G6:=⟨mC.toNat,by omega⟩;have hwsz:G6<=64:=by omega
 unfold MG km;simp only [br.v,br.cells,aa,af] at cB ⊢;revert hw;refine W (J2 (od kN) (od kM)) (J1 bE) ?_<;>(unhygienic intros)
 refine Je (λA1=>A.le A1/\A1.Wf/\A1.next=A.next+3/\A1.bp A.next=some (.cells [.int .i64 (G6:Int),.int .i64 fR,.int .i64 lS,.int .i64 c0,.int .i64 c1,.int .i64 c2,.int .i64 c3,.int .i64 kL,.int .i64 lO,.int .i64 lT,.int .i64 lR,.int .i64 iZ,.bool mW] true 1)/\
  A1.bp (A.next+1)=some (.cells wh true 1)/\
  A1.bp (A.next+2)=some (.cells [.int .i64 (G6:Int),.int .i64 fR,.int .i64 lS,.int .i64 c0,.int .i64 c1,.int .i64 c2,.int .i64 c3,.int .i64 kL,.int .i64 lO,.int .i64 lT,.int .i64 lR,.int .i64 iZ,.bool mW,.slice none 0 0,.slice none 0 0,.slice none 0 0] true 1)) ?_ ?_
 have e1:¬A.next=A.next+1+1:=by omega
 have e2:¬A.next=A.next+1:=by omega
 have e3:¬A.next+1=A.next:=by omega
 have e4:¬A.next+1+1=A.next:=by omega
 refine⟨(((qb A _).trans (qb _ _)).trans (qb _ _)).set (by omega) _,(((hw.alloc _).alloc _).alloc _).set _ (by simp only [AW.bd];omega),by simp,?_,?_,?_⟩;simp [AW.df,AW.dt,e1,e2,e3,e4];simp [AW.df,AW.dt,wh,e1,e2,e3,e4];simp [AW.df,AW.dt,e1,e2,e3,e4];rintro A1 ⟨NC,jx,ER,hb7,Tv,hb15⟩
 refine ui (λfr A'=>∃(vi:Value) (ni:Nat) (zs:List Int),ni=G6/\zs.length=ni/\fr 1=.int .i64 n/\fr 2=.slice ol ls.length cl/\fr 3=.int .i64 me/\fr 4=.bool heap/\fr 5=.bool plain/\fr 6=.slice Uy pk.length UI/\fr 7=.pointer (some ⟨A.next,0,none⟩)/\fr 14=.pointer (some ⟨A.next+1,0,none⟩)/\fr 15=.pointer (some ⟨A.next+2,0,none⟩)/\
  SB A1 (A.next+2) A'/\A'.Wf/\A'.bp (A.next+2)=some (.cells [.int .i64 (G6:Int),.int .i64 fR,.int .i64 lS,.int .i64 c0,.int .i64 c1,.int .i64 c2,.int .i64 c3,.int .i64 kL,.int .i64 lO,.int .i64 lT,.int .i64 lR,.int .i64 iZ,.bool mW,vi,.slice none 0 0,.slice none 0 0] true 1)/\dS A1.next A' 1 vi ni (zs.map (qp .u64))) ?_ ?_
 . refine ef (λk fr A'=>∃(i:Nat) (vi:Value) (zs:List Int),k=G6-i/\i<=G6/\zs.length=i/\fr 1=.int .i64 n/\fr 2=.slice ol ls.length cl/\fr 3=.int .i64 me/\fr 4=.bool heap/\fr 5=.bool plain/\fr 6=.slice Uy pk.length UI/\fr 7=.pointer (some ⟨A.next,0,none⟩)/\fr 14=.pointer (some ⟨A.next+1,0,none⟩)/\fr 15=.pointer (some ⟨A.next+2,0,none⟩)/\fr 16=.int .i64 i/\
    SB A1 (A.next+2) A'/\A'.Wf/\A'.bp (A.next+2)=some (.cells [.int .i64 (G6:Int),.int .i64 fR,.int .i64 lS,.int .i64 c0,.int .i64 c1,.int .i64 c2,.int .i64 c3,.int .i64 kL,.int .i64 lO,.int .i64 lT,.int .i64 lR,.int .i64 iZ,.bool mW,vi,.slice none 0 0,.slice none 0 0] true 1)/\dS A1.next A' 1 vi i (zs.map (qp .u64))) G6 ?_ ?_
   exact⟨0,_,[],rfl,qG _,rfl,rfl,rfl,rfl,rfl,rfl,rfl,rfl,rfl,rfl,rfl,SB.refl _ _,jx,hb15,dS.nil _ _ _⟩;rintro k fr A' ⟨i,vi,zs,rfl,hi,hzl,g1,g2,g3,g4,g5,g6,g7,uY,ue,VZ,hS,kI,hb,jy⟩;have Lo:=(hS.bp A.next (by omega) (by omega)).trans hb7;have oP:=kI.lt hb;by_cases cD:i<G6
   . obtain⟨qv,hqv⟩:∃qv,qd.wrap ((i:Int).tmod 4)=qv:=⟨_,rfl⟩;have gS:=By (i:=i);obtain⟨vi',A4,e4,ym,k4⟩:=Pw (P:=qa) (.int .u64 qv) Tryz.underlying28 Tryz.info35 Tryz.zero35 rfl rfl (by simp) rfl jy (by omega) hS.next kI;have ym:dS A1.next A4 1 vi' (i+1) ((zs++[qv]).map (qp .u64)):=by simpa using ym
     have gT:fu vi≠some (A.next+2):=λe=>by have:=(jy.lt kI e).1;omega
     have yq:=(k4.bp (A.next+2) oP gT).trans hb;have YS:=k4.wf.lt yq;have zl:=hS.app (λj hj=>(jy.lt kI hj).1) k4;have dy:G6-i=(G6-(i+1))+1:=(by omega);have Rg:=jy.aK;have SS:=ym.aK;refine ba ?_;revert hS hw;(repeat first|clear hS|clear hw|revert hc|revert R|revert K);refine W (J2 (od kN) (od kM)) (Us g1 g2 g3 g4 g5 g6 g7 uY ue VZ cD gS hqv hb Lo yq e4 bE) ?_<;>(unhygienic intros);obtain⟨oi',ci',rfl,_⟩:=ym.is.cy;refine W (J2 (od kN) (od kM)) (Us g1 g2 g3 g4 g5 g6 g7 uY ue VZ cD gS hqv hb Lo yq e4 bE) ?_<;>intros;refine⟨G6-(i+1),by omega,i+1,_,zs++[qv],rfl,by omega,by simp [hzl],?_,?_,?_,?_,?_,?_,?_,?_,?_,?_,zl.set _,k4.wf.set _ YS,AW.cY,ym.jJ λj hj=>AW.bg (λe=>by have:=(ym.lt k4.wf hj).1;omega)⟩<;>simp [g1,g2,g3,g4,g5,g6,g7,uY,ue,VZ]
   refine ba ?_;revert hS hw;(repeat first|clear hS|clear hw|revert hc|revert R|revert K);refine W (J2 (od kN) (od kM)) (xY g1 g2 g3 g4 g5 g6 g7 uY ue VZ cD hb Lo @AW.ab) ?_<;>(unhygienic intros);refine⟨vi,_,zs,by omega,hzl,?_,?_,?_,?_,?_,?_,?_,?_,?_,hS,kI,hb,jy⟩<;>simp [g1,g2,g3,g4,g5,g6,g7,uY,ue,VZ]
 rintro fr A2 ⟨vi,ni,zs,Pa,hzl,g1,g2,g3,g4,g5,g6,g7,uY,ue,iY,kc,kS,Lh⟩;have VJ:=iY.le NC (by omega);have AK:A.next+3<=A2.next:=by rw [<-ER];exact iY.next
 have hb7:=(iY.bp A.next (by omega) (by omega)).trans hb7;have Tv:=(iY.bp (A.next+1) (by omega) (by omega)).trans Tv;obtain⟨oi,Wc,rfl,_⟩:=Lh.is.cy;have Xt:∀j,fu (.slice oi ni Wc)=some j->A.next+3<=j/\j<A2.next:=λj hj=>⟨by have:=(Lh.lt kc hj).1;omega,(Lh.lt kc hj).2⟩;have hI:∀A',SB A2 (A.next+2) A'->dS A1.next A' 1 (.slice oi ni Wc) ni (zs.map (qp .u64)):=λA' h=>Lh.jJ λj hj=>h.bp j (Xt j hj).2 (by have:=(Xt j hj).1;omega);clear hb15 Lh iY jx NC;refine ba ?_;revert hw;(repeat first|clear hw|revert hc|revert R|revert K);refine W (J2 (od kN) (od kM)) (J9 g1 g2 g3 g4 g5 g6 g7 uY ue) ?_<;>(unhygienic intros)
 refine ui (λfr A'=>∃(vp:Value) (us:List Value) (ps:List (List bm)),us.length=n/\(∀q∈ps,QP me q)/\fr 1=.int .i64 n/\fr 2=.slice ol ls.length cl/\fr 3=.int .i64 me/\fr 4=.bool heap/\fr 5=.bool plain/\fr 6=.slice Uy pk.length UI/\fr 7=.pointer (some ⟨A.next,0,none⟩)/\fr 14=.pointer (some ⟨A.next+1,0,none⟩)/\fr 15=.pointer (some ⟨A.next+2,0,none⟩)/\
  SB A2 (A.next+2) A'/\A'.Wf/\A'.bp (A.next+2)=some (.cells [.int .i64 (G6:Int),.int .i64 fR,.int .i64 lS,.int .i64 c0,.int .i64 c1,.int .i64 c2,.int .i64 c3,.int .i64 kL,.int .i64 lO,.int .i64 lT,.int .i64 lR,.int .i64 iZ,.bool mW,.slice oi ni Wc,vp,.slice none 0 0] true 1)/\PS A2.next A' vp us ps) ?_ ?_
 . refine ef (λk fr A'=>∃(t:Nat) (vp:Value) (us:List Value) (ps:List (List bm)),k=n-t/\t<=n/\us.length=t/\(∀q∈ps,QP me q)/\fr 1=.int .i64 n/\fr 2=.slice ol ls.length cl/\fr 3=.int .i64 me/\fr 4=.bool heap/\fr 5=.bool plain/\fr 6=.slice Uy pk.length UI/\fr 7=.pointer (some ⟨A.next,0,none⟩)/\fr 14=.pointer (some ⟨A.next+1,0,none⟩)/\fr 15=.pointer (some ⟨A.next+2,0,none⟩)/\fr 17=.int .i64 t/\
    SB A2 (A.next+2) A'/\A'.Wf/\A'.bp (A.next+2)=some (.cells [.int .i64 (G6:Int),.int .i64 fR,.int .i64 lS,.int .i64 c0,.int .i64 c1,.int .i64 c2,.int .i64 c3,.int .i64 kL,.int .i64 lO,.int .i64 lT,.int .i64 lR,.int .i64 iZ,.bool mW,.slice oi ni Wc,vp,.slice none 0 0] true 1)/\PS A2.next A' vp us ps) n ?_ ?_
   exact⟨0,_,[],[],rfl,qG _,rfl,by simp,by simp [g1],by simp [g2],by simp [g3],by simp [g4],by simp [g5],by simp [g6],by simp [g7],by simp [uY],by simp [ue],rfl,SB.refl _ _,kc,kS,PS.nil _ _⟩;clear g1 g2 g3 g4 g5 g6 g7 uY ue;rintro k fr A' ⟨t,vp,us,ps,rfl,ht,hut,mO,g1,g2,g3,g4,g5,g6,g7,uY,ue,Lx,hS,kI,hb,hP⟩;have Lo:=(hS.bp A.next (by omega) (by omega)).trans hb7;have oP:=kI.lt hb;have hleA:=hS.le VJ (by omega);have hL':=hL.keeps (kg.sE hleA hw);obtain⟨op',cp',uU,_⟩:=hP.own.is.cy;subst uU;by_cases cD:t<n
   . have gS:qg.wrap ((t:Int)+1)=((t+1:Nat):Int):=ar (by omega) (by omega);have dy:n-t=(n-(t+1))+1:=(by omega);by_cases ET:t<ls.length
     . obtain⟨q,b8,own,u,xO,bV,hcell,hu⟩:=hL'.at ET;subst xO;cases heap with
       | true=>
         refine ba ?_;revert hS hw;(repeat first|clear hS|clear hw|revert hc|revert R|revert K);refine W (J3 (od kN) (od kM) @cB) (Us g1 g2 g3 g4 g5 g6 g7 uY ue Lx cD ET gS bV hcell hb Lo @AW.ab) ?_<;>(unhygienic intros);refine(ox hn _ _ me _ plain _ hu hm).mono ?_;rintro u2 A4 ⟨p,EO,Nu,nh,pU,YM,VF⟩
         first|refine⟨nh,?_⟩|skip
         obtain⟨ou,cu,Nt,_⟩:=Nu.is.cy;subst Nt;have Lr:=hP.le nh kI;obtain⟨FQ,A5,e5,NH,k5⟩:=Lr.add (Nu.zL hS.next) (λj h1 h2=>by have:=(hP.own.lt kI h1).2;have:=(Nu.lt pU h2).1;omega) (by omega) (qM hS.next nh.next) pU;have yq:=nh.mu kI hb;have Tt:=(k5.bp (A.next+2) (pU.lt yq) (λe=>by have:=(Lr.own.lt pU e).1;omega)).trans yq;have AQ:=(hS.trans (SB.sE nh)).app (λj hj=>(Lr.own.lt pU hj).1) k5;obtain⟨op2,cp2,Ns,_⟩:=NH.own.is.cy;subst Ns;simp only [qm,qI,ZP,Zj] at NH e5;have NA:=k5.wf.lt Tt;revert hS hw;(repeat first|clear hS|clear hw|revert hc|revert R|revert K);refine W (J2 (od kN) (od kM)) (WF g1 g2 g3 g4 g5 g6 g7 uY ue Lx cD ET gS yq Tt e5 bE) ?_<;>(unhygienic intros);refine⟨n-(t+1),by omega,t+1,_,us++[.slice ou p.length cu],ps++[p],rfl,by omega,by rw [qm,hut];rfl,λq hq=>by
          rcases qQ.1 hq with h|h;exact mO q h;rw [ZL.1 h];exact⟨EO,YM,VF⟩,?_,?_,?_,?_,?_,?_,?_,?_,?_,?_,AQ.set _,k5.wf.set _ NA,AW.cY,NH.jJ (λj h1 _=>AW.bg (show j≠A.next+2 by omega)) k5.wf⟩<;>simp [g1,g2,g3,g4,g5,g6,g7,uY,ue]
       | false=>
         refine ba ?_;revert hS hw;(repeat first|clear hS|clear hw|revert hc|revert R|revert K);refine W (J3 (od kN) (od kM) @cB) (Us g1 g2 g3 g4 g5 g6 g7 uY ue Lx cD ET gS bV hcell hb Lo @AW.ab) ?_<;>(unhygienic intros);refine(ox hn _ _ me _ plain _ hu hm).mono ?_;rintro u2 A4 ⟨p,EO,Nu,nh,pU,YM,VF⟩
         first|refine⟨nh,?_⟩|skip
         obtain⟨ou,cu,Nt,_⟩:=Nu.is.cy;subst Nt;have Lr:=hP.le nh kI;obtain⟨FQ,A5,e5,NH,k5⟩:=Lr.add (Nu.zL hS.next) (λj h1 h2=>by have:=(hP.own.lt kI h1).2;have:=(Nu.lt pU h2).1;omega) (by omega) (qM hS.next nh.next) pU;have yq:=nh.mu kI hb;have Tt:=(k5.bp (A.next+2) (pU.lt yq) (λe=>by have:=(Lr.own.lt pU e).1;omega)).trans yq;have AQ:=(hS.trans (SB.sE nh)).app (λj hj=>(Lr.own.lt pU hj).1) k5;obtain⟨op2,cp2,Ns,_⟩:=NH.own.is.cy;subst Ns;simp only [qm,qI,ZP,Zj] at NH e5;have NA:=k5.wf.lt Tt;revert hS hw;(repeat first|clear hS|clear hw|revert hc|revert R|revert K);refine W (J2 (od kN) (od kM)) (WF g1 g2 g3 g4 g5 g6 g7 uY ue Lx cD ET gS yq Tt e5 bE) ?_<;>(unhygienic intros);refine⟨n-(t+1),by omega,t+1,_,us++[.slice ou p.length cu],ps++[p],rfl,by omega,by rw [qm,hut];rfl,λq hq=>by
          rcases qQ.1 hq with h|h;exact mO q h;rw [ZL.1 h];exact⟨EO,YM,VF⟩,?_,?_,?_,?_,?_,?_,?_,?_,?_,?_,AQ.set _,k5.wf.set _ NA,AW.cY,NH.jJ (λj h1 _=>AW.bg (show j≠A.next+2 by omega)) k5.wf⟩<;>simp [g1,g2,g3,g4,g5,g6,g7,uY,ue]
     have hu:cd A' .i64 (.slice none 0 0) []:=cd.nil _ _;cases heap with
     | true=>
       refine ba ?_;revert hS hw;(repeat first|clear hS|clear hw|revert hc|revert R|revert K);refine W (J3 (od kN) (od kM) @cB) (Mh g1 g2 g3 g4 g5 g6 g7 uY ue Lx cD ET gS hb Lo @AW.ab) ?_<;>(unhygienic intros);refine(ox hn _ _ me _ plain _ hu hm).mono ?_;rintro u2 A4 ⟨p,EO,Nu,nh,pU,YM,VF⟩
       first|refine⟨nh,?_⟩|skip
       obtain⟨ou,cu,Nt,_⟩:=Nu.is.cy;subst Nt;have Lr:=hP.le nh kI;obtain⟨FQ,A5,e5,NH,k5⟩:=Lr.add (Nu.zL hS.next) (λj h1 h2=>by have:=(hP.own.lt kI h1).2;have:=(Nu.lt pU h2).1;omega) (by omega) (qM hS.next nh.next) pU;have yq:=nh.mu kI hb;have Tt:=(k5.bp (A.next+2) (pU.lt yq) (λe=>by have:=(Lr.own.lt pU e).1;omega)).trans yq;have AQ:=(hS.trans (SB.sE nh)).app (λj hj=>(Lr.own.lt pU hj).1) k5;obtain⟨op2,cp2,Ns,_⟩:=NH.own.is.cy;subst Ns;simp only [qm,qI,ZP,Zj] at NH e5;have NA:=k5.wf.lt Tt;revert hS hw;(repeat first|clear hS|clear hw|revert hc|revert R|revert K);refine W (J2 (od kN) (od kM)) (WF g1 g2 g3 g4 g5 g6 g7 uY ue Lx cD ET gS yq Tt e5 bE) ?_<;>(unhygienic intros);refine⟨n-(t+1),by omega,t+1,_,us++[.slice ou p.length cu],ps++[p],rfl,by omega,by rw [qm,hut];rfl,λq hq=>by
        rcases qQ.1 hq with h|h;exact mO q h;rw [ZL.1 h];exact⟨EO,YM,VF⟩,?_,?_,?_,?_,?_,?_,?_,?_,?_,?_,AQ.set _,k5.wf.set _ NA,AW.cY,NH.jJ (λj h1 _=>AW.bg (show j≠A.next+2 by omega)) k5.wf⟩<;>simp [g1,g2,g3,g4,g5,g6,g7,uY,ue]
     | false=>
       refine ba ?_;revert hS hw;(repeat first|clear hS|clear hw|revert hc|revert R|revert K);refine W (J3 (od kN) (od kM) @cB) (Mh g1 g2 g3 g4 g5 g6 g7 uY ue Lx cD ET gS hb Lo @AW.ab) ?_<;>(unhygienic intros);refine(ox hn _ _ me _ plain _ hu hm).mono ?_;rintro u2 A4 ⟨p,EO,Nu,nh,pU,YM,VF⟩
       first|refine⟨nh,?_⟩|skip
       obtain⟨ou,cu,Nt,_⟩:=Nu.is.cy;subst Nt;have Lr:=hP.le nh kI;obtain⟨FQ,A5,e5,NH,k5⟩:=Lr.add (Nu.zL hS.next) (λj h1 h2=>by have:=(hP.own.lt kI h1).2;have:=(Nu.lt pU h2).1;omega) (by omega) (qM hS.next nh.next) pU;have yq:=nh.mu kI hb;have Tt:=(k5.bp (A.next+2) (pU.lt yq) (λe=>by have:=(Lr.own.lt pU e).1;omega)).trans yq;have AQ:=(hS.trans (SB.sE nh)).app (λj hj=>(Lr.own.lt pU hj).1) k5;obtain⟨op2,cp2,Ns,_⟩:=NH.own.is.cy;subst Ns;simp only [qm,qI,ZP,Zj] at NH e5;have NA:=k5.wf.lt Tt;revert hS hw;(repeat first|clear hS|clear hw|revert hc|revert R|revert K);refine W (J2 (od kN) (od kM)) (WF g1 g2 g3 g4 g5 g6 g7 uY ue Lx cD ET gS yq Tt e5 bE) ?_<;>(unhygienic intros);refine⟨n-(t+1),by omega,t+1,_,us++[.slice ou p.length cu],ps++[p],rfl,by omega,by rw [qm,hut];rfl,λq hq=>by
        rcases qQ.1 hq with h|h;exact mO q h;rw [ZL.1 h];exact⟨EO,YM,VF⟩,?_,?_,?_,?_,?_,?_,?_,?_,?_,?_,AQ.set _,k5.wf.set _ NA,AW.cY,NH.jJ (λj h1 _=>AW.bg (show j≠A.next+2 by omega)) k5.wf⟩<;>simp [g1,g2,g3,g4,g5,g6,g7,uY,ue]
   refine ba ?_;revert hS hw;(repeat first|clear hS|clear hw|revert hc|revert R|revert K);refine W (J2 (od kN) (od kM)) (JD g1 g2 g3 g4 g5 g6 g7 uY ue Lx cD) ?_<;>(unhygienic intros);refine⟨_,us,ps,by omega,mO,?_,?_,?_,?_,?_,?_,?_,?_,?_,hS,kI,hb,hP⟩<;>simp [g1,g2,g3,g4,g5,g6,g7,uY,ue]
 clear g1 g2 g3 g4 g5 g6 g7 uY ue;rintro fr A3 ⟨vp,us,ps,Vx,mO,g1,g2,g3,g4,g5,g6,g7,uY,ue,kZ,FU,vW,hP⟩;have Td:=kZ.le VJ (by omega);have hn3:A.next+3<=A3.next:=qM AK kZ.next;obtain⟨op',cp',uU,_⟩:=hP.own.is.cy;subst uU;have Tv:=(kZ.bp (A.next+1) (by omega) (by omega)).trans Tv;have hP3:∀A',SB A3 (A.next+2) A'->PS A2.next A' (.slice op' us.length cp') us ps:=λA' h=>hP.jJ (λj h1 h2=>h.bp j h2 (by omega)) FU;have hI3:∀A',SB A3 (A.next+2) A'->dS A1.next A' 1 (.slice oi ni Wc) ni (zs.map (qp .u64)):=λA' h=>hI A' (kZ.trans h);have hn23:=kZ.next;clear kZ hP hI;refine ba ?_;revert hw;(repeat first|clear hw|revert hc|revert R|revert K);refine W (J2 (od kN) (od kM)) (J4 g1 g6 uY ue) ?_<;>(unhygienic intros)
 refine ui (λfr A'=>∃(vk:Value) (kl:List Int),(∀x∈kl,0<=x/\x<(n:Int))/\kl.length=pk.length/\fr 1=.int .i64 n/\fr 6=.slice Uy pk.length UI/\fr 14=.pointer (some ⟨A.next+1,0,none⟩)/\fr 15=.pointer (some ⟨A.next+2,0,none⟩)/\
  SB A3 (A.next+2) A'/\A'.Wf/\A'.bp (A.next+2)=some (.cells [.int .i64 (G6:Int),.int .i64 fR,.int .i64 lS,.int .i64 c0,.int .i64 c1,.int .i64 c2,.int .i64 c3,.int .i64 kL,.int .i64 lO,.int .i64 lT,.int .i64 lR,.int .i64 iZ,.bool mW,.slice oi ni Wc,.slice op' us.length cp',vk] true 1)/\dS A3.next A' 1 vk kl.length (kl.map (qp .i64))) ?_ ?_
 . refine ef (λk fr A'=>∃(i:Nat) (vk:Value) (kl:List Int),(∀x∈kl,0<=x/\x<(n:Int))/\k=pk.length-i/\i<=pk.length/\kl.length=i/\fr 1=.int .i64 n/\fr 6=.slice Uy pk.length UI/\fr 14=.pointer (some ⟨A.next+1,0,none⟩)/\fr 15=.pointer (some ⟨A.next+2,0,none⟩)/\fr 19=.int .i64 i/\
    SB A3 (A.next+2) A'/\A'.Wf/\A'.bp (A.next+2)=some (.cells [.int .i64 (G6:Int),.int .i64 fR,.int .i64 lS,.int .i64 c0,.int .i64 c1,.int .i64 c2,.int .i64 c3,.int .i64 kL,.int .i64 lO,.int .i64 lT,.int .i64 lR,.int .i64 iZ,.bool mW,.slice oi ni Wc,.slice op' us.length cp',vk] true 1)/\dS A3.next A' 1 vk kl.length (kl.map (qp .i64))) pk.length ?_ ?_
   exact⟨0,_,[],by simp,rfl,qG _,rfl,by simp [g1],by simp [g6],by simp [uY],by simp [ue],rfl,SB.refl _ _,FU,vW,dS.nil _ _ _⟩;clear g1 g2 g3 g4 g5 g6 g7 uY ue;rintro k fr A' ⟨i,vk,kl,hkr,rfl,hi,hkli,g1,g6,uY,ue,g19,hS,kI,hb,jy⟩;have oP:=kI.lt hb;obtain⟨ovk,cvk,hvk,_⟩:=jy.is.cy;subst hvk;by_cases cD:i<pk.length
   . have ER:1<=n:=by
      rcases hnp with rfl|h;simp at cD;exact h
     obtain⟨q,b8,xO,bV,hcell⟩:=(hk.le (hS.le Td (by omega)) hw).at cD;subst xO;have cP:=λB=>GO pk[i] (n:Int) B (by omega) (by omega);have De:=vH pk[i] n (by omega);generalize nZ pk[i] n=pv at cP De;generalize pk[i]=px at hcell cP;have gS:=By (i:=i);obtain⟨vk',A4,e4,ym,k4⟩:=Ug (P:=qa) (.int .i64 pv) Tryz.underlying24 Tryz.info3 Tryz.zero3 rfl rfl (by simp) rfl jy (by omega) hS.next kI;have gT:fu (.slice ovk kl.length cvk)≠some (A.next+2):=λe=>by have:=(jy.lt kI e).1;omega
     have yq:=(k4.bp (A.next+2) oP gT).trans hb;have YS:=k4.wf.lt yq;have zl:=hS.app (λj hj=>(jy.lt kI hj).1) k4;have dy:pk.length-i=(pk.length-(i+1))+1:=(by omega);obtain⟨ok4,ck4,YC,_⟩:=ym.is.cy;subst YC;refine ba ?_;refine W (J3 (od kN) (od kM) @cP) (mB g1 g6 uY ue g19 cD gS bV hcell hb yq e4 bE) ?_<;>intros;refine⟨pk.length-(i+1),by omega,i+1,.slice ok4 (kl.length+1) ck4,kl++[pv],λx hx=>by
      rcases qQ.1 hx with h|h;exact hkr x h;rw [ZL.1 h];exact De,rfl,by omega,by simp [hkli],?_,?_,?_,?_,?_,zl.set _,k4.wf.set _ YS,AW.cY,?_⟩
     rotate_right
     have h:=ym.jJ (A':=A4.set (A.next+2) (some (.cells [.int .i64 (G6:Int),.int .i64 fR,.int .i64 lS,.int .i64 c0,.int .i64 c1,.int .i64 c2,.int .i64 c3,.int .i64 kL,.int .i64 lO,.int .i64 lT,.int .i64 lR,.int .i64 iZ,.bool mW,.slice oi ni Wc,.slice op' us.length cp',.slice ok4 (kl.length+1) ck4] true 1))) λj hj=>AW.bg (λe=>by have:=(ym.lt k4.wf hj).1;omega)
     simpa using h
     all_goals simp [g1,g6,uY,ue]
   refine ba ?_;revert hS hw;(repeat first|clear hS|clear hw|revert hc|revert R|revert K);refine W (J2 (od kN) (od kM)) (J6 g1 g6 uY ue g19 cD) ?_<;>(unhygienic intros);refine⟨_,kl,hkr,by omega,?_,?_,?_,?_,hS,kI,hb,jy⟩<;>simp [g1,g6,uY,ue]
 clear g1 g2 g3 g4 g5 g6 g7 uY ue;rintro fr A4 ⟨vk,kl,hkr,hkl',g1,g6,uY,ue,hS,pU,yq,jy⟩;have Tu:=(hS.bp (A.next+1) (by omega) (by omega)).trans Tv;obtain⟨ok4,ck4,YC,_⟩:=jy.is.cy;subst YC;have Lr:=hP3 A4 hS;have hlt14:=pU.lt Tu;have hA4:A3.next<=A4.next:=hS.next;have nh:=hS.le Td (by omega);have gT:¬A.next+2=A.next+1:=by omega
 have hne2:¬A.next+1=A.next+2:=by omega
 unfold wh at Tu;revert hS hw;(repeat first|clear hS|clear hw|revert hc|revert R|revert K);refine W (J2 (od kN) (od kM)) (J9 g1 g6 uY ue Tu yq gT hne2 bE) ?_<;>(unhygienic intros);refine⟨_,by first|(simp [bu,aQ,aS,uY,iF,AW.ab];done)|(simp [bu,aQ,aS,uY,iF,AW.ab];rfl),oi,ni,Wc,_,ok4,ck4,us,ps,kl,zs,A2.next,rfl,by omega,Lr.jJ (λj h1 _=>AW.bg (show j≠A.next+1 by omega)) pU,nh.set (by omega) _,pU.set _ hlt14,(jy.jJ λj hj=>AW.bg (λe=>by have:=(jy.lt pU hj).1;omega)).zL hn23,hkl',Vx,mO,λj o hj=>?_,by rw [Pa],hkr,hzl,?_,λj hj=>(Xt j hj).2⟩
 rotate_left
 exact((hI3 A4 hS).jJ λj hj=>AW.bg (λe=>by have:=(Xt j hj).1;omega)).zL (by omega);have hj3:=(jy.lt pU hj).1;refine((hP3 (A4.set j o) ⟨hS.next,λi h1 h2=>by rw [AW.bg (by omega)];exact hS.bp i h1 h2⟩).jJ (λi h1 h2=>?_) (pU.set _ (jy.lt pU hj).2));by_cases e:i=j;subst e;rw [AW.cY,AW.cY];rw [AW.bg e,AW.bg (by omega),AW.bg e]
end
end Go.Stx
