/-
 The two slices that make.Program builds.
-/
import Derived.Test.YtpealkdhmnomhaaGreatDoorG05
set_option linter.unusedVariables false
set_option linter.unusedSimpArgs false
set_option linter.unusedSectionVars false
set_option maxRecDepth 20000
set_option maxHeartbeats 4000000
open Bool renaming false_eq_true->Zg
open Go.IntKind renaming i64->qY,signed->kbj,u64->q8
open Go.Proofs.Tryz renaming prog->qV
open Go.Stx.AW.le renaming alloc->qW,refl->Zl
open Int renaming tmod_eq_emod_of_nonneg->ZI
open List renaming getElem?_eq_some_iff->ZC,mem_append->ZH,mem_singleton->kai,set_getElem_self->kaZ
open Nat renaming le_refl->qZ,zero_le->Zt
open Bool renaming true->qg
open Go renaming Program->ql,Value->qd
open Go.IntKind renaming i64->qa
open Go.Stx.eh renaming cells->qi
open Go.Value renaming bool->qn,int->qb,slice->qf
open Option renaming some->qc
open Or renaming inl->qq
namespace Go.Stx
open Go Go.Proofs
attribute [local irreducible] TW bI cM aV aB aL cU dh
section
namespace TMdY
theorem nO [Gl] {A:AW} {L:List It} {T:Prop} (hS:aj A L) (hw:A.Wf) (h':(aW A L/\bz A L/\cd L)=T:=by first|(dsimp only [aa,ah,aW,bz,cd,ff];done)|exact rfl):T:=h'▸hS.eX hw
end TMdY
open TMdY
variable [Gl]
structure PJ (A0 A:AW) (vp vj:Value) (ps:List bq) (jl:List Int) (N:Nat):Prop where
 own:dV A0.next A 5 vp ps.length (ps.flatMap az)
 Gq:eE A0.next A .i64 vj jl
 range:∀x∈jl,0<=x/\x<(N:Int)
 Oj:∀j,ep vp=some j->ep vj≠some j
 le:A0.le A
 wf:A.Wf
theorem PJ.grow {A0 A B:AW} {vp vj:qd} {ps:List bq} {jl:List Int} {N:Nat} (h:PJ A0 A vp vj ps jl N) (hl:A.le B) (hw:B.Wf):PJ A0 B vp vj ps jl N:=
 ⟨h.own.le hl h.wf,dV.le hl h.wf h.Gq,h.range,h.Oj,h.le.trans hl,hw⟩
theorem PJ.ne {A0 A:AW} {vp vj:qd} {ps:List bq} {jl:List Int} {N:Nat} (h:PJ A0 A vp vj ps jl N) {b:Nat} (hb:A.next<=b):ep vp≠qc b/\ep vj≠qc b:=by
 refine⟨λe=>?_,λe=>?_⟩;have:=h.own.lt h.wf e;omega;have:=dV.lt h.Gq h.wf e;omega
theorem PJ.PQ {A0 A:AW} {vp vj:qd} {ps:List bq} {jl:List Int} (h:PJ A0 A vp vj ps jl ps.length) (hj:jl.length<2 ^ 30) {b:Nat} {o:eh} (hb:A.bk b=qc o) (gZ:ep vp≠qc b/\ep vj≠qc b) :
 ∃vj' A',fI qV (A.alloc (qi [qb qa ps.length] qg 1)) 24 24 vj (qf (qc ⟨A.next,0,none⟩) 1 1)=qc (vj',A')/\PJ A0 A' vp vj' ps (jl++[(ps.length:Int)]) (ps.length+1)/\A'.bk b=qc o/\ep vp≠qc b:=by
 have IV:=h.wf.lt hb;obtain⟨vj',A',e,h2,k⟩:=app_num (ps.length:Int) h.Gq hj h.le.next h.wf;refine⟨vj',A',e,⟨h.own.iM λj hj=>k.bk j (h.own.lt h.wf hj).2 (h.Oj j hj),h2,λx hx=>?_,λj hj kh=>?_,k.le A0 (qZ _) h.le,k.wf⟩,?_,gZ.1⟩;rcases ZH.1 hx with hx|hx;have:=h.range x hx;omega;simp at hx;omega;rcases k.mR j kh with e2|e2;exact h.Oj j hj e2;have:=(h.own.lt h.wf hj).2;omega;rw [k.bk b IV gZ.2,hb]
theorem PJ.fW {A0 A:AW} {vp vj:qd} {ps:List bq} {jl:List Int} {N:Nat} (h:PJ A0 A vp vj ps jl N) (hn:ps.length<2 ^ 30) (x:bq) :
 ∃HW A',fI qV (A.alloc (qi (az x) qg 5)) 76 76 vp (qf (qc ⟨A.next,0,none⟩) 1 1)=qc (HW,A')/\PJ A0 A' HW vj (ps++[x]) jl N:=by
 obtain⟨HW,A',e,h2,k⟩:=Sc x h.own hn h.le.next h.wf;refine⟨HW,A',e,⟨?_,dV.iM h.Gq λj hj=>k.bk j (dV.lt h.Gq h.wf hj).2 λe2=>h.Oj j e2 hj,h.range,λj hj kh=>?_,k.le A0 (qZ _) h.le,k.wf⟩⟩
 simpa [List.flatMap_append] using h2
 rcases k.mR j hj with e2|e2;exact h.Oj j e2 kh;have:=(dV.lt h.Gq h.wf kh).2;omega
theorem PJ.mono {A0 A:AW} {vp vj:qd} {ps:List bq} {jl:List Int} {N M:Nat} (h:PJ A0 A vp vj ps jl N) (hm:N<=M):PJ A0 A vp vj ps jl M:=
 ⟨h.own,h.Gq,λx hx=>by have:=h.range x hx;omega,h.Oj,h.le,h.wf⟩
theorem PJ.U5 {A0 A:AW} {p:Addr} {n c:Nat} {vj:qd} {ps:List bq} {jl:List Int} {N:Nat} (y:Int) (h:PJ A0 A (qf (qc p) n c) vj ps jl N) (hn:n=ps.length) {j:Nat} (hj:j<ps.length) :
 ∃A',aG qV A 3 ⟨p.block,p.off+j*5+4,none⟩ (qb qa y)=qc A'/\PJ A0 A' (qf (qc p) n c) vj (ps.set j { ps[j] with cy:=y }) jl N:=by
 subst hn;obtain⟨A',e,h2,hw,hn,hg,_⟩:=Sz y h.own hj h.wf;have hb:=(h.own.lt h.wf (j:=p.block) rfl).1;refine⟨A',e,⟨?_,dV.iM h.Gq λi hi=>hg i λe2=>h.Oj p.block rfl (by rw [<-e2];exact hi),h.range,h.Oj,⟨by rw [hn];exact h.le.next,λi hi=>?_⟩,hw⟩⟩;rw [List.length_set];exact h2;rw [hg i Ya];exact h.le.bk i hi
structure Halt (p:Prop):Prop where
 bk:p
theorem halt2 {P:ql} {n:Nat} {Q:Exit->Fr->AW->Prop} {a:Fr} {A:AW} {c:Code} (h:Halt (cM P n (.block 2 c) Q a A)):cM P n (.block 2 c) Q a A:=h.bk
theorem haltc {P:ql} {n:Nat} {Q:Exit->Fr->AW->Prop} {a:Fr} {A:AW} {c d:Code} (h:Halt (cM P n (.cond (.tmp 158) c d) Q a A)):cM P n (.cond (.tmp 158) c d) Q a A:=h.bk
theorem On {P:ql} {n:Nat} {Q:Exit->Fr->AW->Prop} {a:Fr} {A:AW} {x:Code} {K:Fr->AW->Prop} (J:Fr->AW->Prop) (h1:cM P n x (aS J Q) a A) (h2:∀a A,J a A->K a A):cM P n x (aS K Q) a A:=
 CN h1 λe a A h=>by cases e<;>first|exact h2 a A h|exact h
theorem mH {P:ql} {n:Nat} {id:Nat} {Q:Exit->Fr->AW->Prop} {a:Fr} {A:AW} {x:Code} {K:Fr->AW->Prop} (J:Fr->AW->Prop) (h1:cM P n x (cZ id (aS J Q)) a A) (h2:∀a A,J a A->K a A):cM P n x (cZ id (aS K Q)) a A:=
 CN h1 λe a A h=>by
  cases e with
  | normal=>exact h2 a A h
  | exit k=>
    simp only [cZ] at h ⊢;split at h;rename_i e;rw [ay e];exact h2 a A h;rename_i e;rw [aw e];exact h
  | _=>exact h
def xM (ps:List bq) (jl:List Int):Prop:=(∀x∈jl,∃j:Nat,x=(j:Int)/\∃i,ps[j]? = qc i/\i.cy=0/\i.op≠3)/\jl.Nodup
def Jd (ps:List bq):Prop:=∀x∈ps,x.op=3->kX x.cy
theorem xM.nil (ps:List bq):xM ps []:=⟨λx hx=>by(cases hx),List.nodup_nil⟩
theorem xM.zM {ps:List bq} {jl:List Int} (h:xM ps jl) (x:bq):xM (ps++[x]) jl:=by
 refine⟨λy hy=>?_,h.2⟩;obtain⟨j,e,i,h1,h2⟩:=h.1 y hy;have hl:=(ZC.1 h1).1;exact⟨j,e,i,by rw [List.getElem?_append_left hl];exact h1,h2⟩
theorem xM.PQ {ps:List bq} {jl:List Int} (h:xM ps jl) {x:bq} (h0:x.cy=0) (h3:x.op≠3):xM (ps++[x]) (jl++[(ps.length:Int)]):=by
 have h1:=h.zM x;refine⟨λy hy=>?_,?_⟩;rcases ZH.1 hy with hy|hy;exact h1.1 y hy;rw [kai] at hy;exact⟨ps.length,hy,x,by simp,h0,h3⟩;rw [List.nodup_append];refine⟨h.2,by simp,λa ha b hb=>?_⟩;rw [kai] at hb;subst hb;obtain⟨j,e,i,g1,_⟩:=h.1 a ha;have hl:=(ZC.1 g1).1;omega
theorem xM.set {ps:List bq} {j:Nat} {jl:List Int} (h:xM ps ((j:Int)::jl)) (y:bq):xM (ps.set j y) jl:=by
 obtain⟨h1,h2⟩:=h;rw [List.nodup_cons] at h2;refine⟨λx hx=>?_,h2.2⟩;obtain⟨k,e,i,g1,g2⟩:=h1 x (List.mem_cons_of_mem _ hx);have gZ:¬j=k:=λe2=>h2.1 (by rw [e2,<-e];exact hx);exact⟨k,e,i,by rw [List.getElem?_set_ne gZ];exact g1,g2⟩
theorem xM.head {ps:List bq} {j:Nat} {jl:List Int} (h:xM ps ((j:Int)::jl)) (hj:j<ps.length):ps[j].cy=0/\ps[j].op≠3:=by
 obtain⟨k,e,i,g1,g2⟩:=h.1 _ List.mem_cons_self;have:j=k:=Ya
 subst this;rw [List.getElem?_eq_getElem hj] at g1;injection g1 with g1;rw [g1];exact g2
theorem Jd.set {ps:List bq} (h:Jd ps) {j:Nat} {y:bq} (hy:y.op≠3):Jd (ps.set j y):=λx hx h3=>by
 rcases List.mem_or_eq_of_mem_set hx with h1|h1;exact h x h1 h3;subst h1;exact absurd h3 hy
theorem OH.setA {a b c r:Int} {o cy:Int} (ho:o=5\/o=6) (h:OH ⟨o,a,b,c,cy⟩) (hr:0<=r/\r<4):OH ⟨o,r,b,c,cy⟩:=by
 obtain⟨h1,h2,h3⟩:=h;refine⟨?_,h2,h3⟩;rcases ho with rfl|rfl;simp [cW,ip,mZ,lj,mY,fG] at h1 ⊢;omega;simp [cW,ip,mZ,lj,mY,fG] at h1 ⊢;omega
theorem DX.v {b:Bool} {o:Int} (h:DX b o):1<=o/\o<=17:=by
 rcases h with h|⟨_,h⟩|⟨_,h⟩<;>omega
def PgJ (A0:AW) (ol:Option Addr) (cl:Nat) (l:List Int) (nh:Int) (heap plain:Bool) (i:Nat) (vp vj:qd) (b:Bool) (fr:Fr):Prop:=
 fr 0=qf ol l.length cl/\fr 1=qb qa nh/\fr 2=qn heap/\fr 3=qn plain/\fr 9=vp/\fr 10=qn b/\fr 11=vj/\fr 12=qb qa i
set_option maxHeartbeats 16000000 in
theorem pK (hn:Gl.N=4) (vl:qd) (l:List Int) (nh:Int) (heap plain:Bool) (A:AW) (h:bK A qa vl l) (hm:0<=nh/\nh<=1000) :
 aB qV 43 [vl,qb qa nh,qn heap,qn plain] A (λu A'=>∃p:List bq,p.length<=1001/\dV A.next A' 5 u p.length (p.flatMap az)/\A.le A'/\A'.Wf/\(nh<=64->(c8 p).2=0)/\Jd p):=by
 refine aK Tryz.func43 λhw=>?_;obtain⟨ol,cl,rfl,_⟩:=h.bR;have hws:qY.wrap (nh-1)=nh-1:=af Ya Ya;revert hw;refine W cx cx ?_<;>(unhygienic intros);refine mH (λfr A'=>∃(ps:List bq) (jl:List Int) (vp vj:qd) (b:Bool),ps.length<=1000/\jl.length<=1000/\fr 9=vp/\fr 10=qn b/\fr 11=vj/\PJ A A' vp vj ps jl ps.length/\oV ps b/\xM ps jl/\((ps.length:Int)<=nh-1\/ps.length=0)) ?_ ?_
 rotate_left
 . rintro fr A' ⟨ps,jl,vp,vj,b,Tk,zG,g9,mc,kZ,hJ,Qg,JQ,Wj⟩
   repeat' (first|(refine iT λR hR=>?_;simp [mc];try simp (disch:=omega) only [ay,aw,af,an])|(refine hR _ _ ?_;clear hR R)|(refine hK _ _ ?_;clear hK K)|refine nx ?_|refine wn λK hK=>?_|simp only [wS]|(refine haltc ?_))
   refine⟨?_⟩;refine On (λfr A'=>∃(ps:List bq) (vp:qd),ps.length<=1001/\fr 9=vp/\fr 11=vj/\PJ A A' vp vj ps jl ps.length/\(nh<=64->(c8 ps).2=0)/\xM ps jl/\Jd ps) ?_ ?_
   . cases b with
     | false=>
       refine W cx (J3 g9 mc kZ) ?_<;>intros;exact⟨ps,vp,by omega,by simp [g9],by simp [kZ],hJ,λhm6=>Qg.ok Ya,JQ,Qg.ez⟩
     | true=>
       obtain⟨HW,A5,e5,Tx⟩:=hJ.fW Ya ⟨8,0,0,0,0⟩;simp only [az] at e5;refine W cx (J4 g9 mc kZ e5) ?_<;>intros;have hG8:oV (ps++[⟨8,0,0,0,0⟩]) false:=oV.zM (x:=⟨8,0,0,0,0⟩) Qg ⟨by decide,by simp,by simp⟩ (by simp [DX]);have EV:ps.length=0->False:=λe=>by rw [List.eq_nil_of_length_eq_zero e] at Qg;have:=Qg.scan.1;simp [cD] at this
       exact⟨ps++[⟨8,0,0,0,0⟩],HW,by simp;omega,by simp,by simp [kZ],Tx.mono Yb,λhm6=>hG8.ok (by rw [List.length_append,List.length_singleton];rcases Wj with h1|h1<;>omega),JQ.zM ⟨8,0,0,0,0⟩,λx hx h3=>hG8.ez x hx h3⟩
   clear hJ g9 mc kZ Qg JQ Wj;rintro fr A' ⟨ps,vp,Tk,g9,kZ,hJ,hV,JQ,hAl⟩;obtain⟨oj,cj,hvj,_⟩:=hJ.Gq.is.bR;obtain⟨op,cp,xy,_⟩:=hJ.own.is.bR;subst xy;subst hvj;generalize Dy:ps.length=nl at g9 hJ Tk;revert hw;refine W cx (J2 g9 kZ) ?_<;>(unhygienic intros);refine df (λk fr A'=>∃(i:Nat) (ps:List bq),k=jl.length-i/\i<=jl.length/\ps.length=nl/\fr 9=qf op nl cp/\fr 11=qf oj jl.length cj/\fr 17=qb qa i/\PJ A A' (qf op nl cp) (qf oj jl.length cj) ps jl nl/\(nh<=64->(c8 ps).2=0)/\xM ps (jl.drop i)/\Jd ps) jl.length ?_ ?_;exact⟨0,ps,rfl,Zt _,Dy,by simp [g9],by simp [kZ],by simp,hJ,hV,JQ,hAl⟩;clear Dy hJ g9 kZ hV JQ hAl;rintro k fr A' ⟨i,ps,rfl,hi,Dy,g9,kZ,Tz,hJ,hV,JQ,hAl⟩;by_cases bY:i<jl.length;obtain⟨q,bS,wW,bO,hcell⟩:=hJ.Gq.is.at bY;subst wW;obtain⟨hr0,Ln⟩:=hJ.range jl[i] (List.getElem_mem bY);obtain⟨j,hj⟩:∃j:Nat,jl[i]=(j:Int):=⟨jl[i].toNat,by omega⟩
   rw [hj] at hcell Ln;have hjn:j<nl:=Ya;rw [List.drop_eq_getElem_cons bY,hj] at JQ;obtain⟨hz0,hz3⟩:=JQ.head (show j<ps.length by omega);have gC:=zd (i:=i);have hpa:∃pa,op=qc pa:=by
    rcases hJ.own with ⟨e,e2,_⟩|⟨p,c,bS,e,_⟩;omega;injection e with e _ _;exact⟨p,e⟩
   obtain⟨pa,rfl⟩:=hpa;obtain⟨A1,e1,hJ1⟩:=hJ.U5 1 Dy.symm (show j<ps.length by omega);have hal1:Jd (ps.set j { ps[j] with cy:=1 }):=hAl.set hz3;have hjl1:=JQ.set { ps[j] with cy:=1 };have hjl0:=JQ.set ps[j];rw [kaZ] at hjl0;obtain⟨ps1,hps1⟩:∃ps1,ps.set j { ps[j] with cy:=1 }=ps1:=⟨_,rfl⟩;have hback:∀h:j<ps1.length,ps1.set j { ps1[j] with cy:=0 }=ps:=by
    subst hps1;intro h;rw [List.set_set,List.getElem_set_self];have e:({ ({ ps[j] with cy:=1 }:bq) with cy:=0 }:bq)=ps[j]:=by
     generalize ps[j]=y at hz0;obtain⟨y1,y2,y3,y4,y5⟩:=y;dsimp only at hz0;subst hz0;rfl
    rw [e,kaZ]
   rw [hps1] at hJ1 hal1 hjl1;have hnl1:ps1.length=nl:=(by rw [<-hps1,List.length_set,Dy]);have cC:=Iz hn (qf (qc pa) nl cp) ps1 A1 (by have:=hJ1.own.is;unfold li;rw [hnl1] at this ⊢;exact this);unfold rm at cC;obtain⟨q2,row2,RJ,uo,DF⟩:=hJ1.Gq.is.at bY;injection RJ with RJ;subst RJ;rw [hj] at DF;have dw:jl.length-i=(jl.length-(i+1))+1:=Ya;by_cases z:(na ps1).2=0;refine aT ?_;refine W (J1 @cC) (E5 g9 kZ Tz bY gC bO hcell hjn e1 z) ?_<;>intros;exact⟨jl.length-(i+1),by omega,i+1,ps1,rfl,by omega,hnl1,by simp [g9],by simp [kZ],by simp,hJ1,λ_=>by rw [<-W3];exact z,hjl1,hal1⟩;obtain⟨A2,e2,Ur⟩:=hJ1.U5 0 hnl1.symm (show j<ps1.length by omega);refine aT ?_;refine W (J1 @cC) (mW g9 kZ Tz bY gC bO hcell uo DF hjn e1 e2 z) ?_<;>intros;rw [hback] at Ur;exact⟨jl.length-(i+1),by omega,i+1,ps,rfl,by omega,Dy,by simp [g9],by simp [kZ],by simp,Ur,hV,hjl0,hAl⟩;refine aT ?_;refine W cx (J4 g9 kZ Tz bY) ?_<;>intros
   refine⟨_,rfl,ps,by omega,?_,hJ.le,hJ.wf,hV,hAl⟩;have:=hJ.own;rw [Dy] at this ⊢;exact this
 refine df (λk fr A'=>∃(i:Nat) (ps:List bq) (jl:List Int) (vp vj:qd) (b:Bool),k=l.length-i/\i<=l.length/\i<=1000/\ps.length=i/\jl.length<=i/\PgJ A ol cl l nh heap plain i vp vj b fr/\PJ A A' vp vj ps jl ps.length/\oV ps b/\xM ps jl/\((ps.length:Int)<=nh-1\/ps.length=0)) l.length ?_ ?_;exact⟨0,[],[],_,_,false,rfl,Zt _,Zt _,rfl,Zt _,⟨rfl,rfl,rfl,rfl,rfl,rfl,rfl,rfl⟩,⟨dV.nil _ _ _,eE.nil _ _ _,by simp,by simp [ep],Zl A,hw⟩,.nil,xM.nil _,.inr rfl⟩;rintro k fr A' ⟨i,ps,jl,vp,vj,b,rfl,hi,hi9,Tk,zG,⟨g0,g1,g2,g3,g9,mc,kZ,sK⟩,hJ,Qg,JQ,Wj⟩;obtain⟨op,cp,xy,hcp⟩:=hJ.own.is.bR;have hvp0:=xy;by_cases bY:i<l.length
 . by_cases pe:(ps.length:Int)<nh-1
   . obtain⟨q,bS,wW,bO,hcell⟩:=(h.le hJ.le hw).at bY;subst wW;obtain⟨nn,hnn⟩:∃nn:Nat,q8.wrap l[i]=(nn:Int):=⟨(q8.wrap l[i]).toNat,by
      simp only [IntKind.wrap,IntKind.bits,kbj,Bool.false_and,Zg,if_false];omega⟩
     have hnn2:(nn:Int)<18446744073709551616:=by
      rw [<-hnn];simp only [IntKind.wrap,IntKind.bits,kbj,Bool.false_and,Zg,if_false];omega
     obtain⟨kd,xz⟩:∃kd,qY.wrap ((nn:Int).tmod 16)=kd:=⟨_,rfl⟩;have hkd0:0<=kd/\kd<16:=by
      rw [<-xz,ZI Ya,af Ya Ya];omega
     obtain⟨n1,C7⟩:∃n1:Nat,(nn:Int) / 16=(n1:Int):=⟨nn / 16,by omega⟩;have hn12:(n1:Int)<18446744073709551616:=Ya;have gC:=zd (i:=i);have dw:l.length-i=(l.length-(i+1))+1:=Ya;refine aT ?_
     repeat' (first|(refine halt2 ?_)|(refine iT λR hR=>?_;simp [g0,g1,g9,sK,xy,bY,pe,hws,bO,hcell,hnn,xz,C7];try simp (disch:=omega) only [an])|(refine hR _ _ ?_;clear hR R)|(refine hK _ _ ?_;clear hK K)|refine nx ?_|refine wn λK hK=>?_|simp only [wS]|(show cM _ _ _ _ _ _;refine nx ?_)|(refine wc rfl (λhc=>?_) (λhc=>?_)<;>(try simp at hc)))
     refine⟨?_⟩;refine On (λfr2 A2=>∃(o:Int) (n2:Nat),(n2:Int)<18446744073709551616/\fr2 15=qb qa o/\fr2 13=qb .u64 n2/\PgJ A (qc q) cl l nh heap plain i vp vj b fr2/\A'.le A2/\A2.Wf/\DX b o) ?_ ?_
     . have RN:(n1:Int).tmod 3=((n1 % 3:Nat):Int):=(by rw [ZI Ya];omega);have We:(n1:Int).tmod 5=((n1 % 5:Nat):Int):=(by rw [ZI Ya];omega);obtain⟨n3,Up⟩:∃n3:Nat,(n1:Int) / 3=(n3:Int):=⟨n1 / 3,by omega⟩;obtain⟨n5,Uo⟩:∃n5:Nat,(n1:Int) / 5=(n5:Int):=⟨n1 / 5,by omega⟩;have hr3:n1 % 3=0\/n1 % 3=1\/n1 % 3=2:=Ya;have hr5:n1 % 5=0\/n1 % 5=1\/n1 % 5=2\/n1 % 5=3\/n1 % 5=4:=Ya;have hv3:(n3:Int)<18446744073709551616:=Ya;have hv5:(n5:Int)<18446744073709551616:=Ya;by_cases k1:kd<2
       . rcases hr3 with hr|hr|hr<;>rw [hr] at RN
         . skip
           refine W cx (y9 g0 g1 g2 g3 g9 mc kZ sK xy xz k1 RN Up @AW.ab) ?_<;>intros
           all_goals(refine ⟨_,_,?_,rfl,rfl,⟨by simp [g0],by simp [g1],by simp [g2],by simp [g3],by simp [g9],by simp [mc],by simp [kZ],by simp [sK]⟩,?_,?_,?_⟩<;>first|exact qW _ _|exact hJ.wf.alloc _|omega|(simp [DX];done))
         . skip
           refine W cx (y9 g0 g1 g2 g3 g9 mc kZ sK xy xz k1 RN Up @AW.ab) ?_<;>intros
           all_goals(refine ⟨_,_,?_,rfl,rfl,⟨by simp [g0],by simp [g1],by simp [g2],by simp [g3],by simp [g9],by simp [mc],by simp [kZ],by simp [sK]⟩,?_,?_,?_⟩<;>first|exact qW _ _|exact hJ.wf.alloc _|omega|(simp [DX];done))
         skip
         refine W cx (y9 g0 g1 g2 g3 g9 mc kZ sK xy xz k1 RN Up @AW.ab) ?_<;>intros
         all_goals(refine ⟨_,_,?_,rfl,rfl,⟨by simp [g0],by simp [g1],by simp [g2],by simp [g3],by simp [g9],by simp [mc],by simp [kZ],by simp [sK]⟩,?_,?_,?_⟩<;>first|exact qW _ _|exact hJ.wf.alloc _|omega|(simp [DX];done))
       by_cases k2:kd=2/\0<ps.length
       . obtain⟨k2,k3⟩:=k2;subst k2;rcases hr3 with hr|hr|hr<;>rw [hr] at RN
         . skip
           refine W cx (y9 g0 g1 g2 g3 g9 mc kZ sK xy xz k3 RN Up @AW.ab) ?_<;>intros
           all_goals(refine ⟨_,_,?_,rfl,rfl,⟨by simp [g0],by simp [g1],by simp [g2],by simp [g3],by simp [g9],by simp [mc],by simp [kZ],by simp [sK]⟩,?_,?_,?_⟩<;>first|exact qW _ _|exact hJ.wf.alloc _|omega|(simp [DX];done))
         . skip
           refine W cx (y9 g0 g1 g2 g3 g9 mc kZ sK xy xz k3 RN Up @AW.ab) ?_<;>intros
           all_goals(refine ⟨_,_,?_,rfl,rfl,⟨by simp [g0],by simp [g1],by simp [g2],by simp [g3],by simp [g9],by simp [mc],by simp [kZ],by simp [sK]⟩,?_,?_,?_⟩<;>first|exact qW _ _|exact hJ.wf.alloc _|omega|(simp [DX];done))
         skip
         refine W cx (y9 g0 g1 g2 g3 g9 mc kZ sK xy xz k3 RN Up @AW.ab) ?_<;>intros
         all_goals(refine ⟨_,_,?_,rfl,rfl,⟨by simp [g0],by simp [g1],by simp [g2],by simp [g3],by simp [g9],by simp [mc],by simp [kZ],by simp [sK]⟩,?_,?_,?_⟩<;>first|exact qW _ _|exact hJ.wf.alloc _|omega|(simp [DX];done))
       have k3:kd=2->¬0<ps.length:=λh1 h2=>k2 ⟨h1,h2⟩;clear k2;cases b with
       | false=>
         cases plain with
         | true=>
           by_cases k4:kd<7
           . rcases hr5 with hr|hr|hr|hr|hr<;>rw [hr] at We
             . by_cases k5:kd=2
               . have k6:=k3 k5;subst k5;refine W cx (y9 g0 g1 g2 g3 g9 mc kZ sK xy xz k6 We Uo @AW.ab) ?_<;>intros
                 all_goals(refine ⟨_,_,?_,rfl,rfl,⟨by simp [g0],by simp [g1],by simp [g2],by simp [g3],by simp [g9],by simp [mc],by simp [kZ],by simp [sK]⟩,?_,?_,?_⟩<;>first|exact qW _ _|exact hJ.wf.alloc _|omega|(simp [DX];done))
               skip
               refine W cx (Mg g0 g1 g2 g3 g9 mc kZ sK xy xz k1 k4 k5 We Uo @AW.ab) ?_<;>intros
               all_goals(refine ⟨_,_,?_,rfl,rfl,⟨by simp [g0],by simp [g1],by simp [g2],by simp [g3],by simp [g9],by simp [mc],by simp [kZ],by simp [sK]⟩,?_,?_,?_⟩<;>first|exact qW _ _|exact hJ.wf.alloc _|omega|(simp [DX];done))
             . by_cases k5:kd=2
               . have k6:=k3 k5;subst k5;refine W cx (y9 g0 g1 g2 g3 g9 mc kZ sK xy xz k6 We Uo @AW.ab) ?_<;>intros
                 all_goals(refine ⟨_,_,?_,rfl,rfl,⟨by simp [g0],by simp [g1],by simp [g2],by simp [g3],by simp [g9],by simp [mc],by simp [kZ],by simp [sK]⟩,?_,?_,?_⟩<;>first|exact qW _ _|exact hJ.wf.alloc _|omega|(simp [DX];done))
               skip
               refine W cx (Mg g0 g1 g2 g3 g9 mc kZ sK xy xz k1 k4 k5 We Uo @AW.ab) ?_<;>intros
               all_goals(refine ⟨_,_,?_,rfl,rfl,⟨by simp [g0],by simp [g1],by simp [g2],by simp [g3],by simp [g9],by simp [mc],by simp [kZ],by simp [sK]⟩,?_,?_,?_⟩<;>first|exact qW _ _|exact hJ.wf.alloc _|omega|(simp [DX];done))
             . by_cases k5:kd=2
               . have k6:=k3 k5;subst k5;refine W cx (y9 g0 g1 g2 g3 g9 mc kZ sK xy xz k6 We Uo @AW.ab) ?_<;>intros
                 all_goals(refine ⟨_,_,?_,rfl,rfl,⟨by simp [g0],by simp [g1],by simp [g2],by simp [g3],by simp [g9],by simp [mc],by simp [kZ],by simp [sK]⟩,?_,?_,?_⟩<;>first|exact qW _ _|exact hJ.wf.alloc _|omega|(simp [DX];done))
               skip
               refine W cx (Mg g0 g1 g2 g3 g9 mc kZ sK xy xz k1 k4 k5 We Uo @AW.ab) ?_<;>intros
               all_goals(refine ⟨_,_,?_,rfl,rfl,⟨by simp [g0],by simp [g1],by simp [g2],by simp [g3],by simp [g9],by simp [mc],by simp [kZ],by simp [sK]⟩,?_,?_,?_⟩<;>first|exact qW _ _|exact hJ.wf.alloc _|omega|(simp [DX];done))
             . by_cases k5:kd=2
               . have k6:=k3 k5;subst k5;refine W cx (y9 g0 g1 g2 g3 g9 mc kZ sK xy xz k6 We Uo @AW.ab) ?_<;>intros
                 all_goals(refine ⟨_,_,?_,rfl,rfl,⟨by simp [g0],by simp [g1],by simp [g2],by simp [g3],by simp [g9],by simp [mc],by simp [kZ],by simp [sK]⟩,?_,?_,?_⟩<;>first|exact qW _ _|exact hJ.wf.alloc _|omega|(simp [DX];done))
               skip
               refine W cx (Mg g0 g1 g2 g3 g9 mc kZ sK xy xz k1 k4 k5 We Uo @AW.ab) ?_<;>intros
               all_goals(refine ⟨_,_,?_,rfl,rfl,⟨by simp [g0],by simp [g1],by simp [g2],by simp [g3],by simp [g9],by simp [mc],by simp [kZ],by simp [sK]⟩,?_,?_,?_⟩<;>first|exact qW _ _|exact hJ.wf.alloc _|omega|(simp [DX];done))
             by_cases k5:kd=2
             . have k6:=k3 k5;subst k5;refine W cx (y9 g0 g1 g2 g3 g9 mc kZ sK xy xz k6 We Uo @AW.ab) ?_<;>intros
               all_goals(refine ⟨_,_,?_,rfl,rfl,⟨by simp [g0],by simp [g1],by simp [g2],by simp [g3],by simp [g9],by simp [mc],by simp [kZ],by simp [sK]⟩,?_,?_,?_⟩<;>first|exact qW _ _|exact hJ.wf.alloc _|omega|(simp [DX];done))
             skip
             refine W cx (Mg g0 g1 g2 g3 g9 mc kZ sK xy xz k1 k4 k5 We Uo @AW.ab) ?_<;>intros
             all_goals(refine ⟨_,_,?_,rfl,rfl,⟨by simp [g0],by simp [g1],by simp [g2],by simp [g3],by simp [g9],by simp [mc],by simp [kZ],by simp [sK]⟩,?_,?_,?_⟩<;>first|exact qW _ _|exact hJ.wf.alloc _|omega|(simp [DX];done))
           have k5:¬kd=2:=Ya;refine W cx (y9 g0 g1 g2 g3 g9 mc kZ sK xy xz k1 k4 k5 @AW.ab) (J2 ?_ ?_)<;>intros
           all_goals(refine ⟨_,_,?_,rfl,rfl,⟨by simp [g0],by simp [g1],by simp [g2],by simp [g3],by simp [g9],by simp [mc],by simp [kZ],by simp [sK]⟩,?_,?_,?_⟩<;>first|exact Zl _|exact hJ.wf|omega|(simp [DX];done))
         | false=>
           by_cases k5:kd=2
           . have k6:=k3 k5;subst k5;refine W cx (vZ g0 g1 g2 g3 g9 mc kZ sK xy xz k6 @AW.ab) ?_<;>intros
             all_goals(refine ⟨_,_,?_,rfl,rfl,⟨by simp [g0],by simp [g1],by simp [g2],by simp [g3],by simp [g9],by simp [mc],by simp [kZ],by simp [sK]⟩,?_,?_,?_⟩<;>first|exact Zl _|exact hJ.wf|omega|(simp [DX];done))
           skip
           refine W cx (mW g0 g1 g2 g3 g9 mc kZ sK xy xz k1 k5 @AW.ab) (J3 ?_ ?_ ?_)<;>intros
           all_goals(refine ⟨_,_,?_,rfl,rfl,⟨by simp [g0],by simp [g1],by simp [g2],by simp [g3],by simp [g9],by simp [mc],by simp [kZ],by simp [sK]⟩,?_,?_,?_⟩<;>first|exact Zl _|exact hJ.wf|omega|(simp [DX];done))
       | true=>
         have hm4:(n1:Int).tmod 4=((n1 % 4:Nat):Int):=(by rw [ZI Ya];omega);by_cases k5:kd=2
         . have k6:=k3 k5;subst k5;refine W cx (vZ g0 g1 g2 g3 g9 mc kZ sK xy xz k6 @AW.ab) ?_<;>intros
           all_goals(refine ⟨_,_,?_,rfl,rfl,⟨by simp [g0],by simp [g1],by simp [g2],by simp [g3],by simp [g9],by simp [mc],by simp [kZ],by simp [sK]⟩,?_,?_,?_⟩<;>first|exact Zl _|exact hJ.wf|omega|(simp [DX];done))
         skip
         refine W cx (y9 g0 g1 g2 g3 g9 mc kZ sK xy xz k1 k5 hm4 @AW.ab) (J9 ?_ ?_ ?_ ?_ ?_ ?_ ?_ ?_ ?_)<;>intros
         all_goals(refine ⟨_,_,?_,rfl,rfl,⟨by simp [g0],by simp [g1],by simp [g2],by simp [g3],by simp [g9],by simp [mc],by simp [kZ],by simp [sK]⟩,?_,?_,?_⟩<;>first|exact Zl _|exact hJ.wf|omega|(simp [DX];done))
     rintro fr2 A2 ⟨o,n2,yt,f15,f13,⟨f0,f1,f2,f3,f9,Mw,Uu,Mv⟩,Lt,jE,hOp⟩;clear hnn hnn2 xz hkd0 C7 hn12 bO hcell;subst xy;obtain⟨x,hx,hIG0,cI⟩:=Ll o n2 yt;have Ur:=hJ.grow Lt jE;obtain⟨ra,OP⟩:∃ra,qY.wrap ((n2:Int).tmod 4)=ra:=⟨_,rfl⟩;have hra0:0<=ra/\ra<4:=(by rw [<-OP,ZI Ya,af Ya Ya];omega);obtain⟨xo,xa,xb,xc,xi⟩:=x;simp only at hx;subst hx;simp only [az] at cI;have hIG:=hIG0 hOp.v;clear hIG0;have hz:∀O O',((A2.alloc O).set A2.next O').Wf:=λO O'=>(jE.alloc O).set _ Yb;by_cases o5:xo=5
     . subst o5;obtain⟨A3,N0⟩:∃A3,((A2.alloc (qi [qb qa 0,qb qa 0,qb qa 0,qb qa 0,qb qa 0] qg 1)).set A2.next (qc (qi [qb qa 5,qb qa xa,qb qa xb,qb qa xc,qb qa xi] qg 1))).set A2.next (qc (qi [qb qa 5,qb qa ra,qb qa xb,qb qa xc,qb qa xi] qg 1))=A3:=⟨_,rfl⟩;have yA:(A2.alloc (qi [qb qa 0,qb qa 0,qb qa 0,qb qa 0,qb qa 0] qg 1)).set A2.next (qc (qi [qb qa 5,qb qa ra,qb qa xb,qb qa xc,qb qa xi] qg 1))=A3:=(by rw [<-N0,AW.set_set]);have WB:PJ A A3 (qf op ps.length cp) vj ps jl ps.length:=YH;have xS:A3.bk A2.next=qc (qi [qb qa 5,qb qa ra,qb qa xb,qb qa xc,qb qa xi] qg 1):=YI;obtain⟨vj',A4,e4,hJ4,yy,-⟩:=WB.PQ Ya xS (Ur.ne (qZ _));obtain⟨HW,A5,e5,Tx⟩:=hJ4.fW Ya ⟨5,ra,xb,xc,xi⟩
       simp only [az] at e5
       repeat' (first|(refine iT λR hR=>?_;simp [f9,Uu,Mv,f13,f15,OP,gC,AW.ab,aG,N0,e4,yy,e5];try simp (disch:=omega) only [ay,aw,af,an])|(refine hR _ _ ?_;clear hR R)|(refine hK _ _ ?_;clear hK K)|refine nx ?_|refine wn λK hK=>?_|simp only [wS]|(refine bD (cI _) ?_;rintro _ _ ⟨rfl,rfl⟩ _ _)|(show cM _ _ _ _ _ _;refine nx ?_)|(refine wc rfl (λhc=>?_) (λhc=>?_)<;>(try simp at hc)))
       refine⟨l.length-(i+1),by omega,i+1,ps++[⟨5,ra,xb,xc,xi⟩],(jl++[(ps.length:Int)]),HW,vj',b,rfl,by omega,by omega,by simp [Tk],by (simp;omega),⟨?_,?_,?_,?_,?_,?_,?_,?_⟩,?_,?_,?_,qq YJ⟩
       iterate 8 simp [f0,f1,f2,f3,Mw]
       exact Tx.mono Yb;exact oV.zM (x:=⟨5,ra,xb,xc,xi⟩) Qg (OH.setA Ya hIG hra0) hOp;exact JQ.PQ (x:=⟨5,ra,xb,xc,xi⟩) (hIG.j Yb) Yb
     by_cases o6:xo=6
     . subst o6;obtain⟨A3,N0⟩:∃A3,((A2.alloc (qi [qb qa 0,qb qa 0,qb qa 0,qb qa 0,qb qa 0] qg 1)).set A2.next (qc (qi [qb qa 6,qb qa xa,qb qa xb,qb qa xc,qb qa xi] qg 1))).set A2.next (qc (qi [qb qa 6,qb qa ra,qb qa xb,qb qa xc,qb qa xi] qg 1))=A3:=⟨_,rfl⟩;have yA:(A2.alloc (qi [qb qa 0,qb qa 0,qb qa 0,qb qa 0,qb qa 0] qg 1)).set A2.next (qc (qi [qb qa 6,qb qa ra,qb qa xb,qb qa xc,qb qa xi] qg 1))=A3:=(by rw [<-N0,AW.set_set]);have WB:PJ A A3 (qf op ps.length cp) vj ps jl ps.length:=YH;have xS:A3.bk A2.next=qc (qi [qb qa 6,qb qa ra,qb qa xb,qb qa xc,qb qa xi] qg 1):=YI;obtain⟨vj',A4,e4,hJ4,yy,-⟩:=WB.PQ Ya xS (Ur.ne (qZ _));obtain⟨HW,A5,e5,Tx⟩:=hJ4.fW Ya ⟨6,ra,xb,xc,xi⟩
       simp only [az] at e5
       repeat' (first|(refine iT λR hR=>?_;simp [f9,Uu,Mv,f13,f15,OP,gC,AW.ab,aG,N0,e4,yy,e5,o5];try simp (disch:=omega) only [ay,aw,af,an])|(refine hR _ _ ?_;clear hR R)|(refine hK _ _ ?_;clear hK K)|refine nx ?_|refine wn λK hK=>?_|simp only [wS]|(refine bD (cI _) ?_;rintro _ _ ⟨rfl,rfl⟩ _ _)|(show cM _ _ _ _ _ _;refine nx ?_)|(refine wc rfl (λhc=>?_) (λhc=>?_)<;>(try simp at hc)))
       refine⟨l.length-(i+1),by omega,i+1,ps++[⟨6,ra,xb,xc,xi⟩],(jl++[(ps.length:Int)]),HW,vj',b,rfl,by omega,by omega,by simp [Tk],by (simp;omega),⟨?_,?_,?_,?_,?_,?_,?_,?_⟩,?_,?_,?_,qq YJ⟩
       iterate 8 simp [f0,f1,f2,f3,Mw]
       exact Tx.mono Yb;exact oV.zM (x:=⟨6,ra,xb,xc,xi⟩) Qg (OH.setA Ya hIG hra0) hOp;exact JQ.PQ (x:=⟨6,ra,xb,xc,xi⟩) (hIG.j Yb) Yb
     by_cases o4:xo=4
     . subst o4;obtain⟨A3,N0⟩:∃A3,(A2.alloc (qi [qb qa 0,qb qa 0,qb qa 0,qb qa 0,qb qa 0] qg 1)).set A2.next (qc (qi [qb qa 4,qb qa xa,qb qa xb,qb qa xc,qb qa xi] qg 1))=A3:=⟨_,rfl⟩;have yA:=N0;have WB:PJ A A3 (qf op ps.length cp) vj ps jl ps.length:=YH;have xS:A3.bk A2.next=qc (qi [qb qa 4,qb qa xa,qb qa xb,qb qa xc,qb qa xi] qg 1):=YI;obtain⟨vj',A4,e4,hJ4,yy,-⟩:=WB.PQ Ya xS (Ur.ne (qZ _));obtain⟨HW,A5,e5,Tx⟩:=hJ4.fW Ya ⟨4,xa,xb,xc,xi⟩;simp only [az] at e5
       repeat' (first|(refine iT λR hR=>?_;simp [f9,Uu,Mv,f13,f15,gC,AW.ab,aG,N0,e4,yy,e5,o5,o6];try simp (disch:=omega) only [ay,aw,af,an])|(refine hR _ _ ?_;clear hR R)|(refine hK _ _ ?_;clear hK K)|refine nx ?_|refine wn λK hK=>?_|simp only [wS]|(refine bD (cI _) ?_;rintro _ _ ⟨rfl,rfl⟩ _ _)|(show cM _ _ _ _ _ _;refine nx ?_)|(refine wc rfl (λhc=>?_) (λhc=>?_)<;>(try simp at hc)))
       refine⟨l.length-(i+1),by omega,i+1,ps++[⟨4,xa,xb,xc,xi⟩],(jl++[(ps.length:Int)]),HW,vj',b,rfl,by omega,by omega,by simp [Tk],by (simp;omega),⟨?_,?_,?_,?_,?_,?_,?_,?_⟩,?_,?_,?_,qq YJ⟩
       iterate 8 simp [f0,f1,f2,f3,Mw]
       exact Tx.mono Yb;exact oV.zM (x:=⟨4,xa,xb,xc,xi⟩) Qg (hIG) hOp;exact JQ.PQ (x:=⟨4,xa,xb,xc,xi⟩) (hIG.j Yb) Yb
     by_cases o7:xo=7
     . subst o7;obtain⟨A3,N0⟩:∃A3,(A2.alloc (qi [qb qa 0,qb qa 0,qb qa 0,qb qa 0,qb qa 0] qg 1)).set A2.next (qc (qi [qb qa 7,qb qa xa,qb qa xb,qb qa xc,qb qa xi] qg 1))=A3:=⟨_,rfl⟩;have yA:=N0;have WB:PJ A A3 (qf op ps.length cp) vj ps jl ps.length:=YH;have xS:A3.bk A2.next=qc (qi [qb qa 7,qb qa xa,qb qa xb,qb qa xc,qb qa xi] qg 1):=YI;obtain⟨HW,A5,e5,Tx⟩:=WB.fW Ya ⟨7,xa,xb,xc,xi⟩;simp only [az] at e5
       repeat' (first|(refine iT λR hR=>?_;simp [f9,Mv,f13,f15,gC,AW.ab,aG,N0,xS,e5,o5,o6,o4];try simp (disch:=omega) only [ay,aw,af,an])|(refine hR _ _ ?_;clear hR R)|(refine hK _ _ ?_;clear hK K)|refine nx ?_|refine wn λK hK=>?_|simp only [wS]|(refine bD (cI _) ?_;rintro _ _ ⟨rfl,rfl⟩ _ _)|(show cM _ _ _ _ _ _;refine nx ?_)|(refine wc rfl (λhc=>?_) (λhc=>?_)<;>(try simp at hc)))
       refine⟨l.length-(i+1),by omega,i+1,ps++[⟨7,xa,xb,xc,xi⟩],jl,HW,vj,qg,rfl,by omega,by omega,by simp [Tk],by omega,⟨?_,?_,?_,?_,?_,?_,?_,?_⟩,?_,?_,?_,qq YJ⟩
       iterate 8 simp [f0,f1,f2,f3,Uu]
       exact Tx.mono Yb;exact oV.zM (x:=⟨7,xa,xb,xc,xi⟩) Qg (hIG) hOp;exact JQ.zM _
     by_cases o8:xo=8
     . subst o8;obtain⟨A3,N0⟩:∃A3,(A2.alloc (qi [qb qa 0,qb qa 0,qb qa 0,qb qa 0,qb qa 0] qg 1)).set A2.next (qc (qi [qb qa 8,qb qa xa,qb qa xb,qb qa xc,qb qa xi] qg 1))=A3:=⟨_,rfl⟩;have yA:=N0;have WB:PJ A A3 (qf op ps.length cp) vj ps jl ps.length:=YH;have xS:A3.bk A2.next=qc (qi [qb qa 8,qb qa xa,qb qa xb,qb qa xc,qb qa xi] qg 1):=YI;obtain⟨HW,A5,e5,Tx⟩:=WB.fW Ya ⟨8,xa,xb,xc,xi⟩;simp only [az] at e5
       repeat' (first|(refine iT λR hR=>?_;simp [f9,Mv,f13,f15,gC,AW.ab,aG,N0,xS,e5,o5,o6,o4,o7];try simp (disch:=omega) only [ay,aw,af,an])|(refine hR _ _ ?_;clear hR R)|(refine hK _ _ ?_;clear hK K)|refine nx ?_|refine wn λK hK=>?_|simp only [wS]|(refine bD (cI _) ?_;rintro _ _ ⟨rfl,rfl⟩ _ _)|(show cM _ _ _ _ _ _;refine nx ?_)|(refine wc rfl (λhc=>?_) (λhc=>?_)<;>(try simp at hc)))
       refine⟨l.length-(i+1),by omega,i+1,ps++[⟨8,xa,xb,xc,xi⟩],jl,HW,vj,false,rfl,by omega,by omega,by simp [Tk],by omega,⟨?_,?_,?_,?_,?_,?_,?_,?_⟩,?_,?_,?_,qq YJ⟩
       iterate 8 simp [f0,f1,f2,f3,Uu]
       exact Tx.mono Yb;exact oV.zM (x:=⟨8,xa,xb,xc,xi⟩) Qg (hIG) hOp;exact JQ.zM _
     obtain⟨A3,N0⟩:∃A3,(A2.alloc (qi [qb qa 0,qb qa 0,qb qa 0,qb qa 0,qb qa 0] qg 1)).set A2.next (qc (qi [qb qa xo,qb qa xa,qb qa xb,qb qa xc,qb qa xi] qg 1))=A3:=⟨_,rfl⟩;have yA:=N0;have WB:PJ A A3 (qf op ps.length cp) vj ps jl ps.length:=YH;have xS:A3.bk A2.next=qc (qi [qb qa xo,qb qa xa,qb qa xb,qb qa xc,qb qa xi] qg 1):=YI;obtain⟨HW,A5,e5,Tx⟩:=WB.fW Ya ⟨xo,xa,xb,xc,xi⟩;simp only [az] at e5
     repeat' (first|(refine iT λR hR=>?_;simp [f9,Mv,f13,f15,gC,AW.ab,aG,N0,xS,e5,o5,o6,o4,o7,o8];try simp (disch:=omega) only [ay,aw,af,an])|(refine hR _ _ ?_;clear hR R)|(refine hK _ _ ?_;clear hK K)|refine nx ?_|refine wn λK hK=>?_|simp only [wS]|(refine bD (cI _) ?_;rintro _ _ ⟨rfl,rfl⟩ _ _)|(show cM _ _ _ _ _ _;refine nx ?_)|(refine wc rfl (λhc=>?_) (λhc=>?_)<;>(try simp at hc)))
     refine⟨l.length-(i+1),by omega,i+1,ps++[⟨xo,xa,xb,xc,xi⟩],jl,HW,vj,b,rfl,by omega,by omega,by simp [Tk],by omega,⟨?_,?_,?_,?_,?_,?_,?_,?_⟩,?_,?_,?_,qq YJ⟩
     iterate 8 simp [f0,f1,f2,f3,Mw,Uu]
     exact Tx.mono Yb;have hg:=oV.zM Qg hIG hOp;rw [show opN b xo=b by simp [opN,o7,o8]] at hg;exact hg;exact JQ.zM _
   refine aT ?_;refine W cx (vZ g0 g1 g2 g3 g9 mc kZ sK xy bY pe hws) ?_<;>intros;exact⟨ps,jl,vp,vj,b,by omega,by omega,by simp [g9,xy],by simp [mc],by simp [kZ],hJ,Qg,JQ,Wj⟩
 refine aT ?_;refine W cx (H7 g0 g1 g2 g3 g9 mc kZ sK xy bY hws) ?_<;>intros;exact⟨ps,jl,vp,vj,b,by omega,by omega,by simp [g9,xy],by simp [mc],by simp [kZ],hJ,Qg,JQ,Wj⟩
end
end Go.Stx
