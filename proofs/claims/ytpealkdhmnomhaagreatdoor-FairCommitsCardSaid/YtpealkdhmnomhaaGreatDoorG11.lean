/-
 Layout at valid configurations: first addresses by counting, and the search for a block.
-/
import Derived.Test.YtpealkdhmnomhaaGreatDoorG10
set_option linter.unusedVariables false
set_option linter.unusedSimpArgs false
set_option linter.unusedSectionVars false
set_option maxRecDepth 20000
set_option maxHeartbeats 4000000
open Go.IntKind renaming i64->qY,u64->q8
open Go.Proofs.Tryz renaming prog->qV
open Go.Stx.AW.le renaming alloc->qW
open Go.Value renaming int->Zb
open List renaming append_assoc->kaS,drop_zero->ZO,ext_getElem?->kaD,getD_eq_getElem?_getD->Za,getElem?_eq_getElem->q9,getElem?_set_ne->Z6,getElem?_set_self->ZV,length_replicate->kbe,mem_range->Zn,range->Zp,replicate->qX
open Bool renaming false->qk,true->qg
open Go renaming Value->qd
open Go.IntKind renaming i64->qa,u64->qj
open Go.Stx.eh renaming cells->qi
open Go.Value renaming bool->qn,int->qb,pointer->qm,slice->qf
open Option renaming none->qh,some->qc
namespace Go.Stx
open Go Go.Proofs
attribute [local irreducible] TW bI cM aV aB aL cU dh
section
open T7
variable [Gl]
theorem Qp {c:aY} {a:Int} (h:∀b:Nat,(b:Int)<c.nb->jg c b≠a):lY c a = -1:=by
 unfold lY;have:(Zp c.nb.toNat).find? (λb:Nat=>jg c (b:Int) == a)=qh:=by
  rw [List.find?_eq_none];intro x hx;have:=Zn.1 hx
  simpa using h x Ya
 rw [this]
theorem Qo {c:aY} {a:Int} {b:Nat} (hb:(b:Int)<c.nb) (h:jg c b=a) (h':∀j:Nat,j<b->jg c j≠a):lY c a=b:=by
 unfold lY;have:(Zp c.nb.toNat).find? (λb:Nat=>jg c (b:Int) == a)=qc b:=by
  rw [List.find?_eq_some_iff_append];refine⟨by simpa using h,Zp b,(Zp (c.nb.toNat-b-1)).map (·+ (b+1)),?_,λx hx=>?_⟩;have:c.nb.toNat=b+(1+(c.nb.toNat-b-1)):=Ya
  rw [this,List.range_add,List.range_add];simp;intro q _;omega;have:=Zn.1 hx
  simpa using h' x this
 rw [this]
theorem TC (c:aY) (hc:da c) (a:Int) (A:AW):aB qV 252 [c.v,qb qj a] A (λv A'=>v=qb qa (lY c a)/\A=A'):=by
 refine aB.tF (V:=qb qa (lY c a)) Yb (λhw=>?_) Ye;refine aK Tryz.func252 λ_=>?_;obtain⟨w0,w1⟩:=hc.bg;obtain⟨r0,r1⟩:=hc.av;obtain⟨k0,Ej⟩:=hc.k0;obtain⟨k1,GF⟩:=hc.k1;obtain⟨k2,JJ⟩:=hc.k2;obtain⟨k3,ND⟩:=hc.k3;obtain⟨b0,b1⟩:=hc.base;obtain⟨x0,x1⟩:=hc.reads;obtain⟨y0,y1⟩:=hc.bU;obtain⟨z0,z1⟩:=hc.ar;obtain⟨u0,u1⟩:=hc.aA;obtain⟨t0,t1⟩:=hc.aC;have kn:=hc.nb;have kf:=hc.WK;have e:c.nb=c.c0+c.c1+c.c2+c.c3:=rfl;have e':c.hw=c.c0+c.c1*2+c.c2*4+c.c3*8:=rfl;have hh:=yU c hc;have As:=λb hb=>He c hc b hb;have GR:0<=c.nb:=Ya
 obtain⟨n,hn⟩:∃n:Nat,c.nb=n:=⟨c.nb.toNat,by omega⟩;have hn':n<=64:=Ya
 rw [hn] at hh;dsimp only [aY.v] at hh As ⊢;revert hw;(repeat revert hc);refine W (J1 @hh) (J1 bC) ?_<;>(unhygienic intros);refine df (λk fr A'=>A'=A.alloc (qi c.cells qg 1)/\∃i:Nat,k=n-i/\i<=n/\fr 1=qb qj a/\fr 2=qm (qc ⟨A.next,0,qh⟩)/\fr 7=qb qa n/\fr 8=qb qa i/\∀j:Nat,j<i->jg c j≠a) n ?_ ?_;refine⟨rfl,0,by simp,by simp,rfl,rfl,rfl,rfl,by simp⟩;rintro k fr A' ⟨rfl,i,rfl,hi,h1,h2,h7,h8,hj⟩;dsimp only [aY.cells];by_cases bY:i<n
 . have fo:(i:Int)<n:=Ya;have gC:=zd (i:=i);have hf:=Cs hc i Ya;have hp:(0:Int)<2 ^ (dN c i).toNat:=Int.pow_pos Ya;have hwf:q8.wrap (jg c i)=jg c i:=an Ya Ya;refine aT ?_;by_cases hx:jg c i=a
   . repeat' (first|(refine iT λR hR=>?_;simp [h1,h2,h7,h8,fo,hx,AW.ab];try simp (disch:=omega) only [an])|(refine hR _ _ ?_;clear hR R)|(refine hK _ _ ?_;clear hK K)|refine nx ?_|refine wn λK hK=>?_|simp only [wS]|(refine bD (As _ Ya _) ?_;rintro _ _ ⟨rfl,rfl⟩ _ _)|(show cM _ _ _ _ _ _;refine nx ?_)|(refine wc rfl (λhc=>?_) (λhc=>?_)<;>(try simp at hc)))
     refine⟨_,by (simp;rfl),by rw [Qo Ya hx hj],qW _ _⟩
   . repeat' (first|(refine iT λR hR=>?_;simp [h1,h2,h7,h8,fo,gC,hwf,hx,AW.ab];try simp (disch:=omega) only [ay,aw,af,an])|(refine hR _ _ ?_;clear hR R)|(refine hK _ _ ?_;clear hK K)|refine nx ?_|refine wn λK hK=>?_|simp only [wS]|(refine bD (As _ Ya _) ?_;rintro _ _ ⟨rfl,rfl⟩ _ _)|(show cM _ _ _ _ _ _;refine nx ?_)|(refine wc rfl (λhc=>?_) (λhc=>?_)<;>(try simp at hc)))
     refine⟨n-(i+1),by omega,rfl,i+1,rfl,by omega,by simp [h1],by simp [h2],by simp [h7],by simp,λj kh=>?_⟩;by_cases e:j=i;subst e;exact hx;exact hj j Ya
 have fo:¬(i:Int)<n:=Ya
 refine aT ?_;refine W (J1 @hh) (J7 h1 h2 h7 h8 bY fo bC) ?_<;>intros;refine⟨_,by (simp;rfl),by rw [Qp λb hb=>hj b Ya],qW _ _⟩
end
section
open T7
variable [Gl]
theorem Nm (n:Int) (A:AW) (hn:0<=n/\n<=32):aB qV 245 [qb qa n] A (λv A'=>v=qm (qc ⟨A.next,0,qh⟩)/\A'=A.alloc (xZ n.toNat (qf qh 0 0))):=by
 refine aK Tryz.func245 λ_=>?_;obtain⟨k,rfl⟩:∃k:Nat,n=k:=⟨n.toNat,by omega⟩;have e1:min (k:Int) 32=k:=Ya
 have e2:max 0 (k:Int)=k:=Ya
 have e3:(if 0<k then (k:Int) else 0)=k:=by split<;>omega
 refine W cx (J3 e1 e2 @xZ.eq_1) ?_<;>intros;refine⟨_,rfl,rfl,?_⟩;simp [e3,xZ]
theorem QA (b eV:Nat) (va vv vi:qd) (cg:List Int) (hl:cg.length<=64) :
 bx qV 275 [qm (qc ⟨b,0,qh⟩)] [.at b (mD eV va vv vi),.h (au qa vi cg)] (λ_=>True)
  (λ_=>[.at b (mD eV (qf qh 0 0) (qf qh 0 0) vi),.h (au qa vi (qX cg.length (-1)))]):=by
 intro A F hw hS;refine aK Tryz.func275 λ_=>?_;dsimp only [aa,ah] at hS;have hg:=hS.g 0 rfl;obtain⟨oi,ci,rfl,_⟩:=(aj.tC hS (.s .z)).bR;dsimp only [mD] at hg;revert hS hw;refine W cx (J2 hg bC) ?_<;>(unhygienic intros)
 refine df (λk fr A'=>A'.Wf/\∃i:Nat,k=cg.length-i/\i<=cg.length/\fr 0=qm (qc ⟨b,0,qh⟩)/\fr 15=qb qa cg.length/\fr 16=qb qa i/\
  aj A' (.at b (mD eV (qf qh 0 0) (qf qh 0 0) (qf oi cg.length ci))::.h (au qa (qf oi cg.length ci) (qX i (-1)++cg.drop i))::[.h F])) cg.length ?_ ?_
 . refine⟨?_,0,by simp,by simp,rfl,by simp,by simp,?_⟩
   . repeat' (first|assumption|apply AW.Wf.set|apply aj.ltR hS hw .z|exact Nat.le_refl _)
   simp only [List.replicate_zero,ah,ZO];refine aj.bX (aj.gX (aj.gX hS .z) .z) (.s .z (.s .z (.s .z .z)))
 rintro k fr A' ⟨jN,i,rfl,hi,h0,h15,G6,rk⟩;have RO:=rk.g 0 rfl;dsimp only [mD] at RO;refine aT ?_;by_cases bY:i<cg.length;have fo:(i:Int)<cg.length:=Ya
 have gC:=zd (i:=i);have bW:(qX i (-1:Int)++cg.drop i).length=cg.length:=by simp;omega
 obtain⟨bi,KX,ci',Pb,hv,Aa,bO,jx,js⟩:=aj.Rm rk (.s .z) (j:=i) Ya;rw [bW] at hv Aa;injection hv with Ui VZ hv3;subst Ui;subst hv3;have hgi:=js.g 0 rfl;have P8:KX+i<Pb.length:=Ya
 refine W cx (H7 h0 h15 G6 RO hgi bY fo gC bO P8 bC) ?_<;>intros;refine⟨cg.length-(i+1),by omega,?_,i+1,rfl,by omega,by simp [h0],by simp [h15],by simp,?_⟩;exact jN.set _ (jN.lt hgi);have h9:=jx (-1) _ _ (aj.gX js .z);have e9:(qX i (-1:Int)++cg.drop i).set i (-1)=qX (i+1) (-1)++cg.drop (i+1):=by
  rw [List.set_append_right _ _ Yb];simp only [kbe,Nat.sub_self];rw [List.drop_eq_getElem_cons bY,List.set_cons_zero,List.replicate_succ',kaS];rfl
 rw [e9] at h9;exact aj.bX h9 (.s (.s .z) (.s .z (.s .z .z)));have Lu:i=cg.length:=Ya
 subst Lu;refine W cx (J5 h0 h15 G6 RO bC) ?_<;>intros;refine⟨_,rfl,trivial,?_⟩;have e9:qX cg.length (-1:Int)++cg.drop cg.length=qX cg.length (-1):=Yb
 rw [e9] at rk;exact aj.bX rk (.s .z (.s .z (.s .z .z)))
theorem au.make0 {A:AW} {F:HP} (n:Nat) (h:bB A F) (hw:A.Wf):bB (A.alloc (qi (fB [qb qa 0] n) qg 1)) (au qa (qf (qc ⟨A.next,0,qh⟩) n n) (qX n 0)*F):=by
 have bW:(fB [Zb qa 0] n).length=n:=by simp [kw]
 have hcs:(qX n (0:Int)).map (Zb qa)=fB [Zb qa 0] n:=by
  clear bW
  induction n with
  | zero=>rfl
  | succ n ih=>rw [List.replicate_succ,List.map_cons,ih];rfl
 refine au.mk Yb Yb YE ?_ (h.alloc hw _);rw [hcs,ZO,List.take_of_length_le YE]
def VS (w:Nat):Nat:=if w<=0 then 1 else if w<=1 then 2 else if w<=2 then 4 else if w<=4 then 8 else if w<=8 then 16 else if w<=16 then 32 else 64
theorem PC (w:Nat):jD w=⟨w,[],[],qX (VS w) (-1)⟩:=by
 have h:∀k:Nat,((w:Int)<=k)=(w<=k):=λk=>propext Ya;have e:(if (w:Int)<=0 then 1 else if (w:Int)<=1 then 2 else if (w:Int)<=2 then 4 else if (w:Int)<=4 then 8 else if (w:Int)<=8 then 16 else if (w:Int)<=16 then 32 else 64)=VS w:=by
  unfold VS
  repeat' split
  all_goals(first|rfl|omega)
 unfold jD;rw [e];rfl
theorem lenF_of {p w:Nat} (hw:w<=32) (h:p=1\/p=2\/p=4\/p=8\/p=16\/p=32\/p=64) (h1:p=1\/p<4*w) (h2:2*w<=p):p=VS w:=by
 unfold VS
 repeat' split
 all_goals omega
theorem No (w:Nat) (VX:w<=32) (A:AW) (L:List It) (hw:A.Wf) (hS:aj A L) :
 aB qV 246 [qb qa w] A (λv A'=>∃b,v=qm (qc ⟨b,0,qh⟩)/\aj A' (.h (sy b (jD w))::L)):=by
 refine aK Tryz.func246 λ_=>?_;have e1:min (w:Int) 32=w:=Ya
 have e2:max 0 (w:Int)=w:=Ya
 have e3:(if 0<w then (w:Int) else 0)=w:=by split<;>omega
 revert hS hw;refine W cx (J3 e1 e2 e3) ?_<;>(unhygienic intros)
 refine df (λk fr A'=>A'=A.alloc (mD w (qf qh 0 0) (qf qh 0 0) (qf qh 0 0))/\∃p:Nat,k=64-p/\fr 3=qm (qc ⟨A.next,0,qh⟩)/\fr 4=qb qa p/\
  (p=1\/p=2\/p=4\/p=8\/p=16\/p=32\/p=64)/\(p=1\/p<4*w)) 63 ?_ ?_
 refine⟨?_,1,by simp,by simp,by simp,by simp,by simp⟩;simp [mD];rintro k fr A' ⟨rfl,p,rfl,h3,h4,hp,IS⟩;have yu:(A.alloc (mD w (qf qh 0 0) (qf qh 0 0) (qf qh 0 0))).bk A.next=qc (qi [qb qa w,qf qh 0 0,qf qh 0 0,qf qh 0 0] qg 1):=by simp [mD]
 have hwl:=hw.alloc (mD w (qf qh 0 0) (qf qh 0 0) (qf qh 0 0));have hSl:=hS.alloc hw (mD w (qf qh 0 0) (qf qh 0 0) (qf qh 0 0));generalize A.alloc (mD w (qf qh 0 0) (qf qh 0 0) (qf qh 0 0))=A1 at *;have gC:qY.wrap ((p:Int)*2)=((p*2:Nat):Int):=by rw [af Ya Ya];omega
 refine aT ?_;by_cases bY:p<2*w;have fo:(p:Int)<2*w:=Ya
 refine W cx (J6 h3 h4 yu fo gC bC) ?_<;>intros;refine⟨64-p*2,by omega,rfl,p*2,rfl,by simp [h3],by simp,by omega,by omega⟩;have fo:¬(p:Int)<2*w:=Ya
 have Ul:=lenF_of VX hp IS Ya;have gZ:(A.next=A1.next)=False:=eq_false (by have:=hwl.lt yu;omega);have lO:aj (A1.alloc (qi (fB [qb qa 0] p) qg 1)) (.h (au qa (qf (qc ⟨A1.next,0,qh⟩) p p) (qX p 0))::.at A.next (mD w (qf qh 0 0) (qf qh 0 0) (qf qh 0 0))::L):=au.make0 p hSl hwl;have hS:=lO;have hw:=hwl.alloc (qi (fB [qb qa 0] p) qg 1);revert hS hw;(repeat first|clear hS|clear hw);refine W cx (J6 h3 h4 yu fo gZ bC) ?_<;>(unhygienic intros);refine bx.fM (QA A.next w (qf qh 0 0) (qf qh 0 0) (qf (qc ⟨A1.next,0,qh⟩) p p) (qX p 0) Yg) (hw.set _ (by simp;have:=hwl.lt yu;omega)) (aj.gX hS (.s .z)) (.s .z (.s .z .z)) ?_;rintro _ A3 _ hS hw _;simp only [kbe] at hS;revert hS hw;(repeat first|clear hS|clear hw|revert hc|revert R|revert K);refine W cx (J2 h3 bC) ?_<;>(unhygienic intros)
 refine⟨_,by (simp;done),A.next,rfl,?_⟩;rw [PC,<-Ul];have h1:aj A3 (.h (au qa (qf qh 0 0) [])::.h (au qj (qf qh 0 0) [])::_):=au.nil (k:=qa) (au.nil (k:=qj) hS);exact sy.dJ (s:=⟨w,[],[],qX p (-1)⟩) (va:=qf qh 0 0) (vv:=qf qh 0 0) (vi:=qf (qc ⟨A1.next,0,qh⟩) p p) h1 (.s (.s (.s .z)) (.s .z (.s .z (.s .z .z))))
end
section
abbrev Ce:List (Nat×Nat):=[(0,0),(1,0),(2,0),(3,0),(4,0),(5,0),(6,0),(7,0),(8,0),(9,0),(10,0),(11,0),(12,0),(13,3)]
abbrev Cd:List (Nat×Nat):=[(0,0),(1,0),(2,0),(3,0),(4,0),(5,0),(6,0),(7,0),(8,0),(9,0),(10,0)]
abbrev Cc:List (Nat×Nat):=[(0,0),(1,0),(2,0),(3,0),(4,0),(5,0),(6,0),(7,0),(8,0),(9,0),(10,0),(11,3)]
open T7
variable [Gl]
theorem Eh (b:Nat) (s:uU) (a v:Int) (mF:ry s) (ha:0<=a) (yx:s.eV<=32) (OQ:s.index.length<=64) :
 bx qV 244 [qm (qc ⟨b,0,qh⟩),qb qa a,qb qj v] [.h (sy b s)] (λu=>u=qn (gu s a v).1) (λ_=>[.h (sy b (gu s a v).2)]):=by
 intro A F hw dU;refine aK Tryz.func244 λ_=>?_;obtain⟨va,vv,vi,hS⟩:=sy.open dU .z
 try dsimp only [aa,ah] at hS
 have hIa:=aj.tC hS (.s .z);have hIv:=aj.tC hS (.s (.s .z));have hIi:=aj.tC hS (.s (.s (.s .z)));have yu:=hS.g 0 rfl;obtain⟨p,hp,sl,mV⟩:=Eb b va vv vi s a A mF ha yx OQ yu hIa hIi;have bW:s.bZ.length<=32:=Nat.le_trans mF.eV yx;have hlv:=mF.PN;have hg:=yu;dsimp only [mD] at hg;obtain⟨oa,ca,rfl,_⟩:=hIa.bR;obtain⟨ov,cv,rfl,_⟩:=hIv.bR;obtain⟨bi,KX,ci,Pb,rfl,Aa,bO,jx,js⟩:=aj.Rm hS (.s (.s (.s .z))) hp;have hgi:=js.g 0 rfl;have ha':¬a<0:=Ya
 have V9:(p:Int)<s.index.length:=Ya
 have hixp:s.index.getD p 0=ix s.index p:=by
  unfold ix;rw [Za,Za,q9 hp];rfl
 rw [hixp] at bO;rcases sl with ⟨e,Tr,hix⟩|⟨Tr,NQ,tK⟩;rw [hix] at bO;have bY:e<s.fU.length:=by rw [mF.PN];exact(w7 Tr).1
 have ri:gu s a v=(qg,{ s with fU:=s.fU.set e v }):=by simp [gu,Tr]
 obtain⟨bv,offv,cv',rowv,hv,hbv,V4,hsetv,lO⟩:=aj.Rm js (.s (.s (.s .z))) bY;injection hv with Ui VZ hv3;subst Ui;subst hv3;have H1:=lO.g 0 rfl;refine W (J4 (od Ce) (od Cd) (od Cc) @mV) (E5 hg ha' hgi H1 bO V4 bY hp V9 bC) ?_<;>intros;refine⟨_,by rfl,by simp [ri],?_⟩;rw [ri];have h1:=hsetv v _ _ (aj.gX lO .z);have h2:=aj.bX h1 (G:=.at bi (qi Pb qg 1)::.h (au qj (qf (qc ⟨bv,offv,qh⟩) s.fU.length cv) (s.fU.set e v))::.at b (mD s.eV (qf oa s.bZ.length ca) (qf (qc ⟨bv,offv,qh⟩) s.fU.length cv) (qf (qc ⟨bi,KX,qh⟩) s.index.length ci))::.h (au qa (qf oa s.bZ.length ca) s.bZ)::[.h F]) (.s (.s .z) (.s .z (.s .z (.s .z (.s .z .z)))));have h3:=jx (s.index.getD p 0) _ _ (by
  have e1:Pb.set (KX+p) (qb qa (s.index.getD p 0))=Pb:=by
   apply kaD;intro q;by_cases eq:KX+p=q;subst eq;rw [ZV Ya,hixp,bO,hix];rw [Z6 eq]
  rw [e1];exact h2)
 have e2:s.index.set p (s.index.getD p 0)=s.index:=by
  apply kaD;intro q;by_cases eq:p=q;subst eq;rw [ZV hp,Za,q9 hp];rfl;rw [Z6 eq]
 rw [e2] at h3
 exact sy.dJ (s:={ s with fU:=s.fU.set e v }) (va:=qf oa s.bZ.length ca) (vv:=qf (qc ⟨bv,offv,qh⟩) s.fU.length cv) (vi:=qf (qc ⟨bi,KX,qh⟩) s.index.length ci)
  h3 (.s (.s (.s .z)) (.s (.s (.s .z)) (.s (.s .z) (.s .z .z))))
 have hneg':¬0<=ix s.index p:=Ya
 by_cases hfull:s.bZ.length=s.eV;have ri:gu s a v=(qk,s):=by simp [gu,Tr,hfull]
 have h3:(s.bZ.length:Int)=s.eV:=Ya
 refine W (J4 (od Ce) (od Cd) (od Cc) @mV) (J9 hg ha' hgi bO hp V9 h3 hneg' @AW.ab) ?_<;>intros;refine⟨_,rfl,by simp [ri],?_⟩;rw [ri];exact dU;have ri:gu s a v=(qg,{ s with bZ:=s.bZ++[a],fU:=s.fU++[v],index:=s.index.set p s.bZ.length }):=by
  simp [gu,Tr,hfull,tK]
 have h3:¬(s.bZ.length:Int)=s.eV:=Ya
 have ES:(bi=b)=False:=eq_false (λe=>by
  have:=js.eX hw;dsimp only [aW,bz,cd,ff] at this;have h5:=this.2.2.1.1.1;rw [h5] at e;exact e.elim)
 revert hS hw;refine W (J4 (od Ce) (od Cd) (od Cc) @mV) (E5 hg ha' hgi bO hp V9 h3 hneg' ES bC) ?_<;>(unhygienic intros);have hS:=jx s.bZ.length _ _ (aj.gX js .z);have hw:=hw.set (qc (qi (Pb.set (KX+p) (qb qa s.bZ.length)) qg 1)) (hw.lt hgi);generalize A.set bi (qc (qi (Pb.set (KX+p) (qb qa s.bZ.length)) qg 1))=A1 at *;have hq:=hqx8 hS hw
 repeat' (first|(with_reducible apply twI;(·(simp;rfl));(·(simp;rfl));(·exact wA);(·exact sA);(·exact kA);(·(simp;rfl));(·omega);(·exact λA' CB=>Xd);rintro _ _ _ hS hw _;have hq:=gh hS hw)|(with_reducible apply twU;(·(simp;rfl));(·(simp;rfl));(·exact wA);(·exact sA);(·exact kA);(·first|(simp;rfl)|(simp [hq];rfl));(·omega);(·exact λA' CB=>Xd);rintro _ _ _ hS hw _;have hq:=gh hS hw)|(refine OM (λR hR=>?_) (λR hR=>?_)<;>(first|(with_reducible apply lhI;(·(simp;rfl));(·(simp;rfl));(·exact wA);(·exact sA);(·exact kA);(·(simp;rfl));(·omega);(·exact λA' CB=>Xd);rintro _ _ _ hS hw _;have hq:=gh hS hw)|(simp [];try simp (disch:=omega) only [ay,aw,af,an])))|(refine iT λR hR=>?_;simp [];try simp (disch:=omega) only [ay,aw,af,an])|(refine hR _ _ ?_;clear hR R)|(refine hK _ _ ?_;clear hK K)|refine nx ?_|(refine Sp λR hR=>?_;simp [hq,AW.ab,aG];try simp (disch:=omega) only [ay,aw,af,an])|refine So ?_|refine wn λK hK=>?_|simp only [wS]|simp only [bI,u6,mJ,Option.map_none,List.getElem?_toArray,List.getElem?_cons_zero,List.getElem?_cons_succ,List.getD_cons_zero,List.getD_cons_succ]|(refine ⟨λA' CB=>by simp [CB],?_⟩)|(refine wt (λA'=>A'.bk b=qc (qi [qb qa s.eV,qf oa s.bZ.length ca,qf ov s.fU.length cv,qf (qc ⟨bi,KX,qh⟩) s.index.length ci] qg 1)) Tryz.mx [0,0,0,0,0,1,0,2,3,0,0,0,1,0,2,3,0,0,4,0,0,4] (.aM 0 (.aM 1 (.aM 2 (.aM 3 (.aM 4 (.aM 5 (.aM 6 (.aM 9 (.aM 10 (.aM 11 (.aM 12 (.aM 13 (.uW 7 (.uW 8 (.aM 14 (.aM 15 (.aM 16 (.aM 17 (.aM 18 (.aM 19 (.aM 20 (.aM 21 .nil)))))))) 14 (.aM 8 (.aM 15 (.aM 16 (.aM 17 (.aM 18 (.aM 19 (.aM 20 (.aM 21 .nil))))))))) 14 (.aM 7 (.aM 8 (.aM 15 (.aM 16 (.aM 17 (.aM 18 (.aM 19 (.aM 20 (.aM 21 .nil)))))))))))))))))))))) Yc λK hK=>?_)|(show cM _ _ _ _ _ _;refine nx ?_))
 all_goals(
  refine⟨_,by (simp;rfl),by simp [ri],?_⟩;rw [ri];apply aj.bX;apply sy.dJ (s:={ s with bZ:=s.bZ++[a],fU:=s.fU++[v],index:=s.index.set p s.bZ.length })
  (·exact sA)
  (·exact pA)
  exact pA)
end
section
abbrev Vz:List (Nat×Nat):=[(0,0),(1,0),(2,0),(3,0),(4,0),(5,0),(6,0),(7,0),(8,0),(9,2),(10,0),(11,0),(12,3),(13,0),(14,0),(15,0),(16,3)]
abbrev Vy:List (Nat×Nat):=[(0,0),(1,0),(2,0),(3,0),(4,0),(5,0),(6,0),(7,0),(8,2),(9,0),(10,0),(11,0),(12,0),(13,0)]
abbrev Vx:List (Nat×Nat):=[(0,0),(1,0),(2,0),(3,0),(4,0),(5,0),(6,0),(7,0),(8,0),(9,0),(10,3),(11,0),(12,0),(13,0),(14,3)]
abbrev Nf:List (Nat×Nat):=[(0,0),(1,0),(2,0),(3,0),(4,2),(5,0),(6,0),(7,0),(8,0),(9,0),(10,0),(12,0),(13,0),(14,0),(15,0),(11,2),(16,0),(17,0)]
abbrev Nd:List (Nat×Nat):=[(0,0),(1,0),(2,0),(3,0),(4,0),(5,0),(6,0),(7,0),(8,0),(9,0),(10,0),(11,3),(12,0),(13,0),(14,3)]
open T0
variable [Gl]
theorem Cl (c k:Int) (A:AW):aB qV 147 [qb qa c,qb qa k] A (λv A'=>v=qm (qc ⟨A.next,0,qh⟩)/\A'=A.alloc (iR ⟨c,k,0,0⟩)):=by
 refine aK Tryz.func147 λ_=>?_;refine W cx cx ?_<;>intros;exact⟨_,rfl,rfl,rfl⟩
theorem An (b:Nat) (s:gs) (A:AW) (hg:A.bk b=qc (iR s)):fD 150 [qm (qc ⟨b,0,qh⟩)] A (qn (decide (s.cr=3))):=by
 refine aK Tryz.func150 λ_=>?_;dsimp only [iR] at hg;refine W cx (J2 hg @AW.ab) ?_<;>intros;exact⟨_,rfl,rfl,rfl⟩
def Ri (s:gs):Int:=q8.wrap (qY.wrap (ka s.head+1))
theorem Pi (s:gs) (M:Mm) :
 (s.cr=0/\dR s M=(iL M 7 s.eZ,{ s with head:=(iL M 7 s.eZ).eY,cr:=1 },M)) \/
 (s.cr=1/\dR s M=(EM M 8 s.block (Ri s),{ s with cr:=2 },u7 M 8 s.block (Ri s))) \/
 ((s.cr=2/\(If M 7 s.eZ s.head (rr s.head s.block)).done=qg)/\dR s M=(If M 7 s.eZ s.head (rr s.head s.block),{ s with cr:=3 },swM M 7 s.eZ s.head (rr s.head s.block))) \/
 ((s.cr=2/\(If M 7 s.eZ s.head (rr s.head s.block)).done=qk)/\dR s M=(If M 7 s.eZ s.head (rr s.head s.block),{ s with cr:=0 },swM M 7 s.eZ s.head (rr s.head s.block))) \/
 ((¬s.cr=0/\¬s.cr=1/\¬s.cr=2)/\dR s M=(bh.zero,s,M)):=by
 unfold dR;by_cases h0:s.cr=0;simp [h0];by_cases h1:s.cr=1;simp [h1,Ri];by_cases h2:s.cr=2;cases h3:(If M 7 s.eZ s.head (rr s.head s.block)).done<;>simp [h2,h3];simp [h0,h1,h2]
theorem uC (b pb:Nat) (s:gs) (M:Mm) :
 bx qV 149 [qm (qc ⟨b,0,qh⟩),qm (qc ⟨pb,0,qh⟩)] [.at b (iR s),ei pb M]
  (λv=>v=(dR s M).1.v) (λ_=>[.at b (iR (dR s M).2.1),ei pb (dR s M).2.2]):=by
 intro A F hw hS;refine aK Tryz.func149 λ_=>?_;have hq:=NM hS hw;rcases Pi s M with ⟨h,e⟩|⟨h,e⟩|⟨h,e⟩|⟨h,e⟩|⟨h,e⟩
 all_goals(try simp only [Ri] at e)
 all_goals(revert hq hS hw;refine W (J8 (od Vz) (od Vy) (od Vx) @JB @Gh (swL pb) (stL pb) (VT pb)) (J4 h bC @bn.eq_1 @bh.v.eq_1) ?_<;>unhygienic intros)
 all_goals(
  try rw [e]
  refine⟨_,by simp [AW.ab];rfl,by simp [bh.v,bh.zero,h],?_⟩;apply aj.bX
  (·exact sA)
  (·repeat' (first|apply bf.z|apply bf.s|apply aE.z|apply aE.s)))
theorem Al (b:Nat) (s:jj) (A:AW) (hg:A.bk b=qc (jw s)):fD 204 [qm (qc ⟨b,0,qh⟩)] A (qn s.done):=by
 refine aK Tryz.func204 λ_=>?_;dsimp only [jw] at hg;refine W cx (J2 hg @AW.ab) ?_<;>intros;exact⟨_,rfl,rfl,rfl⟩
theorem BU (b:Nat) (s:jj) (A:AW) (hg:A.bk b=qc (jw s)):fD 205 [qm (qc ⟨b,0,qh⟩)] A (qn s.iS):=by
 refine aK Tryz.func205 λ_=>?_;dsimp only [jw] at hg;refine W cx (J2 hg @AW.ab) ?_<;>intros;exact⟨_,rfl,rfl,rfl⟩
theorem Ga (b:Nat) (s:jj) (A:AW) (hg:A.bk b=qc (jw s)):fD 209 [qm (qc ⟨b,0,qh⟩)] A (qb qj s.val):=by
 refine aK Tryz.func209 λ_=>?_;have RO:=hg;dsimp only [jw] at RO;by_cases h1:s.cr=3<;>cases h2:s.iS
 all_goals(refine W (J1 (Al b s _ hg)) (J5 RO h1 h2 @jj.done.eq_1 @AW.ab) ?_<;>unhygienic intros)
 all_goals exact⟨_,rfl,by simp [jj.val,h1,h2],rfl⟩
theorem sW (s:jj) (M:Mm) :
 ((s.cr=0/\0<=oH (iL M 2 s.iK).eY)/\dW s M=(iL M 2 s.iK,{ s with dM:=(iL M 2 s.iK).eY,iS:=qg,cr:=3 },M)) \/
 (((s.cr=0/\¬0<=oH (iL M 2 s.iK).eY)/\s.rv<mX (iL M 2 s.iK).eY)/\dW s M=(iL M 2 s.iK,{ s with dM:=(iL M 2 s.iK).eY,iS:=qg,cr:=3 },M)) \/
 (((s.cr=0/\¬0<=oH (iL M 2 s.iK).eY)/\¬s.rv<mX (iL M 2 s.iK).eY)/\dW s M=(iL M 2 s.iK,{ s with dM:=(iL M 2 s.iK).eY,cr:=1 },M)) \/
 (s.cr=1/\dW s M=(iL M 1 s.d8,{ s with value:=(iL M 1 s.d8).eY,cr:=2 },M)) \/
 (s.cr=2/\dW s M=(iL M 2 s.iK,{ s with iS:=decide ((iL M 2 s.iK).eY≠s.dM),cr:=3 },M)) \/
 ((¬s.cr=0/\¬s.cr=1/\¬s.cr=2)/\dW s M=(bh.zero,s,M)):=by
 unfold dW;by_cases h0:s.cr=0;by_cases h1:0<=oH (iL M 2 s.iK).eY<;>by_cases h2:s.rv<mX (iL M 2 s.iK).eY<;>simp [h0,h1,h2];by_cases h1:s.cr=1;simp [h1];by_cases h2:s.cr=2;simp [h2];simp [h0,h1,h2]
theorem Ak (b pb:Nat) (s:jj) (M:Mm) :
 bx qV 203 [qm (qc ⟨b,0,qh⟩),qm (qc ⟨pb,0,qh⟩)] [.at b (jw s),ei pb M]
  (λv=>v=(dW s M).1.v) (λ_=>[.at b (jw (dW s M).2.1),ei pb (dW s M).2.2]):=by
 intro A F hw hS;refine aK Tryz.func203 λ_=>?_;have hq:=NM hS hw;rcases sW s M with ⟨h,e⟩|⟨h,e⟩|⟨h,e⟩|⟨h,e⟩|⟨h,e⟩|⟨h,e⟩
 repeat' (first|(refine iT λR hR=>?_;simp [hq,h,AW.ab,aG,bh.v];try simp (disch:=omega) only [ay,aw,af,an])|(refine hR _ _ ?_;clear hR R)|(refine hK _ _ ?_;clear hK K)|refine nx ?_|refine wn λK hK=>?_|simp only [wS,Nf,Nd]|refine wl Tryz.mx Nf Yc λK hK=>?_|refine wl Tryz.mx Nd Yc λK hK=>?_|(refine bD (B8 _ _) ?_;rintro _ _ ⟨rfl,rfl⟩ _ _)|(refine bD (Am _ _) ?_;rintro _ _ ⟨rfl,rfl⟩ _ _)|(apply bx.fM (VT pb _ _ _);(·exact wA);(·exact sA);(·exact pA);rintro _ _ rfl hS hw _;have hS:=lA hS;have hq:=NM hS hw)|(show cM _ _ _ _ _ _;refine nx ?_)|(refine wc rfl (λhc=>?_) (λhc=>?_)<;>(try simp at hc)))
 all_goals(
  try rw [e]
  refine⟨_,by simp [AW.ab];rfl,by simp [bh.v,bh.zero],?_⟩;apply aj.bX
  (·exact sA)
  (·repeat' (first|apply bf.z|apply bf.s|apply aE.z|(apply aE.Ml;simp [jw];done)|apply aE.s)))
end
section
abbrev vC:List (Nat×Nat):=[(0,0),(1,0),(2,0),(4,0),(5,0),(6,0),(3,2),(7,2),(8,0),(9,2),(10,0)]
open T7
variable [Gl]
theorem ID (vi vw:qd) (l ws:List Int) (A:AW) (F:HP) (h:bK A qa vi l) (h':bK A qj vw ws) (he:l.length=ws.length) (hl:l.length<2^38) (hw:A.Wf) (hS:bB A F) :
 aB qV 232 [vi,vw] A (λv A'=>∃b,v=qm (qc ⟨b,0,qh⟩)/\bB A' (ji b ⟨l,ws⟩*F)/\A.le A'):=by
 refine aK Tryz.func232 λ_=>?_;obtain⟨o,c,rfl,hc⟩:=h.bR;obtain⟨o',c',rfl,hc'⟩:=h'.bR;rw [<-he] at h' hc' ⊢;rcases o with _|p<;>rcases o' with _|q
 all_goals
  all_goals(revert hS hw;(repeat revert hc);refine W (J1 (od vC)) (J1 @fC.eq_1) ?_<;>unhygienic intros)
  refine bD (kC _ l A h Ya) ?_;rintro u A1 ⟨h1,h2⟩ iZ _;refine⟨h2,?_⟩;obtain⟨o1,c1,rfl,_⟩:=h1.is.bR
  all_goals(revert hS hw;(repeat first|revert hc|revert R|revert K);refine W (J1 (od vC)) (J1 @fC.eq_1) ?_<;>unhygienic intros)
  refine bD (jK _ ws A1 (bK.le h2 hw h') Ya) ?_;rintro u2 A2 ⟨h3,h4⟩ jE _;refine⟨h4,?_⟩;obtain⟨o2,c2,rfl,_⟩:=h3.is.bR
  all_goals(revert hS hw;(repeat first|revert hc|revert R|revert K);refine W (J1 (od vC)) (J1 @fC.eq_1) ?_<;>unhygienic intros)
  refine⟨_,by (simp;done),A2.next,rfl,?_,(h2.trans h4).trans (qW _ _)⟩;have js:=(au.jd (au.jd hS hw h2 h1) iZ h4 h3).alloc jE (qi [qf o1 l.length c1,qf o2 ws.length c2] qg 1);refine ji.dJ (vo:=qf o1 l.length c1) (vw:=qf o2 ws.length c2) ?_;exact js.dD Xt
theorem Nj (vi vw:qd) (l ws:List Int) (A:AW) (F:HP) (h:bK A qa vi l) (h':bK A qj vw ws) (he:l.length=ws.length) (hl:l.length<2^38) (hw:A.Wf) (hS:bB A F) :
 aB qV 226 [vi,vw] A (λv A'=>∃b,v=qm (qc ⟨b,0,qh⟩)/\bB A' (ji b ⟨l,ws⟩*F)/\A.le A'):=by
 refine aK Tryz.func226 λ_=>?_;obtain⟨o,c,rfl,hc⟩:=h.bR;obtain⟨o',c',rfl,hc'⟩:=h'.bR;rw [<-he] at h' hc' ⊢;rcases o with _|p<;>rcases o' with _|q
 all_goals
  all_goals(revert hS hw;(repeat revert hc);refine W (J1 (od vC)) (J1 @fC.eq_1) ?_<;>unhygienic intros)
  refine bD (kC _ l A h Ya) ?_;rintro u A1 ⟨h1,h2⟩ iZ _;refine⟨h2,?_⟩;obtain⟨o1,c1,rfl,_⟩:=h1.is.bR
  all_goals(revert hS hw;(repeat first|revert hc|revert R|revert K);refine W (J1 (od vC)) (J1 @fC.eq_1) ?_<;>unhygienic intros)
  refine bD (jK _ ws A1 (bK.le h2 hw h') Ya) ?_;rintro u2 A2 ⟨h3,h4⟩ jE _;refine⟨h4,?_⟩;obtain⟨o2,c2,rfl,_⟩:=h3.is.bR
  all_goals(revert hS hw;(repeat first|revert hc|revert R|revert K);refine W (J1 (od vC)) (J1 @fC.eq_1) ?_<;>unhygienic intros)
  refine⟨_,by (simp;done),A2.next,rfl,?_,(h2.trans h4).trans (qW _ _)⟩;have js:=(au.jd (au.jd hS hw h2 h1) iZ h4 h3).alloc jE (qi [qf o1 l.length c1,qf o2 ws.length c2] qg 1);refine ji.dJ (vo:=qf o1 l.length c1) (vw:=qf o2 ws.length c2) ?_;exact js.dD Xt
end
section
open T7
variable [Gl]
theorem Le (t:Int) (vi:qd) (l:List Int) (A:AW) (F:HP) (h:bK A qa vi l) (hl:l.length<2^38) (hw:A.Wf) (hS:bB A F) :
 aB qV 241 [qb qa t,vi] A (λv A'=>∃b,v=qm (qc ⟨b,0,qh⟩)/\bB A' (iV b ⟨t,ft l,[],0,qk⟩*F)):=by
 refine aK Tryz.func241 λ_=>?_;revert hS hw;refine W cx cx ?_<;>(unhygienic intros);refine bD (D5 vi l A h Ya) ?_;rintro u A1 ⟨h1,h2⟩ iZ _;obtain⟨o,c,rfl,_⟩:=h1.is.bR;revert hS hw;(repeat first|revert R|revert K);refine W cx cx ?_<;>(unhygienic intros);refine⟨_,by (simp;done),A1.next,rfl,?_⟩;have js:=(au.jd hS hw h2 h1).alloc iZ (qi [qb qa t,qf o (ft l).length c,qf qh 0 0,qb qj 0,qn qk] qg 1);refine iV.dJ (vo:=qf o (ft l).length c) (vw:=qf qh 0 0) ?_;have h0:=au.nil (k:=qj) js;exact h0.dD (by show _=pt A1.next (qi [qb qa t,qf o (ft l).length c,qf qh 0 0,qb qj 0,qn qk] qg 1)*(au qa (qf o (ft l).length c) (ft l)*(au qj (qf qh 0 0) []*F));ac_rfl)
end
section
open T10
variable [Gl]
def rEnterO (s:gT):eh:=qi [qb qa s.am,qb qa s.cr,qb qa s.xH] qg 1
def rTurnO (s:jh):eh:=qi [qb qa s.gB,qn s.done] qg 1
def rPopO (s:rM):eh:=qi [qb qa s.eZ,qb qa s.cr,qb qj s.head,qb qj s.next,qb qa s.block] qg 1
def rPushO (s:gs):eh:=qi [qb qa s.eZ,qb qa s.block,qb qa s.cr,qb qj s.head] qg 1
def jj.rat (s:jj):Int:=if s.cr=3/\s.iS=qg then 4 else s.cr
def rReadO (s:jj):eh:=qi [qb qa s.d8,qb qa s.iK,qb qa s.rv,qb qa s.rat,qb qj s.dM,qb qj s.value] qg 1
end
section
variable [Gl]
abbrev pv (n:Nat):qd:=qm (qc ⟨n,0,qh⟩)
abbrev aM (v:qd):eh:=qi [v] qg 1
structure tR where
 eT:Nat
 fp:Nat
 b8:Nat
 dz:Nat
 dv:Nat
 m:Nat
 c0:Nat
 c1:Nat
 c2:Nat
 dE:Value
 bF:Value
 cF:Value
 cJ:Value
 fa:Value
 dF:Value
 fJ:Value
 cK:Value
 cH:Value
 br:Value
 dG:Value
 dP:Value
 iw:Value
 fb:Value
def pF:Option gT->Nat->qd|none,_=>qm qh|some _,n=>pv n
def kF:Option iI->Nat->qd|none,_=>qm qh|some _,n=>pv n
def ju:Option jh->Nat->qd|none,_=>qm qh|some _,n=>pv n
def sX:bJ->tR->qd | .bj _ _,f=>pv f.m|_,f=>f.fa
def nD:bJ->tR->qd | .bj r _,_=>qb qa r.cr|_,f=>f.dF
def tz:bJ->tR->qd | .bj r _,_=>qb qa r.d8|_,f=>f.fb
def AV:bJ->tR->qd | .eP _,f=>pv f.m|_,f=>f.fJ
def nG:bJ->tR->qd | .cG _,f=>pv f.m|_,f=>f.cK
def nA:bJ->tR->qd | .dt _,f=>pv f.m|_,f=>f.cH
def jQ:bJ->tR->qd | .bE _,f=>pv f.m|_,f=>f.br
def sY:bJ->tR->qd | .eC _,f=>pv f.m|_,f=>f.dG
def sQ:E4->tR->qd
 | .uY,f=>.func (.func 176) #[] #[pv f.c0]
 | .QF,f=>.func (.func 253) #[] #[pv f.c0]
 | .bX _,f=>.func (.func 173) #[] #[pv f.c0,pv f.c1]
 | .take _,f=>.func (.func 179) #[] #[pv f.c0,pv f.c1]
 | .mI _ _,f=>.func (.func 182) #[] #[pv f.c0,pv f.c1,pv f.c2]
 | .Bl,f=>.func (.func 248) #[] #[pv f.c0]
 | .dy _ _,f=>.func (.func 254) #[] #[pv f.c0,pv f.c1,pv f.c2]
def sP:bJ->tR->qd
 | .je k,f=>sQ k f
 | .eP _,f=>.func (.func 250) #[] #[pv f.c0,pv f.c1]
 | _,f=>f.dP
def AK:bJ->tR->qd
 | .bj _ .take,f=>.func (.func 177) #[] #[pv f.c0]
 | .bj _ (.dy _),f=>.func (.func 256) #[] #[pv f.c0,pv f.c1]
 | _,f=>f.iw
def xI (s:aI) (cr:Int) (d:bJ) (f:tR):eh:=qi [pv f.eT,pv f.fp,f.dE,f.bF,f.cF,
 pF s.bT f.b8,sX d f,nD d f,AV d f,kF s.aP f.dz,ju s.aN f.dv,nG d f,nA d f,jQ d f,sY d f,
 qb qa s.cf.bg,qb qa s.cf.av,qb qa s.cf.base,qb qa s.cf.c0,qb qa s.cf.c1,qb qa s.cf.c2,qb qa s.cf.c3,qb qa s.cf.reads,qb qa s.cf.bU,qb qa s.cf.ar,qb qa s.cf.aA,qb qa s.cf.aC,qn s.cf.bd,
 qb qa s.am,qb qa s.aF,qb qa s.aD,qb qa cr,sP d f,AK d f,tz d f,qb qj s.value,f.cJ,qb qj s.aC,qn s.ao,qb qa s.ax] qg 1
def OJ:Option gT->Nat->HP|none,_=>fl|some e,n=>pt n (iQ e)
def xm:Option iI->Nat->HP|none,_=>fl|some l,n=>iV n l
def y6:Option jh->Nat->HP|none,_=>fl|some t,n=>pt n (kO t)
def dk (b:Nat):E4->tR->List It
 | .uY,f | .QF,f | .Bl,f=>[.at f.c0 (aM (pv b))]
 | .bX aD,f=>[.at f.c0 (aM (pv b)),.at f.c1 (aM (qb qa aD))]
 | .take v,f=>[.at f.c0 (aM (.func (.func 177) #[] #[pv f.c2])),.at f.c1 (aM (qb qj v)),.at f.c2 (aM (pv b))]
 | .mI a v,f=>[.at f.c0 (aM (pv b)),.at f.c1 (aM (qb qj a)),.at f.c2 (aM (qb qj v))]
 | .dy k v,f=>[.at f.c0 (aM (pv b)),.at f.c1 (aM (qb qa k)),.at f.c2 (aM (qb qj v))]
def fi (b:Nat):Ac->tR->List It
 | .take,f=>[.at f.c0 (aM (pv b))]
 | .dy k,f=>[.at f.c0 (aM (pv b)),.at f.c1 (aM (qb qa k))]
def jk (b:Nat):bJ->tR->List It
 | .je k,f=>dk b k f
 | .bj r u,f=>.at f.m (jw r)::fi b u f
 | .eP p,f=>[.at f.m (oZ p),.at f.c0 (aM (pv b)),.at f.c1 (aM (qb qa p.eZ))]
 | .cG c,f=>[.h (kD f.m c)]
 | .dt w,f=>[.h (ji f.m w)]
 | .bE w,f=>[.h (ji f.m w)]
 | .eC p,f=>[.at f.m (iR p)]
 | _,_=>[]
def cX (b:Nat) (s:aI) (cr:Int) (d:bJ) (f:tR):List It:=[.at b (xI s cr d f),.h (OJ s.bT f.b8),.h (xm s.aP f.dz),.h (y6 s.aN f.dv),
 .h (Ae f.eT s.cf.reads.toNat s.set),.h (sy f.fp s.bG),.h (au qa f.dE s.reads),.h (au qa f.bF s.ar),.h (au qa f.cF s.aA),.h (au qa f.cJ s.av)]
def jY (b:Nat) (s:aI) (cr:Int) (d:bJ):HP:=td λf:tR=>aO (cX b s cr d f)
def bp (b:Nat) (s:aI):HP:=td λf:tR=>aO (cX b s s.aH.gB s.aH f++jk b s.aH f)
theorem aE.aN {n:Nat} {t:jh} {L:List It}:aE (.at n (kO t)::L) (.h (y6 (qc t) n)) L:=.e rfl
theorem aE.bT {n:Nat} {t:gT} {L:List It}:aE (.at n (iQ t)::L) (.h (OJ (qc t) n)) L:=.e rfl
theorem aE.Vr {n:Nat} {t:iI} {L:List It}:aE (.h (iV n t)::L) (.h (xm (qc t) n)) L:=.e rfl
section
variable {A:AW} {L K:List It} {b:Nat} {s:aI} {cr:Int} {d:bJ}
theorem jY.open (h:aj A L) (hp:aE L (.h (jY b s cr d)) K):∃f,aj A (cX b s cr d f++K):=kT h hp
theorem bp.open (h:aj A L) (hp:aE L (.h (bp b s)) K):∃f,aj A (cX b s s.aH.gB s.aH f++jk b s.aH f++K):=kT h hp
theorem jY.dJ {eT fp b8 dz dv m c0 c1 c2:Nat} {dE bF cF cJ fa dF fJ cK cH br dG dP iw fb:qd} (h:aj A L)
 (e:bf L (cX b s cr d ⟨eT,fp,b8,dz,dv,m,c0,c1,c2,dE,bF,cF,cJ,fa,dF,fJ,cK,cH,br,dG,dP,iw,fb⟩) K):aj A (.h (jY b s cr d)::K):=jp ⟨eT,fp,b8,dz,dv,m,c0,c1,c2,dE,bF,cF,cJ,fa,dF,fJ,cK,cH,br,dG,dP,iw,fb⟩ h e
theorem bp.dJ {eT fp b8 dz dv m c0 c1 c2:Nat} {dE bF cF cJ fa dF fJ cK cH br dG dP iw fb:qd} (h:aj A L)
 (e:bf L (cX b s s.aH.gB s.aH ⟨eT,fp,b8,dz,dv,m,c0,c1,c2,dE,bF,cF,cJ,fa,dF,fJ,cK,cH,br,dG,dP,iw,fb⟩++jk b s.aH ⟨eT,fp,b8,dz,dv,m,c0,c1,c2,dE,bF,cF,cJ,fa,dF,fJ,cK,cH,br,dG,dP,iw,fb⟩) K):aj A (.h (bp b s)::K):=jp ⟨eT,fp,b8,dz,dv,m,c0,c1,c2,dE,bF,cF,cJ,fa,dF,fJ,cK,cH,br,dG,dP,iw,fb⟩ h e
theorem bp.bX {eT fp b8 dz dv m c0 c1 c2:Nat} {dE bF cF cJ fa dF fJ cK cH br dG dP iw fb:qd} {G K2:List It} (h:aj A L)
 (e:bf L (cX b s s.aH.gB s.aH ⟨eT,fp,b8,dz,dv,m,c0,c1,c2,dE,bF,cF,cJ,fa,dF,fJ,cK,cH,br,dG,dP,iw,fb⟩++jk b s.aH ⟨eT,fp,b8,dz,dv,m,c0,c1,c2,dE,bF,cF,cJ,fa,dF,fJ,cK,cH,br,dG,dP,iw,fb⟩) K) (e2:bf K G K2):aj A (.h (bp b s)::G):=
 aj.bX (bp.dJ h e) (.s .z e2)
theorem jY.view {eT fp b8 dz dv m c0 c1 c2:Nat} {dE bF cF cJ fa dF fJ cK cH br dG dP iw fb:qd} (h:aj A L)
 (e:bf L (cX b s cr d ⟨eT,fp,b8,dz,dv,m,c0,c1,c2,dE,bF,cF,cJ,fa,dF,fJ,cK,cH,br,dG,dP,iw,fb⟩) K):aj A [.h (jY b s cr d)]:=aj.bX (jY.dJ h e) (.s .z .z)
theorem bp.toB (h:aj A L) (hp:aE L (.h (bp b s)) K):aj A (.h (jY b s s.aH.gB s.aH)::K):=by
 obtain⟨f,h⟩:=bp.open h hp;have h1:aj A (cX b s s.aH.gB s.aH f++(jk b s.aH f++K)):=by rw [<-kaS];exact h
 have h2:aj A (.h (jY b s s.aH.gB s.aH)::(jk b s.aH f++K)):=jp (g:=cX b s s.aH.gB s.aH) f h1 (by
  repeat' (first|apply bf.z|apply bf.s|apply aE.z))
 unfold aj at h2 ⊢;have h3:bB A (jY b s s.aH.gB s.aH*aO (jk b s.aH f++K)):=h2;rw [gG] at h3;have h4:bB A (aO (jk b s.aH f)*(jY b s s.aH.gB s.aH*aO K)):=h3.dD Yd;exact bB.right h4
theorem bx.lj {P:Program} {f:FuncId} {args:List qd} {sG:List It} {φ:qd->Prop} {post:qd->List It} (hc:bx P f args (.h (jY b s cr d)::sG) φ post) {eT fp b8 dz dv m c0 c1 c2:Nat} {dE bF cF cJ fa dF fJ cK cH br dG dP iw fb:qd} {K0:List It} {k:qd->AW->Prop} (hw:A.Wf) (hS:aj A L)
 (e:bf L (cX b s cr d ⟨eT,fp,b8,dz,dv,m,c0,c1,c2,dE,bF,cF,cJ,fa,dF,fJ,cK,cH,br,dG,dP,iw,fb⟩) K0) (e2:bf K0 sG K) (hk:∀v A',φ v->aj A' (post v++K)->A'.Wf->A.next<=A'.next->k v A'):aB P f args A k:=
 bx.fM hc hw (jY.dJ hS e) (.s .z e2) hk
theorem bx.UK {P:Program} {f:FuncId} {args:List qd} {sG:List It} {φ:qd->Prop} {post:qd->List It} (hc:bx P f args (.h (bp b s)::sG) φ post) {eT fp b8 dz dv m c0 c1 c2:Nat} {dE bF cF cJ fa dF fJ cK cH br dG dP iw fb:qd} {K0:List It} {k:qd->AW->Prop} (hw:A.Wf) (hS:aj A L)
 (e:bf L (cX b s s.aH.gB s.aH ⟨eT,fp,b8,dz,dv,m,c0,c1,c2,dE,bF,cF,cJ,fa,dF,fJ,cK,cH,br,dG,dP,iw,fb⟩++jk b s.aH ⟨eT,fp,b8,dz,dv,m,c0,c1,c2,dE,bF,cF,cJ,fa,dF,fJ,cK,cH,br,dG,dP,iw,fb⟩) K0) (e2:bf K0 sG K) (hk:∀v A',φ v->aj A' (post v++K)->A'.Wf->A.next<=A'.next->k v A'):aB P f args A k:=
 bx.fM hc hw (bp.dJ hS e) (.s .z e2) hk
theorem OJ.op {n:Nat} {e:gT} (h:aj A L) (hp:aE L (.h (OJ (qc e) n)) K):aj A (.at n (iQ e)::K):=by
 unfold aj at h ⊢;rw [hp.aO] at h;exact h
theorem y6.op {n:Nat} {e:jh} (h:aj A L) (hp:aE L (.h (y6 (qc e) n)) K):aj A (.at n (kO e)::K):=by
 unfold aj at h ⊢;rw [hp.aO] at h;exact h
theorem xm.op {n:Nat} {e:iI} (h:aj A L) (hp:aE L (.h (xm (qc e) n)) K):aj A (.h (iV n e)::K):=by
 unfold aj at h ⊢;rw [hp.aO] at h;exact h
theorem Es {f:FuncId} {args:List qd} {V:qd} {b:Nat} {s:aI} {cr:Int} {d:bJ} (hC:∀A':AW,A'.Wf->aj A' [.h (jY b s cr d)]->fD f args A' V)
 {A:AW} {L K0:List It} {eT fp b8 dz dv m c0 c1 c2:Nat} {dE bF cF cJ fa dF fJ cK cH br dG dP iw fb:qd} {k:qd->AW->Prop} (hw:A.Wf) (hS:aj A L) (e:bf L (cX b s cr d ⟨eT,fp,b8,dz,dv,m,c0,c1,c2,dE,bF,cF,cJ,fa,dF,fJ,cK,cH,br,dG,dP,iw,fb⟩) K0) (hk:k V A):aB qV f args A k:=by
 refine bD (hC A hw (jY.view hS e)) ?_;rintro _ _ ⟨rfl,rfl⟩ _ _;exact hk
end
theorem pP {L G K:List It} (h':bf L G K:=by first|((repeat' (first|apply bf.z|apply bf.s|apply aE.z|apply aE.aN|apply aE.bT|apply aE.Vr|apply aE.s));done)|fail):bf L G K:=h'
theorem kP {L K:List It} {x:It} (h':aE L x K:=by first|((repeat' (first|apply bf.z|apply bf.s|apply aE.z|apply aE.aN|apply aE.bT|apply aE.Vr|apply aE.s));done)|fail):aE L x K:=h'
theorem fP {L G K:List It} (h':bf L G K:=by first|((dsimp only [cX,xI,sX,nD,tz,AV,nG,nA,jQ,sY,sP,AK,sQ,pF,kF,ju,jk,dk,fi,bJ.gB,aa,ah]);(try simp only [h]);(repeat' (first|apply bf.z|apply bf.s|apply aE.z|apply aE.aN|apply aE.bT|apply aE.Vr|apply aE.s));done)|fail):bf L G K:=h'
end
end Go.Stx
