/-
 What the thread's step needs, from what always holds of it.
-/
import Derived.Test.YtipomeafemoelaaGreatDoorG14
set_option linter.unusedVariables false
set_option linter.unusedSimpArgs false
set_option linter.unusedSectionVars false
set_option maxRecDepth 20000
set_option maxHeartbeats 4000000
open Go.Proofs.Tryz renaming func41->kaw,prog->qa
open Go.Stx.AW.le renaming alloc->qb,refl->qi
open Go.Value renaming oneCell'->qL
open List renaming drop_eq_getElem_cons->q9,length_append->qm
open Nat renaming add_assoc->qJ,le_refl->qf,le_succ->qz
open Prod renaming snd->Zm
namespace Go.Stx
open Go Go.Proofs
attribute [local irreducible] c8 aY aD aO cK da TW bG
section
variable [Gl]
variable [AF]
variable {d8:Int->Int->Int->Int} {c:br} {nt k:Nat} {M:Mm} {t:aT} {s:aJ}
theorem H1 (hc:cX c) (hk:k<2^24) (h:nO c nt k t) (AI:t.gH.length+t.dF.length<=4*k):Ru t:=by
 have h1:=h.gH;have h2:=h.sn;have h3:=h.xL;have h4:=h.pc;have h5:=(gY h.rU).1;have h6:=h.vX;have h7:=h.zK;have h8:=h.nB;exact⟨by rw [h.cf];exact hc,⟨h4.1,by omega⟩,by omega,by omega,by omega,by omega,by omega,h.rU⟩
theorem IO (h:nO c nt k t) (hd:t.done=false):cg t.fz=0:=by
 obtain⟨jz,hi⟩:=h.fz hd;rw [hi];exact(tQ h.rU jz).2.2
theorem DK (hc:cX c) (hk:k+1<2^24) (hM:k9 c nt k M) (h:nO c nt (k+1) t) (hd:t.done=false) (hA:Adv c k t s):FP t s M:=by
 have h1:=h.gH;have h2:=h.sn;obtain⟨VW,Xp⟩:=xj hc (by omega) hA.ok hM;have GL:=HL hA.ok hA.Dj M;have GK:=hc.nb;have e1:=VW.b.Dj;have e2:=hc.ay;exact⟨H1 hc hk h (by omega),hA.ok.XU hc hM,VW.b.Wj hc,IO h hd,h.lt hd,λe=>(hA.Ox e).1,λe=>⟨(hA.DQ e).1,(hA.DQ e).2.2.1⟩,λx hx=>by have:=GL x hx;omega,by omega⟩
theorem Oy (hc:cX c) (hk:k+1<2^24) (hM:k9 c nt k M) (h:nO c nt (k+1) t) (hcn:t.jB<=k) (hd:t.done=false)
 (hs:t.aW=true->(t.fz.op=12\/t.fz.op=13)/\bT t.aC t.pc.toNat=none) (hw:t.aW=false->t.pc=t.bN/\t.fz.op=7/\bT t.aC t.pc.toNat=none) :
 FP t.sy (fU (eP t.cf t.id)).2 M:=by
 have JO:=h.wD;have hcn0:=h.vX;have h1:nO c nt (k+1) t.sy:=⟨h.cf,h.nn,h.wD,h.rU,h.pc,h.dn,h.gH,by show ([]:List j7).length<=_;simp,h.xL,h.AE,by show 0<=t.jB+1/\t.jB+1<=((k+1:Nat):Int);omega,h.zK,h.nB⟩;have hn:(eP t.cf t.id).mi 0=true:=rfl;have hb:nP c k (fU (eP t.cf t.id)).2:=B9 (by rw [h.cf];exact yY hc k t.id (by omega));have dy:(fU (eP t.cf t.id)).2.aF=1:=by unfold fU;rw [aA hn]
 have hbf:∀x∈(fU (eP t.cf t.id)).2.ay,0<=x/\x<c.nb:=by
  unfold fU;rw [aA hn];intro x hx;cases hx
 refine DK hc hk hM h1 hd ⟨hb,dy,hbf,hs,λe=>?_⟩;obtain⟨w1,w2,w3⟩:=hw e;have kO:=h.pc;have ho:=rn h hd;show d6 t.aC t.bN.toNat=7/\bT t.aC t.bN.toNat=none/\0<=t.bN/\_;rw [<-w1];exact⟨ho.trans w2,w3,kO.1,.inl ⟨w1,w2⟩⟩
theorem Hy (hc:cX c) (h:nO c nt k t):∀x∈t.gE,x.1<2^62:=λx hx=>by
 have h1:=Fl hc (h.AE x hx);have h2:=hc.nb;omega
theorem Uj (h:nO c nt k t) (hd:t.done=false) (pY:Dm t.aC):t.fz.op=3->FE t.fz.bR:=by
 obtain⟨jz,hi⟩:=h.fz hd;rw [hi];exact pY _ (List.getElem_mem jz)
theorem TL (hA:xf d8) (hc:cX c) (hk:k+1<2^24) (hM:k9 c nt k M) (h:lw c nt k t) (hd:t.done=false) (ha:t.fL=none) (hf:t.dM=none) (pY:Dm t.aC):ExN d8 t M t.fz:=by
 have pX:=h.co;have h':=pX.mono (qz k);obtain⟨hs,iK⟩:=h.OX ha;obtain⟨jz,hi⟩:=pX.fz hd;have mO:=(tQ pX.rU jz).1 iK;rw [<-hi] at mO;have htr:=pX.zK;have h1:=pX.gH;have h2:=pX.sn;refine⟨hA,H1 hc (by omega) pX (by omega),IO pX hd,Uj pX hd pY,mO,λh7=>?_,λ_ mg=>?_,Hy hc pX⟩;exact Oy hc hk hM (t:={ t with bN:=t.pc,lH:=t.dE,iR:=t.iR+1 }) ⟨h'.cf,h'.nn,h'.wD,h'.rU,h'.pc,h'.dn,h'.gH,h'.sn,h'.xL,h'.AE,h'.vX,by dsimp only;omega,h'.nB⟩ pX.vX.2 hd (λe=>(by rw [show t.aW=true from e] at hs;cases hs)) (λ_=>⟨rfl,h7,iK⟩);exact Oy hc hk hM (t:={ t with aW:=true,fC:=0 }) ⟨h'.cf,h'.nn,h'.wD,h'.rU,h'.pc,h'.dn,h'.gH,h'.sn,h'.xL,h'.AE,h'.vX,h'.zK,by dsimp only;omega⟩ pX.vX.2 hd (λ_=>⟨mg,iK⟩) (λe=>(by cases e))
theorem XA (hc:cX c) (hk:k+1<2^24) (hM:k9 c nt k M) (h:lw c nt k t) (hd:t.done=false) (ha:t.fL=some s) (hs:t.aW=true):FP (t.ask t.fz s) (t.uj t.fz s) M:=by
 have pX:=h.co;have h':=pX.mono (qz k);have hak:=pX.nB;obtain⟨g1,_,_,g2⟩:=h.zY s ha;rw [aA (.inr hs)] at g1;exact DK hc hk hM (t:=t.ask t.fz s) ⟨h'.cf,h'.nn,h'.wD,h'.rU,h'.pc,h'.dn,h'.gH,h'.sn,h'.xL,h'.AE,h'.vX,h'.zK,by show 0<=t.fC+1/\t.fC+1<=((k+1:Nat):Int);omega⟩ hd ⟨Ob hc g1.ok _,Oa g1.st _,HM g1.Dj _,g1.Ox,λe=>(by rw [show t.aW=false from e] at hs;cases hs)⟩
theorem T3 (hc:cX c) (hk:k+1<2^24) (hM:k9 c nt k M) (h:lw c nt k t) (hd:t.done=false) (ha:t.fL=some s) (hb:s.jN=true):FP t s M:=by
 obtain⟨g1,_,_,g2⟩:=h.zY s ha;rw [aA (.inl hb)] at g1;exact DK hc hk hM (h.co.mono (qz k)) hd g1
theorem TJ (hA:xf d8) (hc:cX c) (hk:k+1<2^24) (hM:k9 c nt k M) (h:lw c nt k t) (hd:t.done=false) (ha:t.fL=some s) (hb:s.jN=false) (hs:t.aW=false) (pY:Dm t.aC):ExS d8 t s M t.fz:=by
 have pX:=h.co;have h':=pX.mono (qz k);have h1:=pX.gH;have h2:=pX.sn;obtain⟨g1,_,_,g2⟩:=h.zY s ha;rw [aw (by rw [hb,hs];simp)] at g1;have hR:=g1;obtain⟨w1,w2,w3,w4⟩:=hR.DQ;obtain⟨jz,hi⟩:=pX.fz hd;have mO:=(tQ pX.rU jz).2.1 _ w4;rw [<-hi] at mO;refine⟨hA,H1 hc (by omega) pX (by omega),hR.ok.b.Wj hc,IO pX hd,Uj pX hd pY,mO,λmg=>?_⟩;refine DK hc hk hM (t:={ t with fL:=some (t.Gn t.fz s) }) ⟨h'.cf,h'.nn,h'.wD,h'.rU,h'.pc,h'.dn,h'.gH,h'.sn,h'.xL,h'.AE,h'.vX,h'.zK,h'.nB⟩ hd ⟨ML hc hR.ok _,BI hR.st _,Hi hR.Dj _,λe=>(by have e2:t.aW=true:=e;rw [hR.Ox] at e2;cases e2),λ_=>⟨w1,w2,w3,?_⟩⟩;by_cases h89:t.fz.op=8\/t.fz.op=9;right;right;unfold aT.Gn;rw [aw (by omega),aw (by omega),aw (by omega),aw (by omega)];split;exact DD hR.st hb (.inl rfl);rw [aA (by omega)];exact DD hR.st hb (.inr rfl);exact .inr (.inl ⟨w4,by show t.fz.op=10\/t.fz.op=11\/t.fz.op=14\/t.fz.op=15;omega⟩)
theorem Cg (i:bm) (v:Int):(t.Ch i v).aC=t.aC:=by unfold aT.Ch;split<;>rfl
theorem B7:(t.oS s).aC=t.aC:=by unfold aT.oS;split<;>rfl
theorem TH:(t.bS s).aC=t.aC:=by
 unfold aT.bS;split;split;exact B7;exact B7;exact B7
theorem Q5 (i:bm):(t.tx i s).aC=t.aC:=by
 unfold aT.tx;split;split;unfold aT.ln;dsimp only;split;exact Cg _ _;split<;>rfl;exact TH;split;rfl
 (repeat' split)<;>rfl
theorem w6:(t.vN M s).2.2.1.aC=t.aC:=by
 unfold aT.vN;dsimp only;split;rfl;exact Q5 _
theorem u3:t.jP.aC=t.aC:=by unfold aT.jP;split<;>rfl
theorem G7 (f:jC):(t.sZ M f).2.1.aC=t.aC:=by
 unfold aT.sZ;split;dsimp only;split;exact u3;exact u3;exact u3
theorem MR (i:bm):(t.plain M i).2.2.1.aC=t.aC:=by
 unfold aT.plain;dsimp only;split;split<;>rfl;split;exact w6;split;exact Cg _ _;exact Cg _ _
theorem HI (i:bm):(t.k7 d8 M i).2.2.1.aC=t.aC:=by
 unfold aT.k7;split;exact w6;split;split;exact w6;exact(AC d8 t i).2.2.2.1;split;exact MR i;split;exact G7 _;exact(AC d8 t i).2.2.2.1
theorem Mx:(t.lX d8 M).2.2.1.aC=t.aC:=by
 unfold aT.lX;split;exact G7 _;split;split;exact w6;split;exact w6;exact HI _;exact HI _
theorem Hc:(t.step d8 M).2.2.2.1.aC=t.aC:=by
 unfold aT.step;split;rfl;exact Mx
theorem SH (d8:Int->Int->Int->Int) (t:aT) (i:bm):(t.iP d8 i).id=t.id:=by
 unfold aT.iP;split;rfl;split;rfl;split;rfl;split<;>rfl
theorem Ju (i:bm) (v:Int):(t.Ch i v).id=t.id:=by unfold aT.Ch;split<;>rfl
theorem I3:(t.oS s).id=t.id:=by unfold aT.oS;split<;>rfl
theorem fin_id:(t.bS s).id=t.id:=by
 unfold aT.bS;split;split;exact I3;exact I3;exact I3
theorem Ws (i:bm):(t.tx i s).id=t.id:=by
 unfold aT.tx;split;split;unfold aT.ln;dsimp only;split;exact Ju _ _;split<;>rfl;exact fin_id;split;rfl
 (repeat' split)<;>rfl
theorem zF:(t.vN M s).2.2.1.id=t.id:=by
 unfold aT.vN;dsimp only;split;rfl;exact Ws _
theorem zy:t.jP.id=t.id:=by unfold aT.jP;split<;>rfl
theorem HW (f:jC):(t.sZ M f).2.1.id=t.id:=by
 unfold aT.sZ;split;dsimp only;split;exact zy;exact zy;exact zy
theorem Se (i:bm):(t.plain M i).2.2.1.id=t.id:=by
 unfold aT.plain;dsimp only;split;split<;>rfl;split;exact zF;split;exact Ju _ _;exact Ju _ _
theorem DB (i:bm):(t.k7 d8 M i).2.2.1.id=t.id:=by
 unfold aT.k7;split;exact zF;split;split;exact zF;exact(SH d8 t i);split;exact Se i;split;exact HW _;exact(SH d8 t i)
theorem U0 (hc:cX c) (hk:k<2^40) (hM:k9 c nt k M) (h:lw c nt k t):lw c nt (k+1) (t.step d8 M).2.2.2.1/\k9 c nt (k+1) (t.step d8 M).2.2.2.2:=by
 unfold aT.step;split;exact⟨h.mono (by omega),hM.mono (by omega)⟩;rename_i hd;exact RW hc hk hM h (by simpa using hd)
end
section
abbrev An:List (Nat×Nat):=[(0,0),(1,0),(2,0),(3,0),(4,0),(5,0),(6,0),(7,0),(8,0),(9,0),(10,0),(11,2),(12,3)]
open T2
variable [Gl]
variable [AF]
theorem bn.Hu {P:Program} {f:FuncId} {args:List Value} {q:oh} {b:Nat} {t:aT} {rl post:List It} {φ:Value->Prop} (h:bn P f args rl φ (λ_=>.h (gF q b t)::post)) :
 d7 P f args rl (λ(_:XD) v=>φ v) (λx=>.at b (tD t.d ⟨go t.fL x.cW,x.vs,gk t.dM x.eD,lF t.dI x.kC,.slice (some ⟨q.bb,q.off,none⟩) t.aC.length q.eA,pv x.fm,x.vo⟩)::.h (dY t.fL x.cW)::.h (iU x.vs t.dF)::.h (dX t.dM x.eD)::.h (gq t.dI x.kC) ::
  .at q.bb q.o::.h (py x.fm t.cf t.gE)::.h (iU x.vo t.gH)::post):=λA F hw hS=>by
 refine bO (h A F hw hS) ?_;rintro v A' ⟨h1,h2⟩ _ _;obtain⟨x,hx⟩:=gF.open h2 .z;exact⟨x,h1,hx⟩
theorem d7.Hu {P:Program} {f:FuncId} {args:List Value} {q:oh} {b:Nat} {t:aT} {rl:List It} {post:Value->List It} {φ:Value->Value->Prop} (h:d7 P f args rl φ (λev=>.h (gF q b t)::post ev)) :
 d7 P f args rl (λ(y:Value×XD) v=>φ y.1 v) (λy=>.at b (tD t.d ⟨go t.fL y.2.cW,y.2.vs,gk t.dM y.2.eD,lF t.dI y.2.kC,.slice (some ⟨q.bb,q.off,none⟩) t.aC.length q.eA,pv y.2.fm,y.2.vo⟩)::.h (dY t.fL y.2.cW)::.h (iU y.2.vs t.dF)::.h (dX t.dM y.2.eD)::.h (gq t.dI y.2.kC) ::
  .at q.bb q.o::.h (py y.2.fm t.cf t.gE)::.h (iU y.2.vo t.gH)::post y.1):=λA F hw hS=>by
 refine bO (h A F hw hS) ?_;rintro v A' ⟨ev,h1,h2⟩ _ _;obtain⟨x,hx⟩:=gF.open h2 .z;exact⟨(ev,x),h1,hx⟩
theorem Ka {d8:Int->Int->Int->Int} (hA:xf d8) (hF:FOK) {c:br} {nt k:Nat} (hc:cX c) (hk:k+1<2^24) (q:oh) (b pb:Nat) (t:aT) (M:Mm) (hM:k9 c nt k M) (h:lw c nt k t) (pY:Dm t.aC) (Di:CR q t.aC) (hd:t.done=false) :
 d7 qa 41 [pv b,pv pb] [.h (gF q b t),dN pb M] (λev v=>v=.tuple #[eb (t.step d8 M).2.1,ev,.bool true]) (λev=>[.h (gF q b (t.step d8 M).2.2.2.1),dN pb (t.step d8 M).2.2.2.2,.h (fX ev (t.step d8 M).2.2.1)]):=by
 have hB:Ru t:=by
  have h1:=h.co.gH;have h2:=h.co.sn;exact H1 hc (by omega) h.co (by omega)
 have kO:0<=t.pc/\t.pc<2^40:=hB.pc;have cD:=h.co.lt hd;have oP:t.pc.toNat<t.aC.length:=by omega
 obtain⟨Lk,Mf⟩:=Di.at oP;have YZ:t.aC[t.pc.toNat]=t.fz:=by
  unfold aT.fz aT.wC;rw [List.getD_eq_getElem?_getD,List.getElem?_eq_getElem oP];rfl
 rw [YZ] at Mf;have Dg:q.off+t.d.pc.toNat*5+5<=q.b8.length:=Lk;have EZ:(q.b8.drop (q.off+t.d.pc.toNat*5)).take 5=az t.fz:=Mf;have IQ:0<=t.d.pc:=kO.1;have EO:t.d.pc<(t.aC.length:Int):=cD;have NG:t.d.done=false:=hd;have hi:=IO h.co hd;unfold aT.step;rw [aw (by rw [hd];decide)];dsimp only;unfold aT.lX;cases dL:t.dM with
 | some f=>
   obtain⟨dB,_,g3,g4,g5,g6,g7⟩:=h.fen f dL;have JO:=h.co.wD;have EL:=G9 q b pb t M f dB dL hB (by omega) (Hy hc h.co) (λl e=>by
    obtain⟨h1,h2,_⟩:=h.dr l e;exact⟨h1,by omega⟩)
   dsimp only;have Lf:(t.sZ M f).2.1.d.id=t.d.id:=HW f;generalize t.sZ M f=r at EL Lf ⊢;have fa:=dL;intro A F hw dA;refine aN kaw λ_=>?_;dsimp only [aa,af] at dA;obtain⟨⟨cW,eD,kC,fm,vs,vo⟩,hS⟩:=gF.open dA .z;clear dA;dsimp only [jb,aa,af] at hS;rw [dB,dL] at hS;dsimp only [dY,go,dX,gk,gq,lF] at hS;have hq:=gh hS hw;have kS:∀k l,(b=A.next+k+l)=False:=λk l=>by simp [hq,qJ]
   have vW:∀k l,(q.bb=A.next+k+l)=False:=λk l=>by simp [hq,qJ]
   revert hq hS hw;(repeat first|revert hc|revert R|revert K);refine Wu (J2 (Tg.mk (n:=35) (bn.Hu EL)) (od An)) (DM kS vW Lf NG IQ EO Dg EZ @eb.eq_1 bE) ?_<;>(unhygienic intros);refine⟨_,by first|rfl|(simp;rfl)|(simp [hq,AW.ab,aG];rfl),?_⟩;apply yw
   (·first|rfl|(simp [eb,eF.zero,aZ.v,aZ.zero];done)|(simp [eb,eF.zero,aZ.v,aZ.zero];rfl))
   apply gF.bS;apply fX.nil
   (·exact sA)
   dsimp only [jb]
   (·first|exact pe|exact pj)
   (·first|exact pe|exact pj)
 | none=>
   have fa:=h.OY dL;dsimp only;cases dB:t.fL with
   | none=>
     dsimp only;have rO:=TM hF q b pb t M t.fz dB dL fa (TL hA hc hk hM h hd dB dL pY) Di;have Lf:(t.k7 d8 M t.fz).2.2.1.d.id=t.d.id:=DB _;generalize t.k7 d8 M t.fz=r at rO Lf ⊢;generalize t.fz=i at *;obtain⟨op,i1,i2,i3,bR⟩:=i;unfold j4 at rO;intro A F hw dA;refine aN kaw λ_=>?_;dsimp only [aa,af] at dA;obtain⟨⟨cW,eD,kC,fm,vs,vo⟩,hS⟩:=gF.open dA .z;clear dA;dsimp only [jb,aa,af] at hS;rw [dB,dL,fa] at hS;dsimp only [dY,go,dX,gk,gq,lF] at hS;have hq:=gh hS hw;have kS:∀k l,(b=A.next+k+l)=False:=λk l=>by simp [hq,qJ]
     have vW:∀k l,(q.bb=A.next+k+l)=False:=λk l=>by simp [hq,qJ]
     revert hq hS hw;(repeat first|clear hq|clear hS|clear hw|revert hc|revert R|revert K);refine Wu (J2 (Tg.mk (n:=35) (d7.Hu rO)) (od An)) (JD kS vW Lf NG IQ EO Dg EZ @az.eq_1 @eb.eq_1 bE) ?_<;>(unhygienic intros);refine⟨_,by first|rfl|(simp;rfl)|(simp [hq,AW.ab,aG];rfl),?_⟩;apply yw
     (·first|rfl|(simp [eb,eF.zero,aZ.v,aZ.zero];done)|(simp [eb,eF.zero,aZ.v,aZ.zero];rfl))
     apply gF.bS
     . skip
       (·exact sA)
     dsimp only [jb]
     (·first|exact pe|exact pj)
     (·first|exact pe|exact pj)
   | some s=>
     dsimp only;by_cases hb:s.jN=true
     . rw [aA hb];have QE:=w8 hF (T3 hc hk hM h hd dB hb) q b pb dB dL fa Di;have vV:=λn=>vK n s;simp only [hb] at vV;have Lf:(t.vN M s).2.2.1.d.id=t.d.id:=zF;generalize t.vN M s=r at QE Lf ⊢;intro A F hw dA;refine aN kaw λ_=>?_;dsimp only [aa,af] at dA;obtain⟨⟨cW,eD,kC,fm,vs,vo⟩,hS⟩:=gF.open dA .z;clear dA;dsimp only [jb,aa,af] at hS;rw [dB,dL,fa] at hS;dsimp only [dY,go,dX,gk,gq,lF] at hS;have hq:=gh hS hw;have kS:∀k l,(b=A.next+k+l)=False:=λk l=>by simp [hq,qJ]
       have vW:∀k l,(q.bb=A.next+k+l)=False:=λk l=>by simp [hq,qJ]
       revert hq hS hw;(repeat first|clear hq|clear hS|clear hw|revert hc|revert R|revert K);refine Wu (J3 (Tg.mk (n:=10) (λ{A L K k}=>fp (A:=A) (L:=L) (K:=K) (k:=k) (vV cW))) (Tg.mk (n:=35) (d7.Hu QE)) (od An)) (DM kS vW Lf NG IQ EO Dg EZ @eb.eq_1 bE) ?_<;>(unhygienic intros);refine⟨_,by first|rfl|(simp;rfl)|(simp [hq,AW.ab,aG];rfl),?_⟩;apply yw
       (·first|rfl|(simp [eb,eF.zero,aZ.v,aZ.zero];done)|(simp [eb,eF.zero,aZ.v,aZ.zero];rfl))
       apply gF.bS
       . skip
         (·exact sA)
       dsimp only [jb]
       (·first|exact pe|exact pj)
       (·first|exact pe|exact pj)
     rw [aw hb];have kS:s.jN=false:=by simpa using hb
     have vV:=λn=>vK n s;simp only [kS] at vV;by_cases hs:t.aW=true
     . rw [aA hs];have yk:t.d.aW=true:=hs;have QE:=w8 hF (t:={ t with fC:=t.fC+1,fL:=some (t.uj t.fz s) }) (XA hc hk hM h hd dB hs) q b pb rfl dL fa Di;obtain⟨g1,_,_,g2⟩:=h.zY s dB;rw [aA (.inr hs)] at g1;have VT:=λvs vf vd vc vl vo n=>PT b n t.d vs vf vd vc vl vo t.fz s (g1.ok.b.Wj hc) (g1.Ox hs).1 hi hB.nB;have ea:Oc t.d t.fz s=t.uj t.fz s:=rfl;rw [ea] at VT;have Lf:(({ t with fC:=t.fC+1,fL:=some (t.uj t.fz s) }:aT).vN M (t.uj t.fz s)).2.2.1.d.id=t.d.id:=zF;rw [show t.ask t.fz s={ t with fC:=t.fC+1,fL:=some (t.uj t.fz s) } from rfl];generalize ({ t with fC:=t.fC+1,fL:=some (t.uj t.fz s) }:aT).vN M (t.uj t.fz s)=r at QE Lf ⊢;generalize t.uj t.fz s=s2 at QE VT ⊢;generalize t.fz=i at *;obtain⟨op,i1,i2,i3,bR⟩:=i;unfold j4 at VT;intro A F hw dA;refine aN kaw λ_=>?_;dsimp only [aa,af] at dA;obtain⟨⟨cW,eD,kC,fm,vs,vo⟩,hS⟩:=gF.open dA .z;clear dA;dsimp only [jb,aa,af] at hS;rw [dB,dL,fa] at hS
       dsimp only [dY,go,dX,gk,gq,lF] at hS;have hq:=gh hS hw;have kS:∀k l,(b=A.next+k+l)=False:=λk l=>by simp [hq,qJ]
       have vW:∀k l,(q.bb=A.next+k+l)=False:=λk l=>by simp [hq,qJ]
       revert hq hS hw;(repeat first|clear hq|clear hS|clear hw|revert hc|revert R|revert K);refine Wu (J4 (Tg.mk (n:=10) (λ{A L K k}=>fp (A:=A) (L:=L) (K:=K) (k:=k) (vV cW))) (Tg.mk (n:=37) (λx1 x2 x3 x4 x5 x6=>VT x1 x2 x3 x4 x5 x6 cW)) (Tg.mk (n:=35) (d7.Hu QE)) (od An)) (xe kS vW Lf NG yk IQ EO Dg EZ @az.eq_1 @eb.eq_1 bE) ?_<;>(unhygienic intros);refine⟨_,by first|rfl|(simp;rfl)|(simp [hq,AW.ab,aG];rfl),?_⟩;apply yw
       (·first|rfl|(simp [eb,eF.zero,aZ.v,aZ.zero];done)|(simp [eb,eF.zero,aZ.v,aZ.zero];rfl))
       apply gF.bS
       . skip
         (·exact sA)
       dsimp only [jb]
       (·first|exact pe|exact pj)
       (·first|exact pe|exact pj)
     rw [aw hs];have O4:t.aW=false:=by simpa using hs
     have yk:t.d.aW=false:=O4;have rO:=TK hF q b pb t s M t.fz dB dL fa (TJ hA hc hk hM h hd dB kS O4 pY) Di;have Lf:(t.k7 d8 M t.fz).2.2.1.d.id=t.d.id:=DB _;generalize t.k7 d8 M t.fz=r at rO Lf ⊢;generalize t.fz=i at *;obtain⟨op,i1,i2,i3,bR⟩:=i;unfold j4 at rO;intro A F hw dA;refine aN kaw λ_=>?_;dsimp only [aa,af] at dA;obtain⟨⟨cW,eD,kC,fm,vs,vo⟩,hS⟩:=gF.open dA .z;clear dA;dsimp only [jb,aa,af] at hS;rw [dB,dL,fa] at hS;dsimp only [dY,go,dX,gk,gq,lF] at hS;have hq:=gh hS hw;have kS:∀k l,(b=A.next+k+l)=False:=λk l=>by simp [hq,qJ]
     have vW:∀k l,(q.bb=A.next+k+l)=False:=λk l=>by simp [hq,qJ]
     revert hq hS hw;(repeat first|clear hq|clear hS|clear hw|revert hc|revert R|revert K);refine Wu (J3 (Tg.mk (n:=10) (λ{A L K k}=>fp (A:=A) (L:=L) (K:=K) (k:=k) (vV cW))) (Tg.mk (n:=35) (d7.Hu rO)) (od An)) (xe kS vW Lf NG yk IQ EO Dg EZ @az.eq_1 @eb.eq_1 bE) ?_<;>(unhygienic intros);refine⟨_,by first|rfl|(simp;rfl)|(simp [hq,AW.ab,aG];rfl),?_⟩;apply yw
     (·first|rfl|(simp [eb,eF.zero,aZ.v,aZ.zero];done)|(simp [eb,eF.zero,aZ.v,aZ.zero];rfl))
     apply gF.bS
     . skip
       (·exact sA)
     dsimp only [jb]
     (·first|exact pe|exact pj)
     (·first|exact pe|exact pj)
end
section
abbrev Vg:List (Nat×Nat):=[(0,0),(1,0),(2,0),(3,0),(4,0),(5,0),(6,0),(7,0),(8,0),(9,0),(10,0),(11,2),(12,3)]
abbrev Dr:List (Nat×Nat):=[(0,0),(1,0),(2,0),(3,0),(5,0),(4,2),(6,2),(7,0),(8,2),(9,0)]
open T7
variable [Gl]
theorem Jc (v:Value) (n:Nat) (cs:List Value) (A:AW) (h:fW A 5 v n cs) (h1:cs.all qL=true) (hl:n<2^30) :
 aD qa 60 [v] A (λu A'=>dS A.next A' 5 u n cs/\A.le A'/\A'.Wf):=by
 refine aN Tryz.func60 λhw=>?_;have hv:(∃c,v=.slice none n c)\/∃q c,v=.slice (some q) n c:=by
  rcases h with ⟨⟨o,rfl⟩,rfl,rfl⟩|⟨p,c,b8,own,u,rfl,_⟩
  . cases o with
    | none=>exact .inl ⟨_,rfl⟩
    | some q=>exact .inr ⟨_,_,rfl⟩
  exact .inr ⟨_,_,rfl⟩
 rcases hv with ⟨c,rfl⟩|⟨q,c,rfl⟩;obtain⟨rfl,rfl,rfl⟩:n=0/\c=0/\cs=[]:=by
  rcases h with ⟨⟨o,h0⟩,h2,h3⟩|⟨p,c',b8,own,u,h0,_⟩;injection h0 with h4 h5 h6;exact⟨h2,h6,h3⟩;cases h0
 revert hw;refine W cF cF ?_<;>(unhygienic intros);exact⟨_,rfl,.inl ⟨rfl,rfl,rfl⟩,qi A,hw⟩;have h2:=fW.le (qb A (.cells [] true 5)) hw h;have jy:dS A.next (A.alloc (.cells [] true 5)) 5 (.slice (some ⟨A.next,0,none⟩) 0 0) 0 []:=.inr ⟨⟨A.next,0,none⟩,0,[],rfl,qf _,rfl,qf _,by simp,by simp,by simp⟩;obtain⟨v',A',e1,e2,e3,e4,e5,e6,e7⟩:=ke (P:=qa) (size:=5) (t:=75) Tryz.underlying75 Tryz.info74 Tryz.zero74 rfl rfl (by omega) jy (fW.nM h2) h1 (by omega) (by simp;omega) (by simp) (hw.alloc _);refine W cF (J1 e1) ?_<;>intros;refine⟨_,rfl,?_,?_,e4⟩
 simpa using e2
 exact e3 A (qf _) (qb A _)
theorem Jb (v:Value) (n:Nat) (cs:List Value) (A:AW) (h:fW A 3 v n cs) (h1:cs.all qL=true) (hl:n<2^30) :
 aD qa 68 [v] A (λu A'=>dS A.next A' 3 u n cs/\A.le A'/\A'.Wf):=by
 refine aN Tryz.func68 λhw=>?_;have hv:(∃c,v=.slice none n c)\/∃q c,v=.slice (some q) n c:=by
  rcases h with ⟨⟨o,rfl⟩,rfl,rfl⟩|⟨p,c,b8,own,u,rfl,_⟩
  . cases o with
    | none=>exact .inl ⟨_,rfl⟩
    | some q=>exact .inr ⟨_,_,rfl⟩
  exact .inr ⟨_,_,rfl⟩
 rcases hv with ⟨c,rfl⟩|⟨q,c,rfl⟩;obtain⟨rfl,rfl,rfl⟩:n=0/\c=0/\cs=[]:=by
  rcases h with ⟨⟨o,h0⟩,h2,h3⟩|⟨p,c',b8,own,u,h0,_⟩;injection h0 with h4 h5 h6;exact⟨h2,h6,h3⟩;cases h0
 revert hw;refine W cF cF ?_<;>(unhygienic intros);exact⟨_,rfl,.inl ⟨rfl,rfl,rfl⟩,qi A,hw⟩;have h2:=fW.le (qb A (.cells [] true 3)) hw h;have jy:dS A.next (A.alloc (.cells [] true 3)) 3 (.slice (some ⟨A.next,0,none⟩) 0 0) 0 []:=.inr ⟨⟨A.next,0,none⟩,0,[],rfl,qf _,rfl,qf _,by simp,by simp,by simp⟩;obtain⟨v',A',e1,e2,e3,e4,e5,e6,e7⟩:=ke (P:=qa) (size:=3) (t:=117) Tryz.underlying117 Tryz.info159 Tryz.zero159 rfl rfl (by omega) jy (fW.nM h2) h1 (by omega) (by simp;omega) (by simp) (hw.alloc _);refine W cF (J1 e1) ?_<;>intros;refine⟨_,rfl,?_,?_,e4⟩
 simpa using e2
 exact e3 A (qf _) (qb A _)
def DX (b:Nat) (t:aT) (f:XD) (vc:Value):List It:=[.at b (tD t.d ⟨go t.fL f.cW,f.vs,gk t.dM f.eD,lF t.dI f.kC,vc,pv f.fm,f.vo⟩),.h (dY t.fL f.cW),.h (iU f.vs t.dF),.h (dX t.dM f.eD),.h (gq t.dI f.kC),
 .h (HS vc t.aC),.h (py f.fm t.cf t.gE),.h (iU f.vo t.gH)]
def tH (b:Nat) (t:aT):HP:=rO λf:XD×Value=>aM (DX b t f.1 f.2)
theorem tH.open {A:AW} {L K:List It} {b:Nat} {t:aT} (h:ah A L) (hp:aE L (.h (tH b t)) K):∃f:XD×Value,ah A (DX b t f.1 f.2++K):=jV h hp
theorem tH.dP {A:AW} {L K:List It} {b:Nat} {t:aT} {f:XD} {vc:Value} (h:ah A L) (e:aX L (DX b t f vc) K):ah A (.h (tH b t)::K):=iM (f,vc) h e
theorem tH.bS {A:AW} {L K G K2:List It} {b:Nat} {t:aT} {cW eD kC fm:Nat} {vs vo vc:Value} (h:ah A L) (e:aX L (DX b t ⟨cW,eD,kC,fm,vs,vo⟩ vc) K) (e2:aX K G K2):ah A (.h (tH b t)::G):=ah.bS (tH.dP h e) (.s .z e2)
theorem tH.toQ {A:AW} {L K:List It} {b:Nat} {t:aT} (h:ah A L) (hp:aE L (.h (tH b t)) K) (hl:0<t.aC.length):∃q,CR q t.aC/\ah A (.h (gF q b t)::K):=by
 obtain⟨⟨⟨cW,eD,kC,fm,vs,vo⟩,vc⟩,h1⟩:=tH.open h hp;dsimp only [DX,aa,af] at h1;obtain⟨q,rfl,h2,h3⟩:=TU h1 (.s (.s (.s (.s (.s .z))))) hl;refine⟨q,h2,gF.dP (cW:=cW) (eD:=eD) (kC:=kC) (fm:=fm) (vs:=vs) (vo:=vo) h3 ?_⟩;unfold jb;dsimp only
 (·first|exact pe|exact pj)
theorem gF.toP {A:AW} {L K:List It} {q:oh} {b:Nat} {t:aT} (h:ah A L) (hp:aE L (.h (gF q b t)) K) (hR:CR q t.aC):ah A (.h (tH b t)::K):=by
 obtain⟨⟨cW,eD,kC,fm,vs,vo⟩,h1⟩:=gF.open h hp;dsimp only [jb,aa,af] at h1;have h2:=QV hR h1 (.s (.s (.s (.s (.s .z)))));refine tH.dP (f:=⟨cW,eD,kC,fm,vs,vo⟩) (vc:=.slice (some ⟨q.bb,q.off,none⟩) t.aC.length q.eA) h2 ?_;unfold DX;dsimp only
 (·first|exact pe|exact pj)
def XX (d:vO):Value:=.agg (.int .i64 d.pc::(d.dE.cells++[.int .i64 d.kR,.bool d.done])).toArray
theorem Kc (b:Nat) (t:aT) (M:Mm) (pb:Nat) (hd:t.done=true):bn qa 41 [pv b,pv pb] [.h (tH b t)] (λv=>v=.tuple #[eb eF.zero,.slice none 0 0,.bool false]) (λ_=>[.h (tH b t)]):=by
 intro A F hw dA;refine aN kaw λ_=>?_;dsimp only [aa,af] at dA;obtain⟨⟨⟨cW,eD,kC,fm,vs,vo⟩,vc⟩,hS⟩:=tH.open dA .z;clear dA;dsimp only [DX,aa,af] at hS;have hq:=fE hS hw;have NG:t.d.done=true:=hd;revert hq hS hw;refine W (J1 (od Vg)) (J2 NG bE) ?_<;>(unhygienic intros);refine⟨_,by first|rfl|(simp;rfl)|(simp [hq,AW.ab,aG];rfl),by first|rfl|(simp [eb,eF.zero,aZ.v,aZ.zero];done),?_⟩;apply tH.bS
 (·exact sA)
 unfold DX;dsimp only
 (·first|exact pe|exact pj)
 (·first|exact pe|exact pj)
theorem Vu (l:List bm):(l.flatMap az).all qL=true:=by
 rw [List.all_eq_true];intro v hv;obtain⟨x,_,hx⟩:=List.mem_flatMap.1 hv;simp only [az,List.mem_cons,List.not_mem_nil,or_false] at hx;rcases hx with rfl|rfl|rfl|rfl|rfl<;>rfl
theorem Nc (c:br) {A:AW} {L:List It} {k:Value->AW->Prop} (hw:A.Wf) (hS:ah A L) (hk:∀n A',ah A' (.h (py n c [])::L)->A'.Wf->A.le A'->k (pv n) A'):aD qa 61 [c.v] A k:=by
 refine aN Tryz.func61 λ_=>?_;obtain⟨mC,fR,lS,c0,c1,c2,c3,kL,lO,lT,lR,iZ,mW⟩:=c;simp only [br.v,br.cells];revert hS hw;refine W cF (J1 bE) ?_<;>(unhygienic intros);refine⟨_,by first|rfl|(simp;rfl),?_⟩;have w1:=hw.alloc (.cells [.int .i64 mC,.int .i64 fR,.int .i64 lS,.int .i64 c0,.int .i64 c1,.int .i64 c2,.int .i64 c3,.int .i64 kL,.int .i64 lO,.int .i64 lT,.int .i64 lR,.int .i64 iZ,.bool mW] true 1);have h1:ah _ L:=bB.alloc hS hw (.cells [.int .i64 mC,.int .i64 fR,.int .i64 lS,.int .i64 c0,.int .i64 c1,.int .i64 c2,.int .i64 c3,.int .i64 kL,.int .i64 lO,.int .i64 lT,.int .i64 lR,.int .i64 iZ,.bool mW] true 1) |>.right;refine hk (A.next+1) _ ?_ (w1.alloc _) ((qb A _).trans (qb _ _));refine py.dP (v:=.slice none 0 0) (L:=.h (UM (.slice none 0 0) [])::.at (A.next+1) (SL ⟨mC,fR,lS,c0,c1,c2,c3,kL,lO,lT,lR,iZ,mW⟩ (.slice none 0 0))::L) ?_ (.s (.s .z) (.s .z .z));exact dv.nil (bB.alloc h1 w1 _)
theorem RM (b:Nat) (d:vO) (va vs vf vd vl vo:Value) (o:Option Addr) (n c:Nat) (pc:Int) (A:AW) (hg:A.bp b=some (tD d ⟨va,vs,vf,vd,.slice o n c,vl,vo⟩)) :
 aD qa 62 [pv b,.int .i64 pc] A (λu A'=>A'=A.set b (some (tD { d with pc:=pc,done:=decide (pc=n) } ⟨va,vs,vf,vd,.slice o n c,vl,vo⟩))):=by
 refine aN Tryz.func62 λ_=>?_;refine W cF (J2 hg bE) ?_<;>intros;exact⟨_,rfl,AW.set_set⟩
theorem ah.V9 {A:AW} {L:List It} (h:ah A L):ah A (.h eZ::L):=by
 unfold ah at *;show bB A (eZ*aM L);rw [iD];exact h
theorem ah.drop2 {A:AW} {x y:It} {L:List It} (h:ah A (x::y::L)):ah A (x::L):=by
 have h2:bB A (y.hp*(x.hp*aM L)):=bB.dZ h (by show x.hp*(y.hp*aM L)=_;ac_rfl);exact h2.right
theorem KF (hF:FOK) {c:br} (hc:cX c) (id n:Int) (JO:0<=id/\id<n/\n<=16) (v:Value) (p:List bm) (hp:(cG p).2=0) {A:AW} {L:List It} {k:Value->AW->Prop} (hw:A.Wf) (hS:ah A L) (h:ly A v p)
 (hk:∀b A',ah A' (.h (tH b (nX c id n p))::L)->A'.Wf->A.le A'->k (.tuple #[pv b,.int .i64 0]) A'):aD qa 40 [c.v,.int .i64 id,.int .i64 n,v] A k:=by
 refine aN Tryz.func40 λ_=>?_;have hl:p.length<=64:=(gY hp).1;obtain⟨o,cc,rfl,_⟩:=h.cy;have CL:=rV c hc;have kO:=λO=>rG hF (.slice o p.length cc) p (A.alloc O) (fW.le (qb A O) hw h);have hln:=λ{A:AW} {L:List It} {k:Value->AW->Prop}=>Nc c (A:=A) (L:=L) (k:=k);generalize Qt:cG p=pp at hp kO;obtain⟨p1,p2⟩:=pp;dsimp only at hp;subst hp;unfold oQ at kO;have a1:¬n<1:=by omega
 have a2:¬16<n:=by omega
 have a3:¬id<0:=by omega
 have a4:¬n<=id:=by omega
 obtain⟨mC,fR,lS,c0,c1,c2,c3,kL,lO,lT,lR,iZ,mW⟩:=c;simp only [br.v,br.cells] at CL hln ⊢;revert hS hw;(repeat first|revert hc|revert R|revert K);refine W (J3 (od Dr) @CL @kO) (J5 a1 a2 a3 a4 bE) ?_<;>(unhygienic intros);have w1:=hw.alloc (.cells [.int .i64 mC,.int .i64 fR,.int .i64 lS,.int .i64 c0,.int .i64 c1,.int .i64 c2,.int .i64 c3,.int .i64 kL,.int .i64 lO,.int .i64 lT,.int .i64 lR,.int .i64 iZ,.bool mW] true 1);have h1:ah _ (.at A.next _::L):=bB.alloc hS hw (.cells [.int .i64 mC,.int .i64 fR,.int .i64 lS,.int .i64 c0,.int .i64 c1,.int .i64 c2,.int .i64 c3,.int .i64 kL,.int .i64 lO,.int .i64 lT,.int .i64 lR,.int .i64 iZ,.bool mW] true 1);refine bO (Jc _ _ _ _ (fW.le (qb A _) hw h) (Vu p) (by omega)) ?_;rintro u A4 ⟨ho4,nh,pU⟩ _ _
 first|refine⟨nh,?_⟩|skip
 have h4:ah A4 (.h (HS u p)::.at A.next _::L):=dv.iB h1 w1 nh ho4;obtain⟨o4,c4,rfl,_⟩:=ho4.is.cy;have hg4:=h4.g 1 rfl;revert hS hw;(repeat first|clear hS|clear hw|revert hc|revert R|revert K);refine W (J1 (od Dr)) (J2 hg4 bE) ?_<;>(unhygienic intros);refine hln pU h4 ?_;intro n5 A5 h5 CG Lk
 first|refine⟨Lk,?_⟩|skip
 revert hS hw;(repeat first|clear hS|clear hw|revert hc|revert R|revert K);refine W (J1 (od Dr)) (J1 bE) ?_<;>(unhygienic intros);refine bO (RM A5.next ⟨0,.zero,0,false,0,⟨mC,fR,lS,c0,c1,c2,c3,kL,lO,lT,lR,iZ,mW⟩,id,n,0,.zero,0,false,0⟩ (.pointer none) (.slice none 0 0) (.pointer none) (.pointer none) (pv n5) (.slice none 0 0) o4 p.length c4 0 _ (AW.bY _ _)) ?_;rintro u A6 rfl _ _
 first|refine⟨qi _,?_⟩|skip
 revert hS hw;(repeat first|clear hS|clear hw|revert hc|revert R|revert K);refine W (J1 (od Dr)) (J1 bE) ?_<;>(unhygienic intros);refine⟨.tuple #[pv A5.next,.int .i64 0],by simp [bu,aQ,aS],?_⟩
 have h6:ah ((A5.alloc (tD ⟨0,.zero,0,false,0,⟨mC,fR,lS,c0,c1,c2,c3,kL,lO,lT,lR,iZ,mW⟩,id,n,0,.zero,0,false,0⟩ ⟨.pointer none,.slice none 0 0,.pointer none,.pointer none,.slice o4 p.length c4,pv n5,.slice none 0 0⟩)).set A5.next (some (tD ⟨0,.zero,0,false,0,⟨mC,fR,lS,c0,c1,c2,c3,kL,lO,lT,lR,iZ,mW⟩,id,n,0,.zero,0,decide ((0:Int)=p.length),0⟩ ⟨.pointer none,.slice none 0 0,.pointer none,.pointer none,.slice o4 p.length c4,pv n5,.slice none 0 0⟩))) (.at A5.next (tD ⟨0,.zero,0,false,0,⟨mC,fR,lS,c0,c1,c2,c3,kL,lO,lT,lR,iZ,mW⟩,id,n,0,.zero,0,decide ((0:Int)=p.length),0⟩ ⟨.pointer none,.slice none 0 0,.pointer none,.pointer none,.slice o4 p.length c4,pv n5,.slice none 0 0⟩)::.h (py n5 ⟨mC,fR,lS,c0,c1,c2,c3,kL,lO,lT,lR,iZ,mW⟩ [])::.h (HS (.slice o4 p.length c4) p)::.at A.next (.cells [.int .i64 mC,.int .i64 fR,.int .i64 lS,.int .i64 c0,.int .i64 c1,.int .i64 c2,.int .i64 c3,.int .i64 kL,.int .i64 lO,.int .i64 lT,.int .i64 lR,.int .i64 iZ,.bool mW] true 1)::L):=
  bB.set (bB.alloc h5 CG _) _
 refine hk A5.next _ ?_ ((CG.alloc _).set _ (by simp)) (((qb A _).trans nh).trans (Lk.trans (AW.le.lP A5 _ _)));have h7:=ah.V9 (ah.V9 (ah.V9 (ah.Yk (ah.Yk h6))));have e:decide ((0:Int)=p.length)=decide (p.length=0):=by
  by_cases e:p.length=0;simp [e];rw [decide_eq_false e,decide_eq_false (by omega)]
 rw [e] at h7;have h8:=tH.dP (b:=A5.next) (t:=nX ⟨mC,fR,lS,c0,c1,c2,c3,kL,lO,lT,lR,iZ,mW⟩ id n p) (f:=⟨0,0,0,n5,.slice none 0 0,.slice none 0 0⟩) (vc:=.slice o4 p.length c4) (K:=.at A.next (.cells [.int .i64 mC,.int .i64 fR,.int .i64 lS,.int .i64 c0,.int .i64 c1,.int .i64 c2,.int .i64 c3,.int .i64 kL,.int .i64 lO,.int .i64 lT,.int .i64 lR,.int .i64 iZ,.bool mW] true 1)::L) h7 (by
  show aX _ [.at A5.next (tD ⟨0,.zero,0,false,0,⟨mC,fR,lS,c0,c1,c2,c3,kL,lO,lT,lR,iZ,mW⟩,id,n,0,.zero,0,decide (p.length=0),0⟩ ⟨.pointer none,.slice none 0 0,.pointer none,.pointer none,.slice o4 p.length c4,pv n5,.slice none 0 0⟩),.h eZ,.h (iU (.slice none 0 0) []),.h eZ,.h eZ,.h (HS (.slice o4 p.length c4) p),.h (py n5 _ []),.h (iU (.slice none 0 0) [])] _
  first|exact pA|exact kA)
 have h9:=ah.drop2 h8;rw [<-e] at h9;exact h9
theorem d7.ev0 {P:Program} {f:FuncId} {args:List Value} {rl:List It} {x y:Value} {a1 a2:It} (h:d7 P f args rl (λev v=>v=.tuple #[x,ev,y]) (λev=>[a1,a2,.h (fX ev [])])) :
 d7 P f args rl (λ(z:Option Addr×Nat) v=>v=.tuple #[x,.slice z.1 0 z.2,y]) (λ_=>[a1,a2]):=λA F hw hS=>by
 refine bO (h A F hw hS) ?_;rintro v A' ⟨ev,rfl,h2⟩ _ _;obtain⟨q,hq,h3⟩:=fX.open h2 (.s (.s .z));have O7:q=[]:=List.map_eq_nil_iff.1 hq;subst O7;dsimp only [Fb,aa,af] at h3;obtain⟨o,c,rfl,_⟩:=fW.cy (ah.lm h3 .z);refine⟨(o,c),rfl,?_⟩;exact h3.tail.tail
end
section
open T7
variable [Gl]
variable [AF]
theorem UX {d8:Int->Int->Int->Int} (hA:xf d8) (hF:FOK) {c:br} {nt k:Nat} (hc:cX c) (hk:k+1<2^24) (b pb:Nat) (t:aT) (M:Mm) (hM:k9 c nt k M) (h:lw c nt k t) (pY:Dm t.aC) (hd:t.done=false) :
 d7 qa 41 [pv b,pv pb] [.h (tH b t),dN pb M] (λev v=>v=.tuple #[eb (t.step d8 M).2.1,ev,.bool true]) (λev=>[.h (tH b (t.step d8 M).2.2.2.1),dN pb (t.step d8 M).2.2.2.2,.h (fX ev (t.step d8 M).2.2.1)]):=by
 intro A F hw hS;have cD:=h.co.lt hd;have kO:=h.co.pc;obtain⟨q,hR,kZ⟩:=tH.toQ hS .z (by omega);refine bO (Ka hA hF hc hk q b pb t M hM h pY hR hd A F hw kZ) ?_;rintro v A' ⟨ev,h1,h2⟩ _ _;exact⟨ev,h1,gF.toP h2 .z (by rw [Hc];exact hR)⟩
theorem PO (b:Nat) (d:vO) (w:Up) (l:List j7) (hl:l.length<2^30) {A:AW} {L K:List It} {k:Value->AW->Prop} (hw:A.Wf) (hS:ah A L) (hp:aX L [.at b (tD d w),.h (iU w.vo l)] K)
 (hk:∀o c A',ah A' (.h (iU (.slice o l.length c) l)::L)->A'.Wf->A.le A'->k (.slice o l.length c) A'):aD qa 45 [pv b] A k:=by
 have kZ:ah A (.at b (tD d w)::.h (iU w.vo l)::K):=by
  unfold ah at hS ⊢;rw [hp.aM] at hS;refine bB.dZ hS ?_;show (pt b (tD d w)*(iU w.vo l*eZ))*aM K=pt b (tD d w)*(iU w.vo l*aM K);rw [dO]
  ac_rfl
 have hq:=kZ.eJ hw;dsimp only [aa,af,aV,bq,bQ,eQ] at hq;have JL:fW A 3 w.vo l.length (uL l):=ah.lm kZ (.s .z);refine aN Tryz.func45 λ_=>?_
 repeat' (first|(refine kY λR hR=>?_;simp [ar,ax,hq,AW.ab,aG];try simp (disch:=omega) only [aA,aw,ar,ax])|(refine hR _ _ ?_;clear hR R)|(refine hK _ _ ?_;clear hK K)|refine nx ?_|refine wn λK hK=>?_|simp only [wS]|(show c8 _ _ _ _ _ _;refine nx ?_)|(refine wc rfl (λhc=>?_) (λhc=>?_)<;>(try simp at hc)<;>(try omega))|(refine ib (λhc=>?_) (λhc=>?_)<;>(try omega)<;>(try simp (disch:=omega) only [aA,aw])))
 refine bO (Jb _ _ _ _ JL (OK l) hl) ?_;rintro u A4 ⟨ho,fO,pU⟩ _ _;obtain⟨o,c,rfl,_⟩:=ho.is.cy
 first|refine⟨fO,?_⟩|skip
 revert hq hS hw;(repeat first|clear hq|clear hS|clear hw|revert hc|revert R|revert K);refine W cF (J1 bE) ?_<;>(unhygienic intros);refine⟨_,by first|rfl|(simp;rfl),?_⟩;exact hk o c A4 (dv.iB hS hw fO ho) pU fO
end
section
variable [Gl]
structure sr where
 fN:List aT
 M:Mm
 cJ:List eF
 sU:List FO
def sr.pick (d8:Int->Int->Int->Int) (m:sr) (id:Int):sr:=
 if 0<=id then
  match m.fN[id.toNat]? with
  | none=>m
  | some t=>
    let r:=t.step d8 m.M
    if r.1=true then ⟨m.fN.set id.toNat r.2.2.2.1,r.2.2.2.2,m.cJ++[r.2.1],m.sU++r.2.2.1.map λe=>{ e with bW:=m.cJ.length }⟩ else m
 else m
def sr.did (d8:Int->Int->Int->Int) (m:sr) (id:Int):Bool:=
 if 0<=id then
  match m.fN[id.toNat]? with
  | none=>false
  | some t=>(t.step d8 m.M).1
 else false
def eF.cells (s:eF):List Value:=[.int .i64 s.aj,.int .i64 s.fe,.int .i64 s.Bc,.int .i64 s.gP.fI,.int .i64 s.gP.cell,.int .i64 s.gP.cL,.int .u64 s.gP.fi,.int .u64 s.gP.put,.bool s.gP.done]
def H4 (l:List eF):List Value:=l.flatMap eF.cells
def mQ (v:Value) (l:List eF):HP:=dv 9 v l.length (H4 l)
theorem RT (l:List eF) (o:eF):H4 l++o.cells=H4 (l++[o]):=by simp [H4]
section
variable {P:Program} {S:AW->Prop} {K:Fr->AW->Prop} {fv:List zQ} {a:Fr} {A:AW} {d:Option Tmp} {x y:Operand} {n:Nat} {v:Value} {L K':List It}
theorem WZ {l:List eF} {s:eF} (e1:iW a x=v) (e2:iW a y=.slice (some ⟨n,0,none⟩) 1 1) (hw:A.Wf) (hS:ah A L) (hp:aE L (.h (mQ v l)) K') (hn:A.bp n=some (.cells [.int .i64 s.aj,.int .i64 s.fe,.int .i64 s.Bc,.int .i64 s.gP.fI,.int .i64 s.gP.cell,.int .i64 s.gP.cL,.int .u64 s.gP.fi,.int .u64 s.gP.put,.bool s.gP.done] true 9)) (bX:l.length<2 ^ 30)
 (hs:∀A',ah A' K'->S A')
 (hk:∀o c A',ah A' (.h (mQ (.slice o (l.length+1) c) (l++[s]))::K')->A'.Wf->A.next<=A'.next->aY qa S K fv (eK a d (.slice o (l.length+1) c)) A') :
 aY qa S K (⟨d,.call ⟨.builtin .append,#[x,y],#[39,39]⟩,none,3⟩::fv) a A:=by
 refine CC (P:=qa) (size:=9) (m:=l.length) (cs:=H4 l) Tryz.underlying39 Tryz.info62 Tryz.zero62 rfl rfl (by omega) (by decide) e1 e2 hw hS hp hn rfl rfl bX hs λo c A' h1 h2 h3=>hk o c A' ?_ h2 h3;have e:mQ (.slice o (l.length+1) c) (l++[s])=dv 9 (.slice o (l.length+1) c) (l.length+1) (H4 l++s.cells):=by
  unfold mQ;rw [<-RT,qm];rfl
 rw [e];exact h1
theorem lwEvM {l:List FO} {e:FO} {r w:Value} {K1 K2 K3:List It} (e1:iW a x=v) (e2:iW a y=.slice (some ⟨n,0,none⟩) 1 1) (hw:A.Wf) (hS:ah A L) (hp:aE L (.h (fX v l)) K1) (GJ:aE K1 (.h (av .i64 r e.reads)) K2) (hp3:aE K2 (.h (av .i64 w e.bP)) K3)
 (hn:A.bp n=some (.cells (zt e r w) true 6)) (bX:l.length<2 ^ 30) (hs:∀A',ah A' K3->S A')
 (hk:∀o c A',ah A' (.h (fX (.slice o (l.length+1) c) (l++[e]))::K3)->A'.Wf->A.next<=A'.next->aY qa S K fv (eK a d (.slice o (l.length+1) c)) A') :
 aY qa S K (⟨d,.call ⟨.builtin .append,#[x,y],#[40,40]⟩,none,3⟩::fv) a A:=by
 obtain⟨q,hq,h1⟩:=fX.open hS hp;have hl:q.length=l.length:=by rw [<-hq,List.length_map]
 dsimp only [Fb,aa,af] at h1;have bS:∀o c A',ah A' (.h (dv 6 (.slice o (l.length+1) c) (q.length+1) (gz q++zt e r w))::.h (ez q)::K1)->ah A' (.h (fX (.slice o (l.length+1) c) (l++[e]))::K3):=λo c A' h=>by
  have h2:ah A' (.h (dv 6 (.slice o (l.length+1) c) (q++[(e,r,w)]).length (gz (q++[(e,r,w)])))::.h (ez (q++[(e,r,w)]))::K3):=by
   have e5:gz (q++[(e,r,w)])=gz q++zt e r w:=(by simp [gz]);have e6:ez (q++[(e,r,w)])=ez q*(av .i64 r e.reads*av .i64 w e.bP):=by
    rw [CN];show _*((av .i64 r e.reads*av .i64 w e.bP)*eZ)=_;rw [dO]
   rw [e5,e6,qm];refine bB.dZ h ?_;show dv 6 _ _ _*(ez q*aM K1)=dv 6 _ _ _*((ez q*(av .i64 r e.reads*av .i64 w e.bP))*aM K3);rw [GJ.aM,hp3.aM];show dv 6 (.slice o (l.length+1) c) (q.length+1) _*(ez q*(av .i64 r e.reads*(av .i64 w e.bP*aM K3)))=_
   ac_rfl
  exact fX.dP (q:=q++[(e,r,w)]) (by rw [List.map_append,hq];rfl) h2 (.s .z (.s .z .z))
 rw [<-hl] at hk bS;have mP:(zt e r w).all qL=true:=by
  have f1:=(ah.tE h1 (.s (.s GJ))).cy;have h9:ah A (.h (av .i64 r e.reads)::.h (dv 6 v q.length (gz q))::.h (ez q)::K2):=by
   unfold ah at h1 ⊢;refine bB.dZ h1 ?_;show dv 6 v _ _*(ez q*aM K1)=av .i64 r e.reads*(dv 6 v _ _*(ez q*aM K2));rw [GJ.aM];show dv 6 v _ _*(ez q*(av .i64 r e.reads*aM K2))=_
   ac_rfl
  have f2:=(ah.tE h9 (.s (.s (.s hp3)))).cy;obtain⟨o1,c1,e1,_⟩:=f1;obtain⟨o2,c2,e2,_⟩:=f2;rw [e1,e2];rfl
 refine CC (P:=qa) (size:=6) (m:=q.length) (cs:=gz q) Tryz.underlying40 Tryz.info92 Tryz.zero92 rfl rfl (by omega) (by decide) e1 e2 hw h1 .z hn rfl mP (by omega) (λA' h=>hs A' ?_) λo c A' h1 h2 h3=>hk o c A' (bS o c A' h1) h2 h3;have h3:ah A' K1:=h.tail;have h4:bB A' (av .i64 r e.reads*(av .i64 w e.bP*aM K3)):=by
  unfold ah at h3;rw [GJ.aM,hp3.aM] at h3;exact h3
 exact h4.right.right
theorem W0 {l:List FO} {e:FO} {r w:Value} {K3:List It} (e1:iW a x=v) (e2:iW a y=.slice (some ⟨n,0,none⟩) 1 1) (hw:A.Wf) (hS:ah A L) (hp:aX L [.h (fX v l),.h (av .i64 r e.reads),.h (av .i64 w e.bP)] K3)
 (hn:A.bp n=some (.cells [.int .i64 e.bW,.int .i64 e.aj,.int .i64 e.fI,.int .i64 e.UP,r,w] true 6)) (bX:l.length<2 ^ 30) (hs:∀A',ah A' K3->S A')
 (hk:∀o c A',ah A' (.h (fX (.slice o (l.length+1) c) (l++[e]))::K3)->A'.Wf->A.next<=A'.next->aY qa S K fv (eK a d (.slice o (l.length+1) c)) A') :
 aY qa S K (⟨d,.call ⟨.builtin .append,#[x,y],#[40,40]⟩,none,3⟩::fv) a A:=by
 have h1:ah A (.h (fX v l)::.h (av .i64 r e.reads)::.h (av .i64 w e.bP)::K3):=by
  unfold ah at hS ⊢;rw [hp.aM] at hS;refine bB.dZ hS ?_;show (fX v l*(av .i64 r e.reads*(av .i64 w e.bP*eZ)))*aM K3=fX v l*(av .i64 r e.reads*(av .i64 w e.bP*aM K3));rw [dO]
  ac_rfl
 exact lwEvM e1 e2 hw h1 .z .z .z hn bX hs hk
end
def lu (q:List (Nat×aT)):HP:=q.foldr (λx P=>tH x.1 x.2*P) eZ
theorem FL (q r:List (Nat×aT)):lu (q++r)=lu q*lu r:=by
 induction q with
 | nil=>show lu r=eZ*lu r;rw [iD]
 | cons y q ih=>
   show tH y.1 y.2*lu (q++r)=(tH y.1 y.2*lu q)*lu r;rw [ih]
   ac_rfl
theorem WC {q:List (Nat×aT)} {i:Nat} (hi:i<q.length):∃R:HP,lu q=tH q[i].1 q[i].2*R/\∀t,lu (q.set i (q[i].1,t))=tH q[i].1 t*R:=by
 refine⟨lu (q.take i)*lu (q.drop (i+1)),?_,λt=>?_⟩;have e:q=q.take i++(q[i]::q.drop (i+1)):=by rw [<-q9 hi,List.take_append_drop]
 have h:=congrArg lu e;rw [FL] at h;rw [h];show lu (q.take i)*(tH q[i].1 q[i].2*lu (q.drop (i+1)))=_
 ac_rfl
 have e:q.set i (q[i].1,t)=q.take i++((q[i].1,t)::q.drop (i+1)):=by rw [List.set_eq_take_append_cons_drop,aA hi]
 rw [e,FL];show lu (q.take i)*(tH q[i].1 t*lu (q.drop (i+1)))=_
 ac_rfl
structure McF where
 pb:Nat
 vt:Value
 vs:Value
 ve:Value
def Sz (b:Nat) (m:sr) (f:McF) (q:List (Nat×aT)):List It:=[.at b (.cells [pv f.pb,f.vt,f.vs,f.ve] true 1),dN f.pb m.M,.h (mA f.vt (q.map Prod.fst)),.h (lu q),.h (mQ f.vs m.cJ),.h (fX f.ve m.sU)]
def FZ (b:Nat) (m:sr):HP:=rO λx:McF×{ q:List (Nat×aT) // q.map Zm=m.fN }=>aM (Sz b m x.1 x.2.1)
section
variable {A:AW} {L K:List It} {b:Nat} {m:sr}
theorem FZ.open (h:ah A L) (hp:aE L (.h (FZ b m)) K):∃f q,q.map Zm=m.fN/\ah A (Sz b m f q++K):=by
 obtain⟨⟨f,q,hq⟩,h⟩:=jV h hp;exact⟨f,q,hq,h⟩
theorem FZ.dP {f:McF} {q:List (Nat×aT)} (hq:q.map Zm=m.fN) (h:ah A L) (e:aX L (Sz b m f q) K):ah A (.h (FZ b m)::K):=iM (g:=λx:McF×{ q:List (Nat×aT) // q.map Zm=m.fN }=>Sz b m x.1 x.2.1) (f,⟨q,hq⟩) h e
theorem ah.WK {q:List (Nat×aT)} {i:Nat} (hi:i<q.length) (h:ah A L) (hp:aE L (.h (lu q)) K):∃R:HP,ah A (.h (tH q[i].1 q[i].2)::.h R::K)/\∀(A':AW) (L' K' K2:List It) (t:aT),ah A' L'->aE L' (.h (tH q[i].1 t)) K'->aE K' (.h R) K2->ah A' (.h (lu (q.set i (q[i].1,t)))::K2):=by
 obtain⟨R,h1,h2⟩:=WC hi;refine⟨R,?_,λA' L' K' K2 t hS e1 e2=>?_⟩;unfold ah at h ⊢;rw [hp.aM] at h;refine h.dZ ?_;show lu q*aM K=tH q[i].1 q[i].2*(R*aM K);rw [h1]
 ac_rfl
 unfold ah at hS ⊢;rw [e1.aM,e2.aM] at hS;refine hS.dZ ?_;show tH q[i].1 t*(R*aM K2)=lu (q.set i (q[i].1,t))*aM K2;rw [h2]
 ac_rfl
end
end
section
open T7
abbrev vJ (c:br):Prop:=(0<=c.c0/\c.c0<=64)/\(0<=c.c1/\c.c1<=64)/\(0<=c.c2/\c.c2<=64)/\(0<=c.c3/\c.c3<=64)
def kz (c:br):Int:=
 if ¬((1<=c.be/\c.be<=64)/\(1<=c.ao/\c.ao<=64)) then 50
 else if ¬(vJ c/\c.nb<=64/\(0<=c.base/\c.base<=c.be)/\c.hw<=c.be-c.base) then 51
 else if ¬((1<=c.reads/\c.reads<=32)/\(1<=c.bP/\c.bP<=32)/\(0<=c.an/\c.an<=8)/\(0<=c.ay/\c.ay<=8)) then 52
 else if ¬(0<=c.aB/\c.aB<=1099511627776) then 53 else 0
def HB (c:br):Value:=if vJ c then .tuple #[.int .i64 c.nb,.int .i64 c.hw,.bool (decide (c.nb<=64))] else .tuple #[.int .i64 0,.int .i64 0,.bool false]
variable [Gl]
theorem ep (n lo hi:Int) (A:AW):aD qa 56 [.int .i64 n,.int .i64 lo,.int .i64 hi] A (λv A'=>v=.bool (decide (lo<=n/\n<=hi))/\A=A'):=by
 refine aN Tryz.func56 λ_=>?_;refine W cF cF (J2 ?_ ?_)<;>intros
 all_goals(simp_all<;>omega)
theorem iN (n lo hi:Int) (A:AW):aD qa 73 [.int .i64 n,.int .i64 lo,.int .i64 hi] A (λv A'=>v=.bool (decide (lo<=n/\n<=hi))/\A=A'):=by
 refine aN Tryz.func73 λ_=>?_;refine W cF cF (J2 ?_ ?_)<;>intros
 all_goals(simp_all<;>omega)
theorem QA (c:br) (A:AW):aD qa 74 [c.v] A (λv A'=>v=HB c/\A=A'):=by
 refine aD.tG (V:=HB c) (by unfold HB;split<;>exact dh.tuple (by simp)) (λhw=>?_) (by kernel_rfl);refine aN Tryz.func74 λ_=>?_;obtain⟨V,hV⟩:∃V,HB c=V:=⟨_,rfl⟩;rw [hV];unfold HB vJ br.nb br.hw at hV;obtain⟨mC,fR,lS,c0,c1,c2,c3,kL,lO,lT,lR,iZ,mW⟩:=c;dsimp only [br.v,br.cells] at hV ⊢;revert hw;refine W cF (J1 bE) ?_<;>(unhygienic intros);refine iO 5 ?_;by_cases h0:0<=c0/\c0<=64
 . obtain⟨k0,GD⟩:=h0;by_cases h1:0<=c1/\c1<=64
   . obtain⟨k1,JK⟩:=h1;by_cases h2:0<=c2/\c2<=64
     . obtain⟨k2,Ni⟩:=h2;by_cases h3:0<=c3/\c3<=64
       . obtain⟨k3,Rf⟩:=h3;rw [aA (by omega)] at hV;subst hV;refine W cF (J9 k0 GD k1 JK k2 Ni k3 Rf bE) ?_<;>intros
         all_goals(
          refine⟨_,by first|(simp;done)|(simp;rfl),?_,qb _ _⟩;simp only [Value.tuple.injEq,Array.mk.injEq,List.cons.injEq,Value.int.injEq,Value.bool.injEq,true_and,and_true];rw [WO,pw2,pw3];simp (disch:=omega) only [ar]
          try simp)
       rw [aw (by omega)] at hV;subst hV;by_cases Ph:c3<0
       . refine W cF (J8 k0 GD k1 JK k2 Ni Ph bE) ?_<;>intros
         all_goals exact⟨_,by first|(simp;done)|(simp;rfl),rfl,qb _ _⟩
       have NJ:64<c3:=(by omega);refine W cF (J9 k0 GD k1 JK k2 Ni Ph NJ bE) ?_<;>intros
       all_goals exact⟨_,by first|(simp;done)|(simp;rfl),rfl,qb _ _⟩
     rw [aw (by omega)] at hV;subst hV;by_cases Ph:c2<0
     . refine W cF (J6 k0 GD k1 JK Ph bE) ?_<;>intros
       all_goals exact⟨_,by first|(simp;done)|(simp;rfl),rfl,qb _ _⟩
     have NJ:64<c2:=(by omega);refine W cF (J7 k0 GD k1 JK Ph NJ bE) ?_<;>intros
     all_goals exact⟨_,by first|(simp;done)|(simp;rfl),rfl,qb _ _⟩
   rw [aw (by omega)] at hV;subst hV;by_cases Ph:c1<0
   . refine W cF (J4 k0 GD Ph bE) ?_<;>intros
     all_goals exact⟨_,by first|(simp;done)|(simp;rfl),rfl,qb _ _⟩
   have NJ:64<c1:=(by omega);refine W cF (J5 k0 GD Ph NJ bE) ?_<;>intros
   all_goals exact⟨_,by first|(simp;done)|(simp;rfl),rfl,qb _ _⟩
 rw [aw (by omega)] at hV;subst hV;by_cases Ph:c0<0
 . refine W cF (J2 Ph bE) ?_<;>intros
   all_goals exact⟨_,by first|(simp;done)|(simp;rfl),rfl,qb _ _⟩
 have NJ:64<c0:=by omega
 refine W cF (J3 Ph NJ bE) ?_<;>intros
 all_goals exact⟨_,by first|(simp;done)|(simp;rfl),rfl,qb _ _⟩
theorem GP (c:br) (A:AW):aD qa 55 [c.v] A (λv A'=>v=.int .i64 (kz c)/\A=A'):=by
 refine aD.tG (V:=.int .i64 (kz c)) (by simp) (λhw=>?_) (by kernel_rfl);refine aN Tryz.func55 λ_=>?_;have hh:=QA c;unfold HB at hh;have eN:c.nb=c.c0+c.c1+c.c2+c.c3:=rfl;have eW:c.hw=c.c0+c.c1*2+c.c2*4+c.c3*8:=rfl;have hW:vJ c->0<=c.hw/\c.hw<=1000:=λh=>by unfold vJ at h;omega
 obtain⟨V,hV⟩:∃V,kz c=V:=⟨_,rfl⟩;rw [hV];unfold kz at hV;by_cases q0:vJ c
 . rw [aA q0] at hh;obtain⟨q1,q2⟩:=hW q0;simp only [show vJ c=True from eq_true q0,true_and] at hV;generalize c.nb=nb at *;generalize c.hw=kI at *;clear eN eW hW q0;obtain⟨mC,fR,lS,c0,c1,c2,c3,kL,lO,lT,lR,iZ,mW⟩:=c;dsimp only [br.v,br.cells] at hV hh ⊢;refine W (J2 @hh @ep) (J1 bE) (JD ?_ ?_ ?_ ?_ ?_ ?_ ?_ ?_ ?_ ?_ ?_)<;>intros
   all_goals(
    refine⟨_,by first|(simp;done)|(simp;rfl),?_,qb _ _⟩;rw [<-hV];congr 1
    repeat (first|rw [aA (by omega)]|rw [aw (by omega)])
    first|done|skip)
 rw [aw q0] at hh;simp only [show vJ c=False from eq_false q0,false_and,not_false_eq_true,if_true] at hV;clear eN eW hW q0;obtain⟨mC,fR,lS,c0,c1,c2,c3,kL,lO,lT,lR,iZ,mW⟩:=c;dsimp only [br.v,br.cells] at hV hh ⊢;refine W (J2 @hh @ep) (J1 bE) (J3 ?_ ?_ ?_)<;>intros
 all_goals(
  refine⟨_,by first|(simp;done)|(simp;rfl),?_,qb _ _⟩;rw [<-hV];congr 1
  repeat (first|rw [aA (by omega)]|rw [aw (by omega)])
  first|done|skip)
end
section
open T7
variable [Gl]
set_option maxHeartbeats 8000000 in
theorem BK (c:br) (A:AW):aD qa 54 [c.v] A (λv A'=>v=.int .i64 (kz c)/\A=A'):=by
 refine aD.tG (V:=.int .i64 (kz c)) (by simp) (λhw=>?_) (by kernel_rfl);refine aN Tryz.func54 λ_=>?_;obtain⟨V,hV⟩:∃V,kz c=V:=⟨_,rfl⟩;rw [hV];unfold kz vJ br.nb br.hw at hV;obtain⟨mC,fR,lS,c0,c1,c2,c3,kL,lO,lT,lR,iZ,mW⟩:=c;dsimp only [br.v,br.cells] at hV ⊢;by_cases jx:(1<=mC/\mC<=64)/\(1<=fR/\fR<=64)
 rotate_left
 . rw [aA jx] at hV;subst hV;refine W (J1 @iN) (J1 bE) (J2 ?_ ?_)<;>intros
   all_goals first|exact⟨_,by first|(simp;done)|(simp;rfl),rfl,qb _ _⟩|(exfalso;omega)
 rw [aw (by omega)] at hV;obtain⟨⟨w1,w2⟩,w3,w4⟩:=jx;revert hw;(repeat first|clear hw|revert hc|revert R|revert K);refine W (J1 @iN) (J5 w1 w2 w3 w4 bE) ?_<;>(unhygienic intros);refine iO 5 ?_;by_cases h0:0<=c0/\c0<=64
 rotate_left
 . rw [aA (by omega)] at hV;subst hV;refine W (J1 @iN) (J2 h0 bE) ?_<;>intros
   all_goals first|exact⟨_,by first|(simp;done)|(simp;rfl),rfl,qb _ _⟩|(exfalso;omega)
 obtain⟨k0,GD⟩:=h0;by_cases h1:0<=c1/\c1<=64
 rotate_left
 . rw [aA (by omega)] at hV;subst hV;refine W (J1 @iN) (J4 k0 GD h1 bE) ?_<;>intros
   all_goals first|exact⟨_,by first|(simp;done)|(simp;rfl),rfl,qb _ _⟩|(exfalso;omega)
 obtain⟨k1,JK⟩:=h1;by_cases h2:0<=c2/\c2<=64
 rotate_left
 . rw [aA (by omega)] at hV;subst hV;refine W (J1 @iN) (J6 k0 GD k1 JK h2 bE) ?_<;>intros
   all_goals first|exact⟨_,by first|(simp;done)|(simp;rfl),rfl,qb _ _⟩|(exfalso;omega)
 obtain⟨k2,Ni⟩:=h2;by_cases h3:0<=c3/\c3<=64
 rotate_left
 . rw [aA (by omega)] at hV;subst hV;refine W (J1 @iN) (J8 k0 GD k1 JK k2 Ni h3 bE) ?_<;>intros
   all_goals first|exact⟨_,by first|(simp;done)|(simp;rfl),rfl,qb _ _⟩|(exfalso;omega)
 obtain⟨k3,Rf⟩:=h3;refine W (J1 @iN) (WF w1 w2 w3 w4 k0 GD k1 JK k2 Ni k3 Rf bE @WO @pw2 @pw3 @pw0) (J9 ?_ ?_ ?_ ?_ ?_ ?_ ?_ ?_ ?_)<;>intros
 all_goals(
  refine⟨_,by first|(simp;done)|(simp;rfl),?_,qb _ _⟩;rw [<-hV];congr 1
  repeat (first|rw [aA (by omega)]|rw [aw (by omega)])
  first|done|skip)
def DI (c:br):Int:=if kz c=0 then c.nb else 0
theorem N4 {c:br} (h:kz c=0):vJ c/\c.nb<=64:=by
 unfold kz at h;split at h;cases h;split at h;cases h;rename_i h1;rw [Decidable.not_not] at h1;exact⟨h1.1,h1.2.1⟩
theorem Eg (c:br) (A:AW):aD qa 37 [c.v] A (λv A'=>v=.int .i64 (DI c)/\A=A'):=by
 refine aD.tG (V:=.int .i64 (DI c)) (by simp) (λhw=>?_) (by kernel_rfl);refine aN Tryz.func37 λ_=>?_;have Dz:=BK c;unfold DI;by_cases h0:kz c=0
 . rw [h0] at Dz;rw [aA h0];have hc:=(N4 h0).1;unfold vJ at hc;unfold br.nb;obtain⟨mC,fR,lS,c0,c1,c2,c3,kL,lO,lT,lR,iZ,mW⟩:=c;dsimp only [br.v,br.cells] at Dz hc ⊢;obtain⟨⟨k0,GD⟩,⟨k1,JK⟩,⟨k2,Ni⟩,k3,Rf⟩:=hc;refine W (J1 @Dz) (J1 bE) ?_<;>intros
   all_goals exact⟨_,by first|(simp;done)|(simp;rfl),by first|rfl|(simp (disch:=omega) only [ar]),qb _ _⟩
 rw [aw h0];dsimp only [br.v,br.cells] at Dz ⊢;refine W (J1 @Dz) (J2 h0 bE) ?_<;>intros
 all_goals exact⟨_,by first|(simp;done)|(simp;rfl),rfl,qb _ _⟩
end
section
open T7
def kQ:List (List bm)->Nat->Option (Nat×Nat×Int)
 | [],_=>none
 | p::l,t=>if (cG p).2=0 then kQ l (t+1) else some (t,(cG p).1,(cG p).2)
def tc (n:Nat):List Int->Nat->Option Nat
 | [],_=>none
 | x::l,k=>if x<0\/(n:Int)<=x then some k else tc n l (k+1)
def jt (c:br) (ni:Nat) (ps:List (List bm)) (pk:List Int):Nat×Nat×Int:=
 if kz c≠0 then (0,0,kz c)
 else if ps.length<1\/16<ps.length then (0,0,54)
 else if ¬(ni:Int)=c.be then (0,0,55)
 else match kQ ps 0 with
 | some r=>r
 | none=>if 65536<pk.length then (0,0,56) else match tc ps.length pk 0 with
   | some k=>(0,k,56)
   | none=>(0,0,0)
def ug (x:Nat×Nat×Int):Value:=.tuple #[.int .i64 x.1,.int .i64 x.2.1,.int .i64 x.2.2]
variable [Gl]
def jf (A:AW) (v:Value) (ps:List (List bm)):Prop:=∃us:List Value,fW A 1 v ps.length us/\∀i (hi:i<ps.length),∃u,us[i]? = some u/\ly A u ps[i]
theorem jf.le {A B:AW} (hl:A.le B) (hw:A.Wf) {v:Value} {ps:List (List bm)} (h:jf A v ps):jf B v ps:=by
 obtain⟨us,h1,h2⟩:=h;exact⟨us,h1.le hl hw,λi hi=>let ⟨u,h3,h4⟩:=h2 i hi;⟨u,h3,h4.le hl hw⟩⟩
theorem jf.cy {A:AW} {v:Value} {ls:List (List bm)} (h:jf A v ls):∃o c,v=.slice o ls.length c/\ls.length<=c:=by
 obtain⟨us,h1,_⟩:=h;exact h1.cy
theorem jf.at {A:AW} {o:Option Addr} {n c:Nat} {ls:List (List bm)} (h:jf A (.slice o n c) ls) {i:Nat} (hi:i<ls.length) :
 ∃p b8 u,o=some p/\A.b8 p.block=some b8/\b8[p.off+i]? = some u/\ly A u ls[i]:=by
 obtain⟨us,h1,h2⟩:=h;obtain⟨u,h3,h4⟩:=h2 i hi;rcases h1 with ⟨_,e,_⟩|⟨p,c',b8,own,q,e1,e2,e3,e4,e5,e6⟩;omega;injection e1 with e1 e7 e8;subst e4;refine⟨p,b8,u,e1,AW.yP e3,?_,h4⟩;rw [e6,Nat.mul_one,List.getElem?_take_of_lt hi,List.getElem?_drop] at h3;exact h3
def km (c:br) (vi vp vk:Value):List Value:=c.cells++[vi,vp,vk]
def MG (c:br) (vi vp vk:Value):Value:=.agg (km c vi vp vk).toArray
def wh:List Value:=[.int .i64 0,.int .i64 0,.int .i64 0,.int .i64 0,.int .i64 0,.int .i64 0,.int .i64 0,.int .i64 0,.int .i64 0,.int .i64 0,.int .i64 0,.int .i64 0,.bool false,.slice none 0 0,.slice none 0 0,.slice none 0 0]
set_option maxHeartbeats 8000000 in
theorem Kl (hF:FOK) (c:br) (vi vp vk:Value) (ni ci:Nat) (oi:Option Addr) (ps:List (List bm)) (pk:List Int) (A:AW) (YD:vi=.slice oi ni ci) (hp:jf A vp ps) (hk:cd A .i64 vk pk) :
 aD qa 38 [MG c vi vp vk] A (λu A'=>u=ug (jt c ni ps pk)/\A=A'):=by
 refine aD.tG (V:=ug (jt c ni ps pk)) (dh.tuple (by simp)) (λhw=>?_) (by kernel_rfl);refine aN Tryz.func38 λ_=>?_;subst YD;obtain⟨op,cp,rfl,_⟩:=hp.cy;obtain⟨ok,ck,rfl,_⟩:=hk.cy;have lb:=GP c;unfold jt;generalize kz c=ce at lb ⊢;obtain⟨mC,fR,lS,c0,c1,c2,c3,kL,lO,lT,lR,iZ,mW⟩:=c;unfold MG km;simp only [br.v,br.cells,aa,af] at lb ⊢;obtain⟨O,hO⟩:∃O,(dQ.cells [.int .i64 mC,.int .i64 fR,.int .i64 lS,.int .i64 c0,.int .i64 c1,.int .i64 c2,.int .i64 c3,.int .i64 kL,.int .i64 lO,.int .i64 lT,.int .i64 lR,.int .i64 iZ,.bool mW,.slice oi ni ci,.slice op ps.length cp,.slice ok pk.length ck] true 1)=O:=⟨_,rfl⟩;by_cases e0:ce=0
 rotate_left
 . rw [aA e0];refine W (J2 @lb @ep) (J2 e0 bE) ?_<;>intros
   all_goals first|exact qb A _|(simp [aR,aU,bu,aQ,aS,ug]<;>exact qb A _)
 subst e0;rw [aw (by simp)];by_cases e1:ps.length<1\/16<ps.length
 . rw [aA e1];by_cases e2:ps.length<1
   . have e2':ps.length=0:=(by omega);refine W (J2 @lb @ep) (J3 e2 e2' bE) ?_<;>intros
     all_goals first|exact qb A _|(simp [aR,aU,bu,aQ,aS,ug]<;>exact qb A _)
   have e3:16<ps.length:=(by omega);have e4:¬(ps.length:Int)<=16:=(by omega);have e5:1<=(ps.length:Int):=(by omega);refine W (J2 @lb @ep) (J5 e2 e3 e4 e5 bE) ?_<;>intros
   all_goals first|exact qb A _|(simp [aR,aU,bu,aQ,aS,ug]<;>exact qb A _)
 rw [aw e1];have e2:¬ps.length<1:=by omega
 have e3:¬16<ps.length:=by omega
 have e4:(ps.length:Int)<=16:=by omega
 have e5:1<=(ps.length:Int):=by omega
 by_cases e6:(ni:Int)=mC
 rotate_left
 . rw [aA e6];refine W (J2 @lb @ep) (J6 e2 e3 e4 e5 e6 bE) ?_<;>intros
   all_goals first|exact qb A _|(simp [aR,aU,bu,aQ,aS,ug]<;>exact qb A _)
 subst e6;rw [aw (by simp)];obtain⟨Rp,hRp⟩:∃Rp,kQ ps 0=Rp:=⟨_,rfl⟩;obtain⟨Rk,hRk⟩:∃Rk,tc ps.length pk 0=Rk:=⟨_,rfl⟩;have hR0:Rp=kQ (ps.drop 0) 0:=hRp.symm;have hK0:Rk=tc ps.length (pk.drop 0) 0:=hRk.symm;rw [hRp,hRk];clear hRp hRk;obtain⟨V,hV⟩:∃V,ug (match Rp with
  | some r=>r
  | none=>if 65536<pk.length then (0,0,56) else match Rk with
    | some k=>(0,k,56)
    | none=>(0,0,0))=V:=⟨_,rfl⟩
 rw [hV];revert hw;(repeat first|clear hw|revert hc|revert R|revert K);refine W (J2 @lb @ep) (J5 e2 e3 e4 e5 bE) ?_<;>(unhygienic intros);rw [hO];have BU:A.le (A.alloc O):=qb A O;have hgO:(A.alloc O).bp A.next=some O:=by simp
 have hwO:=hw.alloc O;generalize A.alloc O=A1 at BU hgO hwO ⊢;subst hO;have Xa:=AW.yP hgO;refine ef (λk fr A'=>A1=A'/\∃i:Nat,k=ps.length-i/\i<=ps.length/\fr 1=.pointer (some ⟨A.next,0,none⟩)/\fr 31=.slice op ps.length cp/\fr 32=.int .i64 ps.length/\fr 33=.int .i64 i/\Rp=kQ (ps.drop i) i) ps.length ?_ ?_;exact⟨rfl,0,rfl,Nat.zero_le _,rfl,rfl,rfl,rfl,hR0⟩;rintro k fr A' ⟨rfl,i,rfl,hi,g1,g31,g32,g33,he⟩;by_cases cD:i<ps.length
 . obtain⟨q,b8,u,xO,bV,hcell,hu⟩:=(hp.le BU hw).at cD;subst xO;have gS:=By (i:=i);have fa:ps.drop i=ps[i]::ps.drop (i+1):=q9 cD;rw [fa] at he;unfold kQ at he;have cC:=rG hF u ps[i] _ hu;unfold oQ at cC;by_cases z:(cG ps[i]).2=0;rw [aA z] at he;rw [z] at cC;refine ba ?_;refine W (J2 @cC @ep) (J9 Xa g1 g31 g32 g33 cD gS bV hcell) ?_<;>intros;refine⟨ps.length-(i+1),by omega,rfl,i+1,rfl,by omega,?_,?_,?_,?_,he⟩<;>simp [g1,g31,g32,g33];rw [aw z] at he;rw [he] at hV;simp only at hV;refine ba ?_;refine W (J2 @cC @ep) (DM Xa g1 g31 g32 g33 cD gS bV hcell z) ?_<;>intros
   all_goals first|exact BU|(simp [cx,aR,aU,bu,aQ,aS,<-hV,ug]<;>exact BU)
 have vT:i=ps.length:=by omega
 subst vT;rw [List.drop_length] at he;rw [he] at hV;simp only [kQ] at hV;by_cases f1:65536<pk.length
 . rw [aA f1] at hV;refine ba ?_;refine W (J1 @ep) (J7 Xa g1 g31 g32 g33 cD f1) ?_<;>intros
   all_goals first|exact BU|(simp [cx,aR,aU,bu,aQ,aS,<-hV,ug]<;>exact BU)
 rw [aw f1] at hV;refine ba ?_;revert hw;(repeat first|clear hw|revert hc|revert R|revert K);refine W (J1 @ep) (J7 Xa g1 g31 g32 g33 cD f1) ?_<;>(unhygienic intros);refine ef (λk UH A'=>A1=A'/\∃i:Nat,k=pk.length-i/\i<=pk.length/\UH 1=.pointer (some ⟨A.next,0,none⟩)/\UH 54=.slice ok pk.length ck/\UH 55=.int .i64 pk.length/\UH 56=.int .i64 i/\Rk=tc ps.length (pk.drop i) i) pk.length ?_ ?_;refine⟨rfl,0,rfl,Nat.zero_le _,?_,?_,?_,?_,hK0⟩<;>simp [g1];rintro k UH A' ⟨rfl,i,rfl,Pc,j1,j54,j55,j56,hf⟩;by_cases oP:i<pk.length
 . obtain⟨q,b8,xO,bV,hcell⟩:=(hk.le BU hw).at oP;subst xO;have gS:=By (i:=i);have fa:pk.drop i=pk[i]::pk.drop (i+1):=q9 oP;rw [fa] at hf;unfold tc at hf;generalize pk[i]=x at hcell hf;by_cases b1:x<0
   . rw [aA (.inl b1)] at hf;rw [hf] at hV;simp only at hV;refine ba ?_;refine W (J1 @ep) (DM Xa j1 j54 j55 j56 oP gS bV hcell b1) ?_<;>intros
     all_goals first|exact BU|(simp [cx,aR,aU,bu,aQ,aS,<-hV,ug]<;>exact BU)
   by_cases b2:(ps.length:Int)<=x
   . rw [aA (.inr b2)] at hf;rw [hf] at hV;simp only at hV;refine ba ?_;refine W (J1 @ep) (JD Xa j1 j54 j55 j56 oP gS bV hcell b1 b2) ?_<;>intros
     all_goals first|exact BU|(simp [cx,aR,aU,bu,aQ,aS,<-hV,ug]<;>exact BU)
   rw [aw (by omega)] at hf;refine ba ?_;refine W (J1 @ep) (JD Xa j1 j54 j55 j56 oP gS bV hcell b1 b2) ?_<;>intros;refine⟨pk.length-(i+1),by omega,rfl,i+1,rfl,by omega,?_,?_,?_,?_,hf⟩<;>simp [j1,j54,j55,j56]
 have hil2:i=pk.length:=by omega
 subst hil2;rw [List.drop_length] at hf;rw [hf] at hV;simp only [tc] at hV;refine ba ?_;refine W (J1 @ep) (J6 Xa j1 j54 j55 j56 oP) ?_<;>intros
 all_goals first|exact BU|(simp [cx,aR,aU,bu,aQ,aS,<-hV,ug]<;>exact BU)
end
end Go.Stx
