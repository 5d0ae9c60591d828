/-
 The program's thread: an instruction, and a step.
-/
import Derived.Test.YtpealkdhmnomhaaGreatDoorG26
set_option linter.unusedVariables false
set_option linter.unusedSimpArgs false
set_option linter.unusedSectionVars false
set_option maxRecDepth 20000
set_option maxHeartbeats 4000000
open Go.IntKind renaming i64->qY
open Go.Proofs.Tryz renaming func55->ka7,func93->ka6,prog->qV
open Go.Stx.AW.le renaming alloc->qW
open Go.Value renaming oneCell'->Zz
open Nat renaming add_assoc->ZD,le_refl->qZ,le_succ->Zo
open Bool renaming false->qk,true->qg
open Go renaming Program->ql,Value->qd
open Go.IntKind renaming i64->qa
open Go.Stx.eh renaming cells->qi
open Go.Value renaming bool->qn,int->qb,pointer->qm,slice->qf,tuple->qA
open Option renaming none->qh,some->qc
open Or renaming inl->qq,inr->qt
namespace Go.Stx
open Go Go.Proofs
attribute [local irreducible] TW bI cM aV aB aL cU dh
section
abbrev ud:List (Nat×Nat):=[(0,0),(1,0),(2,0),(3,0),(4,0),(5,0),(6,0),(7,0),(8,0),(9,0),(10,0),(11,0),(12,0),(13,0),(14,0),(15,3),(16,0),(17,0),(18,0),(19,3)]
abbrev tZ:List (Nat×Nat):=[(0,0),(1,0),(2,0),(3,0),(4,0),(5,0),(6,0),(7,0),(8,0),(9,2),(10,0),(11,0),(12,0),(13,3)]
open T2
variable [Gl]
variable [AF]
structure ExN (ez:Int->Int->Int->Int) (t:aU) (M:Mm) (i:bq):Prop where
 hA:xN ez
 hB:Ux t
 hi:cW i=0
 rj:i.op=3->HJ i.cy
 Lo:i.op≠8/\i.op≠9/\i.op≠10/\i.op≠11/\i.op≠14/\i.op≠15
 hb:i.op=7->HV ({ t with b9:=t.pc,mK:=t.dX,jv:=t.jv+1 }:aU).tS (gv (fh t.cf t.id)).2 M
 hp:t.cf.bd=true->i.op=12\/i.op=13->HV ({ t with bd:=true,gf:=0 }:aU).tS (gv (fh t.cf t.id)).2 M
 Wh:∀x∈t.ii,x.1<2^62
theorem Cr (ez:Int->Int->Int->Int) (t:aU) (i:bq):(t.je ez i).fR=t.fR/\(t.je ez i).ee=t.ee/\(t.je ez i).dY=t.dY/\(t.je ez i).aD=t.aD/\(t.je ez i).dM=t.dM/\(t.je ez i).cf=t.cf/\(t.je ez i).ii=t.ii/\(t.je ez i).io=t.io:=by
 unfold aU.je;split;exact⟨rfl,rfl,rfl,rfl,rfl,rfl,rfl,rfl⟩;split;exact⟨rfl,rfl,rfl,rfl,rfl,rfl,rfl,rfl⟩;split;exact⟨rfl,rfl,rfl,rfl,rfl,rfl,rfl,rfl⟩;split;exact⟨rfl,rfl,rfl,rfl,rfl,rfl,rfl,rfl⟩;exact⟨rfl,rfl,rfl,rfl,rfl,rfl,rfl,rfl⟩
theorem S8 (ez:Int->Int->Int->Int) (t:aU) (i:bq):(t.je ez i).d.kj=t.d.kj:=by
 unfold aU.je;split;rfl;split;rfl;split;rfl;split<;>rfl
theorem WS {ez:Int->Int->Int->Int} (hF:FOK) (q:pI) (b pb:Nat) (t:aU) (M:Mm) (i:bq) (dO:t.fR=qh) (ef:t.ee=qh) (fz:t.dY=qh) (hE:ExN ez t M i) (E0:CR q t.aD) :
 eI qV 93 [pv b,pv pb,k8 i] [.h (ik q b t),ei pb M] (λev v=>v=qA #[eK (t.me ez M i).1,ev]) (λev=>[.h (ik q b (t.me ez M i).2.2.1),ei pb (t.me ez M i).2.2.2,.h (gA ev (t.me ez M i).2.1)]):=by
 have hB:=hE.hB;have lp:0<=t.pc/\t.pc<2^40:=hB.pc;have rH:da t.d.cf:=hB.cf;have hct:=hB.xT;have htr:=hB.BE;have iZ:qY.wrap (t.d.jv+1)=t.d.jv+1:=(af Ya Ya:qY.wrap (t.jv+1)=t.jv+1);have Lo:=hE.Lo;obtain⟨_,_,_,hrng,_⟩:=ox hE.hi;unfold aU.me;rw [dO];dsimp only;by_cases h7:i.op=7
 . rw [ay h7];have Tw:=yZ hF (hE.hb h7) q b pb rfl ef fz E0;obtain⟨op,i1,i2,i3,cy⟩:=i;dsimp only at h7;subst h7;unfold k8;intro A F hw dU;refine aK ka6 λ_=>?_;dsimp only [aa,ah] at dU;obtain⟨⟨di,fe,ly,fK,vs,vo⟩,hS⟩:=ik.open dU .z;clear dU;dsimp only [jP,aa,ah] at hS;rw [dO,ef,fz] at hS;dsimp only [eG,gM,eF,gJ,gO,mG] at hS;have hq:=gI hS hw;revert hq hS hw;refine Wu (J4 (Tg.mk (n:=36) (λx1=>D2 b { t.d with b9:=t.pc,mK:=t.dX,jv:=t.jv+1 } x1 rH hct)) (Tg.mk (n:=35) @Tw) (od ud) (od tZ)) (J3 iZ @eK.eq_1 bC) ?_<;>(unhygienic intros);refine⟨_,by (simp [AW.ab];rfl),?_⟩;apply Ay
   (·rfl)
   apply aj.bX
   (·exact sA)
   (·exact pZ)
 rw [aw h7];by_cases hp:i.op=12\/i.op=13
 . rw [ay hp];have mV:=Po hF q b pb t M i dO ef fz hB hp hE.hi E0 (λh=>hE.hp h hp);rcases hp with h2|h2
   all_goals
    obtain⟨op,i1,i2,i3,cy⟩:=i;dsimp only at h2;subst h2;unfold k8 at mV;unfold k8;intro A F hw dU;refine aK ka6 λ_=>?_;dsimp only [aa,ah] at dU;obtain⟨⟨di,fe,ly,fK,vs,vo⟩,hS⟩:=ik.open dU .z;clear dU;dsimp only [jP,aa,ah] at hS;rw [dO,ef,fz] at hS;dsimp only [eG,gM,eF,gJ,gO,mG] at hS;have hq:=gI hS hw
    all_goals(revert hq hS hw;refine Wu (J3 (Tg.mk (n:=35) @mV) (od ud) (od tZ)) (J2 @eK.eq_1 bC) ?_<;>unhygienic intros)
    refine⟨_,by (simp [AW.ab];rfl),?_⟩;apply Ay
    (·rfl)
    apply aj.bX
    (·exact sA)
    (·exact pZ)
 rw [aw hp];by_cases G6:i.op=16
 . rw [ay G6];dsimp only;have GN:=Jj q b pb ({ t with ee:=qc ⟨t.id,t.nt,qk,0,0⟩ }:aU) M ⟨t.id,t.nt,qk,0,0⟩ dO rfl ⟨hB.cf,hB.pc,hB.io,hB.pn,hB.xT,hB.BE,hB.oN,hB.tt⟩ Yz hE.Wh (λl e=>by have e2:t.dY=qc l:=e;rw [fz] at e2;cases e2);rw [dO] at GN;generalize aU.uy ({ t with fR:=qh,ee:=qc ⟨t.id,t.nt,qk,0,0⟩ }:aU) M ⟨t.id,t.nt,qk,0,0⟩=r at GN ⊢;obtain⟨op,i1,i2,i3,cy⟩:=i;dsimp only at G6;subst G6;unfold k8;intro A F hw dU;refine aK ka6 λ_=>?_;dsimp only [aa,ah] at dU;obtain⟨⟨di,fe,ly,fK,vs,vo⟩,hS⟩:=ik.open dU .z;clear dU;dsimp only [jP,aa,ah] at hS;rw [dO,ef,fz] at hS;dsimp only [eG,gM,eF,gJ,gO,mG] at hS;have hq:=gI hS hw;have lF:∀k l,(b=A.next+k+l)=False:=λk l=>by simp [hq,ZD]
   revert hq hS hw;refine Wu (J4 (Tg.mk (n:=34) @GN) (od ud) (od tZ) @IE) (J3 lF @eK.eq_1 bC) ?_<;>(unhygienic intros);refine⟨_,by (simp [AW.ab];rfl),?_⟩;apply Ay
   (·rfl)
   apply aj.bX;apply gA.nil
   (·exact sA)
   (·exact pZ)
 rw [aw G6];have nq:(0<=i.op/\i.op<=6)\/i.op=17:=Ya
 have To:=λva vs vf vd vl vo o cc=>GC hE.hA b t va vs vf vd vl vo o cc i nq hE.hi hE.rj lp;obtain⟨l1,l2,l3,l4,l5,l6,l7,l8⟩:=Cr ez t i;rw [dO] at l1;rw [ef] at l2;rw [fz] at l3;obtain⟨n8,n9,n10,n11,n14,n15⟩:=Lo;have VF:¬i.op=12:=λe=>hp (qq e);have n13:¬i.op=13:=λe=>hp (qt e);unfold k8 at To;unfold k8;intro A F hw dU;refine aK ka6 λ_=>?_;dsimp only [aa,ah] at dU;obtain⟨⟨di,fe,ly,fK,vs,vo⟩,hS⟩:=ik.open dU .z;clear dU;dsimp only [jP,aa,ah] at hS;rw [dO,ef,fz] at hS;dsimp only [eG,gM,eF,gJ,gO,mG] at hS;have hq:=gI hS hw
 repeat' (first|(refine iT λR hR=>?_;simp [hq,h7,n8,n9,n10,n11,VF,n13,n14,n15,G6,AW.ab,aG];try simp (disch:=omega) only [ay,aw,af,an])|(refine hR _ _ ?_;clear hR R)|(refine hK _ _ ?_;clear hK K)|refine nx ?_|refine wn λK hK=>?_|simp only [wS]|(apply bx.fM (To _ _ _ _ _ _ _ _);(·exact wA);(·exact sA);(·exact pA);rintro _ _ _ hS hw _;have hS:=lA hS;have hq:=gI hS hw)|(show cM _ _ _ _ _ _;refine nx ?_)|(refine wc rfl (λhc=>?_) (λhc=>?_)<;>(try simp at hc)))
 refine⟨_,by (simp [AW.ab];rfl),?_⟩;apply Ay
 (·rfl)
 apply ik.bX;apply gA.nil
 (·exact sA)
 dsimp only [jP];simp only [l1,l2,l3,l4,l5,l6,l7,l8];dsimp only [eG,gM,eF,gJ,gO,mG]
 (·exact pZ)
 (·exact pZ)
 all_goals(exact 0)
structure ExS (ez:Int->Int->Int->Int) (t:aU) (s:aI) (M:Mm) (i:bq):Prop where
 hA:xN ez
 hB:Ux t
 hC:iu s
 hi:cW i=0
 rj:i.op=3->HJ i.cy
 wZ:i.op≠7/\i.op≠12/\i.op≠13/\i.op≠16/\i.op≠17
 hr:i.op=10\/i.op=11\/i.op=14\/i.op=15\/i.op=8\/i.op=9->HV ({ t with fR:=some (t.Iw i s) }:aU) (t.Iw i s) M
theorem WQ {ez:Int->Int->Int->Int} (hF:FOK) (q:pI) (b pb:Nat) (t:aU) (s:aI) (M:Mm) (i:bq) (dO:t.fR=qc s) (ef:t.ee=qh) (fz:t.dY=qh) (hE:ExS ez t s M i) (E0:CR q t.aD) :
 eI qV 93 [pv b,pv pb,k8 i] [.h (ik q b t),ei pb M] (λev v=>v=qA #[eK (t.me ez M i).1,ev]) (λev=>[.h (ik q b (t.me ez M i).2.2.1),ei pb (t.me ez M i).2.2.2,.h (gA ev (t.me ez M i).2.1)]):=by
 have hB:=hE.hB;have lp:0<=t.pc/\t.pc<2^40:=hB.pc;have wZ:=hE.wZ;obtain⟨_,_,_,hrng,_⟩:=ox hE.hi;unfold aU.me;rw [aw wZ.1,dO];dsimp only;by_cases hp:i.op=10\/i.op=11\/i.op=14\/i.op=15\/i.op=8\/i.op=9
 . rw [ay hp];have Tw:=yZ hF (hE.hr hp) q b pb rfl ef fz E0;have hrq:=λvs vf vd vc vl vo n=>KM b n t.d vs vf vd vc vl vo i s hE.hC hp hE.hi;have er:Dl t.d i s=t.Iw i s:=rfl;rw [er] at hrq;generalize t.Iw i s=s2 at Tw hrq ⊢;rcases hp with h|h|h|h|h|h
   all_goals
    obtain⟨op,i1,i2,i3,cy⟩:=i;dsimp only at h;subst h;unfold k8 at hrq;unfold k8;intro A F hw dU;refine aK ka6 λ_=>?_;dsimp only [aa,ah] at dU;obtain⟨⟨di,fe,ly,fK,vs,vo⟩,hS⟩:=ik.open dU .z;clear dU;dsimp only [jP,aa,ah] at hS;rw [dO,ef,fz] at hS;dsimp only [eG,gM,eF,gJ,gO,mG] at hS;have hq:=gI hS hw
    all_goals(revert hq hS hw;refine Wu (J4 (Tg.mk (n:=37) (λx1 x2 x3 x4 x5 x6=>hrq x1 x2 x3 x4 x5 x6 di)) (Tg.mk (n:=35) @Tw) (od ud) (od tZ)) (J2 @eK.eq_1 bC) ?_<;>unhygienic intros)
    refine⟨_,by (simp [AW.ab];rfl),?_⟩;apply Ay
    (·rfl)
    apply aj.bX
    (·exact sA)
    (·exact pZ)
 rw [aw hp];have nq:(0<=i.op/\i.op<=6)\/i.op=17:=Ya
 have To:=λva vs vf vd vl vo o cc=>GC hE.hA b t va vs vf vd vl vo o cc i nq hE.hi hE.rj lp;obtain⟨l1,l2,l3,l4,l5,l6,l7,l8⟩:=Cr ez t i;have l9:(t.je ez i).d.kj=t.d.kj:=S8 ez t i;rw [dO] at l1;rw [ef] at l2;rw [fz] at l3;obtain⟨n7,VF,n13,n16,n17⟩:=wZ;have n8:¬i.op=8:=Ya
 have n9:¬i.op=9:=Ya
 have n10:¬i.op=10:=Ya
 have n11:¬i.op=11:=Ya
 have n14:¬i.op=14:=Ya
 have n15:¬i.op=15:=Ya
 unfold k8 at To;unfold k8;intro A F hw dU;refine aK ka6 λ_=>?_;dsimp only [aa,ah] at dU;obtain⟨⟨di,fe,ly,fK,vs,vo⟩,hS⟩:=ik.open dU .z;clear dU;dsimp only [jP,aa,ah] at hS;rw [dO,ef,fz] at hS;dsimp only [eG,gM,eF,gJ,gO,mG] at hS;have hq:=gI hS hw
 repeat' (first|(refine iT λR hR=>?_;simp [hq,n7,n8,n9,n10,n11,VF,n13,n14,n15,n16,l9,AW.ab,aG];try simp (disch:=omega) only [ay,aw,af,an])|(refine hR _ _ ?_;clear hR R)|(refine hK _ _ ?_;clear hK K)|refine nx ?_|refine wn λK hK=>?_|simp only [wS]|(apply bx.fM (To _ _ _ _ _ _ _ _);(·exact wA);(·exact sA);(·exact pA);rintro _ _ _ hS hw _;have hS:=lA hS;have hq:=gI hS hw)|(show cM _ _ _ _ _ _;refine nx ?_)|(refine wc rfl (λhc=>?_) (λhc=>?_)<;>(try simp at hc)))
 refine⟨_,by (simp [AW.ab];rfl),?_⟩;apply Ay
 (·rfl)
 apply ik.bX;apply gA.nil
 (·exact sA)
 dsimp only [jP];simp only [l1,l2,l3,l4,l5,l6,l7,l8];dsimp only [eG,gM,eF,gJ,gO,mG]
 (·exact pZ)
 (·exact pZ)
 all_goals(exact 0)
end
section
variable [Gl]
variable [AF]
variable {ez:Int->Int->Int->Int} {c:aY} {nt k:Nat} {M:Mm} {t:aU} {s:aI}
theorem Kn (hc:da c) (hk:k<2^24) (h:pi c nt k t) (Cx:t.io.length+t.dM.length<=4*k):Ux t:=by
 have h1:=h.io;have h2:=h.sn;have h3:=h.zS;have h4:=h.pc;have h5:=(ia h.tt).1;have h6:=h.xT;have h7:=h.BE;have h8:=h.oN;exact⟨by rw [h.cf];exact hc,⟨h4.1,by omega⟩,by omega,by omega,by omega,by omega,by omega,h.tt⟩
theorem Lk (h:pi c nt k t) (hd:t.done=qk):cW t.fW=0:=by
 obtain⟨j9,hi⟩:=h.fW hd;rw [hi];exact(vA h.tt j9).2.2
theorem Fw (hc:da c) (hk:k+1<2^24) (hM:lK c nt k M) (h:pi c nt (k+1) t) (hd:t.done=qk) (hA:Adv c k t s):HV t s M:=by
 have h1:=h.io;have h2:=h.sn;obtain⟨hK1,Uq⟩:=zg hc Ya hA.ok hM;have IU:=JZ hA.ok hA.E1 M;have ES:=hc.nb;have e1:=hK1.b.E1;have e2:=hc.aA;exact⟨Kn hc hk h Ya,hA.ok.stepOk hc hM,hK1.b.attC hc,Lk h hd,h.lt hd,λe=>(hA.Q9 e).1,λe=>⟨(hA.FA e).1,(hA.FA e).2.2.1⟩,λx hx=>by have:=IU x hx;omega,by omega⟩
theorem Ra (hc:da c) (hk:k+1<2^24) (hM:lK c nt k M) (h:pi c nt (k+1) t) (hcn:t.kj<=k) (hd:t.done=qk)
 (hs:t.bd=qg->(t.fW.op=12\/t.fW.op=13)/\cD t.aD t.pc.toNat=qh) (hw:t.bd=qk->t.pc=t.b9/\t.fW.op=7/\cD t.aD t.pc.toNat=qh) :
 HV t.tS (gv (fh t.cf t.id)).2 M:=by
 have Mt:=h.yq;have hcn0:=h.xT;have h1:pi c nt (k+1) t.tS:=⟨h.cf,h.nn,h.yq,h.tt,h.pc,h.dn,h.io,by show ([]:List k9).length<=_;simp,h.zS,h.Ct,by show 0<=t.kj+1/\t.kj+1<=((k+1:Nat):Int);omega,h.BE,h.oN⟩;have hn:(fh t.cf t.id).ga 0=qg:=rfl;have hb:nZ c k (gv (fh t.cf t.id)).2:=DN (by rw [h.cf];exact Ba hc k t.id Ya);have dw:(gv (fh t.cf t.id)).2.aF=1:=by unfold gv;rw [ay hn]
 have hbf:∀x∈(gv (fh t.cf t.id)).2.aA,0<=x/\x<c.nb:=by
  unfold gv;rw [ay hn];intro x hx;cases hx
 refine Fw hc hk hM h1 hd ⟨hb,dw,hbf,hs,λe=>?_⟩;obtain⟨w1,w2,w3⟩:=hw e;have lp:=h.pc;have ho:=sJ h hd;show eH t.aD t.b9.toNat=7/\cD t.aD t.b9.toNat=qh/\0<=t.b9/\_;rw [<-w1];exact⟨ho.trans w2,w3,lp.1,qq ⟨w1,w2⟩⟩
theorem JI (hc:da c) (h:pi c nt k t):∀x∈t.ii,x.1<2^62:=λx hx=>by
 have h1:=Hr hc (h.Ct x hx);have h2:=hc.nb;omega
theorem aah (h:pi c nt k t) (hd:t.done=qk) (rj:DY t.aD):t.fW.op=3->HJ t.fW.cy:=by
 obtain⟨j9,hi⟩:=h.fW hd;rw [hi];exact rj _ (List.getElem_mem j9)
theorem WR (hA:xN ez) (hc:da c) (hk:k+1<2^24) (hM:lK c nt k M) (h:mw c nt k t) (hd:t.done=qk) (ha:t.fR=qh) (hf:t.ee=qh) (rj:DY t.aD):ExN ez t M t.fW:=by
 have sq:=h.co;have h':=sq.mono (Zo k);obtain⟨hs,jn⟩:=h.oF ha;obtain⟨j9,hi⟩:=sq.fW hd;have mV:=(vA sq.tt j9).1 jn;rw [<-hi] at mV;have htr:=sq.BE;have h1:=sq.io;have h2:=sq.sn;refine⟨hA,Kn hc Ya sq Ya,Lk sq hd,aah sq hd rj,mV,λh7=>?_,λ_ nq=>?_,JI hc sq⟩;exact Ra hc hk hM (t:={ t with b9:=t.pc,mK:=t.dX,jv:=t.jv+1 }) ⟨h'.cf,h'.nn,h'.yq,h'.tt,h'.pc,h'.dn,h'.io,h'.sn,h'.zS,h'.Ct,h'.xT,by dsimp only;omega,h'.oN⟩ sq.xT.2 hd (λe=>XA) (λ_=>⟨rfl,h7,jn⟩);exact Ra hc hk hM (t:={ t with bd:=qg,gf:=0 }) ⟨h'.cf,h'.nn,h'.yq,h'.tt,h'.pc,h'.dn,h'.io,h'.sn,h'.zS,h'.Ct,h'.xT,h'.BE,by dsimp only;omega⟩ sq.xT.2 hd (λ_=>⟨nq,jn⟩) (λe=>Ym)
theorem ask_H (hc:da c) (hk:k+1<2^24) (hM:lK c nt k M) (h:mw c nt k t) (hd:t.done=qk) (ha:t.fR=qc s) (hs:t.bd=qg):HV (t.ask t.fW s) (t.vR t.fW s) M:=by
 have sq:=h.co;have h':=sq.mono (Zo k);have hak:=sq.oN;obtain⟨g1,_,_,g2⟩:=h.Aj s ha;rw [ay (qt hs)] at g1;exact Fw hc hk hM (t:=t.ask t.fW s) ⟨h'.cf,h'.nn,h'.yq,h'.tt,h'.pc,h'.dn,h'.io,h'.sn,h'.zS,h'.Ct,h'.xT,h'.BE,by show 0<=t.gf+1/\t.gf+1<=((k+1:Nat):Int);omega⟩ hd ⟨QN hc g1.ok _,QM g1.st _,J0 g1.E1 _,g1.Q9,λe=>XD⟩
theorem W7 (hc:da c) (hk:k+1<2^24) (hM:lK c nt k M) (h:mw c nt k t) (hd:t.done=qk) (ha:t.fR=qc s) (hb:s.kJ=qg):HV t s M:=by
 obtain⟨g1,_,_,g2⟩:=h.Aj s ha;rw [ay (qq hb)] at g1;exact Fw hc hk hM (h.co.mono (Zo k)) hd g1
theorem WP (hA:xN ez) (hc:da c) (hk:k+1<2^24) (hM:lK c nt k M) (h:mw c nt k t) (hd:t.done=qk) (ha:t.fR=qc s) (hb:s.kJ=qk) (hs:t.bd=qk) (rj:DY t.aD):ExS ez t s M t.fW:=by
 have sq:=h.co;have h':=sq.mono (Zo k);have h1:=sq.io;have h2:=sq.sn;obtain⟨g1,_,_,g2⟩:=h.Aj s ha;rw [aw (by rw [hb,hs];simp)] at g1;have hR:=g1;obtain⟨w1,w2,w3,w4⟩:=hR.FA;obtain⟨j9,hi⟩:=sq.fW hd;have mV:=(vA sq.tt j9).2.1 _ w4;rw [<-hi] at mV;refine⟨hA,Kn hc Ya sq Ya,hR.ok.b.attC hc,Lk sq hd,aah sq hd rj,mV,λnq=>?_⟩;refine Fw hc hk hM (t:={ t with fR:=qc (t.Iw t.fW s) }) ⟨h'.cf,h'.nn,h'.yq,h'.tt,h'.pc,h'.dn,h'.io,h'.sn,h'.zS,h'.Ct,h'.xT,h'.BE,h'.oN⟩ hd ⟨Pe hc hR.ok _,Dk hR.st _,Jv hR.E1 _,λe=>XC,λ_=>⟨w1,w2,w3,?_⟩⟩;by_cases h89:t.fW.op=8\/t.fW.op=9;right;right;unfold aU.Iw;rw [aw Ya,aw Ya,aw Ya,aw Ya];split;exact Fm hR.st hb (qq rfl);rw [ay Ya];exact Fm hR.st hb (qt rfl);exact qt (qq ⟨w4,by show t.fW.op=10\/t.fW.op=11\/t.fW.op=14\/t.fW.op=15;omega⟩)
theorem DU (i:bq) (v:Int):(t.DV i v).aD=t.aD:=by unfold aU.DV;split<;>rfl
theorem DL:(t.rp s).aD=t.aD:=by unfold aU.rp;split<;>rfl
theorem WM:(t.bX s).aD=t.aD:=by
 unfold aU.bX;split;split;exact DL;exact DL;exact DL
theorem T3 (i:bq):(t.uS i s).aD=t.aD:=by
 unfold aU.uS;split;split;unfold aU.mq;dsimp only;split;exact DU _ _;split<;>rfl;exact WM;split;rfl
 (repeat' split)<;>rfl
theorem yX:(t.xJ M s).2.2.1.aD=t.aD:=by
 unfold aU.xJ;dsimp only;split;rfl;exact T3 _
theorem w9:t.kM.aD=t.aD:=by unfold aU.kM;split<;>rfl
theorem Jh (f:ko):(t.uy M f).2.1.aD=t.aD:=by
 unfold aU.uy;split;dsimp only;split;exact w9;exact w9;exact w9
theorem Pm (i:bq):(t.plain M i).2.2.1.aD=t.aD:=by
 unfold aU.plain;dsimp only;split;split<;>rfl;split;exact yX;split;exact DU _ _;exact DU _ _
theorem JW (i:bq):(t.me ez M i).2.2.1.aD=t.aD:=by
 unfold aU.me;split;exact yX;split;split;exact yX;exact(Cr ez t i).2.2.2.1;split;exact Pm i;split;exact Jh _;exact(Cr ez t i).2.2.2.1
theorem O3:(t.m8 ez M).2.2.1.aD=t.aD:=by
 unfold aU.m8;split;exact Jh _;split;split;exact yX;split;exact yX;exact JW _;exact JW _
theorem Jo:(t.step ez M).2.2.2.1.aD=t.aD:=by
 unfold aU.step;split;rfl;exact O3
theorem VL (ez:Int->Int->Int->Int) (t:aU) (i:bq):(t.je ez i).id=t.id:=by
 unfold aU.je;split;rfl;split;rfl;split;rfl;split<;>rfl
theorem L5 (i:bq) (v:Int):(t.DV i v).id=t.id:=by unfold aU.DV;split<;>rfl
theorem LE:(t.rp s).id=t.id:=by unfold aU.rp;split<;>rfl
theorem fin_id:(t.bX s).id=t.id:=by
 unfold aU.bX;split;split;exact LE;exact LE;exact LE
theorem answ_id (i:bq):(t.uS i s).id=t.id:=by
 unfold aU.uS;split;split;unfold aU.mq;dsimp only;split;exact L5 _ _;split<;>rfl;exact fin_id;split;rfl
 (repeat' split)<;>rfl
theorem Bz:(t.xJ M s).2.2.1.id=t.id:=by
 unfold aU.xJ;dsimp only;split;rfl;exact answ_id _
theorem Bq:t.kM.id=t.id:=by unfold aU.kM;split<;>rfl
theorem Ki (f:ko):(t.uy M f).2.1.id=t.id:=by
 unfold aU.uy;split;dsimp only;split;exact Bq;exact Bq;exact Bq
theorem Vk (i:bq):(t.plain M i).2.2.1.id=t.id:=by
 unfold aU.plain;dsimp only;split;split<;>rfl;split;exact Bz;split;exact L5 _ _;exact L5 _ _
theorem Fk (i:bq):(t.me ez M i).2.2.1.id=t.id:=by
 unfold aU.me;split;exact Bz;split;split;exact Bz;exact(VL ez t i);split;exact Vk i;split;exact Ki _;exact(VL ez t i)
theorem step_ok (hc:da c) (hk:k<2^40) (hM:lK c nt k M) (h:mw c nt k t):mw c nt (k+1) (t.step ez M).2.2.2.1/\lK c nt (k+1) (t.step ez M).2.2.2.2:=by
 unfold aU.step;split;exact⟨h.mono Ya,hM.mono Ya⟩;rename_i hd;exact UZ hc hk hM h (by simpa using hd)
end
section
abbrev Cb:List (Nat×Nat):=[(0,0),(1,0),(2,0),(3,0),(4,0),(5,0),(6,0),(7,0),(8,0),(9,0),(10,0),(11,2),(12,3)]
open T2
variable [Gl]
variable [AF]
theorem bx.JE {P:ql} {f:FuncId} {args:List qd} {q:pI} {b:Nat} {t:aU} {sG post:List It} {φ:qd->Prop} (h:bx P f args sG φ (λ_=>.h (ik q b t)::post)) :
 eI P f args sG (λ(_:ThF) v=>φ v) (λx=>.at b (uX t.d ⟨gM t.fR x.di,x.vs,gJ t.ee x.fe,mG t.dY x.ly,qf (qc ⟨q.bb,q.off,qh⟩) t.aD.length q.eV,pv x.fK,x.vo⟩)::.h (eG t.fR x.di)::.h (jA x.vs t.dM)::.h (eF t.ee x.fe)::.h (gO t.dY x.ly) ::
  .at q.bb q.o::.h (rN x.fK t.cf t.ii)::.h (jA x.vo t.io)::post):=λA F hw hS=>by
 refine bD (h A F hw hS) ?_;rintro v A' ⟨h1,h2⟩ _ _;obtain⟨x,hx⟩:=ik.open h2 .z;exact⟨x,h1,hx⟩
theorem eI.JE {P:ql} {f:FuncId} {args:List qd} {q:pI} {b:Nat} {t:aU} {sG:List It} {post:qd->List It} {φ:qd->qd->Prop} (h:eI P f args sG φ (λev=>.h (ik q b t)::post ev)) :
 eI P f args sG (λ(y:qd×ThF) v=>φ y.1 v) (λy=>.at b (uX t.d ⟨gM t.fR y.2.di,y.2.vs,gJ t.ee y.2.fe,mG t.dY y.2.ly,qf (qc ⟨q.bb,q.off,qh⟩) t.aD.length q.eV,pv y.2.fK,y.2.vo⟩)::.h (eG t.fR y.2.di)::.h (jA y.2.vs t.dM)::.h (eF t.ee y.2.fe)::.h (gO t.dY y.2.ly) ::
  .at q.bb q.o::.h (rN y.2.fK t.cf t.ii)::.h (jA y.2.vo t.io)::post y.1):=λA F hw hS=>by
 refine bD (h A F hw hS) ?_;rintro v A' ⟨ev,h1,h2⟩ _ _;obtain⟨x,hx⟩:=ik.open h2 .z;exact⟨(ev,x),h1,hx⟩
theorem MJ {ez:Int->Int->Int->Int} (hA:xN ez) (hF:FOK) {c:aY} {nt k:Nat} (hc:da c) (hk:k+1<2^24) (q:pI) (b pb:Nat) (t:aU) (M:Mm) (hM:lK c nt k M) (h:mw c nt k t) (rj:DY t.aD) (E0:CR q t.aD) (hd:t.done=qk) :
 eI qV 55 [pv b,pv pb] [.h (ik q b t),ei pb M] (λev v=>v=qA #[eK (t.step ez M).2.1,ev,qn qg]) (λev=>[.h (ik q b (t.step ez M).2.2.2.1),ei pb (t.step ez M).2.2.2.2,.h (gA ev (t.step ez M).2.2.1)]):=by
 have hB:Ux t:=by
  have h1:=h.co.io;have h2:=h.co.sn;exact Kn hc Ya h.co Ya
 have lp:0<=t.pc/\t.pc<2^40:=hB.pc;have bY:=h.co.lt hd;have pe:t.pc.toNat<t.aD.length:=Ya
 obtain⟨GT,Mu⟩:=E0.at pe;have hins:t.aD[t.pc.toNat]=t.fW:=by
  unfold aU.fW aU.yp;rw [List.getD_eq_getElem?_getD,List.getElem?_eq_getElem pe];rfl
 rw [hins] at Mu;have ET:q.off+t.d.pc.toNat*5+5<=q.bS.length:=GT;have G3:(q.bS.drop (q.off+t.d.pc.toNat*5)).take 5=az t.fW:=Mu;have zV:0<=t.d.pc:=lp.1;have ER:t.d.pc<(t.aD.length:Int):=bY;have H2:t.d.done=qk:=hd;have hi:=Lk h.co hd;unfold aU.step;rw [aw (by rw [hd];decide)];dsimp only;unfold aU.m8;cases ef:t.ee with
 | some f=>
   obtain⟨dO,_,g3,g4,g5,g6,g7⟩:=h.fen f ef;have Mt:=h.co.yq;have GN:=Jj q b pb t M f dO ef hB Ya (JI hc h.co) (λl e=>by
    obtain⟨h1,h2,_⟩:=h.dr l e;exact⟨h1,by omega⟩)
   dsimp only;have Lm:(t.uy M f).2.1.d.id=t.d.id:=Ki f;generalize t.uy M f=r at GN Lm ⊢;have fz:=ef;intro A F hw dU;refine aK ka7 λ_=>?_;dsimp only [aa,ah] at dU;obtain⟨⟨di,fe,ly,fK,vs,vo⟩,hS⟩:=ik.open dU .z;clear dU;dsimp only [jP,aa,ah] at hS;rw [dO,ef] at hS;dsimp only [eG,gM,eF,gJ,gO,mG] at hS;have hq:=gI hS hw;have lF:∀k l,(b=A.next+k+l)=False:=λk l=>by simp [hq,ZD]
   have xS:∀k l,(q.bb=A.next+k+l)=False:=λk l=>by simp [hq,ZD]
   revert hq hS hw;(repeat revert hc);refine Wu (J2 (Tg.mk (n:=35) (bx.JE GN)) (od Cb)) (E5 lF xS Lm H2 zV ER ET G3 @eK.eq_1 bC) ?_<;>(unhygienic intros);refine⟨_,by (simp [AW.ab];rfl),?_⟩;apply Ay
   (·rfl)
   apply ik.bX;apply gA.nil
   (·exact sA)
   dsimp only [jP]
   (·exact pZ)
   (·exact pZ)
 | none=>
   have fz:=h.RB ef;dsimp only;cases dO:t.fR with
   | none=>
     dsimp only;have td:=WS hF q b pb t M t.fW dO ef fz (WR hA hc hk hM h hd dO ef rj) E0;have Lm:(t.me ez M t.fW).2.2.1.d.id=t.d.id:=Fk _;generalize t.me ez M t.fW=r at td Lm ⊢;generalize t.fW=i at *;obtain⟨op,i1,i2,i3,cy⟩:=i;unfold k8 at td;intro A F hw dU;refine aK ka7 λ_=>?_;dsimp only [aa,ah] at dU;obtain⟨⟨di,fe,ly,fK,vs,vo⟩,hS⟩:=ik.open dU .z;clear dU;dsimp only [jP,aa,ah] at hS;rw [dO,ef,fz] at hS;dsimp only [eG,gM,eF,gJ,gO,mG] at hS;have hq:=gI hS hw;have lF:∀k l,(b=A.next+k+l)=False:=λk l=>by simp [hq,ZD]
     have xS:∀k l,(q.bb=A.next+k+l)=False:=λk l=>by simp [hq,ZD]
     revert hq hS hw;(repeat revert hc);refine Wu (J2 (Tg.mk (n:=35) (eI.JE td)) (od Cb)) (H7 lF xS Lm H2 zV ER ET G3 @az.eq_1 @eK.eq_1 bC) ?_<;>(unhygienic intros);refine⟨_,by (simp [AW.ab];rfl),?_⟩;apply Ay
     (·rfl)
     apply ik.bX
     . skip
       (·exact sA)
     dsimp only [jP]
     (·exact pZ)
     (·exact pZ)
   | some s=>
     dsimp only;by_cases hb:s.kJ=qg
     . rw [ay hb];have Tw:=yZ hF (W7 hc hk hM h hd dO hb) q b pb dO ef fz E0;have xR:=λn=>xG n s;simp only [hb] at xR;have Lm:(t.xJ M s).2.2.1.d.id=t.d.id:=Bz;generalize t.xJ M s=r at Tw Lm ⊢;intro A F hw dU;refine aK ka7 λ_=>?_;dsimp only [aa,ah] at dU;obtain⟨⟨di,fe,ly,fK,vs,vo⟩,hS⟩:=ik.open dU .z;clear dU;dsimp only [jP,aa,ah] at hS;rw [dO,ef,fz] at hS;dsimp only [eG,gM,eF,gJ,gO,mG] at hS;have hq:=gI hS hw;have lF:∀k l,(b=A.next+k+l)=False:=λk l=>by simp [hq,ZD]
       have xS:∀k l,(q.bb=A.next+k+l)=False:=λk l=>by simp [hq,ZD]
       revert hq hS hw;(repeat revert hc);refine Wu (J3 (Tg.mk (n:=10) (λ{A L K k}=>fQ (A:=A) (L:=L) (K:=K) (k:=k) (xR di))) (Tg.mk (n:=35) (eI.JE Tw)) (od Cb)) (E5 lF xS Lm H2 zV ER ET G3 @eK.eq_1 bC) ?_<;>(unhygienic intros);refine⟨_,by (simp [AW.ab];rfl),?_⟩;apply Ay
       (·rfl)
       apply ik.bX
       . skip
         (·exact sA)
       dsimp only [jP]
       (·exact pZ)
       (·exact pZ)
     rw [aw hb];have lF:s.kJ=qk:=by simpa using hb
     have xR:=λn=>xG n s;simp only [lF] at xR;by_cases hs:t.bd=qg
     . rw [ay hs];have uI:t.d.bd=qg:=hs;have Tw:=yZ hF (t:={ t with gf:=t.gf+1,fR:=qc (t.vR t.fW s) }) (ask_H hc hk hM h hd dO hs) q b pb rfl ef fz E0;obtain⟨g1,_,_,g2⟩:=h.Aj s dO;rw [ay (qt hs)] at g1;have hask:=λvs vf vd vc vl vo n=>Sx b n t.d vs vf vd vc vl vo t.fW s (g1.ok.b.attC hc) (g1.Q9 hs).1 hi hB.oN;have ea:QO t.d t.fW s=t.vR t.fW s:=rfl;rw [ea] at hask;have Lm:(({ t with gf:=t.gf+1,fR:=qc (t.vR t.fW s) }:aU).xJ M (t.vR t.fW s)).2.2.1.d.id=t.d.id:=Bz;rw [show t.ask t.fW s={ t with gf:=t.gf+1,fR:=qc (t.vR t.fW s) } from rfl];generalize ({ t with gf:=t.gf+1,fR:=qc (t.vR t.fW s) }:aU).xJ M (t.vR t.fW s)=r at Tw Lm ⊢;generalize t.vR t.fW s=s2 at Tw hask ⊢;generalize t.fW=i at *;obtain⟨op,i1,i2,i3,cy⟩:=i;unfold k8 at hask;intro A F hw dU;refine aK ka7 λ_=>?_;dsimp only [aa,ah] at dU;obtain⟨⟨di,fe,ly,fK,vs,vo⟩,hS⟩:=ik.open dU .z;clear dU;dsimp only [jP,aa,ah] at hS
       rw [dO,ef,fz] at hS;dsimp only [eG,gM,eF,gJ,gO,mG] at hS;have hq:=gI hS hw;have lF:∀k l,(b=A.next+k+l)=False:=λk l=>by simp [hq,ZD]
       have xS:∀k l,(q.bb=A.next+k+l)=False:=λk l=>by simp [hq,ZD]
       revert hq hS hw;(repeat revert hc);refine Wu (J4 (Tg.mk (n:=10) (λ{A L K k}=>fQ (A:=A) (L:=L) (K:=K) (k:=k) (xR di))) (Tg.mk (n:=37) (λx1 x2 x3 x4 x5 x6=>hask x1 x2 x3 x4 x5 x6 di)) (Tg.mk (n:=35) (eI.JE Tw)) (od Cb)) (vZ lF xS Lm H2 uI zV ER ET G3 @az.eq_1 @eK.eq_1 bC) ?_<;>(unhygienic intros);refine⟨_,by (simp [AW.ab];rfl),?_⟩;apply Ay
       (·rfl)
       apply ik.bX
       . skip
         (·exact sA)
       dsimp only [jP]
       (·exact pZ)
       (·exact pZ)
     rw [aw hs];have NK:t.bd=qk:=by simpa using hs
     have uI:t.d.bd=qk:=NK;have td:=WQ hF q b pb t s M t.fW dO ef fz (WP hA hc hk hM h hd dO lF NK rj) E0;have Lm:(t.me ez M t.fW).2.2.1.d.id=t.d.id:=Fk _;generalize t.me ez M t.fW=r at td Lm ⊢;generalize t.fW=i at *;obtain⟨op,i1,i2,i3,cy⟩:=i;unfold k8 at td;intro A F hw dU;refine aK ka7 λ_=>?_;dsimp only [aa,ah] at dU;obtain⟨⟨di,fe,ly,fK,vs,vo⟩,hS⟩:=ik.open dU .z;clear dU;dsimp only [jP,aa,ah] at hS;rw [dO,ef,fz] at hS;dsimp only [eG,gM,eF,gJ,gO,mG] at hS;have hq:=gI hS hw;have lF:∀k l,(b=A.next+k+l)=False:=λk l=>by simp [hq,ZD]
     have xS:∀k l,(q.bb=A.next+k+l)=False:=λk l=>by simp [hq,ZD]
     revert hq hS hw;(repeat revert hc);refine Wu (J3 (Tg.mk (n:=10) (λ{A L K k}=>fQ (A:=A) (L:=L) (K:=K) (k:=k) (xR di))) (Tg.mk (n:=35) (eI.JE td)) (od Cb)) (vZ lF xS Lm H2 uI zV ER ET G3 @az.eq_1 @eK.eq_1 bC) ?_<;>(unhygienic intros);refine⟨_,by (simp [AW.ab];rfl),?_⟩;apply Ay
     (·rfl)
     apply ik.bX
     . skip
       (·exact sA)
     dsimp only [jP]
     (·exact pZ)
     (·exact pZ)
end
section
abbrev oThrM_0:List (Nat×Nat):=[(0,0),(1,0),(2,0),(3,0),(4,0),(5,0),(6,0),(7,0),(8,0),(9,0),(10,0),(11,2),(12,3)]
abbrev E9:List (Nat×Nat):=[(0,0),(1,0),(2,0),(3,0),(5,0),(4,2),(6,2),(7,0),(8,2),(9,0)]
open T7
variable [Gl]
theorem LN (v:qd) (n:Nat) (cs:List qd) (A:AW) (h:fL A 5 v n cs) (h1:cs.all Zz=qg) (hl:n<2^30) :
 aB qV 86 [v] A (λu A'=>dV A.next A' 5 u n cs/\A.le A'/\A'.Wf):=by
 refine aK Tryz.func86 λhw=>?_;have hv:(∃c,v=qf qh n c)\/∃q c,v=qf (qc q) n c:=by
  rcases h with ⟨⟨o,rfl⟩,rfl,rfl⟩|⟨p,c,bS,own,u,rfl,_⟩
  . cases o with
    | none=>exact qq ⟨_,rfl⟩
    | some q=>exact qt ⟨_,_,rfl⟩
  exact qt ⟨_,_,rfl⟩
 rcases hv with ⟨c,rfl⟩|⟨q,c,rfl⟩;obtain⟨rfl,rfl,rfl⟩:n=0/\c=0/\cs=[]:=by
  rcases h with ⟨⟨o,h0⟩,h2,h3⟩|⟨p,c',bS,own,u,h0,_⟩;injection h0 with h4 h5 h6;exact⟨h2,h6,h3⟩;cases h0
 revert hw;refine W cx cx ?_<;>(unhygienic intros);exact⟨_,rfl,qq ⟨rfl,rfl,rfl⟩,AW.le.refl A,hw⟩;have h2:=fL.le (qW A (qi [] qg 5)) hw h;have iz:dV A.next (A.alloc (qi [] qg 5)) 5 (qf (qc ⟨A.next,0,qh⟩) 0 0) 0 []:=qt ⟨⟨A.next,0,qh⟩,0,[],rfl,qZ _,rfl,qZ _,by simp,by simp,by simp⟩;obtain⟨v',A',e1,e2,e3,e4,e5,e6,e7⟩:=km (P:=qV) (size:=5) (t:=76) Tryz.underlying76 Tryz.info75 Tryz.zero75 rfl rfl Ya iz (fL.pd h2) h1 Ya Yg Yb (hw.alloc _);refine W cx (J1 e1) ?_<;>intros;refine⟨_,rfl,?_,?_,e4⟩
 simpa using e2
 exact e3 A (qZ _) (qW A _)
theorem LM (v:qd) (n:Nat) (cs:List qd) (A:AW) (h:fL A 3 v n cs) (h1:cs.all Zz=qg) (hl:n<2^30) :
 aB qV 94 [v] A (λu A'=>dV A.next A' 3 u n cs/\A.le A'/\A'.Wf):=by
 refine aK Tryz.func94 λhw=>?_;have hv:(∃c,v=qf qh n c)\/∃q c,v=qf (qc q) n c:=by
  rcases h with ⟨⟨o,rfl⟩,rfl,rfl⟩|⟨p,c,bS,own,u,rfl,_⟩
  . cases o with
    | none=>exact qq ⟨_,rfl⟩
    | some q=>exact qt ⟨_,_,rfl⟩
  exact qt ⟨_,_,rfl⟩
 rcases hv with ⟨c,rfl⟩|⟨q,c,rfl⟩;obtain⟨rfl,rfl,rfl⟩:n=0/\c=0/\cs=[]:=by
  rcases h with ⟨⟨o,h0⟩,h2,h3⟩|⟨p,c',bS,own,u,h0,_⟩;injection h0 with h4 h5 h6;exact⟨h2,h6,h3⟩;cases h0
 revert hw;refine W cx cx ?_<;>(unhygienic intros);exact⟨_,rfl,qq ⟨rfl,rfl,rfl⟩,AW.le.refl A,hw⟩;have h2:=fL.le (qW A (qi [] qg 3)) hw h;have iz:dV A.next (A.alloc (qi [] qg 3)) 3 (qf (qc ⟨A.next,0,qh⟩) 0 0) 0 []:=qt ⟨⟨A.next,0,qh⟩,0,[],rfl,qZ _,rfl,qZ _,by simp,by simp,by simp⟩;obtain⟨v',A',e1,e2,e3,e4,e5,e6,e7⟩:=km (P:=qV) (size:=3) (t:=137) Tryz.underlying137 Tryz.info211 Tryz.zero211 rfl rfl Ya iz (fL.pd h2) h1 Ya Yg Yb (hw.alloc _);refine W cx (J1 e1) ?_<;>intros;refine⟨_,rfl,?_,?_,e4⟩
 simpa using e2
 exact e3 A (qZ _) (qW A _)
def FH (b:Nat) (t:aU) (f:ThF) (vc:qd):List It:=[.at b (uX t.d ⟨gM t.fR f.di,f.vs,gJ t.ee f.fe,mG t.dY f.ly,vc,pv f.fK,f.vo⟩),.h (eG t.fR f.di),.h (jA f.vs t.dM),.h (eF t.ee f.fe),.h (gO t.dY f.ly),
 .h (Ke vc t.aD),.h (rN f.fK t.cf t.ii),.h (jA f.vo t.io)]
def u3 (b:Nat) (t:aU):HP:=td λf:ThF×qd=>aO (FH b t f.1 f.2)
theorem u3.open {A:AW} {L K:List It} {b:Nat} {t:aU} (h:aj A L) (hp:aE L (.h (u3 b t)) K):∃f:ThF×qd,aj A (FH b t f.1 f.2++K):=kT h hp
theorem u3.dJ {A:AW} {L K:List It} {b:Nat} {t:aU} {f:ThF} {vc:qd} (h:aj A L) (e:bf L (FH b t f vc) K):aj A (.h (u3 b t)::K):=jp (f,vc) h e
theorem u3.bX {A:AW} {L K G K2:List It} {b:Nat} {t:aU} {di fe ly fK:Nat} {vs vo vc:qd} (h:aj A L) (e:bf L (FH b t ⟨di,fe,ly,fK,vs,vo⟩ vc) K) (e2:bf K G K2):aj A (.h (u3 b t)::G):=aj.bX (u3.dJ h e) (.s .z e2)
theorem u3.toQ {A:AW} {L K:List It} {b:Nat} {t:aU} (h:aj A L) (hp:aE L (.h (u3 b t)) K) (hl:0<t.aD.length):∃q,CR q t.aD/\aj A (.h (ik q b t)::K):=by
 obtain⟨⟨⟨di,fe,ly,fK,vs,vo⟩,vc⟩,h1⟩:=u3.open h hp;dsimp only [FH,aa,ah] at h1;obtain⟨q,rfl,h2,h3⟩:=W1 h1 (.s (.s (.s (.s (.s .z))))) hl;refine⟨q,h2,ik.dJ (di:=di) (fe:=fe) (ly:=ly) (fK:=fK) (vs:=vs) (vo:=vo) h3 ?_⟩;unfold jP;dsimp only
 (·exact pZ)
theorem ik.toP {A:AW} {L K:List It} {q:pI} {b:Nat} {t:aU} (h:aj A L) (hp:aE L (.h (ik q b t)) K) (hR:CR q t.aD):aj A (.h (u3 b t)::K):=by
 obtain⟨⟨di,fe,ly,fK,vs,vo⟩,h1⟩:=ik.open h hp;dsimp only [jP,aa,ah] at h1;have h2:=TN hR h1 (.s (.s (.s (.s (.s .z)))));refine u3.dJ (f:=⟨di,fe,ly,fK,vs,vo⟩) (vc:=qf (qc ⟨q.bb,q.off,qh⟩) t.aD.length q.eV) h2 ?_;unfold FH;dsimp only
 (·exact pZ)
def stV (d:xK):qd:=.agg (qb qa d.pc::(d.dX.cells++[qb qa d.lW,qn d.done])).toArray
theorem ML (b:Nat) (t:aU) (M:Mm) (pb:Nat) (hd:t.done=qg):bx qV 55 [pv b,pv pb] [.h (u3 b t)] (λv=>v=qA #[eK dm.zero,qf qh 0 0,qn qk]) (λ_=>[.h (u3 b t)]):=by
 intro A F hw dU;refine aK ka7 λ_=>?_;dsimp only [aa,ah] at dU;obtain⟨⟨⟨di,fe,ly,fK,vs,vo⟩,vc⟩,hS⟩:=u3.open dU .z;clear dU;dsimp only [FH,aa,ah] at hS;have hq:=gh hS hw;have H2:t.d.done=qg:=hd;revert hq hS hw;refine W (J1 (od oThrM_0)) (J2 H2 bC) ?_<;>(unhygienic intros);refine⟨_,by (simp [AW.ab];rfl),by rfl,?_⟩;apply u3.bX
 (·exact sA)
 unfold FH;dsimp only
 (·exact pZ)
 (·exact pZ)
theorem ins_one (l:List bq):(l.flatMap az).all Zz=qg:=by
 rw [List.all_eq_true];intro v hv;obtain⟨x,_,hx⟩:=List.mem_flatMap.1 hv;simp only [az,List.mem_cons,List.not_mem_nil,or_false] at hx;rcases hx with rfl|rfl|rfl|rfl|rfl<;>rfl
theorem PM (c:aY) {A:AW} {L:List It} {k:qd->AW->Prop} (hw:A.Wf) (hS:aj A L) (hk:∀n A',aj A' (.h (rN n c [])::L)->A'.Wf->A.le A'->k (pv n) A'):aB qV 87 [c.v] A k:=by
 refine aK Tryz.func87 λ_=>?_;obtain⟨jm,d9,i9,c0,c1,c2,c3,iJ,iW,ja,i8,gL,jr⟩:=c;simp only [aY.v];revert hS hw;refine W cx (J1 bC) ?_<;>(unhygienic intros);refine⟨_,by rfl,?_⟩;have w1:=hw.alloc (qi [qb qa jm,qb qa d9,qb qa i9,qb qa c0,qb qa c1,qb qa c2,qb qa c3,qb qa iJ,qb qa iW,qb qa ja,qb qa i8,qb qa gL,qn jr] qg 1);have h1:aj _ L:=bB.alloc hS hw (qi [qb qa jm,qb qa d9,qb qa i9,qb qa c0,qb qa c1,qb qa c2,qb qa c3,qb qa iJ,qb qa iW,qb qa ja,qb qa i8,qb qa gL,qn jr] qg 1) |>.right;refine hk (A.next+1) _ ?_ (w1.alloc _) ((qW A _).trans (qW _ _));refine rN.dJ (v:=qf qh 0 0) (L:=.h (LmE (qf qh 0 0) [])::.at (A.next+1) (VR ⟨jm,d9,i9,c0,c1,c2,c3,iJ,iW,ja,i8,gL,jr⟩ (qf qh 0 0))::L) ?_ (.s (.s .z) (.s .z .z));exact dK.nil (bB.alloc h1 w1 _)
theorem UP (b:Nat) (d:xK) (va vs vf vd vl vo:qd) (o:Option Addr) (n c:Nat) (pc:Int) (A:AW) (hg:A.bk b=qc (uX d ⟨va,vs,vf,vd,qf o n c,vl,vo⟩)) :
 aB qV 88 [pv b,qb qa pc] A (λu A'=>A'=A.set b (qc (uX { d with pc:=pc,done:=decide (pc=n) } ⟨va,vs,vf,vd,qf o n c,vl,vo⟩))):=by
 refine aK Tryz.func88 λ_=>?_;refine W cx (J2 hg bC) ?_<;>intros;exact⟨_,rfl,AW.set_set⟩
theorem aj.emp0 {A:AW} {L:List It} (h:aj A L):aj A (.h fl::L):=by
 unfold aj at *;show bB A (fl*aO L);rw [jf];exact h
theorem aj.drop2 {A:AW} {x y:It} {L:List It} (h:aj A (x::y::L)):aj A (x::L):=by
 have h2:bB A (y.hp*(x.hp*aO L)):=bB.dD h (by show x.hp*(y.hp*aO L)=_;ac_rfl);exact h2.right
theorem Nk (hF:FOK) {c:aY} (hc:da c) (id n:Int) (Mt:0<=id/\id<n/\n<=16) (v:qd) (p:List bq) (hp:(c8 p).2=0) {A:AW} {L:List It} {k:qd->AW->Prop} (hw:A.Wf) (hS:aj A L) (h:li A v p)
 (hk:∀b A',aj A' (.h (u3 b (pD c id n p))::L)->A'.Wf->A.le A'->k (qA #[pv b,qb qa 0]) A'):aB qV 54 [c.v,qb qa id,qb qa n,v] A k:=by
 refine aK Tryz.func54 λ_=>?_;have hl:p.length<=64:=(ia hp).1;obtain⟨o,cc,rfl,_⟩:=h.bR;have yw:=tu c hc;have lp:=λO=>sZ hF (qf o p.length cc) p (A.alloc O) (fL.le (qW A O) hw h);have hln:=λ{A:AW} {L:List It} {k:qd->AW->Prop}=>PM c (A:=A) (L:=L) (k:=k);generalize Tl:c8 p=pp at hp lp;obtain⟨p1,p2⟩:=pp;dsimp only at hp;subst hp;unfold rm at lp;have a1:¬n<1:=Ya
 have a2:¬16<n:=Ya
 have a3:¬id<0:=Ya
 have a4:¬n<=id:=Ya
 obtain⟨jm,d9,i9,c0,c1,c2,c3,iJ,iW,ja,i8,gL,jr⟩:=c;simp only [aY.v] at yw hln ⊢;revert hS hw;(repeat revert hc);refine W (J3 (od E9) @yw @lp) (J5 a1 a2 a3 a4 bC) ?_<;>(unhygienic intros);have w1:=hw.alloc (qi [qb qa jm,qb qa d9,qb qa i9,qb qa c0,qb qa c1,qb qa c2,qb qa c3,qb qa iJ,qb qa iW,qb qa ja,qb qa i8,qb qa gL,qn jr] qg 1);have h1:aj _ (.at A.next _::L):=bB.alloc hS hw (qi [qb qa jm,qb qa d9,qb qa i9,qb qa c0,qb qa c1,qb qa c2,qb qa c3,qb qa iJ,qb qa iW,qb qa ja,qb qa i8,qb qa gL,qn jr] qg 1);refine bD (LN _ _ _ _ (fL.le (qW A _) hw h) (ins_one p) Ya) ?_;rintro u A4 ⟨ho4,mT,nz⟩ _ _
 refine⟨mT,?_⟩
 have h4:aj A4 (.h (Ke u p)::.at A.next _::L):=dK.jd h1 w1 mT ho4;obtain⟨o4,c4,rfl,_⟩:=ho4.is.bR;have hg4:=h4.g 1 rfl;revert hS hw;(repeat first|revert hc|revert R|revert K);refine W (J1 (od E9)) (J2 hg4 bC) ?_<;>(unhygienic intros);refine hln nz h4 ?_;intro n5 A5 h5 BF GT
 refine⟨GT,?_⟩
 revert hS hw;(repeat first|revert hc|revert R|revert K);refine W (J1 (od E9)) (J1 bC) ?_<;>(unhygienic intros);refine bD (UP A5.next ⟨0,.zero,0,qk,0,⟨jm,d9,i9,c0,c1,c2,c3,iJ,iW,ja,i8,gL,jr⟩,id,n,0,.zero,0,qk,0⟩ (qm qh) (qf qh 0 0) (qm qh) (qm qh) (pv n5) (qf qh 0 0) o4 p.length c4 0 _ (AW.bN _ _)) ?_;rintro u A6 rfl _ _
 skip
 revert hS hw;(repeat first|revert hc|revert R|revert K);refine W (J1 (od E9)) (J1 bC) ?_<;>(unhygienic intros);refine⟨qA #[pv A5.next,qb qa 0],by simp [bA,aQ,aR],?_⟩
 have h6:aj ((A5.alloc (uX ⟨0,.zero,0,qk,0,⟨jm,d9,i9,c0,c1,c2,c3,iJ,iW,ja,i8,gL,jr⟩,id,n,0,.zero,0,qk,0⟩ ⟨qm qh,qf qh 0 0,qm qh,qm qh,qf o4 p.length c4,pv n5,qf qh 0 0⟩)).set A5.next (qc (uX ⟨0,.zero,0,qk,0,⟨jm,d9,i9,c0,c1,c2,c3,iJ,iW,ja,i8,gL,jr⟩,id,n,0,.zero,0,decide ((0:Int)=p.length),0⟩ ⟨qm qh,qf qh 0 0,qm qh,qm qh,qf o4 p.length c4,pv n5,qf qh 0 0⟩))) (.at A5.next (uX ⟨0,.zero,0,qk,0,⟨jm,d9,i9,c0,c1,c2,c3,iJ,iW,ja,i8,gL,jr⟩,id,n,0,.zero,0,decide ((0:Int)=p.length),0⟩ ⟨qm qh,qf qh 0 0,qm qh,qm qh,qf o4 p.length c4,pv n5,qf qh 0 0⟩)::.h (rN n5 ⟨jm,d9,i9,c0,c1,c2,c3,iJ,iW,ja,i8,gL,jr⟩ [])::.h (Ke (qf o4 p.length c4) p)::.at A.next (qi [qb qa jm,qb qa d9,qb qa i9,qb qa c0,qb qa c1,qb qa c2,qb qa c3,qb qa iJ,qb qa iW,qb qa ja,qb qa i8,qb qa gL,qn jr] qg 1)::L):=
  bB.set (bB.alloc h5 BF _) _
 refine hk A5.next _ ?_ ((BF.alloc _).set _ Yb) (((qW A _).trans mT).trans (GT.trans (AW.le.lQ A5 _ _)));have h7:=aj.emp0 (aj.emp0 (aj.emp0 (aj.nilO (aj.nilO h6))));have e:decide ((0:Int)=p.length)=decide (p.length=0):=by
  by_cases e:p.length=0;simp [e];rw [decide_eq_false e,decide_eq_false Ya]
 rw [e] at h7;have h8:=u3.dJ (b:=A5.next) (t:=pD ⟨jm,d9,i9,c0,c1,c2,c3,iJ,iW,ja,i8,gL,jr⟩ id n p) (f:=⟨0,0,0,n5,qf qh 0 0,qf qh 0 0⟩) (vc:=qf o4 p.length c4) (K:=.at A.next (qi [qb qa jm,qb qa d9,qb qa i9,qb qa c0,qb qa c1,qb qa c2,qb qa c3,qb qa iJ,qb qa iW,qb qa ja,qb qa i8,qb qa gL,qn jr] qg 1)::L) h7 (by
  show bf _ [.at A5.next (uX ⟨0,.zero,0,qk,0,⟨jm,d9,i9,c0,c1,c2,c3,iJ,iW,ja,i8,gL,jr⟩,id,n,0,.zero,0,decide (p.length=0),0⟩ ⟨qm qh,qf qh 0 0,qm qh,qm qh,qf o4 p.length c4,pv n5,qf qh 0 0⟩),.h fl,.h (jA (qf qh 0 0) []),.h fl,.h fl,.h (Ke (qf o4 p.length c4) p),.h (rN n5 _ []),.h (jA (qf qh 0 0) [])] _
  exact pA)
 have h9:=aj.drop2 h8;rw [<-e] at h9;exact h9
theorem eI.ev0 {P:ql} {f:FuncId} {args:List qd} {sG:List It} {x y:qd} {a1 a2:It} (h:eI P f args sG (λev v=>v=qA #[x,ev,y]) (λev=>[a1,a2,.h (gA ev [])])) :
 eI P f args sG (λ(z:Option Addr×Nat) v=>v=qA #[x,qf z.1 0 z.2,y]) (λ_=>[a1,a2]):=λA F hw hS=>by
 refine bD (h A F hw hS) ?_;rintro v A' ⟨ev,rfl,h2⟩ _ _;obtain⟨q,hq,h3⟩:=gA.open h2 (.s (.s .z));have RJ:q=[]:=List.map_eq_nil_iff.1 hq;subst RJ;dsimp only [Hh,aa,ah] at h3;obtain⟨o,c,rfl,_⟩:=fL.bR (aj.lX h3 .z);refine⟨(o,c),rfl,?_⟩;exact h3.tail.tail
end
end Go.Stx
