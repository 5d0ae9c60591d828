/-
 A step of a thread, as the laws of runs see it.
-/
import Derived.Test.YtipomeafemoelaaGreatDoorG19
set_option linter.unusedVariables false
set_option linter.unusedSimpArgs false
set_option linter.unusedSectionVars false
set_option maxRecDepth 20000
set_option maxHeartbeats 4000000
open Classical renaming byContradiction->kaB
open Go.IntKind renaming u64->qd
open Go.Proofs.Tryz renaming prog->qa
open Go.Value renaming int->qp
open Int renaming le_refl->qE,toNat_natCast->Zp
open List renaming getD_eq_getElem?_getD->ql,getElem?_eq_getElem->qk,getElem?_eq_some_iff->qK,getElem?_replicate->kaC,getElem?_set_ne->Zo,getElem?_set_self->Zd,length_replicate->Z9,replicate->qc
open Nat renaming le_refl->qf,le_succ->qz
open Option.some renaming inj->Zs
namespace Go.Stx
open Go Go.Proofs
attribute [local irreducible] c8 aY aD aO cK da TW bG
section
variable [Gl]
structure Bp (s0 s:aJ):Prop where
 q:uo s
 b7:s.b7=s0.b7
 ne:s.aH≠.ei
 c2:sw s
 th:s.aj=s0.aj
def Came (t:aT) (s:aJ):Prop:=
 t.fL=some s\/(∃s0,t.fL=some s0/\s0.aH=.bF/\s0.aF=1/\Bp s0 s)\/(t.fL=none/\s=(fU (eP t.cf t.id)).2)
inductive um (c:br) (k:Nat) (t:aT) (M:Mm):eF->aT->Mm->Prop
 | iP {st:eF} {t':aT}:st.fe=0->st.gP=aZ.zero->t'.fL=t.fL->um c k t M st t' M
 | load {st:eF} {t':aT} (a:Int):t.fL=none->t'.fL=none->c.aW=false->(0<=a/\a<c.be)->st.fe=1->st.gP=iA M 1 a->um c k t M st t' M
 | store {st:eF} {t':aT} (a v:Int):t.fL=none->t'.fL=none->c.aW=false->(0<=a/\a<c.be)->st.fe=1->st.gP=Do M 1 a v->um c k t M st t' (yb M 1 a v)
 | dM {st:eF} {t':aT}:t.fL=none->t'.fL=none->(st.fe=25/\st.gP=iA M 3 0)\/(st.fe=26/\(st.gP=aZ.zero\/∃i,st.gP=iA M 6 i))->um c k t M st t' M
 | dI {st:eF} {t':aT} (p:fK):t.fL=none->t'.fL=none->FM c p->st.fe=hY (dD p M).1->st.gP=(dD p M).1->um c k t M st t' (dD p M).2.2
 | fL {st:eF} {t':aT} (s:aJ):nP c k s->s.aF=1->Came t s->st.fe=(bC s M).2.1->st.gP=(bC s M).1->(t'.fL=some (bC s M).2.2.1\/(t'.fL=none/\(bC s M).2.2.1.aF=2/\(bC s M).2.2.1.aH=.bF))->um c k t M st t' (bC s M).2.2.2
section
variable {c:br} {nt k:Nat} {t:aT} {s:aJ} {M:Mm}
theorem FH (t:aT) (i:bm) (v:Int):(t.Ch i v).fL=t.fL:=by unfold aT.Ch;split<;>rfl
theorem Fg (t:aT) (s:aJ):(t.oS s).fL=none:=by unfold aT.oS;split<;>rfl
theorem V3 (t:aT) (s:aJ):(t.bS s).fL=none:=by
 unfold aT.bS;split;split;exact Fg t s;exact Fg t s;exact Fg t s
theorem NX (t:aT) (i:bm) (s:aJ):(t.ln i s).fL=none:=by
 unfold aT.ln;dsimp only;split;rw [FH];split<;>rfl
theorem Uh (t:aT) (i:bm) (s:aJ):(t.tx i s).fL=if s.aF=2 then none else t.fL:=by
 unfold aT.tx;split;split;exact NX t i s;exact V3 t s;split;rfl;split;rfl;split<;>rfl
theorem w7 (hO:nP c k s) (hs:s.aF=1) (t0:aT) (h:Came t0 s) (ht:t.id=t0.id) {st:eF} (h1:st.fe=(t.vN M s).1.fe) (h2:st.gP=(t.vN M s).1.gP):um c k t0 M st (t.vN M s).2.2.1 (t.vN M s).2.2.2:=by
 refine .fL s hO hs h h1 h2 ?_;have e:=Pu hs M;unfold aT.vN;dsimp only;split;exact .inl rfl;rename_i hb;rw [Uh];rcases e with e|⟨e1,e2⟩;rw [aw (by omega)];exact .inl rfl;rw [aA e1];exact .inr ⟨rfl,e1,e2⟩
theorem Q0 (h:s.jN=false):s.aH=.bF:=by
 unfold aJ.jN at h;revert h;cases s.aH<;>first|(intro _;rfl)|(intro h;cases h)
theorem Pp {r:aJ} (ha:t.fL=some s) (hb:s.jN=false) (hs:s.aF=1) (h:r=s\/Bp s r):Came t r:=by
 rcases h with rfl|h;exact .inl ha;exact .inr (.inl ⟨s,ha,Q0 hb,hs,h⟩)
theorem OC (s:aJ) (a:Int):(Hm s a).2=s\/Bp s (Hm s a).2:=by
 unfold Hm;split;split;exact .inr ⟨gW trivial,rfl,by simp,trivial,rfl⟩;split;exact .inr ⟨gW trivial,rfl,by simp,trivial,rfl⟩;exact .inr ⟨gW trivial,rfl,by simp [ux],trivial,rfl⟩;exact .inl rfl
theorem Ot (s:aJ) (a v:Int):(F1 s a v).2=s\/Bp s (F1 s a v).2:=by
 unfold F1;split;exact .inr ⟨gW trivial,rfl,by simp,trivial,rfl⟩;exact .inl rfl
theorem Ww (s:aJ) (a:Int):(L0 s a).2=s\/Bp s (L0 s a).2:=by
 unfold L0;split;split;exact .inl rfl;split;exact .inr ⟨gW trivial,rfl,by simp,trivial,rfl⟩;exact .inr ⟨gW trivial,rfl,by simp,trivial,rfl⟩;exact .inl rfl
theorem V0 (s:aJ) (a:Int):(LA s a).2=s\/Bp s (LA s a).2:=by
 unfold LA;split;split;exact .inr ⟨gW trivial,rfl,by simp,trivial,rfl⟩;split;exact .inr ⟨gW trivial,rfl,by simp,trivial,rfl⟩;exact .inr ⟨gW trivial,rfl,by simp [ux],trivial,rfl⟩;exact .inl rfl
theorem I5 (s:aJ) (a:Int):(Dk s a).2=s\/Bp s (Dk s a).2:=by
 unfold Dk;split;split;exact .inl rfl;exact .inr ⟨gW trivial,rfl,by simp,trivial,rfl⟩;exact .inl rfl
theorem R5 (t:aT) (i:bm) (s:aJ):t.Gn i s=s\/Bp s (t.Gn i s):=by
 unfold aT.Gn;split;exact OC _ _;split;exact Ot _ _ _;split;exact Ww _ _;split;exact V0 _ _;split;exact I5 _ _;split;exact I5 _ _;exact .inl rfl
theorem Q4 (t:aT) (i:bm) (s:aJ):t.uj i s=s\/Bp s (t.uj i s):=by
 unfold aT.uj;split;exact I5 _ _;split;exact OC _ _;exact Ot _ _ _
theorem CO (t:aT):t.jP.fL=t.fL:=by
 unfold aT.jP;split<;>rfl
theorem G8 (ha:t.fL=none) {f:jC} (hdl:∀l,t.dI=some l->l≠[]/\∀p∈l,FM c p) {st:eF} (t0:aT) (h0:t0.fL=none) (h1:st.fe=(t.sZ M f).1.fe) (h2:st.gP=(t.sZ M f).1.gP):um c k t0 M st (t.sZ M f).2.1 (t.sZ M f).2.2:=by
 revert h1 h2;unfold aT.sZ;cases e:t.dI with
 | none=>
   dsimp only;intro h1 h2;refine .dM h0 ?_ ?_;rw [CO];split;exact ha;exact ha;rw [h1,h2];by_cases hd:f.done=true;have:fQ f M=(aZ.zero,f):=by unfold fQ;rw [aA hd]
   rw [this];exact .inr ⟨by simp [aZ.zero],.inl rfl⟩;by_cases hl:f.fH=false;have:(fQ f M).1=iA M 3 0:=by unfold fQ;rw [aw hd,aA hl]
   rw [this];by_cases hc:(iA M 3 0).cell=3;rw [aA hc];exact .inl ⟨rfl,rfl⟩;rw [aw hc];rcases Kx M 1 3 0 kE with h|h;refine .inr ⟨rfl,.inl ?_⟩;unfold iA eU at hc ⊢;by_cases hh:eR M 3 0=true;rw [aA hh] at hc;exact absurd rfl hc;rw [aw hh];exact absurd h.2 hc;have:(fQ f M).1=iA M 6 f.next:=by unfold fQ;rw [aw hd,aw hl]
   rw [this];have hc:¬(iA M 6 f.next).cell=3:=by
    unfold iA eU;split;exact(by show ¬(6:Int)=3;decide);exact(by show ¬(0:Int)=3;decide)
   rw [aw hc];exact .inr ⟨rfl,.inr ⟨_,rfl⟩⟩
 | some l=>
   dsimp only;intro h1 h2;obtain⟨g1,g3⟩:=hdl l e;cases l with
   | nil=>exact absurd rfl g1
   | cons p l=>
     refine .dI p h0 ?_ (g3 p (List.mem_cons_self ..)) h1 h2;rw [CO];exact ha
variable {d8:Int->Int->Int->Int}
theorem O0 (t:aT) (i:bm):(t.iP d8 i).fL=t.fL:=by
 unfold aT.iP;show (if _ then _ else _:aT).fL=_;split;rfl;split;rfl;split;rfl;split<;>rfl
theorem Sw (hc:cX c) (h:nO c nt k t):nP c k (fU (eP t.cf t.id)).2/\(fU (eP t.cf t.id)).2.aF=1:=by
 have JO:=h.wD;refine⟨B9 (by rw [h.cf];exact yY hc k t.id (by omega)),?_⟩;have hn:(eP t.cf t.id).mi 0=true:=rfl;unfold fU;rw [aA hn]
theorem MS (hc:cX c) (h:nO c nt k t) (ha:t.fL=none) (mg:t.fz.op=12\/t.fz.op=13) {st:eF} (h1:st.fe=(t.plain M t.fz).1.fe) (h2:st.gP=(t.plain M t.fz).1.gP):um c k t M st (t.plain M t.fz).2.2.1 (t.plain M t.fz).2.2.2:=by
 obtain⟨hO,dy⟩:=Sw (k:=k) hc h;have htg:0<=t.nU t.fz:=by unfold aT.nU;split<;>exact(ja _).1
 revert h1 h2;unfold aT.plain;dsimp only;split;intro h1 h2;refine .iP h1 h2 ?_;show (if _ then _ else _:aT).fL=_;split<;>rfl;rename_i cD;split;intro h1 h2;exact w7 (t:=({ t with aW:=true,fC:=0 }:aT).sy) hO dy t (.inr (.inr ⟨ha,rfl⟩)) rfl h1 h2;rename_i VA;have VA:c.aW=false:=by rw [<-h.cf];simpa using VA
 have ht:0<=t.nU t.fz/\t.nU t.fz<c.be:=⟨htg,by rw [<-h.cf];omega⟩;split;intro h1 h2;exact .load _ ha (by rw [FH];exact ha) VA ht h1 h2;intro h1 h2;exact .store _ _ ha (by rw [FH];exact ha) VA ht h1 h2
theorem PY (hc:cX c) (h:lw c nt k t) (hd:t.done=false) {st:eF} (h1:st.fe=(t.lX d8 M).1.fe) (h2:st.gP=(t.lX d8 M).1.gP):um c k t M st (t.lX d8 M).2.2.1 (t.lX d8 M).2.2.2:=by
 have pX:=h.co;revert h1 h2;have Xj:∀(hx:t.fL=none\/∃s,t.fL=some s/\s.jN=false/\t.aW=false),t.dM=none->st.fe=(t.k7 d8 M t.fz).1.fe->st.gP=(t.k7 d8 M t.fz).1.gP->um c k t M st (t.k7 d8 M t.fz).2.2.1 (t.k7 d8 M t.fz).2.2.2:=by
  intro hx hf;obtain⟨hO,dy⟩:=Sw (k:=k) hc pX;have fa:=h.OY hf;unfold aT.k7;split;rename_i h7;intro h1 h2;rcases hx with ha|⟨s,ha,hb,hs⟩;exact w7 (t:=({ t with bN:=t.pc,lH:=t.dE,iR:=t.iR+1 }:aT).sy) hO dy t (.inr (.inr ⟨ha,rfl⟩)) rfl h1 h2;obtain⟨g1,_⟩:=h.zY s ha;rw [aw (by rw [hb,hs];simp)] at g1;obtain⟨jz,hi⟩:=pX.fz hd;obtain⟨w1,w2,w3,w4⟩:=g1.DQ;have mO:=(tQ pX.rU jz).2.1 _ w4;rw [<-hi] at mO;exact absurd h7 mO.1;rcases hx with ha|⟨s,ha,hb,hs⟩;rw [ha];dsimp only;split;rename_i mg;exact MS hc pX ha mg;split;intro h1 h2;exact G8 (t:={ t with fL:=none,dM:=some ⟨t.id,t.nt,false,0,0⟩ }) rfl (λl e=>(by rw [show t.dI=some l from e] at fa;cases fa)) t ha h1 h2;intro h1 h2;exact .iP h1 h2 (O0 t t.fz);obtain⟨g1,_⟩:=h.zY s ha;rw [aw (by rw [hb,hs];simp)] at g1;rw [ha];dsimp only;split;intro h1 h2;exact w7 (t:={ t with fL:=some (t.Gn t.fz s) }) (ML hc g1.ok t.fz) (BI g1.st t.fz) t (Pp ha hb g1.st (R5 t t.fz s)) rfl h1 h2
  intro h1 h2;exact .iP h1 h2 (O0 t t.fz)
 unfold aT.lX;cases hf:t.dM with
 | some f=>
   obtain⟨g1,g2,g3,g4,g5,g6,g7⟩:=h.fen f hf;intro h1 h2;exact G8 g1 (λl e=>⟨(h.dr l e).1,(h.dr l e).2.2⟩) t g1 h1 h2
 | none=>
   dsimp only;cases ha:t.fL with
   | none=>exact Xj (.inl ha) hf
   | some s=>
     obtain⟨g1,_,_,g2⟩:=h.zY s ha;dsimp only;by_cases hb:s.jN=true;rw [aA hb];rw [aA (.inl hb)] at g1;intro h1 h2;exact w7 g1.ok g1.st t (.inl ha) rfl h1 h2;rw [aw hb];have kS:s.jN=false:=by simpa using hb
     by_cases hs:t.aW=true;rw [aA hs];rw [aA (.inr hs)] at g1;intro h1 h2;exact w7 (t:=t.ask t.fz s) (Ob hc g1.ok t.fz) (Oa g1.st t.fz) t (Pp ha kS g1.st (Q4 t t.fz s)) rfl h1 h2;rw [aw hs];exact Xj (.inr ⟨s,ha,kS,by simpa using hs⟩) hf
end
end
section
variable [Gl]
def nI (M:Mm) (a:aZ) (M':Mm):Prop:=(a=aZ.zero/\M'=M)\/(eR M a.cell a.cL=true/\a.fi=(ju M a.cell).getD a.cL.toNat 0/\M'=setRow M a.cell a.cL a.put)
theorem R0 (l:List Int) (i:Nat):l.set i (l.getD i 0)=l:=by
 by_cases h:i<l.length;rw [ql,qk h];exact List.set_getElem_self h;rw [List.set_eq_of_length_le (by omega)]
theorem Cs {M:Mm} {cell cL:Int} (h:eR M cell cL=true):setRow M cell cL ((ju M cell).getD cL.toNat 0)=M:=by
 obtain⟨h1,h2,h3⟩:=mL h;funext k;unfold setRow ju;rw [aA h1];split;rename_i e;subst e;exact R0 _ _;rfl
theorem nI.op (M:Mm) (fI cell cL:Int) (g:Int->Int×Bool):nI M (eU M fI cell cL g) (kX M cell cL g):=by
 by_cases h:eR M cell cL=true;right;unfold eU;rw [aA h];refine⟨h,rfl,?_⟩;unfold kX;dsimp only;by_cases hg:(g ((ju M cell).getD cL.toNat 0)).2=true;rw [aA ⟨h,hg⟩,aA hg];rw [aw (λe=>hg e.2),aw hg,Cs h];left;unfold eU kX;rw [aw h,aw (λe=>h e.1)];exact⟨rfl,rfl⟩
theorem nI.load (M:Mm) (cell cL:Int):nI M (iA M cell cL) M:=by
 have h:=nI.op M 1 cell cL kE;have e:kX M cell cL kE=M:=by
  unfold kX;split;rename_i h;exact Cs h.1;rfl
 rw [e] at h;exact h
theorem nI.zero (M:Mm):nI M aZ.zero M:=.inl ⟨rfl,rfl⟩
theorem TN (e:iv) (M:Mm):nI M (gl e M).1 (gl e M).2.2:=by
 unfold gl;split;exact .op ..;split;exact .load ..;split;exact .op ..;exact .zero M
theorem UT (e:iG) (M:Mm):nI M (gI e M).1 (gI e M).2.2:=by
 unfold gI;split;exact .zero M;split;exact .op ..;exact .load ..
theorem Yc (e:pw) (M:Mm):nI M (gg e M).1 (gg e M).2.2:=by
 unfold gg;split;exact .load ..;split;exact .load ..;split;exact .op ..;exact .zero M
theorem OF (e:fK) (M:Mm):nI M (dD e M).1 (dD e M).2.2:=by
 unfold dD;split;exact .load ..;split;exact .op ..;split;exact .op ..;exact .zero M
theorem Iv (e:iI) (M:Mm):nI M (dC e M).1 (dC e M).2.2:=by
 unfold dC;split;exact .load ..;split;exact .load ..;split;exact .load ..;exact .zero M
theorem TY (e:iw) (M:Mm):nI M (gm e M).1 (gm e M).2.2:=by
 unfold gm;split;exact .zero M;exact .load ..
theorem Vm (e:ik) (M:Mm):nI M (dW e M).1 (dW e M).2.2:=by
 unfold dW;split;exact .zero M;split;exact .load ..;exact .op ..
theorem wr_ao (e:je) (M:Mm):nI M (kh e M).1 (kh e M).2.2:=by
 unfold kh;split;exact .zero M;exact .op ..
theorem X5 (e:je) (M:Mm):nI M (gM e M).1 (gM e M).2.2:=by
 unfold gM;split;exact .zero M;exact .op ..
theorem att_ao (s:aJ) (M:Mm):nI M (bC s M).1 (bC s M).2.2.2:=by
 unfold bC;cases s.aH with
 | bF=>exact .zero M
 | iP k=>exact .zero M
 | ei=>
   dsimp only;cases s.b7 with
   | none=>exact .zero M
   | some e=>
     dsimp only;unfold gN;dsimp only;split<;>exact TN e M
 | bh c u=>
   dsimp only;unfold du;dsimp only;split;exact Iv c M;split;exact Iv c M;split<;>exact Iv c M
 | eO p=>exact Yc p M
 | eh=>
   dsimp only;cases s.aP with
   | none=>exact .zero M
   | some l=>exact Vm l M
 | cU=>
   dsimp only;cases s.aL with
   | none=>exact .zero M
   | some t=>exact UT t M
 | cM ck=>exact TY ck M
 | bK=>exact .load M 3 0
 | di w=>exact wr_ao w M
 | bH w=>exact X5 w M
 | fb=>exact .op ..
 | ey=>exact .op ..
 | eL p=>exact OF p M
 | ic=>exact .op ..
def L4 (s:aJ):Prop:=nA s=true->∃t,s.aL=some t/\t.jk=true/\0<=t.dx
theorem L4.off {s:aJ} (h:nA s=false):L4 s:=λe=>by rw [h] at e;cases e
theorem L4.U4 {s:aJ} {t:iG} (h:s.aL=some t) (h1:t.jk=true) (h2:0<=t.dx):L4 (fJ s):=λ_=>⟨t,by rw [<-h];unfold fJ;split<;>rfl,h1,h2⟩
theorem RL {c:br} {k:Nat} {s:aJ} {M:Mm} (h:nP c k s) (hQ:L4 s):L4 (bC s M).2.2.1:=by
 have hd:=h.d;have mu:nA s=true->∀s':aJ,s'.aL=s.aL->L4 s':=λe s' e' _=>by
  obtain⟨t,h1,h2⟩:=hQ e;exact⟨t,e'.trans h1,h2⟩
 have fv:nA s=true->∀s':aJ,s'.aL=s.aL->L4 (fJ s'):=λe s' e'=>by
  obtain⟨t,h1,h2,h3⟩:=hQ e;exact .U4 (e'.trans h1) h2 h3
 have on:∀e:(match s.aH with | .cM _ | .bK | .di _ | .bH _ | .fb | .ey=>True|_=>False),nA s=true:=by
  intro e;unfold nA;revert e;cases s.aH<;>first|(intro _;rfl)|(intro e;exact e.elim)
 have qu:∀s':aJ,su s'->L4 s':=λs' e=>.off e.quiet.d;unfold bC;cases e:s.aH with
 | bF=>exact .off (by unfold nA;rw [e])
 | iP l=>
   rw [e] at hd;exact qu _ (KU (s:={ s with aH:=.bF }) ⟨hd.1.to rfl rfl rfl rfl rfl,rfl⟩ l)
 | ei=>
   dsimp only;cases s.b7 with
   | none=>exact .off (by unfold nA;rw [e])
   | some en=>exact qu _ (Fc en e).1
 | bh r u=>
   rw [e] at hd;exact qu _ (Iu r u hd.1).1
 | eO p=>
   rw [e] at hd;exact qu _ (MQ p hd.1).1
 | eh=>
   dsimp only;cases s.aP with
   | none=>exact .off (by unfold nA;rw [e])
   | some l=>
     dsimp only;unfold ip;dsimp only;split;exact .off rfl;exact .off (by unfold nA;dsimp only;rw [e])
 | cU=>
   rw [e] at hd;obtain⟨h0,hl,t,h1,h2,h3⟩:=hd;dsimp only;rw [h1];dsimp only;unfold gU gI;rw [aw (by rw [h2];decide)];by_cases ht:t.jk=false;rw [aA ht];dsimp only;rw [aw (by rw [h2];decide)];exact .off (by unfold nA;dsimp only;rw [e]);rw [aw ht];dsimp only;split;exact λ_=>⟨_,rfl,by simpa using ht,h3.1⟩;exact .off (by unfold nA;dsimp only;rw [e])
 | cM ck=>
   have h1:=on (by rw [e];trivial);show L4 (gn s M ck).2.2.1;unfold gn;dsimp only;split;exact fv h1 _ rfl;split<;>exact mu h1 _ rfl
 | bK=>
   have h1:=on (by rw [e];trivial);show L4 (ff s M).2.2.1;unfold ff;dsimp only;split;exact fv h1 _ rfl;split;exact mu h1 _ rfl;exact fv h1 _ rfl
 | di w=>
   have h1:=on (by rw [e];trivial);show L4 (gA s M w).2.2.1;unfold gA;dsimp only;split<;>exact mu h1 _ rfl
 | bH w=>exact mu (on (by rw [e];trivial)) _ rfl
 | fb=>exact mu (on (by rw [e];trivial)) _ rfl
 | ey=>exact qu _ (sT s)
 | eL p=>exact qu _ (Ix p).1
 | ic=>exact .off rfl
structure TuR (s:aJ) (M:Mm) (r:oW):Prop where
 p13:r.2.1=13->lK s=none/\r.1.fi=uv M
 WU:r.2.1≠13->uv r.2.2.2=uv M
 dn:(r.2.1=15\/r.2.1=16\/r.2.1=17\/r.2.1=19\/r.2.1=20)->nA s=true
 sv:vR r.2.2.2=if r.2.1=20 then vR M+1 else vR M
 nJ:(∀o,jv M o / 64<=uq M+1)->∀o,jv M o / 64<=jv r.2.2.2 o / 64/\jv r.2.2.2 o / 64<=uq M+1
section
variable {c:br} {nt k:Nat} {s:aJ} {M:Mm}
theorem zU {M':Mm} (h:M' 1=M 1):(∀o,jv M o / 64<=uq M+1)->∀o,jv M o / 64<=jv M' o / 64/\jv M' o / 64<=uq M+1:=λhv o=>by
 have:jv M' o=jv M o:=by unfold jv;rw [h]
 rw [this];exact⟨qE _,hv o⟩
theorem TuR.Nd {r:oW} (h:xX M r.2.2.2) (hp:r.2.1<=11\/21<=r.2.1):TuR s M r:=by
 obtain⟨h0,h1,h2,h3,h4⟩:=h;refine⟨λe=>by omega,λ_=>?_,λe=>by omega,?_,zU h1⟩;unfold uv;rw [h3];rw [aw (by omega)];unfold vR;rw [h4]
theorem TuR.fv {r:oW} (h1:r.2.2.2 1=M 1) (h3:r.2.2.2 3=M 3) (h4:r.2.2.2 4=M 4) (hp:r.2.1≠13/\r.2.1≠20) (hd:nA s=true\/r.2.1<=14\/r.2.1=18):TuR s M r:=by
 refine⟨λe=>absurd e hp.1,λ_=>?_,λe=>?_,?_,zU h1⟩;unfold uv;rw [h3];rcases hd with hd|hd|hd;exact hd;omega;omega;rw [aw hp.2];unfold vR;rw [h4]
theorem Yb (a:aZ):mI a<=11:=by unfold mI;(repeat' split)<;>decide
theorem OE (a:aZ):21<=hY a:=by unfold hY;(repeat' split)<;>decide
theorem Vb {x v:Int} (hc:eR M 2 x=true) (o:Int):jv (kX M 2 x (fo v)) o=if x.toNat=o.toNat then v else jv M o:=by
 obtain⟨_,h1,h2⟩:=mL hc;have f1:kX M 2 x (fo v) 1=(M 1).set x.toNat v:=xq hc rfl;unfold jv;rw [f1,jA];by_cases h:x.toNat=o.toNat;have h2':x.toNat<(M 1).length:=by
  have:x<((M 1).length:Int):=h2;omega
 rw [aA ⟨h,h2'⟩,aA h];rw [aw (λe=>h e.1),aw h]
theorem PW (hc:cX c) (hk:k<2^40) (h:nP c k s) (hM:k9 c nt k M) (hT:sq c s M) (hQ:L4 s):TuR s M (bC s M):=by
 have hb:=h.b;have hd:=h.d;unfold bC;cases e:s.aH with
 | bF=>exact .Nd (.refl M) (.inl (by show (0:Int)<=11;decide))
 | iP l=>exact .Nd (.refl M) (.inl (by show (0:Int)<=11;decide))
 | ei=>
   rw [e] at hd;obtain⟨h0,en,h1,_⟩:=hd;dsimp only;rw [h1];dsimp only;refine .Nd (Fc en e).2.2 (.inl ?_);unfold gN;dsimp only;split;show (4:Int)<=11;decide;dsimp only;split<;>decide
 | bh r u=>
   rw [e] at hd;refine .Nd (Iu r u hd.1).2.2 (.inl ?_);have:=hd.2.1;show (du s M r u).2.1<=11;unfold du;dsimp only;split;dsimp only;omega;split;dsimp only;omega;split<;>(dsimp only;omega)
 | eO p=>
   rw [e] at hd;exact .Nd (MQ p hd.1).2.2 (.inl (Yb _))
 | eh=>
   rw [e] at hd;obtain⟨h0,Mf,l,h1,h2,h3,h4,h5⟩:=hd;have ST:=hb.Mb;dsimp only;rw [h1];dsimp only;have hph:(ip s M l).2.1=12\/(ip s M l).2.1=11:=by
    unfold ip;dsimp only;split;exact .inl rfl;exact .inr rfl
   have hm:∀kk,kk≠1->(ip s M l).2.2.2 kk=M kk:=λkk jz=>by
    show (dW l M).2.2 kk=M kk;unfold dW;split;rfl;split;rfl;exact jq (by omega)
   refine⟨λe9=>by omega,λ_=>by unfold uv;rw [hm 3 (by omega)],λe9=>by omega,by rw [aw (by omega)];unfold vR;rw [hm 4 (by omega)],λhv o=>?_⟩;show _<=jv (dW l M).2.2 o / 64/\jv (dW l M).2.2 o / 64<=_;unfold dW;have Tm:¬l.done=true:=(by simp only [ik.done,decide_eq_true_eq];omega);rw [aw Tm];split;exact⟨qE _,hv o⟩;rename_i IU;have Ll:l.fH=true:=by simpa using IU
   have tg:=za (by omega) h5 Ll (by rw [h3];exact ST);have hz:=h5.load Ll;dsimp only;rcases yT M 2 (dK l) (jW l.dF (ia l)) 1 o.toNat with h6|⟨h6,h7,h8,h9⟩;have:jv (kX M 2 (dK l) (jW l.dF (ia l))) o=jv M o:=h6;rw [this];exact⟨qE _,hv o⟩;by_cases hsw:(jW l.dF (ia l) ((ju M 2).getD (dK l).toNat 0)).2=true;have e9:(M 1).getD (dK l).toNat 0=l.dF:=of_decide_eq_true hsw;have e10:jv M o=l.dF:=(by unfold jv;rw [h8];exact e9);have e11:jv (kX M 2 (dK l) (jW l.dF (ia l))) o=l.dF+l.aj+1:=by
    unfold jv;rw [h9];exact tg
   have:=hv o;rw [e11];rw [e10] at this ⊢;rw [h3];omega;have:=OJ (M:=M) (cell:=2) (cL:=dK l) (g:=jW l.dF (ia l)) (by simpa using hsw);rw [this];exact⟨qE _,hv o⟩
 | cU=>
   rw [e] at hd;obtain⟨h0,hl,t,h1,h2,h3⟩:=hd;dsimp only;rw [h1];dsimp only;unfold gU gI;rw [aw (by rw [h2];decide)];by_cases ht:t.jk=false;rw [aA ht];dsimp only;have hcell:eR M 4 0=true:=ks (by omega) (by omega) (by show (0:Int)<((M 3).length:Int);rw [hM.l3];decide);have vD:(FY M 4 0 1).fI=4:=(by unfold FY eU;rw [aA hcell]);refine⟨λ_=>⟨?_,(tS hcell).1⟩,λe9=>absurd (aA vD) e9,λe9=>?_,?_,zU (jq (by decide))⟩;unfold lK;rw [e];dsimp only;rw [h1];dsimp only;rw [ht];rfl;dsimp only at e9;rw [aA vD] at e9;omega;dsimp only;rw [aA vD,aw (by decide)];unfold vR;rw [show Wy M 4 0 1 4=M 4 from jq (by decide)];rw [aw ht];dsimp only;have vD:(if (iA M 5 0).fI=4 then (13:Int) else 14)=14:=by
    refine aw ?_;rcases Kx M 1 5 0 kE with h|h;show ¬(eU M 1 5 0 kE).fI=4;omega;show ¬(eU M 1 5 0 kE).fI=4;omega
   rw [vD];exact .fv rfl rfl rfl (by show (14:Int)≠13/\(14:Int)≠20;decide) (.inr (.inl (by show (14:Int)<=14;decide)))
 | cM ck=>
   have hm:(gm ck M).2.2=M:=(by unfold gm;split<;>rfl);refine .fv ?_ ?_ ?_ (by show (15:Int)≠13/\(15:Int)≠20;decide) (.inl (by unfold nA;rw [e]));show (gm ck M).2.2 1=_;rw [hm];show (gm ck M).2.2 3=_;rw [hm];show (gm ck M).2.2 4=_;rw [hm]
 | bK=>exact .fv rfl rfl rfl (by show (16:Int)≠13/\(16:Int)≠20;decide) (.inl (by unfold nA;rw [e]))
 | di w=>
   have hm:∀kk,kk≠0->(kh w M).2.2 kk=M kk:=λkk jz=>by
    unfold kh;split;rfl;exact jq (by omega)
   exact .fv (hm 1 (by omega)) (hm 3 (by omega)) (hm 4 (by omega)) (by show (17:Int)≠13/\(17:Int)≠20;decide) (.inl (by unfold nA;rw [e]))
 | bH w=>
   rw [e] at hd;obtain⟨h0,vU,hl,⟨t,ht⟩,q,hq1,hw⟩:=hd;have hm:∀kk,kk≠1->(gM w M).2.2 kk=M kk:=λkk jz=>by
    unfold gM;split;rfl;exact jq (by omega)
   show TuR s M (mF s M w);refine⟨λe9=>absurd e9 (by show ¬(18:Int)=13;decide),λ_=>(by show uv (gM w M).2.2=_;unfold uv;rw [hm 3 (by omega)]),λe9=>absurd e9 (by show ¬((18:Int)=15\/(18:Int)=16\/(18:Int)=17\/(18:Int)=19\/(18:Int)=20);decide),(by show vR (gM w M).2.2=if (18:Int)=20 then _ else _;rw [aw (by decide)];unfold vR;rw [hm 4 (by omega)]),λhv o=>?_⟩;show _<=jv (gM w M).2.2 o / 64/\jv (gM w M).2.2 o / 64<=_;have ud:0<w.os.length:=(by rw [hw];simp;omega);unfold gM;rw [aw (by simp only [je.done,decide_eq_true_eq];omega)];dsimp only;have Vw:0<=w.os.getD 0 0/\w.os.getD 0 0<c.ao:=hb.Ye _ (by
    have:=wJ ud;rw [hw] at this ⊢;exact List.mem_of_mem_drop this)
   have hl1:=hM.l1;have hcell:eR M 2 (w.os.getD 0 0)=true:=ks (by omega) Vw.1 (by show _<((M 1).length:Int);rw [hl1];exact Vw.2);have Lm:jv M (w.os.getD 0 0) % 64=s.aj+1/\(sm s=false->jv M (w.os.getD 0 0)=(CF s).getD 0 0+s.aj+1/\(CF s).getD 0 0 % 64=0):=by
    have:=hT.lk 0 (by unfold rm;rw [e];exact ud);unfold rm at this;rw [e] at this;exact this
   have e1:CF s=w.ws:=(by unfold CF;rw [e]);have e2:sm s=s.am:=(by unfold sm;rw [e]);rw [e1,e2] at Lm;rw [Vb hcell];split
   . rename_i hxo;have e3:jv M o=jv M (w.os.getD 0 0):=(by unfold jv;rw [hxo]);have hv0:=hv o;have ST:=hb.Mb;cases hdv:s.am with
     | true=>
       have h1:=uu hb hk ⟨hdv,vU hdv⟩;have h2:=hT.cm (by rw [e2];exact hdv);have h3:=hb.iZ;have e5:(tO s).drop q=qc (s.ao.length-q) (kF s.nJ):=(by unfold tO;rw [aA hdv,List.drop_replicate]);have e6:w.ws.getD 0 0=(uq M+1)*64:=by
        rw [hw];show ((tO s).drop q).getD 0 0=_;rw [e5,ql,List.getElem?_replicate_of_lt (by omega)];show kF s.nJ=_;rw [h1,<-h2];unfold kF;rw [aA (by omega)]
       rw [e6];omega
     | false=>
       have h4:=Lm.2 hdv;rw [e3] at hv0 ⊢;omega
   exact⟨qE _,hv o⟩
 | fb=>
   have hm:∀kk,kk≠2->yb M 3 0 (qd.wrap (s.aB+1)) kk=M kk:=λkk jz=>jq (by omega);exact .fv (hm 1 (by omega)) (hm 3 (by omega)) (hm 4 (by omega)) (by show (19:Int)≠13/\(19:Int)≠20;decide) (.inl (by unfold nA;rw [e]))
 | ey=>
   rw [e] at hd;obtain⟨h0,t,ht⟩:=hd;have hm:∀kk,kk≠4->yb M 5 0 (pE s.fY) kk=M kk:=λkk jz=>jq (by omega);have lQ:nA s=true:=(by unfold nA;rw [e]);show TuR s M (Do M 5 0 (pE s.fY),20,gi s,yb M 5 0 (pE s.fY));refine⟨λe9=>absurd e9 (by show ¬(20:Int)=13;decide),λ_=>(by show uv (yb M 5 0 (pE s.fY))=_;unfold uv;rw [hm 3 (by omega)]),λ_=>lQ,?_,zU (hm 1 (by omega))⟩;show vR (yb M 5 0 (pE s.fY))=if (20:Int)=20 then _ else _;rw [aA rfl];have hcell:eR M 5 0=true:=ks (by omega) (by omega) (by show (0:Int)<((M 4).length:Int);rw [hM.l4];decide);have f1:yb M 5 0 (pE s.fY) 4=(M 4).set 0 (pE s.fY):=xq hcell rfl;obtain⟨t',ht',h5,h6⟩:=hQ lQ;rw [ht] at ht';injection ht' with ht';subst ht';have zM:=hT.tk t.dx (by unfold lK;rw [e];dsimp only;rw [ht]);have Vy:=zM.2 lQ;have htn:=hM.XT;have hsv0:uv M=(M 3).getD 0 0:=rfl;have h7:=zM.1;have hv:pE s.fY=t.dx+1:=by
    unfold pE aJ.fY;rw [ht];show qd.wrap (qd.wrap t.fY+1)=_;unfold iG.fY;rw [aA h5,ar (x:=t.dx) (by omega) (by omega),ax (x:=t.dx) (by omega) (by omega),ax (by omega) (by omega)]
   rw [<-Vy];unfold vR;rw [f1,jA,aA ⟨rfl,by rw [hM.l4];omega⟩,hv]
 | eL p=>exact .Nd (Ix p).2.2 (.inr (OE _))
 | ic=>exact .Nd (.op M (by omega)) (.inr (by show (21:Int)<=24;decide))
end
end
section
variable [Gl]
variable [AF]
structure DL (c:br) (nt k:Nat) (m:sr):Prop where
 ok:vy c nt k m
 wD:∀(i:Nat) (t:aT),m.fN[i]? = some t->t.id=(i:Int)
 ti:∀(i:Nat) (t:aT) (s:aJ),m.fN[i]? = some t->t.fL=some s->nP c k s/\s.aj=(i:Int)/\sq c s m.M/\L4 s
 dis:∀(i j:Nat) (t u:aT) (s r:aJ) (n:Int),m.fN[i]? = some t->m.fN[j]? = some u->t.fL=some s->u.fL=some r->i≠j->lK s=some n->lK r≠some n
 nJ:∀o:Int,jv m.M o / 64<=uq m.M+1
structure L5 (c:br) (k:Nat) (m:sr) (i:Nat) (t:aT) (st:eF) (t':aT) (M':Mm):Prop where
 cs:um c k t m.M st t' M'
 th:st.aj=(i:Int)
 gP:nI m.M st.gP M'
 p13:st.fe=13->st.gP.fi=uv m.M/\∀(s':aJ) (n:Int),t'.fL=some s'->lK s'=some n->n=uv m.M
 WU:st.fe≠13->∀(s':aJ) (n:Int),t'.fL=some s'->lK s'=some n->∃s,t.fL=some s/\lK s=some n
 dn:(st.fe=15\/st.fe=16\/st.fe=17\/st.fe=19\/st.fe=20)->∃s,t.fL=some s/\lK s=some (vR m.M)/\nA s=true
 sv:vR M'=if st.fe=20 then vR m.M+1 else vR m.M
 ck:uq m.M<=uq M'
 nJ:∀o:Int,jv m.M o / 64<=jv M' o / 64
section
variable {c:br} {nt k:Nat} {m:sr}
theorem sq.Eb {s:aJ} {M M':Mm} (h:sq c s M) (h1:M' 1=M 1) (h2:M' 2=M 2) (h3:M' 3=M 3) (h4:M' 4=M 4):sq c s M':=by
 refine⟨h.Vi,λi hi=>?_,λe=>?_,h.lg,λn e=>?_⟩;have:=h.lk i hi;unfold jv at this ⊢;rw [h1];exact this;have:=h.cm e;unfold uq at this ⊢;rw [h2];exact this;have:=h.tk n e;unfold uv vR at this ⊢;rw [h3,h4];exact this
theorem DL.aK (h:DL c nt k m) {i j:Nat} {t u:aT} {s r:aJ} (hi:m.fN[i]? = some t) (hj:m.fN[j]? = some u) (hs:t.fL=some s) (hr:u.fL=some r) (h1:nA s=true) (h2:nA r=true):i=j:=by
 apply kaB;intro gT;obtain⟨a1,_,a2,_⟩:=h.ti i t s hi hs;obtain⟨b1,_,b2,_⟩:=h.ti j u r hj hr;obtain⟨n,hn⟩:=TR a1 h1;obtain⟨q,hq⟩:=TR b1 h2;have e1:=(a2.tk n hn).2 h1;have e2:=(b2.tk q hq).2 h2;exact h.dis i j t u s r n hi hj hs hr gT hn (by rw [hq,e1,e2])
theorem DL.jJ (h:DL c nt k m) {i j:Nat} {t u:aT} {s r s':aJ} {M':Mm} (hi:m.fN[i]? = some t) (hs:t.fL=some s\/uo s) (ST:s.aj=(i:Int)) (he:JF c s m.M s' M') (hj:m.fN[j]? = some u) (hr:u.fL=some r) (gT:j≠i):sq c r M':=by
 obtain⟨hA,ht1,hT,_⟩:=h.ti j u r hj hr;have hx:∀e1:nA s=true,nA r=true->False:=λe1 e2=>by
  rcases hs with hs|hs;exact gT (h.aK hj hi hr hs e2 e1);rw [hs.d] at e1;cases e1
 have se:∀i,i<(rm r).length->jv M' ((rm r).getD i 0)=jv m.M ((rm r).getD i 0):=by
  intro i hi;have h1:=(hT.lk i hi).1;rcases he.m1 ((rm r).getD i 0).toNat with h2|h2|h2;exact h2;have h3:jv m.M ((rm r).getD i 0) % 64=0:=h2;have:=hA.b.Mb;omega;have h3:jv m.M ((rm r).getD i 0) % 64=s.aj+1:=h2;omega
 refine⟨hT.Vi,λi hi=>?_,λe=>?_,hT.lg,λn e=>?_⟩;rw [se i hi];exact hT.lk i hi;rcases he.iZ with h1|⟨h1,_⟩;rw [h1];exact hT.cm e;exact(hx (Xx h1) (Xx e)).elim;obtain⟨h1,h2⟩:=hT.tk n e;refine⟨by have:=he.tkn;omega,λe2=>?_⟩;rcases he.sv with h3|h3;rw [h3];exact h2 e2;exact(hx h3 e2).elim
theorem DL.lP (h:DL c nt k m) {i:Nat} {t t':aT} {st:eF} {m':sr} (hi:m.fN[i]? = some t) (ho:vy c nt (k+1) m') (Lc:m'.fN=m.fN.set i t') (JO:t'.id=(i:Int))
 (O3:∀s':aJ,t'.fL=some s'->nP c (k+1) s'/\s'.aj=(i:Int)/\sq c s' m'.M/\L4 s')
 (VH:∀(j:Nat) (u:aT) (r:aJ),j≠i->m.fN[j]? = some u->u.fL=some r->sq c r m'.M) (hv:∀o:Int,jv m'.M o / 64<=uq m'.M+1) (hS:L5 c k m i t st t' m'.M):DL c nt (k+1) m':=by
 have cD:i<m.fN.length:=(qK.1 hi).1;have hg:∀(j:Nat) (u:aT),m'.fN[j]? = some u->(j=i/\u=t')\/(j≠i/\m.fN[j]? = some u):=by
  intro j u hu;rw [Lc] at hu;by_cases hj:j=i;subst hj;rw [Zd cD] at hu;exact .inl ⟨rfl,(Zs hu).symm⟩;rw [Zo (Ne.symm hj)] at hu;exact .inr ⟨hj,hu⟩
 have mU:∀(j:Nat) (u:aT) (r:aJ) (n:Int) (s':aJ) (n':Int),j≠i->m.fN[j]? = some u->u.fL=some r->lK r=some n->t'.fL=some s'->lK s'=some n'->n≠n':=by
  intro j u r n s' n' hj hu hr hn Qr Pb e;subst e;by_cases E2:st.fe=13;have e1:=(hS.p13 E2).2 s' n Qr Pb;have e2:=((h.ti j u r hu hr).2.2.1.tk n hn).1;omega;obtain⟨s,hs,hsn⟩:=hS.WU E2 s' n Qr Pb;exact h.dis i j t u s r n hi hu hs hr (Ne.symm hj) hsn hn
 refine⟨ho,λj u hu=>?_,λj u s hu hs=>?_,λj l u v s r n hu SS hs hr gT hn hm=>?_,hv⟩;rcases hg j u hu with ⟨rfl,rfl⟩|⟨hj,hu⟩;exact JO;exact h.wD j u hu;rcases hg j u hu with ⟨rfl,rfl⟩|⟨hj,hu⟩;exact O3 s hs;obtain⟨a1,a2,_,a3⟩:=h.ti j u s hu hs;exact⟨a1.mono (qz k),a2,VH j u s hj hu hs,a3⟩;rcases hg j u hu with ⟨rfl,rfl⟩|⟨hj,hu⟩;rcases hg l v SS with ⟨rfl,rfl⟩|⟨hl,SS⟩;exact gT rfl;exact mU l v r n s n hl SS hr hm hs hn rfl;rcases hg l v SS with ⟨rfl,rfl⟩|⟨hl,SS⟩;exact mU j u s n r n hj hu hs hn hr hm rfl;exact h.dis j l u v s r n hu SS hs hr gT hn hm
theorem LP (t:aT):uo (fU (eP t.cf t.id)).2/\(fU (eP t.cf t.id)).2.aj=t.id:=by
 have hn:(eP t.cf t.id).mi 0=true:=rfl;unfold fU;rw [aA hn];exact⟨gW trivial,rfl⟩
theorem uo.tinv {s:aJ} {M:Mm} (h:uo s) (hl:FT c s):sq c s M:=
 ⟨by rw [h.l];exact List.nodup_nil,λi hi=>(by rw [h.l] at hi;simp at hi),λe=>(by rw [h.c] at e;cases e),hl,λn e=>(by rw [h.t] at e;cases e)⟩
theorem DL.step (hc:cX c) (hk:k+1<2^24) (h:DL c nt k m) {i:Nat} {t t':aT} {st:eF} {m':sr} (hi:m.fN[i]? = some t) (ho:vy c nt (k+1) m') (Lc:m'.fN=m.fN.set i t') (JO:t'.id=t.id) (ST:st.aj=t.id) (hC:um c k t m.M st t' m'.M):DL c nt (k+1) m'/\L5 c k m i t st t' m'.M:=by
 have hid0:=h.wD i t hi;have hC0:=hC;rw [hid0] at JO ST;have Eb:∀(ha:t'.fL=t.fL) (hp:st.fe<=11\/21<=st.fe) (hA:nI m.M st.gP m'.M),m'.M 1=m.M 1->m'.M 2=m.M 2->m'.M 3=m.M 3->m'.M 4=m.M 4->DL c nt (k+1) m'/\L5 c k m i t st t' m'.M:=by
  intro ha hp hA h1 h2 h3 h4;have hS:L5 c k m i t st t' m'.M:=by
   refine⟨hC0,ST,hA,λe=>by omega,λ_ s' n e e2=>⟨s',ha▸e,e2⟩,λe=>by omega,by rw [aw (by omega)];unfold vR;rw [h4],by unfold uq;rw [h2];exact qE _,λo=>by unfold jv;rw [h1];exact qE _⟩
  refine⟨h.lP hi ho Lc JO (λs' e=>?_) (λj u r _ hu hr=>(h.ti j u r hu hr).2.2.1.Eb h1 h2 h3 h4) (λo=>by have:=h.nJ o;unfold jv uq at this ⊢;rw [h1,h2];exact this) hS,hS⟩;obtain⟨a1,a2,a3,a4⟩:=h.ti i t s' hi (ha▸e);exact⟨a1.mono (qz k),a2,a3.Eb h1 h2 h3 h4,a4⟩
 generalize yt:m'.M=M' at hC;cases hC with
 | iP h1 h2 h3=>exact yt▸Eb h3 (by omega) (by rw [h2,yt];exact .zero _) (by rw [yt]) (by rw [yt]) (by rw [yt]) (by rw [yt])
 | load a h1 h2 h3 h4 h5 h6=>exact yt▸Eb (h2.trans h1.symm) (by omega) (by rw [h6,yt];exact .load ..) (by rw [yt]) (by rw [yt]) (by rw [yt]) (by rw [yt])
 | store a v h1 h2 h3 h4 h5 h6=>exact yt▸Eb (h2.trans h1.symm) (by omega) (by rw [h6,yt];exact .op ..) (by rw [yt];exact jq (by decide)) (by rw [yt];exact jq (by decide)) (by rw [yt];exact jq (by decide)) (by rw [yt];exact jq (by decide))
 | dM h1 h2 h3=>
   refine yt▸Eb (h2.trans h1.symm) (by rcases h3 with h3|h3<;>omega) ?_ (by rw [yt]) (by rw [yt]) (by rw [yt]) (by rw [yt]);rw [yt];rcases h3 with ⟨_,h3⟩|⟨_,h3|⟨j,h3⟩⟩<;>rw [h3];exact .load ..;exact .zero _;exact .load ..
 | dI p h1 h2 h3 h4 h5=>
   have hl:=Ho p m.M;exact yt▸Eb (h2.trans h1.symm) (by rw [h4];exact .inr (OE _)) (by rw [h5,yt];exact OF p m.M) (by rw [yt];exact hl.2.1) (by rw [yt];exact hl.2.2.1) (by rw [yt];exact hl.2.2.2.1) (by rw [yt];exact hl.2.2.2.2)
 | fL s hO dy VR hph hac xT=>
   have hpre:s.aj=(i:Int)/\sq c s m.M/\L4 s/\(t.fL=some s\/uo s)/\(∀n,lK s=some n->∃s0,t.fL=some s0/\lK s0=some n)/\(nA s=true->t.fL=some s):=by
    rcases VR with e|⟨s0,e,e1,e2,e3⟩|⟨e,e1⟩;obtain⟨a1,a2,a3,a4⟩:=h.ti i t s hi e;exact⟨a2,a3,a4,.inl e,λn hn=>⟨s,e,hn⟩,λ_=>e⟩;obtain⟨a1,a2,a3,a4⟩:=h.ti i t s0 hi e;exact⟨e3.th.trans a2,e3.q.tinv (e3.c2.lg hO.b.cf),.off e3.q.d,.inr e3.q,λn hn=>(by rw [e3.q.t] at hn;cases hn),λe4=>(by rw [e3.q.d] at e4;cases e4)⟩;obtain⟨b1,b2⟩:=LP t;rw [<-e1] at b1 b2;have b3:FT c s:=by
     rw [e1];have hn:(eP t.cf t.id).mi 0=true:=rfl;unfold fU;rw [aA hn];exact trivial
    exact⟨b2.trans hid0,b1.tinv b3,.off b1.d,.inr b1,λn hn=>(by rw [b1.t] at hn;cases hn),λe4=>(by rw [b1.d] at e4;cases e4)⟩
   obtain⟨p1,p2,p3,p4,p5,p6⟩:=hpre;have hE:JF c s m.M (bC s m.M).2.2.1 (bC s m.M).2.2.2:=RV hc (by omega) hO h.ok.M p2;have hU:=PW hc (by omega) hO h.ok.M p2 p3;have CL:uq m.M<=uq (bC s m.M).2.2.2:=by
    rcases hE.iZ with h1|⟨_,h1⟩;omega;exact h1
   have hS:L5 c k m i t st t' (bC s m.M).2.2.2:=by
    have IR:∀(s':aJ) (n:Int),t'.fL=some s'->lK s'=some n->s'=(bC s m.M).2.2.1:=by
     intro s' n e _;rcases xT with xT|⟨xT,_⟩;rw [xT] at e;exact(Zs e).symm;rw [xT] at e;cases e
    refine⟨yt▸hC0,ST,by rw [hac];exact att_ao s m.M,λe=>?_,λe s' n e1 e2=>?_,λe=>?_,by rw [hph];exact hU.sv,CL,λo=>(hU.nJ h.nJ o).1⟩;obtain⟨g1,g2⟩:=hU.p13 (hph▸e);refine⟨by rw [hac];exact g2,λs' n e1 e2=>?_⟩;have e3:=IR s' n e1 e2;rw [e3] at e2;rcases hE.tks with g|g|g;rw [g] at e2;cases e2;rw [g,g1] at e2;cases e2;rw [g] at e2;exact(Zs e2).symm;have e3:=IR s' n e1 e2;rw [e3] at e2;have g3:=hU.WU (λe9=>e (hph.trans e9));rcases hE.tks with g|g|g;rw [g] at e2;cases e2;rw [g] at e2;exact p5 n e2;have g4:=(hE.ti.tk n e2).1;rw [g] at e2;have:=Zs e2;omega;have g:=hU.dn (by rw [<-hph];exact e);obtain⟨n,hn⟩:=TR hO g;have g5:=(p2.tk n hn).2 g;exact⟨s,p6 g,by rw [hn,g5],g⟩
   have hv:∀o:Int,jv (bC s m.M).2.2.2 o / 64<=uq (bC s m.M).2.2.2+1:=λo=>by
    have:=(hU.nJ h.nJ o).2;omega
   have VH:∀(j:Nat) (u:aT) (r:aJ),j≠i->m.fN[j]? = some u->u.fL=some r->sq c r (bC s m.M).2.2.2:=λj u r hj hu hr=>h.jJ hi p4 p1 hE hu hr hj;have O3:∀s':aJ,t'.fL=some s'->nP c (k+1) s'/\s'.aj=(i:Int)/\sq c s' (bC s m.M).2.2.2/\L4 s':=λs' e=>by
    rcases xT with xT|⟨xT,_⟩;rw [xT] at e;have e:=Zs e;subst e;exact⟨(xj hc (by omega) hO h.ok.M).1,(Fx s m.M).trans p1,hE.ti,RL hO p3⟩;rw [xT] at e;cases e
   rw [<-yt] at hv VH O3 hS ⊢;exact⟨h.lP hi ho Lc JO O3 VH hv hS,hS⟩
theorem RX {d8:Int->Int->Int->Int} {t:aT} {M:Mm}:(t.lX d8 M).2.2.1.id=t.id:=by
 unfold aT.lX;split;exact HW _;split;split;exact zF;split;exact zF;exact DB _;exact DB _
theorem DL.mono (h:DL c nt k m):DL c nt (k+1) m:=
 ⟨h.ok.mono (qz k),h.wD,λi t s a b=>let ⟨g1,g2⟩:=h.ti i t s a b;⟨g1.mono (qz k),g2⟩,h.dis,h.nJ⟩
theorem DL.pick {d8:Int->Int->Int->Int} (hA:xf d8) (hc:cX c) (hk:k+1<2^24) (h:DL c nt k m) (id:Int) :
 DL c nt (k+1) (m.pick d8 id)/\((m.pick d8 id)=m\/∃i t st t',m.fN[i]? = some t/\(m.pick d8 id).fN=m.fN.set i t'/\(m.pick d8 id).cJ=m.cJ++[st]/\L5 c k m i t st t' (m.pick d8 id).M):=by
 have ho:=h.ok.pick hA hc hk id;revert ho;unfold sr.pick;split;split;exact λ_=>⟨h.mono,.inl rfl⟩;rename_i t ht;dsimp only;split;rename_i hs;intro ho;have hd:t.done=false:=by
  cases e:t.done with
  | false=>rfl
  | true=>unfold aT.step at hs;rw [aA e] at hs;cases hs
 have e:t.step d8 m.M=(true,{ (t.lX d8 m.M).1 with aj:=t.id },(t.lX d8 m.M).2):=by unfold aT.step;rw [aw (by rw [hd];decide)]
 rw [e] at ho ⊢;have hC:=PY (d8:=d8) (st:={ (t.lX d8 m.M).1 with aj:=t.id }) (M:=m.M) hc (h.ok.T t (List.mem_of_getElem? ht)).1 hd rfl rfl;obtain⟨g1,g2⟩:=h.step hc hk ht ho rfl RX rfl hC;exact⟨g1,.inr ⟨_,t,_,_,ht,rfl,rfl,g2⟩⟩;exact λ_=>⟨h.mono,.inl rfl⟩;exact λ_=>⟨h.mono,.inl rfl⟩
theorem Vj {c:br} (AL:pK c) {zs:List Int} {ps:List (List bm)} (hz:(zs.length:Int)=c.be) (hn:ps.length<=16) (kO:∀i (hi:i<ps.length),(cG ps[i]).2=0) (pY:∀p∈ps,Dm p):DL c ps.length 0 (pH c zs ps):=by
 have hg:∀(i:Nat) (t:aT),(pH c zs ps).fN[i]? = some t->t.id=(i:Int)/\t.fL=none:=λi t h=>by
  have h:(ps.mapIdx λi p=>nX c i ps.length p)[i]? = some t:=h;rw [List.getElem?_mapIdx] at h;cases e:ps[i]? with
  | none=>rw [e] at h;cases h
  | some p=>rw [e] at h;have h:=Zs h;rw [<-h];exact⟨rfl,rfl⟩
 refine⟨Ev AL hz hn kO pY,λi t h=>(hg i t h).1,λi t s h e=>(by rw [(hg i t h).2] at e;cases e),λi j t u s r n h _ e=>(by rw [(hg i t h).2] at e;cases e),λo=>?_⟩;have h1:jv (pH c zs ps).M o=0:=by
  show (qc c.ao.toNat (0:Int)).getD o.toNat 0=0;rw [ql,kaC];split<;>rfl
 rw [h1];show (0:Int) / 64<=0+1;decide
end
def uA {σ:Type} (f:eF->σ->Option σ) (s:σ) (l:List eF):Option σ:=l.foldl (λo x=>o.bind (f x)) (some s)
theorem B5 {σ:Type} (f:eF->σ->Option σ):∀(l:List eF) (o:Option σ),l.foldl (λo x=>o.bind (f x)) o=o.bind λs=>uA f s l
 | [],o=>by cases o<;>rfl
 | x::l,o=>by
   rw [List.foldl_cons,B5 f l];cases o with
   | none=>rfl
   | some s=>
     show (f x s).bind _=uA f s (x::l);unfold uA;rw [List.foldl_cons,B5 f l];rfl
theorem Aa {σ:Type} (f:eF->σ->Option σ) (s:σ) (l r:List eF):uA f s (l++r)=(uA f s l).bind λa=>uA f a r:=by
 unfold uA;rw [List.foldl_append,B5 f r];rfl
theorem U3 {σ:Type} {f:eF->σ->Option σ} {s b:σ} {l:List eF} (h:uA f s l=some b) {i:Nat} (hi:i<l.length):∃x y,uA f s (l.take i)=some x/\f l[i] x=some y/\uA f s (l.take (i+1))=some y:=by
 have e:l=l.take (i+1)++l.drop (i+1):=(List.take_append_drop ..).symm;have e2:l.take (i+1)=l.take i++[l[i]]:=List.take_succ_eq_append_getElem hi;rw [e,Aa] at h;cases h1:uA f s (l.take (i+1)) with
 | none=>rw [h1] at h;cases h
 | some y=>
   rw [e2,Aa] at h1;cases h2:uA f s (l.take i) with
   | none=>rw [h2] at h1;cases h1
   | some x=>rw [h2] at h1;exact⟨x,y,rfl,h1,rfl⟩
theorem Ki {α:Type} {P:List α->Prop} (h0:P []) (h1:∀l x,P l->P (l++[x])) (l:List α):P l:=by
 have:∀r:List α,P r.reverse:=λr=>by
  induction r with
  | nil=>exact h0
  | cons x r ih=>rw [List.reverse_cons];exact h1 _ _ ih
 have h:=this l.reverse;rwa [List.reverse_reverse] at h
theorem U2 {σ:Type} {d8:Int->Int->Int->Int} (hA:xf d8) {c:br} {nt:Nat} (hc:cX c) {f:eF->σ->Option σ} {s0:σ} {Rel:sr->σ->Prop} {m0:sr} (h0:DL c nt 0 m0) (Nv:m0.cJ=[]) (hR0:Rel m0 s0)
 (wE:∀k m m' s i t st t',k<2^24->DL c nt k m->DL c nt (k+1) m'->Rel m s->m.fN[i]? = some t->m'.fN=m.fN.set i t'->m'.cJ=m.cJ++[st]->L5 c k m i t st t' m'.M->∃s',f st s=some s'/\Rel m' s') :
 ∀pk:List Int,pk.length<2^24->DL c nt pk.length (pD d8 m0 pk)/\∃s,uA f s0 (pD d8 m0 pk).cJ=some s/\Rel (pD d8 m0 pk) s:=by
 intro pk
 induction pk using Ki with
 | h0=>exact λ_=>⟨h0,s0,by show uA f s0 m0.cJ=_;rw [Nv];rfl,hR0⟩
 | h1 pk x ih=>
   intro hk;rw [List.length_append,List.length_singleton] at hk ⊢;obtain⟨g1,s,g2,g3⟩:=ih (by omega);rw [Ec];obtain⟨p1,p2⟩:=g1.pick hA hc (by omega) x;refine⟨p1,?_⟩;rcases p2 with p2|⟨i,t,st,t',q1,q2,q3,q4⟩;rw [p2];exact⟨s,g2,g3⟩;obtain⟨s',r1,r2⟩:=wE pk.length _ _ s i t st t' (by omega) g1 p1 g3 q1 q2 q3 q4;refine⟨s',?_,r2⟩;rw [q3,Aa,g2];exact r1
structure WB where
 mU:List Int
 Mz:Int
 iZ:Int
 oZ:List Int
def pd (x:eF) (σ:WB):Option WB:=
 if x.aj<0\/(σ.mU.length:Int)<=x.aj then none
 else if (x.fe=15\/x.fe=16\/x.fe=17\/x.fe=19\/x.fe=20)/\σ.mU.getD x.aj.toNat 0≠σ.Mz then none
 else if x.gP.cell=3/\x.gP.put<σ.iZ then none
 else if x.gP.cell=2/\(x.gP.cL<0\/(σ.oZ.length:Int)<=x.gP.cL\/gr x.gP.put<σ.oZ.getD x.gP.cL.toNat 0) then none
 else some ⟨if x.fe=13 then σ.mU.set x.aj.toNat x.gP.fi else σ.mU,if x.fe=20 then qd.wrap (σ.Mz+1) else σ.Mz,if x.gP.cell=3 then x.gP.put else σ.iZ,if x.gP.cell=2 then σ.oZ.set x.gP.cL.toNat (gr x.gP.put) else σ.oZ⟩
structure PC (c:br) (nt:Nat) (m:sr) (σ:WB):Prop where
 tl:σ.mU.length=nt
 tk:∀(i:Nat) (t:aT) (s:aJ) (n:Int),m.fN[i]? = some t->t.fL=some s->lK s=some n->σ.mU.getD i 0=n
 Mz:σ.Mz=vR m.M
 sr0:0<=σ.Mz
 iZ:σ.iZ<=uq m.M
 vl:(σ.oZ.length:Int)=c.ao
 nJ:∀o:Nat,σ.oZ.getD o 0<=jv m.M o / 64
theorem UU {c:br} {nt k:Nat} {m m':sr} {σ:WB} {i:Nat} {t t':aT} {st:eF} (hk:k<2^24) (h:DL c nt k m) (h':DL c nt (k+1) m') (hR:PC c nt m σ) (hi:m.fN[i]? = some t) (Lc:m'.fN=m.fN.set i t') (hS:L5 c k m i t st t' m'.M):∃σ',pd st σ=some σ'/\PC c nt m' σ':=by
 have cD:i<m.fN.length:=(qK.1 hi).1;have hn:=h.ok.n;have YF:=hR.tl;have ST:=hS.th;have YH:st.aj.toNat=i:=by omega
 have htick:(st.fe=15\/st.fe=16\/st.fe=17\/st.fe=19\/st.fe=20)->σ.mU.getD i 0=σ.Mz:=λe=>by
  obtain⟨s,h1,h2,_⟩:=hS.dn e;rw [hR.tk i t s _ hi h1 h2,hR.Mz]
 have hclk:st.gP.cell=3->st.gP.put=uq m'.M:=λe=>by
  rcases hS.gP with ⟨h1,_⟩|⟨h1,h2,h3⟩;rw [h1] at e;cases e;rw [e] at h1 h3;obtain⟨_,h4,h5⟩:=mL h1;have h6:=h.ok.M.l2;have h5:st.gP.cL<((m.M 2).length:Int):=h5;unfold uq;rw [h3];show st.gP.put=((m.M 2).set st.gP.cL.toNat st.gP.put).getD 0 0;rw [jA,aA (by omega)]
 have hckle:=hS.ck;have kJ:=hR.iZ;have se:st.gP.cell=2->(0<=st.gP.cL/\st.gP.cL<c.ao)/\jv m'.M st.gP.cL=st.gP.put/\∀o:Nat,(o:Int)≠st.gP.cL->jv m'.M o=jv m.M o:=λe=>by
  rcases hS.gP with ⟨h1,_⟩|⟨h1,h2,h3⟩;rw [h1] at e;cases e;rw [e] at h1 h3;obtain⟨_,h4,h5⟩:=mL h1;have h6:=h.ok.M.l1;have h5:st.gP.cL<((m.M 1).length:Int):=h5;have h7:∀o:Int,jv m'.M o=((m.M 1).set st.gP.cL.toNat st.gP.put).getD o.toNat 0:=λo=>by unfold jv;rw [h3];rfl
  refine⟨by omega,?_,λo ho=>?_⟩;rw [h7,jA,aA (by omega)];rw [h7,jA,aw (by omega)];rfl
 have uU:st.gP.cell=2->gr st.gP.put=jv m'.M st.gP.cL / 64:=λe=>by
  obtain⟨h1,h2,_⟩:=se e;have h3:=h'.ok.M.orc st.gP.cL.toNat;have h4:(m'.M 1).getD st.gP.cL.toNat 0=st.gP.put:=h2;rw [h4] at h3;obtain⟨h5,h6,_⟩:=h3;rw [h2];unfold gr;rw [Int.tdiv_eq_ediv_of_nonneg h5,ax (by omega) (by omega),ar (by omega) (by omega)]
 have ud:(σ.oZ.length:Int)=c.ao:=hR.vl;have hvle:st.gP.cell=2->σ.oZ.getD st.gP.cL.toNat 0<=gr st.gP.put:=λe=>by
  have h1:=(se e).1;have h2:=hR.nJ st.gP.cL.toNat;have h3:=hS.nJ st.gP.cL;rw [uU e];have h4:((st.gP.cL.toNat:Nat):Int)=st.gP.cL:=by omega
  rw [h4] at h2;omega
 have hsrv:=hR.Mz;refine⟨⟨if st.fe=13 then σ.mU.set st.aj.toNat st.gP.fi else σ.mU,if st.fe=20 then qd.wrap (σ.Mz+1) else σ.Mz,if st.gP.cell=3 then st.gP.put else σ.iZ,if st.gP.cell=2 then σ.oZ.set st.gP.cL.toNat (gr st.gP.put) else σ.oZ⟩,?_,?_⟩;unfold pd;rw [aw (by omega),aw (λe=>e.2 (by rw [YH];exact htick e.1)),aw (λe=>by have:=hclk e.1;omega),aw (λe=>?_)];have h1:=se e.1;have h2:=hvle e.1;rcases e.2 with e2|e2|e2<;>omega;refine⟨?_,?_,?_,?_,?_,?_,?_⟩;dsimp only;split;rw [List.length_set];exact YF;exact YF;intro j u s n hu hs Pb;rw [Lc] at hu;dsimp only;by_cases hj:j=i;subst hj;rw [Zd cD] at hu;have hu:=Zs hu;subst hu;by_cases E2:st.fe=13;rw [aA E2,YH,jA,aA (by omega),(hS.p13 E2).1];exact((hS.p13 E2).2 s n hs Pb).symm;rw [aw E2];obtain⟨s0,h1,h2⟩:=hS.WU E2 s n hs Pb;exact hR.tk j t s0 n hi h1 h2;rw [Zo (Ne.symm hj)] at hu
 have h1:=hR.tk j u s n hu hs Pb;split;rw [YH,jA,aw (λe=>hj e.1.symm)];exact h1;exact h1;dsimp only;rw [hS.sv];split;rename_i h20;obtain⟨s,h1,h2,h3⟩:=hS.dn (by omega);have h4:=((h.ti i t s hi h1).2.2.1.tk _ h2).1;have h5:=h.ok.M.XT;have h6:=hR.sr0;unfold uv at h4;rw [hsrv] at h6 ⊢;exact ax (by omega) (by omega);exact hsrv;dsimp only;split;exact(ja _).1;exact hR.sr0;dsimp only;split;rename_i e;rw [hclk e];exact qE _;omega;dsimp only;split;rw [List.length_set];exact ud;exact ud;intro o;dsimp only;have h1:=hR.nJ o;have h2:=hS.nJ o;split;rename_i e;have h3:=se e;rw [jA];split;rename_i h4;have h5:(o:Int)=st.gP.cL:=by omega
 rw [h5,uU e];exact qE _;omega;omega
theorem XS {d8:Int->Int->Int->Int} (hA:xf d8) {c:br} (AL:pK c) {zs:List Int} {ps:List (List bm)} (hz:(zs.length:Int)=c.be) (hn:ps.length<=16) (kO:∀i (hi:i<ps.length),(cG ps[i]).2=0) (pY:∀p∈ps,Dm p) (pk:List Int) (hk:pk.length<2^24) :
 ∃σ,uA pd ⟨qc ps.length 0,0,0,qc c.ao.toNat 0⟩ (pD d8 (pH c zs ps) pk).cJ=some σ:=by
 have h0:=Vj AL hz hn kO pY;have UE:=AL.ok;have ho:=UE.ao;have hR0:PC c ps.length (pH c zs ps) ⟨qc ps.length 0,0,0,qc c.ao.toNat 0⟩:=by
  have hg:∀(i:Nat) (t:aT),(pH c zs ps).fN[i]? = some t->t.fL=none:=λi t h=>by
   have h:(ps.mapIdx λi p=>nX c i ps.length p)[i]? = some t:=h;rw [List.getElem?_mapIdx] at h;cases e:ps[i]? with
   | none=>rw [e] at h;cases h
   | some p=>rw [e] at h;have h:=Zs h;rw [<-h];rfl
  refine⟨Z9 ..,λi t s n hi hs=>(by rw [hg i t hi] at hs;cases hs),rfl,qE _,qE _,by rw [Z9];omega,λo=>?_⟩;have h1:jv (pH c zs ps).M o=0:=by
   show (qc c.ao.toNat (0:Int)).getD (o:Int).toNat 0=0;rw [ql,kaC];split<;>rfl
  rw [h1];show (qc c.ao.toNat (0:Int)).getD o 0<=0 / 64;rw [ql,kaC];split<;>decide
 obtain⟨_,s,h1,_⟩:=U2 hA UE (Rel:=PC c ps.length) (f:=pd) (s0:=⟨qc ps.length 0,0,0,qc c.ao.toNat 0⟩) h0 rfl hR0 (λk m m' s i t st t' hk h h' hR hi Lc _ hS=>UU hk h h' hR hi Lc hS) pk hk;exact⟨s,h1⟩
end
section
variable [Gl]
variable [AF]
structure PsS where
 mU:List Int
 last:Int
structure PsRel (nt:Nat) (m:sr) (σ:PsS):Prop where
 tl:σ.mU.length=nt
 tk:∀(i:Nat) (t:aT) (s:aJ) (n:Int),m.fN[i]? = some t->t.fL=some s->lK s=some n->σ.mU.getD i 0=n
 last:σ.last<=vR m.M
end
section
variable [Gl]
theorem PV {A:AW} {v:Value} {l:List eF} (h:fW A 9 v l.length (H4 l)):∃(o:Option Addr) (c:Nat) (p:Addr) (b8:List Value) (own:Bool),v=.slice o l.length c/\(0<l.length->o=some p/\A.bp p.block=some (.cells b8 own 9))/\∀i (hi:i<l.length),p.off+i*9+9<=b8.length/\(b8.drop (p.off+i*9)).take 9=(l[i]).cells:=by
 cases l with
 | nil=>
   obtain⟨o,c,e,_⟩:=h.cy;exact⟨o,c,⟨0,0,none⟩,[],false,e,λh=>absurd h (by decide),λi hi=>by cases hi⟩
 | cons x l=>
   obtain⟨p,c,b8,own,e1,e2,_,_⟩:=Is (f:=eF.cells) (λ_=>rfl) h (i:=0) (by simp);refine⟨some p,c,p,b8,own,e1,λ_=>⟨rfl,e2⟩,λi hi=>?_⟩;obtain⟨p',c',X3,own',q1,q2,q3,q4⟩:=Is (f:=eF.cells) (λ_=>rfl) h hi;rw [e1] at q1;injection q1 with q1 _ _;have q1:=Zs q1;subst q1;rw [e2] at q2;have q2:=Zs q2;injection q2 with q2 _ _;subst q2;exact⟨q3,q4⟩
theorem IL (k:IntKind):∀n:Nat,fB [qp k 0] n=(qc n (0:Int)).map (.int k)
 | 0=>rfl
 | n+1=>by rw [List.replicate_succ,List.map_cons,<-IL k n];rfl
theorem SA (B:AW) {n:Nat} (h:n<2^30):mj qa B 28 (.int .i64 n) (.int .i64 n)=some (.slice (some ⟨B.next,0,none⟩) n n,B.alloc (.cells ((qc n (0:Int)).map (.int .u64)) true 1)):=by
 have h1:(0:Int)<=n:=by omega
 have h2:(n:Int)<=140737488355328:=by omega
 have h3:(n:Int)*8<=140737488355328:=by omega
 simp [mj,h1,h2,h3,IL]
theorem SC (B:AW) {n:Nat} (h:n<2^30):mj qa B 24 (.int .i64 n) (.int .i64 n)=some (.slice (some ⟨B.next,0,none⟩) n n,B.alloc (.cells ((qc n (0:Int)).map (.int .i64)) true 1)):=by
 have h1:(0:Int)<=n:=by omega
 have h2:(n:Int)<=140737488355328:=by omega
 have h3:(n:Int)*8<=140737488355328:=by omega
 simp [mj,h1,h2,h3,IL]
theorem Ud (k:IntKind) (l:List Int) {i:Nat} (h:i<l.length):((l.map (qp k)).drop i).take 1=[.int k (l.getD i 0)]:=by
 rw [<-List.map_drop,<-List.map_take,List.drop_eq_getElem_cons h,List.take_succ_cons,List.take_zero,ql,qk h];rfl
theorem Pv {l:List Int} {i:Nat} (h:i<l.length):l[i]? = some (l.getD i 0):=by
 rw [ql,qk h];rfl
end
section
abbrev BP:List (Nat×Nat):=[(0,0),(1,0),(2,0),(3,0),(4,0),(5,0),(6,0),(7,0),(8,0),(9,0),(10,0),(11,0),(13,0),(14,0),(15,0),(16,0),(12,2),(17,0),(18,0)]
open T7
variable [Gl]
theorem UV {A:AW} {c:br} {vi vp vk:Value} {zs:List Int} {ps:List (List bm)} {kl:List Int} (h:WD A c vi vp vk zs ps kl):∃σ,uA pd ⟨qc ps.length 0,0,0,qc c.ao.toNat 0⟩ (scM c zs ps kl).cJ=some σ:=by
 obtain⟨_,_,_,AK,Pa,kO⟩:=xk (h.e kl (λ_ h=>h) (qf _));exact XS xG h.few Pa AK kO h.al kl (by have:=h.kl;omega)
theorem ph7 (p:Int):(p=13/\True)\/(p=15/\True)\/(p=16/\True)\/(p=17/\True)\/(p=19/\True)\/(p=20/\True)\/(¬p=13/\¬p=15/\¬p=16/\¬p=17/\¬p=19/\¬p=20):=by
 simp only [and_true];omega
theorem Cn {x:eF} {σ σ':WB} (h:pd x σ=some σ'):(0<=x.aj/\x.aj<σ.mU.length)/\((x.fe=15\/x.fe=16\/x.fe=17\/x.fe=19\/x.fe=20)->σ.mU.getD x.aj.toNat 0=σ.Mz)/\(x.gP.cell=3->¬x.gP.put<σ.iZ)/\(x.gP.cell=2->(0<=x.gP.cL/\x.gP.cL<σ.oZ.length)/\¬gr x.gP.put<σ.oZ.getD x.gP.cL.toNat 0)/\
 σ'=⟨if x.fe=13 then σ.mU.set x.aj.toNat x.gP.fi else σ.mU,if x.fe=20 then qd.wrap (σ.Mz+1) else σ.Mz,if x.gP.cell=3 then x.gP.put else σ.iZ,if x.gP.cell=2 then σ.oZ.set x.gP.cL.toNat (gr x.gP.put) else σ.oZ⟩:=by
 unfold pd at h;split at h;cases h;rename_i h1;split at h;cases h;rename_i h2;split at h;cases h;rename_i h3;split at h;cases h;rename_i h4;refine⟨by omega,λe=>?_,λe e2=>h3 ⟨e,e2⟩,λe=>?_,(Zs h).symm⟩;exact kaB λe2=>h2 ⟨e,e2⟩;have h5:¬(x.gP.cL<0\/(σ.oZ.length:Int)<=x.gP.cL\/gr x.gP.put<σ.oZ.getD x.gP.cL.toNat 0):=λe2=>h4 ⟨e,e2⟩;omega
theorem Mr {x:eF} {σ σ':WB} (h:pd x σ=some σ'):σ'.mU.length=σ.mU.length/\σ'.oZ.length=σ.oZ.length:=by
 rw [(Cn h).2.2.2.2];dsimp only;constructor<;>split<;>simp
theorem PM {σ0:WB}:∀(l:List eF) {σ:WB},uA pd σ0 l=some σ->σ.mU.length=σ0.mU.length/\σ.oZ.length=σ0.oZ.length:=by
 intro l
 induction l using Ki with
 | h0=>intro σ h;have h:some σ0=some σ:=h;injection h with h;subst h;exact⟨rfl,rfl⟩
 | h1 l x ih=>
   intro σ h;rw [Aa] at h;cases h1:uA pd σ0 l with
   | none=>rw [h1] at h;cases h
   | some τ=>
     rw [h1] at h;have h2:pd x τ=some σ:=h;have h3:=Mr h2;have h4:=ih h1;omega
section
attribute [-simp] mj
theorem Az (hF:FOK) (hA:∀B,aD qa 7 [] B (λu A'=>u=.bool true/\B=A')) (l0 l1 l2 l3 l4:Int) (vl vq:Value) (ls:List (List Int)) (nk:List Int) (aW:Bool) (A:AW)
 (hL:r9 A vl ls) (hk:cd A .i64 vq nk) (Tw:ls.length<=maxLen) (JP:∀x∈ls,x.length<=17592186044415) (hpk:nk.length<=17592186044415) :
 aD qa 5 [.agg #[.int .i64 l0,.int .i64 l1,.int .i64 l2,.int .i64 l3,.int .i64 l4],vl,vq,.bool aW] A (λu A'=>u=.bool true):=by
 refine aN Tryz.func5 λhw=>?_;have cA:=λB=>hA B;revert hw;refine W (J1 (od BP)) (J1 bE) ?_<;>(unhygienic intros);refine bO (Gi hF.n l0 l1 l2 l3 l4 vl vq ls nk aW _ (hL.keeps (kg.sE (AW.le.alloc A _) hw)) (hk.le (AW.le.alloc A _) hw) Tw JP hpk) ?_;rintro _ A3 ⟨b,c,vi,vp,vk,zs,ps,kl,rfl,Td,_,⟨oi,ni,ci,rfl⟩,⟨op,np,cp,rfl⟩,⟨ok,nkk,ck,rfl⟩,hG⟩ FU _;clear hL hk;cases b
 . clear hG;unfold MG km br.cells;obtain⟨mC,fR,lS,c0,c1,c2,c3,kL,lO,lT,lR,iZ,mW⟩:=c;simp only [aa,af];refine W (J2 (od BP) @cA) (J1 bE) ?_<;>intros
   all_goals simp [aR,aU,bu,aQ,aS]
 replace hG:=hG rfl;obtain⟨_,_,e1,_⟩:=hG.i.cy;obtain⟨_,_,e2,_⟩:=hG.p.cy;obtain⟨_,_,e3,_⟩:=hG.k.cy;injection e1 with _ e1 _;injection e2 with _ e2 _;injection e3 with _ e3 _;subst e1 e2 e3;have hpn:=hG.n;have se:=hG.few.ok.ao;have cR:=λB (hK:kg A3 B)=>runG (pk:=kl) hF hG (λ_ h=>h) (qf _) _ _ _ B (hG.i.keeps hK) (hG.p.kps hK) (hG.k.keeps hK);have hmo:=X0 (pk:=kl) hG (λ_ h=>h) (qf _);obtain⟨σe,Le⟩:=UV hG;have hkl:=hG.kl;have dy:=hmo.s;clear hmo hG;generalize scM c zs ps kl=m at *;obtain⟨mC,fR,lS,c0,c1,c2,c3,kL,lO,lT,lR,iZ,mW⟩:=c;dsimp only at se Le;obtain⟨no,AJ⟩:∃no:Nat,fR=no:=⟨fR.toNat,by omega⟩;subst AJ;rw [Zp] at Le;unfold MG km br.cells at cR ⊢;simp only [aa,af] at cR ⊢;unfold Gm jT at cR;generalize (m.M 2).getD 0 0=d2 at cR;generalize (m.M 3).getD 0 0=d3 at cR;generalize (m.M 4).getD 0 0=d4 at cR;revert hw;(repeat first|clear hw|revert hc|revert R|revert K);refine W (J1 (od BP)) (J1 bE) ?_<;>(unhygienic intros)
 refine bO (cR _ (kg.sE (AW.le.lP A3 _ _) FU)) ?_;rintro _ A4 ⟨z1,rfl,hk4,O5⟩ pU _;have hs4:=hk4 _ _ AW.cY;obtain⟨so,sc,p,b8,own,Vy,IQ,bV⟩:=PV O5.st;injection Vy with O4 _ yk;rw [O4,yk];clear hk4 O5 cR O4 yk;generalize A3.next=sb at *;have n4:¬sb=A4.next:=by have:=pU.lt hs4;omega
 have n4':¬A4.next=sb:=by omega
 have hmk1:=λB=>SA B (n:=ps.length) (by omega);have hmk2:=λB=>SC B (n:=no) (by omega);have hp9:0<m.cJ.length->¬p.block=A4.next:=λe e2=>by
  have:=pU.lt (IQ e).2;omega
 have mO:0<m.cJ.length->p.block<A4.next:=λe=>pU.lt (IQ e).2;obtain⟨rb,GH⟩:∃rb,A4.next=rb:=⟨_,rfl⟩;rw [GH] at n4 n4' hp9 mO;have JL:=pU.lt hs4;have n5:¬sb=rb+1:=by omega
 have n6:¬sb=rb+1+1:=by omega
 revert hw;(repeat first|clear hw|revert hc|revert R|revert K);refine W (J1 (od BP)) (J9 hs4 n4 n4' n5 n6 hmk1 hmk2 GH bE) ?_<;>(unhygienic intros);obtain⟨a0,e0⟩:∃a,a=jT z1.f.v0 (m.M 0):=⟨_,rfl⟩;obtain⟨a1,e1⟩:∃a,a=jT z1.f.v1 (m.M 1):=⟨_,rfl⟩;obtain⟨a5,e5⟩:∃a,a=jT z1.f.v5 (m.M 5):=⟨_,rfl⟩;obtain⟨a6,e6⟩:∃a,a=jT z1.f.v6 (m.M 6):=⟨_,rfl⟩;obtain⟨a7,e7⟩:∃a,a=jT z1.f.v7 (m.M 7):=⟨_,rfl⟩;obtain⟨a8,e8⟩:∃a,a=Value.slice z1.t.1 m.fN.length z1.t.2:=⟨_,rfl⟩;obtain⟨xH,e10⟩:∃a,a=Value.slice z1.e.1 m.sU.length z1.e.2:=⟨_,rfl⟩;obtain⟨zG,e11⟩:∃a,a=Value.slice z1.o.1 m.fN.length z1.o.2:=⟨_,rfl⟩
 refine ef (λk fr A'=>A'.Wf/\∃(i:Nat) (σ:WB),k=m.cJ.length-i/\i<=m.cJ.length/\uA pd ⟨qc ps.length 0,0,0,qc no 0⟩ (m.cJ.take i)=some σ/\fr 11=pv rb/\fr 15=.slice (some ⟨rb+1,0,none⟩) ps.length ps.length/\fr 16=.int .u64 σ.Mz/\fr 17=.int .u64 σ.iZ/\fr 18=.slice (some ⟨rb+1+1,0,none⟩) no no/\fr 19=.int .i64 i/\
  A'.bp rb=some (.cells [a0,a1,.int .u64 d2,.int .u64 d3,.int .u64 d4,a5,a6,a7,a8,.slice so m.cJ.length sc,xH,zG] true 1)/\A'.bp (rb+1)=some (.cells (σ.mU.map (.int .u64)) true 1)/\A'.bp (rb+1+1)=some (.cells (σ.oZ.map (.int .i64)) true 1)/\(0<m.cJ.length->A'.bp p.block=some (.cells b8 own 9))) m.cJ.length ?_ ?_
 . refine⟨?_,0,_,rfl,Nat.zero_le _,rfl,by simp,by simp,by simp,by simp,by simp,by simp,?_,?_,?_,λe=>?_⟩
   . repeat' (first|assumption|apply AW.Wf.alloc|apply AW.Wf.set|(simp only [AW.bd,AW.rA,GH];omega))
   simp [AW.dt,AW.df,GH,e0,e1,e5,e6,e7,e8,e10,e11,jT,show ¬rb=rb+1+1 by omega];simp [AW.dt,AW.df,GH];simp [AW.dt,AW.df,GH];have h1:=mO e;have h2:¬p.block=rb:=(by omega);have h3:¬p.block=rb+1:=(by omega);have h4:¬p.block=rb+1+1:=(by omega);simp [AW.dt,AW.df,GH,h2,h3,h4,(IQ e).2]
 clear hs4 n4 n4' n5 n6 JL e0 e1 e5 e6 e7 e8 e10 e11;rintro k fr A5 ⟨CG,i,σ,rfl,hi,hrn,kT,ue,VZ,Lx,g18,g19,zR,zT,zV,hP⟩;by_cases cD:i<m.cJ.length
 . obtain⟨σ1,σ2,r1,r2,r3⟩:=U3 Le cD;rw [hrn] at r1;injection r1 with r1;subst r1;obtain⟨t1,t2⟩:=PM _ hrn;rw [Z9] at t1 t2;obtain⟨q1,q2⟩:=bV i cD;obtain⟨f1,f2,f3,f4,f5⟩:=Cn r2;have zP:=hP (by omega);obtain⟨EO,_⟩:=IQ (by omega);subst EO;have gS:=By (i:=i);have iC:(i:Int)<m.cJ.length:=(by omega);have x1:=CG.lt zR;have x2:=CG.lt zT;have x3:=CG.lt zV;have x4:=CG.lt zP;have y1:¬rb=A5.next:=(by omega);have y2:¬rb+1=A5.next:=(by omega);have y3:¬rb+1+1=A5.next:=(by omega);have y4:¬p.block=A5.next:=(by omega);have y5:¬p.block=rb+1:=λe=>by rw [e,zT] at zP;have:=Zs zP;injection this with _ _ h;cases h
   have y6:¬p.block=rb+1+1:=λe=>by rw [e,zV] at zP;have:=Zs zP;injection this with _ _ h;cases h
   generalize m.cJ[i]=x at *;obtain⟨xt,xp,xa,⟨ak,ac,ai,ag,ap,ad⟩⟩:=x;dsimp only [eF.cells] at q2 f1 f2 f3 f4 f5;obtain⟨j,rfl⟩:∃j:Nat,xt=j:=⟨xt.toNat,by omega⟩;rw [Zp] at f2 f5;have hj:j<σ.mU.length:=(by omega);have hj1:j+1<=σ.mU.length:=(by omega);have Qy:¬(j:Int)<0:=(by omega);have hj3:(j:Int)<ps.length:=(by omega);have xT:=Ud .u64 σ.mU hj;obtain⟨w2,hat2⟩:∃w,σ.mU[j]? = some w:=⟨_,Pv hj⟩;have e2:σ.mU.getD j 0=w2:=(by rw [ql,hat2];rfl);rw [e2] at xT f2;have hcell:(ac=3/\¬ap<σ.iZ)\/(ac=2/\∃(o:Nat) (w:Int),ai=o/\o<σ.oZ.length/\o+1<=σ.oZ.length/\¬(o:Int)<0/\(o:Int)<no/\¬gr ap<w/\((σ.oZ.map (qp .i64)).drop o).take 1=[.int .i64 w]/\σ.oZ[o]? = some w)\/(¬ac=3/\¬ac=2):=by
    by_cases h3:ac=3;exact .inl ⟨h3,f3 h3⟩;by_cases h2:ac=2;obtain⟨h5,h6⟩:=f4 h2;refine .inr (.inl ⟨h2,ai.toNat,_,by omega,by omega,by omega,by omega,by omega,h6,Ud _ _ (by omega),Pv (by omega)⟩);exact .inr (.inr ⟨h3,h2⟩)
   have YO:=ph7 xp;refine ba ?_;have cV:=λB=>Gj ap B;rcases YO with ⟨rfl,hp⟩|⟨rfl,hp⟩|⟨rfl,hp⟩|⟨rfl,hp⟩|⟨rfl,hp⟩|⟨rfl,hp⟩|hp<;>rcases hcell with ⟨rfl,hx⟩|⟨rfl,o,w,rfl,hx⟩|hx
   all_goals(
    all_goals(revert hw;(repeat first|clear hw|revert hc|revert R|revert K);refine W (J2 (od BP) @cV) (J20 kT ue VZ Lx g18 g19 zR zT zV zP q1 q2 f2 iC gS hj hj1 Qy hj3 (mB xT hat2 hp hx t1 t2 y1 y2 y3 y4 y5 y6 bE)) ?_<;>unhygienic intros)
    subst f5;refine⟨m.cJ.length-(i+1),by omega,?_,i+1,_,rfl,by omega,r3,by simp [kT],by simp [ue],by simp [VZ,hp],by simp [Lx,hx],by simp [g18],by simp,?_,?_,?_,λe=>?_⟩
    . repeat' (first|assumption|apply AW.Wf.alloc|apply AW.Wf.set|(simp only [AW.bd,AW.rA];omega))
    . simp [AW.dt,AW.df,zR,y1,y2,y3]
      all_goals(intro h;omega)
    simp [AW.dt,AW.df,zT,y1,y2,y3,hp,List.map_set];simp [AW.dt,AW.df,zV,y1,y2,y3,hp,hx,List.map_set];simp [AW.dt,AW.df,zP,y4,y5,y6])
 have vT:i=m.cJ.length:=by omega
 subst vT;have iC:¬((m.cJ.length:Int)<m.cJ.length):=by omega
 refine ba ?_;refine W (J2 (od BP) @cA) (J9 kT ue VZ Lx g18 g19 zR iC bE) ?_<;>intros
 all_goals simp [aR,aU,bu,aQ,aS]
end
end
end Go.Stx
