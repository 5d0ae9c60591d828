/-
 A step of a thread, as the laws of runs see it.
-/
import Derived.Test.YtpealkdhmnomhaaGreatDoorG21
set_option linter.unusedVariables false
set_option linter.unusedSimpArgs false
set_option linter.unusedSectionVars false
set_option maxRecDepth 20000
set_option maxHeartbeats 4000000
open Go.IntKind renaming u64->q8
open Int renaming le_refl->Zw
open List renaming getD_eq_getElem?_getD->Za
open Bool renaming false->qk,true->qg
open Option renaming none->qh,some->qc
open Or renaming inl->qq,inr->qt
namespace Go.Stx
open Go Go.Proofs
attribute [local irreducible] cM aV aB aL cU dh
section
variable [Gl]
structure C3 (s0 s:aI):Prop where
 q:vX s
 bT:s.bT=s0.bT
 ne:s.aH≠.dA
 c2:tQ s
 th:s.am=s0.am
def Came (t:aU) (s:aI):Prop:=
 t.fR=qc s\/(∃s0,t.fR=qc s0/\s0.aH=.bL/\s0.aF=1/\C3 s0 s)\/(t.fR=qh/\s=(gv (fh t.cf t.id)).2)
inductive vW (c:aY) (k:Nat) (t:aU) (M:Mm):dm->aU->Mm->Prop
 | je {st:dm} {t':aU}:st.fu=0->st.lU=bh.zero->t'.fR=t.fR->vW c k t M st t' M
 | load {st:dm} {t':aU} (a:Int):t.fR=none->t'.fR=none->c.bd=false->(0<=a/\a<c.bg)->st.fu=1->st.lU=iL M 1 a->vW c k t M st t' M
 | store {st:dm} {t':aU} (a v:Int):t.fR=none->t'.fR=none->c.bd=false->(0<=a/\a<c.bg)->st.fu=1->st.lU=EM M 1 a v->vW c k t M st t' (u7 M 1 a v)
 | ee {st:dm} {t':aU}:t.fR=none->t'.fR=none->(st.fu=25/\st.lU=iL M 3 0)\/(st.fu=26/\(st.lU=bh.zero\/∃i,st.lU=iL M 6 i))->vW c k t M st t' M
 | dY {st:dm} {t':aU} (p:gs):t.fR=none->t'.fR=none->HT c p->st.fu=gn (dR p M).1->st.lU=(dR p M).1->vW c k t M st t' (dR p M).2.2
 | fR {st:dm} {t':aU} (s:aI):nZ c k s->s.aF=1->Came t s->st.fu=(ba s M).2.1->st.lU=(ba s M).1->(t'.fR=some (ba s M).2.2.1\/(t'.fR=none/\(ba s M).2.2.1.aF=2/\(ba s M).2.2.1.aH=.bL))->vW c k t M st t' (ba s M).2.2.2
section
variable {c:aY} {nt k:Nat} {t:aU} {s:aI} {M:Mm}
theorem HN (t:aU) (i:bq) (v:Int):(t.DV i v).fR=t.fR:=by unfold aU.DV;split<;>rfl
theorem Hl (t:aU) (s:aI):(t.rp s).fR=qh:=by unfold aU.rp;split<;>rfl
theorem fin_att (t:aU) (s:aI):(t.bX s).fR=qh:=by
 unfold aU.bX;split;split;exact Hl t s;exact Hl t s;exact Hl t s
theorem Qv (t:aU) (i:bq) (s:aI):(t.mq i s).fR=qh:=by
 unfold aU.mq;dsimp only;split;rw [HN];split<;>rfl
theorem aaf (t:aU) (i:bq) (s:aI):(t.uS i s).fR=if s.aF=2 then qh else t.fR:=by
 unfold aU.uS;split;split;exact Qv t i s;exact fin_att t s;split;rfl;split;rfl;split<;>rfl
theorem yY (hO:nZ c k s) (hs:s.aF=1) (t0:aU) (h:Came t0 s) (ht:t.id=t0.id) {st:dm} (h1:st.fu=(t.xJ M s).1.fu) (h2:st.lU=(t.xJ M s).1.lU):vW c k t0 M st (t.xJ M s).2.2.1 (t.xJ M s).2.2.2:=by
 refine .fR s hO hs h h1 h2 ?_;have e:=Sa hs M;unfold aU.xJ;dsimp only;split;exact qq rfl;rename_i hb;rw [aaf];rcases e with e|⟨e1,e2⟩;rw [aw Ya];exact qq rfl;rw [ay e1];exact qt ⟨rfl,e1,e2⟩
theorem TV (h:s.kJ=qk):s.aH=.bL:=by
 unfold aI.kJ at h;revert h;cases s.aH<;>first|(intro _;rfl)|(intro h;cases h)
theorem R5 {r:aI} (ha:t.fR=qc s) (hb:s.kJ=qk) (hs:s.aF=1) (h:r=s\/C3 s r):Came t r:=by
 rcases h with rfl|h;exact qq ha;exact qt (qq ⟨s,ha,TV hb,hs,h⟩)
theorem Rf (s:aI) (a:Int):(Jz s a).2=s\/C3 s (Jz s a).2:=by
 unfold Jz;split;split;exact qt ⟨iC trivial,rfl,by simp,trivial,rfl⟩;split;exact qt ⟨iC trivial,rfl,by simp,trivial,rfl⟩;exact qt ⟨iC trivial,rfl,by simp [wi],trivial,rfl⟩;exact qq rfl
theorem Q5 (s:aI) (a v:Int):(H9 s a v).2=s\/C3 s (H9 s a v).2:=by
 unfold H9;split;exact qt ⟨iC trivial,rfl,by simp,trivial,rfl⟩;exact qq rfl
theorem al_came (s:aI) (a:Int):(OC s a).2=s\/C3 s (OC s a).2:=by
 unfold OC;split;split;exact qq rfl;split;exact qt ⟨iC trivial,rfl,by simp,trivial,rfl⟩;exact qt ⟨iC trivial,rfl,by simp,trivial,rfl⟩;exact qq rfl
theorem fr_came (s:aI) (a:Int):(N8 s a).2=s\/C3 s (N8 s a).2:=by
 unfold N8;split;split;exact qt ⟨iC trivial,rfl,by simp,trivial,rfl⟩;split;exact qt ⟨iC trivial,rfl,by simp,trivial,rfl⟩;exact qt ⟨iC trivial,rfl,by simp [wi],trivial,rfl⟩;exact qq rfl
theorem LG (s:aI) (a:Int):(E2 s a).2=s\/C3 s (E2 s a).2:=by
 unfold E2;split;split;exact qq rfl;exact qt ⟨iC trivial,rfl,by simp,trivial,rfl⟩;exact qq rfl
theorem Vb (t:aU) (i:bq) (s:aI):t.Iw i s=s\/C3 s (t.Iw i s):=by
 unfold aU.Iw;split;exact Rf _ _;split;exact Q5 _ _ _;split;exact al_came _ _;split;exact fr_came _ _;split;exact LG _ _;split;exact LG _ _;exact qq rfl
theorem T1 (t:aU) (i:bq) (s:aI):t.vR i s=s\/C3 s (t.vR i s):=by
 unfold aU.vR;split;exact LG _ _;split;exact Rf _ _;exact Q5 _ _ _
theorem Ep (t:aU):t.kM.fR=t.fR:=by
 unfold aU.kM;split<;>rfl
theorem Ji (ha:t.fR=qh) {f:ko} (hdl:∀l,t.dY=qc l->l≠[]/\∀p∈l,HT c p) {st:dm} (t0:aU) (h0:t0.fR=qh) (h1:st.fu=(t.uy M f).1.fu) (h2:st.lU=(t.uy M f).1.lU):vW c k t0 M st (t.uy M f).2.1 (t.uy M f).2.2:=by
 revert h1 h2;unfold aU.uy;cases e:t.dY with
 | none=>
   dsimp only;intro h1 h2;refine .ee h0 ?_ ?_;rw [Ep];split;exact ha;exact ha;rw [h1,h2];by_cases hd:f.done=qg;have:gy f M=(bh.zero,f):=by unfold gy;rw [ay hd]
   rw [this];exact qt ⟨by simp [bh.zero],qq rfl⟩;by_cases hl:f.fZ=qk;have:(gy f M).1=iL M 3 0:=by unfold gy;rw [aw hd,ay hl]
   rw [this];by_cases hc:(iL M 3 0).cell=3;rw [ay hc];exact qq ⟨rfl,rfl⟩;rw [aw hc];rcases Nb M 1 3 0 lG with h|h;refine qt ⟨rfl,qq ?_⟩;unfold iL eR at hc ⊢;by_cases hh:dl M 3 0=qg;rw [ay hh] at hc;exact absurd rfl hc;rw [aw hh];exact absurd h.2 hc;have:(gy f M).1=iL M 6 f.next:=by unfold gy;rw [aw hd,aw hl]
   rw [this];have hc:¬(iL M 6 f.next).cell=3:=by
    unfold iL eR;split;exact(by show ¬(6:Int)=3;decide);exact(by show ¬(0:Int)=3;decide)
   rw [aw hc];exact qt ⟨rfl,qt ⟨_,rfl⟩⟩
 | some l=>
   dsimp only;intro h1 h2;obtain⟨g1,g3⟩:=hdl l e;cases l with
   | nil=>exact absurd rfl g1
   | cons p l=>
     refine .dY p h0 ?_ (g3 p (List.mem_cons_self ..)) h1 h2;rw [Ep];exact ha
variable {ez:Int->Int->Int->Int}
theorem RE (t:aU) (i:bq):(t.je ez i).fR=t.fR:=by
 unfold aU.je;show (if _ then _ else _:aU).fR=_;split;rfl;split;rfl;split;rfl;split<;>rfl
theorem VD (hc:da c) (h:pi c nt k t):nZ c k (gv (fh t.cf t.id)).2/\(gv (fh t.cf t.id)).2.aF=1:=by
 have Mt:=h.yq;refine⟨DN (by rw [h.cf];exact Ba hc k t.id Ya),?_⟩;have hn:(fh t.cf t.id).ga 0=qg:=rfl;unfold gv;rw [ay hn]
theorem Pn (hc:da c) (h:pi c nt k t) (ha:t.fR=qh) (nq:t.fW.op=12\/t.fW.op=13) {st:dm} (h1:st.fu=(t.plain M t.fW).1.fu) (h2:st.lU=(t.plain M t.fW).1.lU):vW c k t M st (t.plain M t.fW).2.2.1 (t.plain M t.fW).2.2.2:=by
 obtain⟨hO,dw⟩:=VD (k:=k) hc h;have htg:0<=t.py t.fW:=by unfold aU.py;split<;>exact(kN _).1
 revert h1 h2;unfold aU.plain;dsimp only;split;intro h1 h2;refine .je h1 h2 ?_;show (if _ then _ else _:aU).fR=_;split<;>rfl;rename_i bY;split;intro h1 h2;exact yY (t:=({ t with bd:=qg,gf:=0 }:aU).tS) hO dw t (qt (qt ⟨ha,rfl⟩)) rfl h1 h2;rename_i hstr;have hstr:c.bd=qk:=by rw [<-h.cf];simpa using hstr
 have ht:0<=t.py t.fW/\t.py t.fW<c.bg:=⟨htg,by rw [<-h.cf];omega⟩;split;intro h1 h2;exact .load _ ha (by rw [HN];exact ha) hstr ht h1 h2;intro h1 h2;exact .store _ _ ha (by rw [HN];exact ha) hstr ht h1 h2
theorem SC (hc:da c) (h:mw c nt k t) (hd:t.done=qk) {st:dm} (h1:st.fu=(t.m8 ez M).1.fu) (h2:st.lU=(t.m8 ez M).1.lU):vW c k t M st (t.m8 ez M).2.2.1 (t.m8 ez M).2.2.2:=by
 have sq:=h.co;revert h1 h2;have hexec:∀(hx:t.fR=qh\/∃s,t.fR=qc s/\s.kJ=qk/\t.bd=qk),t.ee=qh->st.fu=(t.me ez M t.fW).1.fu->st.lU=(t.me ez M t.fW).1.lU->vW c k t M st (t.me ez M t.fW).2.2.1 (t.me ez M t.fW).2.2.2:=by
  intro hx hf;obtain⟨hO,dw⟩:=VD (k:=k) hc sq;have fz:=h.RB hf;unfold aU.me;split;rename_i h7;intro h1 h2;rcases hx with ha|⟨s,ha,hb,hs⟩;exact yY (t:=({ t with b9:=t.pc,mK:=t.dX,jv:=t.jv+1 }:aU).tS) hO dw t (qt (qt ⟨ha,rfl⟩)) rfl h1 h2;obtain⟨g1,_⟩:=h.Aj s ha;rw [aw (by rw [hb,hs];simp)] at g1;obtain⟨j9,hi⟩:=sq.fW hd;obtain⟨w1,w2,w3,w4⟩:=g1.FA;have mV:=(vA sq.tt j9).2.1 _ w4;rw [<-hi] at mV;exact absurd h7 mV.1;rcases hx with ha|⟨s,ha,hb,hs⟩;rw [ha];dsimp only;split;rename_i nq;exact Pn hc sq ha nq;split;intro h1 h2;exact Ji (t:={ t with fR:=qh,ee:=qc ⟨t.id,t.nt,qk,0,0⟩ }) rfl (λl e=>XB) t ha h1 h2;intro h1 h2;exact .je h1 h2 (RE t t.fW);obtain⟨g1,_⟩:=h.Aj s ha;rw [aw (by rw [hb,hs];simp)] at g1;rw [ha];dsimp only;split;intro h1 h2;exact yY (t:={ t with fR:=qc (t.Iw t.fW s) }) (Pe hc g1.ok t.fW) (Dk g1.st t.fW) t (R5 ha hb g1.st (Vb t t.fW s)) rfl h1 h2
  intro h1 h2;exact .je h1 h2 (RE t t.fW)
 unfold aU.m8;cases hf:t.ee with
 | some f=>
   obtain⟨g1,g2,g3,g4,g5,g6,g7⟩:=h.fen f hf;intro h1 h2;exact Ji g1 (λl e=>⟨(h.dr l e).1,(h.dr l e).2.2⟩) t g1 h1 h2
 | none=>
   dsimp only;cases ha:t.fR with
   | none=>exact hexec (qq ha) hf
   | some s=>
     obtain⟨g1,_,_,g2⟩:=h.Aj s ha;dsimp only;by_cases hb:s.kJ=qg;rw [ay hb];rw [ay (qq hb)] at g1;intro h1 h2;exact yY g1.ok g1.st t (qq ha) rfl h1 h2;rw [aw hb];have lF:s.kJ=qk:=by simpa using hb
     by_cases hs:t.bd=qg;rw [ay hs];rw [ay (qt hs)] at g1;intro h1 h2;exact yY (t:=t.ask t.fW s) (QN hc g1.ok t.fW) (QM g1.st t.fW) t (R5 ha lF g1.st (T1 t t.fW s)) rfl h1 h2;rw [aw hs];exact hexec (qt ⟨s,ha,lF,by simpa using hs⟩) hf
end
end
section
variable [Gl]
def oW (M:Mm) (a:bh) (M':Mm):Prop:=(a=bh.zero/\M'=M)\/(dl M a.cell a.cg=qg/\a.eY=(eQ M a.cell).getD a.cg.toNat 0/\M'=setRow M a.cell a.cg a.put)
theorem U4 (l:List Int) (i:Nat):l.set i (l.getD i 0)=l:=by
 by_cases h:i<l.length;rw [Za,List.getElem?_eq_getElem h];exact List.set_getElem_self h;rw [List.set_eq_of_length_le Ya]
theorem xY {M:Mm} {cell cg:Int} (h:dl M cell cg=qg):setRow M cell cg ((eQ M cell).getD cg.toNat 0)=M:=by
 obtain⟨h1,h2,h3⟩:=nP h;funext k;unfold setRow eQ;rw [ay h1];split;rename_i e;subst e;exact U4 _ _;rfl
theorem oW.op (M:Mm) (fx cell cg:Int) (g:Int->Int×Bool):oW M (eR M fx cell cg g) (kL M cell cg g):=by
 by_cases h:dl M cell cg=qg;right;unfold eR;rw [ay h];refine⟨h,rfl,?_⟩;unfold kL;dsimp only;by_cases hg:(g ((eQ M cell).getD cg.toNat 0)).2=qg;rw [ay ⟨h,hg⟩,ay hg];rw [aw (λe=>hg e.2),aw hg,xY h];left;unfold eR kL;rw [aw h,aw (λe=>h e.1)];exact⟨rfl,rfl⟩
theorem oW.load (M:Mm) (cell cg:Int):oW M (iL M cell cg) M:=by
 have h:=oW.op M 1 cell cg lG;have e:kL M cell cg lG=M:=by
  unfold kL;split;rename_i h;exact xY h.1;rfl
 rw [e] at h;exact h
theorem oW.zero (M:Mm):oW M bh.zero M:=qq ⟨rfl,rfl⟩
theorem WU (e:gT) (M:Mm):oW M (gw e M).1 (gw e M).2.2:=by
 unfold gw;split;exact .op ..;split;exact .load ..;split;exact .op ..;exact .zero M
theorem turn_ao (e:jh) (M:Mm):oW M (fX e M).1 (fX e M).2.2:=by
 unfold fX;split;exact .zero M;split;exact .op ..;exact .load ..
theorem pop_ao (e:rM) (M:Mm):oW M (gH e M).1 (gH e M).2.2:=by
 unfold gH;split;exact .load ..;split;exact .load ..;split;exact .op ..;exact .zero M
theorem Rh (e:gs) (M:Mm):oW M (dR e M).1 (dR e M).2.2:=by
 unfold dR;split;exact .load ..;split;exact .op ..;split;exact .op ..;exact .zero M
theorem KP (e:jj) (M:Mm):oW M (dW e M).1 (dW e M).2.2:=by
 unfold dW;split;exact .load ..;split;exact .load ..;split;exact .load ..;exact .zero M
theorem W4 (e:iU) (M:Mm):oW M (eD e M).1 (eD e M).2.2:=by
 unfold eD;split;exact .zero M;exact .load ..
theorem lock_ao (e:iI) (M:Mm):oW M (dI e M).1 (dI e M).2.2:=by
 unfold dI;split;exact .zero M;split;exact .load ..;exact .op ..
theorem wr_ao (e:jO) (M:Mm):oW M (kr e M).1 (kr e M).2.2:=by
 unfold kr;split;exact .zero M;exact .op ..
theorem rel_ao (e:jO) (M:Mm):oW M (fF e M).1 (fF e M).2.2:=by
 unfold fF;split;exact .zero M;exact .op ..
theorem att_ao (s:aI) (M:Mm):oW M (ba s M).1 (ba s M).2.2.2:=by
 unfold ba;cases s.aH with
 | bL=>exact .zero M
 | je k=>exact .zero M
 | dA=>
   dsimp only;cases s.bT with
   | none=>exact .zero M
   | some e=>
     dsimp only;unfold gK;dsimp only;split<;>exact WU e M
 | bj c u=>
   dsimp only;unfold dq;dsimp only;split;exact KP c M;split;exact KP c M;split<;>exact KP c M
 | eP p=>exact pop_ao p M
 | eg=>
   dsimp only;cases s.aP with
   | none=>exact .zero M
   | some l=>exact lock_ao l M
 | cY=>
   dsimp only;cases s.aN with
   | none=>exact .zero M
   | some t=>exact turn_ao t M
 | cG ck=>exact W4 ck M
 | bM=>exact .load M 3 0
 | dt w=>exact wr_ao w M
 | bE w=>exact rel_ao w M
 | eA=>exact .op ..
 | eb=>exact .op ..
 | eC p=>exact Rh p M
 | gq=>exact .op ..
def Md (s:aI):Prop:=nR s=qg->∃t,s.aN=qc t/\t.jZ=qg/\0<=t.dQ
theorem Md.off {s:aI} (h:nR s=qk):Md s:=λe=>by rw [h] at e;cases e
theorem Md.restore {s:aI} {t:jh} (h:s.aN=qc t) (h1:t.jZ=qg) (h2:0<=t.dQ):Md (fO s):=λ_=>⟨t,by rw [<-h];unfold fO;split<;>rfl,h1,h2⟩
theorem UO {c:aY} {k:Nat} {s:aI} {M:Mm} (h:nZ c k s) (hQ:Md s):Md (ba s M).2.2.1:=by
 have hd:=h.d;have mS:nR s=qg->∀s':aI,s'.aN=s.aN->Md s':=λe s' e' _=>by
  obtain⟨t,h1,h2⟩:=hQ e;exact⟨t,e'.trans h1,h2⟩
 have fE:nR s=qg->∀s':aI,s'.aN=s.aN->Md (fO s'):=λe s' e'=>by
  obtain⟨t,h1,h2,h3⟩:=hQ e;exact .restore (e'.trans h1) h2 h3
 have on:∀e:(match s.aH with | .cG _ | .bM | .dt _ | .bE _ | .eA | .eb=>True|_=>False),nR s=qg:=by
  intro e;unfold nR;revert e;cases s.aH<;>first|(intro _;rfl)|(intro e;exact e.elim)
 have qu:∀s':aI,tP s'->Md s':=λs' e=>.off e.quiet.d;unfold ba;cases e:s.aH with
 | bL=>exact .off YA
 | je l=>
   rw [e] at hd;exact qu _ (Nz (s:={ s with aH:=.bL }) ⟨hd.1.to rfl rfl rfl rfl rfl,rfl⟩ l)
 | dA=>
   dsimp only;cases s.bT with
   | none=>exact .off YA
   | some en=>exact qu _ (yK en e).1
 | bj r u=>
   rw [e] at hd;exact qu _ (BT r u hd.1).1
 | eP p=>
   rw [e] at hd;exact qu _ (Gc p hd.1).1
 | eg=>
   dsimp only;cases s.aP with
   | none=>exact .off YA
   | some l=>
     dsimp only;unfold iy;dsimp only;split;exact .off rfl;exact .off Xi
 | cY=>
   rw [e] at hd;obtain⟨h0,hl,t,h1,h2,h3⟩:=hd;dsimp only;rw [h1];dsimp only;unfold ij fX;rw [aw (by rw [h2];decide)];by_cases ht:t.jZ=qk;rw [ay ht];dsimp only;rw [aw (by rw [h2];decide)];exact .off Xi;rw [aw ht];dsimp only;split;exact λ_=>⟨_,rfl,by simpa using ht,h3.1⟩;exact .off Xi
 | cG ck=>
   have h1:=on Yn;show Md (gr s M ck).2.2.1;unfold gr;dsimp only;split;exact fE h1 _ rfl;split<;>exact mS h1 _ rfl
 | bM=>
   have h1:=on Yn;show Md (fm s M).2.2.1;unfold fm;dsimp only;split;exact fE h1 _ rfl;split;exact mS h1 _ rfl;exact fE h1 _ rfl
 | dt w=>
   have h1:=on Yn;show Md (go s M w).2.2.1;unfold go;dsimp only;split<;>exact mS h1 _ rfl
 | bE w=>exact mS (on Yn) _ rfl
 | eA=>exact mS (on Yn) _ rfl
 | eb=>exact qu _ (ut s)
 | eC p=>exact qu _ (BX p).1
 | gq=>exact .off rfl
structure TuR (s:aI) (M:Mm) (r:ru):Prop where
 p13:r.2.1=13->mN s=none/\r.1.eY=xu M
 n13:r.2.1≠13->xu r.2.2.2=xu M
 dn:(r.2.1=15\/r.2.1=16\/r.2.1=17\/r.2.1=19\/r.2.1=20)->nR s=true
 sv:xO r.2.2.2=if r.2.1=20 then xO M+1 else xO M
 oX:(∀o,iX M o / 64<=kI M+1)->∀o,iX M o / 64<=iX r.2.2.2 o / 64/\iX r.2.2.2 o / 64<=kI M+1
section
variable {c:aY} {nt k:Nat} {s:aI} {M:Mm}
theorem BM {M':Mm} (h:M' 1=M 1):(∀o,iX M o / 64<=kI M+1)->∀o,iX M o / 64<=iX M' o / 64/\iX M' o / 64<=kI M+1:=λhv o=>by
 have:iX M' o=iX M o:=by unfold iX;rw [h]
 rw [this];exact⟨Zw _,hv o⟩
theorem TuR.Bg {r:ru} (h:y8 M r.2.2.2) (hp:r.2.1<=11\/21<=r.2.1):TuR s M r:=by
 obtain⟨h0,h1,h2,h3,h4⟩:=h;refine⟨λe=>by omega,λ_=>?_,λe=>by omega,?_,BM h1⟩;unfold xu;rw [h3];rw [aw Ya];unfold xO;rw [h4]
theorem TuR.fE {r:ru} (h1:r.2.2.2 1=M 1) (h3:r.2.2.2 3=M 3) (h4:r.2.2.2 4=M 4) (hp:r.2.1≠13/\r.2.1≠20) (hd:nR s=qg\/r.2.1<=14\/r.2.1=18):TuR s M r:=by
 refine⟨λe=>absurd e hp.1,λ_=>?_,λe=>?_,?_,BM h1⟩;unfold xu;rw [h3];rcases hd with hd|hd|hd;exact hd;omega;omega;rw [aw hp.2];unfold xO;rw [h4]
theorem pop_ph (a:bh):kg a<=11:=by unfold kg;(repeat' split)<;>decide
theorem KR (a:bh):21<=gn a:=by unfold gn;(repeat' split)<;>decide
theorem orW_rel {x v:Int} (hc:dl M 2 x=qg) (o:Int):iX (kL M 2 x (ej v)) o=if x.toNat=o.toNat then v else iX M o:=by
 obtain⟨_,h1,h2⟩:=nP hc;have f1:kL M 2 x (ej v) 1=(M 1).set x.toNat v:=wF hc rfl;unfold iX;rw [f1,oK];by_cases h:x.toNat=o.toNat;have h2':x.toNat<(M 1).length:=by
  have:x<((M 1).length:Int):=h2;omega
 rw [ay ⟨h,h2'⟩,ay h];rw [aw (λe=>h e.1),aw h]
theorem Jn (hc:da c) (hk:k<2^40) (h:nZ c k s) (hM:lK c nt k M) (hT:sx c s M) (hQ:Md s):TuR s M (ba s M):=by
 have hb:=h.b;have hd:=h.d;unfold ba;cases e:s.aH with
 | bL=>exact .Bg (.refl M) (qq (by show (0:Int)<=11;decide))
 | je l=>exact .Bg (.refl M) (qq (by show (0:Int)<=11;decide))
 | dA=>
   rw [e] at hd;obtain⟨h0,en,h1,_⟩:=hd;dsimp only;rw [h1];dsimp only;refine .Bg (yK en e).2.2 (qq ?_);unfold gK;dsimp only;split;show (4:Int)<=11;decide;dsimp only;split<;>decide
 | bj r u=>
   rw [e] at hd;refine .Bg (BT r u hd.1).2.2 (qq ?_);have:=hd.2.1;show (dq s M r u).2.1<=11;unfold dq;dsimp only;split;dsimp only;omega;split;dsimp only;omega;split<;>(dsimp only;omega)
 | eP p=>
   rw [e] at hd;exact .Bg (Gc p hd.1).2.2 (qq (pop_ph _))
 | eg=>
   rw [e] at hd;obtain⟨h0,Mu,l,h1,h2,h3,h4,h5⟩:=hd;have NI:=hb.Mn;dsimp only;rw [h1];dsimp only;have RL:(iy s M l).2.1=12\/(iy s M l).2.1=11:=by
    unfold iy;dsimp only;split;exact qq rfl;exact qt rfl
   have hm:∀kk,kk≠1->(iy s M l).2.2.2 kk=M kk:=λkk j9=>by
    show (dI l M).2.2 kk=M kk;unfold dI;split;rfl;split;rfl;exact gz Ya
   refine⟨λe9=>by omega,λ_=>by unfold xu;rw [hm 3 Ya],λe9=>by omega,by rw [aw Ya];unfold xO;rw [hm 4 Ya],λhv o=>?_⟩;show _<=iX (dI l M).2.2 o / 64/\iX (dI l M).2.2 o / 64<=_;unfold dI;have Qb:¬l.done=qg:=(by simp only [iI.done,decide_eq_true_eq];omega);rw [aw Qb];split;exact⟨Zw _,hv o⟩;rename_i IT;have GX:l.fZ=qg:=by simpa using IT
   have ri:=wU Ya h5 GX (by rw [h3];exact NI);have hz:=h5.load GX;dsimp only;rcases wG M 2 (dC l) (jJ l.dM (gx l)) 1 o.toNat with h6|⟨h6,h7,h8,h9⟩;have:iX (kL M 2 (dC l) (jJ l.dM (gx l))) o=iX M o:=h6;rw [this];exact⟨Zw _,hv o⟩;by_cases hsw:(jJ l.dM (gx l) ((eQ M 2).getD (dC l).toNat 0)).2=qg;have e9:(M 1).getD (dC l).toNat 0=l.dM:=of_decide_eq_true hsw;have Uv:iX M o=l.dM:=(by unfold iX;rw [h8];exact e9);have e11:iX (kL M 2 (dC l) (jJ l.dM (gx l))) o=l.dM+l.am+1:=by
    unfold iX;rw [h9];exact ri
   have:=hv o;rw [e11];rw [Uv] at this ⊢;rw [h3];omega;have:=KV (M:=M) (cell:=2) (cg:=dC l) (g:=jJ l.dM (gx l)) (by simpa using hsw);rw [this];exact⟨Zw _,hv o⟩
 | cY=>
   rw [e] at hd;obtain⟨h0,hl,t,h1,h2,h3⟩:=hd;dsimp only;rw [h1];dsimp only;unfold ij fX;rw [aw (by rw [h2];decide)];by_cases ht:t.jZ=qk;rw [ay ht];dsimp only;have hcell:dl M 4 0=qg:=jT Ya Ya Xv;have xz:(H5 M 4 0 1).fx=4:=(by unfold H5 eR;rw [ay hcell]);refine⟨λ_=>⟨?_,(sH hcell).1⟩,λe9=>absurd (ay xz) e9,λe9=>?_,?_,BM (gz Yf)⟩;unfold mN;rw [e];dsimp only;rw [h1];dsimp only;rw [ht];rfl;dsimp only at e9;rw [ay xz] at e9;omega;dsimp only;rw [ay xz,aw Yf];unfold xO;rw [show adM M 4 0 1 4=M 4 from gz Yf];rw [aw ht];dsimp only;have xz:(if (iL M 5 0).fx=4 then (13:Int) else 14)=14:=by
    refine aw ?_;rcases Nb M 1 5 0 lG with h|h;show ¬(eR M 1 5 0 lG).fx=4;omega;show ¬(eR M 1 5 0 lG).fx=4;omega
   rw [xz];exact .fE rfl rfl rfl (by show (14:Int)≠13/\(14:Int)≠20;decide) (qt (qq (by show (14:Int)<=14;decide)))
 | cG ck=>
   have hm:(eD ck M).2.2=M:=(by unfold eD;split<;>rfl);refine .fE ?_ ?_ ?_ (by show (15:Int)≠13/\(15:Int)≠20;decide) (qq YA);show (eD ck M).2.2 1=_;rw [hm];show (eD ck M).2.2 3=_;rw [hm];show (eD ck M).2.2 4=_;rw [hm]
 | bM=>exact .fE rfl rfl rfl (by show (16:Int)≠13/\(16:Int)≠20;decide) (qq YA)
 | dt w=>
   have hm:∀kk,kk≠0->(kr w M).2.2 kk=M kk:=λkk j9=>by
    unfold kr;split;rfl;exact gz Ya
   exact .fE (hm 1 Ya) (hm 3 Ya) (hm 4 Ya) (by show (17:Int)≠13/\(17:Int)≠20;decide) (qq YA)
 | bE w=>
   rw [e] at hd;obtain⟨h0,xB,hl,⟨t,ht⟩,q,hq1,hw⟩:=hd;have hm:∀kk,kk≠1->(fF w M).2.2 kk=M kk:=λkk j9=>by
    unfold fF;split;rfl;exact gz Ya
   show TuR s M (nK s M w);refine⟨λe9=>absurd e9 (by show ¬(18:Int)=13;decide),λ_=>(by show xu (fF w M).2.2=_;unfold xu;rw [hm 3 Ya]),λe9=>absurd e9 (by show ¬((18:Int)=15\/(18:Int)=16\/(18:Int)=17\/(18:Int)=19\/(18:Int)=20);decide),(by show xO (fF w M).2.2=if (18:Int)=20 then _ else _;rw [aw Yf];unfold xO;rw [hm 4 Ya]),λhv o=>?_⟩;show _<=iX (fF w M).2.2 o / 64/\iX (fF w M).2.2 o / 64<=_;have tK:0<w.os.length:=(by rw [hw];simp;omega);unfold fF;rw [aw Xf];dsimp only;have hxr:0<=w.os.getD 0 0/\w.os.getD 0 0<c.av:=hb.orr _ (by
    have:=yC tK;rw [hw] at this ⊢;exact List.mem_of_mem_drop this)
   have hl1:=hM.l1;have hcell:dl M 2 (w.os.getD 0 0)=qg:=jT Ya hxr.1 Xy;have EV:iX M (w.os.getD 0 0) % 64=s.am+1/\(lz s=qk->iX M (w.os.getD 0 0)=(Dw s).getD 0 0+s.am+1/\(Dw s).getD 0 0 % 64=0):=by
    have:=hT.lk 0 (by unfold rU;rw [e];exact tK);unfold rU at this;rw [e] at this;exact this
   have e1:Dw s=w.ws:=(by unfold Dw;rw [e]);have e2:lz s=s.ao:=(by unfold lz;rw [e]);rw [e1,e2] at EV;rw [orW_rel hcell];split
   . rename_i hxo;have e3:iX M o=iX M (w.os.getD 0 0):=(by unfold iX;rw [hxo]);have hv0:=hv o;have NI:=hb.Mn;cases Un:s.ao with
     | true=>
       have h1:=sO hb hk ⟨Un,xB Un⟩;have h2:=hT.cm (by rw [e2];exact Un);have h3:=hb.gL;have e5:(vy s).drop q=List.replicate (s.av.length-q) (lH s.oX):=(by unfold vy;rw [ay Un,List.drop_replicate]);have e6:w.ws.getD 0 0=(kI M+1)*64:=by
        rw [hw];show ((vy s).drop q).getD 0 0=_;rw [e5,Za,List.getElem?_replicate_of_lt Ya];show lH s.oX=_;rw [h1,<-h2];unfold lH;rw [ay Ya]
       rw [e6];omega
     | false=>
       have h4:=EV.2 Un;rw [e3] at hv0 ⊢;omega
   exact⟨Zw _,hv o⟩
 | eA=>
   have hm:∀kk,kk≠2->u7 M 3 0 (q8.wrap (s.aC+1)) kk=M kk:=λkk j9=>gz Ya;exact .fE (hm 1 Ya) (hm 3 Ya) (hm 4 Ya) (by show (19:Int)≠13/\(19:Int)≠20;decide) (qq YA)
 | eb=>
   rw [e] at hd;obtain⟨h0,t,ht⟩:=hd;have hm:∀kk,kk≠4->u7 M 5 0 (rR s.gB) kk=M kk:=λkk j9=>gz Ya;have mo:nR s=qg:=YA;show TuR s M (EM M 5 0 (rR s.gB),20,fH s,u7 M 5 0 (rR s.gB));refine⟨λe9=>absurd e9 (by show ¬(20:Int)=13;decide),λ_=>(by show xu (u7 M 5 0 (rR s.gB))=_;unfold xu;rw [hm 3 Ya]),λ_=>mo,?_,BM (hm 1 Ya)⟩;show xO (u7 M 5 0 (rR s.gB))=if (20:Int)=20 then _ else _;rw [ay rfl];have hcell:dl M 5 0=qg:=jT Ya Ya Xw;have f1:u7 M 5 0 (rR s.gB) 4=(M 4).set 0 (rR s.gB):=wF hcell rfl;obtain⟨t',ht',h5,h6⟩:=hQ mo;rw [ht] at ht';injection ht' with ht';subst ht';have xP:=hT.tk t.dQ (by unfold mN;rw [e];dsimp only;rw [ht]);have V1:=xP.2 mo;have htn:=hM.tik;have hsv0:xu M=(M 3).getD 0 0:=rfl;have h7:=xP.1;have hv:rR s.gB=t.dQ+1:=by
    unfold rR aI.gB;rw [ht];show q8.wrap (q8.wrap t.gB+1)=_;unfold jh.gB;rw [ay h5,af (x:=t.dQ) Ya Ya,an (x:=t.dQ) Ya Ya,an Ya Ya]
   rw [<-V1];unfold xO;rw [f1,oK,ay ⟨rfl,by rw [hM.l4];omega⟩,hv]
 | eC p=>exact .Bg (BX p).2.2 (qt (KR _))
 | gq=>exact .Bg (.op M Ya) (qt (by show (21:Int)<=24;decide))
end
end
end Go.Stx
