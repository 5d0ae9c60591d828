/-
 One thread, without the program: its state, its step, and what always holds of it.
-/
import Derived.Test.YtpealkdhmnomhaaGreatDoorG20
set_option linter.unusedVariables false
set_option linter.unusedSimpArgs false
set_option linter.unusedSectionVars false
set_option maxRecDepth 20000
set_option maxHeartbeats 4000000
open Bool renaming and_eq_true->Zd
open Go.IntKind renaming i64->qY,u64->q8
open Int renaming le_refl->Zw
open List renaming getElem?_eq_getElem->q9,length_append->Zc,length_cons->Zy,length_filter_le->kaB,length_map->Zs,length_singleton->kaw,mem_append->ZH,mem_filter->kaF
open Nat renaming le_succ->Zo,zero_le->Zt
open Bool renaming false->qk,true->qg
open Go renaming Value->qd
open Go.IntKind renaming u64->qj
open Go.Value renaming int->qb
open Option renaming none->qh,some->qc
open Or renaming inl->qq,inr->qt
namespace Go.Stx
open Go Go.Proofs
attribute [local irreducible] cM aV aB aL cU dh TW bI
section
variable [Gl]
structure k9 where
 pc:Int
 fx:Int
 val:Int
structure HU where
 cr:Int
 am:Int
 fx:Int
 word:Int
 reads:List Int
 bU:List Int
structure dm where
 am:Int
 fu:Int
 CO:Int
 lU:bh
def dm.zero:dm:=⟨0,0,0,bh.zero⟩
structure ko where
 am:Int
 og:Int
 fZ:Bool
 Cu:Int
 next:Int
def ko.done (f:ko):Bool:=f.fZ && decide (f.og<=f.next)
def ko.skip (f:ko):ko:=if f.next=f.am then { f with next:=f.next+1 } else f
def ko.Dr (f:ko) (mP:Int):Bool:=if mP=0 then qg else if mP=1 then qk else decide (f.Cu<=q8.wrap (mP-2))
def ko.pn (f:ko):Int:=if f.fZ=qg then qY.wrap f.Cu else -1
def gy (f:ko) (M:Mm):bh×ko:=
 if f.done=qg then (bh.zero,f)
 else if f.fZ=qk then (iL M 3 0,({ f with fZ:=qg,Cu:=(iL M 3 0).eY }:ko).skip)
 else (iL M 6 f.next,if f.Dr (iL M 6 f.next).eY=qg then ({ f with next:=f.next+1 }:ko).skip else f)
def oQ (c:aY) (l:List (Int×Int)) (oX:Int) (bs:List Int):List (Int×Int):=
 l++(bs.filter λb=>decide (0<=dN c b)).map λb=>(b,oX)
def lm (l:List (Int×Int)) (pn:Int):List (Int×Int):=l.filter λx=>decide (pn<x.2)
def nv (c:aY) (l:List (Int×Int)) (pn:Int):List gs:=(l.filter λx=>!decide (pn<x.2)).map λx=>⟨dN c x.1,x.1,0,0⟩
def Br:List gs->Mm->bh×List gs×Mm
 | [],M=>(bh.zero,[],M)
 | p::l,M=>((dR p M).1,if (dR p M).2.1.cr=3 then l else (dR p M).2.1::l,(dR p M).2.2)
structure R8 where
 r0:Int
 r1:Int
 r2:Int
 r3:Int
 r4:Int
 r5:Int
 r6:Int
 r7:Int
def R8.bk (r:R8) (i:Int):Int:=if i=0 then r.r0 else if i=1 then r.r1 else if i=2 then r.r2 else if i=3 then r.r3 else if i=4 then r.r4 else if i=5 then r.r5 else if i=6 then r.r6 else r.r7
def R8.set (r:R8) (i v:Int):R8:=
 if i=0 then { r with r0:=v } else if i=1 then { r with r1:=v } else if i=2 then { r with r2:=v } else if i=3 then { r with r3:=v }
 else if i=4 then { r with r4:=v } else if i=5 then { r with r5:=v } else if i=6 then { r with r6:=v } else { r with r7:=v }
def R8.zero:R8:=⟨0,0,0,0,0,0,0,0⟩
def R8.cells (r:R8):List qd:=[qb qj r.r0,qb qj r.r1,qb qj r.r2,qb qj r.r3,qb qj r.r4,qb qj r.r5,qb qj r.r6,qb qj r.r7]
structure aU where
 fR:Option aI
 b9:Int
 mK:R8
 jv:Int
 dM:List k9
 bd:Bool
 gf:Int
 ee:Option ko
 dY:Option (List gs)
 cf:aY
 id:Int
 nt:Int
 aD:List bq
 pc:Int
 dX:R8
 lW:Int
 done:Bool
 ii:List (Int×Int)
 io:List k9
 kj:Int
def pD (c:aY) (id nt:Int) (p:List bq):aU:=⟨qh,0,.zero,0,[],qk,0,qh,qh,c,id,nt,p,0,.zero,0,decide (p.length=0),[],[],0⟩
def aU.to (t:aU) (pc:Int):aU:={ t with pc:=pc,done:=decide (pc=t.aD.length) }
def aU.rT (t:aU):aU:=t.to (t.pc+1)
def aU.rO (t:aU) (fx v:Int):aU:={ t with io:=t.io++[⟨t.pc,fx,v⟩] }
def aU.d8 (t:aU) (r cy:Int):Int:=q8.wrap (t.dX.bk r+q8.wrap cy)
def aU.yp (t:aU) (k:Int):bq:=t.aD.getD k.toNat ⟨0,0,0,0,0⟩
def aU.fW (t:aU):bq:=t.yp t.pc
def aU.gX (t:aU) (a v:Int):aU:={ t with dX:=t.dX.set a v }
variable (ez:Int->Int->Int->Int)
def aU.je (t:aU) (i:bq):aU:=
 (if i.op=1 then t.gX i.a (q8.wrap i.cy) else if i.op=2 then t.gX i.a (t.dX.bk i.b) else if i.op=3 then t.gX i.a (ez i.cy (t.dX.bk i.b) (t.dX.bk i.c))
  else if i.op=17 then t.gX i.a (q8.wrap t.lW) else t).to
 (t.pc+1+if i.op=4\/(i.op=5/\t.dX.bk i.a=0)\/(i.op=6/\t.dX.bk i.a≠0) then i.cy else 0)
def aU.tS (t:aU):aU:={ t with fR:=qc (gv (fh t.cf t.id)).2,dM:=[],kj:=t.kj+1 }
def aU.Iw (t:aU) (i:bq) (s:aI):aI:=
 if i.op=10 then (Jz s (t.d8 i.b i.cy)).2 else if i.op=11 then (H9 s (t.d8 i.a i.cy) (t.dX.bk i.b)).2 else if i.op=14 then (OC s i.cy).2
 else if i.op=15 then (N8 s (t.dX.bk i.a)).2 else if i.op=8 then (E2 s 1).2 else if i.op=9 then (E2 s 2).2 else s
def aU.py (t:aU) (i:bq):Int:=if i.op=12 then t.d8 i.b i.cy else t.d8 i.a i.cy
def aU.DV (t:aU) (i:bq) (v:Int):aU:=if i.op=12 then ((t.gX i.a v).rO 4 v).rT else (t.rO 5 v).rT
def aU.eY (t:aU) (r fx v:Int):aU:={ t.gX r v with dM:=t.dM++[⟨t.pc,fx,v⟩] }
def aU.mq (t:aU) (i:bq) (s:aI):aU:=
 let t1:aU:={ t with fR:=qh,bd:=qk }
 if s.aD=1 then t1.DV i (if i.op=13 then t.dX.bk i.b else s.value) else if s.aD=6 then (t1.rO 7 6).rT else t1
def aU.rp (t:aU) (s:aI):aU:=
 if s.aD=1 then { t with fR:=qh,io:=t.io++t.dM,ii:=if 0<s.aA.length then oQ t.cf t.ii s.oX s.aA else t.ii }
 else { t with fR:=qh,dX:=t.mK }
def aU.lu (t:aU) (aD:Int):aU:=
 ({ t with jv:=0,lW:=aD,io:=t.io++[⟨t.b9,3,q8.wrap aD⟩] }:aU).to (dL t.aD t.b9.toNat+1)
def aU.bX (t:aU) (s:aI):aU:=
 if s.aD=9 then (if t.jv<(t.yp t.b9).cy then (t.rp s).to t.b9 else (t.rp s).lu 5) else (t.rp s).lu s.aD
def aU.uS (t:aU) (i:bq) (s:aI):aU:=
 if s.aF=2 then (if t.bd=qg then t.mq i s else t.bX s)
 else if t.bd=qg then t
 else (if i.op=10 then t.eY i.a 1 s.value else if i.op=14 then t.eY i.a 2 s.value else t).rT
abbrev ThR:=dm×List HU×aU×Mm
def aU.xJ (t:aU) (M:Mm) (s:aI):ThR:=
 let r:=ba s M
 let t1:aU:={ t with fR:=qc r.2.2.1 }
 (⟨0,r.2.1,t.kj,r.1⟩,
  if r.2.1=3 then [⟨0,t.id,3,0,[],[]⟩]
  else if r.2.1=16/\r.2.2.1.ao=qg then [⟨0,t.id,4,0,r.2.2.1.reads,if r.2.2.1.aD=1 then r.2.2.1.bG.bZ.filter (λa=>decide (a<r.2.2.1.cf.bg)) else []⟩] else [],
  if r.2.2.1.kJ=qg then t1 else t1.uS t.fW r.2.2.1,r.2.2.2)
def aU.ask (t:aU) (i:bq) (s:aI):aU:=
 { t with gf:=t.gf+1,fR:=qc (if 1<t.gf+1 then (E2 s 1).2 else if i.op=12 then (Jz s (t.py i)).2 else (H9 s (t.py i) (t.dX.bk i.b)).2) }
def aU.vR (t:aU) (i:bq) (s:aI):aI:=if 1<t.gf+1 then (E2 s 1).2 else if i.op=12 then (Jz s (t.py i)).2 else (H9 s (t.py i) (t.dX.bk i.b)).2
def aU.kM (t:aU):aU:=match t.dY with
 | some []=>(({ t with ee:=qh,dY:=qh }:aU).rO 6 0).rT
 | _=>t
def aU.uy (t:aU) (M:Mm) (f:ko):dm×aU×Mm:=
 match t.dY with
 | none=>
   let r:=gy f M
   (⟨0,if r.1.cell=3 then 25 else 26,0,r.1⟩,
    (if r.2.done=qg then ({ t with ee:=qc r.2,dY:=qc (nv t.cf t.ii r.2.pn),ii:=lm t.ii r.2.pn }:aU) else { t with ee:=qc r.2 }).kM,M)
 | some l=>
   let r:=Br l M
   (⟨0,gn r.1,0,r.1⟩,({ t with dY:=qc r.2.1 }:aU).kM,r.2.2)
def aU.plain (t:aU) (M:Mm) (i:bq):ThR:=
 let d8:=t.py i
 if t.cf.bg<=d8 then (dm.zero,[],((if i.op=12 then t.gX i.a 0 else t).rO 7 7).rT,M)
 else if t.cf.bd=qg then (({ t with bd:=qg,gf:=0 }:aU).tS).xJ M (gv (fh t.cf t.id)).2
 else if i.op=12 then (⟨0,1,0,iL M 1 d8⟩,[⟨0,t.id,1,d8,[],[]⟩],t.DV i (iL M 1 d8).put,M)
 else (⟨0,1,0,EM M 1 d8 (t.dX.bk i.b)⟩,[⟨0,t.id,2,d8,[],[]⟩],t.DV i (EM M 1 d8 (t.dX.bk i.b)).put,u7 M 1 d8 (t.dX.bk i.b))
def aU.me (t:aU) (M:Mm) (i:bq):ThR:=
 if i.op=7 then (({ t with b9:=t.pc,mK:=t.dX,jv:=t.jv+1 }:aU).tS).xJ M (gv (fh t.cf t.id)).2
 else match t.fR with
 | some s=>
   if i.op=10\/i.op=11\/i.op=14\/i.op=15\/i.op=8\/i.op=9 then ({ t with fR:=qc (t.Iw i s) }:aU).xJ M (t.Iw i s)
   else (⟨0,0,t.kj,bh.zero⟩,[],t.je ez i,M)
 | none=>
   if i.op=12\/i.op=13 then t.plain M i
   else if i.op=16 then
    let f:ko:=⟨t.id,t.nt,qk,0,0⟩
    let r:=({ t with ee:=qc f }:aU).uy M f
    (r.1,[],r.2.1,r.2.2)
   else (dm.zero,[],t.je ez i,M)
def aU.m8 (t:aU) (M:Mm):ThR:=
 match t.ee with
 | some f=>let r:=t.uy M f;(r.1,[],r.2.1,r.2.2)
 | none=>match t.fR with
   | some s=>if s.kJ=qg then t.xJ M s else if t.bd=qg then (t.ask t.fW s).xJ M (t.vR t.fW s) else t.me ez M t.fW
   | none=>t.me ez M t.fW
def aU.step (t:aU) (M:Mm):Bool×ThR:=
 if t.done=qg then (qk,dm.zero,[],t,M)
 else
  let r:=t.m8 ez M
  (qg,{ r.1 with am:=t.id },r.2)
end
section
variable [Gl]
theorem AS {p:List bq} {k b:Nat} (h:cD p k=qc b):∀{t:Nat},k<=t->(∀j,k<=j->j<t->eH p j≠8)->cD p t=qc b
 | 0,hk,_=>by
   have:k=0:=Ya
   subst this;exact h
 | t+1,hk,hn=>by
   by_cases e:k=t+1;subst e;exact h;have h1:=AS h (t:=t) Ya λj h1 h2=>hn j h1 Ya;unfold cD;rw [h1];simp only;rw [aw (hn t Ya Ya)]
theorem NG {p:List bq} {k:Nat} (h:k<p.length):eH p k=p[k].op:=mE (q9 h)
theorem UQ {p:List bq} (hp:(c8 p).2=0) {k:Nat} (hk:k<p.length) (ho:p[k].op=4\/p[k].op=5\/p[k].op=6):gm p k (cD p k) p[k].cy=qg/\0<=p[k].cy:=by
 have h1:=(ia hp).2.1 k p[k] (q9 hk);unfold wH at h1;by_cases e:cW p[k]=0;rw [ay e] at h1;split at h1;cases h1;split at h1;cases h1;have hs:eL p[k]=qc p[k].cy:=ay ⟨e,ho⟩;rw [hs] at h1;simp only at h1;refine⟨?_,?_⟩;by_cases hh:gm p k (cD p k) p[k].cy=qg;exact hh;rw [aw hh] at h1;cases h1;unfold cW at e;split at e;cases e;split at e;rename_i h2;have h3:=(Zd _ _▸h2).2;unfold fG at h3;rw [aw Ya,aw Ya,ay ho] at h3;simp only [Zd,decide_eq_true_eq] at h3;exact h3.1;cases e;rw [aw e] at h1;exact absurd h1 e
theorem Tc {p:List bq} (hp:(c8 p).2=0) {k:Nat} (hk:k<p.length) (ho:p[k].op=4\/p[k].op=5\/p[k].op=6) :
 k+1+p[k].cy.toNat<=p.length/\cD p (k+1+p[k].cy.toNat)=cD p k:=by
 obtain⟨ht,_⟩:=UQ hp hk ho;have ho2:=NG hk;unfold gm at ht;by_cases hl:p.length<k+1+p[k].cy.toNat;simp [hl] at ht;have HZ:k+1+p[k].cy.toNat<=p.length:=Ya
 refine⟨HZ,?_⟩;cases hb:cD p k with
 | some b=>
   rw [hb] at ht;simp only [hl,if_false,decide_eq_true_eq] at ht;obtain⟨h1,h2,h3⟩:=ll hb;refine AS hb Ya λj h4 h5=>?_;exact(nC (p:=p) (k:=b+1) Ya).2.2.1 j Ya (by have:=ht;unfold dL at this;omega)
 | none=>
   rw [hb] at ht;simp only [hl,if_false] at ht;cases hs:cD p (k+1+p[k].cy.toNat) with
   | none=>rfl
   | some b=>
     exfalso;obtain⟨h1,h2,h3⟩:=ll hs;have h4:=FW hb Ya hs;have h5:b≠k:=λe=>by subst e;rw [ho2] at h2;omega
     have h6:k+1+p[k].cy.toNat≠p.length:=λe=>by
      rw [e,(ia hp).2.2] at hs;cases hs
     have h7:k+1+p[k].cy.toNat<=dL p b:=by
      rcases Nat.lt_or_ge (dL p b) (k+1+p[k].cy.toNat) with h|h;have h8:=(nC (p:=p) (k:=b+1) Ya);have h9:dL p b<p.length:=Ya;have Qi:b+1<=dL p b:=h8.1;exact absurd (show eH p (dL p b)=8 from h8.2.2.2 h9) (h3 (dL p b) Ya h);exact h
     have h8:iE p k (k+1+p[k].cy.toNat)=qg:=by
      unfold iE;rw [List.any_eq_true];refine⟨b,List.mem_range.2 h1,?_⟩;simp only [Zd,decide_eq_true_eq];exact⟨⟨by omega,h2⟩,by omega⟩
     rw [h8] at ht;cases ht
theorem WV {p:List bq} (hp:(c8 p).2=0) {b:Nat} (hb:eH p b=7) (hs:cD p b=qh):dL p b<p.length/\eH p (dL p b)=8/\cD p (dL p b+1)=qh:=by
 have Qe:b<p.length:=tc Ya;have h1:cD p (b+1)=qc b:=by
  unfold cD;rw [hs];simp [hb]
 obtain⟨h2,h3,h4,h5⟩:=nC (p:=p) (k:=b+1) Ya;have h6:cD p (dL p b)=qc b:=AS h1 h2 h4;have h7:dL p b<p.length:=by
  rcases Nat.lt_or_ge (dL p b) p.length with h|h;exact h;have e:dL p b=p.length:=by unfold dL at h ⊢;omega
  rw [e,(ia hp).2.2] at h6;cases h6
 refine⟨h7,h5 h7,?_⟩;unfold cD;rw [h6];simp only;rw [ay (show eH p (dL p b)=8 from h5 h7)]
theorem Dt {p:List bq} {k:Nat} {b:Option Nat} (h:cD p k=b) (h7:eH p k≠7) (h8:eH p k≠8):cD p (k+1)=b:=by
 unfold cD;rw [h];cases b with
 | none=>simp [h7]
 | some b=>simp [h8]
theorem QD {p:List bq} {k:Nat} (h:cD p k=qh) (h7:eH p k=7):cD p (k+1)=qc k:=by
 unfold cD;rw [h];simp [h7]
theorem vA {p:List bq} (hp:(c8 p).2=0) {k:Nat} (hk:k<p.length) :
 (cD p k=qh->p[k].op≠8/\p[k].op≠9/\p[k].op≠10/\p[k].op≠11/\p[k].op≠14/\p[k].op≠15)/\
 (∀b,cD p k=qc b->p[k].op≠7/\p[k].op≠12/\p[k].op≠13/\p[k].op≠16/\p[k].op≠17)/\cW p[k]=0:=by
 have h1:=(ia hp).2.1 k p[k] (q9 hk);unfold wH at h1;by_cases e:cW p[k]=0;rw [ay e] at h1;split at h1;cases h1;rename_i h2;split at h1;cases h1;rename_i h3
 have h4:bH p[k]=if p[k].op=8\/p[k].op=9\/p[k].op=10\/p[k].op=11\/p[k].op=14\/p[k].op=15 then 1
  else if p[k].op=7\/p[k].op=12\/p[k].op=13\/p[k].op=16\/p[k].op=17 then 2 else 0:=ay e
 rw [h4] at h3;refine⟨λhb=>?_,λb hb=>?_,e⟩;rw [hb] at h3;have:¬(p[k].op=8\/p[k].op=9\/p[k].op=10\/p[k].op=11\/p[k].op=14\/p[k].op=15):=λh=>h3 (qq ⟨by rw [ay h],rfl⟩);omega;rw [hb] at h3;have:¬(p[k].op=7\/p[k].op=12\/p[k].op=13\/p[k].op=16\/p[k].op=17):=λh=>h3 (qt ⟨by rw [aw Ya,ay h],rfl⟩);omega;rw [aw e] at h1;exact absurd h1 e
theorem ox {i:bq} (h:cW i=0):(mZ i.op=qg->0<=i.a/\i.a<8)/\(lj i.op=qg->0<=i.b/\i.b<8)/\(mY i.op=qg->0<=i.c/\i.c<8)/\(0<=i.op/\i.op<18)/\(i.op=3->0<=i.cy/\i.cy<22)/\(i.op=7->1<=i.cy/\i.cy<=8):=by
 unfold cW at h;split at h;cases h;rename_i h0;split at h;rename_i h1;simp only [Zd,ip,fG] at h1;obtain⟨⟨⟨h2,h3⟩,h4⟩,h5⟩:=h1;refine⟨λe=>?_,λe=>?_,λe=>?_,by omega,λe=>?_,λe=>?_⟩;rw [ay e] at h2;simpa using h2;rw [ay e] at h3;simpa using h3;rw [ay e] at h4;simpa using h4;rw [aw Ya,ay e] at h5;simpa using h5;rw [aw Ya,aw Ya,aw Ya,ay e] at h5;simpa using h5;cases h
def uw:bJ->Prop
 | .je (.bX _)=>True
 | .eg | .cY | .cG _ | .bM | .dt _ | .bE _ | .eA | .eb | .eC _ | .gq=>True
 | _=>False
theorem WW (s:aI) (aD:Int):uw (nE s aD).aH:=by unfold nE;split<;>trivial
theorem En (s:aI):uw (fH s).aH:=by unfold fH;split<;>trivial
theorem ww (s:aI):uw (fO s).aH:=by unfold fO;split<;>trivial
theorem TI {s:aI} (h:uw s.aH) (hs:s.aF=1) (M:Mm):((ba s M).2.2.1.aF=1/\uw (ba s M).2.2.1.aH)\/((ba s M).2.2.1.aF=2/\(ba s M).2.2.1.aH=.bL):=by
 have dw:=AD s M;unfold ba at dw ⊢;cases e:s.aH with
 | je l=>
   rw [e] at h dw;cases l<;>first|exact absurd h id|skip
   refine qq ⟨by rw [dw];exact hs,?_⟩;exact WW _ _
 | eg=>
   rw [e] at h dw;simp only at dw ⊢;cases hl:s.aP with
   | none=>rw [hl] at dw;exact qq ⟨by rw [dw];exact hs,by dsimp only;rw [e];trivial⟩
   | some l=>
     rw [hl] at dw;refine qq ⟨by rw [dw];exact hs,?_⟩;unfold iy;dsimp only;split;trivial;dsimp only;rw [e];trivial
 | cY=>
   rw [e] at h dw;simp only at dw ⊢;cases hl:s.aN with
   | none=>rw [hl] at dw;exact qq ⟨by rw [dw];exact hs,by dsimp only;rw [e];trivial⟩
   | some l=>
     rw [hl] at dw;refine qq ⟨by rw [dw];exact hs,?_⟩;unfold ij;dsimp only;split;dsimp only;split<;>trivial;dsimp only;rw [e];trivial
 | cG c=>
   rw [e] at h dw;refine qq ⟨by rw [dw];exact hs,?_⟩;show uw (gr s M c).2.2.1.aH;unfold gr;dsimp only;split;exact ww _;split<;>trivial
 | bM=>
   rw [e] at h dw;refine qq ⟨by rw [dw];exact hs,?_⟩;show uw (fm s M).2.2.1.aH;unfold fm;dsimp only;split;exact ww _;split;trivial;exact ww _
 | dt w=>
   rw [e] at h dw;refine qq ⟨by rw [dw];exact hs,?_⟩;show uw (go s M w).2.2.1.aH;unfold go;dsimp only;split<;>trivial
 | bE w=>
   rw [e] at h dw;refine qq ⟨by rw [dw];exact hs,?_⟩;show uw (nK s M w).2.2.1.aH;unfold nK;dsimp only;split;split<;>trivial;trivial
 | eA=>rw [e] at dw;exact qq ⟨by rw [dw];exact hs,trivial⟩
 | eb=>rw [e] at dw;exact qq ⟨by rw [dw];exact hs,En _⟩
 | eC p=>
   rw [e] at h dw;refine qq ⟨by rw [dw];exact hs,?_⟩;show uw (iD s M p).2.2.1.aH;unfold iD;dsimp only;split;exact En _;trivial
 | gq=>exact qt ⟨rfl,rfl⟩
 | bL=>rw [e] at h;exact absurd h id
 | dA=>rw [e] at h;exact absurd h id
 | bj _ _=>rw [e] at h;exact absurd h id
 | eP _=>rw [e] at h;exact absurd h id
theorem Bn (s:aI):(fH s).aA=s.aA:=by unfold fH;split<;>rfl
theorem u5 (s:aI) (aD:Int):(kE s aD).aA=s.aA:=Bn _
theorem CH (s:aI) (aD:Int):(nE s aD).aA=s.aA:=by unfold nE;split<;>rfl
theorem yf (s:aI):(fO s).aA=s.aA:=by unfold fO;split<;>rfl
theorem wD (s:aI) (a v:Int):(jS s a v).2.aA=s.aA:=by
 unfold jS;split;rfl;exact u5 s 3
theorem Da:∀(n:Nat) (a:Int) (s:aI),(gt n a s).2.aA=s.aA
 | 0,_,_=>rfl
 | n+1,a,s=>by
   unfold gt;split;rw [Da n];exact wD s a 0;exact wD s a 0
theorem Jb (s:aI) (eZ jz:Int):(fq s eZ jz).aA=s.aA:=by
 unfold fq;split;exact u5 s 4;dsimp only;split;split;show (gt _ _ _).2.aA=_;rw [Da];exact wD { s with ar:=s.ar++[jz] } _ _;rw [Da];exact wD { s with ar:=s.ar++[jz] } _ _;exact wD { s with ar:=s.ar++[jz] } _ _
def FrA (s s':aI) (o:Option Int):Prop:=s'.aA=s.aA\/∃b,o=qc b/\s'.aA=s.aA++[b]
theorem DH (s:aI) (b st:Int):FrA s (jF s b st) (qc b):=by
 unfold jF;split;exact qq (CH s 8);split;exact qq (u5 s 3);split;exact qt ⟨b,rfl,by dsimp only⟩;exact qq (wD s _ 0)
def frB:bJ->Option Int
 | .je (.dy b _)=>qc b
 | .bj _ (.dy b)=>qc b
 | _=>qh
theorem QK (s:aI) (M:Mm):FrA s (ba s M).2.2.1 (frB s.aH):=by
 unfold ba;cases hd:s.aH with
 | gq=>exact qq rfl
 | bL=>exact qq rfl
 | je k=>
   cases k with
   | mI a v=>
     show FrA s (sh { s with aH:=.bL } (.mI a v)) _;unfold sh;dsimp only;split;exact qq (CH _ 7);exact qq (wD { s with aH:=.bL } a v)
   | uY=>exact qq (CH _ 7)
   | QF=>exact qq (CH _ 8)
   | bX aD=>exact qq (CH _ aD)
   | take v=>exact qq rfl
   | Bl=>exact qq (u5 _ 3)
   | dy b v=>exact DH { s with aH:=.bL } b v
 | dA=>
   dsimp only;cases s.bT with
   | none=>exact qq rfl
   | some e=>
     dsimp only [gK];split<;>exact qq rfl
 | bj r u=>
   show FrA s (dq s M r u).2.2.1 _;unfold dq;dsimp only;split;exact qq rfl;split;exact qq (u5 _ 9);split
   . cases u with
     | take=>left;dsimp only [AL];split<;>rfl
     | dy b=>
       dsimp only [AL];split;exact DH _ b _;exact DH _ b _
   left;dsimp only;rw [u5];split<;>rfl
 | eP p=>
   show FrA s (lD s M p).2.2.1 _;unfold lD;dsimp only;split;exact qq (Jb _ _ _);exact qq rfl
 | eg=>
   dsimp only;cases s.aP with
   | none=>exact qq rfl
   | some l=>
     dsimp only [iy];split<;>exact qq rfl
 | cY=>
   dsimp only;cases s.aN with
   | none=>exact qq rfl
   | some t=>
     dsimp only [ij];split<;>exact qq rfl
 | cG ck=>
   show FrA s (gr s M ck).2.2.1 _;unfold gr;dsimp only;split;exact qq (yf _);split<;>exact qq rfl
 | bM=>
   show FrA s (fm s M).2.2.1 _;unfold fm;dsimp only;split;exact qq (yf _);split;exact qq rfl;exact qq (yf _)
 | dt w=>
   show FrA s (go s M w).2.2.1 _;unfold go;dsimp only;split<;>exact qq rfl
 | bE w=>exact qq rfl
 | eA=>exact qq rfl
 | eb=>exact qq (Bn s)
 | eC p=>
   show FrA s (iD s M p).2.2.1 _;unfold iD;dsimp only;split;exact qq (Bn _);exact qq rfl
theorem JZ {c:aY} {k:Nat} {s:aI} (h:nZ c k s) (hf:∀x∈s.aA,0<=x/\x<c.nb) (M:Mm):∀x∈(ba s M).2.2.1.aA,0<=x/\x<c.nb:=by
 have hd:=h.d;intro x hx;rcases QK s M with e|⟨b,hb,e⟩;rw [e] at hx;exact hf x hx;rw [e] at hx;rcases ZH.1 hx with hx|hx;exact hf x hx;rw [List.mem_singleton] at hx;subst hx;cases H2:s.aH with
 | je k=>
   rw [H2] at hd hb;cases k with
   | dy b v=>
     injection hb with hb;subst hb;exact hd.2
   | _=>cases hb
 | bj r u=>
   rw [H2] at hd hb;cases u with
   | dy b=>
     injection hb with hb;subst hb;exact hd.2.2.2.2.1
   | take=>cases hb
 | _=>rw [H2] at hb;cases hb
variable {c:aY} {nt k:Nat} {M:Mm}
structure HT (c:aY) (p:gs):Prop where
 eZ:p.eZ=dN c p.block
 cl0:0<=p.eZ
 head:kY c p.eZ p.head
 cr:0<=p.cr/\p.cr<=2
structure pi (c:aY) (nt k:Nat) (t:aU):Prop where
 cf:t.cf=c
 nn:t.nt=nt
 yq:0<=t.id/\t.id<nt/\nt<=16
 tt:(c8 t.aD).2=0
 pc:0<=t.pc/\t.pc<=t.aD.length
 dn:t.done=decide (t.pc=t.aD.length)
 io:t.io.length<=2*k
 sn:t.dM.length<=k
 zS:t.ii.length<=8*k
 Ct:∀x∈t.ii,0<=dN c x.1
 xT:0<=t.kj/\t.kj<=k
 BE:0<=t.jv/\t.jv<=k
 oN:0<=t.gf/\t.gf<=k
structure Adv (c:aY) (k:Nat) (t:aU) (s:aI):Prop where
 ok:nZ c k s
 st:s.aF=1
 E1:∀x∈s.aA,0<=x/\x<c.nb
 Q9:t.bd=true->(t.fW.op=12\/t.fW.op=13)/\cD t.aD t.pc.toNat=none
 FA:t.bd=false->eH t.aD t.b9.toNat=7/\cD t.aD t.b9.toNat=none/\0<=t.b9/\
  ((t.pc=t.b9/\t.fW.op=7)\/(cD t.aD t.pc.toNat=some t.b9.toNat/\(t.fW.op=10\/t.fW.op=11\/t.fW.op=14\/t.fW.op=15))\/uw s.aH)
structure Rest (c:aY) (k:Nat) (t:aU) (s:aI):Prop where
 ok:nZ c k s
 st:s.aF=1
 E1:∀x∈s.aA,0<=x/\x<c.nb
 Q9:t.bd=false
 FA:eH t.aD t.b9.toNat=7/\cD t.aD t.b9.toNat=none/\0<=t.b9/\cD t.aD t.pc.toNat=some t.b9.toNat
structure mw (c:aY) (nt k:Nat) (t:aU):Prop where
 co:pi c nt k t
 oF:t.fR=none->t.bd=false/\cD t.aD t.pc.toNat=none
 Aj:∀s,t.fR=some s->(if s.kJ=true\/t.bd=true then Adv c k t s else Rest c k t s)/\t.done=false/\t.ee=none/\t.io.length+t.dM.length<=2*k
 fen:∀f,t.ee=some f->t.fR=none/\t.done=false/\t.fW.op=16/\f.am=t.id/\f.og=nt/\(0<=f.next/\f.next<=nt)/\(t.dY=none->f.done=false)
 RB:t.ee=none->t.dY=none
 dr:∀l,t.dY=some l->l≠[]/\l.length<=8*k/\∀p∈l,HT c p
section
variable {t:aU} {s:aI}
theorem pi.mono {k':Nat} (h:pi c nt k t) (hk:k<=k'):pi c nt k' t:=
 ⟨h.cf,h.nn,h.yq,h.tt,h.pc,h.dn,by have:=h.io;omega,by have:=h.sn;omega,by have:=h.zS;omega,h.Ct,by have:=h.xT;omega,by have:=h.BE;omega,by have:=h.oN;omega⟩
theorem pi.lt (h:pi c nt k t) (hd:t.done=qk):t.pc<t.aD.length:=by
 have:=h.dn;rw [hd] at this;have h1:¬t.pc=t.aD.length:=by simpa using this.symm
 have:=h.pc;omega
theorem pi.fW (h:pi c nt k t) (hd:t.done=qk):∃hk:t.pc.toNat<t.aD.length,t.fW=t.aD[t.pc.toNat]:=by
 have h1:=h.lt hd;have h2:=h.pc;have hk:t.pc.toNat<t.aD.length:=Ya
 refine⟨hk,?_⟩;unfold aU.fW aU.yp;rw [List.getD_eq_getElem?_getD,q9 hk];rfl
theorem pi.to (h:pi c nt k t) {pc:Int} (hp:0<=pc/\pc<=t.aD.length):pi c nt k (t.to pc):=⟨h.cf,h.nn,h.yq,h.tt,hp,rfl,h.io,h.sn,h.zS,h.Ct,h.xT,h.BE,h.oN⟩
theorem pi.gX (h:pi c nt k t) (a v:Int):pi c nt k (t.gX a v):=⟨h.cf,h.nn,h.yq,h.tt,h.pc,h.dn,h.io,h.sn,h.zS,h.Ct,h.xT,h.BE,h.oN⟩
theorem pi.rO (h:pi c nt k t) (kd v:Int):pi c nt (k+1) (t.rO kd v):=
 ⟨h.cf,h.nn,h.yq,h.tt,h.pc,h.dn,by have:=h.io;simp only [aU.rO,Zc,Zy,List.length_nil];omega,(h.mono (Zo k)).sn,(h.mono (Zo k)).zS,h.Ct,(h.mono (Zo k)).xT,(h.mono (Zo k)).BE,(h.mono (Zo k)).oN⟩
theorem Ds (h:pi c nt k t) (ha:t.fR=qh) (hs:t.bd=qk) (hf:t.ee=qh) (hd:t.dY=qh) (jn:cD t.aD t.pc.toNat=qh):mw c nt k t:=
 ⟨h,λ_=>⟨hs,jn⟩,λs e=>Xg,λf e=>Y5,λ_=>hd,λl e=>(by rw [hd] at e;cases e)⟩
theorem AN {x:Int} (h:0<=x):(x+1).toNat=x.toNat+1:=Ya
theorem RA (h:pi c nt k t) (bY:t.pc<t.aD.length) (ha:t.fR=qh) (hs:t.bd=qk) (hf:t.ee=qh) (hd:t.dY=qh) (jn:cD t.aD t.pc.toNat=qh) (h7:eH t.aD t.pc.toNat≠7) (h8:eH t.aD t.pc.toNat≠8):mw c nt k t.rT:=by
 have lp:=h.pc;refine Ds (h.to Ya) ha hs hf hd ?_;show cD t.aD (t.pc+1).toNat=qh;rw [AN lp.1];exact Dt jn h7 h8
theorem MR {f:ko} {nt:Nat} {id:Int} (h1:f.am=id) (h2:id<nt) (h3:0<=f.next/\f.next<=nt):f.skip.am=id/\f.skip.og=f.og/\(0<=f.skip.next/\f.skip.next<=nt):=by
 unfold ko.skip;split;rename_i e;exact⟨h1,rfl,by dsimp only;omega⟩;exact⟨h1,rfl,h3⟩
theorem Oe {f:ko} {id:Int} (h1:f.am=id) (h2:id<nt) (h3:0<=f.next/\f.next<=nt) (h4:f.og=nt) (hd:f.done=qk) (M:Mm):(gy f M).2.am=id/\(gy f M).2.og=nt/\(0<=(gy f M).2.next/\(gy f M).2.next<=nt):=by
 unfold gy;rw [aw (by rw [hd];decide)];split;obtain⟨a,b,d⟩:=MR (f:={ f with fZ:=qg,Cu:=(iL M 3 0).eY }) (nt:=nt) h1 h2 h3;exact⟨a,b.trans h4,d⟩;rename_i hl;have HZ:f.fZ=qg:=by simpa using hl
 have hn:f.next<nt:=by
  unfold ko.done at hd;rw [HZ] at hd;simp only [Bool.true_and,decide_eq_false_iff_not] at hd;omega
 split;obtain⟨a,b,d⟩:=MR (f:={ f with next:=f.next+1 }) (nt:=nt) h1 h2 Yz;exact⟨a,b.trans h4,d⟩;exact⟨h1,h4,h3⟩
theorem Hr {c:aY} (hc:da c) {b:Int} (h:0<=dN c b):0<=b/\b<c.nb:=by
 have q0:=hc.k0;have q1:=hc.k1;have q2:=hc.k2;have q3:=hc.k3;unfold dN Bf at h;unfold aY.nb
 repeat' split at h
 all_goals(simp only at h;omega)
theorem Pj (hc:da c) (hM:lK c nt k M) {p:gs} (h:HT c p):lK c nt (k+1) (dR p M).2.2/\((dR p M).2.1.cr≠3->HT c (dR p M).2.1):=by
 have nV:=h.cr;have hb:0<=p.block/\p.block<c.nb:=by
  have h1:=h.cl0;rw [h.eZ] at h1;exact Hr hc h1
 have zF:=Cs hc p.block hb;rw [<-h.eZ] at zF;have hh:=h.head;rcases yj p M nV with ⟨h0,e0⟩|⟨h0,w,hw,e0⟩|⟨h0,w,hw,e0⟩;rw [e0];have hg:=G7 hc hM 1 zF.1.1 lG;exact⟨hM.mono Ya,λ_=>⟨h.eZ,h.cl0,hg,by dsimp only;omega⟩⟩;rw [e0];refine⟨hM.op Ya _ _ _ λ_=>⟨λe=>by omega,λ_=>?_,λe=>by omega,λe=>by omega⟩,λ_=>⟨h.eZ,h.cl0,hh,by dsimp only;omega⟩⟩;have htop:=MH hh.1;have h64:=hc.nb;have ht2:=hh.2.1;have iZ:q8.wrap (qY.wrap (ka p.head+1))=ka p.head+1:=by
  rw [af Ya Ya,an Ya Ya]
 show pG c (dN c p.block) w;rw [hw,iZ,<-h.eZ];refine⟨by omega,by omega,λe=>?_⟩;rw [show ka p.head+1-1=ka p.head by omega];exact hh.2.2 Ya;rw [e0];refine⟨hM.op Ya _ _ _ λ_=>⟨λ_=>?_,λe=>by omega,λe=>by omega,λe=>by omega⟩,λhn=>⟨h.eZ,h.cl0,hh,?_⟩⟩;show kY c p.eZ w;rw [hw];exact Hy hc hb.2 λ_=>h.eZ.symm;dsimp only at hn ⊢;split;rename_i mo;rw [ay mo] at hn;exact absurd rfl hn;omega
theorem sJ (h:pi c nt k t) (hd:t.done=qk):eH t.aD t.pc.toNat=t.fW.op:=by
 obtain⟨hk,e⟩:=h.fW hd;rw [NG hk,e]
theorem Hm {f:ko} {l:List gs} (h:pi c nt k t) (ha:t.fR=qh) (hs:t.bd=qk) (hd:t.done=qk) (G6:t.fW.op=16) (jn:cD t.aD t.pc.toNat=qh) (hf:t.ee=qc f)
 (h1:f.am=t.id) (h2:f.og=nt) (h3:0<=f.next/\f.next<=nt) (hl:t.dY=qc l) (bW:l.length<=8*(k+1)) (hp:∀p∈l,HT c p):mw c nt (k+1) t.kM:=by
 unfold aU.kM;rw [hl];have ho:=sJ h hd;cases l with
 | nil=>
   have hC:pi c nt (k+1) (({ t with ee:=qh,dY:=qh }:aU).rO 6 0):=pi.rO (t:={ t with ee:=qh,dY:=qh }) ⟨h.cf,h.nn,h.yq,h.tt,h.pc,h.dn,h.io,h.sn,h.zS,h.Ct,h.xT,h.BE,h.oN⟩ 6 0;exact RA hC (h.lt hd) ha hs rfl rfl jn (by show eH t.aD t.pc.toNat≠7;omega) (by show eH t.aD t.pc.toNat≠8;omega)
 | cons q l=>
   have e:¬(q::l=[]):=λe=>by cases e
   exact⟨h.mono Ya,λ_=>⟨hs,jn⟩,λs e=>Xg,λf' e=>(by rw [hf] at e;injection e with e;subst e;exact⟨ha,hd,G6,h1,h2,h3,λe=>(by rw [hl] at e;cases e)⟩),
    λe=>Y5,λl' e'=>(by rw [hl] at e';injection e' with e';subst e';exact⟨e,bW,hp⟩)⟩
theorem Q7 (hc:da c) (hM:lK c nt k M) {f:ko} (h:pi c nt k t) (ha:t.fR=qh) (hs:t.bd=qk) (hd:t.done=qk) (G6:t.fW.op=16) (jn:cD t.aD t.pc.toNat=qh) (hf:t.ee=qc f)
 (h1:f.am=t.id) (h2:f.og=nt) (h3:0<=f.next/\f.next<=nt) (hn:t.dY=qh->f.done=qk) (hdl:∀l,t.dY=qc l->l≠[]/\l.length<=8*k/\∀p∈l,HT c p) :
 mw c nt (k+1) (t.uy M f).2.1/\lK c nt (k+1) (t.uy M f).2.2:=by
 unfold aU.uy;cases e:t.dY with
 | none=>
   dsimp only;refine⟨?_,hM.mono Ya⟩;obtain⟨a1,a2,a3⟩:=Oe h1 h.yq.2.1 h3 h2 (hn e) M;by_cases mo:(gy f M).2.done=qg;rw [ay mo];refine Hm (k:=k) (f:=(gy f M).2) (l:=nv t.cf t.ii (gy f M).2.pn) ⟨h.cf,h.nn,h.yq,h.tt,h.pc,h.dn,h.io,h.sn,?_,?_,h.xT,h.BE,h.oN⟩ ha hs hd G6 jn rfl a1 a2 a3 rfl ?_ ?_;have:=kaB (λx:Int×Int=>decide ((gy f M).2.pn<x.2)) t.ii;have:=h.zS;show (lm t.ii (gy f M).2.pn).length<=_;unfold lm;omega;intro x hx;exact h.Ct x (kaF.1 hx).1;have:=kaB (λx:Int×Int=>!decide ((gy f M).2.pn<x.2)) t.ii;have:=h.zS;unfold nv;rw [Zs];omega;intro p hp;obtain⟨x,hx,rfl⟩:=List.mem_map.1 hp;have hx2:=h.Ct x (kaF.1 hx).1;rw [h.cf];exact⟨rfl,hx2,kY.zero hc _,by dsimp only;omega⟩;rw [aw mo];unfold aU.kM;dsimp only
   exact⟨pi.mono (k:=k) ⟨h.cf,h.nn,h.yq,h.tt,h.pc,h.dn,h.io,h.sn,h.zS,h.Ct,h.xT,h.BE,h.oN⟩ Ya,λ_=>⟨hs,jn⟩,λs e=>Xg,
    λf' e'=>(by injection e' with e';subst e';exact⟨ha,hd,G6,a1,a2,a3,λ_=>by simpa using mo⟩),λe'=>(by cases e'),λl' e'=>(by cases e')⟩
 | some l=>
   dsimp only;obtain⟨g1,g2,g3⟩:=hdl l e;cases l with
   | nil=>exact absurd rfl g1
   | cons p l=>
     obtain⟨b1,b2⟩:=Pj hc hM (g3 p (List.mem_cons_self ..));refine⟨?_,b1⟩;refine Hm (k:=k) (f:=f) (l:=(Br (p::l) M).2.1) ⟨h.cf,h.nn,h.yq,h.tt,h.pc,h.dn,h.io,h.sn,h.zS,h.Ct,h.xT,h.BE,h.oN⟩ ha hs hd G6 jn hf h1 h2 h3 rfl ?_ ?_;show (if (dR p M).2.1.cr=3 then l else (dR p M).2.1::l).length<=_;rw [Zy] at g2;split;omega;rw [Zy];omega;intro q hq;have wW:q∈(if (dR p M).2.1.cr=3 then l else (dR p M).2.1::l):=hq;split at wW;exact g3 q (List.mem_cons_of_mem _ wW);rename_i h9;rcases List.mem_cons.1 wW with rfl|wW;exact b2 h9;exact g3 q (List.mem_cons_of_mem _ wW)
theorem Sa (hs:s.aF=1) (M:Mm):(ba s M).2.2.1.aF=1\/((ba s M).2.2.1.aF=2/\(ba s M).2.2.1.aH=.bL):=by
 have h:=AD s M;cases e:s.aH<;>rw [e] at h
 case gq=>right;unfold ba;rw [e];exact⟨rfl,rfl⟩
 all_goals exact qq (h.trans hs)
theorem TJ (h:uw s.aH):s.kJ=qg:=by
 unfold aI.kJ;revert h;cases s.aH<;>first|(intro h;exact absurd h id)|(intro _;rfl)
theorem Tf (h:s.aH=.bL):s.kJ=qk:=by
 unfold aI.kJ;rw [h];rfl
theorem end1_ok (h:pi c nt (k+1) t) (Cx:t.io.length+t.dM.length<=2*k) (Wh:t.ii.length<=8*k) (tE:s.aA.length<=8) :
 pi c nt (k+1) (t.rp s)/\(t.rp s).io.length<=2*k/\(t.rp s).fR=qh/\(t.rp s).aD=t.aD/\(t.rp s).b9=t.b9/\(t.rp s).bd=t.bd/\(t.rp s).ee=t.ee/\(t.rp s).dY=t.dY/\(t.rp s).jv=t.jv:=by
 unfold aU.rp;split;refine⟨⟨h.cf,h.nn,h.yq,h.tt,h.pc,h.dn,by show (t.io++t.dM).length<=_;rw [Zc];omega,h.sn,?_,?_,h.xT,h.BE,h.oN⟩,by show (t.io++t.dM).length<=_;rw [Zc];omega,rfl,rfl,rfl,rfl,rfl,rfl,rfl⟩;dsimp only;split;unfold oQ;have:=kaB (λb=>decide (0<=dN t.cf b)) s.aA;rw [Zc,Zs];omega;exact h.zS;intro x hx;dsimp only at hx;split at hx;unfold oQ at hx;rcases ZH.1 hx with hx|hx;exact h.Ct x hx;obtain⟨b,hb,rfl⟩:=List.mem_map.1 hx;have:=(kaF.1 hb).2;rw [h.cf] at this
 simpa using this
 exact h.Ct x hx;exact⟨⟨h.cf,h.nn,h.yq,h.tt,h.pc,h.dn,h.io,h.sn,h.zS,h.Ct,h.xT,h.BE,h.oN⟩,by dsimp only;omega,rfl,rfl,rfl,rfl,rfl,rfl,rfl⟩
theorem end2_ok (h:pi c nt (k+1) t) (Cx:t.io.length<=2*k) (ha:t.fR=qh) (hs:t.bd=qk) (hf:t.ee=qh) (fz:t.dY=qh) (h7:eH t.aD t.b9.toNat=7) (jn:cD t.aD t.b9.toNat=qh) (aD:Int):mw c nt (k+1) (t.lu aD):=by
 obtain⟨e1,e2,e3⟩:=WV h.tt h7 jn;unfold aU.lu;refine Ds (pi.to (t:={ t with jv:=0,lW:=aD,io:=t.io++[⟨t.b9,3,q8.wrap aD⟩] }) ⟨h.cf,h.nn,h.yq,h.tt,h.pc,h.dn,?_,h.sn,h.zS,h.Ct,h.xT,by dsimp only;omega,h.oN⟩ Yz) ha hs hf fz ?_;dsimp only;rw [Zc,kaw];omega;show cD t.aD (((dL t.aD t.b9.toNat:Nat):Int)+1).toNat=qh;rw [show (((dL t.aD t.b9.toNat:Nat):Int)+1).toNat=dL t.aD t.b9.toNat+1 by omega];exact e3
theorem fin_ok (h:pi c nt (k+1) t) (Cx:t.io.length+t.dM.length<=2*k) (Wh:t.ii.length<=8*k) (tE:s.aA.length<=8) (hs:t.bd=qk) (hf:t.ee=qh) (fz:t.dY=qh)
 (h7:eH t.aD t.b9.toNat=7) (jn:cD t.aD t.b9.toNat=qh) (Ly:0<=t.b9):mw c nt (k+1) (t.bX s):=by
 obtain⟨g1,g2,g3,g4,g5,g6,g7,g8,g9⟩:=end1_ok (s:=s) h Cx Wh tE;have Qe:t.b9.toNat<t.aD.length:=tc Ya;have e2:∀aD,mw c nt (k+1) ((t.rp s).lu aD):=λaD=>end2_ok g1 g2 g3 (g6.trans hs) (g7.trans hf) (g8.trans fz) (by rw [g4,g5];exact h7) (by rw [g4,g5];exact jn) aD;unfold aU.bX;split;split;refine Ds (g1.to (by rw [g4];omega)) g3 (g6.trans hs) (g7.trans hf) (g8.trans fz) ?_;show cD (t.rp s).aD t.b9.toNat=qh;rw [g4];exact jn;exact e2 _;exact e2 _
theorem C0 (h:pi c nt (k+1) t) (Cx:t.io.length<=2*k) (hd:t.done=qk) (ha:t.fR=qh) (hs:t.bd=qk) (hf:t.ee=qh) (fz:t.dY=qh) (nq:t.fW.op=12\/t.fW.op=13) (jn:cD t.aD t.pc.toNat=qh) (kd v:Int):mw c nt (k+1) (t.rO kd v).rT:=by
 have ho:=sJ h hd;have hC:pi c nt (k+1) (t.rO kd v):=⟨h.cf,h.nn,h.yq,h.tt,h.pc,h.dn,by simp only [aU.rO,Zc,kaw];omega,h.sn,h.zS,h.Ct,h.xT,h.BE,h.oN⟩;exact RA hC (h.lt hd) ha hs hf fz jn (by show eH t.aD t.pc.toNat≠7;omega) (by show eH t.aD t.pc.toNat≠8;omega)
theorem HM (h:pi c nt (k+1) t) (Cx:t.io.length<=2*k) (hd:t.done=qk) (ha:t.fR=qh) (hs:t.bd=qk) (hf:t.ee=qh) (fz:t.dY=qh) (nq:t.fW.op=12\/t.fW.op=13) (jn:cD t.aD t.pc.toNat=qh) (i:bq) (v:Int):mw c nt (k+1) (t.DV i v):=by
 unfold aU.DV;split;exact C0 (h.gX _ _) Cx hd ha hs hf fz nq jn _ _;exact C0 h Cx hd ha hs hf fz nq jn _ _
theorem TL (h:pi c nt (k+1) t) (Cx:t.io.length<=2*k) (hd:t.done=qk) (hf:t.ee=qh) (fz:t.dY=qh) (nq:t.fW.op=12\/t.fW.op=13) (jn:cD t.aD t.pc.toNat=qh) (i:bq):mw c nt (k+1) (t.mq i s):=by
 have h1:pi c nt (k+1) ({ t with fR:=qh,bd:=qk }:aU):=⟨h.cf,h.nn,h.yq,h.tt,h.pc,h.dn,h.io,h.sn,h.zS,h.Ct,h.xT,h.BE,h.oN⟩;unfold aU.mq;dsimp only;split;exact HM h1 Cx hd rfl rfl hf fz nq jn _ _;split;exact C0 h1 Cx hd rfl rfl hf fz nq jn _ _;exact Ds h1 rfl rfl hf fz jn
theorem L2 (hc:da c) (hk:k<2^40) (hM:lK c nt k M) (h:pi c nt (k+1) t) (Cx:t.io.length+t.dM.length<=2*k) (hsn:t.dM.length<=k) (Wh:t.ii.length<=8*k) (hd:t.done=qk) (hf:t.ee=qh) (fz:t.dY=qh) (hA:Adv c k t s) :
 mw c nt (k+1) (t.xJ M s).2.2.1/\lK c nt (k+1) (t.xJ M s).2.2.2:=by
 obtain⟨hK1,Uq⟩:=zg hc hk hA.ok hM;have dw:=Sa hA.st M;have IU:=JZ hA.ok hA.E1 M;have sl:=λh=>TI (s:=s) h hA.st M;unfold aU.xJ;dsimp only;generalize ba s M=r at hK1 Uq dw sl IU ⊢;obtain⟨a,ph,s',M'⟩:=r;dsimp only at hK1 Uq dw sl IU ⊢;refine⟨?_,Uq⟩;have h1:pi c nt (k+1) ({ t with fR:=qc s' }:aU):=⟨h.cf,h.nn,h.yq,h.tt,h.pc,h.dn,h.io,h.sn,h.zS,h.Ct,h.xT,h.BE,h.oN⟩;have tE:s'.aA.length<=8:=by
  have e1:=hK1.b.E1;have e2:=hc.aA;omega
 have ho:=sJ h hd;have bY:=h.lt hd;have lp:=h.pc;by_cases hb:s'.kJ=qg;rw [ay hb];have NK:s'.aF=1:=by
  rcases dw with e|⟨_,e⟩;exact e;rw [Tf e] at hb;cases hb
 refine⟨h1,λe=>Ym,λs2 e=>?_,λf e=>Y5,λ_=>fz,λl e=>(by rw [fz] at e;cases e)⟩;injection e with e;subst e;refine⟨?_,hd,hf,by dsimp only;omega⟩;rw [ay (qq hb)];refine⟨hK1,NK,IU,hA.Q9,λe=>?_⟩;obtain⟨w1,w2,w3,w4⟩:=hA.FA e;refine⟨w1,w2,w3,?_⟩;rcases w4 with w|w|w;exact qq w;exact qt (qq w);rcases sl w with ⟨_,w⟩|⟨w,_⟩;exact qt (qt w);omega;rw [aw hb];have lF:s'.kJ=qk:=by simpa using hb
 unfold aU.uS;rcases dw with e1|⟨e2,_⟩;rw [aw Ya];have gZ:¬uw s.aH:=λw=>by
  rcases sl w with ⟨_,w⟩|⟨w,_⟩;rw [TJ w] at lF;cases lF;omega
 by_cases hs:t.bd=qg;rw [ay hs];refine⟨h1,λe=>Ym,λs2 e=>?_,λf e=>Y5,λ_=>fz,λl e=>(by rw [fz] at e;cases e)⟩;injection e with e;subst e;refine⟨?_,hd,hf,by dsimp only;omega⟩;rw [ay (qt hs)];exact⟨hK1,e1,IU,hA.Q9,λe=>(by rw [hs] at e;cases e)⟩;rw [aw hs];have Ti:t.bd=qk:=by simpa using hs
 obtain⟨w1,w2,w3,w4⟩:=hA.FA Ti;have jn:cD t.aD (t.pc+1).toNat=qc t.b9.toNat:=by
  rw [AN lp.1];rcases w4 with ⟨w,w'⟩|⟨w,w'⟩|w;rw [w];exact QD w2 w1;exact Dt w Ya Ya;exact absurd w gZ
 have pe:t.pc+1<t.aD.length:=by
  rcases Int.lt_or_le (t.pc+1) t.aD.length with e|e;exact e;have e9:(t.pc+1).toNat=t.aD.length:=Ya
  rw [e9,(ia h.tt).2.2] at jn;cases jn
 have bX:∀t2:aU,pi c nt (k+1) t2->t2.fR=qc s'->t2.bd=qk->t2.ee=qh->t2.dY=qh->t2.aD=t.aD->t2.b9=t.b9->t2.pc=t.pc->t2.io.length+t2.dM.length<=2*(k+1)->mw c nt (k+1) t2.rT:=by
  intro t2 g1 g2 g3 g4 g5 g6 g7 g8 g9;have mc:pi c nt (k+1) t2.rT:=g1.to (by rw [g6,g8];omega);refine⟨mc,λe=>?_,λs2 e=>?_,λf e=>?_,λ_=>g5,λl e=>?_⟩;have e':t2.fR=qh:=e;rw [g2] at e';cases e';have e':t2.fR=qc s2:=e;rw [g2] at e';injection e' with e';subst e';refine⟨?_,?_,g4,g9⟩;rw [aw (by rw [lF];show ¬(qk=qg\/t2.bd=qg);rw [g3];simp)];refine⟨hK1,e1,IU,g3,?_⟩;show eH t2.aD t2.b9.toNat=7/\cD t2.aD t2.b9.toNat=qh/\0<=t2.b9/\cD t2.aD (t2.pc+1).toNat=qc t2.b9.toNat;rw [g6,g7,g8];exact⟨w1,w2,w3,jn⟩;show decide (t2.pc+1=t2.aD.length)=qk;rw [g6,g8];exact decide_eq_false Ya;have e':t2.ee=qc f:=e;rw [g4] at e';cases e';have e':t2.dY=qc l:=e;rw [g5] at e';cases e'
 have EW:∀r kd v,pi c nt (k+1) (({ t with fR:=qc s' }:aU).eY r kd v):=λr kd v=>⟨h.cf,h.nn,h.yq,h.tt,h.pc,h.dn,h.io,by simp only [aU.eY,aU.gX,Zc,kaw];omega,h.zS,h.Ct,h.xT,h.BE,h.oN⟩;split;exact bX _ (EW _ _ _) rfl Ti hf fz rfl rfl rfl Xz;split;exact bX _ (EW _ _ _) rfl Ti hf fz rfl rfl rfl Xz;exact bX _ h1 rfl Ti hf fz rfl rfl rfl Yz;rw [ay e2];by_cases hs:t.bd=qg;rw [ay hs];obtain⟨w1,w2⟩:=hA.Q9 hs;exact TL h1 Yz hd hf fz w1 w2 _;rw [aw hs];have Ti:t.bd=qk:=by simpa using hs
 obtain⟨w1,w2,w3,w4⟩:=hA.FA Ti;exact fin_ok h1 Cx Wh tE Ti hf fz w1 w2 w3
variable {ez:Int->Int->Int->Int}
theorem VM (h:pi c nt k t) (hd:t.done=qk) (ES:t.fW.op≠7/\t.fW.op≠8):∃pc,pi c nt k (t.je ez t.fW)/\(t.je ez t.fW).pc=pc/\(0<=pc/\pc<=t.aD.length)/\cD t.aD pc.toNat=cD t.aD t.pc.toNat/\(t.je ez t.fW).done=decide (pc=t.aD.length)/\(t.je ez t.fW).aD=t.aD/\(t.je ez t.fW).fR=t.fR/\(t.je ez t.fW).bd=t.bd/\(t.je ez t.fW).ee=t.ee/\(t.je ez t.fW).dY=t.dY/\(t.je ez t.fW).b9=t.b9/\(t.je ez t.fW).io=t.io/\(t.je ez t.fW).dM=t.dM:=by
 have bY:=h.lt hd;have lp:=h.pc;obtain⟨j9,hi⟩:=h.fW hd;have ho:=sJ h hd;have hnx:cD t.aD (t.pc+1).toNat=cD t.aD t.pc.toNat:=by
  rw [AN lp.1];exact Dt rfl Ya Ya
 have hpc2:∃pc,pc=(t.pc+1+if t.fW.op=4\/(t.fW.op=5/\t.dX.bk t.fW.a=0)\/(t.fW.op=6/\t.dX.bk t.fW.a≠0) then t.fW.cy else 0)/\(0<=pc/\pc<=t.aD.length)/\cD t.aD pc.toNat=cD t.aD t.pc.toNat:=by
  refine⟨_,rfl,?_⟩;split;rename_i hj;have Ms:t.aD[t.pc.toNat].op=4\/t.aD[t.pc.toNat].op=5\/t.aD[t.pc.toNat].op=6:=by
   rw [<-hi];omega
  obtain⟨j1,j2⟩:=Tc h.tt j9 Ms;obtain⟨_,j3⟩:=UQ h.tt j9 Ms;rw [<-hi] at j1 j2 j3;refine⟨by omega,?_⟩;rw [<-j2];congr 1;omega;refine⟨by omega,?_⟩;rw [Int.add_zero];exact hnx
 obtain⟨pc,he,hr,jn⟩:=hpc2;refine⟨pc,?_,?_,hr,jn,?_⟩;unfold aU.je;rw [<-he];split;exact(h.gX _ _).to hr;split;exact(h.gX _ _).to hr;split;exact(h.gX _ _).to hr;split;exact(h.gX _ _).to hr;exact h.to hr;unfold aU.je;rw [<-he];rfl;unfold aU.je;rw [<-he];have e:∀t2:aU,t2.aD=t.aD->t2.fR=t.fR->t2.bd=t.bd->t2.ee=t.ee->t2.dY=t.dY->t2.b9=t.b9->t2.io=t.io->t2.dM=t.dM->(t2.to pc).done=decide (pc=t.aD.length)/\(t2.to pc).aD=t.aD/\(t2.to pc).fR=t.fR/\(t2.to pc).bd=t.bd/\(t2.to pc).ee=t.ee/\(t2.to pc).dY=t.dY/\(t2.to pc).b9=t.b9/\(t2.to pc).io=t.io/\(t2.to pc).dM=t.dM:=by
  intro t2 a1 a2 a3 a4 a5 a6 a7 a8;refine⟨?_,a1,a2,a3,a4,a5,a6,a7,a8⟩;show decide (pc=t2.aD.length)=_;rw [a1]
 split;exact e _ rfl rfl rfl rfl rfl rfl rfl rfl;split;exact e _ rfl rfl rfl rfl rfl rfl rfl rfl;split;exact e _ rfl rfl rfl rfl rfl rfl rfl rfl;split;exact e _ rfl rfl rfl rfl rfl rfl rfl rfl;exact e _ rfl rfl rfl rfl rfl rfl rfl rfl
theorem loc_out (h:pi c nt k t) (hd:t.done=qk) (ES:t.fW.op≠7/\t.fW.op≠8) (ha:t.fR=qh) (hs:t.bd=qk) (hf:t.ee=qh) (fz:t.dY=qh) (jn:cD t.aD t.pc.toNat=qh):mw c nt (k+1) (t.je ez t.fW):=by
 obtain⟨pc,g0,g1,g2,g3,g4,g5,g6,g7,g8,g9,mc,kZ,sK⟩:=VM (ez:=ez) h hd ES;exact Ds (g0.mono Ya) (g6.trans ha) (g7.trans hs) (g8.trans hf) (g9.trans fz) (by rw [g5,g1,g3];exact jn)
theorem Jp (hc:da c) (hk:k<2^40) (hM:lK c nt k M) (h:pi c nt (k+1) t) (hcn:t.kj<=k) (Cx:t.io.length<=2*k) (Wh:t.ii.length<=8*k) (hd:t.done=qk) (hf:t.ee=qh) (fz:t.dY=qh)
 (hs:t.bd=qg->(t.fW.op=12\/t.fW.op=13)/\cD t.aD t.pc.toNat=qh) (hw:t.bd=qk->t.pc=t.b9/\t.fW.op=7/\cD t.aD t.pc.toNat=qh) :
 mw c nt (k+1) (t.tS.xJ M (gv (fh t.cf t.id)).2).2.2.1/\lK c nt (k+1) (t.tS.xJ M (gv (fh t.cf t.id)).2).2.2.2:=by
 have Mt:=h.yq;have hcn0:=h.xT;have h1:pi c nt (k+1) t.tS:=⟨h.cf,h.nn,h.yq,h.tt,h.pc,h.dn,h.io,by show ([]:List k9).length<=_;simp,h.zS,h.Ct,by show 0<=t.kj+1/\t.kj+1<=((k+1:Nat):Int);omega,h.BE,h.oN⟩;have hn:(fh t.cf t.id).ga 0=qg:=rfl;have hb:nZ c k (gv (fh t.cf t.id)).2:=DN (by rw [h.cf];exact Ba hc k t.id Ya);have dw:(gv (fh t.cf t.id)).2.aF=1:=by unfold gv;rw [ay hn]
 have hbf:∀x∈(gv (fh t.cf t.id)).2.aA,0<=x/\x<c.nb:=by
  unfold gv;rw [ay hn];intro x hx;cases hx
 refine L2 hc hk hM h1 (by show t.io.length+([]:List k9).length<=_;simpa using Cx) (by show ([]:List k9).length<=_;simp) Wh hd hf fz ⟨hb,dw,hbf,hs,λe=>?_⟩;obtain⟨w1,w2,w3⟩:=hw e;have lp:=h.pc;have ho:=sJ h hd;show eH t.aD t.b9.toNat=7/\cD t.aD t.b9.toNat=qh/\0<=t.b9/\_;rw [<-w1];exact⟨ho.trans w2,w3,lp.1,qq ⟨w1,w2⟩⟩
theorem Vj (hc:da c) (hk:k<2^40) (hM:lK c nt k M) (h:pi c nt k t) (hd:t.done=qk) (ha:t.fR=qh) (hs:t.bd=qk) (hf:t.ee=qh) (fz:t.dY=qh) (jn:cD t.aD t.pc.toNat=qh) (nq:t.fW.op=12\/t.fW.op=13) :
 mw c nt (k+1) (t.plain M t.fW).2.2.1/\lK c nt (k+1) (t.plain M t.fW).2.2.2:=by
 have h':=h.mono (Zo k);have Cx:=h.io;unfold aU.plain;dsimp only;split;refine⟨?_,hM.mono Ya⟩;split;exact C0 (h'.gX _ _) Cx hd ha hs hf fz nq jn _ _;exact C0 h' Cx hd ha hs hf fz nq jn _ _;split;exact Jp hc hk hM (t:={ t with bd:=qg,gf:=0 }) ⟨h'.cf,h'.nn,h'.yq,h'.tt,h'.pc,h'.dn,h'.io,h'.sn,h'.zS,h'.Ct,h'.xT,h'.BE,by dsimp only;omega⟩ h.xT.2 Cx h.zS hd hf fz (λ_=>⟨nq,jn⟩) (λe=>Ym);split;exact⟨HM h' Cx hd ha hs hf fz nq jn _ _,hM.mono Ya⟩;exact⟨HM h' Cx hd ha hs hf fz nq jn _ _,hM.op0 Ya _ _ _ Yf⟩
theorem Pe (hc:da c) (h:nZ c k s) (i:bq):nZ c k (t.Iw i s):=by
 have u0:∀x,0<=q8.wrap x:=λx=>(kN x).1;unfold aU.Iw;split;exact Vf hc h _ (u0 _);split;exact UA h _ _ (u0 _);split;exact alS_ok hc h _;split;exact frS_ok hc h _;split;exact Qw h _;split;exact Qw h _;exact h
theorem Dk (hs:s.aF=1) (i:bq):(t.Iw i s).aF=1:=by
 have key:∀r:aI,(r=s\/r.aF=1)->r.aF=1:=λr h=>by
  rcases h with rfl|h;exact hs;exact h
 unfold aU.Iw;split;exact key _ (Rg s _);split;exact key _ (Q6 s _ _);split;exact key _ (alS_req s _);split;exact key _ (frS_req s _);split;exact key _ (LH s _);split;exact key _ (LH s _);exact hs
theorem Vg (s:aI) (a:Int):(Jz s a).2.aA=s.aA:=by unfold Jz;(repeat' split)<;>rfl
theorem UB (s:aI) (a v:Int):(H9 s a v).2.aA=s.aA:=by unfold H9;split<;>rfl
theorem alS_fr (s:aI) (a:Int):(OC s a).2.aA=s.aA:=by unfold OC;(repeat' split)<;>rfl
theorem frS_fr (s:aI) (a:Int):(N8 s a).2.aA=s.aA:=by unfold N8;(repeat' split)<;>rfl
theorem Qx (s:aI) (a:Int):(E2 s a).2.aA=s.aA:=by unfold E2;(repeat' split)<;>rfl
theorem Jv (hf:∀x∈s.aA,0<=x/\x<c.nb) (i:bq):∀x∈(t.Iw i s).aA,0<=x/\x<c.nb:=by
 have e:(t.Iw i s).aA=s.aA:=by
  unfold aU.Iw;split;exact Vg _ _;split;exact UB _ _ _;split;exact alS_fr _ _;split;exact frS_fr _ _;split;exact Qx _ _;split;exact Qx _ _;rfl
 rw [e];exact hf
theorem J0 (hf:∀x∈s.aA,0<=x/\x<c.nb) (i:bq):∀x∈(t.vR i s).aA,0<=x/\x<c.nb:=by
 have e:(t.vR i s).aA=s.aA:=by
  unfold aU.vR;split;exact Qx _ _;split;exact Vg _ _;exact UB _ _ _
 rw [e];exact hf
theorem Fm (hs:s.aF=1) (hb:s.kJ=qk) {aD:Int} (JO:aD=1\/aD=2):uw (E2 s aD).2.aH:=by
 have hf:s.ga 1=qg:=by
  unfold aI.kJ at hb;unfold aI.ga;rw [hs]
  simpa using hb
 unfold E2;rw [ay hf,aw Ya];trivial
theorem QM (hs:s.aF=1) (i:bq):(t.vR i s).aF=1:=by
 have key:∀r:aI,(r=s\/r.aF=1)->r.aF=1:=λr h=>by
  rcases h with rfl|h;exact hs;exact h
 unfold aU.vR;split;exact key _ (LH s _);split;exact key _ (Rg s _);exact key _ (Q6 s _ _)
theorem QN (hc:da c) (h:nZ c k s) (i:bq):nZ c k (t.vR i s):=by
 have u0:∀x,0<=q8.wrap x:=λx=>(kN x).1;unfold aU.vR;split;exact Qw h _;split;refine Vf hc h _ ?_;unfold aU.py;split<;>exact u0 _;refine UA h _ _ ?_;unfold aU.py;split<;>exact u0 _
theorem TG (hc:da c) (hk:k<2^40) (hM:lK c nt k M) (h:pi c nt k t) (hd:t.done=qk) (ha:t.fR=qh) (hs:t.bd=qk) (hf:t.ee=qh) (fz:t.dY=qh) (jn:cD t.aD t.pc.toNat=qh) :
 mw c nt (k+1) (t.me ez M t.fW).2.2.1/\lK c nt (k+1) (t.me ez M t.fW).2.2.2:=by
 have h':=h.mono (Zo k);obtain⟨j9,hi⟩:=h.fW hd;have mV:=(vA h.tt j9).1 jn;rw [<-hi] at mV;have htr:=h.BE;unfold aU.me;split;rename_i h7;exact Jp hc hk hM (t:={ t with b9:=t.pc,mK:=t.dX,jv:=t.jv+1 }) ⟨h'.cf,h'.nn,h'.yq,h'.tt,h'.pc,h'.dn,h'.io,h'.sn,h'.zS,h'.Ct,h'.xT,by dsimp only;omega,h'.oN⟩ h.xT.2 h.io h.zS hd hf fz (λe=>XA) (λ_=>⟨rfl,h7,jn⟩);rename_i h7;rw [ha];dsimp only;split;rename_i nq;exact Vj hc hk hM h hd ha hs hf fz jn nq;split;rename_i G6;exact Q7 hc hM (t:={ t with fR:=qh,ee:=qc ⟨t.id,t.nt,qk,0,0⟩ }) (f:=⟨t.id,t.nt,qk,0,0⟩) ⟨h.cf,h.nn,h.yq,h.tt,h.pc,h.dn,h.io,h.sn,h.zS,h.Ct,h.xT,h.BE,h.oN⟩ rfl hs hd G6 jn rfl rfl h.nn Yz (λ_=>rfl) (λl e=>XB);exact⟨loc_out h hd ⟨h7,mV.1⟩ ha hs hf fz jn,hM.mono Ya⟩
theorem TF (hc:da c) (hk:k<2^40) (hM:lK c nt k M) (h:pi c nt k t) (hd:t.done=qk) (ha:t.fR=qc s) (hf:t.ee=qh) (fz:t.dY=qh) (Cx:t.io.length+t.dM.length<=2*k) (hR:Rest c k t s) (hb:s.kJ=qk) :
 mw c nt (k+1) (t.me ez M t.fW).2.2.1/\lK c nt (k+1) (t.me ez M t.fW).2.2.2:=by
 have h':=h.mono (Zo k);obtain⟨j9,hi⟩:=h.fW hd;obtain⟨w1,w2,w3,w4⟩:=hR.FA;have mV:=(vA h.tt j9).2.1 _ w4;rw [<-hi] at mV;unfold aU.me;rw [aw mV.1,ha];dsimp only;split;rename_i nq;refine L2 hc hk hM (t:={ t with fR:=qc (t.Iw t.fW s) }) ⟨h'.cf,h'.nn,h'.yq,h'.tt,h'.pc,h'.dn,h'.io,h'.sn,h'.zS,h'.Ct,h'.xT,h'.BE,h'.oN⟩ Cx h.sn h.zS hd hf fz ⟨Pe hc hR.ok _,Dk hR.st _,Jv hR.E1 _,λe=>XC,λ_=>⟨w1,w2,w3,?_⟩⟩;by_cases h89:t.fW.op=8\/t.fW.op=9;right;right;unfold aU.Iw;rw [aw Ya,aw Ya,aw Ya,aw Ya];split;exact Fm hR.st hb (qq rfl);rw [ay Ya];exact Fm hR.st hb (qt rfl);exact qt (qq ⟨w4,by show t.fW.op=10\/t.fW.op=11\/t.fW.op=14\/t.fW.op=15;omega⟩);rename_i nq;refine⟨?_,hM.mono Ya⟩;obtain⟨pc,g0,g1,g2,g3,g4,g5,g6,g7,g8,g9,mc,kZ,sK⟩:=VM (ez:=ez) h hd ⟨mV.1,by omega⟩;have jn:cD t.aD pc.toNat=qc t.b9.toNat:=g3.trans w4
 have pe:¬pc=t.aD.length:=λe=>by
  rw [show pc.toNat=t.aD.length by omega,(ia h.tt).2.2] at jn;cases jn
 refine⟨g0.mono Ya,λe=>(by rw [g6,ha] at e;cases e),λs2 e=>?_,λf e=>(by rw [g8,hf] at e;cases e),λ_=>g9.trans fz,λl e=>(by rw [g9,fz] at e;cases e)⟩;rw [g6,ha] at e;injection e with e;subst e;refine⟨?_,by rw [g4];exact decide_eq_false pe,g8.trans hf,by rw [kZ,sK];omega⟩;rw [aw (by rw [g7,hb,hR.Q9];simp)];exact⟨hR.ok.mono Ya,hR.st,hR.E1,g7.trans hR.Q9,by rw [g5,mc,g1];exact⟨w1,w2,w3,jn⟩⟩
theorem UZ (hc:da c) (hk:k<2^40) (hM:lK c nt k M) (h:mw c nt k t) (hd:t.done=qk):mw c nt (k+1) (t.m8 ez M).2.2.1/\lK c nt (k+1) (t.m8 ez M).2.2.2:=by
 have sq:=h.co;have DD:=sq.mono (Zo k);have hak:=sq.oN;unfold aU.m8;cases hf:t.ee with
 | some f=>
   obtain⟨g1,g2,g3,g4,g5,g6,g7⟩:=h.fen f hf;obtain⟨g8,g9⟩:=h.oF g1;exact Q7 hc hM sq g1 g8 hd g3 g9 hf g4 g5 g6 g7 h.dr
 | none=>
   have fz:=h.RB hf;dsimp only;cases ha:t.fR with
   | none=>
     obtain⟨g8,g9⟩:=h.oF ha;exact TG hc hk hM sq hd ha g8 hf fz g9
   | some s=>
     obtain⟨g1,_,_,g2⟩:=h.Aj s ha;dsimp only;by_cases hb:s.kJ=qg;rw [ay hb];rw [ay (qq hb)] at g1;exact L2 hc hk hM DD g2 sq.sn sq.zS hd hf fz g1;rw [aw hb];have lF:s.kJ=qk:=by simpa using hb
     by_cases hs:t.bd=qg;rw [ay hs];rw [ay (qt hs)] at g1;exact L2 hc hk hM (t:=t.ask t.fW s) ⟨DD.cf,DD.nn,DD.yq,DD.tt,DD.pc,DD.dn,DD.io,DD.sn,DD.zS,DD.Ct,DD.xT,DD.BE,by show 0<=t.gf+1/\t.gf+1<=((k+1:Nat):Int);omega⟩ g2 sq.sn sq.zS hd hf fz ⟨QN hc g1.ok _,QM g1.st _,J0 g1.E1 _,g1.Q9,λe=>XD⟩;rw [aw hs];rw [aw (by rw [lF];simpa using hs)] at g1;exact TF hc hk hM sq hd ha hf fz g2 g1 lF
theorem SV {id:Int} (Mt:0<=id/\id<nt/\nt<=16) {p:List bq} (hp:(c8 p).2=0):mw c nt 0 (pD c id nt p):=by
 refine Ds ⟨rfl,rfl,Mt,hp,⟨Zw _,by show (0:Int)<=p.length;omega⟩,?_,Zt _,Zt _,Zt _,λx hx=>(by cases hx),⟨Zw _,Zw _⟩,⟨Zw _,Zw _⟩,⟨Zw _,Zw _⟩⟩ rfl rfl rfl rfl rfl;show decide (p.length=0)=decide ((0:Int)=p.length);by_cases e:p.length=0;simp [e];rw [decide_eq_false e,decide_eq_false Ya]
theorem mw.mono {k':Nat} (h:mw c nt k t) (hk:k<=k'):mw c nt k' t:=by
 refine⟨h.co.mono hk,h.oF,λs e=>?_,h.fen,h.RB,λl e=>?_⟩;obtain⟨g1,g2,g3,g4⟩:=h.Aj s e;refine⟨?_,g2,g3,by omega⟩;split;rename_i hb;rw [ay hb] at g1;exact⟨g1.ok.mono hk,g1.st,g1.E1,g1.Q9,g1.FA⟩;rename_i hb;rw [aw hb] at g1;exact⟨g1.ok.mono hk,g1.st,g1.E1,g1.Q9,g1.FA⟩;obtain⟨g1,g2,g3⟩:=h.dr l e;exact⟨g1,by omega,g3⟩
end
end
end Go.Stx
