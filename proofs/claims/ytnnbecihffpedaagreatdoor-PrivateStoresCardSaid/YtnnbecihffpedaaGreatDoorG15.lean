import Derived.Test.YtnnbecihffpedaaGreatDoorG14
set_option linter.all false
set_option maxRecDepth 20000
set_option maxHeartbeats 4000000
open List renaming length->U
open Bool renaming and_eq_true->Zg
open Go.IntKind renaming i64->Zb,u64->Zc
open Int renaming le_refl->ZH
open List renaming getElem?_eq_getElem->Zf,length_append->Zh,length_cons->ZI,length_filter_le->kaN,length_map->ZF,length_singleton->ZO,mem_append->ZG,mem_cons_of_mem->kbl,mem_filter->kax
open Nat renaming le_succ->Zx,zero_le->Zv
open Bool renaming false->qn,true->qj
open Go.IntKind renaming u64->qr
open Go.Value renaming int->qh
open Option renaming none->qk,some->qf
open Or renaming inl->qw,inr->qB
namespace Go.Stx
open Go Go.Proofs
attribute [local irreducible] df aW aE aL cY dm
section
variable [Gl]
structure lq where
 pc:Int
 fB:Int
 val:Int
structure JX where
 bR:Int
 af:Int
 fB:Int
 word:Int
 reads:List Int
 b8:List Int
structure bS where
 af:Int
 eK:Int
 tC:Int
 jq:bj
def bS.zero:bS:=⟨0,0,0,bj.zero⟩
structure kB where
 af:Int
 oW:Int
 fx:Bool
 DN:Int
 next:Int
def kB.done (f:kB):Bool:=f.fx && decide (f.oW<=f.next)
def kB.skip (f:kB):kB:=if f.next=f.af then { f with next:=f.next+1 } else f
def kB.E0 (f:kB)(ny:Int):Bool:=if ny=0 then qj else if ny=1 then qn else decide (f.DN<=Zc.wrap (ny-2))
def kB.p9 (f:kB):Int:=if f.fx=qj then Zb.wrap f.DN else -1
def gG (f:kB)(M:Mm):bj×kB:=
 if f.done=qj then (bj.zero,f)
 else if f.fx=qn then (iy M 3 0,({ f with fx:=qj,DN:=(iy M 3 0).eV }:kB).skip)
 else (iy M 6 f.next,if f.E0 (iy M 6 f.next).eV=qj then ({ f with next:=f.next+1 }:kB).skip else f)
def pJ (c:bu)(l:List (Int×Int))(pX:Int)(bs:List Int):List (Int×Int):=
 l++(bs.filter λb=>decide (0<=eE c b)).map λb=>(b,pX)
def lH (l:List (Int×Int))(p9:Int):List (Int×Int):=l.filter λx=>decide (p9<x.2)
def nV (c:bu)(l:List (Int×Int))(p9:Int):List gy:=(l.filter λx=>!decide (p9<x.2)).map λx=>⟨eE c x.1,x.1,0,0⟩
def CM:List gy->Mm->bj×List gy×Mm
 |[],M=>(bj.zero,[],M)
 |p::l,M=>((dD p M).1,if (dD p M).2.1.bR=3 then l else (dD p M).2.1::l,(dD p M).2.2)
structure R8 where
 r0:Int
 r1:Int
 r2:Int
 r3:Int
 r4:Int
 r5:Int
 r6:Int
 r7:Int
def R8.bk (r:R8)(i:Int):Int:=if i=0 then r.r0 else if i=1 then r.r1 else if i=2 then r.r2 else if i=3 then r.r3 else if i=4 then r.r4 else if i=5 then r.r5 else if i=6 then r.r6 else r.r7
def R8.set (r:R8)(i v:Int):R8:=
 if i=0 then { r with r0:=v } else if i=1 then { r with r1:=v } else if i=2 then { r with r2:=v } else if i=3 then { r with r3:=v }
 else if i=4 then { r with r4:=v } else if i=5 then { r with r5:=v } else if i=6 then { r with r6:=v } else { r with r7:=v }
def R8.zero:R8:=⟨0,0,0,0,0,0,0,0⟩
def R8.cells (r:R8):List Value:=[qh qr r.r0,qh qr r.r1,qh qr r.r2,qh qr r.r3,qh qr r.r4,qh qr r.r5,qh qr r.r6,qh qr r.r7]
structure aV where
 fR:Option aJ
 bW:Int
 nh:R8
 jz:Int
 dC:List lq
 aZ:Bool
 gt:Int
 dV:Option kB
 dP:Option (List gy)
 cf:bu
 id:Int
 nt:Int
 aD:List bp
 pc:Int
 dY:R8
 mn:Int
 done:Bool
 iw:List (Int×Int)
 iA:List lq
 kz:Int
def rp (c:bu)(id nt:Int)(p:List bp):aV:=⟨qk,0,.zero,0,[],qn,0,qk,qk,c,id,nt,p,0,.zero,0,decide (U p=0),[],[],0⟩
def aV.to (t:aV)(pc:Int):aV:={ t with pc:=pc,done:=decide (pc=U t.aD) }
def aV.pQ (t:aV):aV:=t.to (t.pc+1)
def aV.sY (t:aV)(fB v:Int):aV:={ t with iA:=t.iA++[⟨t.pc,fB,v⟩] }
def aV.cr (t:aV)(r cg:Int):Int:=Zc.wrap (t.dY.bk r+Zc.wrap cg)
def aV.yD (t:aV)(k:Int):bp:=t.aD.getD k.toNat ⟨0,0,0,0,0⟩
def aV.dG (t:aV):bp:=t.yD t.pc
def aV.io (t:aV)(a v:Int):aV:={ t with dY:=t.dY.set a v }
variable (eu:Int->Int->Int->Int)
def aV.iY (t:aV)(i:bp):aV:=
 (if i.op=1 then t.io i.a (Zc.wrap i.cg) else if i.op=2 then t.io i.a (t.dY.bk i.b) else if i.op=3 then t.io i.a (eu i.cg (t.dY.bk i.b) (t.dY.bk i.c))
  else if i.op=17 then t.io i.a (Zc.wrap t.mn) else t).to
 (t.pc+1+if i.op=4\/(i.op=5/\t.dY.bk i.a=0)\/(i.op=6/\t.dY.bk i.a≠0) then i.cg else 0)
def aV.sX (t:aV):aV:={ t with fR:=qf (gE (fq t.cf t.id)).2,dC:=[],kz:=t.kz+1 }
def aV.KG (t:aV)(i:bp)(s:aJ):aJ:=
 if i.op=10 then (LM s (t.cr i.b i.cg)).2 else if i.op=11 then (Kl s (t.cr i.a i.cg) (t.dY.bk i.b)).2 else if i.op=14 then (Rf s i.cg).2
 else if i.op=15 then (QE s (t.dY.bk i.a)).2 else if i.op=8 then (GR s 1).2 else if i.op=9 then (GR s 2).2 else s
def aV.rh (t:aV)(i:bp):Int:=if i.op=12 then t.cr i.b i.cg else t.cr i.a i.cg
def aV.Fu (t:aV)(i:bp)(v:Int):aV:=if i.op=12 then ((t.io i.a v).sY 4 v).pQ else (t.sY 5 v).pQ
def aV.eV (t:aV)(r fB v:Int):aV:={ t.io r v with dC:=t.dC++[⟨t.pc,fB,v⟩] }
def aV.mI (t:aV)(i:bp)(s:aJ):aV:=
 let t1:aV:={ t with fR:=qk,aZ:=qn }
 if s.aD=1 then t1.Fu i (if i.op=13 then t.dY.bk i.b else s.value) else if s.aD=6 then (t1.sY 7 6).pQ else t1
def aV.sm (t:aV)(s:aJ):aV:=
 if s.aD=1 then { t with fR:=qk,iA:=t.iA++t.dC,iw:=if 0<U s.aB then pJ t.cf t.iw s.pX s.aB else t.iw }
 else { t with fR:=qk,dY:=t.nh }
def aV.lK (t:aV)(aD:Int):aV:=
 ({ t with jz:=0,mn:=aD,iA:=t.iA++[⟨t.bW,3,Zc.wrap aD⟩] }:aV).to (dH t.aD t.bW.toNat+1)
def aV.bZ (t:aV)(s:aJ):aV:=
 if s.aD=9 then (if t.jz<(t.yD t.bW).cg then (t.sm s).to t.bW else (t.sm s).lK 5) else (t.sm s).lK s.aD
def aV.wi (t:aV)(i:bp)(s:aJ):aV:=
 if s.aG=2 then (if t.aZ=qj then t.mI i s else t.bZ s)
 else if t.aZ=qj then t
 else (if i.op=10 then t.eV i.a 1 s.value else if i.op=14 then t.eV i.a 2 s.value else t).pQ
abbrev ThR:=bS×List JX×aV×Mm
def aV.yU (t:aV)(M:Mm)(s:aJ):ThR:=
 let r:=aY s M
 let t1:aV:={ t with fR:=qf r.2.2.1 }
 (⟨0,r.2.1,t.kz,r.1⟩,
  if r.2.1=3 then [⟨0,t.id,3,0,[],[]⟩]
  else if r.2.1=16/\r.2.2.1.am=qj then [⟨0,t.id,4,0,r.2.2.1.reads,if r.2.2.1.aD=1 then r.2.2.1.bJ.bU.filter (λa=>decide (a<r.2.2.1.cf.bm)) else []⟩]else [],
  if r.2.2.1.kQ=qj then t1 else t1.wi t.dG r.2.2.1,r.2.2.2)
def aV.ask (t:aV)(i:bp)(s:aJ):aV:=
 { t with gt:=t.gt+1,fR:=qf (if 1<t.gt+1 then (GR s 1).2 else if i.op=12 then (LM s (t.rh i)).2 else (Kl s (t.rh i) (t.dY.bk i.b)).2) }
def aV.w9 (t:aV)(i:bp)(s:aJ):aJ:=if 1<t.gt+1 then (GR s 1).2 else if i.op=12 then (LM s (t.rh i)).2 else (Kl s (t.rh i) (t.dY.bk i.b)).2
def aV.kT (t:aV):aV:=match t.dP with
 |some []=>(({ t with dV:=qk,dP:=qk }:aV).sY 6 0).pQ
 |_=>t
def aV.vJ (t:aV)(M:Mm)(f:kB):bS×aV×Mm:=
 match t.dP with
 |none=>
   let r:=gG f M
   (⟨0,if r.1.cell=3 then 25 else 26,0,r.1⟩,
    (if r.2.done=qj then ({ t with dV:=qf r.2,dP:=qf (nV t.cf t.iw r.2.p9),iw:=lH t.iw r.2.p9 }:aV) else { t with dV:=qf r.2 }).kT,M)
 |some l=>
   let r:=CM l M
   (⟨0,eJ r.1,0,r.1⟩,({ t with dP:=qf r.2.1 }:aV).kT,r.2.2)
def aV.plain (t:aV)(M:Mm)(i:bp):ThR:=
 let cr:=t.rh i
 if t.cf.bm<=cr then (bS.zero,[],((if i.op=12 then t.io i.a 0 else t).sY 7 7).pQ,M)
 else if t.cf.aZ=qj then (({ t with aZ:=qj,gt:=0 }:aV).sX).yU M (gE (fq t.cf t.id)).2
 else if i.op=12 then (⟨0,1,0,iy M 1 cr⟩,[⟨0,t.id,1,cr,[],[]⟩],t.Fu i (iy M 1 cr).put,M)
 else (⟨0,1,0,FG M 1 cr (t.dY.bk i.b)⟩,[⟨0,t.id,2,cr,[],[]⟩],t.Fu i (FG M 1 cr (t.dY.bk i.b)).put,BC M 1 cr (t.dY.bk i.b))
def aV.my (t:aV)(M:Mm)(i:bp):ThR:=
 if i.op=7 then (({ t with bW:=t.pc,nh:=t.dY,jz:=t.jz+1 }:aV).sX).yU M (gE (fq t.cf t.id)).2
 else match t.fR with
 |some s=>
   if i.op=10\/i.op=11\/i.op=14\/i.op=15\/i.op=8\/i.op=9 then ({ t with fR:=qf (t.KG i s) }:aV).yU M (t.KG i s)
   else (⟨0,0,t.kz,bj.zero⟩,[],t.iY eu i,M)
 |none=>
   if i.op=12\/i.op=13 then t.plain M i
   else if i.op=16 then
    let f:kB:=⟨t.id,t.nt,qn,0,0⟩
    let r:=({ t with dV:=qf f }:aV).vJ M f
    (r.1,[],r.2.1,r.2.2)
   else (bS.zero,[],t.iY eu i,M)
def aV.nJ (t:aV)(M:Mm):ThR:=
 match t.dV with
 |some f=>let r:=t.vJ M f;(r.1,[],r.2.1,r.2.2)
 |none=>match t.fR with
   |some s=>if s.kQ=qj then t.yU M s else if t.aZ=qj then (t.ask t.dG s).yU M (t.w9 t.dG s) else t.my eu M t.dG
   |none=>t.my eu M t.dG
def aV.step (t:aV)(M:Mm):Bool×ThR:=
 if t.done=qj then (qn,bS.zero,[],t,M)
 else
  let r:=t.nJ eu M
  (qj,{ r.1 with af:=t.id },r.2)
end
section
variable [Gl]
def Ci {p:List bp}{k b:Nat}(h:bY p k=qf b):∀{t:Nat},k<=t->(∀j,k<=j->j<t->d9 p j≠8)->bY p t=qf b
 |0,hk,_=>by
   have:k=0:=Ya
   subst this;exact h
 |t+1,hk,hn=>by by_cases e:k=t+1;subst e;exact h;have h1:=Ci h (t:=t) Ya λj h1 h2=>hn j h1 Ya;unfold bY;rw[h1];simp only;rw[ar (hn t Ya Ya)]
def P1 {p:List bp}{k:Nat}(h:k<U p):d9 p k=p[k].op:=m8 (Zf h)
def tgt_of {p:List bp}(hp:(b7 p).2=0){k:Nat}(hk:k<U p)(ho:p[k].op=4\/p[k].op=5\/p[k].op=6):fz p k (bY p k) p[k].cg=qj/\0<=p[k].cg:=by have h1:=(gA hp).2.1 k p[k] (Zf hk);unfold vQ at h1;by_cases e:cQ p[k]=0;rw[az e]at h1;split at h1;cases h1;split at h1;cases h1;have hs:eS p[k]=qf p[k].cg:=az ⟨e,ho⟩;rw[hs]at h1;simp only at h1;refine⟨?_,?_⟩;by_cases hh:fz p k (bY p k) p[k].cg=qj;exact hh;rw[ar hh]at h1;cases h1;unfold cQ at e;split at e;cases e;split at e;rename_i h2;have h3:=(Zg _ _▸h2).2;unfold fV at h3;rw[ar Ya,ar Ya,az ho]at h3;simp only[Zg,decide_eq_true_eq]at h3;exact h3.1;cases e;rw[ar e]at h1;exact absurd h1 e
def We {p:List bp}(hp:(b7 p).2=0){k:Nat}(hk:k<U p)(ho:p[k].op=4\/p[k].op=5\/p[k].op=6):
 k+1+p[k].cg.toNat<=U p/\bY p (k+1+p[k].cg.toNat)=bY p k:=by
 obtain⟨ht,_⟩:=tgt_of hp hk ho;have ho2:=P1 hk;unfold fz at ht;by_cases hl:U p<k+1+p[k].cg.toNat;simp[hl]at ht;have SZ:k+1+p[k].cg.toNat<=U p:=Ya
 refine⟨SZ,?_⟩;cases hb:bY p k with
 |some b=>rw[hb]at ht;simp only[hl,if_false,decide_eq_true_eq]at ht;obtain⟨h1,h2,h3⟩:=lG hb;refine Ci hb Ya λj h4 h5=>?_;exact(om (p:=p) (k:=b+1) Ya).2.2.1 j Ya (by have:=ht;unfold dH at this;omega)
 |none=>
   rw[hb]at ht;simp only[hl,if_false]at ht;cases hs:bY p (k+1+p[k].cg.toNat) with
   |none=>rfl
   |some b=>
     exfalso;obtain⟨h1,h2,h3⟩:=lG hs;have h4:=HW hb Ya hs;have h5:b≠k:=λe=>by subst e;rw[ho2]at h2;omega
     have h6:k+1+p[k].cg.toNat≠U p:=λe=>by rw[e,(gA hp).2.2]at hs;cases hs
     have h7:k+1+p[k].cg.toNat<=dH p b:=by rcases Nat.lt_or_ge (dH p b) (k+1+p[k].cg.toNat) with h|h;have h8:=(om (p:=p) (k:=b+1) Ya);have h9:dH p b<U p:=Ya;have Qx:b+1<=dH p b:=h8.1;exact absurd (show d9 p (dH p b)=8 from h8.2.2.2 h9) (h3 (dH p b) Ya h);exact h
     have h8:gY p k (k+1+p[k].cg.toNat)=qj:=by unfold gY;rw[List.any_eq_true];refine⟨b,List.mem_range.2 h1,?_⟩;simp only[Zg,decide_eq_true_eq];exact⟨⟨by omega,h2⟩,by omega⟩
     rw[h8]at ht;cases ht
def end_scan {p:List bp}(hp:(b7 p).2=0){b:Nat}(hb:d9 p b=7)(hs:bY p b=qk):dH p b<U p/\d9 p (dH p b)=8/\bY p (dH p b+1)=qk:=by
 have RE:b<U p:=um Ya;have h1:bY p (b+1)=qf b:=by unfold bY;rw[hs];simp[hb]
 obtain⟨h2,h3,h4,h5⟩:=om (p:=p) (k:=b+1) Ya;have h6:bY p (dH p b)=qf b:=Ci h1 h2 h4;have h7:dH p b<U p:=by
  rcases Nat.lt_or_ge (dH p b) (U p) with h|h;exact h;have e:dH p b=U p:=by unfold dH at h ⊢;omega
  rw[e,(gA hp).2.2]at h6;cases h6
 refine⟨h7,h5 h7,?_⟩;unfold bY;rw[h6];simp only;rw[az (show d9 p (dH p b)=8 from h5 h7)]
def E3 {p:List bp}{k:Nat}{b:Option Nat}(h:bY p k=b)(h7:d9 p k≠7)(h8:d9 p k≠8):bY p (k+1)=b:=by
 unfold bY;rw[h];cases b with
 |none=>simp[h7]
 |some b=>simp[h8]
def TG {p:List bp}{k:Nat}(h:bY p k=qk)(h7:d9 p k=7):bY p (k+1)=qf k:=by unfold bY;rw[h];simp[h7]
def wK {p:List bp}(hp:(b7 p).2=0){k:Nat}(hk:k<U p):
 (bY p k=qk->p[k].op≠8/\p[k].op≠9/\p[k].op≠10/\p[k].op≠11/\p[k].op≠14/\p[k].op≠15)/\
 (∀b,bY p k=qf b->p[k].op≠7/\p[k].op≠12/\p[k].op≠13/\p[k].op≠16/\p[k].op≠17)/\cQ p[k]=0:=by
 have h1:=(gA hp).2.1 k p[k] (Zf hk);unfold vQ at h1;by_cases e:cQ p[k]=0;rw[az e]at h1;split at h1;cases h1;rename_i h2;split at h1;cases h1;rename_i h3
 have h4:bE p[k]=if p[k].op=8\/p[k].op=9\/p[k].op=10\/p[k].op=11\/p[k].op=14\/p[k].op=15 then 1
  else if p[k].op=7\/p[k].op=12\/p[k].op=13\/p[k].op=16\/p[k].op=17 then 2 else 0:=az e
 rw[h4]at h3;refine⟨λhb=>?_,λb hb=>?_,e⟩;rw[hb]at h3;have:¬(p[k].op=8\/p[k].op=9\/p[k].op=10\/p[k].op=11\/p[k].op=14\/p[k].op=15):=λh=>h3 (qw ⟨by rw[az h],rfl⟩);omega;rw[hb]at h3;have:¬(p[k].op=7\/p[k].op=12\/p[k].op=13\/p[k].op=16\/p[k].op=17):=λh=>h3 (qB ⟨by rw[ar Ya,az h],rfl⟩);omega;rw[ar e]at h1;exact absurd h1 e
def pd {i:bp}(h:cQ i=0):(nI i.op=qj->0<=i.a/\i.a<8)/\(lF i.op=qj->0<=i.b/\i.b<8)/\(nH i.op=qj->0<=i.c/\i.c<8)/\(0<=i.op/\i.op<18)/\(i.op=3->0<=i.cg/\i.cg<22)/\(i.op=7->1<=i.cg/\i.cg<=8):=by unfold cQ at h;split at h;cases h;rename_i h0;split at h;rename_i h1;simp only[Zg,iB,fV]at h1;obtain⟨⟨⟨h2,h3⟩,h4⟩,h5⟩:=h1;refine⟨λe=>?_,λe=>?_,λe=>?_,by omega,λe=>?_,λe=>?_⟩;rw[az e]at h2;simpa using h2;rw[az e]at h3;simpa using h3;rw[az e]at h4;simpa using h4;rw[ar Ya,az e]at h5;simpa using h5;rw[ar Ya,ar Ya,ar Ya,az e]at h5;simpa using h5;cases h
def vH:bM->Prop
 | .iY (.bZ _)=>True
 | .ef | .c8 | .cK _ | .bN | .dy _ | .bG _ | .eR | .ey | .eG _ | .gC=>True
 |_=>False
def endS_end (s:aJ)(aD:Int):vH (nB s aD).aH:=by unfold nB;split<;>trivial
def Gc (s:aJ):vH (gn s).aH:=by unfold gn;split<;>trivial
def xE (s:aJ):vH (fE s).aH:=by unfold fE;split<;>trivial
def WV {s:aJ}(h:vH s.aH)(hs:s.aG=1)(M:Mm):((aY s M).2.2.1.aG=1/\vH (aY s M).2.2.1.aH)\/((aY s M).2.2.1.aG=2/\(aY s M).2.2.1.aH=.bC):=by
 have cJ:=BZ s M;unfold aY at cJ ⊢;cases e:s.aH with
 |iY l=>
   rw[e]at h cJ;cases l<;>first|exact absurd h id|skip
   refine qw ⟨by rw[cJ];exact hs,?_⟩;exact endS_end _ _
 |ef=>
   rw[e]at h cJ;simp only at cJ ⊢;cases hl:s.aQ with
   |none=>rw[hl]at cJ;exact qw ⟨by rw[cJ];exact hs,by dsimp only;rw[e];trivial⟩
   |some l=>rw[hl]at cJ;refine qw ⟨by rw[cJ];exact hs,?_⟩;unfold ip;dsimp only;split;trivial;dsimp only;rw[e];trivial
 |c8=>
   rw[e]at h cJ;simp only at cJ ⊢;cases hl:s.aN with
   |none=>rw[hl]at cJ;exact qw ⟨by rw[cJ];exact hs,by dsimp only;rw[e];trivial⟩
   |some l=>rw[hl]at cJ;refine qw ⟨by rw[cJ];exact hs,?_⟩;unfold ia;dsimp only;split;dsimp only;split<;>trivial;dsimp only;rw[e];trivial
 |cK c=>rw[e]at h cJ;refine qw ⟨by rw[cJ];exact hs,?_⟩;show vH (gu s M c).2.2.1.aH;unfold gu;dsimp only;split;exact xE _;split<;>trivial
 |bN=>rw[e]at h cJ;refine qw ⟨by rw[cJ];exact hs,?_⟩;show vH (fo s M).2.2.1.aH;unfold fo;dsimp only;split;exact xE _;split;trivial;exact xE _
 |dy w=>rw[e]at h cJ;refine qw ⟨by rw[cJ];exact hs,?_⟩;show vH (gF s M w).2.2.1.aH;unfold gF;dsimp only;split<;>trivial
 |bG w=>rw[e]at h cJ;refine qw ⟨by rw[cJ];exact hs,?_⟩;show vH (nM s M w).2.2.1.aH;unfold nM;dsimp only;split;split<;>trivial;trivial
 |eR=>rw[e]at cJ;exact qw ⟨by rw[cJ];exact hs,trivial⟩
 |ey=>rw[e]at cJ;exact qw ⟨by rw[cJ];exact hs,Gc _⟩
 |eG p=>rw[e]at h cJ;refine qw ⟨by rw[cJ];exact hs,?_⟩;show vH (iT s M p).2.2.1.aH;unfold iT;dsimp only;split;exact Gc _;trivial
 |gC=>exact qB ⟨rfl,rfl⟩
 |bC=>rw[e]at h;exact absurd h id
 |dA=>rw[e]at h;exact absurd h id
 |be _ _=>rw[e]at h;exact absurd h id
 |eO _=>rw[e]at h;exact absurd h id
def CJ (s:aJ):(gn s).aB=s.aB:=by unfold gn;split<;>rfl
def wC (s:aJ)(aD:Int):(kM s aD).aB=s.aB:=CJ _
def Ec (s:aJ)(aD:Int):(nB s aD).aB=s.aB:=by unfold nB;split<;>rfl
def zp (s:aJ):(fE s).aB=s.aB:=by unfold fE;split<;>rfl
def xJ (s:aJ)(a v:Int):(jr s a v).2.aB=s.aB:=by unfold jr;split;rfl;exact wC s 3
def EG:∀(n:Nat)(a:Int)(s:aJ),(fX n a s).2.aB=s.aB
 |0,_,_=>rfl
 |n+1,a,s=>by unfold fX;split;rw[EG n];exact xJ s a 0;exact xJ s a 0
def Lp (s:aJ)(fa jj:Int):(fb s fa jj).aB=s.aB:=by unfold fb;split;exact wC s 4;dsimp only;split;split;show (fX _ _ _).2.aB=_;rw[EG];exact xJ { s with ao:=s.ao++[jj] } _ _;rw[EG];exact xJ { s with ao:=s.ao++[jj] } _ _;exact xJ { s with ao:=s.ao++[jj] } _ _
def FrA (s s':aJ)(o:Option Int):Prop:=s'.aB=s.aB\/∃b,o=qf b/\s'.aB=s.aB++[b]
def Fc (s:aJ)(b st:Int):FrA s (ji s b st) (qf b):=by unfold ji;split;exact qw (Ec s 8);split;exact qw (wC s 3);split;exact qB ⟨b,rfl,by dsimp only⟩;exact qw (xJ s _ 0)
def frB:bM->Option Int
 | .iY (.dz b _)=>qf b
 | .be _ (.dz b)=>qf b
 |_=>qk
def TM (s:aJ)(M:Mm):FrA s (aY s M).2.2.1 (frB s.aH):=by
 unfold aY;cases hd:s.aH with
 |gC=>exact qw rfl
 |bC=>exact qw rfl
 |iY k=>
   cases k with
   |mA a v=>show FrA s (r9 { s with aH:=.bC } (.mA a v)) _;unfold r9;dsimp only;split;exact qw (Ec _ 7);exact qw (xJ { s with aH:=.bC } a v)
   |sD=>exact qw (Ec _ 7)
   |RG=>exact qw (Ec _ 8)
   |bZ aD=>exact qw (Ec _ aD)
   |take v=>exact qw rfl
   |lp=>exact qw (wC _ 3)
   |dz b v=>exact Fc { s with aH:=.bC } b v
 |dA=>
   dsimp only;cases s.bQ with
   |none=>exact qw rfl
   |some e=>dsimp only[go];split<;>exact qw rfl
 |be r u=>
   show FrA s (da s M r u).2.2.1 _;unfold da;dsimp only;split;exact qw rfl;split;exact qw (wC _ 9);split
   . cases u with
     |take=>left;dsimp only[Bi];split<;>rfl
     |dz b=>dsimp only[Bi];split;exact Fc _ b _;exact Fc _ b _
   left;dsimp only;rw[wC];split<;>rfl
 |eO p=>show FrA s (lx s M p).2.2.1 _;unfold lx;dsimp only;split;exact qw (Lp _ _ _);exact qw rfl
 |ef=>
   dsimp only;cases s.aQ with
   |none=>exact qw rfl
   |some l=>dsimp only[ip];split<;>exact qw rfl
 |c8=>
   dsimp only;cases s.aN with
   |none=>exact qw rfl
   |some t=>dsimp only[ia];split<;>exact qw rfl
 |cK ck=>show FrA s (gu s M ck).2.2.1 _;unfold gu;dsimp only;split;exact qw (zp _);split<;>exact qw rfl
 |bN=>show FrA s (fo s M).2.2.1 _;unfold fo;dsimp only;split;exact qw (zp _);split;exact qw rfl;exact qw (zp _)
 |dy w=>show FrA s (gF s M w).2.2.1 _;unfold gF;dsimp only;split<;>exact qw rfl
 |bG w=>exact qw rfl
 |eR=>exact qw rfl
 |ey=>exact qw (CJ s)
 |eG p=>show FrA s (iT s M p).2.2.1 _;unfold iT;dsimp only;split;exact qw (CJ _);exact qw rfl
def Mg {c:bu}{k:Nat}{s:aJ}(h:oU c k s)(hf:∀x∈s.aB,0<=x/\x<c.nb)(M:Mm):∀x∈(aY s M).2.2.1.aB,0<=x/\x<c.nb:=by
 have hd:=h.d;intro x hx;rcases TM s M with e|⟨b,hb,e⟩;rw[e]at hx;exact hf x hx;rw[e]at hx;rcases ZG.1 hx with hx|hx;exact hf x hx;rw[List.mem_singleton]at hx;subst hx;cases Ta:s.aH with
 |iY k=>
   rw[Ta]at hd hb;cases k with
   |dz b v=>injection hb with hb;subst hb;exact hd.2
   |_=>cases hb
 |be r u=>
   rw[Ta]at hd hb;cases u with
   |dz b=>injection hb with hb;subst hb;exact hd.2.2.2.2.1
   |take=>cases hb
 |_=>rw[Ta]at hb;cases hb
variable {c:bu} {nt k:Nat} {M:Mm}
structure JV (c:bu) (p:gy):Prop where
 fa:p.fa=eE c p.block
 cl0:0<=p.fa
 head:li c p.fa p.head
 bR:0<=p.bR/\p.bR<=2
structure pV (c:bu) (nt k:Nat) (t:aV):Prop where
 cf:t.cf=c
 nn:t.nt=nt
 zH:0<=t.id/\t.id<nt/\nt<=16
 uB:(b7 t.aD).2=0
 pc:0<=t.pc/\t.pc<=t.aD.length
 dn:t.done=decide (t.pc=t.aD.length)
 iA:t.iA.length<=2*k
 sn:t.dC.length<=k
 Bl:t.iw.length<=8*k
 DM:∀x∈t.iw,0<=eE c x.1
 y8:0<=t.kz/\t.kz<=k
 C1:0<=t.jz/\t.jz<=k
 pG:0<=t.gt/\t.gt<=k
structure Adv (c:bu) (k:Nat) (t:aV) (s:aJ):Prop where
 ok:oU c k s
 st:s.aG=1
 GQ:∀x∈s.aB,0<=x/\x<c.nb
 Ui:t.aZ=true->(t.dG.op=12\/t.dG.op=13)/\bY t.aD t.pc.toNat=none
 Hv:t.aZ=false->d9 t.aD t.bW.toNat=7/\bY t.aD t.bW.toNat=none/\0<=t.bW/\
  ((t.pc=t.bW/\t.dG.op=7)\/(bY t.aD t.pc.toNat=some t.bW.toNat/\(t.dG.op=10\/t.dG.op=11\/t.dG.op=14\/t.dG.op=15))\/vH s.aH)
structure Rest (c:bu) (k:Nat) (t:aV) (s:aJ):Prop where
 ok:oU c k s
 st:s.aG=1
 GQ:∀x∈s.aB,0<=x/\x<c.nb
 Ui:t.aZ=false
 Hv:d9 t.aD t.bW.toNat=7/\bY t.aD t.bW.toNat=none/\0<=t.bW/\bY t.aD t.pc.toNat=some t.bW.toNat
structure mR (c:bu) (nt k:Nat) (t:aV):Prop where
 co:pV c nt k t
 pq:t.fR=none->t.aZ=false/\bY t.aD t.pc.toNat=none
 C8:∀s,t.fR=some s->(if s.kQ=true\/t.aZ=true then Adv c k t s else Rest c k t s)/\t.done=false/\t.dV=none/\t.iA.length+t.dC.length<=2*k
 fen:∀f,t.dV=some f->t.fR=none/\t.done=false/\t.dG.op=16/\f.af=t.id/\f.oW=nt/\(0<=f.next/\f.next<=nt)/\(t.dP=none->f.done=false)
 UM:t.dV=none->t.dP=none
 dr:∀l,t.dP=some l->l≠[]/\l.length<=8*k/\∀p∈l,JV c p
section
variable {t:aV} {s:aJ}
def pV.mono {k':Nat}(h:pV c nt k t)(hk:k<=k'):pV c nt k' t:=
 ⟨h.cf,h.nn,h.zH,h.uB,h.pc,h.dn,by have:=h.iA;omega,by have:=h.sn;omega,by have:=h.Bl;omega,h.DM,by have:=h.y8;omega,by have:=h.C1;omega,by have:=h.pG;omega⟩
def pV.lt (h:pV c nt k t)(hd:t.done=qn):t.pc<U t.aD:=by
 have:=h.dn;rw[hd]at this;have h1:¬t.pc=U t.aD:=by simpa using this.symm
 have:=h.pc;omega
def pV.dG (h:pV c nt k t)(hd:t.done=qn):∃hk:t.pc.toNat<U t.aD,t.dG=t.aD[t.pc.toNat]:=by
 have h1:=h.lt hd;have h2:=h.pc;have hk:t.pc.toNat<U t.aD:=Ya
 refine⟨hk,?_⟩;unfold aV.dG aV.yD;rw[List.getD_eq_getElem?_getD,Zf hk];rfl
def pV.to (h:pV c nt k t){pc:Int}(hp:0<=pc/\pc<=U t.aD):pV c nt k (t.to pc):=⟨h.cf,h.nn,h.zH,h.uB,hp,rfl,h.iA,h.sn,h.Bl,h.DM,h.y8,h.C1,h.pG⟩
def pV.io (h:pV c nt k t)(a v:Int):pV c nt k (t.io a v):=⟨h.cf,h.nn,h.zH,h.uB,h.pc,h.dn,h.iA,h.sn,h.Bl,h.DM,h.y8,h.C1,h.pG⟩
def pV.sY (h:pV c nt k t)(kd v:Int):pV c nt (k+1) (t.sY kd v):=
 ⟨h.cf,h.nn,h.zH,h.uB,h.pc,h.dn,by have:=h.iA;simp only[aV.sY,Zh,ZI,List.length_nil];omega,(h.mono (Zx k)).sn,(h.mono (Zx k)).Bl,h.DM,(h.mono (Zx k)).y8,(h.mono (Zx k)).C1,(h.mono (Zx k)).pG⟩
def E1 (h:pV c nt k t)(ha:t.fR=qk)(hs:t.aZ=qn)(hf:t.dV=qk)(hd:t.dP=qk)(je:bY t.aD t.pc.toNat=qk):mR c nt k t:=
 ⟨h,λ_=>⟨hs,je⟩,λs e=>Xi,λf e=>Y4,λ_=>hd,λl e=>(by rw[hd]at e;cases e)⟩
def Cd {x:Int}(h:0<=x):(x+1).toNat=x.toNat+1:=Ya
def UK (h:pV c nt k t)(b9:t.pc<U t.aD)(ha:t.fR=qk)(hs:t.aZ=qn)(hf:t.dV=qk)(hd:t.dP=qk)(je:bY t.aD t.pc.toNat=qk)(h7:d9 t.aD t.pc.toNat≠7)(h8:d9 t.aD t.pc.toNat≠8):mR c nt k t.pQ:=by have lj:=h.pc;refine E1 (h.to Ya) ha hs hf hd ?_;show bY t.aD (t.pc+1).toNat=qk;rw[Cd lj.1];exact E3 je h7 h8
def Pb {f:kB}{nt:Nat}{id:Int}(h1:f.af=id)(h2:id<nt)(h3:0<=f.next/\f.next<=nt):f.skip.af=id/\f.skip.oW=f.oW/\(0<=f.skip.next/\f.skip.next<=nt):=by unfold kB.skip;split;rename_i e;exact⟨h1,rfl,by dsimp only;omega⟩;exact⟨h1,rfl,h3⟩
def QJ {f:kB}{id:Int}(h1:f.af=id)(h2:id<nt)(h3:0<=f.next/\f.next<=nt)(h4:f.oW=nt)(hd:f.done=qn)(M:Mm):(gG f M).2.af=id/\(gG f M).2.oW=nt/\(0<=(gG f M).2.next/\(gG f M).2.next<=nt):=by
 unfold gG;rw[ar (by rw[hd];decide)];split;obtain⟨a,b,d⟩:=Pb (f:={ f with fx:=qj,DN:=(iy M 3 0).eV }) (nt:=nt) h1 h2 h3;exact⟨a,b.trans h4,d⟩;rename_i hl;have SZ:f.fx=qj:=by simpa using hl
 have hn:f.next<nt:=by unfold kB.done at hd;rw[SZ]at hd;simp only[Bool.true_and,decide_eq_false_iff_not]at hd;omega
 split;obtain⟨a,b,d⟩:=Pb (f:={ f with next:=f.next+1 }) (nt:=nt) h1 h2 Yz;exact⟨a,b.trans h4,d⟩;exact⟨h1,h4,h3⟩
def Jo {c:bu}(hc:dl c){b:Int}(h:0<=eE c b):0<=b/\b<c.nb:=by
 have q0:=hc.k0;have q1:=hc.k1;have q2:=hc.k2;have q3:=hc.k3;unfold eE GJ at h;unfold bu.nb
 repeat' split at h
 all_goals(simp only at h;omega)
def Sd (hc:dl c)(hM:mr c nt k M){p:gy}(h:JV c p):mr c nt (k+1) (dD p M).2.2/\((dD p M).2.1.bR≠3->JV c (dD p M).2.1):=by
 have y7:=h.bR;have hb:0<=p.block/\p.block<c.nb:=by have h1:=h.cl0;rw[h.fa]at h1;exact Jo hc h1
 have AU:=DL hc p.block hb;rw[<-h.fa]at AU;have hh:=h.head;rcases zD p M y7 with ⟨h0,e0⟩|⟨h0,w,hw,e0⟩|⟨h0,w,hw,e0⟩;rw[e0];have hg:=I0 hc hM 1 AU.1.1 lQ;exact⟨hM.mono Ya,λ_=>⟨h.fa,h.cl0,hg,by dsimp only;omega⟩⟩;rw[e0];refine⟨hM.op Ya _ _ _ λ_=>⟨λe=>by omega,λ_=>?_,λe=>by omega,λe=>by omega⟩,λ_=>⟨h.fa,h.cl0,hh,by dsimp only;omega⟩⟩;have htop:=O1 hh.1;have h64:=hc.nb;have ht2:=hh.2.1;have jt:Zc.wrap (Zb.wrap (j7 p.head+1))=j7 p.head+1:=by rw[an Ya Ya,ax Ya Ya]
 show rD c (eE c p.block) w;rw[hw,jt,<-h.fa];refine⟨by omega,by omega,λe=>?_⟩;rw[show j7 p.head+1-1=j7 p.head by omega];exact hh.2.2 Ya;rw[e0];refine⟨hM.op Ya _ _ _ λ_=>⟨λ_=>?_,λe=>by omega,λe=>by omega,λe=>by omega⟩,λhn=>⟨h.fa,h.cl0,hh,?_⟩⟩;show li c p.fa w;rw[hw];exact Jt hc hb.2 λ_=>h.fa.symm;dsimp only at hn ⊢;split;rename_i nG;rw[az nG]at hn;exact absurd rfl hn;omega
def tP (h:pV c nt k t)(hd:t.done=qn):d9 t.aD t.pc.toNat=t.dG.op:=by obtain⟨hk,e⟩:=h.dG hd;rw[P1 hk,e]
def Jk {f:kB}{l:List gy}(h:pV c nt k t)(ha:t.fR=qk)(hs:t.aZ=qn)(hd:t.done=qn)(Kg:t.dG.op=16)(je:bY t.aD t.pc.toNat=qk)(hf:t.dV=qf f)(h1:f.af=t.id)(h2:f.oW=nt)(h3:0<=f.next/\f.next<=nt)(hl:t.dP=qf l)(cy:U l<=8*(k+1))(hp:∀p∈l,JV c p):mR c nt (k+1) t.kT:=by
 unfold aV.kT;rw[hl];have ho:=tP h hd;cases l with
 |nil=>have hC:pV c nt (k+1) (({ t with dV:=qk,dP:=qk }:aV).sY 6 0):=pV.sY (t:={ t with dV:=qk,dP:=qk }) ⟨h.cf,h.nn,h.zH,h.uB,h.pc,h.dn,h.iA,h.sn,h.Bl,h.DM,h.y8,h.C1,h.pG⟩ 6 0;exact UK hC (h.lt hd) ha hs rfl rfl je (by show d9 t.aD t.pc.toNat≠7;omega) (by show d9 t.aD t.pc.toNat≠8;omega)
 |cons q l=>
   have e:¬(q::l=[]):=λe=>by cases e
   exact⟨h.mono Ya,λ_=>⟨hs,je⟩,λs e=>Xi,λf' e=>(by rw[hf]at e;injection e with e;subst e;exact⟨ha,hd,Kg,h1,h2,h3,λe=>(by rw[hl]at e;cases e)⟩),
    λe=>Y4,λl' e'=>(by rw[hl]at e';injection e' with e';subst e';exact⟨e,cy,hp⟩)⟩
def Uf (hc:dl c)(hM:mr c nt k M){f:kB}(h:pV c nt k t)(ha:t.fR=qk)(hs:t.aZ=qn)(hd:t.done=qn)(Kg:t.dG.op=16)(je:bY t.aD t.pc.toNat=qk)(hf:t.dV=qf f)(h1:f.af=t.id)(h2:f.oW=nt)(h3:0<=f.next/\f.next<=nt)(hn:t.dP=qk->f.done=qn)(hdl:∀l,t.dP=qf l->l≠[]/\U l<=8*k/\∀p∈l,JV c p):
 mR c nt (k+1) (t.vJ M f).2.1/\mr c nt (k+1) (t.vJ M f).2.2:=by
 unfold aV.vJ;cases e:t.dP with
 |none=>
   dsimp only;refine⟨?_,hM.mono Ya⟩;obtain⟨a1,a2,a3⟩:=QJ h1 h.zH.2.1 h3 h2 (hn e) M;by_cases nG:(gG f M).2.done=qj;rw[az nG];refine Jk (k:=k) (f:=(gG f M).2) (l:=nV t.cf t.iw (gG f M).2.p9) ⟨h.cf,h.nn,h.zH,h.uB,h.pc,h.dn,h.iA,h.sn,?_,?_,h.y8,h.C1,h.pG⟩ ha hs hd Kg je rfl a1 a2 a3 rfl ?_ ?_;have:=kaN (λx:Int×Int=>decide ((gG f M).2.p9<x.2)) t.iw;have:=h.Bl;show U (lH t.iw (gG f M).2.p9)<=_;unfold lH;omega;intro x hx;exact h.DM x (kax.1 hx).1;have:=kaN (λx:Int×Int=>!decide ((gG f M).2.p9<x.2)) t.iw;have:=h.Bl;unfold nV;rw[ZF];omega;intro p hp;obtain⟨x,hx,rfl⟩:=List.mem_map.1 hp;have hx2:=h.DM x (kax.1 hx).1;rw[h.cf];exact⟨rfl,hx2,li.zero hc _,by dsimp only;omega⟩;rw[ar nG];unfold aV.kT;dsimp only
   exact⟨pV.mono (k:=k) ⟨h.cf,h.nn,h.zH,h.uB,h.pc,h.dn,h.iA,h.sn,h.Bl,h.DM,h.y8,h.C1,h.pG⟩ Ya,λ_=>⟨hs,je⟩,λs e=>Xi,
    λf' e'=>(by injection e' with e';subst e';exact⟨ha,hd,Kg,a1,a2,a3,λ_=>by simpa using nG⟩),λe'=>(by cases e'),λl' e'=>(by cases e')⟩
 |some l=>
   dsimp only;obtain⟨g1,g2,g3⟩:=hdl l e;cases l with
   |nil=>exact absurd rfl g1
   |cons p l=>obtain⟨b1,b2⟩:=Sd hc hM (g3 p (List.mem_cons_self ..));refine⟨?_,b1⟩;refine Jk (k:=k) (f:=f) (l:=(CM (p::l) M).2.1) ⟨h.cf,h.nn,h.zH,h.uB,h.pc,h.dn,h.iA,h.sn,h.Bl,h.DM,h.y8,h.C1,h.pG⟩ ha hs hd Kg je hf h1 h2 h3 rfl ?_ ?_;show U (if (dD p M).2.1.bR=3 then l else (dD p M).2.1::l)<=_;rw[ZI]at g2;split;omega;rw[ZI];omega;intro q hq;have pS:q∈(if (dD p M).2.1.bR=3 then l else (dD p M).2.1::l):=hq;split at pS;exact g3 q (kbl _ pS);rename_i h9;rcases List.mem_cons.1 pS with rfl|pS;exact b2 h9;exact g3 q (kbl _ pS)
def Vo (hs:s.aG=1)(M:Mm):(aY s M).2.2.1.aG=1\/((aY s M).2.2.1.aG=2/\(aY s M).2.2.1.aH=.bC):=by
 have h:=BZ s M;cases e:s.aH<;>rw[e]at h
 case gC=>right;unfold aY;rw[e];exact⟨rfl,rfl⟩
 all_goals exact qw (h.trans hs)
def WW (h:vH s.aH):s.kQ=qj:=by unfold aJ.kQ;revert h;cases s.aH<;>first|(intro h;exact absurd h id)|(intro _;rfl)
def Wi (h:s.aH=.bC):s.kQ=qn:=by unfold aJ.kQ;rw[h];rfl
def end1_ok (h:pV c nt (k+1) t)(uO:U t.iA+U t.dC<=2*k)(hlm:U t.iw<=8*k)(rx:U s.aB<=8):
 pV c nt (k+1) (t.sm s)/\(t.sm s).iA.length<=2*k/\(t.sm s).fR=qk/\(t.sm s).aD=t.aD/\(t.sm s).bW=t.bW/\(t.sm s).aZ=t.aZ/\(t.sm s).dV=t.dV/\(t.sm s).dP=t.dP/\(t.sm s).jz=t.jz:=by
 unfold aV.sm;split;refine⟨⟨h.cf,h.nn,h.zH,h.uB,h.pc,h.dn,by show U (t.iA++t.dC)<=_;rw[Zh];omega,h.sn,?_,?_,h.y8,h.C1,h.pG⟩,by show U (t.iA++t.dC)<=_;rw[Zh];omega,rfl,rfl,rfl,rfl,rfl,rfl,rfl⟩;dsimp only;split;unfold pJ;have:=kaN (λb=>decide (0<=eE t.cf b)) s.aB;rw[Zh,ZF];omega;exact h.Bl;intro x hx;dsimp only at hx;split at hx;unfold pJ at hx;rcases ZG.1 hx with hx|hx;exact h.DM x hx;obtain⟨b,hb,rfl⟩:=List.mem_map.1 hx;have:=(kax.1 hb).2;rw[h.cf]at this
 simpa using this
 exact h.DM x hx;exact⟨⟨h.cf,h.nn,h.zH,h.uB,h.pc,h.dn,h.iA,h.sn,h.Bl,h.DM,h.y8,h.C1,h.pG⟩,by dsimp only;omega,rfl,rfl,rfl,rfl,rfl,rfl,rfl⟩
def end2_ok (h:pV c nt (k+1) t)(uO:U t.iA<=2*k)(ha:t.fR=qk)(hs:t.aZ=qn)(hf:t.dV=qk)(fM:t.dP=qk)(h7:d9 t.aD t.bW.toNat=7)(je:bY t.aD t.bW.toNat=qk)(aD:Int):mR c nt (k+1) (t.lK aD):=by obtain⟨e1,e2,e3⟩:=end_scan h.uB h7 je;unfold aV.lK;refine E1 (pV.to (t:={ t with jz:=0,mn:=aD,iA:=t.iA++[⟨t.bW,3,Zc.wrap aD⟩] }) ⟨h.cf,h.nn,h.zH,h.uB,h.pc,h.dn,?_,h.sn,h.Bl,h.DM,h.y8,by dsimp only;omega,h.pG⟩ Yz) ha hs hf fM ?_;dsimp only;rw[Zh,ZO];omega;show bY t.aD (((dH t.aD t.bW.toNat:Nat):Int)+1).toNat=qk;rw[show (((dH t.aD t.bW.toNat:Nat):Int)+1).toNat=dH t.aD t.bW.toNat+1 by omega];exact e3
def fin_ok (h:pV c nt (k+1) t)(uO:U t.iA+U t.dC<=2*k)(hlm:U t.iw<=8*k)(rx:U s.aB<=8)(hs:t.aZ=qn)(hf:t.dV=qk)(fM:t.dP=qk)(h7:d9 t.aD t.bW.toNat=7)(je:bY t.aD t.bW.toNat=qk)(WC:0<=t.bW):mR c nt (k+1) (t.bZ s):=by obtain⟨g1,g2,g3,g4,g5,g6,g7,g8,g9⟩:=end1_ok (s:=s) h uO hlm rx;have RE:t.bW.toNat<U t.aD:=um Ya;have e2:∀aD,mR c nt (k+1) ((t.sm s).lK aD):=λaD=>end2_ok g1 g2 g3 (g6.trans hs) (g7.trans hf) (g8.trans fM) (by rw[g4,g5];exact h7) (by rw[g4,g5];exact je) aD;unfold aV.bZ;split;split;refine E1 (g1.to (by rw[g4];omega)) g3 (g6.trans hs) (g7.trans hf) (g8.trans fM) ?_;show bY (t.sm s).aD t.bW.toNat=qk;rw[g4];exact je;exact e2 _;exact e2 _
def Es (h:pV c nt (k+1) t)(uO:U t.iA<=2*k)(hd:t.done=qn)(ha:t.fR=qk)(hs:t.aZ=qn)(hf:t.dV=qk)(fM:t.dP=qk)(lV:t.dG.op=12\/t.dG.op=13)(je:bY t.aD t.pc.toNat=qk)(kd v:Int):mR c nt (k+1) (t.sY kd v).pQ:=by have ho:=tP h hd;have hC:pV c nt (k+1) (t.sY kd v):=⟨h.cf,h.nn,h.zH,h.uB,h.pc,h.dn,by simp only[aV.sY,Zh,ZO];omega,h.sn,h.Bl,h.DM,h.y8,h.C1,h.pG⟩;exact UK hC (h.lt hd) ha hs hf fM je (by show d9 t.aD t.pc.toNat≠7;omega) (by show d9 t.aD t.pc.toNat≠8;omega)
def JN (h:pV c nt (k+1) t)(uO:U t.iA<=2*k)(hd:t.done=qn)(ha:t.fR=qk)(hs:t.aZ=qn)(hf:t.dV=qk)(fM:t.dP=qk)(lV:t.dG.op=12\/t.dG.op=13)(je:bY t.aD t.pc.toNat=qk)(i:bp)(v:Int):mR c nt (k+1) (t.Fu i v):=by unfold aV.Fu;split;exact Es (h.io _ _) uO hd ha hs hf fM lV je _ _;exact Es h uO hd ha hs hf fM lV je _ _
def WY (h:pV c nt (k+1) t)(uO:U t.iA<=2*k)(hd:t.done=qn)(hf:t.dV=qk)(fM:t.dP=qk)(lV:t.dG.op=12\/t.dG.op=13)(je:bY t.aD t.pc.toNat=qk)(i:bp):mR c nt (k+1) (t.mI i s):=by have h1:pV c nt (k+1) ({ t with fR:=qk,aZ:=qn }:aV):=⟨h.cf,h.nn,h.zH,h.uB,h.pc,h.dn,h.iA,h.sn,h.Bl,h.DM,h.y8,h.C1,h.pG⟩;unfold aV.mI;dsimp only;split;exact JN h1 uO hd rfl rfl hf fM lV je _ _;split;exact Es h1 uO hd rfl rfl hf fM lV je _ _;exact E1 h1 rfl rfl hf fM je
def Om (hc:dl c)(hk:k<2^40)(hM:mr c nt k M)(h:pV c nt (k+1) t)(uO:U t.iA+U t.dC<=2*k)(P3:U t.dC<=k)(hlm:U t.iw<=8*k)(hd:t.done=qn)(hf:t.dV=qk)(fM:t.dP=qk)(hA:Adv c k t s):
 mR c nt (k+1) (t.yU M s).2.2.1/\mr c nt (k+1) (t.yU M s).2.2.2:=by
 obtain⟨hK1,hK2⟩:=AD hc hk hA.ok hM;have cJ:=Vo hA.st M;have Ga:=Mg hA.ok hA.GQ M;have ry:=λh=>WV (s:=s) h hA.st M;unfold aV.yU;dsimp only;generalize aY s M=r at hK1 hK2 cJ ry Ga ⊢;obtain⟨a,ph,s',M'⟩:=r;dsimp only at hK1 hK2 cJ ry Ga ⊢;refine⟨?_,hK2⟩;have h1:pV c nt (k+1) ({ t with fR:=qf s' }:aV):=⟨h.cf,h.nn,h.zH,h.uB,h.pc,h.dn,h.iA,h.sn,h.Bl,h.DM,h.y8,h.C1,h.pG⟩;have rx:U s'.aB<=8:=by have e1:=hK1.b.GQ;have e2:=hc.aB;omega
 have ho:=tP h hd;have b9:=h.lt hd;have lj:=h.pc;by_cases hb:s'.kQ=qj;rw[az hb];have ED:s'.aG=1:=by rcases cJ with e|⟨_,e⟩;exact e;rw[Wi e]at hb;cases hb
 refine⟨h1,λe=>Ym,λs2 e=>?_,λf e=>Y4,λ_=>fM,λl e=>(by rw[fM]at e;cases e)⟩;injection e with e;subst e;refine⟨?_,hd,hf,by dsimp only;omega⟩;rw[az (qw hb)];refine⟨hK1,ED,Ga,hA.Ui,λe=>?_⟩;obtain⟨w1,w2,w3,w4⟩:=hA.Hv e;refine⟨w1,w2,w3,?_⟩;rcases w4 with w|w|w;exact qw w;exact qB (qw w);rcases ry w with ⟨_,w⟩|⟨w,_⟩;exact qB (qB w);omega;rw[ar hb];have lW:s'.kQ=qn:=by simpa using hb
 unfold aV.wi;rcases cJ with e1|⟨e2,_⟩;rw[ar Ya];have fL:¬vH s.aH:=λw=>by rcases ry w with ⟨_,w⟩|⟨w,_⟩;rw[WW w]at lW;cases lW;omega
 by_cases hs:t.aZ=qj;rw[az hs];refine⟨h1,λe=>Ym,λs2 e=>?_,λf e=>Y4,λ_=>fM,λl e=>(by rw[fM]at e;cases e)⟩;injection e with e;subst e;refine⟨?_,hd,hf,by dsimp only;omega⟩;rw[az (qB hs)];exact⟨hK1,e1,Ga,hA.Ui,λe=>(by rw[hs]at e;cases e)⟩;rw[ar hs];have Wk:t.aZ=qn:=by simpa using hs
 obtain⟨w1,w2,w3,w4⟩:=hA.Hv Wk;have je:bY t.aD (t.pc+1).toNat=qf t.bW.toNat:=by rw[Cd lj.1];rcases w4 with ⟨w,w'⟩|⟨w,w'⟩|w;rw[w];exact TG w2 w1;exact E3 w Ya Ya;exact absurd w fL
 have se:t.pc+1<U t.aD:=by
  rcases Int.lt_or_le (t.pc+1) (U t.aD) with e|e;exact e;have e9:(t.pc+1).toNat=U t.aD:=Ya
  rw[e9,(gA h.uB).2.2]at je;cases je
 have bZ:∀t2:aV,pV c nt (k+1) t2->t2.fR=qf s'->t2.aZ=qn->t2.dV=qk->t2.dP=qk->t2.aD=t.aD->t2.bW=t.bW->t2.pc=t.pc->U t2.iA+U t2.dC<=2*(k+1)->mR c nt (k+1) t2.pQ:=by intro t2 g1 g2 g3 g4 g5 g6 g7 g8 g9;have jn:pV c nt (k+1) t2.pQ:=g1.to (by rw[g6,g8];omega);refine⟨jn,λe=>?_,λs2 e=>?_,λf e=>?_,λ_=>g5,λl e=>?_⟩;have e':t2.fR=qk:=e;rw[g2]at e';cases e';have e':t2.fR=qf s2:=e;rw[g2]at e';injection e' with e';subst e';refine⟨?_,?_,g4,g9⟩;rw[ar (by rw[lW];show ¬(qn=qj\/t2.aZ=qj);rw[g3];simp)];refine⟨hK1,e1,Ga,g3,?_⟩;show d9 t2.aD t2.bW.toNat=7/\bY t2.aD t2.bW.toNat=qk/\0<=t2.bW/\bY t2.aD (t2.pc+1).toNat=qf t2.bW.toNat;rw[g6,g7,g8];exact⟨w1,w2,w3,je⟩;show decide (t2.pc+1=U t2.aD)=qn;rw[g6,g8];exact decide_eq_false Ya;have e':t2.dV=qf f:=e;rw[g4]at e';cases e';have e':t2.dP=qf l:=e;rw[g5]at e';cases e'
 have S9:∀r kd v,pV c nt (k+1) (({ t with fR:=qf s' }:aV).eV r kd v):=λr kd v=>⟨h.cf,h.nn,h.zH,h.uB,h.pc,h.dn,h.iA,by simp only[aV.eV,aV.io,Zh,ZO];omega,h.Bl,h.DM,h.y8,h.C1,h.pG⟩;split;exact bZ _ (S9 _ _ _) rfl Wk hf fM rfl rfl rfl XA;split;exact bZ _ (S9 _ _ _) rfl Wk hf fM rfl rfl rfl XA;exact bZ _ h1 rfl Wk hf fM rfl rfl rfl Yz;rw[az e2];by_cases hs:t.aZ=qj;rw[az hs];obtain⟨w1,w2⟩:=hA.Ui hs;exact WY h1 Yz hd hf fM w1 w2 _;rw[ar hs];have Wk:t.aZ=qn:=by simpa using hs
 obtain⟨w1,w2,w3,w4⟩:=hA.Hv Wk;exact fin_ok h1 uO hlm rx Wk hf fM w1 w2 w3
variable {eu:Int->Int->Int->Int}
def loc_co (h:pV c nt k t)(hd:t.done=qn)(IP:t.dG.op≠7/\t.dG.op≠8):∃pc,pV c nt k (t.iY eu t.dG)/\(t.iY eu t.dG).pc=pc/\(0<=pc/\pc<=U t.aD)/\bY t.aD pc.toNat=bY t.aD t.pc.toNat/\(t.iY eu t.dG).done=decide (pc=U t.aD)/\(t.iY eu t.dG).aD=t.aD/\(t.iY eu t.dG).fR=t.fR/\(t.iY eu t.dG).aZ=t.aZ/\(t.iY eu t.dG).dV=t.dV/\(t.iY eu t.dG).dP=t.dP/\(t.iY eu t.dG).bW=t.bW/\(t.iY eu t.dG).iA=t.iA/\(t.iY eu t.dG).dC=t.dC:=by
 have b9:=h.lt hd;have lj:=h.pc;obtain⟨j6,hi⟩:=h.dG hd;have ho:=tP h hd;have hnx:bY t.aD (t.pc+1).toNat=bY t.aD t.pc.toNat:=by rw[Cd lj.1];exact E3 rfl Ya Ya
 have hpc2:∃pc,pc=(t.pc+1+if t.dG.op=4\/(t.dG.op=5/\t.dY.bk t.dG.a=0)\/(t.dG.op=6/\t.dY.bk t.dG.a≠0) then t.dG.cg else 0)/\(0<=pc/\pc<=U t.aD)/\bY t.aD pc.toNat=bY t.aD t.pc.toNat:=by
  refine⟨_,rfl,?_⟩;split;rename_i hj;have OJ:t.aD[t.pc.toNat].op=4\/t.aD[t.pc.toNat].op=5\/t.aD[t.pc.toNat].op=6:=by rw[<-hi];omega
  obtain⟨j1,j2⟩:=We h.uB j6 OJ;obtain⟨_,j3⟩:=tgt_of h.uB j6 OJ;rw[<-hi]at j1 j2 j3;refine⟨by omega,?_⟩;rw[<-j2];congr 1;omega;refine⟨by omega,?_⟩;rw[Int.add_zero];exact hnx
 obtain⟨pc,he,hr,je⟩:=hpc2;refine⟨pc,?_,?_,hr,je,?_⟩;unfold aV.iY;rw[<-he];split;exact(h.io _ _).to hr;split;exact(h.io _ _).to hr;split;exact(h.io _ _).to hr;split;exact(h.io _ _).to hr;exact h.to hr;unfold aV.iY;rw[<-he];rfl;unfold aV.iY;rw[<-he];have e:∀t2:aV,t2.aD=t.aD->t2.fR=t.fR->t2.aZ=t.aZ->t2.dV=t.dV->t2.dP=t.dP->t2.bW=t.bW->t2.iA=t.iA->t2.dC=t.dC->(t2.to pc).done=decide (pc=U t.aD)/\(t2.to pc).aD=t.aD/\(t2.to pc).fR=t.fR/\(t2.to pc).aZ=t.aZ/\(t2.to pc).dV=t.dV/\(t2.to pc).dP=t.dP/\(t2.to pc).bW=t.bW/\(t2.to pc).iA=t.iA/\(t2.to pc).dC=t.dC:=by intro t2 a1 a2 a3 a4 a5 a6 a7 a8;refine⟨?_,a1,a2,a3,a4,a5,a6,a7,a8⟩;show decide (pc=U t2.aD)=_;rw[a1]
 split;exact e _ rfl rfl rfl rfl rfl rfl rfl rfl;split;exact e _ rfl rfl rfl rfl rfl rfl rfl rfl;split;exact e _ rfl rfl rfl rfl rfl rfl rfl rfl;split;exact e _ rfl rfl rfl rfl rfl rfl rfl rfl;exact e _ rfl rfl rfl rfl rfl rfl rfl rfl
def loc_out (h:pV c nt k t)(hd:t.done=qn)(IP:t.dG.op≠7/\t.dG.op≠8)(ha:t.fR=qk)(hs:t.aZ=qn)(hf:t.dV=qk)(fM:t.dP=qk)(je:bY t.aD t.pc.toNat=qk):mR c nt (k+1) (t.iY eu t.dG):=by obtain⟨pc,g0,g1,g2,g3,g4,g5,g6,g7,g8,g9,jn,i9,rT⟩:=loc_co (eu:=eu) h hd IP;exact E1 (g0.mono Ya) (g6.trans ha) (g7.trans hs) (g8.trans hf) (g9.trans fM) (by rw[g5,g1,g3];exact je)
def LE (hc:dl c)(hk:k<2^40)(hM:mr c nt k M)(h:pV c nt (k+1) t)(hcn:t.kz<=k)(uO:U t.iA<=2*k)(hlm:U t.iw<=8*k)(hd:t.done=qn)(hf:t.dV=qk)(fM:t.dP=qk)(hs:t.aZ=qj->(t.dG.op=12\/t.dG.op=13)/\bY t.aD t.pc.toNat=qk)(hw:t.aZ=qn->t.pc=t.bW/\t.dG.op=7/\bY t.aD t.pc.toNat=qk):
 mR c nt (k+1) (t.sX.yU M (gE (fq t.cf t.id)).2).2.2.1/\mr c nt (k+1) (t.sX.yU M (gE (fq t.cf t.id)).2).2.2.2:=by
 have OK:=h.zH;have hcn0:=h.y8;have h1:pV c nt (k+1) t.sX:=⟨h.cf,h.nn,h.zH,h.uB,h.pc,h.dn,h.iA,by show U ([]:List lq)<=_;simp,h.Bl,h.DM,by show 0<=t.kz+1/\t.kz+1<=((k+1:Nat):Int);omega,h.C1,h.pG⟩;have hn:(fq t.cf t.id).nT 0=qj:=rfl;have hb:oU c k (gE (fq t.cf t.id)).2:=Fk (by rw[h.cf];exact Cs hc k t.id Ya);have cJ:(gE (fq t.cf t.id)).2.aG=1:=by unfold gE;rw[az hn]
 have hbf:∀x∈(gE (fq t.cf t.id)).2.aB,0<=x/\x<c.nb:=by unfold gE;rw[az hn];intro x hx;cases hx
 refine Om hc hk hM h1 (by show U t.iA+U ([]:List lq)<=_;simpa using uO) (by show U ([]:List lq)<=_;simp) hlm hd hf fM ⟨hb,cJ,hbf,hs,λe=>?_⟩;obtain⟨w1,w2,w3⟩:=hw e;have lj:=h.pc;have ho:=tP h hd;show d9 t.aD t.bW.toNat=7/\bY t.aD t.bW.toNat=qk/\0<=t.bW/\_;rw[<-w1];exact⟨ho.trans w2,w3,lj.1,qw ⟨w1,w2⟩⟩
def plain_ok (hc:dl c)(hk:k<2^40)(hM:mr c nt k M)(h:pV c nt k t)(hd:t.done=qn)(ha:t.fR=qk)(hs:t.aZ=qn)(hf:t.dV=qk)(fM:t.dP=qk)(je:bY t.aD t.pc.toNat=qk)(lV:t.dG.op=12\/t.dG.op=13):
 mR c nt (k+1) (t.plain M t.dG).2.2.1/\mr c nt (k+1) (t.plain M t.dG).2.2.2:=by have h':=h.mono (Zx k);have uO:=h.iA;unfold aV.plain;dsimp only;split;refine⟨?_,hM.mono Ya⟩;split;exact Es (h'.io _ _) uO hd ha hs hf fM lV je _ _;exact Es h' uO hd ha hs hf fM lV je _ _;split;exact LE hc hk hM (t:={ t with aZ:=qj,gt:=0 }) ⟨h'.cf,h'.nn,h'.zH,h'.uB,h'.pc,h'.dn,h'.iA,h'.sn,h'.Bl,h'.DM,h'.y8,h'.C1,by dsimp only;omega⟩ h.y8.2 uO h.Bl hd hf fM (λ_=>⟨lV,je⟩) (λe=>Ym);split;exact⟨JN h' uO hd ha hs hf fM lV je _ _,hM.mono Ya⟩;exact⟨JN h' uO hd ha hs hf fM lV je _ _,hM.op0 Ya _ _ _ Yd⟩
def R9 (hc:dl c)(h:oU c k s)(i:bp):oU c k (t.KG i s):=by have u0:∀x,0<=Zc.wrap x:=λx=>(kV x).1;unfold aV.KG;split;exact rdS_ok hc h _ (u0 _);split;exact wtS_ok h _ _ (u0 _);split;exact alS_ok hc h _;split;exact frS_ok hc h _;split;exact Tx h _;split;exact Tx h _;exact h
def ET (hs:s.aG=1)(i:bp):(t.KG i s).aG=1:=by
 have key:∀r:aJ,(r=s\/r.aG=1)->r.aG=1:=λr h=>by rcases h with rfl|h;exact hs;exact h
 unfold aV.KG;split;exact key _ (Up s _);split;exact key _ (Ue s _ _);split;exact key _ (alS_req s _);split;exact key _ (frS_req s _);split;exact key _ (NW s _);split;exact key _ (NW s _);exact hs
def rdS_fr (s:aJ)(a:Int):(LM s a).2.aB=s.aB:=by unfold LM;(repeat' split)<;>rfl
def wtS_fr (s:aJ)(a v:Int):(Kl s a v).2.aB=s.aB:=by unfold Kl;split<;>rfl
def alS_fr (s:aJ)(a:Int):(Rf s a).2.aB=s.aB:=by unfold Rf;(repeat' split)<;>rfl
def frS_fr (s:aJ)(a:Int):(QE s a).2.aB=s.aB:=by unfold QE;(repeat' split)<;>rfl
def Ty (s:aJ)(a:Int):(GR s a).2.aB=s.aB:=by unfold GR;(repeat' split)<;>rfl
def LK (hf:∀x∈s.aB,0<=x/\x<c.nb)(i:bp):∀x∈(t.KG i s).aB,0<=x/\x<c.nb:=by
 have e:(t.KG i s).aB=s.aB:=by unfold aV.KG;split;exact rdS_fr _ _;split;exact wtS_fr _ _ _;split;exact alS_fr _ _;split;exact frS_fr _ _;split;exact Ty _ _;split;exact Ty _ _;rfl
 rw[e];exact hf
def Mh (hf:∀x∈s.aB,0<=x/\x<c.nb)(i:bp):∀x∈(t.w9 i s).aB,0<=x/\x<c.nb:=by
 have e:(t.w9 i s).aB=s.aB:=by unfold aV.w9;split;exact Ty _ _;split;exact rdS_fr _ _;exact wtS_fr _ _ _
 rw[e];exact hf
def Hj (hs:s.aG=1)(hb:s.kQ=qn){aD:Int}(L2:aD=1\/aD=2):vH (GR s aD).2.aH:=by
 have hf:s.nT 1=qj:=by
  unfold aJ.kQ at hb;unfold aJ.nT;rw[hs]
  simpa using hb
 unfold GR;rw[az hf,ar Ya];trivial
def TN (hs:s.aG=1)(i:bp):(t.w9 i s).aG=1:=by
 have key:∀r:aJ,(r=s\/r.aG=1)->r.aG=1:=λr h=>by rcases h with rfl|h;exact hs;exact h
 unfold aV.w9;split;exact key _ (NW s _);split;exact key _ (Up s _);exact key _ (Ue s _ _)
def TO (hc:dl c)(h:oU c k s)(i:bp):oU c k (t.w9 i s):=by have u0:∀x,0<=Zc.wrap x:=λx=>(kV x).1;unfold aV.w9;split;exact Tx h _;split;refine rdS_ok hc h _ ?_;unfold aV.rh;split<;>exact u0 _;refine wtS_ok h _ _ ?_;unfold aV.rh;split<;>exact u0 _
def WS (hc:dl c)(hk:k<2^40)(hM:mr c nt k M)(h:pV c nt k t)(hd:t.done=qn)(ha:t.fR=qk)(hs:t.aZ=qn)(hf:t.dV=qk)(fM:t.dP=qk)(je:bY t.aD t.pc.toNat=qk):
 mR c nt (k+1) (t.my eu M t.dG).2.2.1/\mr c nt (k+1) (t.my eu M t.dG).2.2.2:=by have h':=h.mono (Zx k);obtain⟨j6,hi⟩:=h.dG hd;have mT:=(wK h.uB j6).1 je;rw[<-hi]at mT;have htr:=h.C1;unfold aV.my;split;rename_i h7;exact LE hc hk hM (t:={ t with bW:=t.pc,nh:=t.dY,jz:=t.jz+1 }) ⟨h'.cf,h'.nn,h'.zH,h'.uB,h'.pc,h'.dn,h'.iA,h'.sn,h'.Bl,h'.DM,h'.y8,by dsimp only;omega,h'.pG⟩ h.y8.2 h.iA h.Bl hd hf fM (λe=>XB) (λ_=>⟨rfl,h7,je⟩);rename_i h7;rw[ha];dsimp only;split;rename_i lV;exact plain_ok hc hk hM h hd ha hs hf fM je lV;split;rename_i Kg;exact Uf hc hM (t:={ t with fR:=qk,dV:=qf ⟨t.id,t.nt,qn,0,0⟩ }) (f:=⟨t.id,t.nt,qn,0,0⟩) ⟨h.cf,h.nn,h.zH,h.uB,h.pc,h.dn,h.iA,h.sn,h.Bl,h.DM,h.y8,h.C1,h.pG⟩ rfl hs hd Kg je rfl rfl h.nn Yz (λ_=>rfl) (λl e=>XC);exact⟨loc_out h hd ⟨h7,mT.1⟩ ha hs hf fM je,hM.mono Ya⟩
def WR (hc:dl c)(hk:k<2^40)(hM:mr c nt k M)(h:pV c nt k t)(hd:t.done=qn)(ha:t.fR=qf s)(hf:t.dV=qk)(fM:t.dP=qk)(uO:U t.iA+U t.dC<=2*k)(hR:Rest c k t s)(hb:s.kQ=qn):
 mR c nt (k+1) (t.my eu M t.dG).2.2.1/\mr c nt (k+1) (t.my eu M t.dG).2.2.2:=by
 have h':=h.mono (Zx k);obtain⟨j6,hi⟩:=h.dG hd;obtain⟨w1,w2,w3,w4⟩:=hR.Hv;have mT:=(wK h.uB j6).2.1 _ w4;rw[<-hi]at mT;unfold aV.my;rw[ar mT.1,ha];dsimp only;split;rename_i lV;refine Om hc hk hM (t:={ t with fR:=qf (t.KG t.dG s) }) ⟨h'.cf,h'.nn,h'.zH,h'.uB,h'.pc,h'.dn,h'.iA,h'.sn,h'.Bl,h'.DM,h'.y8,h'.C1,h'.pG⟩ uO h.sn h.Bl hd hf fM ⟨R9 hc hR.ok _,ET hR.st _,LK hR.GQ _,λe=>XD,λ_=>⟨w1,w2,w3,?_⟩⟩;by_cases h89:t.dG.op=8\/t.dG.op=9;right;right;unfold aV.KG;rw[ar Ya,ar Ya,ar Ya,ar Ya];split;exact Hj hR.st hb (qw rfl);rw[az Ya];exact Hj hR.st hb (qB rfl);exact qB (qw ⟨w4,by show t.dG.op=10\/t.dG.op=11\/t.dG.op=14\/t.dG.op=15;omega⟩);rename_i lV;refine⟨?_,hM.mono Ya⟩;obtain⟨pc,g0,g1,g2,g3,g4,g5,g6,g7,g8,g9,jn,i9,rT⟩:=loc_co (eu:=eu) h hd ⟨mT.1,by omega⟩;have je:bY t.aD pc.toNat=qf t.bW.toNat:=g3.trans w4
 have se:¬pc=U t.aD:=λe=>by rw[show pc.toNat=U t.aD by omega,(gA h.uB).2.2]at je;cases je
 refine⟨g0.mono Ya,λe=>(by rw[g6,ha]at e;cases e),λs2 e=>?_,λf e=>(by rw[g8,hf]at e;cases e),λ_=>g9.trans fM,λl e=>(by rw[g9,fM]at e;cases e)⟩;rw[g6,ha]at e;injection e with e;subst e;refine⟨?_,by rw[g4];exact decide_eq_false se,g8.trans hf,by rw[i9,rT];omega⟩;rw[ar (by rw[g7,hb,hR.Ui];simp)];exact⟨hR.ok.mono Ya,hR.st,hR.GQ,g7.trans hR.Ui,by rw[g5,jn,g1];exact⟨w1,w2,w3,je⟩⟩
def stepI_ok (hc:dl c)(hk:k<2^40)(hM:mr c nt k M)(h:mR c nt k t)(hd:t.done=qn):mR c nt (k+1) (t.nJ eu M).2.2.1/\mr c nt (k+1) (t.nJ eu M).2.2.2:=by
 have tw:=h.co;have Fa:=tw.mono (Zx k);have hak:=tw.pG;unfold aV.nJ;cases hf:t.dV with
 |some f=>obtain⟨g1,g2,g3,g4,g5,g6,g7⟩:=h.fen f hf;obtain⟨g8,g9⟩:=h.pq g1;exact Uf hc hM tw g1 g8 hd g3 g9 hf g4 g5 g6 g7 h.dr
 |none=>
   have fM:=h.UM hf;dsimp only;cases ha:t.fR with
   |none=>obtain⟨g8,g9⟩:=h.pq ha;exact WS hc hk hM tw hd ha g8 hf fM g9
   |some s=>
     obtain⟨g1,_,_,g2⟩:=h.C8 s ha;dsimp only;by_cases hb:s.kQ=qj;rw[az hb];rw[az (qw hb)]at g1;exact Om hc hk hM Fa g2 tw.sn tw.Bl hd hf fM g1;rw[ar hb];have lW:s.kQ=qn:=by simpa using hb
     by_cases hs:t.aZ=qj;rw[az hs];rw[az (qB hs)]at g1;exact Om hc hk hM (t:=t.ask t.dG s) ⟨Fa.cf,Fa.nn,Fa.zH,Fa.uB,Fa.pc,Fa.dn,Fa.iA,Fa.sn,Fa.Bl,Fa.DM,Fa.y8,Fa.C1,by show 0<=t.gt+1/\t.gt+1<=((k+1:Nat):Int);omega⟩ g2 tw.sn tw.Bl hd hf fM ⟨TO hc g1.ok _,TN g1.st _,Mh g1.GQ _,g1.Ui,λe=>XE⟩;rw[ar hs];rw[ar (by rw[lW];simpa using hs)]at g1;exact WR hc hk hM tw hd ha hf fM g2 g1 lW
def V7 {id:Int}(OK:0<=id/\id<nt/\nt<=16){p:List bp}(hp:(b7 p).2=0):mR c nt 0 (rp c id nt p):=by refine E1 ⟨rfl,rfl,OK,hp,⟨ZH _,by show (0:Int)<=U p;omega⟩,?_,Zv _,Zv _,Zv _,λx hx=>(by cases hx),⟨ZH _,ZH _⟩,⟨ZH _,ZH _⟩,⟨ZH _,ZH _⟩⟩ rfl rfl rfl rfl rfl;show decide (U p=0)=decide ((0:Int)=U p);by_cases e:U p=0;simp[e];rw[decide_eq_false e,decide_eq_false Ya]
def mR.mono {k':Nat}(h:mR c nt k t)(hk:k<=k'):mR c nt k' t:=by refine⟨h.co.mono hk,h.pq,λs e=>?_,h.fen,h.UM,λl e=>?_⟩;obtain⟨g1,g2,g3,g4⟩:=h.C8 s e;refine⟨?_,g2,g3,by omega⟩;split;rename_i hb;rw[az hb]at g1;exact⟨g1.ok.mono hk,g1.st,g1.GQ,g1.Ui,g1.Hv⟩;rename_i hb;rw[ar hb]at g1;exact⟨g1.ok.mono hk,g1.st,g1.GQ,g1.Ui,g1.Hv⟩;obtain⟨g1,g2,g3⟩:=h.dr l e;exact⟨g1,by omega,g3⟩
end
end
section
variable [Gl]
structure Ew (s0 s:aJ):Prop where
 q:vG s
 bQ:s.bQ=s0.bQ
 ne:s.aH≠.dA
 c2:uU s
 th:s.af=s0.af
 r0:∀(r:hY) (u:sT),s.aH=.be r u->r.bR=0
def Came (t:aV)(s:aJ):Prop:=
 t.fR=qf s\/(∃s0,t.fR=qf s0/\s0.aH=.bC/\s0.aG=1/\Ew s0 s)\/(t.fR=qk/\s=(gE (fq t.cf t.id)).2)
inductive uN (c:bu) (k:Nat) (t:aV) (M:Mm):bS->aV->Mm->Prop
 | iY {st:bS} {t':aV}:st.eK=0->st.jq=bj.zero->t'.fR=t.fR->uN c k t M st t' M
 | load {st:bS} {t':aV} (a:Int):t.fR=none->t'.fR=none->c.aZ=false->(0<=a/\a<c.bm)->st.eK=1->st.jq=iy M 1 a->(t.dG.op=12\/t.dG.op=13)->uN c k t M st t' M
 | store {st:bS} {t':aV} (a v:Int):t.fR=none->t'.fR=none->c.aZ=false->(0<=a/\a<c.bm)->st.eK=1->st.jq=FG M 1 a v->(t.dG.op=12\/t.dG.op=13)->uN c k t M st t' (BC M 1 a v)
 | dV {st:bS} {t':aV}:t.fR=none->t'.fR=none->(st.eK=25/\st.jq=iy M 3 0)\/(st.eK=26/\(st.jq=bj.zero\/∃i,st.jq=iy M 6 i))->uN c k t M st t' M
 | dP {st:bS} {t':aV} (p:gy):t.fR=none->t'.fR=none->JV c p->st.eK=eJ (dD p M).1->st.jq=(dD p M).1->uN c k t M st t' (dD p M).2.2
 | fR {st:bS} {t':aV} (s:aJ):oU c k s->s.aG=1->Came t s->st.eK=(aY s M).2.1->st.jq=(aY s M).1->(t'.fR=some (aY s M).2.2.1\/(t'.fR=none/\(aY s M).2.2.1.aG=2/\(aY s M).2.2.1.aH=.bC))->uN c k t M st t' (aY s M).2.2.2
section
variable {c:bu} {nt k:Nat} {t:aV} {s:aJ} {M:Mm}
def JO (t:aV)(i:bp)(v:Int):(t.Fu i v).fR=t.fR:=by unfold aV.Fu;split<;>rfl
def Jj (t:aV)(s:aJ):(t.sm s).fR=qk:=by unfold aV.sm;split<;>rfl
def fin_att (t:aV)(s:aJ):(t.bZ s).fR=qk:=by unfold aV.bZ;split;split;exact Jj t s;exact Jj t s;exact Jj t s
def Tw (t:aV)(i:bp)(s:aJ):(t.mI i s).fR=qk:=by unfold aV.mI;dsimp only;split;rw[JO];split<;>rfl
def answ_att (t:aV)(i:bp)(s:aJ):(t.wi i s).fR=if s.aG=2 then qk else t.fR:=by unfold aV.wi;split;split;exact Tw t i s;exact fin_att t s;split;rfl;split;rfl;split<;>rfl
def At (hO:oU c k s)(hs:s.aG=1)(t0:aV)(h:Came t0 s)(ht:t.id=t0.id){st:bS}(h1:st.eK=(t.yU M s).1.eK)(h2:st.jq=(t.yU M s).1.jq):uN c k t0 M st (t.yU M s).2.2.1 (t.yU M s).2.2.2:=by refine .fR s hO hs h h1 h2 ?_;have e:=Vo hs M;unfold aV.yU;dsimp only;split;exact qw rfl;rename_i hb;rw[answ_att];rcases e with e|⟨e1,e2⟩;rw[ar Ya];exact qw rfl;rw[az e1];exact qB ⟨rfl,e1,e2⟩
def W5 (h:s.kQ=qn):s.aH=.bC:=by unfold aJ.kQ at h;revert h;cases s.aH<;>first|(intro _;rfl)|(intro h;cases h)
def Vl {r:aJ}(ha:t.fR=qf s)(hb:s.kQ=qn)(hs:s.aG=1)(h:r=s\/Ew s r):Came t r:=by rcases h with rfl|h;exact qw ha;exact qB (qw ⟨s,ha,W5 hb,hs,h⟩)
def Uo (s:aJ)(a:Int):(LM s a).2=s\/Ew s (LM s a).2:=by unfold LM;split;split;exact qB ⟨iL trivial,rfl,by simp,trivial,rfl,λr u e=>by cases e⟩;split;exact qB ⟨iL trivial,rfl,by simp,trivial,rfl,λr u e=>by cases e⟩;exact qB ⟨iL trivial,rfl,by simp[xx],trivial,rfl,λr u e=>by cases e;rfl⟩;exact qw rfl
def Ud (s:aJ)(a v:Int):(Kl s a v).2=s\/Ew s (Kl s a v).2:=by unfold Kl;split;exact qB ⟨iL trivial,rfl,by simp,trivial,rfl,λr u e=>by cases e⟩;exact qw rfl
def al_came (s:aJ)(a:Int):(Rf s a).2=s\/Ew s (Rf s a).2:=by unfold Rf;split;split;exact qw rfl;split;exact qB ⟨iL trivial,rfl,by simp,trivial,rfl,λr u e=>by cases e⟩;exact qB ⟨iL trivial,rfl,by simp,trivial,rfl,λr u e=>by cases e⟩;exact qw rfl
def fr_came (s:aJ)(a:Int):(QE s a).2=s\/Ew s (QE s a).2:=by unfold QE;split;split;exact qB ⟨iL trivial,rfl,by simp,trivial,rfl,λr u e=>by cases e⟩;split;exact qB ⟨iL trivial,rfl,by simp,trivial,rfl,λr u e=>by cases e⟩;exact qB ⟨iL trivial,rfl,by simp[xx],trivial,rfl,λr u e=>by cases e;rfl⟩;exact qw rfl
def NV (s:aJ)(a:Int):(GR s a).2=s\/Ew s (GR s a).2:=by unfold GR;split;split;exact qw rfl;exact qB ⟨iL trivial,rfl,by simp,trivial,rfl,λr u e=>by cases e⟩;exact qw rfl
def req_came (t:aV)(i:bp)(s:aJ):t.KG i s=s\/Ew s (t.KG i s):=by unfold aV.KG;split;exact Uo _ _;split;exact Ud _ _ _;split;exact al_came _ _;split;exact fr_came _ _;split;exact NV _ _;split;exact NV _ _;exact qw rfl
def W9 (t:aV)(i:bp)(s:aJ):t.w9 i s=s\/Ew s (t.w9 i s):=by unfold aV.w9;split;exact NV _ _;split;exact Uo _ _;exact Ud _ _ _
def Gh (t:aV):t.kT.fR=t.fR:=by unfold aV.kT;split<;>rfl
def Ly (ha:t.fR=qk){f:kB}(hdl:∀l,t.dP=qf l->l≠[]/\∀p∈l,JV c p){st:bS}(t0:aV)(h0:t0.fR=qk)(h1:st.eK=(t.vJ M f).1.eK)(h2:st.jq=(t.vJ M f).1.jq):uN c k t0 M st (t.vJ M f).2.1 (t.vJ M f).2.2:=by
 revert h1 h2;unfold aV.vJ;cases e:t.dP with
 |none=>
   dsimp only;intro h1 h2;refine .dV h0 ?_ ?_;rw[Gh];split;exact ha;exact ha;rw[h1,h2];by_cases hd:f.done=qj;have:gG f M=(bj.zero,f):=by unfold gG;rw[az hd]
   rw[this];exact qB ⟨by simp[bj.zero],qw rfl⟩;by_cases hl:f.fx=qn;have:(gG f M).1=iy M 3 0:=by unfold gG;rw[ar hd,az hl]
   rw[this];by_cases hc:(iy M 3 0).cell=3;rw[az hc];exact qw ⟨rfl,rfl⟩;rw[ar hc];rcases Pv M 1 3 0 lQ with h|h;refine qB ⟨rfl,qw ?_⟩;unfold iy fk at hc ⊢;by_cases hh:eU M 3 0=qj;rw[az hh]at hc;exact absurd rfl hc;rw[ar hh];exact absurd h.2 hc;have:(gG f M).1=iy M 6 f.next:=by unfold gG;rw[ar hd,ar hl]
   rw[this];have hc:¬(iy M 6 f.next).cell=3:=by unfold iy fk;split;exact(by show ¬(6:Int)=3;decide);exact(by show ¬(0:Int)=3;decide)
   rw[ar hc];exact qB ⟨rfl,qB ⟨_,rfl⟩⟩
 |some l=>
   dsimp only;intro h1 h2;obtain⟨g1,g3⟩:=hdl l e;cases l with
   |nil=>exact absurd rfl g1
   |cons p l=>refine .dP p h0 ?_ (g3 p (List.mem_cons_self ..)) h1 h2;rw[Gh];exact ha
variable {eu:Int->Int->Int->Int}
def UQ (t:aV)(i:bp):(t.iY eu i).fR=t.fR:=by unfold aV.iY;show (if _ then _ else _:aV).fR=_;split;rfl;split;rfl;split;rfl;split<;>rfl
def new_ok (hc:dl c)(h:pV c nt k t):oU c k (gE (fq t.cf t.id)).2/\(gE (fq t.cf t.id)).2.aG=1:=by have OK:=h.zH;refine⟨Fk (by rw[h.cf];exact Cs hc k t.id Ya),?_⟩;have hn:(fq t.cf t.id).nT 0=qj:=rfl;unfold gE;rw[az hn]
def Sh (hc:dl c)(h:pV c nt k t)(ha:t.fR=qk)(lV:t.dG.op=12\/t.dG.op=13){st:bS}(h1:st.eK=(t.plain M t.dG).1.eK)(h2:st.jq=(t.plain M t.dG).1.jq):uN c k t M st (t.plain M t.dG).2.2.1 (t.plain M t.dG).2.2.2:=by
 obtain⟨hO,cJ⟩:=new_ok (k:=k) hc h;have htg:0<=t.rh t.dG:=by unfold aV.rh;split<;>exact(kV _).1
 revert h1 h2;unfold aV.plain;dsimp only;split;intro h1 h2;refine .iY h1 h2 ?_;show (if _ then _ else _:aV).fR=_;split<;>rfl;rename_i b9;split;intro h1 h2;exact At (t:=({ t with aZ:=qj,gt:=0 }:aV).sX) hO cJ t (qB (qB ⟨ha,rfl⟩)) rfl h1 h2;rename_i hstr;have hstr:c.aZ=qn:=by rw[<-h.cf];simpa using hstr
 have ht:0<=t.rh t.dG/\t.rh t.dG<c.bm:=⟨htg,by rw[<-h.cf];omega⟩;split;intro h1 h2;exact .load _ ha (by rw[JO];exact ha) hstr ht h1 h2 lV;intro h1 h2;exact .store _ _ ha (by rw[JO];exact ha) hstr ht h1 h2 lV
def VO (hc:dl c)(h:mR c nt k t)(hd:t.done=qn){st:bS}(h1:st.eK=(t.nJ eu M).1.eK)(h2:st.jq=(t.nJ eu M).1.jq):uN c k t M st (t.nJ eu M).2.2.1 (t.nJ eu M).2.2.2:=by
 have tw:=h.co;revert h1 h2;have hexec:∀(hx:t.fR=qk\/∃s,t.fR=qf s/\s.kQ=qn/\t.aZ=qn),t.dV=qk->st.eK=(t.my eu M t.dG).1.eK->st.jq=(t.my eu M t.dG).1.jq->uN c k t M st (t.my eu M t.dG).2.2.1 (t.my eu M t.dG).2.2.2:=by
  intro hx hf;obtain⟨hO,cJ⟩:=new_ok (k:=k) hc tw;have fM:=h.UM hf;unfold aV.my;split;rename_i h7;intro h1 h2;rcases hx with ha|⟨s,ha,hb,hs⟩;exact At (t:=({ t with bW:=t.pc,nh:=t.dY,jz:=t.jz+1 }:aV).sX) hO cJ t (qB (qB ⟨ha,rfl⟩)) rfl h1 h2;obtain⟨g1,_⟩:=h.C8 s ha;rw[ar (by rw[hb,hs];simp)]at g1;obtain⟨j6,hi⟩:=tw.dG hd;obtain⟨w1,w2,w3,w4⟩:=g1.Hv;have mT:=(wK tw.uB j6).2.1 _ w4;rw[<-hi]at mT;exact absurd h7 mT.1;rcases hx with ha|⟨s,ha,hb,hs⟩;rw[ha];dsimp only;split;rename_i lV;exact Sh hc tw ha lV;split;intro h1 h2;exact Ly (t:={ t with fR:=qk,dV:=qf ⟨t.id,t.nt,qn,0,0⟩ }) rfl (λl e=>XC) t ha h1 h2;intro h1 h2;exact .iY h1 h2 (UQ t t.dG);obtain⟨g1,_⟩:=h.C8 s ha;rw[ar (by rw[hb,hs];simp)]at g1;rw[ha];dsimp only;split;intro h1 h2;exact At (t:={ t with fR:=qf (t.KG t.dG s) }) (R9 hc g1.ok t.dG) (ET g1.st t.dG) t (Vl ha hb g1.st (req_came t t.dG s)) rfl h1 h2
  intro h1 h2;exact .iY h1 h2 (UQ t t.dG)
 unfold aV.nJ;cases hf:t.dV with
 |some f=>obtain⟨g1,g2,g3,g4,g5,g6,g7⟩:=h.fen f hf;intro h1 h2;exact Ly g1 (λl e=>⟨(h.dr l e).1,(h.dr l e).2.2⟩) t g1 h1 h2
 |none=>
   dsimp only;cases ha:t.fR with
   |none=>exact hexec (qw ha) hf
   |some s=>
     obtain⟨g1,_,_,g2⟩:=h.C8 s ha;dsimp only;by_cases hb:s.kQ=qj;rw[az hb];rw[az (qw hb)]at g1;intro h1 h2;exact At g1.ok g1.st t (qw ha) rfl h1 h2;rw[ar hb];have lW:s.kQ=qn:=by simpa using hb
     by_cases hs:t.aZ=qj;rw[az hs];rw[az (qB hs)]at g1;intro h1 h2;exact At (t:=t.ask t.dG s) (TO hc g1.ok t.dG) (TN g1.st t.dG) t (Vl ha lW g1.st (W9 t t.dG s)) rfl h1 h2;rw[ar hs];exact hexec (qB ⟨s,ha,lW,by simpa using hs⟩) hf
end
end
end Go.Stx
