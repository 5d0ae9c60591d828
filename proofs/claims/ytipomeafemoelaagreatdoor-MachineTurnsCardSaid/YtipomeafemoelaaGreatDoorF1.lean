/-
 Contracts over the abstract memory: slices, assertions, maps, regions that draw their order.
-/
import Derived.Test.YtipomeafemoelaaGreatDoorF0
import Derived.Sort.Grow
import Derived.Orders
import Derived.KernelRfl
set_option linter.unusedVariables false
set_option linter.unusedSimpArgs false
set_option linter.unusedSectionVars false
set_option maxRecDepth 20000
open Array renaming all_eq_true_iff_forall_mem->Z1,getD_eq_getD_getElem?->ZV,getElem?_eq_getElem->qV,getElem?_eq_some_iff->qr,getElem?_modify->kan,mem_append->kaq,mem_of_getElem?->ZW,mem_toList_iff->Ze
open Bool renaming and_eq_true->qq,false_eq_true->qt,not_eq_true'->ZF,or_eq_true->ZO
open Go.Call renaming operands->ZA
open Go.Op renaming operands->qn
open Go.Region renaming binds->qS,ready->kaM
open Go.Sort renaming grow->kbc,mapBlock->kaJ,putCells->kbn,putRow->kbs
open Go.Value renaming int->qp,oneCell'->qL
open Go.World renaming cell?->Z7
open Int renaming toNat_natCast->Zp
open List renaming all_eq_true->qC,any_eq_true->kar,drop_zero->Za,eq_nil_of_length_eq_zero->Zc,ext_getElem?->kab,filterMap->ka6,getElem?_drop->Zv,getElem?_eq_getElem->qk,getElem?_eq_none->qN,getElem?_eq_some_iff->qK,getElem?_map->Zg,getElem?_set_ne->Zo,getElem?_set_self->Zd,getElem?_take_of_lt->Zu,length_append->qm,length_take->Zx,map_append->Zr,map_cons->Zi,mem_filter->Z5,mem_of_getElem?->Z3,mem_range->qy,range->qA,replicate->qc,replicate_succ->kap,take_of_length_le->ZD
open Nat renaming ble->ZH,ble_eq->kaR,ble_eq_true_of_le->kaE,eq_of_beq_eq_true->kbj,le_refl->qf,lt_or_ge->Zt,mul_le_mul_left->kah,mul_one->qX,testBit_or->ka5,testBit_two_pow->kbk,zero_le->qG
open Ne renaming symm->qh
open Option renaming getD_some->ka1,map->kbg,map_eq_some_iff->ZJ,map_some->qR,some_ne_none->kaF
open Option.some renaming injEq->qs
open Prod.mk renaming injEq->qO
namespace Go.Stx
open Go
variable [Gl]
def dS (B:Nat) (A:AW) (size:Nat) (v:Value) (n:Nat) (cs:List Value):Prop:=
 (v=.slice none 0 0/\n=0/\cs=[]) \/
 ∃p c b8,v=.slice (some p) n c/\n<=c/\p.spot=none/\B<=p.block/\A.bp p.block=some (.cells b8 true size)/\p.off+n*size<=b8.length/\cs=(b8.drop p.off).take (n*size)
theorem dS.is {B:Nat} {A:AW} {size:Nat} {v:Value} {n:Nat} {cs:List Value} (h:dS B A size v n cs):fW A size v n cs:=by
 rcases h with ⟨h1,h2,h3⟩|⟨p,c,b8,h1,h2,_,_,h3,h4,h5⟩;exact .inl ⟨⟨none,h1⟩,h2,h3⟩;exact .inr ⟨p,c,b8,true,size,h1,h2,h3,rfl,h4,h5⟩
theorem dS.nil (B:Nat) (A:AW) (size:Nat):dS B A size (.slice none 0 0) 0 []:=.inl ⟨rfl,rfl,rfl⟩
theorem dS.le {B:Nat} {A A':AW} (hl:A.le A') (hw:A.Wf) {size:Nat} {v:Value} {n:Nat} {cs:List Value} (h:dS B A size v n cs):dS B A' size v n cs:=by
 rcases h with h|⟨p,c,b8,h1,h2,hs,h3,h4,h5⟩;exact .inl h;exact .inr ⟨p,c,b8,h1,h2,hs,h3,hl.mu hw h4,h5⟩
def fu:Value->Option Nat
 | .slice (some p) _ _=>some p.block
 | _=>none
theorem dS.length {B:Nat} {A:AW} {size:Nat} {v:Value} {n:Nat} {cs:List Value} (h:dS B A size v n cs):cs.length=n*size:=h.is.length
theorem FA {A:AW} {size:Nat} {x:Value} {m:Nat} {mc:List Value} (h:gD A size x=some (m,mc)):mc.length=m*size:=by
 unfold gD at h;split at h;simp only [qs,qO] at h;obtain⟨rfl,rfl⟩:=h;simp;split at h;simp only [qs,qO] at h;obtain⟨rfl,rfl⟩:=h;simp;split at h;split at h;simp only [qs,qO] at h;obtain⟨rfl,rfl⟩:=h;simp;omega;cases h;cases h;cases h
theorem ke {P:Program} {A:AW} {t e:TypeId} {i:TypeInfo} {z:Value} {B:Nat} {v x:Value} {n m size:Nat} {cs mc:List Value}
 (hu:P.underlying t=some (.slice e)) (hi:P.info? e=some i) (hz:i.zero=some z) (ii:i.size=size) (oK:z.cells.size=size) (h0:0<size)
 (jy:dS B A size v n cs) (jm:gD A size x=some (m,mc)) (mP:mc.all qL=true) (kS:n+m<=140737488355328) (hb:(n+m)*i.bytes<=140737488355328)
 (hB:B<=A.next) (hw:A.Wf) :
 ∃v' A',fy P A t t v x=some (v',A')/\dS B A' size v' (n+m) (cs++mc)/\(∀A0:AW,A0.next<=B->A0.le A->A0.le A')/\A'.Wf/\A.next<=A'.next/\
  (∀j,j<A.next->fu v≠some j->A'.bp j=A.bp j)/\(v'=v\/fu v'=some A.next):=by
 subst ii;have bX:=jy.length;have CI:=FA jm;by_cases hm:m=0;subst hm;have Qv:mc=[]:=Zc (by omega);subst Qv;have holds:∃b,gO A i.size v=some (b,n,cs):=by
  rcases jy with ⟨rfl,rfl,rfl⟩|⟨p,c,b8,rfl,hc,zN,_,hg,fO,rfl⟩;exact⟨none,rfl⟩;exact⟨some p,by simp [gO,zN,hg,fO]⟩
 obtain⟨b,AI⟩:=holds;refine⟨v,A,?_,by simpa using jy,λA0 _ h=>h,hw,qf _,λj _ _=>rfl,.inl rfl⟩;simp [fy,hu,hi,hz,oK,h0,jm,AI];rcases jy with ⟨rfl,rfl,rfl⟩|⟨p,c,b8,rfl,hc,zN,hBp,hg,fO,rfl⟩;refine⟨.slice (some ⟨A.next,0,none⟩) (0+m) (0+m),A.alloc (.cells mc true i.size),?_,?_,λA0 _ h=>h.trans (AW.le.alloc A _),hw.alloc _,by simp,λj hj _=>AW.fV _ _ (by omega),.inr rfl⟩;have wG:(0+m)*i.bytes<=140737488355328:=hb;have hb2':0+m<=140737488355328:=kS;simp only [fy,hu,hi,hz,jm,gO];rw [aA ⟨oK,h0,trivial⟩,aw hm,aA ⟨hb2',wG,mP⟩];simp;refine .inr ⟨⟨A.next,0,none⟩,0+m,mc,rfl,qf _,rfl,hB,AW.bY _ _,by simp;omega,?_⟩;simp only [af,Za,Nat.zero_add];rw [ZD (by omega)];have cD:=hw.lt hg;refine⟨.slice (some ⟨A.next,0,none⟩) (n+m) (n+m),(A.set p.block none).alloc (.cells ((b8.drop p.off).take (n*i.size)++mc) true i.size),?_,?_,?_,(hw.set none cD).alloc _,by simp,?_,.inr rfl⟩
 simp only [fy,hu,hi,hz,jm,gO,hg];have Ld:¬(p.spot.isSome=true/\c=0/\n=0):=by simp [zN]
 rw [aA ⟨oK,h0,trivial⟩,aw Ld,aA ⟨trivial,fO⟩];simp only;rw [aw hm,aA ⟨kS,hb,mP⟩];refine .inr ⟨⟨A.next,0,none⟩,n+m,(b8.drop p.off).take (n*i.size)++mc,rfl,qf _,rfl,hB,?_,?_,?_⟩;have:=AW.bY (A.set p.block none) (.cells ((b8.drop p.off).take (n*i.size)++mc) true i.size)
 simpa using this
 have:((b8.drop p.off).take (n*i.size)++mc).length=(n+m)*i.size:=by
  rw [qm,bX,CI,Nat.add_mul]
 show 0+(n+m)*i.size<=_;omega;have:((b8.drop p.off).take (n*i.size)++mc).length=(n+m)*i.size:=by
  rw [qm,bX,CI,Nat.add_mul]
 exact(ZD (Nat.le_of_eq this)).symm;intro A0 hA0 hl;exact(hl.set (by omega) none).trans (AW.le.alloc _ _);intro j hj gT;rw [AW.fV _ _ (by simp;omega),AW.bg (λe=>gT (by simp [fu,e]))]
theorem fW.nM {A:AW} {size:Nat} {v:Value} {n:Nat} {cs:List Value} (h:fW A size v n cs):gD A size v=some (n,cs):=by
 rcases h with ⟨⟨o,rfl⟩,rfl,rfl⟩|⟨p,c,b8,own,u,rfl,hc,hg,_,fO,rfl⟩;cases o<;>simp [gD];by_cases h0:n=0;subst h0;simp [gD];simp [gD,h0,AW.yP hg,fO]
def fk (B:Nat) (A:AW) (k:IntKind) (v:Value) (l:List Int):Prop:=dS B A 1 v l.length (l.map (qp k))
theorem fk.is {B:Nat} {A:AW} {k:IntKind} {v:Value} {l:List Int} (h:fk B A k v l):cd A k v l:=dS.is h
theorem fk.nil (B:Nat) (A:AW) (k:IntKind):fk B A k (.slice none 0 0) []:=dS.nil B A 1
theorem CU {P:Program} {A:AW} {t e:TypeId} {i:TypeInfo} {z:Value} {B:Nat} {v x:Value} {k:IntKind} {l l2:List Int}
 (hu:P.underlying t=some (.slice e)) (hi:P.info? e=some i) (hz:i.zero=some z) (ii:i.size=1) (oK:z.cells.size=1)
 (jy:fk B A k v l) (hx:cd A k x l2) (bX:l.length+l2.length<2 ^ 40) (zj:i.bytes<=8) (hB:B<=A.next) (hw:A.Wf) :
 ∃v' A',fy P A t t v x=some (v',A')/\fk B A' k v' (l++l2)/\(∀A0:AW,A0.next<=B->A0.le A->A0.le A')/\A'.Wf/\A.next<=A'.next:=by
 have hb:(l.length+l2.length)*i.bytes<=140737488355328:=by
  have:=kah (l.length+l2.length) zj;omega
 obtain⟨v',A',h1,h2,h3,h4,h5,_⟩:=ke (P:=P) (t:=t) hu hi hz ii oK (by omega) jy hx.nM (by simp [qL]) (by omega) hb hB hw;refine⟨v',A',h1,?_,h3,h4,h5⟩;unfold fk
 simpa using h2
end Go.Stx
namespace Go.Stx
open Go
variable [Gl]
def AW.mM:AW:=⟨Gl.N,λ_=>none⟩
def Mp.mM:Mp:=λg=>if Gl.ok g=true then some ⟨g,0,1,NL g⟩ else none
def AW.vL (A:AW):Prop:=∀i o,A.bp i=some o->o.own=false
theorem j6.mM (w:World) (hl:∀b x,Gl.B b=some x->w.heap[b]? = some x):j6 Mp.mM AW.mM w:=⟨λi o h=>(by cases h),λi j o o' p p' h=>(by cases h),λi hi=>aw λh=>absurd (Gl.lt i h) (by simp only [AW.mM] at hi;omega),λ_ _=>rfl,hl,λi o p h=>(by cases h),λg hg=>aA hg⟩
theorem AW.vL.mM:AW.mM.vL:=λi o h=>by cases h
theorem j6.Pj {m:Mp} {A:AW} {w:World} (hs:j6 m A w) (AJ:A.vL) (cs:List Value) (p:Pl) {iT:Array Value} {e:TypeId} {fr:Nat×Nat}
 (hb:w.heap[p.block]? = some (.cells iT e fr)) (zf:iT.size=p.zX)
 (wF:∀(k:Nat) (v:Value),cs[k]? = some v->∃v',iT[p.base+k]? = some v'/\bI m v v') :
 j6 (m.ext A.next p) (A.alloc (.cells cs false p.unit)) w/\(A.alloc (.cells cs false p.unit)).vL:=by
 have fO:=hs.ED p;have sh:∀{j},j≠A.next->(m.ext A.next p) j=m j:=λ{j} h=>by simp [Mp.ext,h]
 have tp:∀{j},j≠A.next->(A.alloc (.cells cs false p.unit)).bp j=A.bp j:=λ{j} h=>by simp [AW.alloc,h]
 have y9:(m.ext A.next p) A.next=some p:=by simp [Mp.ext]
 have QG:(A.alloc (.cells cs false p.unit)).bp A.next=some (.cells cs false p.unit):=by simp [AW.alloc]
 have Ny:(A.alloc (.cells cs false p.unit)).vL:=by
  intro i o hi;by_cases hn:i=A.next;subst hn;rw [QG] at hi;injection hi with hi;subst hi;rfl
  rw [tp hn] at hi;exact AJ i o hi
 refine⟨⟨?_,?_,?_,?_,hs.laid,λi o q hi ho=>(by rw [Ny i o hi] at ho;cases ho),hs.wI.mono fO⟩,Ny⟩;intro j o hj;by_cases hn:j=A.next;subst hn;rw [QG] at hj;injection hj with hj;subst hj;exact⟨p,y9,iT,e,fr,hb,λh=>(by cases h),rfl,zf,λk v hv=>(by obtain⟨v',h1,h2⟩:=wF k v hv;exact⟨v',h1,h2.mono fO⟩)⟩;rw [tp hn] at hj;obtain⟨p',h1,h2⟩:=hs.Gu j o hj;exact⟨p',by rw [sh hn];exact h1,h2.mono fO⟩;intro i j o o' p1 p2 hi Bs;have:=Ny i o hi;rw [Bs] at this;cases this;intro i hi;have:i≠A.next:=by simp at hi;omega
 rw [sh this];exact hs.sS i (by simp at hi;omega);intro i hi;have:i≠A.next:=by simp at hi;omega
 rw [tp this];exact hs.zL i (by simp at hi;omega)
theorem EG {m:Mp} {A:AW} {w:World} (hs:j6 m A w) (AJ:A.vL) {k:IntKind} {a:Option Addr} {len eA:Nat} {zs:List Int}
 (h:(a=none/\len=0/\eA=0/\zs=[]) \/
  ∃x,a=some x/\len<=eA/\eA<=maxLen/\zs.length=eA/\(∀i,i<zs.length->w.cell? (x.add i)=some (.int k (zs.getD i 0)))/\∀n∈zs,(Lit.int k n).wf=true) :
 ∃m' A' v,Mp.le m m'/\A.le A'/\j6 m' A' w/\A'.vL/\bI m' v (.slice a len eA)/\cd A' k v (zs.take len)/\len<=maxLen:=by
 rcases h with ⟨rfl,rfl,rfl,rfl⟩|⟨x,rfl,Qx,VR,hzl,hcell,_⟩;exact⟨m,A,.slice none 0 0,Mp.le_refl m,AW.le.refl A,hs,AJ,.lC,cd.nil A k,qG _⟩;by_cases hc0:eA=0;subst hc0;have:len=0:=by omega
 subst this;refine⟨m,A,.slice (some ⟨0,0,some 0⟩) 0 0,Mp.le_refl m,AW.le.refl A,hs,AJ,.slice (.inr ⟨rfl,rfl,.inl rfl⟩) (qf _) (qf _),?_,qG _⟩;rw [List.take_zero];exact .inl ⟨⟨_,rfl⟩,rfl,rfl⟩;have h0:=hcell 0 (by omega);rw [show x.add 0=x by unfold Addr.add;simp] at h0;have zN:x.spot=none:=by
  unfold Z7 at h0;split at h0;split at h0;cases h0;rename_i zN;simpa using zN;cases h0
 have E0:∃iT e fr,w.heap[x.block]? = some (.cells iT e fr):=by
  unfold Z7 at h0;split at h0;rename_i c e fr hh;exact⟨c,e,fr,hh⟩;cases h0
 obtain⟨iT,e,fr,E0⟩:=E0;have Tn:∀i,i<eA->iT[x.off+i]? = some (.int k (zs.getD i 0)):=λi hi=>by
  have h1:=hcell i (by omega);rw [nD _ _ zN] at h1
  simpa [Z7,E0] using h1
 obtain⟨Qr,Ny⟩:=j6.Pj hs AJ (zs.map (qp k)) ⟨x.block,x.off,1,iT.size⟩ E0 rfl (λj v hv=>by
  rw [Zg,ZJ] at hv;obtain⟨z,hz,rfl⟩:=hv;have hj:=(qK.1 hz).1;refine⟨_,Tn j (by omega),?_⟩;rw [List.getD_eq_getElem?_getD,hz];exact .int k z)
 have Th:=(qr.1 (Tn (eA-1) (by omega))).1;refine⟨_,_,.slice (some ⟨A.next,0,none⟩) len len,hs.ED _,AW.le.alloc A _,Qr,Ny,?_,?_,by omega⟩;refine .slice (.inl ⟨rfl,zN,⟨x.block,x.off,1,iT.size⟩,by simp [Mp.ext],rfl,rfl,?_⟩) (qf _) Qx;show x.off+eA*1<=iT.size;omega;refine .inr ⟨⟨A.next,0,none⟩,len,zs.map (qp k),false,1,?_,?_,AW.bY _ _,rfl,?_,?_⟩;rw [Zx,Nat.min_eq_left (by omega)];simp;omega;simp;omega;rw [Za,Zx,Nat.min_eq_left (by omega),qX,List.map_take]
theorem Ft {P:Program} {f:FuncId} {args:List Value} {gK:Array Value} {A:AW} {m:Mp} {w:World} {R:Value->AW->Prop} (h:aD P f args A R) (hR:∀v A',R v A'->v=.bool true)
 (hs:j6 m A w) (AJ:A.vL) (hl:iV m args gK.toList):Calls P f gK w λe w'=>e=.returned (.bool true)/\RowKit.Below w.heap.size w w':=by
 refine(h.2 m w gK hs hl).mono ?_;rintro e w' ⟨v,v',m',A',rfl,ev,hv,hr⟩;have e1:=hR v A' hr;subst e1;cases hv;refine⟨rfl,ev.os,ev.tape,ev.output,ev.size,λk hk=>ev.tR k hk ?_⟩;rintro ⟨i,o,p,hi,Bs,_⟩;have:=AJ i o hi;rw [Bs] at this;cases this
end Go.Stx
namespace Go.Stx
open Go
variable [Gl]
theorem uz:∀(l cs:List Value) (off j:Nat),off+l.length<=cs.length->(fA cs off l)[j]? = if off<=j/\j<off+l.length then l[j-off]? else cs[j]?
 | [],cs,off,j,_=>by
   simp [fA];omega
 | v::l,cs,off,j,h=>by
   simp only [List.length_cons] at h;rw [fA,uz l _ (off+1) j (by simp;omega)];by_cases h1:off+1<=j/\j<off+1+l.length;rw [aA h1,aA (by simp;omega)];rw [show j-off=(j-(off+1))+1 by omega,List.getElem?_cons_succ];rw [aw h1];by_cases h2:off=j;subst h2;rw [aA (by simp),Zd (by omega)];simp;rw [aw (by simp;omega),Zo h2]
theorem Gy (w:World) (b:Nat) (f:Array Value->Array Value) {iT:Array Value} {e:TypeId} {fr:Nat×Nat} (h:w.heap[b]? = some (.cells iT e fr)) :
 (kaJ w b f).heap[b]? = some (.cells (f iT) e fr):=by
 simp [kaJ,kan,h,Go.Sort.onCells]
theorem Ez (w:World) (b j:Nat) (f:Array Value->Array Value) (h:j≠b):(kaJ w b f).heap[j]? = w.heap[j]?:=by
 simp [kaJ,kan,qh h]
theorem MM {m:Mp} {A:AW} {w:World} (hs:j6 m A w) {i off:Nat} {q:Pl} {b8:List Value} {k:IntKind} (d:List Int)
 (hg:A.bp i=some (.cells b8 true 1)) (hm:m i=some q) (rN:off+d.length<=b8.length) :
 j8 m A w m (A.set i (some (.cells (fA b8 off (d.map (qp k))) true 1))) (kbs (qp k) w q.block (q.base+off) d.toArray):=by
 obtain⟨p',Nz,iT,e',fr,hw,up,hu,zf,zh⟩:=hs.Gu _ _ hg;rw [hm] at Nz;injection Nz with Nz;subst Nz;obtain rfl:=up rfl;refine j8.set hs hg hm hu (by simp [kbs,kaJ]) rfl rfl rfl (Gy w q.block _ hw) (by simpa [kbn] using zf) (λj hj=>Ez w _ _ _ hj) ?_;intro j v hv;rw [uz _ _ _ _ (by simpa using rN)] at hv;simp only [List.length_map] at hv;by_cases hj:off<=j/\j<off+d.length;rw [aA hj,Zg,qk (by omega)] at hv;injection hv with hv;subst hv;obtain⟨v0,h0,_⟩:=zh j b8[j] (qk (by omega));refine⟨.int k d[j-off],?_,.int _ _⟩;have cD:=(qr.1 h0).1;simp only [kbn,Array.getElem?_mapIdx,h0,qR,List.size_toArray];rw [aA (by omega)];have e1:q.base+j-(q.base+off)=j-off:=by omega
 rw [e1,getElem!_pos d.toArray (j-off) (by simp;omega)];simp;rw [aw hj] at hv;obtain⟨v0,h0,h1⟩:=zh j v hv;refine⟨v0,?_,h1⟩;simp only [kbn,Array.getElem?_mapIdx,h0,qR,List.size_toArray];rw [aw (by omega)]
theorem j8.ahead {m:Mp} {A:AW} {w:World} (h:j6 m A w) (n:Nat):j8 m A w m A (Go.Sort.ahead w n):=
 ⟨Mp.le_refl m,h.IC rfl,qf _,rfl,rfl,rfl,qf _,λ_ _ _=>rfl,λ_ h=>.inl h,λ_ _=>rfl,λ_ h=>.inl h⟩
theorem j8.Lu {m:Mp} {A:AW} {w:World} (h:j6 m A w) (os:Array Obj):j8 m A w m A (kbc w os):=by
 have dT:∀b,b<w.heap.size->(kbc w os).heap[b]? = w.heap[b]?:=λb hb=>by
  show (w.heap++os)[b]? = _;rw [Array.getElem?_append_left hb]
 exact⟨Mp.le_refl m,Q9.FR dT h,qf _,rfl,rfl,rfl,by simp [kbc],λb hb _=>dT b hb,λ_ h=>.inl h,λ_ _=>rfl,λ_ h=>.inl h⟩
theorem OB {P:Program} {f:FuncId} (dz:jY P f=true) {n c:Nat} {A:AW} {p:Addr} {k:IntKind} {l d:List Int} {b8:List Value} {rv:Value} {ret:Addr->Nat->Value}
 (hn:n=l.length) (h0:0<l.length) (hc:n<=c) (hg:A.bp p.block=some (.cells b8 true 1)) (rN:p.off+n<=b8.length) (hl:l.map (qp k)=(b8.drop p.off).take n) (hd:d.length=l.length)
 (YK:∀m a' i6,Ci m p a' i6->c<=i6->bI m rv (ret a' i6))
 (To:∀i9 off eA w,Go.Sort.Holds (qp k) w i9 off l.toArray->i9<w.heap.size->l.length<=eA->Calls P f #[.slice (some ⟨i9,off,none⟩) l.length eA] w λe w'=>
  e=.returned (ret ⟨i9,off,none⟩ eA)/\∃n os,w'=kbc (kbs (qp k) (Go.Sort.ahead w n) i9 off d.toArray) os) :
 aD P f [.slice (some p) n c] A λu A'=>u=rv/\A'=A.set p.block (some (.cells (fA b8 p.off (d.map (qp k))) true 1)):=by
 subst hn;refine⟨dz,λm w gK hs NB=>?_⟩;obtain⟨v',t',e1,hv,ht⟩:=NB.mf;have e2:=ht.pT;subst e2;have ec:gK = #[v']:=by apply Array.ext';exact e1
 subst ec;cases hv with
 | slice hh h1 h2=>
   rename_i a' i6;have Dy:Ci m p a' i6:=by
    rcases hh with hh|hh;exact hh;omega
   have hsr0:=Dy;obtain⟨g1,g2,q,g3,g4,g5,g6⟩:=Dy;obtain⟨p',Nz,iT,e',fr,hw,up,hu,zf,zh⟩:=hs.Gu _ _ hg;rw [g3] at Nz;injection Nz with Nz;subst Nz;obtain rfl:=up rfl;have ea:a'=⟨q.block,q.base+p.off,none⟩:=(by rw [Bl a' g2,g4,g5]);subst ea;have hH:Go.Sort.Holds (qp k) w q.block (q.base+p.off) l.toArray:=by
    intro j hj;have yn:j<l.length:=by simpa using hj
    have bV:b8[p.off+j]? = some (.int k l[j]):=by
     have:(l.map (qp k))[j]? = some (.int k l[j]):=by rw [Zg,qk yn];rfl
     rw [hl,Zu yn,Zv] at this;exact this
    obtain⟨v0,h3,h4⟩:=zh _ _ bV;cases h4;rw [getElem!_pos l.toArray j hj];simp only [Z7,World.frozen?,hw];rw [Nat.add_assoc];simp [h3]
   refine(To q.block (q.base+p.off) i6 w hH (qr.1 hw).1 (by omega)).mono ?_;rintro e w' ⟨rfl,n,os,rfl⟩;refine⟨rv,_,m,A.set p.block (some (.cells (fA b8 p.off (d.map (qp k))) true 1)),rfl,?_,YK m _ i6 hsr0 h2,rfl,rfl⟩;have ev1:=j8.ahead hs n;have NU:=MM (k:=k) ev1.FR d hg g3 (off:=p.off) (by omega);exact(ev1.trans NU).trans (j8.Lu NU.FR os)
theorem aD.mM {P:Program} {f:FuncId} (dz:jY P f=true) {o:Option Addr} {c:Nat} {A:AW} {rv:Value} {ret:Option Addr->Nat->Value}
 (YK:∀m o' c',bI m (.slice o 0 c) (.slice o' 0 c')->bI m rv (ret o' c'))
 (To:∀o' c' w,Calls P f #[.slice o' 0 c'] w λe w'=>e=.returned (ret o' c')/\w'=w) :
 aD P f [.slice o 0 c] A λu A'=>u=rv/\A=A':=by
 refine⟨dz,λm w gK hs NB=>?_⟩;obtain⟨v',t',e1,hv,ht⟩:=NB.mf;have e2:=ht.pT;subst e2;have ec:gK = #[v']:=by apply Array.ext';exact e1
 subst ec;have hv':∃o' c',v'=.slice o' 0 c':=by
  cases hv<;>exact⟨_,_,rfl⟩
 obtain⟨o',c',rfl⟩:=hv';refine(To o' c' w).mono ?_;rintro e w' ⟨rfl,rfl⟩;exact⟨rv,_,m,A,rfl,j8.refl hs,YK m _ _ hv,rfl,rfl⟩
theorem fk.cy {B:Nat} {A:AW} {k:IntKind} {v:Value} {l:List Int} (h:fk B A k v l) :
 (∃o c,v=.slice o 0 c/\l=[]/\0<=c)\/∃p c b8,v=.slice (some p) l.length c/\0<l.length/\l.length<=c/\p.spot=none/\B<=p.block/\A.bp p.block=some (.cells b8 true 1)/\
  p.off+l.length<=b8.length/\l.map (qp k)=(b8.drop p.off).take l.length:=by
 rcases h with ⟨h1,h2,h3⟩|⟨p,c,b8,h1,h2,hs,hB,h3,h4,h5⟩;exact .inl ⟨none,0,h1,Zc h2,qf _⟩;by_cases h0:l.length=0;rw [h0] at h1;exact .inl ⟨some p,c,h1,Zc h0,qG _⟩;exact .inr ⟨p,c,b8,h1,by omega,h2,hs,hB,h3,by simpa using h4,by simpa using h5⟩
theorem En {B:Nat} {A:AW} {k:IntKind} {p:Addr} {c n:Nat} {b8:List Value} (d z:List Int) (hw:A.Wf) (hB:B<=p.block) (hs:p.spot=none) (hg:A.bp p.block=some (.cells b8 true 1))
 (rN:p.off+(d++z).length<=b8.length) (hc:d.length<=c) (hn:n=d.length) :
 fk B (A.set p.block (some (.cells (fA b8 p.off ((d++z).map (qp k))) true 1))) k (.slice (some p) n c) d:=by
 subst hn;refine .inr ⟨p,c,_,rfl,hc,hs,hB,AW.cY,?_,?_⟩;rw [Dc];simp at rN;omega;apply kab;intro j;by_cases hj:j<d.length;rw [Zu (by omega),Zv,uz _ _ _ _ (by simpa using rN),aA (by simp;omega)];rw [show p.off+j-p.off=j by omega,Zr,List.getElem?_append_left (by simpa using hj)];rw [qN (by simp;omega),qN (by simp;omega)]
end Go.Stx
namespace Go.Stx
open Go
variable [Gl]
def kW (bJ:Array Oper):Bool:=(qA bJ.size).all λi=>match bJ[i]? with
 | some o=>o.after.toList.all λe=>!qS .any e || ZH (e.on+1) i
 | none=>true
theorem mz {bJ:Array Oper} (vG:kW bJ=true) {i:Nat} {o:Oper} (ho:bJ[i]? = some o) {e:Edge} (he:e∈o.after) (hb:qS .any e=true):e.on<i:=by
 have ha:=qC.1 vG i (qy.2 (qr.1 ho).1);rw [ho] at ha;have h2:=qC.1 ha e (Ze.2 he);rw [hb] at h2;have h3:e.on+1<=i:=by simpa [kaR] using h2
 omega
def Re (P:Program) (bJ:Array Oper) (o:Oper) (a:Fr) (A:AW) (k:Fr->AW->Prop):Prop:=
 if nu bJ a o=true then i8 P o.op (iW a) A (λv A'=>k (eK a o.dst v) A') else k (eK a o.dst undef) A
theorem Hj {md:Region.Mode} {bJ:Array Oper} {listed:Array Bool} {i:Nat} (h:i∈kaM md bJ listed) :
 ∃o,bJ[i]? = some o/\listed.getD i true=false/\∀e∈o.after,qS md e=true->listed.getD e.on false=true:=by
 simp only [kaM,Z5,qy,qq,ZF] at h;obtain⟨hi,h1,h2⟩:=h;refine⟨bJ[i],qV hi,h1,λe he hb=>?_⟩;rw [qV hi] at h2;simp only [qR,ka1] at h2;have:=Z1.1 h2 e he
 simpa [hb] using this
theorem zE {bJ:Array Oper} (vG:kW bJ=true) {listed:Array Bool} (vS:listed.size=bJ.size) (hr:kaM .any bJ listed=[]) :
 ∀n i,i<n->i<bJ.size->listed.getD i false=true
 | 0,i,h,_=>by omega
 | n+1,i,h,hi=>by
   by_cases xQ:i<n;exact zE vG vS hr n i xQ hi;by_cases hl:listed.getD i false=true;exact hl;exfalso;have vT:i<listed.size:=(by omega);have xP:i∈kaM .any bJ listed:=by
    simp only [kaM,Z5,qy,qq,ZF];refine⟨hi,?_,?_⟩;rw [ZV,qV vT] at hl ⊢
    simpa using hl
    rw [qV hi];simp only [qR,ka1];refine Z1.2 λe he=>?_;cases hb:qS .any e with
    | false=>simp
    | true=>
      have cD:=mz vG (qV hi) he hb;have:=zE vG vS hr n e.on (by omega) (by omega);simp [this]
   rw [hr] at xP;cases xP
theorem Pt {P:Program} {n:Nat} {Q:Exit->Fr->AW->Prop} {a:Fr} {A:AW} {id:Nat} {bJ:Array Oper} (hm:P.follows .mixedOrders=true) (vG:kW bJ=true)
 (J:(Nat->Bool)->Fr->AW->Prop) (h0:J (λ_=>false) a A)
 (wE:∀S a A i o,A.Wf->J S a A->bJ[i]? = some o->S i=false->(∀e∈o.after,qS .any e=true->S e.on=true)->Re P bJ o a A (J λj=>if j=i then true else S j))
 (pW:∀S a A,A.Wf->J S a A->(∀i,i<bJ.size->S i=true)->Q .normal a A):c8 P n (.region id bJ true) Q a A:=by
 intro mv m w ca hs hf;have EQ:bJ.all (mZ n)=true:=mv;refine wp_region_any hm ?_
 have key:∀(fuel:Nat) (listed:Array Bool) (S:Nat->Bool) (a':Fr) (A':AW) (m':Mp) (w':World) (Bw:Act),listed.size=bJ.size->(∀i,i<bJ.size->listed.getD i false=S i)->
  (qA bJ.size).countP (λi=>!S i)<=fuel->J S a' A'->j8 m A w m' A' w'->tB m' n a' Bw->
  wpAny P .any bJ (λe Bw w'=>∃m' a' A',j8 m A w m' A' w'/\tB m' n a' Bw/\Q e a' A') fuel listed Bw w':=by
  intro fuel
  induction fuel with
  | zero=>
    intro listed S a' A' m' w' Bw vS hS hcnt hJ Pe up;have kv:∀i,i<bJ.size->S i=true:=by
     intro i hi;have:=List.countP_eq_zero.1 (Nat.le_zero.1 hcnt) i (qy.2 hi)
     simpa using this
    refine⟨?_,m',a',A',Pe,up,pW S a' A' Pe.FR.zL hJ kv⟩;rw [List.eq_nil_iff_forall_not_mem];intro i hi;obtain⟨o,ho,hl,_⟩:=Hj hi;have Bt:=(qr.1 ho).1;have:=hS i Bt;rw [kv i Bt] at this;rw [ZV,qV (by omega)] at this hl;simp only [ka1] at this hl;rw [this] at hl;cases hl
  | succ fuel ih=>
    intro listed S a' A' m' w' Bw vS hS hcnt hJ Pe up;refine⟨λhr=>⟨m',a',A',Pe,up,pW S a' A' Pe.FR.zL hJ λi hi=>?_⟩,λi hi=>?_⟩;rw [<-hS i hi];exact zE vG vS hr (i+1) i (by omega) hi;obtain⟨o,ho,hl,jM⟩:=Hj hi;have Bt:=(qr.1 ho).1;have sR:S i=false:=by
     rw [<-hS i Bt];rw [ZV,qV (by omega)] at hl ⊢
     simpa using hl
    have hdep':∀e∈o.after,qS .any e=true->S e.on=true:=by
     intro e he hb;have h1:=jM e he hb;have cD:=mz vG ho he hb;rw [<-hS e.on (by omega)];exact h1
    have dy:=wE S a' A' i o Pe.FR.zL hJ ho sR hdep';have hoo:=Z1.1 EQ o (ZW ho);have Xm:(qA bJ.size).countP (λj=>!(if j=i then true else S j))<=fuel:=by
     have e1:(qA bJ.size).countP (λj=>!(if j=i then true else S j))+1<=(qA bJ.size).countP (λj=>!S j):=by
      have xP:i∈qA bJ.size:=qy.2 Bt;have key2:∀l:List Nat,i∈l->l.countP (λj=>!(if j=i then true else S j))+1<=l.countP (λj=>!S j):=by
       intro l;have mono:∀l:List Nat,l.countP (λj=>!(if j=i then true else S j))<=l.countP (λj=>!S j):=λl=>by
        refine List.countP_mono_left λx _ hx=>?_;by_cases e:x=i;simp [e] at hx
        simpa [e] using hx
       induction l with
       | nil=>intro h;cases h
       | cons x l ihl=>
         intro hx;rw [List.countP_cons,List.countP_cons];by_cases e:x=i;subst e;have:=mono l;simp [sR]
         simpa using this
         have Yy:i∈l:=by
          rcases List.mem_cons.1 hx with h|h;exact absurd h.symm e;exact h
         have:=ihl Yy;simp only [e,if_false];omega
      exact key2 _ xP
     omega
    have rQ:∀j,j<bJ.size->(listed.setIfInBounds i true).getD j false=if j=i then true else S j:=by
     intro j hj;by_cases e:j=i;subst e;rw [aA rfl,ZV,Array.getElem?_setIfInBounds_self_of_lt (by omega)];rfl;rw [aw e,<-hS j hj,ZV,ZV,Array.getElem?_setIfInBounds_ne (by omega)]
    unfold Re at dy;unfold wpOp;rw [ho];simp only;rw [HF up EQ o];split at dy;rename_i hg;rw [aA hg];refine .inl (Ck Pe.FR up hoo dy ?_);intro v A2 m2 w2 ca2 hk NU IW;exact ih _ _ _ A2 m2 w2 ca2 (by simpa using vS) rQ Xm hk (Pe.trans NU) IW;rename_i hg;rw [aw hg];simp only [mZ,qq] at hoo;have hd:∀j,o.dst=some j->j<n:=λj e=>by have:=hoo.2;rw [e] at this;simpa using this
    exact ih _ _ _ A' m' w' _ (by simpa using vS) rQ Xm dy Pe (up.put hd (bI.undef m'))
 refine key bJ.size _ (λ_=>false) a A m { w with drawn:=w.drawn+1 } ca (by simp) (λi hi=>by simp [ZV,hi]) ?_ h0 (j8.drew hs) hf;exact Nat.le_trans (List.countP_le_length) (by simp)
end Go.Stx
namespace Go.Stx
open Go
variable [Gl]
abbrev Hp:=Nat->Option dQ
def Hp.dj (h k:Hp):Prop:=∀i,h i=none\/k i=none
def Hp.un (h k:Hp):Hp:=λi=>match h i with|some o=>some o|none=>k i
theorem Hp.Po {h k:Hp} (d:Hp.dj h k):Hp.dj k h:=λi=>(d i).symm
theorem Hp.Ow {h k:Hp} (d:Hp.dj h k):Hp.un h k=Hp.un k h:=by
 funext i;simp only [Hp.un];rcases d i with e|e;rw [e];cases k i<;>rfl;rw [e];cases h i<;>rfl
theorem Hp.JY (h k l:Hp):Hp.un (Hp.un h k) l=Hp.un h (Hp.un k l):=by
 funext i;simp only [Hp.un];cases h i<;>rfl
theorem Hp.xh {h k:Hp} {i:Nat}:Hp.un h k i=none↔h i=none/\k i=none:=by
 simp only [Hp.un];cases h i<;>simp
structure HP where
 holds:Hp->Prop
@[ext] theorem HP.ext' {P Q:HP} (h:∀x,P.holds x↔Q.holds x):P=Q:=by
 obtain⟨p⟩:=P;obtain⟨q⟩:=Q;congr;funext x;exact propext (h x)
def HP.XW (P Q:HP):HP:=⟨λh=>∃h1 h2,Hp.dj h1 h2/\h=Hp.un h1 h2/\P.holds h1/\Q.holds h2⟩
instance:Mul HP:=⟨HP.XW⟩
theorem yL {P Q:HP} {h:Hp}:(P*Q).holds h↔∃h1 h2,Hp.dj h1 h2/\h=Hp.un h1 h2/\P.holds h1/\Q.holds h2:=Iff.rfl
theorem HP.mul_comm (P Q:HP):P*Q=Q*P:=by
 ext h;simp only [yL];constructor;rintro ⟨a,b,d,rfl,p,q⟩;exact⟨b,a,Hp.Po d,Hp.Ow d,q,p⟩;rintro ⟨a,b,d,rfl,p,q⟩;exact⟨b,a,Hp.Po d,Hp.Ow d,q,p⟩
theorem HP.cQ (P Q R:HP):P*Q*R=P*(Q*R):=by
 ext h;simp only [yL];constructor;rintro ⟨_,c,d,rfl,⟨a,b,d1,rfl,p,q⟩,r⟩;refine⟨a,Hp.un b c,λi=>?_,Hp.JY _ _ _,p,b,c,λi=>?_,rfl,q,r⟩;rcases d i with e|e;exact .inl (Hp.xh.1 e).1;rcases d1 i with e1|e1;exact .inl e1;exact .inr (Hp.xh.2 ⟨e1,e⟩);rcases d i with e|e;exact .inl (Hp.xh.1 e).2;exact .inr e;rintro ⟨a,_,d,rfl,p,b,c,d1,rfl,q,r⟩;refine⟨Hp.un a b,c,λi=>?_,(Hp.JY _ _ _).symm,⟨a,b,λi=>?_,rfl,p,q⟩,r⟩;rcases d1 i with e|e;rcases d i with e1|e1;exact .inl (Hp.xh.2 ⟨e1,e⟩);exact .inr (Hp.xh.1 e1).2;exact .inr e;rcases d i with e1|e1;exact .inl e1;exact .inr (Hp.xh.1 e1).1
instance:Std.Associative (α:=HP) (·* ·):=⟨HP.cQ⟩
instance:Std.Commutative (α:=HP) (·* ·):=⟨HP.mul_comm⟩
def eZ:HP:=⟨λh=>h=λ_=>none⟩
def De (p:Prop):HP:=⟨λh=>p/\h=λ_=>none⟩
def rO {α:Type} (P:α->HP):HP:=⟨λh=>∃x,(P x).holds h⟩
def pt (i:Nat) (o:dQ):HP:=⟨λh=>h=λj=>if j=i then some o else none⟩
def pV (h0:Hp):HP:=⟨λh=>h=h0⟩
theorem O8 {p:Prop} {P:HP} {h:Hp}:(De p*P).holds h↔p/\P.holds h:=by
 simp only [yL];constructor;rintro ⟨a,b,d,rfl,⟨hp,rfl⟩,q⟩;exact⟨hp,q⟩;rintro ⟨hp,q⟩;exact⟨_,h,λ_=>.inl rfl,rfl,⟨hp,rfl⟩,q⟩
theorem VP {α:Type} {P:α->HP} {Q:HP}:rO P*Q=rO λx=>P x*Q:=by
 ext h;constructor;rintro ⟨a,b,d,rfl,⟨x,p⟩,q⟩;exact⟨x,a,b,d,rfl,p,q⟩;rintro ⟨x,a,b,d,rfl,p,q⟩;exact⟨a,b,d,rfl,⟨x,p⟩,q⟩
theorem iD (P:HP):eZ*P=P:=by
 ext h;constructor;rintro ⟨a,b,d,rfl,rfl,q⟩;exact q;intro q;exact⟨_,h,λ_=>.inl rfl,rfl,rfl,q⟩
theorem dO (P:HP):P*eZ=P:=by rw [HP.mul_comm,iD]
def bB (A:AW) (P:HP):Prop:=∃h,P.holds h/\∀i o,h i=some o->A.bp i=some o
def Ra (P Q:HP):Prop:=∀h,P.holds h->Q.holds h
theorem Ra.refl (P:HP):Ra P P:=λ_ h=>h
theorem Ra.XW {P P' Q Q':HP} (h:Ra P P') (k:Ra Q Q'):Ra (P*Q) (P'*Q'):=λ_ ⟨a,b,d,e,p,q⟩=>⟨a,b,d,e,h a p,k b q⟩
theorem Ra.left {P P':HP} (Q:HP) (h:Ra P P'):Ra (P*Q) (P'*Q):=Ra.XW h (Ra.refl Q)
theorem bB.b7 {A:AW} {P Q:HP} (h:bB A P) (e:Ra P Q):bB A Q:=⟨h.choose,e _ h.choose_spec.1,h.choose_spec.2⟩
theorem bB.entl {A:AW} {P Q F:HP} (h:bB A (P*F)) (e:Ra P Q):bB A (Q*F):=h.b7 (e.left F)
theorem bB.dZ {A:AW} {P Q:HP} (h:bB A P) (e:P=Q):bB A Q:=e▸h
theorem bB.right {A:AW} {P Q:HP} (h:bB A (P*Q)):bB A Q:=by
 obtain⟨_,⟨a,b,d,rfl,p,q⟩,hs⟩:=h;refine⟨b,q,λi o hi=>hs i o ?_⟩;simp only [Hp.un];rcases d i with e|e;rw [e];exact hi;rw [e] at hi;cases hi
theorem bB.left {A:AW} {P Q:HP} (h:bB A (P*Q)):bB A P:=(h.dZ (HP.mul_comm P Q)).right
theorem bB.ex {α:Type} {A:AW} {P:α->HP} {F:HP}:bB A (rO P*F)↔∃x,bB A (P x*F):=by
 rw [VP];constructor;rintro ⟨h,⟨x,p⟩,hs⟩;exact⟨x,h,p,hs⟩;rintro ⟨x,h,p,hs⟩;exact⟨h,⟨x,p⟩,hs⟩
theorem bB.pr {A:AW} {p:Prop} {F:HP}:bB A (De p*F)↔p/\bB A F:=by
 constructor;rintro ⟨h,hh,hs⟩;rw [O8] at hh;exact⟨hh.1,h,hh.2,hs⟩;rintro ⟨hp,h,hh,hs⟩;exact⟨h,O8.2 ⟨hp,hh⟩,hs⟩
theorem bB.Sl {A A':AW} {P:HP} (h:bB A P) (e:∀i o,A.bp i=some o->A'.bp i=some o):bB A' P:=
 ⟨h.choose,h.choose_spec.1,λi o hi=>e i o (h.choose_spec.2 i o hi)⟩
theorem bB.le {A A':AW} {P:HP} (h:bB A P) (hw:A.Wf) (hl:A.le A'):bB A' P:=h.Sl λi o hi=>hl.mu hw hi
theorem bB.bp {A:AW} {i:Nat} {o:dQ} {F:HP} (h:bB A (pt i o*F)):A.bp i=some o:=by
 obtain⟨_,⟨a,b,d,rfl,rfl,q⟩,hs⟩:=h;exact hs i o (by simp [Hp.un])
theorem bB.ne {A:AW} {i j:Nat} {o o':dQ} {F:HP} (h:bB A (pt i o*(pt j o'*F))):i≠j:=by
 obtain⟨_,⟨a,_,d,rfl,rfl,b,c,d1,rfl,rfl,q⟩,hs⟩:=h;rintro rfl;rcases d i with e|e;simp at e;simp [Hp.un] at e
theorem bB.Fw {A A':AW} {i:Nat} {o:dQ} {F:HP} (h:bB A (pt i o*F)) (e:∀j o',j≠i->A.bp j=some o'->A'.bp j=some o'):bB A' F:=by
 obtain⟨_,⟨a,b,d,rfl,rfl,q⟩,hs⟩:=h;refine⟨b,q,λj o' hj=>?_⟩;have nj:j≠i:=by
  rintro rfl;rcases d j with e|e;simp at e;rw [e] at hj;cases hj
 refine e j o' nj (hs j o' ?_);simp [Hp.un,nj,hj]
theorem bB.cons {A:AW} {i:Nat} {o:dQ} {F:HP} (hg:A.bp i=some o) (h:bB (A.set i none) F):bB A (pt i o*F):=by
 obtain⟨b,q,hs⟩:=h;have hb:b i=none:=by
  cases xS:b i with
  | none=>rfl
  | some x=>have:=hs i x xS;simp at this
 refine⟨_,⟨_,b,λj=>?_,rfl,rfl,q⟩,λj o' hj=>?_⟩;by_cases e:j=i;subst e;exact .inr hb;exact .inl (by simp [e]);by_cases e:j=i;subst e;simp [Hp.un] at hj;rw [hg,hj];simp [Hp.un,e] at hj;have:=hs j o' hj;rwa [AW.bg e] at this
theorem bB.set {A:AW} {i:Nat} {o:dQ} {F:HP} (h:bB A (pt i o*F)) (o':dQ):bB (A.set i (some o')) (pt i o'*F):=by
 refine bB.cons AW.cY (h.Fw λj x hj hx=>?_);rw [AW.bg hj,AW.bg hj];exact hx
theorem bB.Nh {A:AW} {i:Nat} {o:dQ} {F:HP} (h:bB A (pt i o*F)):bB (A.set i none) F:=
 h.Fw λj x hj hx=>by rw [AW.bg hj];exact hx
theorem bB.alloc {A:AW} {F:HP} (h:bB A F) (hw:A.Wf) (o:dQ):bB (A.alloc o) (pt A.next o*F):=by
 refine bB.cons (AW.bY A o) (h.Sl λj x hx=>?_);have:=hw.lt hx;rw [AW.bg (by omega),AW.fV _ _ (by omega)];exact hx
theorem bB.mu {A:AW} {F:HP} (h:bB A F) (hw:A.Wf) (o:dQ):bB (A.alloc o) F:=(h.alloc hw o).right
theorem bB.Yn {A:AW} {i j:Nat} {o o':dQ} {P F:HP} (h:bB A (pt i o*(P*(pt j o'*F)))):i≠j:=
 bB.ne (h.dZ (by ac_rfl:pt i o*(P*(pt j o'*F))=pt i o*(pt j o'*(P*F))))
theorem AW.dt (A:AW) (o:dQ) (i:Nat):(A.alloc o).bp i=if i=A.next then some o else A.bp i:=rfl
theorem AW.df (A:AW) (o:Option dQ) (i j:Nat):(A.set i o).bp j=if j=i then o else A.bp j:=rfl
theorem AW.ab (A:AW) (i:Nat):A.b8 i=match A.bp i with|some (.cells cs _ _)=>some cs|_=>none:=rfl
theorem AW.Wf.dT {A:AW} (hw:A.Wf) {i:Nat} {o:dQ} (hg:A.bp i=some o):(i=A.next)=False/\∀k,(i=A.next+k)=False:=by
 have:=hw.lt hg;exact⟨eq_false (by omega),λk=>eq_false (by omega)⟩
theorem bB.post {A:AW} {p:Prop} {Q F:HP} (hp:p) (h:bB A (Q*F)):bB A (De p*Q*F):=by
 rw [HP.cQ,bB.pr];exact⟨hp,h⟩
theorem bB.rt {A:AW} {p:Prop} {Q F:HP} (h:bB A (De p*Q*F)):p/\bB A (Q*F):=by
 rw [HP.cQ,bB.pr] at h;exact h
theorem bB.US {A A':AW} {b:Nat} {o o':dQ} {F:HP} (h:bB A (pt b o*F)) (h1:A'.bp b=some o') (hk:∀j x,j≠b->A.bp j=some x->A'.bp j=some x):bB A' (pt b o'*F):=
 bB.cons h1 (h.Fw λj x hj hx=>by rw [AW.bg hj];exact hk j x hj hx)
theorem bB.upd2 {A A':AW} {b c:Nat} {o o' p p':dQ} {F:HP} (h:bB A (pt b o*(pt c p*F))) (h1:A'.bp b=some o') (h2:A'.bp c=some p')
 (hk:∀j x,j≠b->j≠c->A.bp j=some x->A'.bp j=some x):bB A' (pt b o'*(pt c p'*F)):=by
 have hbc:=h.ne;have e1:bB (A'.set b (some o)) (pt b o*(pt c p'*F)):=by
  have h':bB A (pt c p*(pt b o*F)):=h.dZ (by ac_rfl);refine(bB.US h' (by rw [AW.bg (qh hbc)];exact h2) λj x hj hx=>?_).dZ (by ac_rfl);by_cases e:j=b;subst e;rw [AW.cY];rw [h.bp] at hx;exact hx;rw [AW.bg e];exact hk j x e hj hx
 exact bB.US e1 h1 λj x hj hx=>by rwa [AW.bg hj] at hx
theorem bB.upd3 {A A':AW} {b c d:Nat} {o o' p p' q q':dQ} {F:HP} (h:bB A (pt b o*(pt c p*(pt d q*F)))) (h1:A'.bp b=some o') (h2:A'.bp c=some p') (h3:A'.bp d=some q')
 (hk:∀j x,j≠b->j≠c->j≠d->A.bp j=some x->A'.bp j=some x):bB A' (pt b o'*(pt c p'*(pt d q'*F))):=by
 have hbc:=h.ne;have hbd:=h.Yn;have e1:bB (A'.set b (some o)) (pt b o*(pt c p'*(pt d q'*F))):=by
  have h':bB A (pt c p*(pt d q*(pt b o*F))):=h.dZ (by ac_rfl);refine(bB.upd2 h' (by rw [AW.bg (qh hbc)];exact h2) (by rw [AW.bg (qh hbd)];exact h3) λj x hj Qy hx=>?_).dZ (by ac_rfl);by_cases e:j=b;subst e;rw [AW.cY];rw [h.bp] at hx;exact hx;rw [AW.bg e];exact hk j x e hj Qy hx
 exact bB.US e1 h1 λj x hj hx=>by rwa [AW.bg hj] at hx
theorem bB.TI {A A':AW} {b c:Nat} {o o' p:dQ} {F:HP} (h:bB A (pt b o*(pt c p*F))) (h1:A'.bp b=some o') (hk:∀j x,j≠b->j≠c->A.bp j=some x->A'.bp j=some x):bB A' (pt b o'*F):=by
 have hbc:=h.ne;have h':bB A (pt c p*(pt b o*F)):=h.dZ (by ac_rfl);have e1:bB (A'.set b (some o)) (pt b o*F):=h'.Fw λj x hj hx=>by
  by_cases e:j=b;subst e;rw [AW.cY];rw [h.bp] at hx;exact hx;rw [AW.bg e];exact hk j x e hj hx
 exact bB.US e1 h1 λj x hj hx=>by rwa [AW.bg hj] at hx
theorem bB.LD {A A':AW} {b c d:Nat} {o o' p q:dQ} {F:HP} (h:bB A (pt b o*(pt c p*(pt d q*F)))) (h1:A'.bp b=some o') (hk:∀j x,j≠b->j≠c->j≠d->A.bp j=some x->A'.bp j=some x):bB A' (pt b o'*F):=by
 have hbc:=h.ne;have hbd:=h.Yn;have Mf:=h.right.ne;have e1:bB (A'.set c (some p)) (pt b o'*(pt c p*F)):=by
  refine(bB.TI (b:=b) (c:=d) (o:=o) (p:=q) (F:=pt c p*F) (h.dZ (by ac_rfl)) (by rw [AW.bg hbc];exact h1) λj x hj Qy hx=>?_);by_cases e:j=c;subst e;rw [AW.cY];rw [h.right.bp] at hx;exact hx;rw [AW.bg e];exact hk j x hj e Qy hx
 have e2:bB (A'.set c (some p)) (pt c p*(pt b o'*F)):=e1.dZ (by ac_rfl);exact e2.Fw λj x hj hx=>by rwa [AW.bg hj] at hx
theorem Je {P:Program} {n:Nat} {c:Code} {Q:Exit->Fr->AW->Prop} {a:Fr} {A:AW} (J:AW->Prop) (hJ:J A) (h:∀A',J A'->c8 P n c Q a A'):c8 P n c Q a A:=h A hJ
def aO (P:Program) (n:Nat) (c:Code) (Q:Exit->Fr->AW->Prop):Nat->Fr->AW->Prop
 | 0,_,_=>False
 | k+1,a,A=>c8 P n c (aR (aO P n c Q k) Q) a A
theorem iO {P:Program} {n:Nat} {c:Code} {Q:Exit->Fr->AW->Prop} {a:Fr} {A:AW} (k:Nat) (h:aO P n c Q k a A):c8 P n (.loop c) Q a A:=by
 refine ef (aO P n c Q) k h ?_;intro k a A h;cases k with
 | zero=>exact h.elim
 | succ k=>exact Bb h λe a A hh=>by cases e<;>first|exact⟨k,Nat.lt_succ_self k,hh⟩|exact hh
def pJ (P:Program) (f:FuncId) (args:List Value) (rl:HP) (post:Value->HP):Prop:=
 ∀(A:AW) (F:HP),A.Wf->bB A (rl*F)->aD P f args A λv A'=>bB A' (post v*F)
theorem pJ.use {P:Program} {f:FuncId} {args:List Value} {rl:HP} {post:Value->HP} (h:pJ P f args rl post) {A:AW} {G F:HP} (hw:A.Wf) (hs:bB A G) (e:G=rl*F) {k:Value->AW->Prop}
 (hk:∀v A',bB A' (post v*F)->A'.Wf->A.next<=A'.next->k v A'):aD P f args A k:=
 bO (h A F hw (hs.dZ e)) hk
end Go.Stx
namespace Go.Stx
open Go
variable [Gl]
def dh (n:Nat) (v:Value):Prop:=∀(m m':Mp) (x:Value),bI m v x->(∀i,i<n->m' i=m i)->bI m' v x
theorem dh.kH {n:Nat} {v:Value} (h:fD v=true):dh n v:=λm m' x hx _=>by
 have:=hx.ny h;subst this;exact .kH h m'
theorem dh.Ah {n:Nat}:dh n (.pointer none):=λm m' x hx _=>by cases hx;constructor
theorem dh.lC {n a b:Nat}:dh n (.slice none a b):=λm m' x hx _=>by cases hx;constructor
theorem dh.Ay {n:Nat}:dh n (.map none):=λm m' x hx _=>by cases hx;constructor
theorem dh.nilFunc {n:Nat}:dh n .nilFunc:=λm m' x hx _=>by cases hx;constructor
theorem dh.nilIface {n:Nat}:dh n .nilIface:=λm m' x hx _=>by cases hx;constructor
theorem dh.agg {n:Nat} {vs:Array Value} (h:∀v∈vs.toList,dh n v):dh n (.agg vs):=λm m' x hx e=>by
 cases hx with
 | agg h1 h2=>exact .agg h1 λi v v' e1 e2=>h v (Ze.2 (ZW e1)) m m' v' (h2 i v v' e1 e2) e
theorem dh.tuple {n:Nat} {vs:Array Value} (h:∀v∈vs.toList,dh n v):dh n (.tuple vs):=λm m' x hx e=>by
 cases hx with
 | tuple h1 h2=>exact .tuple h1 λi v v' e1 e2=>h v (Ze.2 (ZW e1)) m m' v' (h2 i v v' e1 e2) e
@[simp] theorem dh.int {n:Nat} {k:IntKind} {x:Int}:dh n (.int k x):=λm m' x hx _=>by cases hx;constructor
@[simp] theorem dh.bool {n:Nat} {x:Bool}:dh n (.bool x):=λm m' x hx _=>by cases hx;constructor
@[simp] theorem dh.string {n:Nat} {x:ByteArray}:dh n (.string x):=λm m' x hx _=>by cases hx;constructor
attribute [simp] dh.Ah dh.lC dh.Ay dh.nilFunc dh.nilIface
theorem rh.Ef {m m':Mp} {a a':Addr} (h:rh m a a') (e:∀p,m a.block=some p->m' a.block=some p):rh m' a a':=by
 obtain⟨h1,h2,p,h3,h4⟩:=h;exact⟨h1,h2,p,e p h3,h4⟩
theorem Ci.Ef {m m':Mp} {a a':Addr} {c:Nat} (h:Ci m a a' c) (e:∀p,m a.block=some p->m' a.block=some p):Ci m' a a' c:=by
 obtain⟨h1,h2,p,h3,h4⟩:=h;exact⟨h1,h2,p,e p h3,h4⟩
theorem bI.Mk {m m1 m2:Mp} (hag:∀i,m i≠none->m2 i=m1 i) {v x:Value} (h:bI m v x):∀y,bI m1 v y->bI m2 v y:=by
 have Ii:∀{i:Nat} {p:Pl},m i=some p->m2 i=m1 i:=λh=>hag _ (by rw [h];exact kaF _)
 induction h with
 | bool b=>intro y hy;cases hy;constructor
 | int k n=>intro y hy;cases hy;constructor
 | float k n=>intro y hy;cases hy;constructor
 | complex k x y=>intro y hy;cases hy;constructor
 | string s=>intro y hy;cases hy;constructor
 | Ah=>intro y hy;cases hy;constructor
 | Kr h=>
   intro y hy;obtain⟨_,_,p,hp,_⟩:=h;cases hy with
   | Kr h'=>exact .Kr (h'.Ef λq hq=>by rw [Ii hp];exact hq)
 | lC=>intro y hy;cases hy;constructor
 | slice h h1 h2=>
   intro y hy;cases hy with
   | slice h' h1' h2'=>
     rename_i a _ _ _ _ _ _;have key:m2 a.block=m1 a.block\/a.spot.isSome=true:=by
      rcases h with ⟨Nv,_,p,hp,_⟩|⟨hl,_,zN|hb⟩;exact .inl (Ii hp);exact .inr zN;exact .inl (hag _ hb)
     rcases key with hb|zN;refine .slice ?_ h1' h2';rcases h' with s|⟨e1,e2,e3⟩;exact .inl (s.Ef λq hq=>by rw [hb];exact hq);exact .inr ⟨e1,e2,e3.imp id λe=>by rw [hb];exact e⟩;refine .slice ?_ h1' h2';rcases h' with s|⟨e1,e2,e3⟩;have:=s.1;rw [this] at zN;cases zN;exact .inr ⟨e1,e2,.inl zN⟩
 | Ay=>intro y hy;cases hy;constructor
 | map h=>
   intro y hy;obtain⟨p,hp,_⟩:=h;cases hy with
   | map h'=>
     obtain⟨q,hq,e⟩:=h';exact .map ⟨q,by rw [Ii hp];exact hq,e⟩
 | Fs=>intro y hy;cases hy;constructor
 | func fn hx hy h1 h2 ih1 ih2=>
   intro y Yw;rename_i x x' z z';cases Yw with
   | func _ kx ky g1 g2=>
     refine .func fn kx ky (λi v v' e1 e2=>?_) (λi v v' e1 e2=>?_);have cD:i<x'.size:=(by rw [<-hx];exact(qr.1 e1).1);exact ih1 i v _ e1 (qV cD) v' (g1 i v v' e1 e2);have cD:i<z'.size:=(by rw [<-hy];exact(qr.1 e1).1);exact ih2 i v _ e1 (qV cD) v' (g2 i v v' e1 e2)
 | nilFunc=>intro y hy;cases hy;constructor
 | iface t _ ih=>intro y hy;cases hy with|iface _ h'=>exact .iface t (ih _ h')
 | nilIface=>intro y hy;cases hy;constructor
 | agg hx _ ih=>
   intro y Yw;rename_i x x' _;cases Yw with
   | agg kx g1=>
     refine .agg kx (λi v v' e1 e2=>?_);have cD:i<x'.size:=(by rw [<-hx];exact(qr.1 e1).1);exact ih i v _ e1 (qV cD) v' (g1 i v v' e1 e2)
 | tuple hx _ ih=>
   intro y Yw;rename_i x x' _;cases Yw with
   | tuple kx g1=>
     refine .tuple kx (λi v v' e1 e2=>?_);have cD:i<x'.size:=(by rw [<-hx];exact(qr.1 e1).1);exact ih i v _ e1 (qV cD) v' (g1 i v v' e1 e2)
def OBelow (n:Nat):dQ->Prop
 | .cells cs _ _=>∀c∈cs,dh n c
 | .map es _=>∀e∈es,dh n e.1/\dh n e.2
theorem aD.gc {P:Program} {f:FuncId} {args:List Value} {A X:AW} {V:Value} (hX:X.next=A.next) (hV:dh A.next V)
 (hO:∀i o,X.bp i=some o->i<A.next/\(A.bp i=some o\/OBelow A.next o))
 (h:aD P f args A λv A'=>v=V/\∀i o,X.bp i=some o->A'.bp i=some o):aD P f args A λv A'=>v=V/\X=A':=by
 refine⟨h.1,λm w gK hs hl=>(h.2 m w gK hs hl).mono ?_⟩;rintro e w' ⟨v,v',m',A',rfl,ev,hv,rfl,hg⟩
 let m2:Mp:=λi=>if i<A.next then m' i else none
 have hlow:∀i,m i≠none->i<A.next:=λi hi=>by
  rcases Zt i A.next with h|h;exact h;exact absurd (hs.sS i h) hi
 have h2:∀i,i<A.next->m2 i=m' i:=λi hi=>aA hi;have fO:Mp.le m m2:=λi p hi=>by
  have:=hlow i (by rw [hi];exact kaF _);rw [h2 i this];exact ev.ext i p hi
 have VS:∀{u x:Value},dh A.next u->bI m' u x->bI m2 u x:=λhb hr=>hb m' m2 _ hr h2;have hag:∀i,m i≠none->m2 i=m' i:=λi hi=>h2 i (hlow i hi);refine⟨v,v',m2,X,rfl,⟨fO,⟨?_,?_,?_,?_,ev.FR.laid,λi o p hi Bs BT=>ev.FR.AA i o p (hg i o hi) Bs (by rw [<-h2 i (hO i o hi).1];exact BT),hs.wI.mono fO⟩,by omega,ev.os,ev.tape,ev.output,ev.size,ev.tR,?_,λi hi=>(h2 i hi).trans (ev.mu i hi),?_⟩,VS hV hv,rfl,rfl⟩
 . intro i o hi;obtain⟨p,hp,hm⟩:=ev.FR.Gu i o (hg i o hi);obtain⟨cD,se⟩:=hO i o hi;refine⟨p,by rw [h2 i cD];exact hp,?_⟩;rcases se with hA|hB
   . obtain⟨p0,IQ,hm0⟩:=hs.Gu i o hA;cases o with
     | cells cs own u=>
       obtain⟨iT,e1,fr,g1,g2,g3,g4,g5⟩:=hm;obtain⟨_,_,_,_,_,_,_,k5⟩:=hm0;refine⟨iT,e1,fr,g1,g2,g3,g4,λk u hu=>?_⟩;obtain⟨y,hy,hr⟩:=g5 k u hu;obtain⟨x,_,hr0⟩:=k5 k u hu;exact⟨y,hy,hr0.Mk hag y hr⟩
     | map es own=>
       obtain⟨k8,aB,zu,gp,g1,g2,g3⟩:=hm;obtain⟨ents0,_,es0,kp,_,k2,k3⟩:=hm0;refine⟨k8,aB,zu,gp,g1,g2,λk x e hx he=>?_⟩;obtain⟨k0,VK⟩:=List.mem_iff_getElem?.1 ((kp.mem_iff).1 ((gp.mem_iff).2 (Z3 hx)));have cD:k0<ents0.size:=(by rw [<-k2];exact(qK.1 VK).1);have q:=k3 k0 x _ VK (qV cD);have r:=g3 k x e hx he;exact⟨q.1.Mk hag _ r.1,q.2.Mk hag _ r.2⟩
   cases o with
   | cells cs own u=>
     obtain⟨iT,e1,fr,g1,g2,g3,g4,g5⟩:=hm;refine⟨iT,e1,fr,g1,g2,g3,g4,λk u hu=>?_⟩;obtain⟨y,hy,hr⟩:=g5 k u hu;exact⟨y,hy,VS (hB u (Z3 hu)) hr⟩
   | map es own=>
     obtain⟨k8,aB,zu,gp,g1,g2,g3⟩:=hm;refine⟨k8,aB,zu,gp,g1,g2,λk x e hx he=>?_⟩;have r:=g3 k x e hx he;have b:=hB x ((gp.mem_iff).2 (Z3 hx));exact⟨VS b.1 r.1,VS b.2 r.2⟩
 intro i j o o' p p' hi ho hj gT VD Xb;rw [h2 i (hO i o hi).1] at VD;rw [h2 j (hO j o' hj).1] at Xb;exact ev.FR.inj i j o o' p p' (hg i o hi) ho (hg j o' hj) gT VD Xb;intro i hi;exact aw (by omega)
 . intro i hi;cases hx:X.bp i with
   | none=>rfl
   | some o=>have:=(hO i o hx).1;omega
 rintro b ⟨i,o,p,hi,ho,hp,hb⟩;rw [h2 i (hO i o hi).1] at hp;exact ev.grow b ⟨i,o,p,hg i o hi,ho,hp,hb⟩;rintro b ⟨i,o,p,hi,hp,hb⟩;rw [h2 i (hO i o hi).1] at hp;exact ev.UQ b ⟨i,o,p,hg i o hi,hp,hb⟩
theorem aD.tG {P:Program} {f:FuncId} {args:List Value} {A:AW} {V:Value} (hV:dh A.next V)
 (h:A.Wf->aD P f args A λv A'=>v=V/\A.le A') (hc:jY P f=true):aD P f args A λv A'=>v=V/\A=A':=by
 have key:A.Wf->aD P f args A λv A'=>v=V/\A=A':=λhw=>
  aD.gc rfl hV (λi o hi=>⟨hw.lt hi,.inl hi⟩) ((h hw).mono λv A' ⟨h1,h2⟩=>⟨h1,λi o hi=>h2.mu hw hi⟩)
 exact⟨hc,λm w gK hs hl=>(key hs.zL).2 m w gK hs hl⟩
end Go.Stx
namespace Go.Stx
open Go
variable [Gl]
def dv (size:Nat) (v:Value) (n:Nat) (cs:List Value):HP:=
 ⟨λh=>(v=.slice none 0 0/\n=0/\cs=[]/\h=λ_=>none) \/
  ∃b off c b8,v=.slice (some ⟨b,off,none⟩) n c/\n<=c/\off+n*size<=b8.length/\cs=(b8.drop off).take (n*size)/\
   h=λj=>if j=b then some (.cells b8 true size) else none⟩
def av (k:IntKind) (v:Value) (l:List Int):HP:=dv 1 v l.length (l.map (qp k))
theorem dv.cases {A:AW} {size n:Nat} {v:Value} {cs:List Value} {F:HP} (h:bB A (dv size v n cs*F)) :
 (v=.slice none 0 0/\n=0/\cs=[]/\bB A F) \/
 ∃b off c b8,v=.slice (some ⟨b,off,none⟩) n c/\n<=c/\off+n*size<=b8.length/\cs=(b8.drop off).take (n*size)/\bB A (pt b (.cells b8 true size)*F):=by
 obtain⟨_,⟨a,b,d,rfl,p,q⟩,hs⟩:=h;rcases p with ⟨h1,h2,h3,rfl⟩|⟨b',off,c,b8,h1,h2,h3,h4,rfl⟩;exact .inl ⟨h1,h2,h3,b,q,hs⟩;exact .inr ⟨b',off,c,b8,h1,h2,h3,h4,_,⟨_,b,d,rfl,rfl,q⟩,hs⟩
theorem dv.nil {A:AW} {size:Nat} {F:HP} (h:bB A F):bB A (dv size (.slice none 0 0) 0 []*F):=by
 obtain⟨x,p,hs⟩:=h;exact⟨x,⟨_,x,λ_=>.inl rfl,rfl,.inl ⟨rfl,rfl,rfl,rfl⟩,p⟩,hs⟩
theorem dv.mk {A:AW} {size n b off c:Nat} {b8 cs:List Value} {F:HP} (hc:n<=c) (h1:off+n*size<=b8.length) (h2:cs=(b8.drop off).take (n*size))
 (h:bB A (pt b (.cells b8 true size)*F)):bB A (dv size (.slice (some ⟨b,off,none⟩) n c) n cs*F):=
 h.entl λx hx=>.inr ⟨b,off,c,b8,rfl,hc,h1,h2,hx⟩
theorem dv.own {A:AW} {size n:Nat} {v:Value} {cs:List Value} {F:HP} (h:bB A (dv size v n cs*F)):dS 0 A size v n cs:=by
 rcases dv.cases h with ⟨rfl,rfl,rfl,_⟩|⟨b,off,c,b8,rfl,h1,h2,h3,h4⟩;exact .inl ⟨rfl,rfl,rfl⟩;exact .inr ⟨⟨b,off,none⟩,c,b8,rfl,h1,rfl,qG _,h4.bp,h2,h3⟩
theorem dv.is {A:AW} {size n:Nat} {v:Value} {cs:List Value} {F:HP} (h:bB A (dv size v n cs*F)):fW A size v n cs:=(dv.own h).is
theorem av.is {A:AW} {k:IntKind} {v:Value} {l:List Int} {F:HP} (h:bB A (av k v l*F)):cd A k v l:=dv.is h
theorem av.nil {A:AW} {k:IntKind} {F:HP} (h:bB A F):bB A (av k (.slice none 0 0) []*F):=dv.nil h
theorem av.mk {A:AW} {k:IntKind} {b off c n:Nat} {b8:List Value} {l:List Int} {F:HP} (hn:n=l.length) (hc:l.length<=c) (h1:off+l.length<=b8.length) (h2:l.map (qp k)=(b8.drop off).take l.length)
 (h:bB A (pt b (.cells b8 true 1)*F)):bB A (av k (.slice (some ⟨b,off,none⟩) n c) l*F):=by
 subst hn;exact dv.mk hc (by simpa using h1) (by simpa using h2) h
theorem dv.iB {A A':AW} {size n:Nat} {v:Value} {cs:List Value} {F:HP} (h:bB A F) (hw:A.Wf) (hl:A.le A') (ho:dS A.next A' size v n cs):bB A' (dv size v n cs*F):=by
 rcases ho with ⟨rfl,rfl,rfl⟩|⟨p,c,b8,rfl,h1,hs,hB,hg,h2,h3⟩;exact dv.nil (h.le hw hl);obtain⟨b,o,s⟩:=p;simp only at hs hB hg h2 h3;subst hs;refine dv.mk h1 h2 h3 (bB.cons hg (h.Sl λi o hi=>?_));have:=hw.lt hi;rw [AW.bg (by omega)];exact hl.mu hw hi
theorem av.iB {A A':AW} {k:IntKind} {v:Value} {l:List Int} {F:HP} (h:bB A F) (hw:A.Wf) (hl:A.le A') (ho:fk A.next A' k v l):bB A' (av k v l*F):=dv.iB h hw hl ho
theorem av.at {A:AW} {k:IntKind} {v:Value} {l:List Int} {F:HP} (h:bB A (av k v l*F)) {j:Nat} (hj:j<l.length) :
 ∃b off c b8,v=.slice (some ⟨b,off,none⟩) l.length c/\l.length<=c/\A.bp b=some (.cells b8 true 1)/\b8[off+j]? = some (.int k l[j])/\off+l.length<=b8.length/\
  ∀y,bB (A.set b (some (.cells (b8.set (off+j) (.int k y)) true 1))) (av k v (l.set j y)*F):=by
 rcases dv.cases h with ⟨_,h0,_⟩|⟨b,off,c,b8,rfl,h1,h2,h3,h4⟩;omega;rw [qX] at h2 h3;have hcell:∀q,q<l.length->b8[off+q]? = (l.map (qp k))[q]?:=λq hq=>by
  rw [h3,Zu hq,Zv]
 refine⟨b,off,c,b8,rfl,h1,h4.bp,by rw [hcell j hj,Zg,qk hj];rfl,h2,λy=>?_⟩;have:=dv.mk (size:=1) (n:=l.length) (off:=off) (c:=c) (cs:=(l.set j y).map (qp k)) h1 (by simpa using h2) ?_ (h4.set (.cells (b8.set (off+j) (.int k y)) true 1));unfold av
 simpa using this
 rw [qX];apply kab;intro q;by_cases hq:q<l.length;rw [Zu hq,Zv,Zg];by_cases e:j=q;subst e;rw [Zd hj,Zd (by omega)];rfl;rw [Zo e,Zo (by omega),hcell q hq,Zg];rw [qN (by simp;omega),qN (by simp;omega)]
theorem av.append {P:Program} {A:AW} {t e:TypeId} {i:TypeInfo} {z:Value} {v:Value} {k:IntKind} {l:List Int} {F:HP} (y:Int)
 (hu:P.underlying t=some (.slice e)) (hi:P.info? e=some i) (hz:i.zero=some z) (ii:i.size=1) (oK:z.cells.size=1)
 (h:bB A (av k v l*F)) (bX:l.length<2 ^ 40) (zj:i.bytes<=8) (hw:A.Wf) :
 ∃v' A',fy P (A.alloc (.cells [.int k y] true 1)) t t v (.slice (some ⟨A.next,0,none⟩) 1 1)=some (v',A')/\bB A' (av k v' (l++[y])*F)/\A'.Wf/\A.next<=A'.next:=by
 have jm:gD (A.alloc (.cells [.int k y] true 1)) 1 (.slice (some ⟨A.next,0,none⟩) 1 1)=some (1,[.int k y]):=by
  simp [gD,AW.b8]
 have hb:(l.length+1)*i.bytes<=140737488355328:=by
  have:=kah (l.length+1) zj;omega
 have kS:l.length+1<=140737488355328:=by omega
 have mP:[qp k y].all qL=true:=rfl;have hll:(l++[y]).length=l.length+1:=by simp
 rcases dv.cases h with ⟨rfl,h0,h1,h2⟩|⟨b,off,c,b8,rfl,h1,h2,h3,h4⟩;have:l=[]:=Zc h0;subst this;refine⟨.slice (some ⟨A.next+1,0,none⟩) (0+1) (0+1),(A.alloc (.cells [.int k y] true 1)).alloc (.cells ([]++[.int k y]) true i.size),?_,?_,(hw.alloc _).alloc _,by simp;omega⟩;simp only [fy,hu,hi,hz,ii,jm,gO];rw [aA ⟨oK,by omega,trivial⟩,aw (by omega),aA ⟨kS,hb,mP⟩];simp;have:=(h2.mu hw (.cells [.int k y] true 1)).alloc (hw.alloc _) (.cells ([]++[.int k y]) true i.size);rw [ii] at this ⊢;have h9:bB ((A.alloc (.cells [.int k y] true 1)).alloc (.cells ([]++[.int k y]) true 1)) (pt (A.next+1) (.cells [.int k y] true 1)*F):=this;exact dv.mk (size:=1) (n:=1) (off:=0) (c:=1) (by simp) (by simp) (by simp) h9;have hg:=h4.bp;have cD:=hw.lt hg;have Pd:(A.alloc (.cells [.int k y] true 1)).bp b=some (.cells b8 true 1):=by rw [AW.fV _ _ (by omega)];exact hg
 refine⟨.slice (some ⟨A.next+1,0,none⟩) (l.length+1) (l.length+1),((A.alloc (.cells [.int k y] true 1)).set b none).alloc (.cells ((b8.drop off).take (l.length*1)++[.int k y]) true i.size),?_,?_,
  ((hw.alloc _).set none (by simp;omega)).alloc _,by simp;omega⟩
 simp only [fy,hu,hi,hz,ii,jm,gO,Pd];rw [aA ⟨oK,by omega,trivial⟩,aw (by simp),aA ⟨trivial,h2⟩];simp only;rw [aw (by omega),aA ⟨kS,hb,mP⟩];simp;have h5:=((h4.mu hw (.cells [.int k y] true 1)).Nh).alloc ((hw.alloc (.cells [.int k y] true 1)).set none (by simp;omega)) (.cells ((b8.drop off).take (l.length*1)++[.int k y]) true i.size);rw [ii] at h5 ⊢;unfold av;rw [hll];refine dv.mk (qf _) ?_ ?_ (by simpa using h5);simp at h2 ⊢;omega;rw [qX] at h2 h3;simp only [qX,Za];rw [<-h3,ZD (by simp)];simp
theorem av.Jj {P:Program} {A:AW} {t e:TypeId} {i:TypeInfo} {z:Value} {v:Value} {k:IntKind} {l:List Int} {F:HP} (y:Int) (n:Nat)
 (hu:P.underlying t=some (.slice e)) (hi:P.info? e=some i) (hz:i.zero=some z) (ii:i.size=1) (oK:z.cells.size=1)
 (hn:A.bp n=some (.cells [.int k y] true 1)) (h:bB A (av k v l*F)) (bX:l.length<2 ^ 40) (zj:i.bytes<=8) (hw:A.Wf) :
 ∃v' A',fy P A t t v (.slice (some ⟨n,0,none⟩) 1 1)=some (v',A')/\bB A' (av k v' (l++[y])*F)/\A'.Wf/\A.next<=A'.next:=by
 have jm:gD A 1 (.slice (some ⟨n,0,none⟩) 1 1)=some (1,[.int k y]):=by
  simp [gD,AW.b8,hn]
 have hb:(l.length+1)*i.bytes<=140737488355328:=by
  have:=kah (l.length+1) zj;omega
 have kS:l.length+1<=140737488355328:=by omega
 have mP:[qp k y].all qL=true:=rfl;have hll:(l++[y]).length=l.length+1:=by simp
 rcases dv.cases h with ⟨rfl,h0,h1,h2⟩|⟨b,off,c,b8,rfl,h1,h2,h3,h4⟩
 . have:l=[]:=Zc h0;subst this;refine⟨.slice (some ⟨A.next,0,none⟩) (0+1) (0+1),A.alloc (.cells ([]++[.int k y]) true i.size),?_,?_,hw.alloc _,by simp⟩
   . simp only [fy,hu,hi,hz,ii,jm,gO];rw [aA ⟨oK,by omega,trivial⟩,aw (by omega),aA ⟨kS,hb,mP⟩]
     try simp
   have:=h2.alloc hw (.cells ([]++[.int k y]) true i.size);rw [ii] at this ⊢;have h9:bB (A.alloc (.cells [.int k y] true 1)) (pt A.next (.cells [.int k y] true 1)*F):=this;exact dv.mk (size:=1) (n:=1) (off:=0) (c:=1) (by simp) (by simp) (by simp) h9
 have hg:=h4.bp;have cD:=hw.lt hg
 refine⟨.slice (some ⟨A.next,0,none⟩) (l.length+1) (l.length+1),(A.set b none).alloc (.cells ((b8.drop off).take (l.length*1)++[.int k y]) true i.size),?_,?_,
  (hw.set none cD).alloc _,by simp⟩
 . simp only [fy,hu,hi,hz,ii,jm,gO,hg];rw [aA ⟨oK,by omega,trivial⟩,aw (by simp),aA ⟨trivial,h2⟩];simp only;rw [aw (by omega),aA ⟨kS,hb,mP⟩]
   try simp
 have h5:=(h4.Nh).alloc (hw.set none cD) (.cells ((b8.drop off).take (l.length*1)++[.int k y]) true i.size);rw [ii] at h5 ⊢;unfold av;rw [hll];refine dv.mk (qf _) ?_ ?_ (by simpa using h5);simp at h2 ⊢;omega;rw [qX] at h2 h3;simp only [qX,Za];rw [<-h3,ZD (by simp)];simp
theorem cd.atg {A:AW} {k:IntKind} {o:Option Addr} {c n:Nat} {l:List Int} (h:cd A k (.slice o n c) l) {i:Nat} (hi:i<l.length) :
 ∃p b8 own,o=some p/\A.bp p.block=some (.cells b8 own 1)/\b8[p.off+i]? = some (.int k l[i]):=by
 rcases h.cases with ⟨h1,rfl⟩|⟨p,c,b8,own,h1,_,hg,_,hr⟩;simp at hi;injection h1 with h1 h2 h3;exact⟨p,b8,own,h1,hg,hr i hi⟩
theorem av.SE {P:Program} {A:AW} {t e:TypeId} {i:TypeInfo} {k k1 k2:IntKind} {F:HP} (n:Nat)
 (hu:P.underlying t=some (.slice e)) (hi:P.info? e=some i) (hz:i.zero=some (.int k 0)) (ii:i.size=1) (zj:i.bytes<=8) (hn:n<2 ^ 40) (h:bB A F) (hw:A.Wf) :
 ∃v' A',mj P A t (.int k1 (n:Int)) (.int k2 (n:Int))=some (v',A')/\bB A' (av k v' (qc n 0)*F)/\A'.Wf/\A.le A':=by
 have hb:(n:Int)*i.bytes<=140737488355328:=by
  have:=kah n zj;have h2:((n*i.bytes:Nat):Int)<=((n*8:Nat):Int):=by exact_mod_cast this
  have h3:((n*i.bytes:Nat):Int)=(n:Int)*i.bytes:=by push_cast;rfl
  omega
 refine⟨.slice (some ⟨A.next,0,none⟩) n n,A.alloc (.cells (fB [.int k 0] n) true 1),?_,?_,hw.alloc _,AW.le.alloc _ _⟩;simp only [mj,hu,hi,hz,ii];rw [aA ⟨rfl,by omega,rfl,by omega,by omega,by omega,hb⟩];simp [Value.cells];have bX:(fB [qp k 0] n).length=n:=by simp [jE]
 have hcs:(qc n (0:Int)).map (qp k)=fB [qp k 0] n:=by
  clear hb hn bX
  induction n with
  | zero=>rfl
  | succ n ih=>rw [kap,Zi,ih];rfl
 refine av.mk (by simp) (by simp) (by simp [bX]) ?_ (h.alloc hw _);rw [hcs,Za,ZD (by simp [bX])]
theorem av.Wn {P:Program} {A:AW} {t u e:TypeId} {i:TypeInfo} {ku:IntKind} {v:Value} {k kq:IntKind} {l:List Int} {F:HP} (n:Nat)
 (hu:P.underlying t=some (.slice e)) (huu:P.underlying u=some (.int ku)) (hi:P.info? e=some i) (hz:i.zero=some (.int k 0)) (ii:i.size=1)
 (h:bB A (av k v l*F)) (bX:l.length+n<2 ^ 40) (zj:i.bytes<=8) (hw:A.Wf) :
 ∃v' A',oV P A t u v (.int kq (n:Int))=some (v',A')/\bB A' (av k v' (l++qc n 0)*F)/\A'.Wf:=by
 have hcs:(qc n (0:Int)).map (qp k)=fB [qp k 0] n:=by
  clear bX
  induction n with
  | zero=>rfl
  | succ n ih=>rw [kap,Zi,ih];rfl
 have hzl:(fB [qp k 0] n).length=n:=by simp [jE]
 have hb:(l.length+n)*i.bytes<=140737488355328:=by
  have:=kah (l.length+n) zj;omega
 rcases dv.cases h with ⟨rfl,h0,h1,h2⟩|⟨b,off,c,b8,rfl,h1,h2,h3,h4⟩;have:l=[]:=Zc h0;subst this;by_cases hn:n=0;subst hn;refine⟨.slice none 0 0,A,?_,by simpa using h,hw⟩;simp only [oV,hu,huu,hi,hz,ii,gO];rw [aA ⟨rfl,by omega,rfl,by omega,by simp,by simp⟩];simp;refine⟨.slice (some ⟨A.next,0,none⟩) (0+n) (0+n),A.alloc (.cells ([]++fB [.int k 0] n) true 1),?_,?_,hw.alloc _⟩;simp only [oV,hu,huu,hi,hz,ii,gO,Zp];rw [aA ⟨rfl,by omega,rfl,by omega,by simp at bX;omega,by simpa using hb⟩,aw hn];rfl;refine av.mk (by simp) (by simp) (by simp [hzl]) ?_ (h2.alloc hw _);rw [af,af,hcs,Za,ZD (by simp [hzl])];have hg:=h4.bp;have cD:=hw.lt hg;by_cases hn:n=0;subst hn;refine⟨.slice (some ⟨b,off,none⟩) l.length c,A,?_,by simpa using h,hw⟩;simp only [oV,hu,huu,hi,hz,ii,gO,hg];rw [aw (by simp),aA ⟨trivial,h2⟩];simp only;rw [aA ⟨rfl,by omega,rfl,by omega,by simp at bX ⊢;omega,by simpa using hb⟩]
 simp;refine⟨.slice (some ⟨A.next,0,none⟩) (l.length+n) (l.length+n),(A.set b none).alloc (.cells ((b8.drop off).take (l.length*1)++fB [.int k 0] n) true 1),?_,?_,(hw.set none cD).alloc _⟩;simp only [oV,hu,huu,hi,hz,ii,gO,hg,Zp];rw [aw (by simp),aA ⟨trivial,h2⟩];simp only;rw [aA ⟨rfl,by omega,rfl,by omega,by omega,hb⟩,aw hn];rfl;have h5:=h4.Nh.alloc (hw.set none cD) (.cells ((b8.drop off).take (l.length*1)++fB [.int k 0] n) true 1);rw [qX] at h2 h3;refine av.mk (by simp) (by simp) ?_ ?_ (by simpa using h5);simp [hzl];omega;rw [Za,<-h3,<-hcs,<-Zr,ZD (by simp)]
def kV (f:Nat->HP):Nat->HP
 | 0=>eZ
 | n+1=>kV f n*f n
def s8 (f:Nat->HP) (i:Nat) (Q:HP):Nat->HP:=λj=>if j=i then Q else f j
theorem wX {f g:Nat->HP}:∀{n:Nat},(∀i,i<n->f i=g i)->kV f n=kV g n
 | 0,_=>rfl
 | n+1,h=>by
   unfold kV;rw [wX (n:=n) (λi hi=>h i (by omega)),h n (by omega)]
theorem zC (f:Nat->HP) {i:Nat}:∀{n:Nat},i<n->kV f n=f i*kV (s8 f i eZ) n
 | 0,h=>by omega
 | n+1,h=>by
   unfold kV;by_cases e:i=n;subst e;rw [wX (f:=s8 f i eZ) (g:=f) (n:=i) (λj hj=>by simp [s8];omega)];simp only [s8,if_true,dO];exact HP.mul_comm _ _;have xQ:i<n:=(by omega);rw [zC f xQ];have:s8 f i eZ n=f n:=by simp [s8];omega
   rw [this,HP.cQ]
theorem Q1 (f:Nat->HP) {i n:Nat} (hi:i<n) (Q:HP):kV (s8 f i Q) n=Q*kV (s8 f i eZ) n:=by
 rw [zC _ hi];congr 1;simp [s8];refine wX λj _=>?_;simp only [s8];split<;>rfl
theorem bB.pick {A:AW} {f:Nat->HP} {n i:Nat} {F:HP} (h:bB A (kV f n*F)) (hi:i<n):bB A (f i*(kV (s8 f i eZ) n*F)):=by
 rw [zC f hi,HP.cQ] at h;exact h
theorem bB.put {A:AW} {f:Nat->HP} {n i:Nat} {Q F:HP} (h:bB A (Q*(kV (s8 f i eZ) n*F))) (hi:i<n):bB A (kV (s8 f i Q) n*F):=by
 rw [Q1 f hi,HP.cQ];exact h
end Go.Stx
namespace Go.Stx
open Go
variable [Gl]
def lN (es:List (Int×Value)) (a:Int):Option Value:=(es.find? λe=>e.1 == a).map (·.2)
def sC (k:IntKind) (es:List (Int×Value)):List (Value×Value):=es.map λe=>(.int k e.1,e.2)
def gG (k:IntKind) (r:Nat) (f:Int->Option Value):HP:=rO λes:List (Int×Value)=>De ((es.map (·.1)).Nodup/\∀a,lN es a=f a)*pt r (.map (sC k es) true)
theorem Aw {k0 k:IntKind} {a:Int}:∀(es:List (Int×Value)),(∀e∈es,¬a=e.1)->oO (.int k0) (.int k a) (sC k es)=true
 | [],_=>rfl
 | e::es,h=>by
   have he:(a == e.1)=false:=by simpa using h e (by simp)
   unfold sC oO;simp only [Zi,Cu,he];exact Aw es λx hx=>h x (by simp [hx])
theorem pZ {k0 k:IntKind} {a:Int}:∀(es:List (Int×Value)) (i:Nat),(es.map (·.1)).Nodup->∃q,eX (.int k0) (.int k a) (sC k es) i=some q/\q.map (·.2)=lN es a/\
 ∀j v,q=some (j,v)->∃j',j=i+j'/\j'<es.length/\(∀v',(es.set j' (a,v')).map (·.1)=es.map (·.1))/\∀v' b,lN (es.set j' (a,v')) b=if b=a then some v' else lN es b
 | [],i,_=>⟨none,rfl,rfl,λj v h=>by cases h⟩
 | e::es,i,hn=>by
   simp only [Zi,List.nodup_cons] at hn;unfold sC eX;simp only [Zi,Cu];by_cases h:a=e.1;subst h;have hns:oO (.int k0) (.int k e.1) (sC k es)=true:=Aw es λx hx h=>hn.1 (by rw [h];exact List.mem_map_of_mem hx);unfold sC at hns;refine⟨some (i,e.2),by simp [hns],by simp [lN],?_⟩;intro j v hj;injection hj with hj;injection hj with h1 h2;subst h1;refine⟨0,rfl,by simp,λv'=>by simp,λv' b=>?_⟩;simp only [List.set_cons_zero,lN,List.find?_cons];by_cases hb:e.1=b;subst hb;simp;have wG:(e.1 == b)=false:=by simpa using hb
   simp [wG,qh hb];have gT:(a == e.1)=false:=by simpa using h
   rw [gT];obtain⟨q,h1,h2,h3⟩:=pZ (k0:=k0) (k:=k) (a:=a) es (i+1) hn.2;refine⟨q,h1,?_,?_⟩;rw [h2];have:¬e.1=a:=λx=>h x.symm;simp [lN,this];intro j v hj;obtain⟨j',g1,g2,g0,g3⟩:=h3 j v hj;refine⟨j'+1,by omega,by simpa using g2,λv'=>by simpa using g0 v',λv' b=>?_⟩;have:=g3 v' b;simp only [List.set_cons_succ,lN,List.find?_cons] at this ⊢;by_cases hb:e.1=b;subst hb;have:¬e.1=a:=λx=>h x.symm;simp [this];have wG:(e.1 == b)=false:=by simpa using hb
   rw [wG]
   simpa using this
theorem GS {es:List (Int×Value)} {a:Int} {v:Value} (h:lN es a=none) (b:Int):lN (es++[(a,v)]) b=if b=a then some v else lN es b:=by
 simp only [lN,List.find?_append,Option.map_eq_none_iff] at h ⊢;by_cases hb:b=a;subst hb;simp [h];have:¬a=b:=λx=>hb x.symm;simp [hb,this]
theorem gG.bp {A:AW} {k:IntKind} {r:Nat} {f:Int->Option Value} {F:HP} (h:bB A (gG k r f*F)) :
 ∃es,A.bp r=some (.map (sC k es) true)/\((es.map (·.1)).Nodup/\∀a,lN es a=f a)/\bB A (pt r (.map (sC k es) true)*F):=by
 unfold gG at h;rw [bB.ex] at h;obtain⟨es,h⟩:=h;rw [HP.cQ,bB.pr] at h;exact⟨es,h.2.bp,h.1,h.2⟩
theorem gG.eJ {A:AW} {k:IntKind} {r:Nat} {f:Int->Option Value} {F:HP} (h:bB A (gG k r f*F)) :
 ∃sf,A.bp r=some (.map sf true)/\(∀k0 a v,f a=some v->∃q,eX (.int k0) (.int k a) sf 0=some (some (q,v)))/\(∀k0 a,f a=none->eX (.int k0) (.int k a) sf 0=some none)/\
  bB A (pt r (.map sf true)*F)/\∀{A':AW} {F':HP},bB A' (pt r (.map sf true)*F')->bB A' (gG k r f*F'):=by
 obtain⟨es,hg,⟨hn,hf⟩,hS⟩:=gG.bp h;refine⟨_,hg,λk0 a v hv=>?_,λk0 a hv=>?_,hS,λ{A' F'} h'=>?_⟩
 . obtain⟨q,h1,h2,_⟩:=pZ (k0:=k0) (k:=k) (a:=a) es 0 hn;rw [hf,hv] at h2;cases q with
   | none=>cases h2
   | some q=>obtain⟨j,u⟩:=q;injection h2 with h2;simp only at h2;subst h2;exact⟨j,h1⟩
 . obtain⟨q,h1,h2,_⟩:=pZ (k0:=k0) (k:=k) (a:=a) es 0 hn;rw [hf,hv] at h2;cases q with
   | none=>exact h1
   | some q=>cases h2
 unfold gG;rw [bB.ex];refine⟨es,?_⟩;rw [HP.cQ,bB.pr];exact⟨⟨hn,hf⟩,h'⟩
theorem gG.mc {A:AW} {k:IntKind} {F:HP} (h:bB A F) (hw:A.Wf):bB (A.alloc (.map [] true)) (gG k A.next (λ_=>none)*F):=by
 unfold gG;rw [bB.ex];refine⟨[],?_⟩;rw [HP.cQ,bB.pr];exact⟨⟨List.nodup_nil,λa=>rfl⟩,h.alloc hw _⟩
def mT (f:Int->Option Value) (a:Int) (v:Value):Int->Option Value:=λb=>if b=a then some v else f b
theorem gG.wd {P:Program} {A:AW} {t kt e:TypeId} {k0 k:IntKind} {r:Nat} {f:Int->Option Value} {F:HP} (h:bB A (gG k r f*F)) (ht:P.underlying t=some (.map kt e)) (hk:P.underlying kt=some (.int k0)) (a:Int) (v:Value) :
 ∃A',gv P A t (.map (some r)) (.int k a) v=some A'/\bB A' (gG k r (mT f a v)*F)/\(A.Wf->A'.Wf)/\A'.next=A.next/\∀j,j≠r->A'.bp j=A.bp j:=by
 obtain⟨es,hg,⟨hn,hf⟩,hS⟩:=gG.bp h;obtain⟨q,h1,h2,h3⟩:=pZ (k0:=k0) (k:=k) (a:=a) es 0 hn;have bS:∀zu:List (Int×Value),(zu.map (·.1)).Nodup->(∀b,lN zu b=mT f a v b)->bB (A.set r (some (.map (sC k zu) true))) (gG k r (mT f a v)*F):=λzu Pb he=>by
  unfold gG;rw [bB.ex];refine⟨zu,?_⟩;rw [HP.cQ,bB.pr];exact⟨⟨Pb,he⟩,hS.set _⟩
 cases q with
 | none=>
   refine⟨A.set r (some (.map (sC k (es++[(a,v)])) true)),?_,bS _ ?_ λb=>?_,λhw=>hw.set _ (hw.lt hg),rfl,λj hj=>AW.bg hj⟩;simp only [gv,ht,hk,hg,mJ,if_true,h1];simp [sC];rw [Zr,List.nodup_append];refine⟨hn,by simp,λx hx y hy e=>?_⟩;simp only [Zi,List.map_nil,List.mem_singleton] at hy;subst hy;subst e;have h2':lN es x=none:=(by rw [<-h2];rfl);simp only [lN,Option.map_eq_none_iff,List.find?_eq_none] at h2';obtain⟨q,hq,rfl⟩:=List.mem_map.1 hx;have:=h2' q hq;simp at this;rw [GS (by rw [<-h2];rfl)];simp only [mT,hf]
 | some q=>
   obtain⟨j,u⟩:=q;obtain⟨j',g1,g2,g0,g3⟩:=h3 j u rfl;refine⟨A.set r (some (.map (sC k (es.set j' (a,v))) true)),?_,bS _ (by rw [g0];exact hn) λb=>?_,λhw=>hw.set _ (hw.lt hg),rfl,λj hj=>AW.bg hj⟩;simp only [gv,ht,hk,hg,mJ,if_true,h1];have:j=j':=by omega
   subst this;simp [sC,List.map_set];rw [g3];simp only [mT,hf]
end Go.Stx
namespace Go.Stx
open Go
variable [Gl]
theorem Be {r r':Operand->Value} {ps:Array (Nat×Operand)} (h:∀x∈(ps.toList.map (·.2)).toArray,r x=r' x):tw r ps=tw r' ps:=by
 unfold tw;refine List.map_congr_left λx hx=>?_;rw [h x.2 (by simpa using ⟨x.1,by simpa using hx⟩)]
theorem yU {r r':Operand->Value} {x:Option Operand} (h:∀y∈x.toArray,r y=r' y):x.map r=x.map r':=by
 cases x with
 | none=>rfl
 | some y=>simp [h y (by simp)]
theorem FC {r r':Operand->Value} {x:Array Operand} (h:∀y∈x,r y=r' y):x.map r=x.map r':=Array.map_congr_left h
theorem Fy {P:Program} {A:AW} {r r':Operand->Value} {op:Op} (h:∀x∈op.operands,r x=r' x):aq P A r op=aq P A r' op:=by
 cases op<;>simp only [aq,qn] at h ⊢
 case move x=>rw [h x (by simp)]
 case assign x=>rw [h x (by simp)]
 case pick c x y=>rw [h c (by simp),h x (by simp),h y (by simp)]
 case build t ps=>rw [Be h]
 case load t x=>rw [h x (by simp)]
 case nilCheck x=>rw [h x (by simp)]
 case binOp op t x y u=>rw [h x (by simp),h y (by simp)]
 case unOp op t x=>rw [h x (by simp)]
 case convert s d x=>rw [h x (by simp)]
 case makeInterface t x=>rw [h x (by simp)]
 case slice t x lo hi mx=>
  have e1:r x=r' x:=h x (by simp);have e2:lo.map r=lo.map r':=yU λy hy=>h y (by simp [hy]);have e3:hi.map r=hi.map r':=yU λy hy=>h y (by simp [hy]);cases mx with
  | none=>simp only [e1,e2,e3]
  | some q=>simp only [e1,e2,e3,h q (by simp)]
 case lookup t x ix c=>rw [h x (by simp),h ix (by simp)]
 case fieldAddr s x f=>rw [h x (by simp)]
 case field t x f=>rw [h x (by simp)]
 case indexAddr t x ix=>rw [h x (by simp),h ix (by simp)]
 case index t x ix=>rw [h x (by simp),h ix (by simp)]
 case extract t i=>rw [h t (by simp)]
 case makeFunc fn fs cs=>
  rw [FC (r:=r) (r':=r') (x:=fs) λy hy=>h y (by simp [hy]),FC (r:=r) (r':=r') (x:=cs) λy hy=>h y (by simp [hy])]
 case call c=>
  have hk:∀x∈c.args.toList,r x=r' x:=λx hx=>h x (by simp only [ZA,kaq];exact .inr (Ze.1 hx));clear h;generalize c.args.toList=l at hk ⊢;generalize c.argTypes.toList=ts;generalize c.callee=ce;split<;>simp_all
theorem Um {P:Program} {A:AW} {r r':Operand->Value} {op:Op} (h:∀x∈op.operands,r x=r' x):ae P A r op=ae P A r' op:=by
 cases op<;>simp only [ae,qn] at h ⊢
 case box t x=>rw [h x (by simp)]
 case buildSlice t n ps=>rw [Be h]
 case store t x y=>rw [h x (by simp),h y (by simp)]
 case makeSlice t l c=>rw [h l (by simp),h c (by simp)]
 case makeMap t x=>rw [yU h]
 case mapUpdate t x k v=>rw [h x (by simp),h k (by simp),h v (by simp)]
 case insert t x k v=>rw [h x (by simp),h k (by simp),h v (by simp)]
 case call c=>
  have hk:∀x∈c.args.toList,r x=r' x:=λx hx=>h x (by simp only [ZA,kaq];exact .inr (Ze.1 hx));clear h;generalize c.args.toList=l at hk ⊢;generalize c.argTypes.toList=ts;generalize c.callee=ce;split<;>simp_all
theorem JI {P:Program} {A:AW} {r r':Operand->Value} {op:Op} {k:Value->AW->Prop} (h:∀x∈op.operands,r x=r' x):zI P op r A k=zI P op r' A k:=by
 cases op<;>try rfl
 case call c=>
  obtain⟨callee,args,ts⟩:=c;cases callee with
  | value x=>
    have hx:r x=r' x:=h x (by simp [qn,ZA]);have ha:args.toList.map r=args.toList.map r':=List.map_congr_left λy hy=>h y (by simp only [qn,ZA,kaq];exact .inr (Ze.1 hy));simp only [zI,hx,ha]
  | invoke _ _=>rfl
  | builtin _=>rfl
theorem L9 {P:Program} {A:AW} {r r':Operand->Value} {op:Op} {k:Value->AW->Prop} (h:∀x∈op.operands,r x=r' x):i8 P op r A k=i8 P op r' A k:=by
 unfold i8;rw [Fy h,Um h,JI h]
theorem Ee {A A':AW} (hk:∀i o,A.bp i=some o->A'.bp i=some o) {i:Nat} {cs:List Value} (h:A.b8 i=some cs):A'.b8 i=some cs:=by
 unfold AW.b8 at *;split at h;rename_i hg;rw [hk _ _ hg];exact h;cases h
theorem Og {P:Program} {A A':AW} (hk:∀i o,A.bp i=some o->A'.bp i=some o) {t:TypeId} {p:Addr} {v:Value} (h:iF P A t p=some v):iF P A' t p=some v:=by
 unfold iF at *;split at h;rename_i h1 h2;rw [Ee hk h1,h2];exact h;rename_i h1 h2;rw [Ee hk h1,h2];exact h;cases h
theorem Wm {P:Program} {A A':AW} (hk:∀i o,A.bp i=some o->A'.bp i=some o) {r:Operand->Value} {op:Op} {v:Value} (h:aq P A r op=some v):aq P A' r op=some v:=by
 cases op<;>simp only [aq] at h ⊢<;>try exact h
 case convert s d x=>
  split at h;exact h;unfold Jx at h ⊢;split at h;rename_i h1 h2 h3;split at h;rename_i h4 h5;rw [h4,Ee hk h5];exact h;cases h;cases h
 case load t x=>
  split at h;rename_i p hp;exact Og hk h;cases h
 case slice t x lo hi mx=>
  cases mx with
  | some q=>exact h
  | none=>
    simp only at h ⊢;unfold zD at *;split at h;rename_i hu _ _;split at h;rename_i e1;split at h;rename_i e2;split at h;rename_i e3;exact h;rename_i e3;split at h;rename_i q hq;have key:∀{e:TypeId} {p:Addr} {l:Nat},fg P A e p l=some q->fg P A' e p l=some q:=by
     intro e p l hq;unfold fg at hq ⊢;split at hq;rename_i hl;rw [aA hl];exact hq;rename_i hl;rw [aw hl];split at hq;rename_i g1 g2;rw [g1,hk _ _ g2];exact hq;cases hq
    rw [key hq];exact h;cases h;cases h;cases h;cases h;exact h;cases h
 case lookup t x ix c=>
  unfold Bg at h ⊢;split at h<;>try(cases h;done)
  split at h<;>try(cases h;done)
  split at h<;>try(cases h;done)
  rename_i vD;split at h<;>try(cases h;done)
  simp_all;split at h<;>try(cases h;done)
  rename_i hg;have Pd:=hk _ _ hg;simp_all
def xB:Op->Bool
 | .move _ | .assign _ | .pick _ _ _ | .build _ _ | .nilCheck _ | .binOp _ _ _ _ _ | .unOp _ _ _ | .makeInterface _ _ | .fieldAddr _ _ _ | .field _ _ _ | .indexAddr _ _ _ | .index _ _ _ | .extract _ _ | .makeFunc _ _ _=>true
 | .call c=>match c.callee with
   | .builtin .len | .builtin .min | .builtin .max=>true
   | _=>false
 | _=>false
def U8:Op->Bool
 | .load _ _ | .slice _ _ _ _ _ | .lookup _ _ _ _ | .convert _ _ _=>true
 | op=>xB op
theorem Of {P:Program} {A A':AW} {r:Operand->Value} {op:Op} (hm:xB op=true):aq P A' r op=aq P A r op:=by
 cases op<;>first|rfl|(simp [xB] at hm;done)
end Go.Stx
namespace Go.Stx
open Go
variable [Gl]
section
variable {P:Program} {bJ:Array Oper} {S:AW->Prop} {md:Nat->Nat} {K:Fr->AW->Prop} {rX:List Nat}
def vP (P:Program) (bJ:Array Oper) (S:AW->Prop) (md:Nat->Nat) (i:Nat) (o:Oper) (a:Fr) (A:AW) (k:Fr->AW->Prop):Prop:=
 if nu bJ a o=true then
  if md i<=1 then ∃v,aq P A (iW a) o.op=some v/\k (eK a o.dst v) A
  else i8 P o.op (iW a) A λv A'=>(if md i=2 then A.le A' else (md i=3->S A'))/\k (eK a o.dst v) A'
 else k (eK a o.dst undef) A
def Q8 (L:Nat->Bool) (i:Nat) (o:Oper):Prop:=L i=false/\∀e∈o.after,qS .any e=true->L e.on=true
def cH (L:Nat->Bool) (i:Nat):Nat->Bool:=λj=>if j=i then true else L j
def zJ (P:Program) (bJ:Array Oper) (S:AW->Prop) (md:Nat->Nat) (K:Fr->AW->Prop):Nat->(Nat->Bool)->Fr->AW->Prop
 | 0,L,a,A=>(∀i,i<bJ.size->L i=true)/\K a A
 | n+1,L,a,A=>((∀i,i<bJ.size->L i=true)->K a A)/\(A.Wf->∀i o,bJ[i]? = some o->Q8 L i o->vP P bJ S md i o a A (zJ P bJ S md K n (cH L i)))
theorem vP.mono {i:Nat} {o:Oper} {a:Fr} {A:AW} {k k':Fr->AW->Prop} (h:vP P bJ S md i o a A k)
 (hk:∀v A',(md i<=1->A'=A)->(md i=2->A.le A')->(md i=3->nu bJ a o=true->S A')->(nu bJ a o=false->A'=A)->k (eK a o.dst v) A'->k' (eK a o.dst v) A'):vP P bJ S md i o a A k':=by
 unfold vP at *;split;rename_i hg;rw [aA hg] at h;split;rename_i hm;rw [aA hm] at h;obtain⟨v,h1,h2⟩:=h;exact⟨v,h1,hk v A (λ_=>rfl) (λe=>by omega) (λe=>by omega) (λ_=>rfl) h2⟩;rename_i hm;rw [aw hm] at h;refine h.mono λv A' ⟨h1,h2⟩=>⟨h1,hk v A' (λe=>by omega) (λe=>?_) (λe _=>?_) (λe=>?_) h2⟩;rwa [aA e] at h1;rw [aw (by omega)] at h1;exact h1 e;rw [e] at hg;cases hg;rename_i hg;rw [aw hg] at h;have Pd:nu bJ a o=false:=by simpa using hg
 exact hk undef A (λ_=>rfl) (λ_=>AW.le.refl A) (λ_ e=>by rw [e] at Pd;cases Pd) (λ_=>rfl) h
theorem vP.aop1 {i:Nat} {o:Oper} {a:Fr} {A:AW} {k:Fr->AW->Prop} (h:vP P bJ S md i o a A k):Re P bJ o a A k:=by
 unfold vP at h;unfold Re;split;rename_i hg;rw [aA hg] at h;split at h;obtain⟨v,h1,h2⟩:=h;simp only [i8,h1];exact h2;exact h.mono λv A' hh=>hh.2;rename_i hg;rw [aw hg] at h;exact h
theorem CQ {n:Nat} {Q:Exit->Fr->AW->Prop} {a:Fr} {A:AW} {id:Nat} (hm:P.follows .mixedOrders=true) (vG:kW bJ=true) {k:Nat}
 (h:zJ P bJ S md (Q .normal) k (λ_=>false) a A):c8 P n (.region id bJ true) Q a A:=by
 refine Pt hm vG (λL a A=>∃k,zJ P bJ S md (Q .normal) k L a A) ⟨k,h⟩ ?_ ?_
 . rintro L a A i o hw ⟨k,hk⟩ ho hL jM;cases k with
   | zero=>
     have:=hk.1 i (qr.1 ho).1;rw [hL] at this;cases this
   | succ k=>
     have:=(hk.2 hw i o ho ⟨hL,jM⟩).aop1;unfold Re at this ⊢;split;rename_i hg;rw [aA hg] at this;exact this.mono λv A' hh=>⟨k,hh⟩;rename_i hg;rw [aw hg] at this;exact⟨k,this⟩
 rintro L a A _ ⟨k,hk⟩ kv;cases k with
 | zero=>exact hk.2
 | succ k=>exact hk.1 kv
theorem V6 {a:Fr} {d:Option Tmp} {v:Value} {x:Operand} (h:∀t,d=some t->x≠.tmp t):iW (eK a d v) x=iW a x:=by
 cases d with
 | none=>rfl
 | some t=>
   cases x with
   | tmp q=>
     have:q≠t:=λe=>h t rfl (by rw [e]);simp [eK,lP,this]
   | _=>rfl
theorem Lt {a:Fr} {d:Option Tmp} {v:Value} {o:Oper} (h:∀t,d=some t->t∉o.looksAt bJ):nu bJ (eK a d v) o=nu bJ a o:=by
 unfold nu;cases hg:o.guard with
 | none=>rfl
 | some g=>
   obtain⟨j,w⟩:=g;simp only;cases hj:(bJ[j]?).bind (·.dst) with
   | none=>rfl
   | some q=>
     simp only;have gT:∀t,d=some t->q≠t:=λt ht e=>h t ht (by simp [Oper.looksAt,hg,hj,e]);have:eK a d v q=a q:=by
      cases d with
      | none=>rfl
      | some t=>simp [eK,lP,gT t rfl]
     rw [this]
theorem uH {a:Fr} {d:Option Tmp} {v:Value} {o:Oper} (h:∀t,d=some t->t∉o.looksAt bJ):∀x∈o.op.operands,iW (eK a d v) x=iW a x:=by
 intro x hx;refine V6 λt ht e=>h t ht ?_;subst e;simp only [Oper.looksAt,List.mem_append,List.mem_filterMap];exact .inl ⟨.tmp t,Ze.2 hx,rfl⟩
theorem BL {a:Fr} {d e:Option Tmp} {v u:Value} (h:∀t,d=some t->e≠some t):eK (eK a d v) e u=eK (eK a e u) d v:=by
 cases d with
 | none=>rfl
 | some t=>
   cases e with
   | none=>rfl
   | some q=>
     have:t≠q:=λx=>h t rfl (by rw [x]);funext j;simp only [eK,lP];by_cases h1:j=q;subst h1;have:¬j=t:=λx=>this x.symm;simp [this];simp [h1]
theorem vP.unput {j:Nat} {oi oj:Oper} {a:Fr} {A:AW} {v:Value} {k:Fr->AW->Prop} (hap:oi.apart bJ oj=true) (h:vP P bJ S md j oj (eK a oi.dst v) A k) :
 vP P bJ S md j oj a A λa' A'=>k (eK a' oi.dst v) A':=by
 obtain⟨h1,h2,h3⟩:=Oper.apart_spec hap;unfold vP at *;rw [Lt h1] at h;split;rename_i hg;rw [aA hg] at h;split;rename_i hm;rw [aA hm,Fy (uH h1)] at h;obtain⟨u,h4,h5⟩:=h;exact⟨u,h4,by show k (eK (eK a oj.dst u) oi.dst v) A;rw [<-BL h2];exact h5⟩;rename_i hm;rw [aw hm,L9 (uH h1)] at h;refine h.mono λu A' ⟨h4,h5⟩=>⟨h4,by show k (eK (eK a oj.dst u) oi.dst v) A';rw [<-BL h2];exact h5⟩;rename_i hg;rw [aw hg] at h;rw [<-BL h2];exact h
def om (bJ:Array Oper) (L:Nat->Bool):Prop:=∀k o,bJ[k]? = some o->L k=true->∀e∈o.after,qS .any e=true->L e.on=true
def Wt (rX:List Nat) (m:Nat) (e:Edge):Nat:=if qS .any e=true then (m ||| rX.getD e.on 0) ||| 2 ^ e.on else m
def ancL:List Oper->List Nat->List Nat
 | [],gP=>gP
 | o::r,gP=>ancL r (gP++[o.after.toList.foldl (Wt gP) 0])
def CY (bJ:Array Oper) (rX:List Nat):Bool:=(qA bJ.size).all λi=>match bJ[i]? with|some o=>rX.getD i 0 == o.after.toList.foldl (Wt rX) 0|none=>false
theorem LW {rX:List Nat} {q:Nat}:∀(l:List Edge) (m:Nat),(l.foldl (Wt rX) m).testBit q=true->m.testBit q=true\/∃e∈l,qS .any e=true/\((rX.getD e.on 0).testBit q=true\/e.on=q)
 | [],m,h=>.inl h
 | e::l,m,h=>by
   rw [List.foldl_cons] at h;rcases LW l _ h with h1|⟨e',h1,h2⟩;unfold Wt at h1;split at h1;rename_i hb;rw [ka5,ka5,ZO,ZO] at h1;rcases h1 with (h1|h1)|h1;exact .inl h1;exact .inr ⟨e,by simp,hb,.inl h1⟩;rw [kbk] at h1;exact .inr ⟨e,by simp,hb,.inr (by simpa using h1)⟩;exact .inl h1;exact .inr ⟨e',by simp [h1],h2⟩
theorem LV (ha:CY bJ rX=true) {i q:Nat} {o:Oper} (ho:bJ[i]? = some o) (h:(rX.getD i 0).testBit q=true) :
 ∃e∈o.after,qS .any e=true/\((rX.getD e.on 0).testBit q=true\/e.on=q):=by
 have:=qC.1 ha i (qy.2 (qr.1 ho).1);rw [ho] at this;simp only [beq_iff_eq] at this;rw [this] at h;rcases LW _ _ h with h1|⟨e,h1,h2⟩;simp at h1;exact⟨e,Ze.1 h1,h2⟩
theorem Fk (vG:kW bJ=true) (ha:CY bJ rX=true) {L:Nat->Bool} (hc:om bJ L) {q:Nat}:∀n k o,k<n->bJ[k]? = some o->L k=true->(rX.getD k 0).testBit q=true->L q=true
 | 0,k,o,h,_,_,_=>by omega
 | n+1,k,o,hk,ho,hL,hb=>by
   obtain⟨e,he,Tq,h1⟩:=LV ha ho hb;have hLe:=hc k o ho hL e he Tq;rcases h1 with h1|h1;have cD:=mz vG ho he Tq;have hks:=(qr.1 ho).1;exact Fk vG ha hc n e.on bJ[e.on] (by omega) (qV (by omega)) hLe h1;rw [<-h1];exact hLe
theorem Hk (vG:kW bJ=true) (ha:CY bJ rX=true) {L:Nat->Bool} (hc:om bJ L) {j q:Nat} {o:Oper} (ho:bJ[j]? = some o) (hr:Q8 L j o) (hb:(rX.getD j 0).testBit q=true):L q=true:=by
 obtain⟨e,he,Tq,h1⟩:=LV ha ho hb;have hLe:=hr.2 e he Tq;rcases h1 with h1|h1;have cD:=mz vG ho he Tq;have hks:=(qr.1 ho).1;exact Fk vG ha hc _ e.on bJ[e.on] (Nat.lt_succ_self _) (qV (by omega)) hLe h1;rw [<-h1];exact hLe
theorem om.set {L:Nat->Bool} (hc:om bJ L) {i:Nat} {o:Oper} (ho:bJ[i]? = some o) (hr:Q8 L i o):om bJ (cH L i):=by
 intro k o' VI hk e he hb;unfold cH at hk ⊢;split;rfl;split at hk;rename_i e';subst e';rw [ho] at VI;injection VI with VI;subst VI;exact hr.2 e he hb;exact hc k o' VI hk e he hb
theorem Q8.mono {L:Nat->Bool} {i j:Nat} {o:Oper} (h:Q8 L i o) (gT:i≠j):Q8 (cH L j) i o:=by
 refine⟨by simp [cH,gT,h.1],λe he hb=>?_⟩;unfold cH;split;rfl;exact h.2 e he hb
theorem P4 (L:Nat->Bool) (i j:Nat):cH (cH L i) j=cH (cH L j) i:=by
 funext k;simp only [cH];split<;>split<;>rfl
theorem FJ (vG:kW bJ=true) (ha:CY bJ rX=true) {i:Nat} {o:Oper} {v:Value} (hi:bJ[i]? = some o) (hmd:md i<=1):∀(n:Nat) (L:Nat->Bool) (a:Fr) (A:AW),om bJ L->
 (∀j oj,bJ[j]? = some oj->j≠i->L j=false->(∀e∈oj.after,qS .any e=true->e.on≠i)->o.apart bJ oj=true)->
 (xB o.op=true\/(∀j oj,bJ[j]? = some oj->j≠i->3<=md j->L j=false->(rX.getD j 0).testBit i=true)\/((∀j oj,bJ[j]? = some oj->j≠i->4<=md j->L j=false->(rX.getD j 0).testBit i=true)/\∀A',S A'->nu bJ a o=true->aq P A' (iW a) o.op=some v))->
 Q8 L i o->((nu bJ a o=true/\aq P A (iW a) o.op=some v)\/(nu bJ a o=false/\v=undef))->
 zJ P bJ S md K n (cH L i) (eK a o.dst v) A->zJ P bJ S md K (n+1) L a A:=by
 intro n
 induction n with
 | zero=>
   intro L a A hc EV dy hr hy H;refine⟨λkv=>?_,λhw j oj hj JM=>?_⟩;have:=kv i (qr.1 hi).1;rw [hr.1] at this;cases this;by_cases nj:j=i;subst nj;rw [hi] at hj;injection hj with hj;subst hj;unfold vP;rcases hy with ⟨h1,h2⟩|⟨h1,rfl⟩;rw [aA h1,aA hmd];exact⟨v,h2,H⟩;rw [aw (by simp [h1])];exact H;have:=H.1 j (qr.1 hj).1;simp [cH,nj,JM.1] at this
 | succ n ih=>
   intro L a A hc EV dy hr hy H;refine⟨λkv=>?_,λhw j oj hj JM=>?_⟩;have:=kv i (qr.1 hi).1;rw [hr.1] at this;cases this;by_cases nj:j=i;subst nj;rw [hi] at hj;injection hj with hj;subst hj;unfold vP;rcases hy with ⟨h1,h2⟩|⟨h1,rfl⟩;rw [aA h1,aA hmd];exact⟨v,h2,H⟩;rw [aw (by simp [h1])];exact H;have hnot:∀e∈oj.after,qS .any e=true->e.on≠i:=λe he hb heq=>by
    have:=JM.2 e he hb;rw [heq,hr.1] at this;cases this
   have hap:=EV j oj hj nj JM.1 hnot;obtain⟨g1,g2,g3⟩:=Oper.apart_spec hap;have h1:=H.2 hw j oj hj (JM.mono nj);refine(vP.unput hap h1).mono λu A' m1 m2 m3 m4 hk=>?_;have FV:nu bJ (eK a oj.dst u) o=nu bJ a o:=Lt g3;have mg:∀A0,aq P A0 (iW (eK a oj.dst u)) o.op=aq P A0 (iW a) o.op:=λA0=>Fy (uH g3);have kJ:=hc.set hj JM;refine ih (cH L j) (eK a oj.dst u) A' kJ ?_ ?_ (hr.mono (qh nj)) ?_ (by rw [P4];exact hk);intro q oq hq hqi Pg AJ;refine EV q oq hq hqi ?_ AJ;unfold cH at Pg;split at Pg;cases Pg;exact Pg;rcases dy with h|h|h;exact .inl h;refine .inr (.inl λq oq hq hqi h3 Pg=>h q oq hq hqi h3 ?_);unfold cH at Pg;split at Pg;cases Pg;exact Pg;refine .inr (.inr ⟨λq oq hq hqi h3 Pg=>h.1 q oq hq hqi h3 ?_,λA'' hS hg=>by rw [mg];exact h.2 A'' hS (by rw [<-FV];exact hg)⟩);unfold cH at Pg;split at Pg;cases Pg;exact Pg;rw [FV,mg];rcases hy with ⟨h2,h3⟩|h2
   . refine .inl ⟨h2,?_⟩;rcases Zt (md j) 2 with hj1|hj1;rw [m1 (by omega)];exact h3;rcases Zt (md j) 3 with Qy|Qy;have fO:=m2 (by omega);exact Wm (λi o hi=>fO.mu hw hi) h3;rcases dy with h|h|h;rw [Of h];exact h3;exfalso;have:=Hk vG ha hc hj JM (h j oj hj nj Qy JM.1);rw [hr.1] at this;cases this;cases hgj:nu bJ a oj with
     | true=>
       rcases Zt (md j) 4 with hj3|hj3;exact h.2 A' (m3 (by omega) hgj) h2;exfalso;have:=Hk vG ha hc hj JM (h.1 j oj hj nj hj3 JM.1);rw [hr.1] at this;cases this
     | false=>rw [m4 hgj];exact h3
   exact .inr h2
structure zQ where
 dst:Option Tmp
 op:Op
 guard:Option (Option Tmp×Bool)
 Vk:Nat
def lop (bJ:Array Oper) (x:Nat×Nat):Option zQ:=(bJ[x.1]?).map λo=>⟨o.dst,o.op,lG bJ o.guard,x.2⟩
def cK (bJ:Array Oper) (sd:List (Nat×Nat)):List zQ:=sd.filterMap (lop bJ)
def Rc (P:Program) (A:AW) (r:Operand->Value) (op:Op) (k:Value->Prop):Prop:=
 match aq P A r op with
 | some v=>k v
 | none=>False
def aY (P:Program) (S:AW->Prop) (K:Fr->AW->Prop):List zQ->Fr->AW->Prop
 | [],a,A=>K a A
 | o::fv,a,A=>
   if sg a o.guard=true then
    match o.Vk with
    | 0=>Rc P A (iW a) o.op λv=>aY P S K fv (eK a o.dst v) A
    | 1=>Rc P A (iW a) o.op λv=>(∀A',S A'->aq P A' (iW a) o.op=some v)/\aY P S K fv (eK a o.dst v) A
    | 2=>i8 P o.op (iW a) A λv A'=>A.le A'/\aY P S K fv (eK a o.dst v) A'
    | 3=>i8 P o.op (iW a) A λv A'=>S A'/\aY P S K fv (eK a o.dst v) A'
    | _=>i8 P o.op (iW a) A λv A'=>aY P S K fv (eK a o.dst v) A'
   else aY P S K fv (eK a o.dst undef) A
def IK (sd:List (Nat×Nat)) (j:Nat):Nat:=((sd.find? λx=>x.1 == j).map (·.2)).getD 3
def yQ (M:Nat) (i:Nat) (o:Oper):Bool:=!M.testBit i && o.after.all λe=>!qS .any e || M.testBit e.on
def Xw (bJ:Array Oper) (M:Nat) (i:Nat) (o:Oper):Bool:=(qA bJ.size).all λj=>j == i || M.testBit j || match bJ[j]? with
 | some oj=>oj.after.any (λe=>qS .any e && e.on == i) || o.apart bJ oj
 | none=>true
def V2 (bJ:Array Oper) (rX:List Nat) (sd:List (Nat×Nat)) (M i:Nat):Bool:=(qA bJ.size).all λj=>j == i || M.testBit j || !(ZH 3 (IK sd j)) || (rX.getD j 0).testBit i
def TF (bJ:Array Oper) (rX:List Nat) (sd:List (Nat×Nat)) (M i:Nat):Bool:=(qA bJ.size).all λj=>j == i || M.testBit j || !(ZH 4 (IK sd j)) || (rX.getD j 0).testBit i
def soleB (bJ:Array Oper) (M i:Nat):Bool:=(qA bJ.size).all λj=>j == i || match bJ[j]? with
 | some oj=>!yQ M j oj
 | none=>true
def O1 (bJ:Array Oper) (rX:List Nat) (sd:List (Nat×Nat)):Nat->List (Nat×Nat)->Bool
 | M,[]=>(qA bJ.size).all λj=>M.testBit j
 | M,(i,m)::r=>(match bJ[i]? with
  | none=>false
  | some o=>yQ M i o && Nat.beq (IK sd i) m && (if ZH m 1 then Xw bJ M i o && ((Nat.beq m 1 && TF bJ rX sd M i) || xB o.op || V2 bJ rX sd M i) else soleB bJ M i)) && O1 bJ rX sd (M ||| 2 ^ i) r
def Qj (bJ:Array Oper) (sd:List (Nat×Nat)):Bool:=kW bJ && (let rX:=ancL bJ.toList [];CY bJ rX && (O1 bJ rX sd 0 sd && sd.all λx=>match bJ[x.1]? with|some o=>ZH x.2 1 == U8 o.op|none=>false))
theorem mG {M i:Nat} {o:Oper} {L:Nat->Bool} (hi:i<bJ.size) (vG:kW bJ=true) (ho:bJ[i]? = some o) (hL:∀j,j<bJ.size->L j=M.testBit j):yQ M i o=true↔Q8 L i o:=by
 unfold yQ Q8;rw [qq,ZF,<-hL i hi,Z1];refine and_congr Iff.rfl (forall_congr' λe=>forall_congr' λhe=>?_);simp only [ZO,ZF];constructor;rintro (h|h) hb;rw [h] at hb;cases hb;have cD:=mz vG ho he hb;rw [hL e.on (by omega)];exact h;intro h;cases hb:qS .any e;exact .inl rfl;have cD:=mz vG ho he hb;rw [<-hL e.on (by omega)];exact .inr (h hb)
theorem Bo (vG:kW bJ=true) (ha:CY bJ rX=true) {sd:List (Nat×Nat)}:∀(l:List (Nat×Nat)) (M:Nat) (L:Nat->Bool) (a:Fr) (A:AW),(∀j,j<bJ.size->L j=M.testBit j)->om bJ L->
 O1 bJ rX sd M l=true->aY P S K (cK bJ l) a A->zJ P bJ S (IK sd) K l.length L a A
 | [],M,L,a,A,hL,hc,hg,h=>⟨λj hj=>by rw [hL j hj];exact qC.1 hg j (qy.2 hj),h⟩
 | (i,m)::r,M,L,a,A,hL,hc,hg,h=>by
   unfold O1 at hg;rw [qq] at hg;obtain⟨BV,NF⟩:=hg;cases hi:bJ[i]? with
   | none=>rw [hi] at BV;cases BV
   | some o=>
     rw [hi] at BV;simp only [qq] at BV;obtain⟨⟨hr,hmd⟩,BX⟩:=BV;have vT:=(qr.1 hi).1;have hmd':IK sd i=m:=kbj hmd;have W9:Q8 L i o:=(mG vT vG hi hL).1 hr;have hL':∀j,j<bJ.size->cH L i j=(M ||| 2 ^ i).testBit j:=λj hj=>by
      rw [ka5,kbk,<-hL j hj];unfold cH;by_cases e:j=i;subst e;simp;have:¬i=j:=λx=>e x.symm;simp [e,this]
     have hc':=hc.set hi W9;have IH:∀a A,aY P S K (cK bJ r) a A->zJ P bJ S (IK sd) K r.length (cH L i) a A:=λa A h=>Bo vG ha r (M ||| 2 ^ i) _ a A hL' hc' NF h;have hlop:cK bJ ((i,m)::r)=⟨o.dst,o.op,lG bJ o.guard,m⟩::cK bJ r:=(by simp [cK,lop,hi]);rw [hlop] at h;unfold aY at h;simp only [<-OA] at h;have hsole:¬m<=1->∀j oj,bJ[j]? = some oj->Q8 L j oj->j=i:=λIT j oj hj JM=>by
      rw [aw (by simpa [kaR] using IT)] at BX;have h1:=qC.1 BX j (qy.2 (qr.1 hj).1);rw [hj] at h1;simp only [ZO,beq_iff_eq,ZF] at h1;rcases h1 with h1|h1;exact h1;rw [(mG (qr.1 hj).1 vG hj hL).2 JM] at h1;cases h1
     have hnall:¬∀j,j<bJ.size->L j=true:=λkv=>by
      have:=kv i vT;rw [W9.1] at this;cases this
     by_cases IT:m<=1;rw [aA (by simpa [kaR] using IT)] at BX;simp only [qq] at BX;obtain⟨up,dy⟩:=BX;have EV:∀j oj,bJ[j]? = some oj->j≠i->L j=false->(∀e∈oj.after,qS .any e=true->e.on≠i)->o.apart bJ oj=true:=λj oj hj nj Tz AJ=>by
      have CK:=(qr.1 hj).1;have h1:=qC.1 up j (qy.2 CK);rw [hj,<-hL j CK,Tz] at h1;simp only [ZO,beq_iff_eq,qt,or_false] at h1;rcases h1 with h1|h1|h1;exact absurd h1 nj;exfalso;rw [Array.any_eq_true] at h1;obtain⟨q,hq,h2⟩:=h1;simp only [qq,beq_iff_eq] at h2;exact AJ _ (Array.getElem_mem hq) h2.1 h2.2;exact h1
     have bS:∀v,((nu bJ a o=true/\aq P A (iW a) o.op=some v)\/(nu bJ a o=false/\v=undef))->(m=1->nu bJ a o=true->∀A',S A'->aq P A' (iW a) o.op=some v)->
      aY P S K (cK bJ r) (eK a o.dst v) A->zJ P bJ S (IK sd) K (r.length+1) L a A:=by
      intro v hy hS hk;refine FJ vG ha hi (by omega) r.length L a A hc EV ?_ W9 hy (IH _ _ hk);simp only [ZO] at dy;rcases dy with (h1|h1)|h1;rw [qq] at h1;refine .inr (.inr ⟨λj oj hj nj h3 Tz=>?_,λA' AR FV=>hS (kbj h1.1) FV A' AR⟩);have CK:=(qr.1 hj).1;have h2:=qC.1 h1.2 j (qy.2 CK);rw [<-hL j CK,Tz] at h2;have vW:ZH 4 (IK sd j)=true:=kaE h3;rw [vW] at h2
      simpa [nj] using h2
      exact .inl h1;refine .inr (.inl λj oj hj nj h3 Tz=>?_);have CK:=(qr.1 hj).1;have h2:=qC.1 h1 j (qy.2 CK);rw [<-hL j CK,Tz] at h2;have vW:ZH 3 (IK sd j)=true:=kaE h3;rw [vW] at h2
      simpa [nj] using h2
     split at h;rename_i FV;have:m=0\/m=1:=by omega
     rcases this with rfl|rfl;simp only [Rc] at h;split at h;rename_i v hv;exact bS v (.inl ⟨FV,hv⟩) (λe=>by omega) h;exact h.elim;simp only [Rc] at h;split at h;rename_i v hv;exact bS v (.inl ⟨FV,hv⟩) (λ_ _=>h.1) h.2;exact h.elim;rename_i FV;have Tj:nu bJ a o=false:=by simpa using FV
     exact bS undef (.inr ⟨Tj,rfl⟩) (λ_ e=>by rw [Tj] at e;cases e) h;refine⟨λkv=>absurd kv hnall,λhw j oj hj JM=>?_⟩;have nj:=hsole IT j oj hj JM;subst nj;rw [hi] at hj;injection hj with hj;subst hj;unfold vP;split at h
     . rename_i FV;rw [aA FV,aw (by omega),hmd'];by_cases h2:m=2;subst h2;exact h.mono λv A' hh=>⟨by rw [aA rfl];exact hh.1,IH _ _ hh.2⟩;have:∃q,m=q+3:=⟨m-3,by omega⟩;obtain⟨q,rfl⟩:=this;cases q with
       | zero=>exact h.mono λv A' hh=>⟨by rw [aw h2];exact λ_=>hh.1,IH _ _ hh.2⟩
       | succ q=>exact h.mono λv A' hh=>⟨by rw [aw h2];exact λe=>by omega,IH _ _ hh⟩
     rename_i FV;rw [aw FV];exact IH _ _ h
end
theorem Ua {P:Program} {n:Nat} {Q:Exit->Fr->AW->Prop} {a:Fr} {A:AW} {id:Nat} {bJ:Array Oper} (S:AW->Prop) (sd:List (Nat×Nat)) (hm:P.follows .mixedOrders=true) (hB:Qj bJ sd=true)
 (h:∀K:Fr->AW->Prop,(∀a A,Q .normal a A->K a A)->aY P S K (cK bJ sd) a A):c8 P n (.region id bJ true) Q a A:=by
 simp only [Qj,qq] at hB;exact CQ hm hB.1 (Bo hB.1 hB.2.1 sd 0 _ a A (λj _=>by simp) (λk o _ hk=>by cases hk) hB.2.2.1 (h _ λ_ _ h=>h))
theorem M7 {P:Program} {S:AW->Prop} {K:Fr->AW->Prop} {o:zQ} {fv:List zQ} {a:Fr} {A:AW}
 (h:∀R:Fr->AW->Prop,(∀a A,aY P S K fv a A->R a A)->
  if sg a o.guard=true then
   match o.Vk with
   | 0=>Rc P A (iW a) o.op λv=>R (eK a o.dst v) A
   | 1=>Rc P A (iW a) o.op λv=>(∀A',S A'->aq P A' (iW a) o.op=some v)/\R (eK a o.dst v) A
   | 2=>i8 P o.op (iW a) A λv A'=>A.le A'/\R (eK a o.dst v) A'
   | 3=>i8 P o.op (iW a) A λv A'=>S A'/\R (eK a o.dst v) A'
   | _=>i8 P o.op (iW a) A λv A'=>R (eK a o.dst v) A'
  else R (eK a o.dst undef) A):aY P S K (o::fv) a A:=h _ λ_ _ h=>h
attribute [simp] Rc
end Go.Stx
namespace Go.Stx
open Go
variable [Gl]
def b9 (val:Nat->Value) (i:Nat) (v:Value):Nat->Value:=λj=>if j=i then v else val j
def OZ (bJ:Array Oper):Bool:=kW bJ && (qA bJ.size).all λi=>match bJ[i]? with
 | some o=>o.guard.isNone && (qA bJ.size).all λj=>j == i || match bJ[j]?,o.dst with
   | some oj,some d=>!(oj.dst == some d)
   | _,_=>true
 | none=>false
theorem Ey {bJ:Array Oper} (h:OZ bJ=true):kW bJ=true/\(∀(i:Nat) (o:Oper),bJ[i]? = some o->o.guard=none)/\
 ∀(i j:Nat) (o oj:Oper) (d:Tmp),bJ[i]? = some o->bJ[j]? = some oj->i≠j->o.dst=some d->oj.dst≠some d:=by
 simp only [OZ,qq] at h;refine⟨h.1,λi o ho=>?_,λi j o oj d ho hoj gT hd hdj=>?_⟩;have:=qC.1 h.2 i (qy.2 (qr.1 ho).1);rw [ho] at this;simp only [qq] at this
 simpa using this.1
 have:=qC.1 h.2 i (qy.2 (qr.1 ho).1);rw [ho] at this;simp only [qq] at this;have h2:=qC.1 this.2 j (qy.2 (qr.1 hoj).1);rw [hoj,hd] at h2;simp only [ZO,beq_iff_eq,ZF] at h2;rcases h2 with h2|h2;exact gT h2.symm;rw [hdj] at h2;simp at h2
theorem Wg {P:Program} {n:Nat} {Q:Exit->Fr->AW->Prop} {a0:Fr} {A0:AW} {id:Nat} {bJ:Array Oper} (hm:P.follows .mixedOrders=true) (hB:OZ bJ=true)
 (G:(Nat->Bool)->(Nat->Value)->HP) (φ:Nat->(Nat->Value)->Prop)
 (hG:∀(S:Nat->Bool) (i:Nat) (val:Nat->Value) (v:Value),om bJ S->S i=false->G S (b9 val i v)=G S val)
 (hφ:∀(S:Nat->Bool) (i j:Nat) (val:Nat->Value) (v:Value),om bJ S->S i=false->S j=true->φ j val->φ j (b9 val i v))
 (h0:∀val,bB A0 (G (λ_=>false) val))
 (wE:∀(i:Nat) (o:Oper),bJ[i]? = some o->∀(S:Nat->Bool) (val:Nat->Value) (a:Fr) (A:AW),S i=false->(∀e∈o.after,qS .any e=true->S e.on=true)->om bJ S->(∀j,S j=true->φ j val)->A.Wf->bB A (G S val)->
  (∀(j:Nat) (oj:Oper) (d:Tmp),bJ[j]? = some oj->oj.dst=some d->S j=true->a d=val j)->(∀d:Tmp,(bJ.toList.all λo=>!(o.dst == some d))=true->a d=a0 d)->
  i8 P o.op (iW a) A λv A'=>φ i (b9 val i v)/\bB A' (G (cH S i) (b9 val i v)))
 (pW:∀(S:Nat->Bool) (val:Nat->Value) (a:Fr) (A:AW),(∀i,i<bJ.size->S i=true)->(∀j,S j=true->φ j val)->A.Wf->bB A (G S val)->
  (∀(j:Nat) (oj:Oper) (d:Tmp),bJ[j]? = some oj->oj.dst=some d->S j=true->a d=val j)->(∀d:Tmp,(bJ.toList.all λo=>!(o.dst == some d))=true->a d=a0 d)->Q .normal a A) :
 c8 P n (.region id bJ true) Q a0 A0:=by
 obtain⟨vG,hgd,hds⟩:=Ey hB;intro mv m w ca hs hf;have Lb:A0.Wf:=hs.zL
 refine Pt hm vG (λS a A=>(A.Wf->om bJ S/\∃val,(∀j,S j=true->φ j val)/\bB A (G S val)/\(∀(j:Nat) (oj:Oper) (d:Tmp),bJ[j]? = some oj->oj.dst=some d->S j=true->a d=val j)/\
  (∀d:Tmp,(bJ.toList.all λo=>!(o.dst == some d))=true->a d=a0 d)/\((∀i,i<bJ.size->S i=true)->Q .normal a A))) ?_ ?_ ?_ mv m w ca hs hf
 intro hw;refine⟨?_,λ_=>undef,?_,h0 _,?_,?_,λkv=>?_⟩;intro k o _ h;cases h;intro j h;cases h;intro j oj d _ _ h;cases h;intro d _;rfl;refine pW (λ_=>false) (λ_=>undef) a0 A0 kv ?_ Lb (h0 _) ?_ ?_;intro j h;cases h;intro j oj d _ _ h;cases h;intro d _;rfl;intro S a A i o hw hJ ho sR jM;obtain⟨kJ,val,h1,h2,h3,h4,_⟩:=hJ hw;have hcl':=kJ.set ho ⟨sR,jM⟩;have dy:=wE i o ho S val a A sR jM kJ h1 hw h2 h3 h4;unfold Re;have hg:nu bJ a o=true:=by simp [nu,hgd i o ho]
 rw [aA hg];refine dy.mono λv A' ⟨h5,h6⟩ kI=>?_;have hp:∀j,cH S i j=true->φ j (b9 val i v):=λj hj=>by
  by_cases e:j=i;subst e;exact h5;have:S j=true:=by simpa [cH,e] using hj
  exact hφ S i j val v kJ sR this (h1 j this)
 have up:∀j oj d,bJ[j]? = some oj->oj.dst=some d->cH S i j=true->eK a o.dst v d=b9 val i v j:=λj oj d hj hd hSj=>by
  by_cases e:j=i;subst e;rw [ho] at hj;injection hj with hj;subst hj;rw [hd];simp [eK,lP,b9];have hSj':S j=true:=by simpa [cH,e] using hSj
  have gT:o.dst≠some d:=λx=>hds i j o oj d ho hj (qh e) x hd;have:eK a o.dst v d=a d:=by
   cases hod:o.dst with
   | none=>rfl
   | some q=>
     have:d≠q:=λx=>gT (by rw [hod,x]);simp [eK,lP,this]
  rw [this,h3 j oj d hj hd hSj'];simp [b9,e]
 have IR:∀d:Tmp,(bJ.toList.all λo=>!(o.dst == some d))=true->eK a o.dst v d=a0 d:=λd hd=>by
  have gT:o.dst≠some d:=λx=>by
   have:=qC.1 hd o (Ze.2 (ZW ho));rw [x] at this;simp at this
  have:eK a o.dst v d=a d:=by
   cases hod:o.dst with
   | none=>rfl
   | some q=>
     have:d≠q:=λx=>gT (by rw [hod,x]);simp [eK,lP,this]
  rw [this];exact h4 d hd
 exact⟨hcl',b9 val i v,hp,h6,up,IR,λkv=>pW _ _ _ _ kv hp kI h6 up IR⟩;intro S a A hw hJ kv;obtain⟨_,val,_,_,_,_,h⟩:=hJ hw;exact h kv
def yz (bJ:Array Oper) (k j:Nat):Bool:=match bJ[k]? with
 | some o=>o.after.toList.any λe=>qS .any e && e.on == j
 | none=>false
def dstB (bJ:Array Oper) (j d:Nat):Bool:=match bJ[j]? with
 | some o=>o.dst == some d
 | none=>false
def XR (bJ:Array Oper) (d:Nat):Bool:=bJ.toList.all λo=>!(o.dst == some d)
def ma (bJ:Array Oper) (i:Nat):Op:=match bJ[i]? with
 | some o=>o.op
 | none=>.alloc 0
structure XE (bJ:Array Oper) (φ:Nat->(Nat->Value)->Prop) (a0:Fr) (S:Nat->Bool) (val:Nat->Value) (a:Fr):Prop where
 closed:∀k j,yz bJ k j=true->S k=true->S j=true
 sl:∀j,S j=true->φ j val
 lL:∀j d,dstB bJ j d=true->S j=true->a d=val j
 dT:∀d,XR bJ d=true->a d=a0 d
theorem I4 {bJ:Array Oper} {S:Nat->Bool} (hc:om bJ S) (k j:Nat) (h:yz bJ k j=true) (hk:S k=true):S j=true:=by
 unfold yz at h;split at h;rename_i o ho;obtain⟨e,he,h2⟩:=kar.1 h;simp only [qq,beq_iff_eq] at h2;rw [<-h2.2];exact hc k o ho hk e (Ze.1 he) h2.1;cases h
theorem T9 {P:Program} {n:Nat} {Q:Exit->Fr->AW->Prop} {a0:Fr} {A0:AW} {id:Nat} {bJ:Array Oper} (hm:P.follows .mixedOrders=true) (hB:OZ bJ=true)
 (G:(Nat->Bool)->(Nat->Value)->HP) (φ:Nat->(Nat->Value)->Prop)
 (hG:∀(S:Nat->Bool) (i:Nat) (val:Nat->Value) (v:Value),(∀k j,yz bJ k j=true->S k=true->S j=true)->S i=false->G S (b9 val i v)=G S val)
 (hφ:∀(S:Nat->Bool) (i j:Nat) (val:Nat->Value) (v:Value),(∀k j,yz bJ k j=true->S k=true->S j=true)->S i=false->S j=true->φ j val->φ j (b9 val i v))
 (h0:∀val,bB A0 (G (λ_=>false) val))
 (wE:∀(i:Nat),i<bJ.size->∀(S:Nat->Bool) (val:Nat->Value) (a:Fr) (A:AW),S i=false->(∀j,yz bJ i j=true->S j=true)->XE bJ φ a0 S val a->A.Wf->bB A (G S val)->
  i8 P (ma bJ i) (iW a) A λv A'=>φ i (b9 val i v)/\bB A' (G (cH S i) (b9 val i v)))
 (pW:∀(S:Nat->Bool) (val:Nat->Value) (a:Fr) (A:AW),(∀i,i<bJ.size->S i=true)->XE bJ φ a0 S val a->A.Wf->bB A (G S val)->Q .normal a A) :
 c8 P n (.region id bJ true) Q a0 A0:=by
 have WM:∀{S:Nat->Bool} {val:Nat->Value} {a:Fr},(∀(j:Nat) (oj:Oper) (d:Tmp),bJ[j]? = some oj->oj.dst=some d->S j=true->a d=val j)->∀j d,dstB bJ j d=true->S j=true->a d=val j:=by
  intro S val a h j d hd hj;unfold dstB at hd;split at hd;rename_i o ho;exact h j o d ho (by simpa using hd) hj;cases hd
 refine Wg hm hB G φ (λS i val v hc=>hG S i val v (I4 hc)) (λS i j val v hc=>hφ S i j val v (I4 hc)) h0 ?_ ?_;intro i o ho S val a A hi jM hc hp hw hs hf UG;have mg:ma bJ i=o.op:=by unfold ma;rw [ho]
 have xP:∀j,yz bJ i j=true->S j=true:=λj hj=>by
  unfold yz at hj;rw [ho] at hj;obtain⟨e,he,h2⟩:=kar.1 hj;simp only [qq,beq_iff_eq] at h2;rw [<-h2.2];exact jM e (Ze.1 he) h2.1
 have cD:i<bJ.size:=(qr.1 ho).1;have key:=wE i cD S val a A hi xP ⟨I4 hc,hp,WM hf,UG⟩ hw hs;rw [mg] at key;exact key;intro S val a A kv hp hw hs hf UG;refine pW S val a A kv ⟨?_,hp,WM hf,UG⟩ hw hs;intro k j h hk;unfold yz at h;split at h;rename_i o ho;obtain⟨e,he,h2⟩:=kar.1 h;simp only [qq,beq_iff_eq] at h2;have cD:=mz (Ey hB).1 ho (Ze.1 he) h2.1;have hk':=(qr.1 ho).1;exact kv j (by omega);cases h
end Go.Stx
namespace Go.Stx
open Go
variable [Gl]
def nop (bJ:Array Oper) (o:Oper):zQ:=⟨o.dst,o.op,lG bJ o.guard,3⟩
def da (bJ:Array Oper):List zQ:=bJ.toList.map (nop bJ)
theorem td {P:Program} {bJ:Array Oper} {K:Fr->AW->Prop}:∀(l:List Oper) (a:Fr) (A:AW),aY P (λ_=>True) K (l.map (nop bJ)) a A->Oq P bJ K l a A
 | [],a,A,h=>h
 | o::fv,a,A,h=>by
   simp only [Zi,aY,nop] at h;simp only [Oq,OA];split;rename_i hg;rw [aA hg] at h;exact h.mono λv A' hh=>td fv _ _ hh.2;rename_i hg;rw [aw hg] at h;exact td fv _ _ h
section
variable {P:Program} {n:Nat} {Q:Exit->Fr->AW->Prop} {a:Fr} {A:AW} {id:Nat}
theorem wn {bJ:Array Oper} (h:∀K:Fr->AW->Prop,(∀a A,Q .normal a A->K a A)->aY P (λ_=>True) K (da bJ) a A):c8 P n (.region id bJ false) Q a A:=
 N8 (td _ _ _ (h _ λ_ _ h=>h))
theorem wl {bJ:Array Oper} (hm:P.follows .mixedOrders=true) (sd:List (Nat×Nat)) (hB:Qj bJ sd=true)
 (h:∀K:Fr->AW->Prop,(∀a A,Q .normal a A->K a A)->aY P (λ_=>True) K (cK bJ sd) a A):c8 P n (.region id bJ true) Q a A:=Ua _ sd hm hB h
theorem XO {bJ:Array Oper} (S:AW->Prop) (hm:P.follows .mixedOrders=true) (sd:List (Nat×Nat)) (hB:Qj bJ sd=true)
 (h:∀K:Fr->AW->Prop,(∀a A,Q .normal a A->K a A)->aY P S K (cK bJ sd) a A):c8 P n (.region id bJ true) Q a A:=Ua S sd hm hB h
end
theorem kY {P:Program} {S:AW->Prop} {K:Fr->AW->Prop} {o:zQ} {fv:List zQ} {a:Fr} {A:AW}
 (h:∀R:Fr->AW->Prop,(∀a A,aY P S K fv a A->R a A)->
  if sg a o.guard=true then
   match o.Vk with
   | 0=>Rc P A (iW a) o.op λv=>R (eK a o.dst v) A
   | 1=>Rc P A (iW a) o.op λv=>(∀A',S A'->aq P A' (iW a) o.op=some v)/\R (eK a o.dst v) A
   | 2=>i8 P o.op (iW a) A λv A'=>A.le A'/\R (eK a o.dst v) A'
   | 3=>i8 P o.op (iW a) A λv A'=>S A'/\R (eK a o.dst v) A'
   | _=>i8 P o.op (iW a) A λv A'=>R (eK a o.dst v) A'
  else R (eK a o.dst undef) A):aY P S K (o::fv) a A:=M7 h
theorem lwn {P:Program} {S:AW->Prop} {K:Fr->AW->Prop} {a:Fr} {A:AW} (h:K a A):aY P S K [] a A:=h
theorem lr {A:AW} {p:Prop} (h:p):A.le A/\p:=⟨AW.le.refl A,h⟩
theorem la {A:AW} {o:dQ} {p:Prop} (h:p):A.le (A.alloc o)/\p:=⟨AW.le.alloc A o,h⟩
theorem wb {P:Program} {n:Nat} {Q:Exit->Fr->AW->Prop} {a:Fr} {A:AW} {id:Nat} {c:Code} (h:c8 P n c (cx id Q) a A):c8 P n (.block id c) Q a A:=Q3 h
theorem wq {P:Program} {n:Nat} {Q:Exit->Fr->AW->Prop} {a:Fr} {A:AW} {x y:Code} (h:c8 P n x (aR (c8 P n y Q) Q) a A):c8 P n (.seq x y) Q a A:=ba h
theorem wr {P:Program} {n:Nat} {Q:Exit->Fr->AW->Prop} {a:Fr} {A:AW} (h:Q .ret a A):c8 P n .ret Q a A:=Ps h
theorem wk {P:Program} {n:Nat} {Q:Exit->Fr->AW->Prop} {a:Fr} {A:AW} (h:Q .normal a A):c8 P n .skip Q a A:=T8 h
theorem we {P:Program} {n:Nat} {Q:Exit->Fr->AW->Prop} {a:Fr} {A:AW} {id:Nat} (h:Q (.exit id) a A):c8 P n (.exit id) Q a A:=Ub h
theorem wc {P:Program} {n:Nat} {Q:Exit->Fr->AW->Prop} {a:Fr} {A:AW} {c:Operand} {x y:Code} {b:Bool} (hc:iW a c=.bool b) (h1:b=true->c8 P n x Q a A) (h2:b=false->c8 P n y Q a A) :
 c8 P n (.cond c x y) Q a A:=Uc hc h1 h2
theorem ws {P:Program} {n:Nat} {c:Code} {Q:Exit->Fr->AW->Prop} {a:Fr} {A:AW} {k:Nat} (h:c8 P n c (aR (aO P n c Q k) Q) a A):aO P n c Q (k+1) a A:=h
theorem ib {c:Prop} [Decidable c] {p q:Prop} (h1:c->p) (h2:¬c->q):if c then p else q:=SO h1 h2
theorem wS:(∀bJ:Array Oper,da bJ=bJ.toList.map (nop bJ))/\(∀(bJ:Array Oper) (o:Oper),nop bJ o=⟨o.dst,o.op,lG bJ o.guard,3⟩)/\
 (∀(bJ:Array Oper) (l:List (Nat×Nat)),cK bJ l=l.filterMap (lop bJ))/\(∀(bJ:Array Oper) (x:Nat×Nat),lop bJ x=(bJ[x.1]?).map λo=>⟨o.dst,o.op,lG bJ o.guard,x.2⟩)/\
 (∀(bJ:Array Oper) (g:Option (Nat×Bool)),lG bJ g=g.map λx=>((bJ[x.1]?).bind (·.dst),x.2))/\
 (∀(f:Oper->zQ) (a:Oper) (l:List Oper),List.map f (a::l)=f a::List.map f l)/\(∀f:Oper->zQ,List.map f []=[])/\
 (∀(f:Nat×Nat->Option zQ) (a:Nat×Nat) (l:List (Nat×Nat)),ka6 f (a::l)=match f a with|none=>ka6 f l|some b=>b::ka6 f l)/\(∀f:Nat×Nat->Option zQ,ka6 f []=[])/\
 (∀f:Oper->zQ,kbg f none=none)/\(∀(f:Oper->zQ) (a:Oper),kbg f (some a)=some (f a))/\
 (∀f:Nat×Bool->Option Tmp×Bool,kbg f none=none)/\(∀(f:Nat×Bool->Option Tmp×Bool) (a:Nat×Bool),kbg f (some a)=some (f a))/\
 (∀(l:List Oper) (i:Nat),l.toArray[i]? = l[i]?)/\(∀(a:Oper) (l:List Oper),(a::l)[0]? = some a)/\(∀(a:Oper) (l:List Oper) (i:Nat),(a::l)[i+1]? = l[i]?)/\
 (∀(a:Oper) (f:Oper->Option Tmp),(some a).bind f=f a):=by
 refine⟨λ_=>rfl,λ_ _=>rfl,λ_ _=>rfl,λ_ _=>rfl,λ_ _=>rfl,λ_ _ _=>rfl,λ_=>rfl,λf a l=>?_,λ_=>rfl,λ_=>rfl,λ_ _=>rfl,λ_=>rfl,λ_ _=>rfl,λl i=>?_,λ_ _=>rfl,λ_ _ _=>rfl,λ_ _=>rfl⟩;rw [List.filterMap_cons];cases f a<;>rfl;simp
attribute [simp] AW.dt AW.df qL
end Go.Stx
namespace Go.Stx
open Go
variable [Gl]
inductive xd where
 | nil
 | aK (i:Nat) (t:xd)
 | tC (i:Nat) (t:xd) (j:Nat) (t':xd)
inductive yF where
 | nil
 | aK (o:zQ) (t:yF)
 | tC (o:zQ) (t:yF) (o':zQ) (t':yF)
def tK (bJ:Array Oper) (md:List Nat) (i:Nat):zQ:=match bJ[i]? with
 | some o=>⟨o.dst,o.op,lG bJ o.guard,md.getD i 3⟩
 | none=>⟨none,.alloc 0,none,3⟩
def bG (bJ:Array Oper) (md:List Nat):xd->yF
 | .nil=>.nil
 | .aK i t=>.aK (tK bJ md i) (bG bJ md t)
 | .tC i t j t'=>.tC (tK bJ md i) (bG bJ md t) (tK bJ md j) (bG bJ md t')
def oY (P:Program) (S:AW->Prop) (o:zQ) (a:Fr) (A:AW) (R:Fr->AW->Prop):Prop:=
 if sg a o.guard=true then
  match o.Vk with
  | 0=>Rc P A (iW a) o.op λv=>R (eK a o.dst v) A
  | 1=>Rc P A (iW a) o.op λv=>(∀A',S A'->aq P A' (iW a) o.op=some v)/\R (eK a o.dst v) A
  | 2=>i8 P o.op (iW a) A λv A'=>A.le A'/\R (eK a o.dst v) A'
  | 3=>i8 P o.op (iW a) A λv A'=>S A'/\R (eK a o.dst v) A'
  | _=>i8 P o.op (iW a) A λv A'=>R (eK a o.dst v) A'
 else R (eK a o.dst undef) A
def TW (P:Program) (S:AW->Prop) (K:Fr->AW->Prop):yF->Fr->AW->Prop
 | .nil,a,A=>K a A
 | .aK o t,a,A=>oY P S o a A (TW P S K t)
 | .tC o t o' t',a,A=>oY P S o a A (TW P S K t)/\oY P S o' a A (TW P S K t')
section
variable {P:Program} {bJ:Array Oper} {S:AW->Prop} {K:Fr->AW->Prop} {rX:List Nat}
def RQ (bJ:Array Oper) (rX md:List Nat) (M i:Nat):Bool:=(qA bJ.size).all λj=>j == i || M.testBit j || !(ZH 3 (md.getD j 3)) || (rX.getD j 0).testBit i
def PP (bJ:Array Oper) (rX md:List Nat) (M i:Nat):Bool:=(qA bJ.size).all λj=>j == i || M.testBit j || !(ZH 4 (md.getD j 3)) || (rX.getD j 0).testBit i
def WR (bJ:Array Oper) (M i j:Nat):Bool:=(qA bJ.size).all λk=>k == i || k == j || match bJ[k]? with
 | some o=>!yQ M k o
 | none=>true
def Pm (bJ:Array Oper) (md:List Nat) (M i:Nat):Bool:=match bJ[i]? with
 | some o=>yQ M i o && !(ZH (md.getD i 3) 1)
 | none=>false
def yH (bJ:Array Oper) (rX md:List Nat):Nat->xd->Bool
 | M,.nil=>(qA bJ.size).all λj=>M.testBit j
 | M,.aK i t=>(match bJ[i]? with
  | none=>false
  | some o=>yQ M i o && (if ZH (md.getD i 3) 1 then Xw bJ M i o && ((Nat.beq (md.getD i 3) 1 && PP bJ rX md M i) || xB o.op || RQ bJ rX md M i) else WR bJ M i i)) && yH bJ rX md (M ||| 2 ^ i) t
 | M,.tC i t j t'=>Pm bJ md M i && Pm bJ md M j && WR bJ M i j && yH bJ rX md (M ||| 2 ^ i) t && yH bJ rX md (M ||| 2 ^ j) t'
def RK (bJ:Array Oper) (md:List Nat) (t:xd):Bool:=kW bJ && (let rX:=ancL bJ.toList [];CY bJ rX && yH bJ rX md 0 t)
def depth:xd->Nat
 | .nil=>0
 | .aK _ t=>depth t+1
 | .tC _ t _ t'=>max (depth t) (depth t')+1
theorem HQ {md:Nat->Nat}:∀{n:Nat} {L:Nat->Bool} {a:Fr} {A:AW},zJ P bJ S md K n L a A->zJ P bJ S md K (n+1) L a A
 | 0,L,a,A,h=>⟨λ_=>h.2,λ_ i o ho hr=>by have:=h.1 i (qr.1 ho).1;rw [hr.1] at this;cases this⟩
 | n+1,L,a,A,h=>⟨h.1,λhw i o ho hr=>(h.2 hw i o ho hr).mono λv A' _ _ _ _ hk=>HQ hk⟩
theorem Pz {md:Nat->Nat} {n m:Nat} (hnm:n<=m) {L:Nat->Bool} {a:Fr} {A:AW} (h:zJ P bJ S md K n L a A):zJ P bJ S md K m L a A:=by
 induction hnm with
 | refl=>exact h
 | step _ ih=>exact HQ ih
theorem zd {md:List Nat} {i:Nat} {o:Oper} (hi:bJ[i]? = some o) (hm:¬md.getD i 3<=1) {a:Fr} {A:AW} {R:Fr->AW->Prop} (h:oY P S (tK bJ md i) a A R):vP P bJ S (λj=>md.getD j 3) i o a A R:=by
 simp only [oY,tK,hi,<-OA] at h;unfold vP;split
 . rename_i hg;rw [aA hg] at h;by_cases h2:md.getD i 3=2;rw [h2] at h;exact h.mono λv A' hh=>⟨by rw [aA h2];exact hh.1,hh.2⟩;have:∃q,md.getD i 3=q+3:=⟨md.getD i 3-3,by omega⟩;obtain⟨q,hq⟩:=this;rw [hq] at h;cases q with
   | zero=>exact h.mono λv A' hh=>⟨by rw [aw h2];exact λ_=>hh.1,hh.2⟩
   | succ q=>exact h.mono λv A' hh=>⟨by rw [aw h2];exact λe=>by(have e':md.getD i 3=3:=e);omega,hh⟩
 rename_i hg;rw [aw hg] at h;exact h
theorem BF {L:Nat->Bool} {M i:Nat} (hL:∀j,j<bJ.size->L j=M.testBit j):∀j,j<bJ.size->cH L i j=(M ||| 2 ^ i).testBit j:=λj hj=>by
 rw [ka5,kbk,<-hL j hj];unfold cH;by_cases e:j=i;subst e;simp;have:¬i=j:=λx=>e x.symm;simp [e,this]
theorem re (vG:kW bJ=true) (ha:CY bJ rX=true) {md:List Nat}:∀(t:xd) (M:Nat) (L:Nat->Bool) (a:Fr) (A:AW),(∀j,j<bJ.size->L j=M.testBit j)->om bJ L->
 yH bJ rX md M t=true->TW P S K (bG bJ md t) a A->zJ P bJ S (λj=>md.getD j 3) K (depth t) L a A
 | .nil,M,L,a,A,hL,hc,hg,h=>⟨λj hj=>by rw [hL j hj];exact qC.1 hg j (qy.2 hj),h⟩
 | .tC i t j t',M,L,a,A,hL,hc,hg,h=>by
   simp only [yH,qq] at hg;obtain⟨⟨⟨⟨hei,hej⟩,hon⟩,VM⟩,hgj⟩:=hg;have eff:∀{k:Nat},Pm bJ md M k=true->∃o,bJ[k]? = some o/\Q8 L k o/\¬md.getD k 3<=1:=λ{k} hk=>by
    unfold Pm at hk;cases ho:bJ[k]? with
    | none=>rw [ho] at hk;cases hk
    | some o=>
      rw [ho] at hk;simp only [qq,ZF] at hk;refine⟨o,rfl,(mG (qr.1 ho).1 vG ho hL).1 hk.1,λfO=>?_⟩;rw [kaE fO] at hk;exact absurd hk.2 (by simp)
   obtain⟨oi,hi,Lf,BT⟩:=eff hei;obtain⟨oj,hj,JM,tF⟩:=eff hej;refine⟨λkv=>?_,λhw k ok hk hrk=>?_⟩;have:=kv i (qr.1 hi).1;rw [Lf.1] at this;cases this;have hkij:k=i\/k=j:=by
    have h1:=qC.1 hon k (qy.2 (qr.1 hk).1);rw [hk] at h1;simp only [ZO,beq_iff_eq,ZF] at h1;rcases h1 with (h1|h1)|h1;exact .inl h1;exact .inr h1;rw [(mG (qr.1 hk).1 vG hk hL).2 hrk] at h1;cases h1
   rcases hkij with e|e;subst e;rw [hi] at hk;injection hk with hk;subst hk;exact(zd hi BT h.1).mono λv A' _ _ _ _ hh=>Pz (Nat.le_max_left _ _) (re vG ha t _ _ _ A' (BF hL) (hc.set hi Lf) VM hh);subst e;rw [hj] at hk;injection hk with hk;subst hk;exact(zd hj tF h.2).mono λv A' _ _ _ _ hh=>Pz (Nat.le_max_right _ _) (re vG ha t' _ _ _ A' (BF hL) (hc.set hj JM) hgj hh)
 | .aK i t,M,L,a,A,hL,hc,hg,h=>by
   unfold yH at hg;rw [qq] at hg;obtain⟨BV,NF⟩:=hg;cases hi:bJ[i]? with
   | none=>rw [hi] at BV;cases BV
   | some o=>
     rw [hi] at BV;simp only [qq] at BV;obtain⟨hr,BX⟩:=BV;have vT:=(qr.1 hi).1;have W9:Q8 L i o:=(mG vT vG hi hL).1 hr;have hc':=hc.set hi W9;have IH:∀a A,TW P S K (bG bJ md t) a A->zJ P bJ S (λj=>md.getD j 3) K (depth t) (cH L i) a A:=λa A h=>re vG ha t (M ||| 2 ^ i) _ a A (BF hL) hc' NF h;by_cases IT:md.getD i 3<=1;rw [aA (by simpa [kaR] using IT)] at BX;simp only [qq] at BX;obtain⟨up,dy⟩:=BX;have EV:∀j oj,bJ[j]? = some oj->j≠i->L j=false->(∀e∈oj.after,qS .any e=true->e.on≠i)->o.apart bJ oj=true:=λj oj hj nj Tz AJ=>by
      have CK:=(qr.1 hj).1;have h1:=qC.1 up j (qy.2 CK);rw [hj,<-hL j CK,Tz] at h1;simp only [ZO,beq_iff_eq,qt,or_false] at h1;rcases h1 with h1|h1|h1;exact absurd h1 nj;exfalso;rw [Array.any_eq_true] at h1;obtain⟨q,hq,h2⟩:=h1;simp only [qq,beq_iff_eq] at h2;exact AJ _ (Array.getElem_mem hq) h2.1 h2.2;exact h1
     have bS:∀v,((nu bJ a o=true/\aq P A (iW a) o.op=some v)\/(nu bJ a o=false/\v=undef))->(md.getD i 3=1->nu bJ a o=true->∀A',S A'->aq P A' (iW a) o.op=some v)->
      TW P S K (bG bJ md t) (eK a o.dst v) A->zJ P bJ S (λj=>md.getD j 3) K (depth t+1) L a A:=by
      intro v hy hS hk;refine FJ (md:=λj=>md.getD j 3) vG ha hi IT (depth t) L a A hc EV ?_ W9 hy (IH _ _ hk);simp only [ZO] at dy;rcases dy with (h1|h1)|h1;rw [qq] at h1;refine .inr (.inr ⟨λj oj hj nj h3 Tz=>?_,λA' AR FV=>hS (kbj h1.1) FV A' AR⟩);have CK:=(qr.1 hj).1;have h2:=qC.1 h1.2 j (qy.2 CK);rw [<-hL j CK,Tz] at h2;have vW:ZH 4 (md.getD j 3)=true:=kaE h3;rw [vW] at h2
      simpa [nj] using h2
      exact .inl h1;refine .inr (.inl λj oj hj nj h3 Tz=>?_);have CK:=(qr.1 hj).1;have h2:=qC.1 h1 j (qy.2 CK);rw [<-hL j CK,Tz] at h2;have vW:ZH 3 (md.getD j 3)=true:=kaE h3;rw [vW] at h2
      simpa [nj] using h2
     have h':oY P S (tK bJ md i) a A (TW P S K (bG bJ md t)):=h;simp only [oY,tK,hi,<-OA] at h';split at h';rename_i FV;have:md.getD i 3=0\/md.getD i 3=1:=by omega
     rcases this with e|e;rw [e] at h';simp only [Rc] at h';split at h';rename_i v hv;exact bS v (.inl ⟨FV,hv⟩) (λe'=>by omega) h';exact h'.elim;rw [e] at h';simp only [Rc] at h';split at h';rename_i v hv;exact bS v (.inl ⟨FV,hv⟩) (λ_ _=>h'.1) h'.2;exact h'.elim;rename_i FV;have Tj:nu bJ a o=false:=by simpa using FV
     exact bS undef (.inr ⟨Tj,rfl⟩) (λ_ e=>by rw [Tj] at e;cases e) h';rw [aw (by simpa [kaR] using IT)] at BX;refine⟨λkv=>?_,λhw j oj hj JM=>?_⟩;have:=kv i vT;rw [W9.1] at this;cases this;have nj:j=i:=by
      have h1:=qC.1 BX j (qy.2 (qr.1 hj).1);rw [hj] at h1;simp only [ZO,beq_iff_eq,ZF] at h1;rcases h1 with (h1|h1)|h1;exact h1;exact h1;rw [(mG (qr.1 hj).1 vG hj hL).2 JM] at h1;cases h1
     subst nj;rw [hi] at hj;injection hj with hj;subst hj;exact(zd hi IT h).mono λv A' _ _ _ _ hh=>IH _ _ hh
end
theorem wt {P:Program} {n:Nat} {Q:Exit->Fr->AW->Prop} {a:Fr} {A:AW} {id:Nat} {bJ:Array Oper} (S:AW->Prop) (hm:P.follows .mixedOrders=true) (md:List Nat) (t:xd) (hB:RK bJ md t=true)
 (h:∀K:Fr->AW->Prop,(∀a A,Q .normal a A->K a A)->TW P S K (bG bJ md t) a A):c8 P n (.region id bJ true) Q a A:=by
 simp only [RK,qq] at hB;exact CQ hm hB.1 (re hB.1 hB.2.1 t 0 _ a A (λj _=>by simp) (λk o _ hk=>by cases hk) hB.2.2 (h _ λ_ _ h=>h))
theorem PK {P:Program} {S:AW->Prop} {K:Fr->AW->Prop} {o:zQ} {t:yF} {a:Fr} {A:AW} (h:∀R:Fr->AW->Prop,(∀a A,TW P S K t a A->R a A)->oY P S o a A R):TW P S K (.aK o t) a A:=h _ λ_ _ h=>h
theorem Ma {P:Program} {S:AW->Prop} {K:Fr->AW->Prop} {o o':zQ} {t t':yF} {a:Fr} {A:AW} (h:∀R:Fr->AW->Prop,(∀a A,TW P S K t a A->R a A)->oY P S o a A R)
 (h':∀R:Fr->AW->Prop,(∀a A,TW P S K t' a A->R a A)->oY P S o' a A R):TW P S K (.tC o t o' t') a A:=⟨h _ λ_ _ h=>h,h' _ λ_ _ h=>h⟩
theorem PI {P:Program} {S:AW->Prop} {K:Fr->AW->Prop} {a:Fr} {A:AW} (h:K a A):TW P S K .nil a A:=h
attribute [simp] oY
end Go.Stx
namespace Go.Stx
open Go
variable [Gl]
def kg (A B:AW):Prop:=∀i o,A.bp i=some o->B.bp i=some o
theorem kg.sE {A B:AW} (h:A.le B) (hw:A.Wf):kg A B:=λi o hi=>h.mu hw hi
theorem kg.MW {A B:AW} {F:HP} (h:bB B (pV A.bp*F)):kg A B:=by
 obtain⟨_,⟨a,b,d,rfl,rfl,q⟩,hs⟩:=h;intro i o hi;exact hs i o (by simp [Hp.un,hi])
theorem fW.keeps {A B:AW} (hk:kg A B) {size:Nat} {v:Value} {n:Nat} {cs:List Value} (h:fW A size v n cs):fW B size v n cs:=by
 rcases h with h|⟨p,c,b8,own,u,h1,h2,h3,h4⟩;exact .inl h;exact .inr ⟨p,c,b8,own,u,h1,h2,hk _ _ h3,h4⟩
theorem cd.keeps {A B:AW} (hk:kg A B) {k:IntKind} {v:Value} {l:List Int} (h:cd A k v l):cd B k v l:=fW.keeps hk h
def r9 (A:AW) (v:Value) (ls:List (List Int)):Prop:=∃us:List Value,fW A 1 v ls.length us/\∀i (hi:i<ls.length),∃u,us[i]? = some u/\cd A .i64 u ls[i]
theorem r9.keeps {A B:AW} (hk:kg A B) {v:Value} {ls:List (List Int)} (h:r9 A v ls):r9 B v ls:=by
 obtain⟨us,h1,h2⟩:=h;exact⟨us,h1.keeps hk,λi hi=>let ⟨u,h3,h4⟩:=h2 i hi;⟨u,h3,h4.keeps hk⟩⟩
theorem r9.cy {A:AW} {v:Value} {ls:List (List Int)} (h:r9 A v ls):∃o c,v=.slice o ls.length c/\ls.length<=c:=by
 obtain⟨us,h1,_⟩:=h;exact h1.cy
theorem r9.at {A:AW} {o:Option Addr} {n c:Nat} {ls:List (List Int)} (h:r9 A (.slice o n c) ls) {i:Nat} (hi:i<ls.length) :
 ∃p b8 own u,o=some p/\A.bp p.block=some (.cells b8 own 1)/\b8[p.off+i]? = some u/\cd A .i64 u ls[i]:=by
 obtain⟨us,h1,h2⟩:=h;obtain⟨u,h3,h4⟩:=h2 i hi;rcases h1 with ⟨_,e,_⟩|⟨p,c',b8,own,q,e1,e2,e3,e4,e5,e6⟩;omega;injection e1 with e1 e7 e8;subst e4;refine⟨p,b8,own,u,e1,e3,?_,h4⟩;rw [e6,qX,Zu hi,Zv] at h3;exact h3
end Go.Stx
namespace Go.Stx
open Go
variable [Gl]
inductive It where
 | at (i:Nat) (o:dQ)
 | h (P:HP)
def It.hp:It->HP
 | .at i o=>pt i o
 | .h P=>P
def aM:List It->HP
 | []=>eZ
 | x::L=>x.hp*aM L
def ah (A:AW) (L:List It):Prop:=bB A (aM L)
theorem gf:∀(L K:List It),aM (L++K)=aM L*aM K
 | [],K=>by show aM K=eZ*aM K;rw [iD]
 | x::L,K=>by show x.hp*aM (L++K)=x.hp*aM L*aM K;rw [gf L K,HP.cQ]
def Ht:List It->Nat->Option (It×List It)
 | [],_=>none
 | x::L,0=>some (x,L)
 | x::L,k+1=>(Ht L k).map λy=>(y.1,x::y.2)
theorem Cy:∀{L:List It} {k:Nat} {x:It} {K:List It},Ht L k=some (x,K)->aM L=x.hp*aM K
 | [],_,_,_,h=>by cases h
 | y::L,0,x,K,h=>by injection h with h;injection h with h1 h2;subst h1;subst h2;rfl
 | y::L,k+1,x,K,h=>by
   simp only [Ht,ZJ] at h;obtain⟨⟨z,M⟩,h1,h2⟩:=h;injection h2 with h2 h3;subst h2;subst h3;show y.hp*aM L=_;rw [Cy h1];show y.hp*(z.hp*aM M)=z.hp*(y.hp*aM M)
   ac_rfl
theorem ah.aK {A:AW} {L K:List It} {x:It} (h:ah A L) (k:Nat) (e:Ht L k=some (x,K)):bB A (x.hp*aM K):=by
 unfold ah at h;rwa [Cy e] at h
theorem ah.g {A:AW} {L K:List It} {i:Nat} {o:dQ} (h:ah A L) (k:Nat) (e:Ht L k=some (.at i o,K)):A.bp i=some o:=bB.bp (h.aK k e)
theorem ah.keeps {A B:AW} {L K:List It} (h:ah B L) (k:Nat) (e:Ht L k=some (.h (pV A.bp),K)):kg A B:=kg.MW (h.aK k e)
theorem ah.le {A A':AW} {L:List It} (h:ah A L) (hw:A.Wf) (hl:A.le A'):ah A' L:=bB.le h hw hl
theorem ah.alloc {A:AW} {L:List It} (h:ah A L) (hw:A.Wf) (o:dQ):ah (A.alloc o) (.at A.next o::L):=bB.alloc h hw o
theorem ah.mk {A:AW} {F:HP} (h:bB A F):ah A [.h F]:=by
 show bB A (F*eZ);rw [dO];exact h
def aV (A:AW):List It->Prop
 | []=>True
 | .at i o::L=>A.bp i=some o/\aV A L
 | .h _::L=>aV A L
def bq (A:AW):List It->Prop
 | []=>True
 | .at i _::L=>((i=A.next)=False/\(A.next=i)=False/\(∀k,(i=A.next+k)=False)/\∀k,(A.next+k=i)=False)/\bq A L
 | .h _::L=>bq A L
def eQ (i:Nat):List It->Prop
 | []=>True
 | .at j _::L=>((i=j)=False/\(j=i)=False)/\eQ i L
 | .h _::L=>eQ i L
def bQ:List It->Prop
 | []=>True
 | .at i _::L=>eQ i L/\bQ L
 | .h _::L=>bQ L
theorem ah.tail {A:AW} {x:It} {L:List It} (h:ah A (x::L)):ah A L:=bB.right h
theorem ah.NM {A:AW}:∀{L:List It},ah A L->aV A L
 | [],_=>trivial
 | .at i o::L,h=>⟨bB.bp h,ah.NM h.tail⟩
 | .h P::L,h=>ah.NM (L:=L) (ah.tail (x:=.h P) h)
theorem ah.uJ {A:AW} (hw:A.Wf):∀{L:List It},ah A L->bq A L
 | [],_=>trivial
 | .at i o::L,h=>by
   have:=hw.lt (bB.bp h);exact⟨⟨eq_false (by omega),eq_false (by omega),λk=>eq_false (by omega),λk=>eq_false (by omega)⟩,ah.uJ hw h.tail⟩
 | .h P::L,h=>ah.uJ hw (L:=L) (ah.tail (x:=.h P) h)
theorem ah.M5 {A:AW} {i:Nat} {o:dQ}:∀{L:List It},ah A (.at i o::L)->eQ i L
 | [],_=>trivial
 | .at j p::L,h=>by
   have gT:i≠j:=bB.ne h;refine⟨⟨eq_false gT,eq_false (qh gT)⟩,ah.M5 (A:=A) (L:=L) (o:=o) ?_⟩;have h1:bB A (pt i o*(pt j p*aM L)):=h;exact bB.right (h1.dZ (by ac_rfl:_=pt j p*(pt i o*aM L)))
 | .h P::L,h=>by
   have h1:bB A (pt i o*(P*aM L)):=h;exact ah.M5 (A:=A) (L:=L) (o:=o) (bB.right (h1.dZ (by ac_rfl:_=P*(pt i o*aM L))))
theorem ah.nes {A:AW}:∀{L:List It},ah A L->bQ L
 | [],_=>trivial
 | .at i o::L,h=>⟨ah.M5 h,ah.nes h.tail⟩
 | .h P::L,h=>ah.nes (L:=L) (ah.tail (x:=.h P) h)
theorem ah.eJ {A:AW} {L:List It} (h:ah A L) (hw:A.Wf):aV A L/\bq A L/\bQ L:=⟨h.NM,h.uJ hw,h.nes⟩
def bn (P:Program) (f:FuncId) (args:List Value) (rl:List It) (φ:Value->Prop) (post:Value->List It):Prop:=
 ∀(A:AW) (F:HP),A.Wf->ah A (rl++[.h F])->aD P f args A λv A'=>φ v/\ah A' (post v++[.h F])
theorem bn.rH {P:Program} {f:FuncId} {args:List Value} {rl:List It} {φ:Value->Prop} {post:Value->List It} {p:HP} {q:Value->HP} (h:pJ P f args p q) (hp:aM rl=p) (hq:∀v,q v=De (φ v)*aM (post v)) :
 bn P f args rl φ post:=by
 intro A F hw hS;refine(h A F hw (by unfold ah at hS;rw [gf,hp] at hS;have h3:bB A (p*(F*eZ)):=hS;rwa [dO] at h3)).mono ?_;intro v A' hs;rw [hq,HP.cQ,bB.pr] at hs;refine⟨hs.1,?_⟩;unfold ah;rw [gf];show bB A' (aM (post v)*(F*eZ));rw [dO];exact hs.2
section
def Od (l:List (Nat×Nat)):Prop:=True
theorem od (l:List (Nat×Nat)):Od l:=trivial
structure Ts (S:AW->Prop) (md:List Nat) (t:xd):Prop
structure Os (S:AW->Prop) (l:List (Nat×Nat)):Prop
class UL (G:Prop) (H:outParam Prop):Prop where f:H->G
section
variable [Gl] {P:Program} {n:Nat} {Q:Exit->Fr->AW->Prop} {a:Fr} {A:AW} {id k:Nat} {c x y:Code} {S:AW->Prop} {K X:Fr->AW->Prop} {o:dQ} {p:Prop}
instance:UL (c8 P n (.block id c) Q a A) (c8 P n c (cx id Q) a A):=⟨wb⟩
instance:UL (c8 P n (.seq x y) Q a A) (c8 P n x (aR (c8 P n y Q) Q) a A):=⟨wq⟩
instance:UL (c8 P n .ret Q a A) (Q .ret a A):=⟨wr⟩
instance:UL (c8 P n .skip Q a A) (Q .normal a A):=⟨wk⟩
instance:UL (c8 P n (.exit id) Q a A) (Q (.exit id) a A):=⟨we⟩
instance:UL (aO P n c Q (k+1) a A) (c8 P n c (aR (aO P n c Q k) Q) a A):=⟨ws⟩
instance:UL (aY P S K [] a A) (K a A):=⟨lwn⟩
instance:UL (A.le A/\p) p:=⟨lr⟩
instance:UL (A.le (A.alloc o)/\p) p:=⟨la⟩
theorem zS {bJ:Array Oper} {sd:List (Nat×Nat)} (q:Od sd) (hm:P.follows .mixedOrders=true) (hB:Qj bJ sd=true)
 (h:∀K:Fr->AW->Prop,(∀a A,Q .normal a A->K a A)->aY P (λ_=>True) K (cK bJ sd) a A):c8 P n (.region id bJ true) Q a A:=wl hm sd hB h
theorem PF {bJ:Array Oper} {md:List Nat} {t:xd} (q:Ts S md t) (hm:P.follows .mixedOrders=true) (hB:RK bJ md t=true)
 (h:∀K:Fr->AW->Prop,(∀a A,Q .normal a A->K a A)->TW P S K (bG bJ md t) a A):c8 P n (.region id bJ true) Q a A:=wt S hm md t hB h
theorem PG {bJ:Array Oper} {sd:List (Nat×Nat)} (q:Os S sd) (hm:P.follows .mixedOrders=true) (hB:Qj bJ sd=true)
 (h:∀K:Fr->AW->Prop,(∀a A,Q .normal a A->K a A)->aY P S K (cK bJ sd) a A):c8 P n (.region id bJ true) Q a A:=XO S hm sd hB h
theorem wlG {bJ:Array Oper} (h:c8 P n (.region id bJ true) Q a A):c8 P n (.region id bJ true) Q a A:=h
theorem acG {f:FuncId} {args:List Value} {k:Value->AW->Prop} (h:aD P f args A k):aD P f args A k:=h
end
theorem gR {A:AW} {i:Nat} {o:Option dQ} (h:A.bp i=o):A.bp i=o:=h
theorem twG [Gl] {P:Program} {S:AW->Prop} {K:Fr->AW->Prop} {t:yF} {a:Fr} {A:AW} (h:TW P S K t a A):TW P S K t a A:=h
theorem nx {G H:Prop} [i:UL G H] (h:H):G:=i.f h
structure Tg (n:Nat) (p:Prop):Prop where h:p
structure Kp (p:Prop):Prop where h:p
inductive Df:Prop->Prop where
 | T:Df True
 | C {p q:Prop}:Df p->Df q->Df (p/\q)
 | A {p:Prop}:Df p
theorem J1 {a1:Prop} (x1:a1):a1/\True:=⟨x1,trivial⟩
theorem J2 {a1 a2:Prop} (x1:a1) (x2:a2):a1/\a2/\True:=⟨x1,x2,trivial⟩
theorem J3 {a1 a2 a3:Prop} (x1:a1) (x2:a2) (x3:a3):a1/\a2/\a3/\True:=⟨x1,x2,x3,trivial⟩
theorem J4 {a1 a2 a3 a4:Prop} (x1:a1) (x2:a2) (x3:a3) (x4:a4):a1/\a2/\a3/\a4/\True:=⟨x1,x2,x3,x4,trivial⟩
theorem J5 {a1 a2 a3 a4 a5:Prop} (x1:a1) (x2:a2) (x3:a3) (x4:a4) (x5:a5):a1/\a2/\a3/\a4/\a5/\True:=⟨x1,x2,x3,x4,x5,trivial⟩
theorem J6 {a1 a2 a3 a4 a5 a6:Prop} (x1:a1) (x2:a2) (x3:a3) (x4:a4) (x5:a5) (x6:a6):a1/\a2/\a3/\a4/\a5/\a6/\True:=⟨x1,x2,x3,x4,x5,x6,trivial⟩
theorem J7 {a1 a2 a3 a4 a5 a6 a7:Prop} (x1:a1) (x2:a2) (x3:a3) (x4:a4) (x5:a5) (x6:a6) (x7:a7):a1/\a2/\a3/\a4/\a5/\a6/\a7/\True:=⟨x1,x2,x3,x4,x5,x6,x7,trivial⟩
theorem J8 {a1 a2 a3 a4 a5 a6 a7 a8:Prop} (x1:a1) (x2:a2) (x3:a3) (x4:a4) (x5:a5) (x6:a6) (x7:a7) (x8:a8):a1/\a2/\a3/\a4/\a5/\a6/\a7/\a8/\True:=⟨x1,x2,x3,x4,x5,x6,x7,x8,trivial⟩
theorem J9 {a1 a2 a3 a4 a5 a6 a7 a8 a9:Prop} (x1:a1) (x2:a2) (x3:a3) (x4:a4) (x5:a5) (x6:a6) (x7:a7) (x8:a8) (x9:a9):a1/\a2/\a3/\a4/\a5/\a6/\a7/\a8/\a9/\True:=⟨x1,x2,x3,x4,x5,x6,x7,x8,x9,trivial⟩
theorem DM {a1 a2 a3 a4 a5 a6 a7 a8 a9 xH:Prop} (x1:a1) (x2:a2) (x3:a3) (x4:a4) (x5:a5) (x6:a6) (x7:a7) (x8:a8) (x9:a9) (F0:xH):a1/\a2/\a3/\a4/\a5/\a6/\a7/\a8/\a9/\xH/\True:=⟨x1,x2,x3,x4,x5,x6,x7,x8,x9,F0,trivial⟩
theorem JD {a1 a2 a3 a4 a5 a6 a7 a8 a9 xH zG:Prop} (x1:a1) (x2:a2) (x3:a3) (x4:a4) (x5:a5) (x6:a6) (x7:a7) (x8:a8) (x9:a9) (F0:xH) (HU:zG):a1/\a2/\a3/\a4/\a5/\a6/\a7/\a8/\a9/\xH/\zG/\True:=⟨x1,x2,x3,x4,x5,x6,x7,x8,x9,F0,HU,trivial⟩
theorem xe {a1 a2 a3 a4 a5 a6 a7 a8 a9 xH zG C6:Prop} (x1:a1) (x2:a2) (x3:a3) (x4:a4) (x5:a5) (x6:a6) (x7:a7) (x8:a8) (x9:a9) (F0:xH) (HU:zG) (JS:C6):a1/\a2/\a3/\a4/\a5/\a6/\a7/\a8/\a9/\xH/\zG/\C6/\True:=⟨x1,x2,x3,x4,x5,x6,x7,x8,x9,F0,HU,JS,trivial⟩
theorem mB {a1 a2 a3 a4 a5 a6 a7 a8 a9 xH zG C6 FK:Prop} (x1:a1) (x2:a2) (x3:a3) (x4:a4) (x5:a5) (x6:a6) (x7:a7) (x8:a8) (x9:a9) (F0:xH) (HU:zG) (JS:C6) (Mi:FK):a1/\a2/\a3/\a4/\a5/\a6/\a7/\a8/\a9/\xH/\zG/\C6/\FK/\True:=⟨x1,x2,x3,x4,x5,x6,x7,x8,x9,F0,HU,JS,Mi,trivial⟩
theorem xY {a1 a2 a3 a4 a5 a6 a7 a8 a9 xH zG C6 FK HR:Prop} (x1:a1) (x2:a2) (x3:a3) (x4:a4) (x5:a5) (x6:a6) (x7:a7) (x8:a8) (x9:a9) (F0:xH) (HU:zG) (JS:C6) (Mi:FK) (PE:HR):a1/\a2/\a3/\a4/\a5/\a6/\a7/\a8/\a9/\xH/\zG/\C6/\FK/\HR/\True:=⟨x1,x2,x3,x4,x5,x6,x7,x8,x9,F0,HU,JS,Mi,PE,trivial⟩
theorem Rv {a1 a2 a3 a4 a5 a6 a7 a8 a9 xH zG C6 FK HR L2:Prop} (x1:a1) (x2:a2) (x3:a3) (x4:a4) (x5:a5) (x6:a6) (x7:a7) (x8:a8) (x9:a9) (F0:xH) (HU:zG) (JS:C6) (Mi:FK) (PE:HR) (Rx:L2):a1/\a2/\a3/\a4/\a5/\a6/\a7/\a8/\a9/\xH/\zG/\C6/\FK/\HR/\L2/\True:=⟨x1,x2,x3,x4,x5,x6,x7,x8,x9,F0,HU,JS,Mi,PE,Rx,trivial⟩
theorem Mh {a1 a2 a3 a4 a5 a6 a7 a8 a9 xH zG C6 FK HR L2 PA:Prop} (x1:a1) (x2:a2) (x3:a3) (x4:a4) (x5:a5) (x6:a6) (x7:a7) (x8:a8) (x9:a9) (F0:xH) (HU:zG) (JS:C6) (Mi:FK) (PE:HR) (Rx:L2) (UO:PA):a1/\a2/\a3/\a4/\a5/\a6/\a7/\a8/\a9/\xH/\zG/\C6/\FK/\HR/\L2/\PA/\True:=⟨x1,x2,x3,x4,x5,x6,x7,x8,x9,F0,HU,JS,Mi,PE,Rx,UO,trivial⟩
theorem WF {a1 a2 a3 a4 a5 a6 a7 a8 a9 xH zG C6 FK HR L2 PA Uo:Prop} (x1:a1) (x2:a2) (x3:a3) (x4:a4) (x5:a5) (x6:a6) (x7:a7) (x8:a8) (x9:a9) (F0:xH) (HU:zG) (JS:C6) (Mi:FK) (PE:HR) (Rx:L2) (UO:PA) (XN:Uo):a1/\a2/\a3/\a4/\a5/\a6/\a7/\a8/\a9/\xH/\zG/\C6/\FK/\HR/\L2/\PA/\Uo/\True:=⟨x1,x2,x3,x4,x5,x6,x7,x8,x9,F0,HU,JS,Mi,PE,Rx,UO,XN,trivial⟩
theorem Us {a1 a2 a3 a4 a5 a6 a7 a8 a9 xH zG C6 FK HR L2 PA Uo XC:Prop} (x1:a1) (x2:a2) (x3:a3) (x4:a4) (x5:a5) (x6:a6) (x7:a7) (x8:a8) (x9:a9) (F0:xH) (HU:zG) (JS:C6) (Mi:FK) (PE:HR) (Rx:L2) (UO:PA) (XN:Uo) (x18:XC):a1/\a2/\a3/\a4/\a5/\a6/\a7/\a8/\a9/\xH/\zG/\C6/\FK/\HR/\L2/\PA/\Uo/\XC/\True:=⟨x1,x2,x3,x4,x5,x6,x7,x8,x9,F0,HU,JS,Mi,PE,Rx,UO,XN,x18,trivial⟩
theorem J19 {a1 a2 a3 a4 a5 a6 a7 a8 a9 xH zG C6 FK HR L2 PA Uo XC a19:Prop} (x1:a1) (x2:a2) (x3:a3) (x4:a4) (x5:a5) (x6:a6) (x7:a7) (x8:a8) (x9:a9) (F0:xH) (HU:zG) (JS:C6) (Mi:FK) (PE:HR) (Rx:L2) (UO:PA) (XN:Uo) (x18:XC) (x19:a19):a1/\a2/\a3/\a4/\a5/\a6/\a7/\a8/\a9/\xH/\zG/\C6/\FK/\HR/\L2/\PA/\Uo/\XC/\a19/\True:=⟨x1,x2,x3,x4,x5,x6,x7,x8,x9,F0,HU,JS,Mi,PE,Rx,UO,XN,x18,x19,trivial⟩
theorem J20 {a1 a2 a3 a4 a5 a6 a7 a8 a9 xH zG C6 FK HR L2 PA Uo XC a19 a20:Prop} (x1:a1) (x2:a2) (x3:a3) (x4:a4) (x5:a5) (x6:a6) (x7:a7) (x8:a8) (x9:a9) (F0:xH) (HU:zG) (JS:C6) (Mi:FK) (PE:HR) (Rx:L2) (UO:PA) (XN:Uo) (x18:XC) (x19:a19) (x20:a20):a1/\a2/\a3/\a4/\a5/\a6/\a7/\a8/\a9/\xH/\zG/\C6/\FK/\HR/\L2/\PA/\Uo/\XC/\a19/\a20/\True:=⟨x1,x2,x3,x4,x5,x6,x7,x8,x9,F0,HU,JS,Mi,PE,Rx,UO,XN,x18,x19,x20,trivial⟩
theorem W {G H C X:Prop} (c:C) (x:X) (k:H) (s:(∀(zc:C) (zx:X) (zk:Kp H),G)/\Df H:=by
 constructor
 . unhygienic intros
   (try have z1:=zc.1);(try have z2:=zc.2.1);(try have z3:=zc.2.2.1);(try have z4:=zc.2.2.2.1);(try have z5:=zc.2.2.2.2.1);(try have z6:=zc.2.2.2.2.2.1);(try have z7:=zc.2.2.2.2.2.2.1);(try have z8:=zc.2.2.2.2.2.2.2.1);(try have z9:=zc.2.2.2.2.2.2.2.2.1);(try have Rw:=zc.2.2.2.2.2.2.2.2.2.1)
   repeat' (first|(refine kY λR hR=>?_;(first|simp [ar,ax,zx,hq]|simp [ar,ax,zx]);try simp (disch:=omega) only [aA,aw,ar,ax])|(refine hR _ _ ?_;try clear hR R)|(refine hK _ _ ?_;try clear hK K)|refine nx ?_|refine wn λK hK=>?_|simp only [wS]|(refine wlG ?_;first|refine zS z1 Tryz.mx (by decide +kernel) λK hK=>?_|refine zS z2 Tryz.mx (by decide +kernel) λK hK=>?_|refine zS z3 Tryz.mx (by decide +kernel) λK hK=>?_|refine zS z4 Tryz.mx (by decide +kernel) λK hK=>?_|refine zS z5 Tryz.mx (by decide +kernel) λK hK=>?_|refine zS z6 Tryz.mx (by decide +kernel) λK hK=>?_|refine zS z7 Tryz.mx (by decide +kernel) λK hK=>?_|refine zS z8 Tryz.mx (by decide +kernel) λK hK=>?_|refine zS z9 Tryz.mx (by decide +kernel) λK hK=>?_|refine zS Rw Tryz.mx (by decide +kernel) λK hK=>?_)|(refine acG ?_;first|(apply bn.ft;(·(first|apply z1|apply z2|apply z3|apply z4|apply z5|apply z6|apply z7|apply z8|apply z9|apply Rw)<;>first|assumption|(simp [hq];done)|(refine gR ?_;simp [hq];rfl)|(simp [hq,zx];done)|omega|decide);(·exact wA);(·exact sA);(·first|exact pA|exact kA);(first|rintro _ zA rfl hS hw zn|rintro zn zA zn hS hw zn);have hS:=lA hS;(try (have hq:=mK hS hw)))|(apply bO;(·(first|apply z1|apply z2|apply z3|apply z4|apply z5|apply z6|apply z7|apply z8|apply z9|apply Rw)<;>first|assumption|(simp [hq];done)|(refine gR ?_;simp [hq];rfl)|(simp [hq,zx];done)|omega|decide);(first|rintro _ _ ⟨rfl,rfl⟩ zn zn|rintro _ _ ⟨⟨zn,rfl⟩,rfl⟩ zn zn))|((first|apply @Tg.h 10 _ z1|apply @Tg.h 10 _ z2|apply @Tg.h 10 _ z3|apply @Tg.h 10 _ z4);(·exact wA);(·exact sA);(·first|exact pA|exact kA);)|(apply d7.ft;(·first|apply @Tg.h 32 _ z1|apply @Tg.h 32 _ z2|apply @Tg.h 32 _ z3|apply @Tg.h 32 _ z4);(·exact wA);(·exact sA);(·first|exact pA|exact kA);(first|rintro xw _ zA rfl hS hw zn|rintro xw zn zA zn hS hw zn);(try (have hS:=lA hS));(try (have hq:=mK hS hw))))|refine wb ?_|refine wr ?_|refine wk ?_|refine we ?_|refine ws ?_|refine wq ?_|(refine wc rfl (λhc=>?_) (λhc=>?_)<;>(try simp at hc)<;>(try omega))|(refine ib (λhc=>?_) (λhc=>?_)<;>(try omega)<;>(try simp (disch:=omega) only [aA,aw]))|((repeat (first|clear zc|clear zx|clear z1|clear z2|clear z3|clear z4|clear z5|clear z6|clear z7|clear z8|clear z9|clear Rw));(try (revert hq;have zq:=zk;clear zq));(repeat clear hq);(try (revert hS;have zq:=zk;clear zq));(repeat clear hS);(try (revert hw;have zq:=zk;clear zq));(repeat clear hw);(repeat (first|(revert hc;have zq:=zk;clear zq)|(revert zn;have zq:=zk;clear zq)|(revert zA;have zq:=zk;clear zq)|(revert xw;have zq:=zk;clear zq)|(revert K;have zq:=zk;clear zq)|(revert hK;have zq:=zk;clear zq)|(revert R;have zq:=zk;clear zq)|(revert hR;have zq:=zk;clear zq)));first|with_reducible refine zk.h|with_reducible refine zk.h.1|with_reducible refine zk.h.2.1|with_reducible refine zk.h.2.2.1|with_reducible refine zk.h.2.2.2.1|with_reducible refine zk.h.2.2.2.2.1|with_reducible refine zk.h.2.2.2.2.2.1|with_reducible refine zk.h.2.2.2.2.2.2.1|with_reducible refine zk.h.2.2.2.2.2.2.2.1|with_reducible refine zk.h.2.2.2.2.2.2.2.2.1|with_reducible refine zk.h.2.2.2.2.2.2.2.2.2.1|with_reducible refine zk.h.2.2.2.2.2.2.2.2.2.2.1))
 . repeat' (first|exact .T|apply Df.C|exact .A)):G:=s.1 c x ⟨k⟩
theorem Wp {G H C X:Prop} (c:C) (x:X) (k:H) (s:(∀(zc:C) (zx:X) (zk:Kp H),G)/\Df H:=by
 constructor
 . unhygienic intros
   (try have z1:=zc.1);(try have z2:=zc.2.1);(try have z3:=zc.2.2.1);(try have z4:=zc.2.2.2.1);(try have z5:=zc.2.2.2.2.1);(try have z6:=zc.2.2.2.2.2.1)
   repeat' (first|(refine kY λR hR=>?_;(first|simp [ar,ax,zx,hq]|simp [ar,ax,zx]);try simp (disch:=omega) only [aA,aw,ar,ax])|(refine hR _ _ ?_;try clear hR R)|(refine hK _ _ ?_;try clear hK K)|refine nx ?_|refine wn λK hK=>?_|simp only [wS]|(refine wlG ?_;first|refine zS z1 Tryz.mx (by decide +kernel) λK hK=>?_|refine zS z2 Tryz.mx (by decide +kernel) λK hK=>?_|refine zS z3 Tryz.mx (by decide +kernel) λK hK=>?_|refine zS z4 Tryz.mx (by decide +kernel) λK hK=>?_|refine zS z5 Tryz.mx (by decide +kernel) λK hK=>?_|refine zS z6 Tryz.mx (by decide +kernel) λK hK=>?_)|(refine acG ?_;first|(apply bn.ft;(·(first|apply z1|apply z2|apply z3|apply z4|apply z5|apply z6)<;>first|assumption|(simp [hq];done)|(refine gR ?_;simp [hq];rfl)|(simp [hq,zx];done)|omega|decide);(·exact wA);(·exact sA);(·first|exact pP|exact kP);(first|rintro _ zA rfl hS hw zn|rintro zn zA zn hS hw zn);have hS:=lA hS;(try (have hq:=mK hS hw)))|(apply bO;(·(first|apply z1|apply z2|apply z3|apply z4|apply z5|apply z6)<;>first|assumption|(simp [hq];done)|(refine gR ?_;simp [hq];rfl)|(simp [hq,zx];done)|omega|decide);(first|rintro _ _ ⟨rfl,rfl⟩ zn zn|rintro _ _ ⟨⟨zn,rfl⟩,rfl⟩ zn zn))|((first|apply @Tg.h 10 _ z1|apply @Tg.h 10 _ z2|apply @Tg.h 10 _ z3|apply @Tg.h 10 _ z4|apply @Tg.h 10 _ z5);(·exact wA);(·exact sA);(·first|exact pP|exact kP);)|((first|apply @Tg.h 11 _ z1|apply @Tg.h 11 _ z2|apply @Tg.h 11 _ z3|apply @Tg.h 11 _ z4|apply @Tg.h 11 _ z5);(·exact wA);(·exact sA);(·first|exact pP|exact kP);(·first|omega|(simp;omega)|(simp [hq];done));((first|rintro zn zn zA hS hw zn|rintro zn zA hS hw zn|rintro zn zA hS hw);(try refine⟨zn,?_⟩);(try (have hS:=lA hS));have hq:=mK hS hw))|((first|apply @Tg.h 12 _ z1|apply @Tg.h 12 _ z2|apply @Tg.h 12 _ z3|apply @Tg.h 12 _ z4|apply @Tg.h 12 _ z5);(·exact wA);(·exact sA);(·first|exact pP|exact kP);(·first|exact pP|exact kP);(·first|omega|(simp;omega)|(simp [hq];done));(·first|omega|(simp;omega)|(simp [hq];done));((first|rintro zn zn zA hS hw zn|rintro zn zA hS hw zn|rintro zn zA hS hw);(try refine⟨zn,?_⟩);(try (have hS:=lA hS));have hq:=mK hS hw))|((first|apply @Tg.h 19 _ z1|apply @Tg.h 19 _ z2|apply @Tg.h 19 _ z3|apply @Tg.h 19 _ z4|apply @Tg.h 19 _ z5);(·exact wA);(·exact sA);((first|rintro zn zn zA hS hw zn|rintro zn zA hS hw zn|rintro zn zA hS hw);(try refine⟨zn,?_⟩);(try (have hS:=lA hS));have hq:=mK hS hw))|(apply bn.ki;(·first|apply @Tg.h 20 _ z1|apply @Tg.h 20 _ z2|apply @Tg.h 20 _ z3|apply @Tg.h 20 _ z4|apply @Tg.h 20 _ z5);(·exact wA);(·exact sA);(·exact fP);(·first|exact pP|exact kP);(first|rintro _ zA rfl hS hw zn|rintro zn zA zn hS hw zn);have hS:=lA hS;(try (have hq:=mK hS hw));all_goals(try (first|exact 0|exact undef)))|(apply bn.RH;(·first|apply @Tg.h 21 _ z1|apply @Tg.h 21 _ z2|apply @Tg.h 21 _ z3|apply @Tg.h 21 _ z4|apply @Tg.h 21 _ z5);(·exact wA);(·exact sA);(·exact fP);(·first|exact pP|exact kP);(first|rintro _ zA rfl hS hw zn|rintro zn zA zn hS hw zn);have hS:=lA hS;(try (have hq:=mK hS hw));all_goals(try (first|exact 0|exact undef)))|(apply bn.useX;(·first|apply @Tg.h 22 _ z1|apply @Tg.h 22 _ z2|apply @Tg.h 22 _ z3|apply @Tg.h 22 _ z4|apply @Tg.h 22 _ z5);(·exact wA);(·exact sA);(·exact fP);(·first|exact pP|exact kP);(first|rintro _ zA rfl hS hw zn|rintro zn zA zn hS hw zn);have hS:=lA hS;(try (have hq:=mK hS hw));all_goals(try (first|exact 0|exact undef)))|((first|apply @Tg.h 31 _ z1|apply @Tg.h 31 _ z2|apply @Tg.h 31 _ z3|apply @Tg.h 31 _ z4|apply @Tg.h 31 _ z5);(·exact wA);(·exact sA);(·exact fP);((first|rintro zn zn zA hS hw|rintro zn zA hS hw);(try dsimp only [cr,AW.bd,aa,af] at hS);have hq:=hqO hS hw);all_goals(try (first|exact 0|exact undef)))|(apply CP;(·first|apply @Tg.h 30 _ z1|apply @Tg.h 30 _ z2|apply @Tg.h 30 _ z3|apply @Tg.h 30 _ z4|apply @Tg.h 30 _ z5);(·exact wA);(·exact sA);(·exact fP);all_goals(try (first|exact 0|exact undef))))|refine wb ?_|refine wr ?_|refine wk ?_|refine we ?_|refine ws ?_|refine wq ?_|(refine wc rfl (λhc=>?_) (λhc=>?_)<;>(try simp at hc)<;>(try omega)<;>(try (simp [h2] at hc;done))<;>(try (simp [h3] at hc;done))<;>(try (simp [h4] at hc;done)))|(refine ib (λhc=>?_) (λhc=>?_)<;>(try omega)<;>(try simp (disch:=omega) only [aA,aw]))|((repeat (first|clear zc|clear zx|clear z1|clear z2|clear z3|clear z4|clear z5|clear z6));(try (revert hq;have zq:=zk;clear zq));(repeat clear hq);(try (revert hS;have zq:=zk;clear zq));(repeat clear hS);(try (revert hw;have zq:=zk;clear zq));(repeat clear hw);(repeat (first|(revert hc;have zq:=zk;clear zq)|(revert zn;have zq:=zk;clear zq)|(revert zA;have zq:=zk;clear zq)|(revert xw;have zq:=zk;clear zq)|(revert K;have zq:=zk;clear zq)|(revert hK;have zq:=zk;clear zq)|(revert R;have zq:=zk;clear zq)|(revert hR;have zq:=zk;clear zq)));first|with_reducible refine zk.h|with_reducible refine zk.h.1))
 . repeat' (first|exact .T|apply Df.C|exact .A)):G:=s.1 c x ⟨k⟩
theorem Wu {G H C X:Prop} (c:C) (x:X) (k:H) (s:(∀(zc:C) (zx:X) (zk:Kp H),G)/\Df H:=by
 constructor
 . unhygienic intros
   (try have z1:=zc.1);(try have z2:=zc.2.1);(try have z3:=zc.2.2.1);(try have z4:=zc.2.2.2.1);(try have z5:=zc.2.2.2.2.1);(try have z6:=zc.2.2.2.2.2.1);(try have z7:=zc.2.2.2.2.2.2.1);(try have z8:=zc.2.2.2.2.2.2.2.1);(try have z9:=zc.2.2.2.2.2.2.2.2.1);(try have Rw:=zc.2.2.2.2.2.2.2.2.2.1);(try have z11:=zc.2.2.2.2.2.2.2.2.2.2.1);(try have z12:=zc.2.2.2.2.2.2.2.2.2.2.2.1);(try have z13:=zc.2.2.2.2.2.2.2.2.2.2.2.2.1)
   repeat' (first|(with_reducible apply lwI;(·first|(simp;done)|(simp;rfl));(·first|(simp;done)|(simp;rfl));(·exact wA);(·exact sA);(·first|exact pP|exact kP|exact pA|exact kA);(·first|(simp;done)|(simp;rfl)|(simp [hq];done)|(simp [hq];rfl));(·first|omega|(simp;omega));(·intro _ _;trivial);rintro zn zn zA hS hw zn;(try have hS:=lA hS);have hq:=mK hS hw)|(with_reducible apply lwU;(·first|(simp;done)|(simp;rfl));(·first|(simp;done)|(simp;rfl));(·exact wA);(·exact sA);(·first|exact pP|exact kP|exact pA|exact kA);(·first|(simp;done)|(simp;rfl)|(simp [hq];done)|(simp [hq];rfl));(·first|omega|(simp;omega));(·intro _ _;trivial);rintro zn zn zA hS hw zn;(try have hS:=lA hS);have hq:=mK hS hw)|(with_reducible apply twI;(·first|(simp;done)|(simp;rfl));(·first|(simp;done)|(simp;rfl));(·exact wA);(·exact sA);(·first|exact pP|exact kP|exact pA|exact kA);(·first|(simp;done)|(simp;rfl)|(simp [hq];done)|(simp [hq];rfl));(·first|omega|(simp;omega));(·intro _ _;trivial);rintro zn zn zA hS hw zn;(try have hS:=lA hS);have hq:=mK hS hw)|(with_reducible apply twU;(·first|(simp;done)|(simp;rfl));(·first|(simp;done)|(simp;rfl));(·exact wA);(·exact sA);(·first|exact pP|exact kP|exact pA|exact kA);(·first|(simp;done)|(simp;rfl)|(simp [hq];done)|(simp [hq];rfl));(·first|omega|(simp;omega));(·intro _ _;trivial);rintro zn zn zA hS hw zn;(try have hS:=lA hS);have hq:=mK hS hw)|(refine PK λR hR=>?_;(first|simp [ar,ax,zx,hq]|simp [ar,ax,zx]);try simp (disch:=omega) only [aA,aw,ar,ax])|(refine Ma (λR hR=>?_) (λR hR=>?_)<;>(first|(with_reducible apply lhI;(·first|(simp;done)|(simp;rfl));(·first|(simp;done)|(simp;rfl));(·exact wA);(·exact sA);(·first|exact pP|exact kP|exact pA|exact kA);(·first|(simp;done)|(simp;rfl)|(simp [hq];done)|(simp [hq];rfl));(·first|omega|(simp;omega));(·intro _ _;trivial);rintro zn zn zA hS hw zn;(try have hS:=lA hS);have hq:=mK hS hw)|(with_reducible apply lhU;(·first|(simp;done)|(simp;rfl));(·first|(simp;done)|(simp;rfl));(·exact wA);(·exact sA);(·first|exact pP|exact kP|exact pA|exact kA);(·first|(simp;done)|(simp;rfl)|(simp [hq];done)|(simp [hq];rfl));(·first|omega|(simp;omega));(·intro _ _;trivial);rintro zn zn zA hS hw zn;(try have hS:=lA hS);have hq:=mK hS hw)|((first|simp [ar,ax,zx,hq]|simp [ar,ax,zx]);try simp (disch:=omega) only [aA,aw,ar,ax])))|refine PI ?_|(refine wlG ?_;first|refine PF z1 Tryz.mx (by decide +kernel) λK hK=>?_|refine PG z1 Tryz.mx (by decide +kernel) λK hK=>?_|refine PF z2 Tryz.mx (by decide +kernel) λK hK=>?_|refine PG z2 Tryz.mx (by decide +kernel) λK hK=>?_|refine PF z3 Tryz.mx (by decide +kernel) λK hK=>?_|refine PG z3 Tryz.mx (by decide +kernel) λK hK=>?_|refine PF z4 Tryz.mx (by decide +kernel) λK hK=>?_|refine PG z4 Tryz.mx (by decide +kernel) λK hK=>?_|refine PF z5 Tryz.mx (by decide +kernel) λK hK=>?_|refine PG z5 Tryz.mx (by decide +kernel) λK hK=>?_|refine PF z6 Tryz.mx (by decide +kernel) λK hK=>?_|refine PG z6 Tryz.mx (by decide +kernel) λK hK=>?_|refine PF z7 Tryz.mx (by decide +kernel) λK hK=>?_|refine PG z7 Tryz.mx (by decide +kernel) λK hK=>?_|refine PF z8 Tryz.mx (by decide +kernel) λK hK=>?_|refine PG z8 Tryz.mx (by decide +kernel) λK hK=>?_|refine PF z9 Tryz.mx (by decide +kernel) λK hK=>?_|refine PG z9 Tryz.mx (by decide +kernel) λK hK=>?_|refine PF Rw Tryz.mx (by decide +kernel) λK hK=>?_|refine PG Rw Tryz.mx (by decide +kernel) λK hK=>?_|refine PF z11 Tryz.mx (by decide +kernel) λK hK=>?_|refine PG z11 Tryz.mx (by decide +kernel) λK hK=>?_|refine PF z12 Tryz.mx (by decide +kernel) λK hK=>?_|refine PG z12 Tryz.mx (by decide +kernel) λK hK=>?_|refine PF z13 Tryz.mx (by decide +kernel) λK hK=>?_|refine PG z13 Tryz.mx (by decide +kernel) λK hK=>?_)|(refine twG ?_;simp only [bG,tK,lG,Option.map_none,Option.map_some,List.getElem?_toArray,List.getElem?_cons_zero,List.getElem?_cons_succ,List.getD_cons_zero,List.getD_cons_succ,Option.bind_some])|(refine ⟨by simp [hq],?_⟩)|(refine ⟨⟨by simp [hq],by simp [hq],by simp [hq]⟩,?_⟩)|(refine ⟨λA' AR=>by simp [AW.ab,AR],?_⟩)|(refine ⟨λA' AR=>by rw [AR]<;>rfl,?_⟩)|(refine ⟨λA' g1 g2 g3=>by simp [AW.ab,g1,g2,g3],?_⟩)|(refine ⟨λA' x g1 g2 g3=>by simp [AW.ab,g1,g2,g3],?_⟩)|(refine kY λR hR=>?_;(first|simp [ar,ax,zx,hq]|simp [ar,ax,zx]);try simp (disch:=omega) only [aA,aw,ar,ax])|(refine hR _ _ ?_;try clear hR R)|(refine hK _ _ ?_;try clear hK K)|refine nx ?_|refine wn λK hK=>?_|simp only [wS]|(refine wlG ?_;first|refine zS z1 Tryz.mx (by decide +kernel) λK hK=>?_|refine zS z2 Tryz.mx (by decide +kernel) λK hK=>?_|refine zS z3 Tryz.mx (by decide +kernel) λK hK=>?_|refine zS z4 Tryz.mx (by decide +kernel) λK hK=>?_|refine zS z5 Tryz.mx (by decide +kernel) λK hK=>?_|refine zS z6 Tryz.mx (by decide +kernel) λK hK=>?_|refine zS z7 Tryz.mx (by decide +kernel) λK hK=>?_|refine zS z8 Tryz.mx (by decide +kernel) λK hK=>?_|refine zS z9 Tryz.mx (by decide +kernel) λK hK=>?_|refine zS Rw Tryz.mx (by decide +kernel) λK hK=>?_|refine zS z11 Tryz.mx (by decide +kernel) λK hK=>?_|refine zS z12 Tryz.mx (by decide +kernel) λK hK=>?_|refine zS z13 Tryz.mx (by decide +kernel) λK hK=>?_)|(refine acG ?_;first|(apply bn.ft;(·(first|apply z1|apply z2|apply z3|apply z4|apply z5|apply z6|apply z7|apply z8|apply z9|apply Rw|apply z11|apply z12|apply z13)<;>first|assumption|(simp [hq];done)|(refine gR ?_;simp [hq];rfl)|(simp [hq,zx];done)|omega|decide);(·exact wA);(·exact sA);(·first|exact pP|exact kP|exact pA|exact kA);(first|rintro _ zA rfl hS hw zn|rintro zn zA zn hS hw zn);have hS:=lA hS;(try (have hq:=mK hS hw)))|(apply bO;(·(first|apply z1|apply z2|apply z3|apply z4|apply z5|apply z6|apply z7|apply z8|apply z9|apply Rw|apply z11|apply z12|apply z13)<;>first|assumption|(simp [hq];done)|(refine gR ?_;simp [hq];rfl)|(simp [hq,zx];done)|omega|decide);(first|rintro _ _ ⟨rfl,rfl⟩ zn zn|rintro _ _ ⟨⟨zn,rfl⟩,rfl⟩ zn zn))|((first|apply @Tg.h 10 _ z1|apply @Tg.h 10 _ z2|apply @Tg.h 10 _ z3|apply @Tg.h 10 _ z4|apply @Tg.h 10 _ z5);(·exact wA);(·exact sA);(·first|exact pP|exact kP|exact pA|exact kA);)|((first|apply @Tg.h 14 _ z1|apply @Tg.h 14 _ z2|apply @Tg.h 14 _ z3|apply @Tg.h 14 _ z4|apply @Tg.h 14 _ z5);(·exact wA);(·exact sA);(·first|exact pP|exact kP|exact pA|exact kA);(·first|omega|(simp;omega)|(simp [hq];done));)|(apply bn.ki;(·first|apply @Tg.h 20 _ z1|apply @Tg.h 20 _ z2|apply @Tg.h 20 _ z3|apply @Tg.h 20 _ z4|apply @Tg.h 20 _ z5);(·exact wA);(·exact sA);(·exact fP);(·first|exact pP|exact kP|exact pA|exact kA);(first|rintro _ zA rfl hS hw zn|rintro zn zA zn hS hw zn);have hS:=lA hS;(try (have hq:=mK hS hw));all_goals(try (first|exact 0|exact undef)))|(apply bn.RH;(·first|apply @Tg.h 21 _ z1|apply @Tg.h 21 _ z2|apply @Tg.h 21 _ z3|apply @Tg.h 21 _ z4|apply @Tg.h 21 _ z5);(·exact wA);(·exact sA);(·exact fP);(·first|exact pP|exact kP|exact pA|exact kA);(first|rintro _ zA rfl hS hw zn|rintro zn zA zn hS hw zn);have hS:=lA hS;(try (have hq:=mK hS hw));all_goals(try (first|exact 0|exact undef)))|(apply CP;(·first|apply @Tg.h 30 _ z1|apply @Tg.h 30 _ z2|apply @Tg.h 30 _ z3|apply @Tg.h 30 _ z4|apply @Tg.h 30 _ z5);(·exact wA);(·exact sA);(·exact fP);all_goals(try (first|exact 0|exact undef)))|(apply d7.ft;(·first|apply @Tg.h 32 _ z1|apply @Tg.h 32 _ z2|apply @Tg.h 32 _ z3|apply @Tg.h 32 _ z4|apply @Tg.h 32 _ z5);(·exact wA);(·exact sA);(·first|exact pP|exact kP|exact pA|exact kA);(first|rintro xw _ zA rfl hS hw zn|rintro xw zn zA zn hS hw zn);(try (have hS:=lA hS));(try (have hq:=mK hS hw)))|((first|apply d7.ft (@Tg.h 36 _ z1 _)|apply d7.ft (@Tg.h 36 _ z2 _)|apply d7.ft (@Tg.h 36 _ z3 _)|apply d7.ft (@Tg.h 36 _ z4 _)|apply d7.ft (@Tg.h 36 _ z5 _)|apply d7.ft (@Tg.h 36 _ z1 _ _ _ _ _ _)|apply d7.ft (@Tg.h 36 _ z2 _ _ _ _ _ _)|apply d7.ft (@Tg.h 36 _ z3 _ _ _ _ _ _)|apply d7.ft (@Tg.h 36 _ z4 _ _ _ _ _ _)|apply d7.ft (@Tg.h 36 _ z5 _ _ _ _ _ _)|apply d7.ft (@Tg.h 36 _ z1 _ _ _ _ _ _ _ _ _)|apply d7.ft (@Tg.h 36 _ z2 _ _ _ _ _ _ _ _ _)|apply d7.ft (@Tg.h 36 _ z3 _ _ _ _ _ _ _ _ _)|apply d7.ft (@Tg.h 36 _ z4 _ _ _ _ _ _ _ _ _)|apply d7.ft (@Tg.h 36 _ z5 _ _ _ _ _ _ _ _ _)|apply d7.ft (@Tg.h 36 _ z1 _ _ _ _ _ _ _ _ _ _)|apply d7.ft (@Tg.h 36 _ z2 _ _ _ _ _ _ _ _ _ _)|apply d7.ft (@Tg.h 36 _ z3 _ _ _ _ _ _ _ _ _ _)|apply d7.ft (@Tg.h 36 _ z4 _ _ _ _ _ _ _ _ _ _)|apply d7.ft (@Tg.h 36 _ z5 _ _ _ _ _ _ _ _ _ _));(·exact wA);(·exact sA);(·first|exact pP|exact kP|exact pA|exact kA);(first|rintro xw _ zA rfl hS hw zn|rintro xw zn zA zn hS hw zn);(try (have hS:=lA hS));(try (have hq:=mK hS hw)))|((first|apply bn.ft (@Tg.h 37 _ z1 _)|apply bn.ft (@Tg.h 37 _ z2 _)|apply bn.ft (@Tg.h 37 _ z3 _)|apply bn.ft (@Tg.h 37 _ z4 _)|apply bn.ft (@Tg.h 37 _ z5 _)|apply bn.ft (@Tg.h 37 _ z1 _ _ _ _ _ _)|apply bn.ft (@Tg.h 37 _ z2 _ _ _ _ _ _)|apply bn.ft (@Tg.h 37 _ z3 _ _ _ _ _ _)|apply bn.ft (@Tg.h 37 _ z4 _ _ _ _ _ _)|apply bn.ft (@Tg.h 37 _ z5 _ _ _ _ _ _)|apply bn.ft (@Tg.h 37 _ z1 _ _ _ _ _ _ _ _ _)|apply bn.ft (@Tg.h 37 _ z2 _ _ _ _ _ _ _ _ _)|apply bn.ft (@Tg.h 37 _ z3 _ _ _ _ _ _ _ _ _)|apply bn.ft (@Tg.h 37 _ z4 _ _ _ _ _ _ _ _ _)|apply bn.ft (@Tg.h 37 _ z5 _ _ _ _ _ _ _ _ _));(·exact wA);(·exact sA);(·first|exact pP|exact kP|exact pA|exact kA);(first|rintro _ zA rfl hS hw zn|rintro zn zA zn hS hw zn);have hS:=lA hS;(try (have hq:=mK hS hw)))|(apply bn.XQ;(·first|apply @Tg.h 34 _ z1|apply @Tg.h 34 _ z2|apply @Tg.h 34 _ z3|apply @Tg.h 34 _ z4|apply @Tg.h 34 _ z5);(·exact wA);(·exact sA);(·exact fT);(·first|exact pP|exact kP|exact pA|exact kA);(first|rintro _ zA rfl hS hw zn|rintro zn zA zn hS hw zn);(try (have hS:=lA hS));(try (have hq:=mK hS hw));all_goals(try (first|exact 0|exact undef)))|(apply d7.XQ;(·first|apply @Tg.h 35 _ z1|apply @Tg.h 35 _ z2|apply @Tg.h 35 _ z3|apply @Tg.h 35 _ z4|apply @Tg.h 35 _ z5);(·exact wA);(·exact sA);(·exact fT);(·first|exact pP|exact kP|exact pA|exact kA);(first|rintro xw _ zA rfl hS hw zn|rintro xw zn zA zn hS hw zn);(try (have hS:=lA hS));(try (have hq:=mK hS hw));all_goals(try (first|exact 0|exact undef))))|refine wb ?_|refine wr ?_|refine wk ?_|refine we ?_|refine ws ?_|refine wq ?_|(refine wc rfl (λhc=>?_) (λhc=>?_)<;>(try simp at hc)<;>(try omega)<;>(try (simp [h2] at hc;done))<;>(try (simp [h3] at hc;done))<;>(try (simp [h4] at hc;done)))|(refine ib (λhc=>?_) (λhc=>?_)<;>(try omega)<;>(try simp (disch:=omega) only [aA,aw]))|((repeat (first|clear zc|clear zx|clear z1|clear z2|clear z3|clear z4|clear z5|clear z6|clear z7|clear z8|clear z9|clear Rw|clear z11|clear z12|clear z13));(try (revert hq;have zq:=zk;clear zq));(repeat clear hq);(try (revert hS;have zq:=zk;clear zq));(repeat clear hS);(try (revert hw;have zq:=zk;clear zq));(repeat clear hw);(repeat (first|(revert hc;have zq:=zk;clear zq)|(revert zn;have zq:=zk;clear zq)|(revert zA;have zq:=zk;clear zq)|(revert xw;have zq:=zk;clear zq)|(revert K;have zq:=zk;clear zq)|(revert hK;have zq:=zk;clear zq)|(revert R;have zq:=zk;clear zq)|(revert hR;have zq:=zk;clear zq)));first|with_reducible refine zk.h|with_reducible refine zk.h.1|with_reducible refine zk.h.2.1))
 . repeat' (first|exact .T|apply Df.C|exact .A)):G:=s.1 c x ⟨k⟩
end
theorem cF:True:=trivial
theorem bE [Gl]:(∀(A:AW) (i:Nat),A.b8 i=match A.bp i with|some (.cells cs _ _)=>some cs|_=>none)/\∀(P:Program) (A:AW) (t:TypeId) (p:Addr) (v:Value),aG P A t p v=match A.bp p.block,P.info? t with|some (.cells cs true unit),some i=>if v.cells.size=i.size/\p.off+i.size<=cs.length/\v.cells.toList.all qL then some (A.set p.block (some (.cells (fA cs p.off v.cells.toList) true unit))) else none|_,_=>none:=⟨AW.ab,@aG.eq_1⟩
theorem aN [Gl] {P:Program} {f:FuncId} {fn:Func} {c:Code} {args:List Value} {A:AW} {R:Value->AW->Prop} (hf:P.funcs[f]? = some fn) (h:A.Wf->c8 P fn.ntmps c (aU P fn R) (EK args) A) (hb:fn.body=some c:=by rfl) (mv:LB fn args.length=true:=by kernel_rfl):aD P f args A R:=C3 hf hb mv h
theorem By {i:Nat} (h:i<9223372036854775807:=by omega):IntKind.i64.wrap ((i:Int)+1)=((i+1:Nat):Int):=ar (by omega) (by omega)
end Go.Stx
