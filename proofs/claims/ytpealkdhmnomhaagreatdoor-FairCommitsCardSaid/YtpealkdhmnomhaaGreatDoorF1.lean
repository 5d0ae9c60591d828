/-
 Contracts over the abstract memory: slices, assertions, maps, regions that draw their order.
-/
import Derived.Test.YtpealkdhmnomhaaGreatDoorF0
import Derived.Sort.Grow
import Derived.Orders
import Derived.KernelRfl
set_option linter.unusedVariables false
set_option linter.unusedSimpArgs false
set_option linter.unusedSectionVars false
set_option maxRecDepth 20000
open Array renaming all_eq_true_iff_forall_mem->kaz,getD_eq_getD_getElem?->kar,getElem?_eq_getElem->ZL,getElem?_eq_some_iff->Zf,getElem?_modify->kaY,mem_of_getElem?->kaA,mem_toList_iff->kah
open Bool renaming and_eq_true->Zd,false_eq_true->Zg,not_eq_true'->kac,or_eq_true->kal
open Go.Op renaming operands->kaW
open Go.Region renaming binds->ZJ,ready->kbl
open Go.Sort renaming grow->kbM,mapBlock->kbi,putCells->kbZ,putRow->kb5
open Go.Value renaming int->Zb,oneCell'->Zz
open Go.World renaming cell?->kaI
open Int renaming toNat_natCast->ZQ
open List renaming all_eq_true->Zr,any_eq_true->ka2,drop_zero->ZO,eq_nil_of_length_eq_zero->ZP,ext_getElem?->kaD,filterMap->kbG,getElem?_drop->Z7,getElem?_eq_getElem->q9,getElem?_eq_none->Zx,getElem?_eq_some_iff->ZC,getElem?_map->ZX,getElem?_set_ne->Z6,getElem?_set_self->ZV,getElem?_take_of_lt->Z5,length_append->Zc,length_take->Z9,map_append->kat,map_cons->ZY,mem_of_getElem?->kaC,mem_range->Zn,range->Zp,replicate->qX,replicate_succ->ka0,take_of_length_le->Z3
open Nat renaming ble->kae,ble_eq_true_of_le->kbd,eq_of_beq_eq_true->kbV,le_refl->qZ,lt_or_ge->Z4,mul_le_mul_left->kaL,mul_one->ZN,testBit_or->kbF,testBit_two_pow->kbW,zero_le->Zt
open Ne renaming symm->Zm
open Option renaming getD_some->kbB,map->kbQ,map_eq_some_iff->kag,map_some->kaN,some_ne_none->kbf
open Option.some renaming injEq->Zh
open Prod.mk renaming injEq->ZE
open Bool renaming false->qk,true->qg
open Go renaming Addr->qL,FuncId->qJ,IntKind->qw,Oper->qx,Operand->qy,Program->ql,TypeId->qr,TypeInfo->qP,Value->qd,World->qs,undef->qz
open Go.Callee renaming builtin->qB
open Go.Code renaming region->qR
open Go.Departure renaming mixedOrders->qF
open Go.Exit renaming normal->qG
open Go.Value renaming bool->qn
open Option renaming none->qh,some->qc
open Or renaming inl->qq,inr->qt
namespace Go.Stx
open Go
variable [Gl]
def dV (B:Nat) (A:AW) (size:Nat) (v:qd) (n:Nat) (cs:List qd):Prop:=
 (v=.slice qh 0 0/\n=0/\cs=[]) \/
 ∃p c bS,v=.slice (qc p) n c/\n<=c/\p.spot=qh/\B<=p.block/\A.bk p.block=qc (.cells bS qg size)/\p.off+n*size<=bS.length/\cs=(bS.drop p.off).take (n*size)
theorem dV.is {B:Nat} {A:AW} {size:Nat} {v:qd} {n:Nat} {cs:List qd} (h:dV B A size v n cs):fL A size v n cs:=by
 rcases h with ⟨h1,h2,h3⟩|⟨p,c,bS,h1,h2,_,_,h3,h4,h5⟩;exact qq ⟨⟨qh,h1⟩,h2,h3⟩;exact qt ⟨p,c,bS,qg,size,h1,h2,h3,rfl,h4,h5⟩
theorem dV.nil (B:Nat) (A:AW) (size:Nat):dV B A size (.slice qh 0 0) 0 []:=qq ⟨rfl,rfl,rfl⟩
theorem dV.le {B:Nat} {A A':AW} (hl:A.le A') (hw:A.Wf) {size:Nat} {v:qd} {n:Nat} {cs:List qd} (h:dV B A size v n cs):dV B A' size v n cs:=by
 rcases h with h|⟨p,c,bS,h1,h2,hs,h3,h4,h5⟩;exact qq h;exact qt ⟨p,c,bS,h1,h2,hs,h3,hl.mS hw h4,h5⟩
def ep:qd->Option Nat
 | .slice (qc p) _ _=>qc p.block
 | _=>qh
theorem dV.length {B:Nat} {A:AW} {size:Nat} {v:qd} {n:Nat} {cs:List qd} (h:dV B A size v n cs):cs.length=n*size:=h.is.length
theorem HE {A:AW} {size:Nat} {x:qd} {m:Nat} {mR:List qd} (h:gN A size x=qc (m,mR)):mR.length=m*size:=by
 unfold gN at h;split at h;simp only [Zh,ZE] at h;obtain⟨rfl,rfl⟩:=h;simp;split at h;simp only [Zh,ZE] at h;obtain⟨rfl,rfl⟩:=h;simp;split at h;split at h;simp only [Zh,ZE] at h;obtain⟨rfl,rfl⟩:=h;simp;omega;cases h;cases h;cases h
theorem km {P:ql} {A:AW} {t e:qr} {i:qP} {z:qd} {B:Nat} {v x:qd} {n m size:Nat} {cs mR:List qd}
 (hu:P.underlying t=qc (.slice e)) (hi:P.info? e=qc i) (hz:i.zero=qc z) (iA:i.size=size) (pq:z.cells.size=size) (h0:0<size)
 (iz:dV B A size v n cs) (jI:gN A size x=qc (m,mR)) (nU:mR.all Zz=qg) (lF:n+m<=140737488355328) (hb:(n+m)*i.bytes<=140737488355328)
 (hB:B<=A.next) (hw:A.Wf) :
 ∃v' A',fI P A t t v x=qc (v',A')/\dV B A' size v' (n+m) (cs++mR)/\(∀A0:AW,A0.next<=B->A0.le A->A0.le A')/\A'.Wf/\A.next<=A'.next/\
  (∀j,j<A.next->ep v≠qc j->A'.bk j=A.bk j)/\(v'=v\/ep v'=qc A.next):=by
 subst iA;have bW:=iz.length;have Dy:=HE jI;by_cases hm:m=0;subst hm;have Tn:mR=[]:=ZP Ya;subst Tn;have holds:∃b,iv A i.size v=qc (b,n,cs):=by
  rcases iz with ⟨rfl,rfl,rfl⟩|⟨p,c,bS,rfl,hc,BG,_,hg,fA,rfl⟩;exact⟨qh,rfl⟩;exact⟨qc p,by simp [iv,BG,hg,fA]⟩
 obtain⟨b,Cx⟩:=holds;refine⟨v,A,?_,by simpa using iz,λA0 _ h=>h,hw,qZ _,λj _ _=>rfl,qq rfl⟩;simp [fI,hu,hi,hz,pq,h0,jI,Cx];rcases iz with ⟨rfl,rfl,rfl⟩|⟨p,c,bS,rfl,hc,BG,hBp,hg,fA,rfl⟩;refine⟨.slice (qc ⟨A.next,0,qh⟩) (0+m) (0+m),A.alloc (.cells mR qg i.size),?_,?_,λA0 _ h=>h.trans (AW.le.alloc A _),hw.alloc _,by simp,λj hj _=>AW.gl _ _ Ya,qt rfl⟩;have yz:(0+m)*i.bytes<=140737488355328:=hb;have hb2':0+m<=140737488355328:=lF;simp only [fI,hu,hi,hz,jI,iv];rw [ay ⟨pq,h0,trivial⟩,aw hm,ay ⟨hb2',yz,nU⟩];simp;refine qt ⟨⟨A.next,0,qh⟩,0+m,mR,rfl,qZ _,rfl,hB,AW.bN _ _,by simp;omega,?_⟩;simp only [ah,ZO,Nat.zero_add];rw [Z3 Ya];have bY:=hw.lt hg;refine⟨.slice (qc ⟨A.next,0,qh⟩) (n+m) (n+m),(A.set p.block qh).alloc (.cells ((bS.drop p.off).take (n*i.size)++mR) qg i.size),?_,?_,?_,(hw.set qh bY).alloc _,by simp,?_,qt rfl⟩
 simp only [fI,hu,hi,hz,jI,iv,hg];have NJ:¬(p.spot.isSome=qg/\c=0/\n=0):=by simp [BG]
 rw [ay ⟨pq,h0,trivial⟩,aw NJ,ay ⟨trivial,fA⟩];simp only;rw [aw hm,ay ⟨lF,hb,nU⟩];refine qt ⟨⟨A.next,0,qh⟩,n+m,(bS.drop p.off).take (n*i.size)++mR,rfl,qZ _,rfl,hB,?_,?_,?_⟩;have:=AW.bN (A.set p.block qh) (.cells ((bS.drop p.off).take (n*i.size)++mR) qg i.size)
 simpa using this
 have:((bS.drop p.off).take (n*i.size)++mR).length=(n+m)*i.size:=by
  rw [Zc,bW,Dy,Nat.add_mul]
 show 0+(n+m)*i.size<=_;omega;have:((bS.drop p.off).take (n*i.size)++mR).length=(n+m)*i.size:=by
  rw [Zc,bW,Dy,Nat.add_mul]
 exact(Z3 (Nat.le_of_eq this)).symm;intro A0 hA0 hl;exact(hl.set Ya qh).trans (AW.le.alloc _ _);intro j hj gZ;rw [AW.gl _ _ Yg,AW.aZ (λe=>gZ (by simp [ep,e]))]
theorem fL.pd {A:AW} {size:Nat} {v:qd} {n:Nat} {cs:List qd} (h:fL A size v n cs):gN A size v=qc (n,cs):=by
 rcases h with ⟨⟨o,rfl⟩,rfl,rfl⟩|⟨p,c,bS,own,u,rfl,hc,hg,_,fA,rfl⟩;cases o<;>simp [gN];by_cases h0:n=0;subst h0;simp [gN];simp [gN,h0,AW.yc hg,fA]
def eE (B:Nat) (A:AW) (k:qw) (v:qd) (l:List Int):Prop:=dV B A 1 v l.length (l.map (Zb k))
theorem eE.is {B:Nat} {A:AW} {k:qw} {v:qd} {l:List Int} (h:eE B A k v l):bK A k v l:=dV.is h
theorem eE.nil (B:Nat) (A:AW) (k:qw):eE B A k (.slice qh 0 0) []:=dV.nil B A 1
theorem eE.le {B:Nat} {A A':AW} (hl:A.le A') (hw:A.Wf) {k:qw} {v:qd} {l:List Int} (h:eE B A k v l):eE B A' k v l:=dV.le hl hw h
theorem QS {P:ql} {A:AW} {t e:qr} {i:qP} {z:qd} {B:Nat} {v:qd} {k:qw} {l:List Int} (y:Int)
 (hu:P.underlying t=qc (.slice e)) (hi:P.info? e=qc i) (hz:i.zero=qc z) (iA:i.size=1) (pq:z.cells.size=1)
 (iz:eE B A k v l) (bW:l.length<2 ^ 40) (zZ:i.bytes<=8) (hB:B<=A.next) (hw:A.Wf) :
 ∃v' A',fI P (A.alloc (.cells [.int k y] qg 1)) t t v (.slice (qc ⟨A.next,0,qh⟩) 1 1)=qc (v',A')/\eE B A' k v' (l++[y])/\
  (∀A0:AW,A0.next<=B->A0.le A->A0.le A')/\A'.Wf/\A.next<=A'.next:=by
 have Cw:=eE.le (AW.le.alloc A (.cells [.int k y] qg 1)) hw iz;have jI:gN (A.alloc (.cells [.int k y] qg 1)) 1 (.slice (qc ⟨A.next,0,qh⟩) 1 1)=qc (1,[.int k y]):=by
  simp [gN,AW.bS]
 have hb:(l.length+1)*i.bytes<=140737488355328:=by
  have:=kaL (l.length+1) zZ;omega
 obtain⟨v',A',h1,h2,h3,h4,h5,_⟩:=km (P:=P) (t:=t) hu hi hz iA pq Ya Cw jI rfl Ya hb Yg (hw.alloc _);refine⟨v',A',h1,?_,λA0 ha hl=>h3 A0 ha (hl.trans (AW.le.alloc A _)),h4,by simp at h5;omega⟩;unfold eE
 simpa using h2
theorem bK.KZ {A:AW} {k:qw} {b c:Nat} {l:List Int} {own:Bool} {cs:List qd} (hg:A.bk b=qc (.cells cs own 1)) (hcs:cs=l.map (Zb k)) (hc:l.length<=c) {n:Nat} (hn:n=l.length) :
 bK A k (.slice (qc ⟨b,0,qh⟩) n c) l:=by
 subst hcs;subst hn;refine qt ⟨⟨b,0,qh⟩,c,l.map (Zb k),own,1,rfl,hc,hg,rfl,by simp,?_⟩;rw [ZO,Z3 Yb]
theorem QL {P:ql} {A:AW} {t:qr} {i:qP} {b off:Nat} {k:qw} {l:List Int} (y:Int) (hi:P.info? t=qc i) (hs:i.size=1)
 (hg:A.bk b=qc (.cells (l.map (Zb k)) qg 1)) (ho:off<l.length) :
 aG P A t ⟨b,off,qh⟩ (.int k y)=qc (A.set b (qc (.cells ((l.set off y).map (Zb k)) qg 1))):=by
 have h1:off+1<=l.length:=Ya
 simp [aG,hg,hi,hs,Zz,List.map_set];omega
theorem Ex {P:ql} {A:AW} {t e:qr} {i:qP} {z:qd} {B:Nat} {v x:qd} {k:qw} {l l2:List Int}
 (hu:P.underlying t=qc (.slice e)) (hi:P.info? e=qc i) (hz:i.zero=qc z) (iA:i.size=1) (pq:z.cells.size=1)
 (iz:eE B A k v l) (hx:bK A k x l2) (bW:l.length+l2.length<2 ^ 40) (zZ:i.bytes<=8) (hB:B<=A.next) (hw:A.Wf) :
 ∃v' A',fI P A t t v x=qc (v',A')/\eE B A' k v' (l++l2)/\(∀A0:AW,A0.next<=B->A0.le A->A0.le A')/\A'.Wf/\A.next<=A'.next:=by
 have hb:(l.length+l2.length)*i.bytes<=140737488355328:=by
  have:=kaL (l.length+l2.length) zZ;omega
 obtain⟨v',A',h1,h2,h3,h4,h5,_⟩:=km (P:=P) (t:=t) hu hi hz iA pq Ya iz hx.pd (by simp [Zz]) Ya hb hB hw;refine⟨v',A',h1,?_,h3,h4,h5⟩;unfold eE
 simpa using h2
end Go.Stx
namespace Go.Stx
open Go
variable [Gl]
def AW.mr:AW:=⟨Gl.N,λ_=>qh⟩
def Mp.mr:Mp:=λg=>if Gl.ok g=qg then qc ⟨g,0,1,Qj g⟩ else qh
def AW.vY (A:AW):Prop:=∀i o,A.bk i=qc o->o.own=qk
theorem k7.mr (w:qs) (hl:∀b x,Gl.B b=qc x->w.heap[b]? = qc x):k7 Mp.mr AW.mr w:=⟨λi o h=>YD,λi j o o' p p' h=>YD,λi hi=>aw λh=>absurd (Gl.lt i h) (by simp only [AW.mr] at hi;omega),λ_ _=>rfl,hl,λi o p h=>YD,λg hg=>ay hg⟩
theorem AW.vY.mr:AW.mr.vY:=λi o h=>by cases h
theorem k7.RX {m:Mp} {A:AW} {w:qs} (hs:k7 m A w) (zW:A.vY) (cs:List qd) (p:Pl) {jy:Array qd} {e:qr} {fr:Nat×Nat}
 (hb:w.heap[p.block]? = qc (.cells jy e fr)) (Bj:jy.size=p.BN)
 (yr:∀(k:Nat) (v:qd),cs[k]? = qc v->∃v',jy[p.base+k]? = qc v'/\bP m v v') :
 k7 (m.ext A.next p) (A.alloc (.cells cs qk p.unit)) w/\(A.alloc (.cells cs qk p.unit)).vY:=by
 have fA:=hs.GE p;have tJ:∀{j},j≠A.next->(m.ext A.next p) j=m j:=λ{j} h=>by simp [Mp.ext,h]
 have uL:∀{j},j≠A.next->(A.alloc (.cells cs qk p.unit)).bk j=A.bk j:=λ{j} h=>by simp [AW.alloc,h]
 have Be:(m.ext A.next p) A.next=qc p:=by simp [Mp.ext]
 have Ty:(A.alloc (.cells cs qk p.unit)).bk A.next=qc (.cells cs qk p.unit):=by simp [AW.alloc]
 have P6:(A.alloc (.cells cs qk p.unit)).vY:=by
  intro i o hi;by_cases hn:i=A.next;subst hn;rw [Ty] at hi;injection hi with hi;subst hi;rfl
  rw [uL hn] at hi;exact zW i o hi
 refine⟨⟨?_,?_,?_,?_,hs.laid,λi o q hi ho=>(by rw [P6 i o hi] at ho;cases ho),hs.yB.mono fA⟩,P6⟩;intro j o hj;by_cases hn:j=A.next;subst hn;rw [Ty] at hj;injection hj with hj;subst hj;exact⟨p,Be,jy,e,fr,hb,λh=>YD,rfl,Bj,λk v hv=>(by obtain⟨v',h1,h2⟩:=yr k v hv;exact⟨v',h1,h2.mono fA⟩)⟩;rw [uL hn] at hj;obtain⟨p',h1,h2⟩:=hs.IC j o hj;exact⟨p',by rw [tJ hn];exact h1,h2.mono fA⟩;intro i j o o' p1 p2 hi C6;have:=P6 i o hi;rw [C6] at this;cases this;intro i hi;have:i≠A.next:=by simp at hi;omega
 rw [tJ this];exact hs.ur i (by simp at hi;omega);intro i hi;have:i≠A.next:=by simp at hi;omega
 rw [uL this];exact hs.zQ i (by simp at hi;omega)
theorem Bi {m:Mp} {A:AW} {w:qs} (hs:k7 m A w) (zW:A.vY) {k:qw} {a:Option qL} {len eV:Nat} {zs:List Int}
 (h:(a=qh/\len=0/\eV=0/\zs=[]) \/
  ∃x,a=qc x/\len<=eV/\eV<=maxLen/\zs.length=eV/\(∀i,i<zs.length->w.cell? (x.add i)=qc (.int k (zs.getD i 0)))/\∀n∈zs,(Lit.int k n).wf=qg) :
 ∃m' A' v,Mp.le m m'/\A.le A'/\k7 m' A' w/\A'.vY/\bP m' v (.slice a len eV)/\bK A' k v (zs.take len)/\len<=maxLen:=by
 rcases h with ⟨rfl,rfl,rfl,rfl⟩|⟨x,rfl,To,EY,hzl,hcell,_⟩;exact⟨m,A,.slice qh 0 0,Mp.le_refl m,AW.le.refl A,hs,zW,.mC,bK.nil A k,Zt _⟩;by_cases hc0:eV=0;subst hc0;have:len=0:=Ya
 subst this;refine⟨m,A,.slice (qc ⟨0,0,qc 0⟩) 0 0,Mp.le_refl m,AW.le.refl A,hs,zW,.slice (qt ⟨rfl,rfl,qq rfl⟩) (qZ _) (qZ _),?_,Zt _⟩;rw [List.take_zero];exact qq ⟨⟨_,rfl⟩,rfl,rfl⟩;have h0:=hcell 0 Ya;rw [show x.add 0=x by unfold Addr.add;simp] at h0;have BG:x.spot=qh:=by
  unfold kaI at h0;split at h0;split at h0;cases h0;rename_i BG;simpa using BG;cases h0
 have G4:∃jy e fr,w.heap[x.block]? = qc (.cells jy e fr):=by
  unfold kaI at h0;split at h0;rename_i c e fr hh;exact⟨c,e,fr,hh⟩;cases h0
 obtain⟨jy,e,fr,G4⟩:=G4;have Wr:∀i,i<eV->jy[x.off+i]? = qc (.int k (zs.getD i 0)):=λi hi=>by
  have h1:=hcell i Ya;rw [oP _ _ BG] at h1
  simpa [kaI,G4] using h1
 obtain⟨Tj,P6⟩:=k7.RX hs zW (zs.map (Zb k)) ⟨x.block,x.off,1,jy.size⟩ G4 rfl (λj v hv=>by
  rw [ZX,kag] at hv;obtain⟨z,hz,rfl⟩:=hv;have hj:=(ZC.1 hz).1;refine⟨_,Wr j Ya,?_⟩;rw [List.getD_eq_getElem?_getD,hz];exact .int k z)
 have NT:=(Zf.1 (Wr (eV-1) Ya)).1;refine⟨_,_,.slice (qc ⟨A.next,0,qh⟩) len len,hs.GE _,AW.le.alloc A _,Tj,P6,?_,?_,by omega⟩;refine .slice (qq ⟨rfl,BG,⟨x.block,x.off,1,jy.size⟩,by simp [Mp.ext],rfl,rfl,?_⟩) (qZ _) To;show x.off+eV*1<=jy.size;omega;refine qt ⟨⟨A.next,0,qh⟩,len,zs.map (Zb k),qk,1,?_,?_,AW.bN _ _,rfl,?_,?_⟩;rw [Z9,Nat.min_eq_left Ya];simp;omega;simp;omega;rw [ZO,Z9,Nat.min_eq_left Ya,ZN,List.map_take]
theorem yS {P:ql} {f:qJ} {args:List qd} {iq:Array qd} {A:AW} {m:Mp} {w:qs} {R:qd->AW->Prop} (h:aB P f args A R) (hR:∀v A',R v A'->v=qn qg)
 (hs:k7 m A w) (zW:A.vY) (hl:jB m args iq.toList):Calls P f iq w λe w'=>e=.returned (qn qg)/\RowKit.Below w.heap.size w w':=by
 refine(h.2 m w iq hs hl).mono ?_;rintro e w' ⟨v,v',m',A',rfl,ev,hv,hr⟩;have e1:=hR v A' hr;subst e1;cases hv;refine⟨rfl,ev.os,ev.tape,ev.output,ev.size,λk hk=>ev.uY k hk ?_⟩;rintro ⟨i,o,p,hi,C6,_⟩;have:=zW i o hi;rw [C6] at this;cases this
end Go.Stx
namespace Go.Stx
open Go
variable [Gl]
theorem wo:∀(l cs:List qd) (off j:Nat),off+l.length<=cs.length->(fY cs off l)[j]? = if off<=j/\j<off+l.length then l[j-off]? else cs[j]?
 | [],cs,off,j,_=>by
   simp [fY];omega
 | v::l,cs,off,j,h=>by
   simp only [List.length_cons] at h;rw [fY,wo l _ (off+1) j Yg];by_cases h1:off+1<=j/\j<off+1+l.length;rw [ay h1,ay Yg];rw [show j-off=(j-(off+1))+1 by omega,List.getElem?_cons_succ];rw [aw h1];by_cases h2:off=j;subst h2;rw [ay Yb,ZV Ya];simp;rw [aw Yg,Z6 h2]
theorem IG (w:qs) (b:Nat) (f:Array qd->Array qd) {jy:Array qd} {e:qr} {fr:Nat×Nat} (h:w.heap[b]? = qc (.cells jy e fr)) :
 (kbi w b f).heap[b]? = qc (.cells (f jy) e fr):=by
 simp [kbi,kaY,h,Go.Sort.onCells]
theorem Gz (w:qs) (b j:Nat) (f:Array qd->Array qd) (h:j≠b):(kbi w b f).heap[j]? = w.heap[j]?:=by
 simp [kbi,kaY,Zm h]
theorem Ph {m:Mp} {A:AW} {w:qs} (hs:k7 m A w) {i off:Nat} {q:Pl} {bS:List qd} {k:qw} (d:List Int)
 (hg:A.bk i=qc (.cells bS qg 1)) (hm:m i=qc q) (pf:off+d.length<=bS.length) :
 lb m A w m (A.set i (qc (.cells (fY bS off (d.map (Zb k))) qg 1))) (kb5 (Zb k) w q.block (q.base+off) d.toArray):=by
 obtain⟨p',P7,jy,e',fr,hw,tE,hu,Bj,Bk⟩:=hs.IC _ _ hg;rw [hm] at P7;injection P7 with P7;subst P7;obtain rfl:=tE rfl;refine lb.set hs hg hm hu (by simp [kb5,kbi]) rfl rfl rfl (IG w q.block _ hw) (by simpa [kbZ] using Bj) (λj hj=>Gz w _ _ _ hj) ?_;intro j v hv;rw [wo _ _ _ _ YU] at hv;simp only [List.length_map] at hv;by_cases hj:off<=j/\j<off+d.length;rw [ay hj,ZX,q9 Ya] at hv;injection hv with hv;subst hv;obtain⟨v0,h0,_⟩:=Bk j bS[j] (q9 Ya);refine⟨.int k d[j-off],?_,.int _ _⟩;have bY:=(Zf.1 h0).1;simp only [kbZ,Array.getElem?_mapIdx,h0,kaN,List.size_toArray];rw [ay Ya];have e1:q.base+j-(q.base+off)=j-off:=Ya
 rw [e1,getElem!_pos d.toArray (j-off) Yg];simp;rw [aw hj] at hv;obtain⟨v0,h0,h1⟩:=Bk j v hv;refine⟨v0,?_,h1⟩;simp only [kbZ,Array.getElem?_mapIdx,h0,kaN,List.size_toArray];rw [aw Ya]
theorem lb.ahead {m:Mp} {A:AW} {w:qs} (h:k7 m A w) (n:Nat):lb m A w m A (Go.Sort.ahead w n):=
 ⟨Mp.le_refl m,h.KY rfl,qZ _,rfl,rfl,rfl,qZ _,λ_ _ _=>rfl,λ_ h=>qq h,λ_ _=>rfl,λ_ h=>qq h⟩
theorem lb.N3 {m:Mp} {A:AW} {w:qs} (h:k7 m A w) (os:Array Obj):lb m A w m A (kbM w os):=by
 have ey:∀b,b<w.heap.size->(kbM w os).heap[b]? = w.heap[b]?:=λb hb=>by
  show (w.heap++os)[b]? = _;rw [Array.getElem?_append_left hb]
 exact⟨Mp.le_refl m,Ud.HX ey h,qZ _,rfl,rfl,rfl,by simp [kbM],λb hb _=>ey b hb,λ_ h=>qq h,λ_ _=>rfl,λ_ h=>qq h⟩
theorem Re {P:ql} {f:qJ} (dT:kW P f=qg) {n c:Nat} {A:AW} {p:qL} {k:qw} {l d:List Int} {bS:List qd} {rv:qd} {ret:qL->Nat->qd}
 (hn:n=l.length) (h0:0<l.length) (hc:n<=c) (hg:A.bk p.block=qc (.cells bS qg 1)) (pf:p.off+n<=bS.length) (hl:l.map (Zb k)=(bS.drop p.off).take n) (hd:d.length=l.length)
 (hret:∀m a' jH,DW m p a' jH->c<=jH->bP m rv (ret a' jH))
 (Ws:∀jz off eV w,Go.Sort.Holds (Zb k) w jz off l.toArray->jz<w.heap.size->l.length<=eV->Calls P f #[.slice (qc ⟨jz,off,qh⟩) l.length eV] w λe w'=>
  e=.returned (ret ⟨jz,off,qh⟩ eV)/\∃n os,w'=kbM (kb5 (Zb k) (Go.Sort.ahead w n) jz off d.toArray) os) :
 aB P f [.slice (qc p) n c] A λu A'=>u=rv/\A'=A.set p.block (qc (.cells (fY bS p.off (d.map (Zb k))) qg 1)):=by
 subst hn;refine⟨dT,λm w iq hs P8=>?_⟩;obtain⟨v',t',e1,hv,ht⟩:=P8.nj;have e2:=ht.sj;subst e2;have ec:iq = #[v']:=by apply Array.ext';exact e1
 subst ec;cases hv with
 | slice hh h1 h2=>
   rename_i a' jH;have Fg:DW m p a' jH:=by
    rcases hh with hh|hh;exact hh;omega
   have hsr0:=Fg;obtain⟨g1,g2,q,g3,g4,g5,g6⟩:=Fg;obtain⟨p',P7,jy,e',fr,hw,tE,hu,Bj,Bk⟩:=hs.IC _ _ hg;rw [g3] at P7;injection P7 with P7;subst P7;obtain rfl:=tE rfl;have ea:a'=⟨q.block,q.base+p.off,qh⟩:=(by rw [CZ a' g2,g4,g5]);subst ea;have hH:Go.Sort.Holds (Zb k) w q.block (q.base+p.off) l.toArray:=by
    intro j hj;have kh:j<l.length:=by simpa using hj
    have bO:bS[p.off+j]? = qc (.int k l[j]):=by
     have:(l.map (Zb k))[j]? = qc (.int k l[j]):=by rw [ZX,q9 kh];rfl
     rw [hl,Z5 kh,Z7] at this;exact this
    obtain⟨v0,h3,h4⟩:=Bk _ _ bO;cases h4;rw [getElem!_pos l.toArray j hj];simp only [kaI,World.frozen?,hw];rw [Nat.add_assoc];simp [h3]
   refine(Ws q.block (q.base+p.off) jH w hH (Zf.1 hw).1 Ya).mono ?_;rintro e w' ⟨rfl,n,os,rfl⟩;refine⟨rv,_,m,A.set p.block (qc (.cells (fY bS p.off (d.map (Zb k))) qg 1)),rfl,?_,hret m _ jH hsr0 h2,rfl,rfl⟩;have ev1:=lb.ahead hs n;have Qs:=Ph (k:=k) ev1.HX d hg g3 (off:=p.off) Ya;exact(ev1.trans Qs).trans (lb.N3 Qs.HX os)
theorem aB.mr {P:ql} {f:qJ} (dT:kW P f=qg) {o:Option qL} {c:Nat} {A:AW} {rv:qd} {ret:Option qL->Nat->qd}
 (hret:∀m o' c',bP m (.slice o 0 c) (.slice o' 0 c')->bP m rv (ret o' c'))
 (Ws:∀o' c' w,Calls P f #[.slice o' 0 c'] w λe w'=>e=.returned (ret o' c')/\w'=w) :
 aB P f [.slice o 0 c] A λu A'=>u=rv/\A=A':=by
 refine⟨dT,λm w iq hs P8=>?_⟩;obtain⟨v',t',e1,hv,ht⟩:=P8.nj;have e2:=ht.sj;subst e2;have ec:iq = #[v']:=by apply Array.ext';exact e1
 subst ec;have hv':∃o' c',v'=.slice o' 0 c':=by
  cases hv<;>exact⟨_,_,rfl⟩
 obtain⟨o',c',rfl⟩:=hv';refine(Ws o' c' w).mono ?_;rintro e w' ⟨rfl,rfl⟩;exact⟨rv,_,m,A,rfl,lb.refl hs,hret m _ _ hv,rfl,rfl⟩
theorem eE.bR {B:Nat} {A:AW} {k:qw} {v:qd} {l:List Int} (h:eE B A k v l) :
 (∃o c,v=.slice o 0 c/\l=[]/\0<=c)\/∃p c bS,v=.slice (qc p) l.length c/\0<l.length/\l.length<=c/\p.spot=qh/\B<=p.block/\A.bk p.block=qc (.cells bS qg 1)/\
  p.off+l.length<=bS.length/\l.map (Zb k)=(bS.drop p.off).take l.length:=by
 rcases h with ⟨h1,h2,h3⟩|⟨p,c,bS,h1,h2,hs,hB,h3,h4,h5⟩;exact qq ⟨qh,0,h1,ZP h2,qZ _⟩;by_cases h0:l.length=0;rw [h0] at h1;exact qq ⟨qc p,c,h1,ZP h0,Zt _⟩;exact qt ⟨p,c,bS,h1,by omega,h2,hs,hB,h3,by simpa using h4,by simpa using h5⟩
theorem Gi {B:Nat} {A:AW} {k:qw} {p:qL} {c n:Nat} {bS:List qd} (d z:List Int) (hw:A.Wf) (hB:B<=p.block) (hs:p.spot=qh) (hg:A.bk p.block=qc (.cells bS qg 1))
 (pf:p.off+(d++z).length<=bS.length) (hc:d.length<=c) (hn:n=d.length) :
 eE B (A.set p.block (qc (.cells (fY bS p.off ((d++z).map (Zb k))) qg 1))) k (.slice (qc p) n c) d:=by
 subst hn;refine qt ⟨p,c,_,rfl,hc,hs,hB,AW.bV,?_,?_⟩;rw [EP];simp at pf;omega;apply kaD;intro j;by_cases hj:j<d.length;rw [Z5 Ya,Z7,wo _ _ _ _ YU,ay Yg];rw [show p.off+j-p.off=j by omega,kat,List.getElem?_append_left (by simpa using hj)];rw [Zx Yg,Zx Yg]
end Go.Stx
namespace Go.Stx
open Go
variable [Gl]
def ma (bQ:Array qx):Bool:=(Zp bQ.size).all λi=>match bQ[i]? with
 | some o=>o.after.toList.all λe=>!ZJ .any e || kae (e.on+1) i
 | none=>qg
theorem nH {bQ:Array qx} (xD:ma bQ=qg) {i:Nat} {o:qx} (ho:bQ[i]? = qc o) {e:Edge} (he:e∈o.after) (hb:ZJ .any e=qg):e.on<i:=by
 have ha:=Zr.1 xD i (Zn.2 (Zf.1 ho).1);rw [ho] at ha;have h2:=Zr.1 ha e (kah.2 he);rw [hb] at h2;have h3:e.on+1<=i:=by simpa [Nat.ble_eq] using h2
 omega
def Uh (P:ql) (bQ:Array qx) (o:qx) (a:Fr) (A:AW) (k:Fr->AW->Prop):Prop:=
 if oJ bQ a o=qg then jL P o.op (jt a) A (λv A'=>k (fk a o.dst v) A') else k (fk a o.dst qz) A
theorem Jw {md:Region.Mode} {bQ:Array qx} {listed:Array Bool} {i:Nat} (h:i∈kbl md bQ listed) :
 ∃o,bQ[i]? = qc o/\listed.getD i qg=qk/\∀e∈o.after,ZJ md e=qg->listed.getD e.on qk=qg:=by
 simp only [kbl,List.mem_filter,Zn,Zd,kac] at h;obtain⟨hi,h1,h2⟩:=h;refine⟨bQ[i],ZL hi,h1,λe he hb=>?_⟩;rw [ZL hi] at h2;simp only [kaN,kbB] at h2;have:=kaz.1 h2 e he
 simpa [hb] using this
theorem By {bQ:Array qx} (xD:ma bQ=qg) {listed:Array Bool} (xQ:listed.size=bQ.size) (hr:kbl .any bQ listed=[]) :
 ∀n i,i<n->i<bQ.size->listed.getD i qk=qg
 | 0,i,h,_=>by omega
 | n+1,i,h,hi=>by
   by_cases wZ:i<n;exact By xD xQ hr n i wZ hi;by_cases hl:listed.getD i qk=qg;exact hl;exfalso;have tD:i<listed.size:=Ya;have zX:i∈kbl .any bQ listed:=by
    simp only [kbl,List.mem_filter,Zn,Zd,kac];refine⟨hi,?_,?_⟩;rw [kar,ZL tD] at hl ⊢
    simpa using hl
    rw [ZL hi];simp only [kaN,kbB];refine kaz.2 λe he=>?_;cases hb:ZJ .any e with
    | false=>simp
    | true=>
      have bY:=nH xD (ZL hi) he hb;have:=By xD xQ hr n e.on Ya Ya;simp [this]
   rw [hr] at zX;cases zX
theorem R9 {P:ql} {n:Nat} {Q:Exit->Fr->AW->Prop} {a:Fr} {A:AW} {id:Nat} {bQ:Array qx} (hm:P.follows qF=qg) (xD:ma bQ=qg)
 (J:(Nat->Bool)->Fr->AW->Prop) (h0:J (λ_=>qk) a A)
 (um:∀S a A i o,A.Wf->J S a A->bQ[i]? = qc o->S i=qk->(∀e∈o.after,ZJ .any e=qg->S e.on=qg)->Uh P bQ o a A (J λj=>if j=i then qg else S j))
 (sl:∀S a A,A.Wf->J S a A->(∀i,i<bQ.size->S i=qg)->Q qG a A):cM P n (qR id bQ qg) Q a A:=by
 intro mF m w ca hs hf;have GQ:bQ.all (oy n)=qg:=mF;refine wp_region_any hm ?_
 have key:∀(fuel:Nat) (listed:Array Bool) (S:Nat->Bool) (a':Fr) (A':AW) (m':Mp) (w':qs) (C9:Act),listed.size=bQ.size->(∀i,i<bQ.size->listed.getD i qk=S i)->
  (Zp bQ.size).countP (λi=>!S i)<=fuel->J S a' A'->lb m A w m' A' w'->uV m' n a' C9->
  wpAny P .any bQ (λe C9 w'=>∃m' a' A',lb m A w m' A' w'/\uV m' n a' C9/\Q e a' A') fuel listed C9 w':=by
  intro fuel
  induction fuel with
  | zero=>
    intro listed S a' A' m' w' C9 xQ hS hcnt hJ RP tE;have kU:∀i,i<bQ.size->S i=qg:=by
     intro i hi;have:=List.countP_eq_zero.1 (Nat.le_zero.1 hcnt) i (Zn.2 hi)
     simpa using this
    refine⟨?_,m',a',A',RP,tE,sl S a' A' RP.HX.zQ hJ kU⟩;rw [List.eq_nil_iff_forall_not_mem];intro i hi;obtain⟨o,ho,hl,_⟩:=Jw hi;have BI:=(Zf.1 ho).1;have:=hS i BI;rw [kU i BI] at this;rw [kar,ZL Ya] at this hl;simp only [kbB] at this hl;rw [this] at hl;cases hl
  | succ fuel ih=>
    intro listed S a' A' m' w' C9 xQ hS hcnt hJ RP tE;refine⟨λhr=>⟨m',a',A',RP,tE,sl S a' A' RP.HX.zQ hJ λi hi=>?_⟩,λi hi=>?_⟩;rw [<-hS i hi];exact By xD xQ hr (i+1) i Ya hi;obtain⟨o,ho,hl,kH⟩:=Jw hi;have BI:=(Zf.1 ho).1;have up:S i=qk:=by
     rw [<-hS i BI];rw [kar,ZL Ya] at hl ⊢
     simpa using hl
    have hdep':∀e∈o.after,ZJ .any e=qg->S e.on=qg:=by
     intro e he hb;have h1:=kH e he hb;have bY:=nH xD ho he hb;rw [<-hS e.on Ya];exact h1
    have dw:=um S a' A' i o RP.HX.zQ hJ ho up hdep';have hoo:=kaz.1 GQ o (kaA ho);have hcnt':(Zp bQ.size).countP (λj=>!(if j=i then qg else S j))<=fuel:=by
     have e1:(Zp bQ.size).countP (λj=>!(if j=i then qg else S j))+1<=(Zp bQ.size).countP (λj=>!S j):=by
      have zX:i∈Zp bQ.size:=Zn.2 BI;have key2:∀l:List Nat,i∈l->l.countP (λj=>!(if j=i then qg else S j))+1<=l.countP (λj=>!S j):=by
       intro l;have mono:∀l:List Nat,l.countP (λj=>!(if j=i then qg else S j))<=l.countP (λj=>!S j):=λl=>by
        refine List.countP_mono_left λx _ hx=>?_;by_cases e:x=i;simp [e] at hx
        simpa [e] using hx
       induction l with
       | nil=>intro h;cases h
       | cons x l ihl=>
         intro hx;rw [List.countP_cons,List.countP_cons];by_cases e:x=i;subst e;have:=mono l;simp [up]
         simpa using this
         have hx':i∈l:=by
          rcases List.mem_cons.1 hx with h|h;exact absurd h.symm e;exact h
         have:=ihl hx';simp only [e,if_false];omega
      exact key2 _ zX
     omega
    have rk:∀j,j<bQ.size->(listed.setIfInBounds i qg).getD j qk=if j=i then qg else S j:=by
     intro j hj;by_cases e:j=i;subst e;rw [ay rfl,kar,Array.getElem?_setIfInBounds_self_of_lt Ya];rfl;rw [aw e,<-hS j hj,kar,kar,Array.getElem?_setIfInBounds_ne Ya]
    unfold Uh at dw;unfold wpOp;rw [ho];simp only;rw [JS tE GQ o];split at dw;rename_i hg;rw [ay hg];refine qq (DZ RP.HX tE hoo dw ?_);intro v A2 m2 w2 ca2 hk Qs Lv;exact ih _ _ _ A2 m2 w2 ca2 (by simpa using xQ) rk hcnt' hk (RP.trans Qs) Lv;rename_i hg;rw [aw hg];simp only [oy,Zd] at hoo;have hd:∀j,o.dst=qc j->j<n:=λj e=>by have:=hoo.2;rw [e] at this;simpa using this
    exact ih _ _ _ A' m' w' _ (by simpa using xQ) rk hcnt' dw RP (tE.put hd (bP.undef m'))
 refine key bQ.size _ (λ_=>qk) a A m { w with drawn:=w.drawn+1 } ca Yb (λi hi=>by simp [kar,hi]) ?_ h0 (lb.drew hs) hf;exact Nat.le_trans (List.countP_le_length) Yb
end Go.Stx
namespace Go.Stx
open Go
variable [Gl]
abbrev Hp:=Nat->Option eh
def Hp.dj (h k:Hp):Prop:=∀i,h i=qh\/k i=qh
def Hp.un (h k:Hp):Hp:=λi=>match h i with|some o=>qc o|none=>k i
theorem Hp.R3 {h k:Hp} (d:Hp.dj h k):Hp.dj k h:=λi=>(d i).symm
theorem Hp.Q8 {h k:Hp} (d:Hp.dj h k):Hp.un h k=Hp.un k h:=by
 funext i;simp only [Hp.un];rcases d i with e|e;rw [e];cases k i<;>rfl;rw [e];cases h i<;>rfl
theorem Hp.MF (h k l:Hp):Hp.un (Hp.un h k) l=Hp.un h (Hp.un k l):=by
 funext i;simp only [Hp.un];cases h i<;>rfl
theorem Hp.zf {h k:Hp} {i:Nat}:Hp.un h k i=qh↔h i=qh/\k i=qh:=by
 simp only [Hp.un];cases h i<;>simp
structure HP where
 holds:Hp->Prop
@[ext] theorem HP.ext' {P Q:HP} (h:∀x,P.holds x↔Q.holds x):P=Q:=by
 obtain⟨p⟩:=P;obtain⟨q⟩:=Q;congr;funext x;exact propext (h x)
def HP.star (P Q:HP):HP:=⟨λh=>∃h1 h2,Hp.dj h1 h2/\h=Hp.un h1 h2/\P.holds h1/\Q.holds h2⟩
instance:Mul HP:=⟨HP.star⟩
theorem AQ {P Q:HP} {h:Hp}:(P*Q).holds h↔∃h1 h2,Hp.dj h1 h2/\h=Hp.un h1 h2/\P.holds h1/\Q.holds h2:=Iff.rfl
theorem HP.mul_comm (P Q:HP):P*Q=Q*P:=by
 ext h;simp only [AQ];constructor;rintro ⟨a,b,d,rfl,p,q⟩;exact⟨b,a,Hp.R3 d,Hp.Q8 d,q,p⟩;rintro ⟨a,b,d,rfl,p,q⟩;exact⟨b,a,Hp.R3 d,Hp.Q8 d,q,p⟩
theorem HP.de (P Q R:HP):P*Q*R=P*(Q*R):=by
 ext h;simp only [AQ];constructor;rintro ⟨_,c,d,rfl,⟨a,b,d1,rfl,p,q⟩,r⟩;refine⟨a,Hp.un b c,λi=>?_,Hp.MF _ _ _,p,b,c,λi=>?_,rfl,q,r⟩;rcases d i with e|e;exact qq (Hp.zf.1 e).1;rcases d1 i with e1|e1;exact qq e1;exact qt (Hp.zf.2 ⟨e1,e⟩);rcases d i with e|e;exact qq (Hp.zf.1 e).2;exact qt e;rintro ⟨a,_,d,rfl,p,b,c,d1,rfl,q,r⟩;refine⟨Hp.un a b,c,λi=>?_,(Hp.MF _ _ _).symm,⟨a,b,λi=>?_,rfl,p,q⟩,r⟩;rcases d1 i with e|e;rcases d i with e1|e1;exact qq (Hp.zf.2 ⟨e1,e⟩);exact qt (Hp.zf.1 e1).2;exact qt e;rcases d i with e1|e1;exact qq e1;exact qt (Hp.zf.1 e1).1
instance:Std.Associative (α:=HP) (·* ·):=⟨HP.de⟩
instance:Std.Commutative (α:=HP) (·* ·):=⟨HP.mul_comm⟩
def fl:HP:=⟨λh=>h=λ_=>qh⟩
def BH (p:Prop):HP:=⟨λh=>p/\h=λ_=>qh⟩
def td {α:Type} (P:α->HP):HP:=⟨λh=>∃x,(P x).holds h⟩
def pt (i:Nat) (o:eh):HP:=⟨λh=>h=λj=>if j=i then qc o else qh⟩
def lT (h0:Hp):HP:=⟨λh=>h=h0⟩
theorem RK {p:Prop} {P:HP} {h:Hp}:(BH p*P).holds h↔p/\P.holds h:=by
 simp only [AQ];constructor;rintro ⟨a,b,d,rfl,⟨hp,rfl⟩,q⟩;exact⟨hp,q⟩;rintro ⟨hp,q⟩;exact⟨_,h,λ_=>qq rfl,rfl,⟨hp,rfl⟩,q⟩
theorem hex_mul {α:Type} {P:α->HP} {Q:HP}:td P*Q=td λx=>P x*Q:=by
 ext h;constructor;rintro ⟨a,b,d,rfl,⟨x,p⟩,q⟩;exact⟨x,a,b,d,rfl,p,q⟩;rintro ⟨x,a,b,d,rfl,p,q⟩;exact⟨a,b,d,rfl,⟨x,p⟩,q⟩
theorem jf (P:HP):fl*P=P:=by
 ext h;constructor;rintro ⟨a,b,d,rfl,rfl,q⟩;exact q;intro q;exact⟨_,h,λ_=>qq rfl,rfl,rfl,q⟩
theorem dH (P:HP):P*fl=P:=by rw [HP.mul_comm,jf]
def bB (A:AW) (P:HP):Prop:=∃h,P.holds h/\∀i o,h i=qc o->A.bk i=qc o
def Ue (P Q:HP):Prop:=∀h,P.holds h->Q.holds h
theorem Ue.refl (P:HP):Ue P P:=λ_ h=>h
theorem Ue.star {P P' Q Q':HP} (h:Ue P P') (k:Ue Q Q'):Ue (P*Q) (P'*Q'):=λ_ ⟨a,b,d,e,p,q⟩=>⟨a,b,d,e,h a p,k b q⟩
theorem Ue.left {P P':HP} (Q:HP) (h:Ue P P'):Ue (P*Q) (P'*Q):=Ue.star h (Ue.refl Q)
theorem bB.bT {A:AW} {P Q:HP} (h:bB A P) (e:Ue P Q):bB A Q:=⟨h.choose,e _ h.choose_spec.1,h.choose_spec.2⟩
theorem bB.entl {A:AW} {P Q F:HP} (h:bB A (P*F)) (e:Ue P Q):bB A (Q*F):=h.bT (e.left F)
theorem bB.dD {A:AW} {P Q:HP} (h:bB A P) (e:P=Q):bB A Q:=e▸h
theorem bB.right {A:AW} {P Q:HP} (h:bB A (P*Q)):bB A Q:=by
 obtain⟨_,⟨a,b,d,rfl,p,q⟩,hs⟩:=h;refine⟨b,q,λi o hi=>hs i o ?_⟩;simp only [Hp.un];rcases d i with e|e;rw [e];exact hi;rw [e] at hi;cases hi
theorem bB.left {A:AW} {P Q:HP} (h:bB A (P*Q)):bB A P:=(h.dD (HP.mul_comm P Q)).right
theorem bB.ex {α:Type} {A:AW} {P:α->HP} {F:HP}:bB A (td P*F)↔∃x,bB A (P x*F):=by
 rw [hex_mul];constructor;rintro ⟨h,⟨x,p⟩,hs⟩;exact⟨x,h,p,hs⟩;rintro ⟨x,h,p,hs⟩;exact⟨h,⟨x,p⟩,hs⟩
theorem bB.pr {A:AW} {p:Prop} {F:HP}:bB A (BH p*F)↔p/\bB A F:=by
 constructor;rintro ⟨h,hh,hs⟩;rw [RK] at hh;exact⟨hh.1,h,hh.2,hs⟩;rintro ⟨hp,h,hh,hs⟩;exact⟨h,RK.2 ⟨hp,hh⟩,hs⟩
theorem bB.Vt {A A':AW} {P:HP} (h:bB A P) (e:∀i o,A.bk i=qc o->A'.bk i=qc o):bB A' P:=
 ⟨h.choose,h.choose_spec.1,λi o hi=>e i o (h.choose_spec.2 i o hi)⟩
theorem bB.le {A A':AW} {P:HP} (h:bB A P) (hw:A.Wf) (hl:A.le A'):bB A' P:=h.Vt λi o hi=>hl.mS hw hi
theorem bB.bk {A:AW} {i:Nat} {o:eh} {F:HP} (h:bB A (pt i o*F)):A.bk i=qc o:=by
 obtain⟨_,⟨a,b,d,rfl,rfl,q⟩,hs⟩:=h;exact hs i o (by simp [Hp.un])
theorem bB.ne {A:AW} {i j:Nat} {o o':eh} {F:HP} (h:bB A (pt i o*(pt j o'*F))):i≠j:=by
 obtain⟨_,⟨a,_,d,rfl,rfl,b,c,d1,rfl,rfl,q⟩,hs⟩:=h;rintro rfl;rcases d i with e|e;simp at e;simp [Hp.un] at e
theorem bB.Bv {A A':AW} {i:Nat} {o:eh} {F:HP} (h:bB A (pt i o*F)) (e:∀j o',j≠i->A.bk j=qc o'->A'.bk j=qc o'):bB A' F:=by
 obtain⟨_,⟨a,b,d,rfl,rfl,q⟩,hs⟩:=h;refine⟨b,q,λj o' hj=>?_⟩;have lf:j≠i:=by
  rintro rfl;rcases d j with e|e;simp at e;rw [e] at hj;cases hj
 refine e j o' lf (hs j o' ?_);simp [Hp.un,lf,hj]
theorem bB.cons {A:AW} {i:Nat} {o:eh} {F:HP} (hg:A.bk i=qc o) (h:bB (A.set i qh) F):bB A (pt i o*F):=by
 obtain⟨b,q,hs⟩:=h;have hb:b i=qh:=by
  cases Aa:b i with
  | none=>rfl
  | some x=>have:=hs i x Aa;simp at this
 refine⟨_,⟨_,b,λj=>?_,rfl,rfl,q⟩,λj o' hj=>?_⟩;by_cases e:j=i;subst e;exact qt hb;exact qq Yw;by_cases e:j=i;subst e;simp [Hp.un] at hj;rw [hg,hj];simp [Hp.un,e] at hj;have:=hs j o' hj;rwa [AW.aZ e] at this
theorem bB.set {A:AW} {i:Nat} {o:eh} {F:HP} (h:bB A (pt i o*F)) (o':eh):bB (A.set i (qc o')) (pt i o'*F):=by
 refine bB.cons AW.bV (h.Bv λj x hj hx=>?_);rw [AW.aZ hj,AW.aZ hj];exact hx
theorem bB.PP {A:AW} {i:Nat} {o:eh} {F:HP} (h:bB A (pt i o*F)):bB (A.set i qh) F:=
 h.Bv λj x hj hx=>by rw [AW.aZ hj];exact hx
theorem bB.alloc {A:AW} {F:HP} (h:bB A F) (hw:A.Wf) (o:eh):bB (A.alloc o) (pt A.next o*F):=by
 refine bB.cons (AW.bN A o) (h.Vt λj x hx=>?_);have:=hw.lt hx;rw [AW.aZ Ya,AW.gl _ _ Ya];exact hx
theorem bB.mS {A:AW} {F:HP} (h:bB A F) (hw:A.Wf) (o:eh):bB (A.alloc o) F:=(h.alloc hw o).right
theorem bB.ne2 {A:AW} {i j:Nat} {o o':eh} {P F:HP} (h:bB A (pt i o*(P*(pt j o'*F)))):i≠j:=
 bB.ne (h.dD (by ac_rfl:pt i o*(P*(pt j o'*F))=pt i o*(pt j o'*(P*F))))
theorem AW.dx (A:AW) (o:eh) (i:Nat):(A.alloc o).bk i=if i=A.next then qc o else A.bk i:=rfl
theorem AW.du (A:AW) (o:Option eh) (i j:Nat):(A.set i o).bk j=if j=i then o else A.bk j:=rfl
theorem AW.ab (A:AW) (i:Nat):A.bS i=match A.bk i with|some (.cells cs _ _)=>qc cs|_=>qh:=rfl
theorem AW.Wf.ey {A:AW} (hw:A.Wf) {i:Nat} {o:eh} (hg:A.bk i=qc o):(i=A.next)=False/\∀k,(i=A.next+k)=False:=by
 have:=hw.lt hg;exact⟨eq_false Ya,λk=>eq_false Ya⟩
theorem bB.post {A:AW} {p:Prop} {Q F:HP} (hp:p) (h:bB A (Q*F)):bB A (BH p*Q*F):=by
 rw [HP.de,bB.pr];exact⟨hp,h⟩
theorem bB.rB {A:AW} {p:Prop} {Q F:HP} (h:bB A (BH p*Q*F)):p/\bB A (Q*F):=by
 rw [HP.de,bB.pr] at h;exact h
theorem bB.upd1 {A A':AW} {b:Nat} {o o':eh} {F:HP} (h:bB A (pt b o*F)) (h1:A'.bk b=qc o') (hk:∀j x,j≠b->A.bk j=qc x->A'.bk j=qc x):bB A' (pt b o'*F):=
 bB.cons h1 (h.Bv λj x hj hx=>by rw [AW.aZ hj];exact hk j x hj hx)
theorem bB.upd2 {A A':AW} {b c:Nat} {o o' p p':eh} {F:HP} (h:bB A (pt b o*(pt c p*F))) (h1:A'.bk b=qc o') (h2:A'.bk c=qc p')
 (hk:∀j x,j≠b->j≠c->A.bk j=qc x->A'.bk j=qc x):bB A' (pt b o'*(pt c p'*F)):=by
 have hbc:=h.ne;have e1:bB (A'.set b (qc o)) (pt b o*(pt c p'*F)):=by
  have h':bB A (pt c p*(pt b o*F)):=h.dD Yd;refine(bB.upd1 h' (by rw [AW.aZ (Zm hbc)];exact h2) λj x hj hx=>?_).dD Yd;by_cases e:j=b;subst e;rw [AW.bV];rw [h.bk] at hx;exact hx;rw [AW.aZ e];exact hk j x e hj hx
 exact bB.upd1 e1 h1 λj x hj hx=>by rwa [AW.aZ hj] at hx
theorem bB.upd3 {A A':AW} {b c d:Nat} {o o' p p' q q':eh} {F:HP} (h:bB A (pt b o*(pt c p*(pt d q*F)))) (h1:A'.bk b=qc o') (h2:A'.bk c=qc p') (h3:A'.bk d=qc q')
 (hk:∀j x,j≠b->j≠c->j≠d->A.bk j=qc x->A'.bk j=qc x):bB A' (pt b o'*(pt c p'*(pt d q'*F))):=by
 have hbc:=h.ne;have hbd:=h.ne2;have e1:bB (A'.set b (qc o)) (pt b o*(pt c p'*(pt d q'*F))):=by
  have h':bB A (pt c p*(pt d q*(pt b o*F))):=h.dD Yd;refine(bB.upd2 h' (by rw [AW.aZ (Zm hbc)];exact h2) (by rw [AW.aZ (Zm hbd)];exact h3) λj x hj Ms hx=>?_).dD Yd;by_cases e:j=b;subst e;rw [AW.bV];rw [h.bk] at hx;exact hx;rw [AW.aZ e];exact hk j x e hj Ms hx
 exact bB.upd1 e1 h1 λj x hj hx=>by rwa [AW.aZ hj] at hx
theorem bB.WN {A A':AW} {b c:Nat} {o o' p:eh} {F:HP} (h:bB A (pt b o*(pt c p*F))) (h1:A'.bk b=qc o') (hk:∀j x,j≠b->j≠c->A.bk j=qc x->A'.bk j=qc x):bB A' (pt b o'*F):=by
 have hbc:=h.ne;have h':bB A (pt c p*(pt b o*F)):=h.dD Yd;have e1:bB (A'.set b (qc o)) (pt b o*F):=h'.Bv λj x hj hx=>by
  by_cases e:j=b;subst e;rw [AW.bV];rw [h.bk] at hx;exact hx;rw [AW.aZ e];exact hk j x e hj hx
 exact bB.upd1 e1 h1 λj x hj hx=>by rwa [AW.aZ hj] at hx
theorem bB.Ob {A A':AW} {b c d:Nat} {o o' p q:eh} {F:HP} (h:bB A (pt b o*(pt c p*(pt d q*F)))) (h1:A'.bk b=qc o') (hk:∀j x,j≠b->j≠c->j≠d->A.bk j=qc x->A'.bk j=qc x):bB A' (pt b o'*F):=by
 have hbc:=h.ne;have hbd:=h.ne2;have Mu:=h.right.ne;have e1:bB (A'.set c (qc p)) (pt b o'*(pt c p*F)):=by
  refine(bB.WN (b:=b) (c:=d) (o:=o) (p:=q) (F:=pt c p*F) (h.dD Yd) (by rw [AW.aZ hbc];exact h1) λj x hj Ms hx=>?_);by_cases e:j=c;subst e;rw [AW.bV];rw [h.right.bk] at hx;exact hx;rw [AW.aZ e];exact hk j x hj e Ms hx
 have e2:bB (A'.set c (qc p)) (pt c p*(pt b o'*F)):=e1.dD Yd;exact e2.Bv λj x hj hx=>by rwa [AW.aZ hj] at hx
theorem Fu {P:ql} {n:Nat} {c:Code} {Q:Exit->Fr->AW->Prop} {a:Fr} {A:AW} (J:AW->Prop) (hJ:J A) (h:∀A',J A'->cM P n c Q a A'):cM P n c Q a A:=h A hJ
def aL (P:ql) (n:Nat) (c:Code) (Q:Exit->Fr->AW->Prop):Nat->Fr->AW->Prop
 | 0,_,_=>False
 | k+1,a,A=>cM P n c (aS (aL P n c Q k) Q) a A
theorem iH {P:ql} {n:Nat} {c:Code} {Q:Exit->Fr->AW->Prop} {a:Fr} {A:AW} (k:Nat) (h:aL P n c Q k a A):cM P n (.loop c) Q a A:=by
 refine df (aL P n c Q) k h ?_;intro k a A h;cases k with
 | zero=>exact h.elim
 | succ k=>exact CN h λe a A hh=>by cases e<;>first|exact⟨k,Nat.lt_succ_self k,hh⟩|exact hh
def oR (P:ql) (f:qJ) (args:List qd) (sG:HP) (post:qd->HP):Prop:=
 ∀(A:AW) (F:HP),A.Wf->bB A (sG*F)->aB P f args A λv A'=>bB A' (post v*F)
theorem oR.use {P:ql} {f:qJ} {args:List qd} {sG:HP} {post:qd->HP} (h:oR P f args sG post) {A:AW} {G F:HP} (hw:A.Wf) (hs:bB A G) (e:G=sG*F) {k:qd->AW->Prop}
 (hk:∀v A',bB A' (post v*F)->A'.Wf->A.next<=A'.next->k v A'):aB P f args A k:=
 bD (h A F hw (hs.dD e)) hk
end Go.Stx
namespace Go.Stx
open Go
variable [Gl]
def dB (n:Nat) (v:qd):Prop:=∀(m m':Mp) (x:qd),bP m v x->(∀i,i<n->m' i=m i)->bP m' v x
theorem dB.kS {n:Nat} {v:qd} (h:gg v=qg):dB n v:=λm m' x hx _=>by
 have:=hx.oM h;subst this;exact .kS h m'
theorem dB.B5 {n:Nat}:dB n (.pointer qh):=λm m' x hx _=>by cases hx;constructor
theorem dB.mC {n a b:Nat}:dB n (.slice qh a b):=λm m' x hx _=>by cases hx;constructor
theorem dB.Cm {n:Nat}:dB n (.map qh):=λm m' x hx _=>by cases hx;constructor
theorem dB.nilFunc {n:Nat}:dB n .nilFunc:=λm m' x hx _=>by cases hx;constructor
theorem dB.nilIface {n:Nat}:dB n .nilIface:=λm m' x hx _=>by cases hx;constructor
theorem dB.agg {n:Nat} {vs:Array qd} (h:∀v∈vs.toList,dB n v):dB n (.agg vs):=λm m' x hx e=>by
 cases hx with
 | agg h1 h2=>exact .agg h1 λi v v' e1 e2=>h v (kah.2 (kaA e1)) m m' v' (h2 i v v' e1 e2) e
theorem dB.tuple {n:Nat} {vs:Array qd} (h:∀v∈vs.toList,dB n v):dB n (.tuple vs):=λm m' x hx e=>by
 cases hx with
 | tuple h1 h2=>exact .tuple h1 λi v v' e1 e2=>h v (kah.2 (kaA e1)) m m' v' (h2 i v v' e1 e2) e
@[simp] theorem dB.int {n:Nat} {k:qw} {x:Int}:dB n (.int k x):=λm m' x hx _=>by cases hx;constructor
@[simp] theorem dB.bool {n:Nat} {x:Bool}:dB n (qn x):=λm m' x hx _=>by cases hx;constructor
@[simp] theorem dB.string {n:Nat} {x:ByteArray}:dB n (.string x):=λm m' x hx _=>by cases hx;constructor
attribute [simp] dB.B5 dB.mC dB.Cm dB.nilFunc dB.nilIface
theorem sB.F3 {m m':Mp} {a a':qL} (h:sB m a a') (e:∀p,m a.block=qc p->m' a.block=qc p):sB m' a a':=by
 obtain⟨h1,h2,p,h3,h4⟩:=h;exact⟨h1,h2,p,e p h3,h4⟩
theorem DW.F3 {m m':Mp} {a a':qL} {c:Nat} (h:DW m a a' c) (e:∀p,m a.block=qc p->m' a.block=qc p):DW m' a a' c:=by
 obtain⟨h1,h2,p,h3,h4⟩:=h;exact⟨h1,h2,p,e p h3,h4⟩
theorem bP.OT {m m1 m2:Mp} (hag:∀i,m i≠qh->m2 i=m1 i) {v x:qd} (h:bP m v x):∀y,bP m1 v y->bP m2 v y:=by
 have KG:∀{i:Nat} {p:Pl},m i=qc p->m2 i=m1 i:=λh=>hag _ (by rw [h];exact kbf _)
 induction h with
 | bool b=>intro y hy;cases hy;constructor
 | int k n=>intro y hy;cases hy;constructor
 | float k n=>intro y hy;cases hy;constructor
 | complex k x y=>intro y hy;cases hy;constructor
 | string s=>intro y hy;cases hy;constructor
 | B5=>intro y hy;cases hy;constructor
 | M5 h=>
   intro y hy;obtain⟨_,_,p,hp,_⟩:=h;cases hy with
   | M5 h'=>exact .M5 (h'.F3 λq hq=>by rw [KG hp];exact hq)
 | mC=>intro y hy;cases hy;constructor
 | slice h h1 h2=>
   intro y hy;cases hy with
   | slice h' h1' h2'=>
     rename_i a _ _ _ _ _ _;have key:m2 a.block=m1 a.block\/a.spot.isSome=qg:=by
      rcases h with ⟨Mq,_,p,hp,_⟩|⟨hl,_,BG|hb⟩;exact qq (KG hp);exact qt BG;exact qq (hag _ hb)
     rcases key with hb|BG;refine .slice ?_ h1' h2';rcases h' with s|⟨e1,e2,e3⟩;exact qq (s.F3 λq hq=>by rw [hb];exact hq);exact qt ⟨e1,e2,e3.imp id λe=>by rw [hb];exact e⟩;refine .slice ?_ h1' h2';rcases h' with s|⟨e1,e2,e3⟩;have:=s.1;rw [this] at BG;cases BG;exact qt ⟨e1,e2,qq BG⟩
 | Cm=>intro y hy;cases hy;constructor
 | map h=>
   intro y hy;obtain⟨p,hp,_⟩:=h;cases hy with
   | map h'=>
     obtain⟨q,hq,e⟩:=h';exact .map ⟨q,by rw [KG hp];exact hq,e⟩
 | Hw=>intro y hy;cases hy;constructor
 | func fn hx hy h1 h2 ih1 ih2=>
   intro y hy';rename_i x x' z z';cases hy' with
   | func _ kx ky g1 g2=>
     refine .func fn kx ky (λi v v' e1 e2=>?_) (λi v v' e1 e2=>?_);have bY:i<x'.size:=Y8;exact ih1 i v _ e1 (ZL bY) v' (g1 i v v' e1 e2);have bY:i<z'.size:=(by rw [<-hy];exact(Zf.1 e1).1);exact ih2 i v _ e1 (ZL bY) v' (g2 i v v' e1 e2)
 | nilFunc=>intro y hy;cases hy;constructor
 | iface t _ ih=>intro y hy;cases hy with|iface _ h'=>exact .iface t (ih _ h')
 | nilIface=>intro y hy;cases hy;constructor
 | agg hx _ ih=>
   intro y hy';rename_i x x' _;cases hy' with
   | agg kx g1=>
     refine .agg kx (λi v v' e1 e2=>?_);have bY:i<x'.size:=Y8;exact ih i v _ e1 (ZL bY) v' (g1 i v v' e1 e2)
 | tuple hx _ ih=>
   intro y hy';rename_i x x' _;cases hy' with
   | tuple kx g1=>
     refine .tuple kx (λi v v' e1 e2=>?_);have bY:i<x'.size:=Y8;exact ih i v _ e1 (ZL bY) v' (g1 i v v' e1 e2)
def OBelow (n:Nat):eh->Prop
 | .cells cs _ _=>∀c∈cs,dB n c
 | .map es _=>∀e∈es,dB n e.1/\dB n e.2
theorem aB.gc {P:ql} {f:qJ} {args:List qd} {A X:AW} {V:qd} (hX:X.next=A.next) (hV:dB A.next V)
 (hO:∀i o,X.bk i=qc o->i<A.next/\(A.bk i=qc o\/OBelow A.next o))
 (h:aB P f args A λv A'=>v=V/\∀i o,X.bk i=qc o->A'.bk i=qc o):aB P f args A λv A'=>v=V/\X=A':=by
 refine⟨h.1,λm w iq hs hl=>(h.2 m w iq hs hl).mono ?_⟩;rintro e w' ⟨v,v',m',A',rfl,ev,hv,rfl,hg⟩
 let m2:Mp:=λi=>if i<A.next then m' i else qh
 have hlow:∀i,m i≠qh->i<A.next:=λi hi=>by
  rcases Z4 i A.next with h|h;exact h;exact absurd (hs.ur i h) hi
 have h2:∀i,i<A.next->m2 i=m' i:=λi hi=>ay hi;have fA:Mp.le m m2:=λi p hi=>by
  have:=hlow i (by rw [hi];exact kbf _);rw [h2 i this];exact ev.ext i p hi
 have hbel:∀{u x:qd},dB A.next u->bP m' u x->bP m2 u x:=λhb hr=>hb m' m2 _ hr h2;have hag:∀i,m i≠qh->m2 i=m' i:=λi hi=>h2 i (hlow i hi);refine⟨v,v',m2,X,rfl,⟨fA,⟨?_,?_,?_,?_,ev.HX.laid,λi o p hi C6 Dz=>ev.HX.Cp i o p (hg i o hi) C6 (by rw [<-h2 i (hO i o hi).1];exact Dz),hs.yB.mono fA⟩,by omega,ev.os,ev.tape,ev.output,ev.size,ev.uY,?_,λi hi=>(h2 i hi).trans (ev.mS i hi),?_⟩,hbel hV hv,rfl,rfl⟩
 . intro i o hi;obtain⟨p,hp,hm⟩:=ev.HX.IC i o (hg i o hi);obtain⟨bY,wY⟩:=hO i o hi;refine⟨p,by rw [h2 i bY];exact hp,?_⟩;rcases wY with hA|hB
   . obtain⟨p0,zV,hm0⟩:=hs.IC i o hA;cases o with
     | cells cs own u=>
       obtain⟨jy,e1,fr,g1,g2,g3,g4,g5⟩:=hm;obtain⟨_,_,_,_,_,_,_,k5⟩:=hm0;refine⟨jy,e1,fr,g1,g2,g3,g4,λk u hu=>?_⟩;obtain⟨y,hy,hr⟩:=g5 k u hu;obtain⟨x,_,hr0⟩:=k5 k u hu;exact⟨y,hy,hr0.OT hag y hr⟩
     | map es own=>
       obtain⟨mf,aC,Bp,gp,g1,g2,g3⟩:=hm;obtain⟨ents0,_,es0,kp,_,k2,k3⟩:=hm0;refine⟨mf,aC,Bp,gp,g1,g2,λk x e hx he=>?_⟩;obtain⟨k0,NU⟩:=List.mem_iff_getElem?.1 ((kp.mem_iff).1 ((gp.mem_iff).2 (kaC hx)));have bY:k0<ents0.size:=(by rw [<-k2];exact(ZC.1 NU).1);have q:=k3 k0 x _ NU (ZL bY);have r:=g3 k x e hx he;exact⟨q.1.OT hag _ r.1,q.2.OT hag _ r.2⟩
   cases o with
   | cells cs own u=>
     obtain⟨jy,e1,fr,g1,g2,g3,g4,g5⟩:=hm;refine⟨jy,e1,fr,g1,g2,g3,g4,λk u hu=>?_⟩;obtain⟨y,hy,hr⟩:=g5 k u hu;exact⟨y,hy,hbel (hB u (kaC hu)) hr⟩
   | map es own=>
     obtain⟨mf,aC,Bp,gp,g1,g2,g3⟩:=hm;refine⟨mf,aC,Bp,gp,g1,g2,λk x e hx he=>?_⟩;have r:=g3 k x e hx he;have b:=hB x ((gp.mem_iff).2 (kaC hx));exact⟨hbel b.1 r.1,hbel b.2 r.2⟩
 intro i j o o' p p' hi ho hj gZ V9 hpj;rw [h2 i (hO i o hi).1] at V9;rw [h2 j (hO j o' hj).1] at hpj;exact ev.HX.inj i j o o' p p' (hg i o hi) ho (hg j o' hj) gZ V9 hpj;intro i hi;exact aw Ya
 . intro i hi;cases hx:X.bk i with
   | none=>rfl
   | some o=>have:=(hO i o hx).1;omega
 rintro b ⟨i,o,p,hi,ho,hp,hb⟩;rw [h2 i (hO i o hi).1] at hp;exact ev.grow b ⟨i,o,p,hg i o hi,ho,hp,hb⟩;rintro b ⟨i,o,p,hi,hp,hb⟩;rw [h2 i (hO i o hi).1] at hp;exact ev.used b ⟨i,o,p,hg i o hi,hp,hb⟩
theorem aB.tF {P:ql} {f:qJ} {args:List qd} {A:AW} {V:qd} (hV:dB A.next V)
 (h:A.Wf->aB P f args A λv A'=>v=V/\A.le A') (hc:kW P f=qg):aB P f args A λv A'=>v=V/\A=A':=by
 have key:A.Wf->aB P f args A λv A'=>v=V/\A=A':=λhw=>
  aB.gc rfl hV (λi o hi=>⟨hw.lt hi,qq hi⟩) ((h hw).mono λv A' ⟨h1,h2⟩=>⟨h1,λi o hi=>h2.mS hw hi⟩)
 exact⟨hc,λm w iq hs hl=>(key hs.zQ).2 m w iq hs hl⟩
end Go.Stx
namespace Go.Stx
open Go
variable [Gl]
def dK (size:Nat) (v:qd) (n:Nat) (cs:List qd):HP:=
 ⟨λh=>(v=.slice qh 0 0/\n=0/\cs=[]/\h=λ_=>qh) \/
  ∃b off c bS,v=.slice (qc ⟨b,off,qh⟩) n c/\n<=c/\off+n*size<=bS.length/\cs=(bS.drop off).take (n*size)/\
   h=λj=>if j=b then qc (.cells bS qg size) else qh⟩
def au (k:qw) (v:qd) (l:List Int):HP:=dK 1 v l.length (l.map (Zb k))
theorem dK.cases {A:AW} {size n:Nat} {v:qd} {cs:List qd} {F:HP} (h:bB A (dK size v n cs*F)) :
 (v=.slice qh 0 0/\n=0/\cs=[]/\bB A F) \/
 ∃b off c bS,v=.slice (qc ⟨b,off,qh⟩) n c/\n<=c/\off+n*size<=bS.length/\cs=(bS.drop off).take (n*size)/\bB A (pt b (.cells bS qg size)*F):=by
 obtain⟨_,⟨a,b,d,rfl,p,q⟩,hs⟩:=h;rcases p with ⟨h1,h2,h3,rfl⟩|⟨b',off,c,bS,h1,h2,h3,h4,rfl⟩;exact qq ⟨h1,h2,h3,b,q,hs⟩;exact qt ⟨b',off,c,bS,h1,h2,h3,h4,_,⟨_,b,d,rfl,rfl,q⟩,hs⟩
theorem dK.nil {A:AW} {size:Nat} {F:HP} (h:bB A F):bB A (dK size (.slice qh 0 0) 0 []*F):=by
 obtain⟨x,p,hs⟩:=h;exact⟨x,⟨_,x,λ_=>qq rfl,rfl,qq ⟨rfl,rfl,rfl,rfl⟩,p⟩,hs⟩
theorem dK.mk {A:AW} {size n b off c:Nat} {bS cs:List qd} {F:HP} (hc:n<=c) (h1:off+n*size<=bS.length) (h2:cs=(bS.drop off).take (n*size))
 (h:bB A (pt b (.cells bS qg size)*F)):bB A (dK size (.slice (qc ⟨b,off,qh⟩) n c) n cs*F):=
 h.entl λx hx=>qt ⟨b,off,c,bS,rfl,hc,h1,h2,hx⟩
theorem dK.own {A:AW} {size n:Nat} {v:qd} {cs:List qd} {F:HP} (h:bB A (dK size v n cs*F)):dV 0 A size v n cs:=by
 rcases dK.cases h with ⟨rfl,rfl,rfl,_⟩|⟨b,off,c,bS,rfl,h1,h2,h3,h4⟩;exact qq ⟨rfl,rfl,rfl⟩;exact qt ⟨⟨b,off,qh⟩,c,bS,rfl,h1,rfl,Zt _,h4.bk,h2,h3⟩
theorem dK.is {A:AW} {size n:Nat} {v:qd} {cs:List qd} {F:HP} (h:bB A (dK size v n cs*F)):fL A size v n cs:=(dK.own h).is
theorem au.is {A:AW} {k:qw} {v:qd} {l:List Int} {F:HP} (h:bB A (au k v l*F)):bK A k v l:=dK.is h
theorem au.nil {A:AW} {k:qw} {F:HP} (h:bB A F):bB A (au k (.slice qh 0 0) []*F):=dK.nil h
theorem au.mk {A:AW} {k:qw} {b off c n:Nat} {bS:List qd} {l:List Int} {F:HP} (hn:n=l.length) (hc:l.length<=c) (h1:off+l.length<=bS.length) (h2:l.map (Zb k)=(bS.drop off).take l.length)
 (h:bB A (pt b (.cells bS qg 1)*F)):bB A (au k (.slice (qc ⟨b,off,qh⟩) n c) l*F):=by
 subst hn;exact dK.mk hc YC Yu h
theorem dK.jd {A A':AW} {size n:Nat} {v:qd} {cs:List qd} {F:HP} (h:bB A F) (hw:A.Wf) (hl:A.le A') (ho:dV A.next A' size v n cs):bB A' (dK size v n cs*F):=by
 rcases ho with ⟨rfl,rfl,rfl⟩|⟨p,c,bS,rfl,h1,hs,hB,hg,h2,h3⟩;exact dK.nil (h.le hw hl);obtain⟨b,o,s⟩:=p;simp only at hs hB hg h2 h3;subst hs;refine dK.mk h1 h2 h3 (bB.cons hg (h.Vt λi o hi=>?_));have:=hw.lt hi;rw [AW.aZ Ya];exact hl.mS hw hi
theorem au.jd {A A':AW} {k:qw} {v:qd} {l:List Int} {F:HP} (h:bB A F) (hw:A.Wf) (hl:A.le A') (ho:eE A.next A' k v l):bB A' (au k v l*F):=dK.jd h hw hl ho
theorem au.at {A:AW} {k:qw} {v:qd} {l:List Int} {F:HP} (h:bB A (au k v l*F)) {j:Nat} (hj:j<l.length) :
 ∃b off c bS,v=.slice (qc ⟨b,off,qh⟩) l.length c/\l.length<=c/\A.bk b=qc (.cells bS qg 1)/\bS[off+j]? = qc (.int k l[j])/\off+l.length<=bS.length/\
  ∀y,bB (A.set b (qc (.cells (bS.set (off+j) (.int k y)) qg 1))) (au k v (l.set j y)*F):=by
 rcases dK.cases h with ⟨_,h0,_⟩|⟨b,off,c,bS,rfl,h1,h2,h3,h4⟩;omega;rw [ZN] at h2 h3;have hcell:∀q,q<l.length->bS[off+q]? = (l.map (Zb k))[q]?:=λq hq=>by
  rw [h3,Z5 hq,Z7]
 refine⟨b,off,c,bS,rfl,h1,h4.bk,by rw [hcell j hj,ZX,q9 hj];rfl,h2,λy=>?_⟩;have:=dK.mk (size:=1) (n:=l.length) (off:=off) (c:=c) (cs:=(l.set j y).map (Zb k)) h1 Yu ?_ (h4.set (.cells (bS.set (off+j) (.int k y)) qg 1));unfold au
 simpa using this
 rw [ZN];apply kaD;intro q;by_cases hq:q<l.length;rw [Z5 hq,Z7,ZX];by_cases e:j=q;subst e;rw [ZV hj,ZV Ya];rfl;rw [Z6 e,Z6 Ya,hcell q hq,ZX];rw [Zx Yg,Zx Yg]
theorem au.append {P:ql} {A:AW} {t e:qr} {i:qP} {z:qd} {v:qd} {k:qw} {l:List Int} {F:HP} (y:Int)
 (hu:P.underlying t=qc (.slice e)) (hi:P.info? e=qc i) (hz:i.zero=qc z) (iA:i.size=1) (pq:z.cells.size=1)
 (h:bB A (au k v l*F)) (bW:l.length<2 ^ 40) (zZ:i.bytes<=8) (hw:A.Wf) :
 ∃v' A',fI P (A.alloc (.cells [.int k y] qg 1)) t t v (.slice (qc ⟨A.next,0,qh⟩) 1 1)=qc (v',A')/\bB A' (au k v' (l++[y])*F)/\A'.Wf/\A.next<=A'.next:=by
 have jI:gN (A.alloc (.cells [.int k y] qg 1)) 1 (.slice (qc ⟨A.next,0,qh⟩) 1 1)=qc (1,[.int k y]):=by
  simp [gN,AW.bS]
 have hb:(l.length+1)*i.bytes<=140737488355328:=by
  have:=kaL (l.length+1) zZ;omega
 have lF:l.length+1<=140737488355328:=Ya
 have nU:[Zb k y].all Zz=qg:=rfl;have hll:(l++[y]).length=l.length+1:=Yb
 rcases dK.cases h with ⟨rfl,h0,h1,h2⟩|⟨b,off,c,bS,rfl,h1,h2,h3,h4⟩;have:l=[]:=ZP h0;subst this;refine⟨.slice (qc ⟨A.next+1,0,qh⟩) (0+1) (0+1),(A.alloc (.cells [.int k y] qg 1)).alloc (.cells ([]++[.int k y]) qg i.size),?_,?_,(hw.alloc _).alloc _,by simp;omega⟩;simp only [fI,hu,hi,hz,iA,jI,iv];rw [ay ⟨pq,by omega,trivial⟩,aw Ya,ay ⟨lF,hb,nU⟩];simp;have:=(h2.mS hw (.cells [.int k y] qg 1)).alloc (hw.alloc _) (.cells ([]++[.int k y]) qg i.size);rw [iA] at this ⊢;have h9:bB ((A.alloc (.cells [.int k y] qg 1)).alloc (.cells ([]++[.int k y]) qg 1)) (pt (A.next+1) (.cells [.int k y] qg 1)*F):=this;exact dK.mk (size:=1) (n:=1) (off:=0) (c:=1) Yb Yb Yb h9;have hg:=h4.bk;have bY:=hw.lt hg;have RO:(A.alloc (.cells [.int k y] qg 1)).bk b=qc (.cells bS qg 1):=by rw [AW.gl _ _ Ya];exact hg
 refine⟨.slice (qc ⟨A.next+1,0,qh⟩) (l.length+1) (l.length+1),((A.alloc (.cells [.int k y] qg 1)).set b qh).alloc (.cells ((bS.drop off).take (l.length*1)++[.int k y]) qg i.size),?_,?_,
  ((hw.alloc _).set qh Yg).alloc _,by simp;omega⟩
 simp only [fI,hu,hi,hz,iA,jI,iv,RO];rw [ay ⟨pq,by omega,trivial⟩,aw Yb,ay ⟨trivial,h2⟩];simp only;rw [aw Ya,ay ⟨lF,hb,nU⟩];simp;have h5:=((h4.mS hw (.cells [.int k y] qg 1)).PP).alloc ((hw.alloc (.cells [.int k y] qg 1)).set qh Yg) (.cells ((bS.drop off).take (l.length*1)++[.int k y]) qg i.size);rw [iA] at h5 ⊢;unfold au;rw [hll];refine dK.mk (qZ _) ?_ ?_ YW;simp at h2 ⊢;omega;rw [ZN] at h2 h3;simp only [ZN,ZO];rw [<-h3,Z3 Yb];simp
theorem au.LU {P:ql} {A:AW} {t e:qr} {i:qP} {z:qd} {v:qd} {k:qw} {l:List Int} {F:HP} (y:Int) (n:Nat)
 (hu:P.underlying t=qc (.slice e)) (hi:P.info? e=qc i) (hz:i.zero=qc z) (iA:i.size=1) (pq:z.cells.size=1)
 (hn:A.bk n=qc (.cells [.int k y] qg 1)) (h:bB A (au k v l*F)) (bW:l.length<2 ^ 40) (zZ:i.bytes<=8) (hw:A.Wf) :
 ∃v' A',fI P A t t v (.slice (qc ⟨n,0,qh⟩) 1 1)=qc (v',A')/\bB A' (au k v' (l++[y])*F)/\A'.Wf/\A.next<=A'.next:=by
 have jI:gN A 1 (.slice (qc ⟨n,0,qh⟩) 1 1)=qc (1,[.int k y]):=by
  simp [gN,AW.bS,hn]
 have hb:(l.length+1)*i.bytes<=140737488355328:=by
  have:=kaL (l.length+1) zZ;omega
 have lF:l.length+1<=140737488355328:=Ya
 have nU:[Zb k y].all Zz=qg:=rfl;have hll:(l++[y]).length=l.length+1:=Yb
 rcases dK.cases h with ⟨rfl,h0,h1,h2⟩|⟨b,off,c,bS,rfl,h1,h2,h3,h4⟩
 . have:l=[]:=ZP h0;subst this;refine⟨.slice (qc ⟨A.next,0,qh⟩) (0+1) (0+1),A.alloc (.cells ([]++[.int k y]) qg i.size),?_,?_,hw.alloc _,by simp⟩
   . simp only [fI,hu,hi,hz,iA,jI,iv];rw [ay ⟨pq,by omega,trivial⟩,aw Ya,ay ⟨lF,hb,nU⟩]
     try simp
   have:=h2.alloc hw (.cells ([]++[.int k y]) qg i.size);rw [iA] at this ⊢;have h9:bB (A.alloc (.cells [.int k y] qg 1)) (pt A.next (.cells [.int k y] qg 1)*F):=this;exact dK.mk (size:=1) (n:=1) (off:=0) (c:=1) Yb Yb Yb h9
 have hg:=h4.bk;have bY:=hw.lt hg
 refine⟨.slice (qc ⟨A.next,0,qh⟩) (l.length+1) (l.length+1),(A.set b qh).alloc (.cells ((bS.drop off).take (l.length*1)++[.int k y]) qg i.size),?_,?_,
  (hw.set qh bY).alloc _,by simp⟩
 . simp only [fI,hu,hi,hz,iA,jI,iv,hg];rw [ay ⟨pq,by omega,trivial⟩,aw Yb,ay ⟨trivial,h2⟩];simp only;rw [aw Ya,ay ⟨lF,hb,nU⟩]
   try simp
 have h5:=(h4.PP).alloc (hw.set qh bY) (.cells ((bS.drop off).take (l.length*1)++[.int k y]) qg i.size);rw [iA] at h5 ⊢;unfold au;rw [hll];refine dK.mk (qZ _) ?_ ?_ YW;simp at h2 ⊢;omega;rw [ZN] at h2 h3;simp only [ZN,ZO];rw [<-h3,Z3 Yb];simp
theorem bK.atg {A:AW} {k:qw} {o:Option qL} {c n:Nat} {l:List Int} (h:bK A k (.slice o n c) l) {i:Nat} (hi:i<l.length) :
 ∃p bS own,o=qc p/\A.bk p.block=qc (.cells bS own 1)/\bS[p.off+i]? = qc (.int k l[i]):=by
 rcases h.cases with ⟨h1,rfl⟩|⟨p,c,bS,own,h1,_,hg,_,hr⟩;simp at hi;injection h1 with h1 h2 h3;exact⟨p,bS,own,h1,hg,hr i hi⟩
theorem au.VI {P:ql} {A:AW} {t e:qr} {i:qP} {k k1 k2:qw} {F:HP} (n:Nat)
 (hu:P.underlying t=qc (.slice e)) (hi:P.info? e=qc i) (hz:i.zero=qc (.int k 0)) (iA:i.size=1) (zZ:i.bytes<=8) (hn:n<2 ^ 40) (h:bB A F) (hw:A.Wf) :
 ∃v' A',pw P A t (.int k1 (n:Int)) (.int k2 (n:Int))=qc (v',A')/\bB A' (au k v' (qX n 0)*F)/\A'.Wf/\A.le A':=by
 have hb:(n:Int)*i.bytes<=140737488355328:=by
  have:=kaL n zZ;have h2:((n*i.bytes:Nat):Int)<=((n*8:Nat):Int):=by exact_mod_cast this
  have h3:((n*i.bytes:Nat):Int)=(n:Int)*i.bytes:=by push_cast;rfl
  omega
 refine⟨.slice (qc ⟨A.next,0,qh⟩) n n,A.alloc (.cells (fB [.int k 0] n) qg 1),?_,?_,hw.alloc _,AW.le.alloc _ _⟩;simp only [pw,hu,hi,hz,iA];rw [ay ⟨rfl,by omega,rfl,by omega,by omega,by omega,hb⟩];simp [Value.cells];have bW:(fB [Zb k 0] n).length=n:=by simp [kw]
 have hcs:(qX n (0:Int)).map (Zb k)=fB [Zb k 0] n:=by
  clear hb hn bW
  induction n with
  | zero=>rfl
  | succ n ih=>rw [ka0,ZY,ih];rfl
 refine au.mk Yb Yb YE ?_ (h.alloc hw _);rw [hcs,ZO,Z3 YE]
theorem au.appendZ {P:ql} {A:AW} {t u e:qr} {i:qP} {ku:qw} {v:qd} {k kq:qw} {l:List Int} {F:HP} (n:Nat)
 (hu:P.underlying t=qc (.slice e)) (huu:P.underlying u=qc (.int ku)) (hi:P.info? e=qc i) (hz:i.zero=qc (.int k 0)) (iA:i.size=1)
 (h:bB A (au k v l*F)) (bW:l.length+n<2 ^ 40) (zZ:i.bytes<=8) (hw:A.Wf) :
 ∃v' A',rt P A t u v (.int kq (n:Int))=qc (v',A')/\bB A' (au k v' (l++qX n 0)*F)/\A'.Wf:=by
 have hcs:(qX n (0:Int)).map (Zb k)=fB [Zb k 0] n:=by
  clear bW
  induction n with
  | zero=>rfl
  | succ n ih=>rw [ka0,ZY,ih];rfl
 have hzl:(fB [Zb k 0] n).length=n:=by simp [kw]
 have hb:(l.length+n)*i.bytes<=140737488355328:=by
  have:=kaL (l.length+n) zZ;omega
 rcases dK.cases h with ⟨rfl,h0,h1,h2⟩|⟨b,off,c,bS,rfl,h1,h2,h3,h4⟩;have:l=[]:=ZP h0;subst this;by_cases hn:n=0;subst hn;refine⟨.slice qh 0 0,A,?_,by simpa using h,hw⟩;simp only [rt,hu,huu,hi,hz,iA,iv];rw [ay ⟨rfl,by omega,rfl,by omega,by simp,by simp⟩];simp;refine⟨.slice (qc ⟨A.next,0,qh⟩) (0+n) (0+n),A.alloc (.cells ([]++fB [.int k 0] n) qg 1),?_,?_,hw.alloc _⟩;simp only [rt,hu,huu,hi,hz,iA,iv,ZQ];rw [ay ⟨rfl,by omega,rfl,by omega,by simp at bW;omega,by simpa using hb⟩,aw hn];rfl;refine au.mk Yb Yb (by simp [hzl]) ?_ (h2.alloc hw _);rw [ah,ah,hcs,ZO,Z3 (by simp [hzl])];have hg:=h4.bk;have bY:=hw.lt hg;by_cases hn:n=0;subst hn;refine⟨.slice (qc ⟨b,off,qh⟩) l.length c,A,?_,by simpa using h,hw⟩;simp only [rt,hu,huu,hi,hz,iA,iv,hg];rw [aw Yb,ay ⟨trivial,h2⟩];simp only;rw [ay ⟨rfl,by omega,rfl,by omega,by simp at bW ⊢;omega,by simpa using hb⟩]
 simp;refine⟨.slice (qc ⟨A.next,0,qh⟩) (l.length+n) (l.length+n),(A.set b qh).alloc (.cells ((bS.drop off).take (l.length*1)++fB [.int k 0] n) qg 1),?_,?_,(hw.set qh bY).alloc _⟩;simp only [rt,hu,huu,hi,hz,iA,iv,hg,ZQ];rw [aw Yb,ay ⟨trivial,h2⟩];simp only;rw [ay ⟨rfl,by omega,rfl,by omega,by omega,hb⟩,aw hn];rfl;have h5:=h4.PP.alloc (hw.set qh bY) (.cells ((bS.drop off).take (l.length*1)++fB [.int k 0] n) qg 1);rw [ZN] at h2 h3;refine au.mk Yb Yb ?_ ?_ YW;simp [hzl];omega;rw [ZO,<-h3,<-hcs,<-kat,Z3 Yb]
def lZ (f:Nat->HP):Nat->HP
 | 0=>fl
 | n+1=>lZ f n*f n
def uA (f:Nat->HP) (i:Nat) (Q:HP):Nat->HP:=λj=>if j=i then Q else f j
theorem yT {f g:Nat->HP}:∀{n:Nat},(∀i,i<n->f i=g i)->lZ f n=lZ g n
 | 0,_=>rfl
 | n+1,h=>by
   unfold lZ;rw [yT (n:=n) (λi hi=>h i Ya),h n Ya]
theorem Bu (f:Nat->HP) {i:Nat}:∀{n:Nat},i<n->lZ f n=f i*lZ (uA f i fl) n
 | 0,h=>by omega
 | n+1,h=>by
   unfold lZ;by_cases e:i=n;subst e;rw [yT (f:=uA f i fl) (g:=f) (n:=i) (λj hj=>by simp [uA];omega)];simp only [uA,if_true,dH];exact HP.mul_comm _ _;have wZ:i<n:=Ya;rw [Bu f wZ];have:uA f i fl n=f n:=by simp [uA];omega
   rw [this,HP.de]
theorem TX (f:Nat->HP) {i n:Nat} (hi:i<n) (Q:HP):lZ (uA f i Q) n=Q*lZ (uA f i fl) n:=by
 rw [Bu _ hi];congr 1;simp [uA];refine yT λj _=>?_;simp only [uA];split<;>rfl
theorem bB.pick {A:AW} {f:Nat->HP} {n i:Nat} {F:HP} (h:bB A (lZ f n*F)) (hi:i<n):bB A (f i*(lZ (uA f i fl) n*F)):=by
 rw [Bu f hi,HP.de] at h;exact h
theorem bB.put {A:AW} {f:Nat->HP} {n i:Nat} {Q F:HP} (h:bB A (Q*(lZ (uA f i fl) n*F))) (hi:i<n):bB A (lZ (uA f i Q) n*F):=by
 rw [TX f hi,HP.de];exact h
end Go.Stx
namespace Go.Stx
open Go
variable [Gl]
def mU (es:List (Int×qd)) (a:Int):Option qd:=(es.find? λe=>e.1 == a).map (·.2)
def tV (k:qw) (es:List (Int×qd)):List (qd×qd):=es.map λe=>(.int k e.1,e.2)
def il (k:qw) (r:Nat) (f:Int->Option qd):HP:=td λes:List (Int×qd)=>BH ((es.map (·.1)).Nodup/\∀a,mU es a=f a)*pt r (.map (tV k es) qg)
theorem Ck {k0 k:qw} {a:Int}:∀(es:List (Int×qd)),(∀e∈es,¬a=e.1)->rg (.int k0) (.int k a) (tV k es)=qg
 | [],_=>rfl
 | e::es,h=>by
   have he:(a == e.1)=qk:=by simpa using h e Yb
   unfold tV rg;simp only [ZY,D7,he];exact Ck es λx hx=>h x YB
theorem sr {k0 k:qw} {a:Int}:∀(es:List (Int×qd)) (i:Nat),(es.map (·.1)).Nodup->∃q,fw (.int k0) (.int k a) (tV k es) i=qc q/\q.map (·.2)=mU es a/\
 ∀j v,q=qc (j,v)->∃j',j=i+j'/\j'<es.length/\(∀v',(es.set j' (a,v')).map (·.1)=es.map (·.1))/\∀v' b,mU (es.set j' (a,v')) b=if b=a then qc v' else mU es b
 | [],i,_=>⟨qh,rfl,rfl,λj v h=>by cases h⟩
 | e::es,i,hn=>by
   simp only [ZY,List.nodup_cons] at hn;unfold tV fw;simp only [ZY,D7];by_cases h:a=e.1;subst h;have hns:rg (.int k0) (.int k e.1) (tV k es)=qg:=Ck es λx hx h=>hn.1 (by rw [h];exact List.mem_map_of_mem hx);unfold tV at hns;refine⟨qc (i,e.2),by simp [hns],by simp [mU],?_⟩;intro j v hj;injection hj with hj;injection hj with h1 h2;subst h1;refine⟨0,rfl,by simp,λv'=>by simp,λv' b=>?_⟩;simp only [List.set_cons_zero,mU,List.find?_cons];by_cases hb:e.1=b;subst hb;simp;have yz:(e.1 == b)=qk:=by simpa using hb
   simp [yz,Zm hb];have gZ:(a == e.1)=qk:=by simpa using h
   rw [gZ];obtain⟨q,h1,h2,h3⟩:=sr (k0:=k0) (k:=k) (a:=a) es (i+1) hn.2;refine⟨q,h1,?_,?_⟩;rw [h2];have:¬e.1=a:=λx=>h x.symm;simp [mU,this];intro j v hj;obtain⟨j',g1,g2,g0,g3⟩:=h3 j v hj;refine⟨j'+1,by omega,by simpa using g2,λv'=>by simpa using g0 v',λv' b=>?_⟩;have:=g3 v' b;simp only [List.set_cons_succ,mU,List.find?_cons] at this ⊢;by_cases hb:e.1=b;subst hb;have:¬e.1=a:=λx=>h x.symm;simp [this];have yz:(e.1 == b)=qk:=by simpa using hb
   rw [yz]
   simpa using this
theorem I3 {es:List (Int×qd)} {a:Int} {v:qd} (h:mU es a=qh) (b:Int):mU (es++[(a,v)]) b=if b=a then qc v else mU es b:=by
 simp only [mU,List.find?_append,Option.map_eq_none_iff] at h ⊢;by_cases hb:b=a;subst hb;simp [h];have:¬a=b:=λx=>hb x.symm;simp [hb,this]
theorem il.bk {A:AW} {k:qw} {r:Nat} {f:Int->Option qd} {F:HP} (h:bB A (il k r f*F)) :
 ∃es,A.bk r=qc (.map (tV k es) qg)/\((es.map (·.1)).Nodup/\∀a,mU es a=f a)/\bB A (pt r (.map (tV k es) qg)*F):=by
 unfold il at h;rw [bB.ex] at h;obtain⟨es,h⟩:=h;rw [HP.de,bB.pr] at h;exact⟨es,h.2.bk,h.1,h.2⟩
theorem il.eX {A:AW} {k:qw} {r:Nat} {f:Int->Option qd} {F:HP} (h:bB A (il k r f*F)) :
 ∃tI,A.bk r=qc (.map tI qg)/\(∀k0 a v,f a=qc v->∃q,fw (.int k0) (.int k a) tI 0=qc (qc (q,v)))/\(∀k0 a,f a=qh->fw (.int k0) (.int k a) tI 0=qc qh)/\
  bB A (pt r (.map tI qg)*F)/\∀{A':AW} {F':HP},bB A' (pt r (.map tI qg)*F')->bB A' (il k r f*F'):=by
 obtain⟨es,hg,⟨hn,hf⟩,hS⟩:=il.bk h;refine⟨_,hg,λk0 a v hv=>?_,λk0 a hv=>?_,hS,λ{A' F'} h'=>?_⟩
 . obtain⟨q,h1,h2,_⟩:=sr (k0:=k0) (k:=k) (a:=a) es 0 hn;rw [hf,hv] at h2;cases q with
   | none=>cases h2
   | some q=>obtain⟨j,u⟩:=q;injection h2 with h2;simp only at h2;subst h2;exact⟨j,h1⟩
 . obtain⟨q,h1,h2,_⟩:=sr (k0:=k0) (k:=k) (a:=a) es 0 hn;rw [hf,hv] at h2;cases q with
   | none=>exact h1
   | some q=>cases h2
 unfold il;rw [bB.ex];refine⟨es,?_⟩;rw [HP.de,bB.pr];exact⟨⟨hn,hf⟩,h'⟩
theorem il.mR {A:AW} {k:qw} {F:HP} (h:bB A F) (hw:A.Wf):bB (A.alloc (.map [] qg)) (il k A.next (λ_=>qh)*F):=by
 unfold il;rw [bB.ex];refine⟨[],?_⟩;rw [HP.de,bB.pr];exact⟨⟨List.nodup_nil,λa=>rfl⟩,h.alloc hw _⟩
def oc (f:Int->Option qd) (a:Int) (v:qd):Int->Option qd:=λb=>if b=a then qc v else f b
theorem il.xX {P:ql} {A:AW} {t kt e:qr} {k0 k:qw} {r:Nat} {f:Int->Option qd} {F:HP} (h:bB A (il k r f*F)) (ht:P.underlying t=qc (.map kt e)) (hk:P.underlying kt=qc (.int k0)) (a:Int) (v:qd) :
 ∃A',gS P A t (.map (qc r)) (.int k a) v=qc A'/\bB A' (il k r (oc f a v)*F)/\(A.Wf->A'.Wf)/\A'.next=A.next/\∀j,j≠r->A'.bk j=A.bk j:=by
 obtain⟨es,hg,⟨hn,hf⟩,hS⟩:=il.bk h;obtain⟨q,h1,h2,h3⟩:=sr (k0:=k0) (k:=k) (a:=a) es 0 hn;have bX:∀Bp:List (Int×qd),(Bp.map (·.1)).Nodup->(∀b,mU Bp b=oc f a v b)->bB (A.set r (qc (.map (tV k Bp) qg))) (il k r (oc f a v)*F):=λBp hn' he=>by
  unfold il;rw [bB.ex];refine⟨Bp,?_⟩;rw [HP.de,bB.pr];exact⟨⟨hn',he⟩,hS.set _⟩
 cases q with
 | none=>
   refine⟨A.set r (qc (.map (tV k (es++[(a,v)])) qg)),?_,bX _ ?_ λb=>?_,λhw=>hw.set _ (hw.lt hg),rfl,λj hj=>AW.aZ hj⟩;simp only [gS,ht,hk,hg,nN,if_true,h1];simp [tV];rw [kat,List.nodup_append];refine⟨hn,by simp,λx hx y hy e=>?_⟩;simp only [ZY,List.map_nil,List.mem_singleton] at hy;subst hy;subst e;have h2':mU es x=qh:=(by rw [<-h2];rfl);simp only [mU,Option.map_eq_none_iff,List.find?_eq_none] at h2';obtain⟨q,hq,rfl⟩:=List.mem_map.1 hx;have:=h2' q hq;simp at this;rw [I3 (by rw [<-h2];rfl)];simp only [oc,hf]
 | some q=>
   obtain⟨j,u⟩:=q;obtain⟨j',g1,g2,g0,g3⟩:=h3 j u rfl;refine⟨A.set r (qc (.map (tV k (es.set j' (a,v))) qg)),?_,bX _ (by rw [g0];exact hn) λb=>?_,λhw=>hw.set _ (hw.lt hg),rfl,λj hj=>AW.aZ hj⟩;simp only [gS,ht,hk,hg,nN,if_true,h1];have:j=j':=Ya
   subst this;simp [tV,List.map_set];rw [g3];simp only [oc,hf]
end Go.Stx
namespace Go.Stx
open Go
variable [Gl]
theorem CQ {r r':qy->qd} {ps:Array (Nat×qy)} (h:∀x∈(ps.toList.map (·.2)).toArray,r x=r' x):uR r ps=uR r' ps:=by
 unfold uR;refine List.map_congr_left λx hx=>?_;rw [h x.2 (by simpa using ⟨x.1,by simpa using hx⟩)]
theorem AY {r r':qy->qd} {x:Option qy} (h:∀y∈x.toArray,r y=r' y):x.map r=x.map r':=by
 cases x with
 | none=>rfl
 | some y=>simp [h y Yb]
theorem HH {r r':qy->qd} {x:Array qy} (h:∀y∈x,r y=r' y):x.map r=x.map r':=Array.map_congr_left h
theorem HC {P:ql} {A:AW} {r r':qy->qd} {op:Op} (h:∀x∈op.operands,r x=r' x):aq P A r op=aq P A r' op:=by
 cases op<;>simp only [aq,kaW] at h ⊢
 case move x=>rw [h x Yb]
 case assign x=>rw [h x Yb]
 case pick c x y=>rw [h c Yb,h x Yb,h y Yb]
 case build t ps=>rw [CQ h]
 case load t x=>rw [h x Yb]
 case nilCheck x=>rw [h x Yb]
 case binOp op t x y u=>rw [h x Yb,h y Yb]
 case unOp op t x=>rw [h x Yb]
 case convert s d x=>rw [h x Yb]
 case makeInterface t x=>rw [h x Yb]
 case slice t x lo hi mx=>
  have e1:r x=r' x:=h x Yb;have e2:lo.map r=lo.map r':=AY λy hy=>h y YP;have e3:hi.map r=hi.map r':=AY λy hy=>h y YP;cases mx with
  | none=>simp only [e1,e2,e3]
  | some q=>simp only [e1,e2,e3,h q Yb]
 case lookup t x ix c=>rw [h x Yb,h ix Yb]
 case fieldAddr s x f=>rw [h x Yb]
 case field t x f=>rw [h x Yb]
 case indexAddr t x ix=>rw [h x Yb,h ix Yb]
 case index t x ix=>rw [h x Yb,h ix Yb]
 case extract t i=>rw [h t Yb]
 case makeFunc fn fs cs=>
  rw [HH (r:=r) (r':=r') (x:=fs) λy hy=>h y YP,HH (r:=r) (r':=r') (x:=cs) λy hy=>h y YP]
 case call c=>
  have hk:∀x∈c.args.toList,r x=r' x:=λx hx=>h x Xq;clear h;generalize c.args.toList=l at hk ⊢;generalize c.argTypes.toList=ts;generalize c.callee=ce;split<;>simp_all
theorem aaj {P:ql} {A:AW} {r r':qy->qd} {op:Op} (h:∀x∈op.operands,r x=r' x):ae P A r op=ae P A r' op:=by
 cases op<;>simp only [ae,kaW] at h ⊢
 case box t x=>rw [h x Yb]
 case buildSlice t n ps=>rw [CQ h]
 case store t x y=>rw [h x Yb,h y Yb]
 case makeSlice t l c=>rw [h l Yb,h c Yb]
 case makeMap t x=>rw [AY h]
 case mapUpdate t x k v=>rw [h x Yb,h k Yb,h v Yb]
 case insert t x k v=>rw [h x Yb,h k Yb,h v Yb]
 case call c=>
  have hk:∀x∈c.args.toList,r x=r' x:=λx hx=>h x Xq;clear h;generalize c.args.toList=l at hk ⊢;generalize c.argTypes.toList=ts;generalize c.callee=ce;split<;>simp_all
theorem Mk {P:ql} {A:AW} {r r':qy->qd} {op:Op} {k:qd->AW->Prop} (h:∀x∈op.operands,r x=r' x):BC P op r A k=BC P op r' A k:=by
 cases op<;>try rfl
 case call c=>
  obtain⟨callee,args,ts⟩:=c;cases callee with
  | value x=>
    have hx:r x=r' x:=h x Yv;have ha:args.toList.map r=args.toList.map r':=List.map_congr_left λy hy=>h y (by simp only [kaW,Call.operands,Array.mem_append];exact qt (kah.1 hy));simp only [BC,hx,ha]
  | invoke _ _=>rfl
  | builtin _=>rfl
theorem OL {P:ql} {A:AW} {r r':qy->qd} {op:Op} {k:qd->AW->Prop} (h:∀x∈op.operands,r x=r' x):jL P op r A k=jL P op r' A k:=by
 unfold jL;rw [HC h,aaj h,Mk h]
theorem F2 {A A':AW} (hk:∀i o,A.bk i=qc o->A'.bk i=qc o) {i:Nat} {cs:List qd} (h:A.bS i=qc cs):A'.bS i=qc cs:=by
 unfold AW.bS at *;split at h;rename_i hg;rw [hk _ _ hg];exact h;cases h
theorem QT {P:ql} {A A':AW} (hk:∀i o,A.bk i=qc o->A'.bk i=qc o) {t:qr} {p:qL} {v:qd} (h:ir P A t p=qc v):ir P A' t p=qc v:=by
 unfold ir at *;split at h;rename_i h1 h2;rw [F2 hk h1,h2];exact h;rename_i h1 h2;rw [F2 hk h1,h2];exact h;cases h
theorem aq_keep {P:ql} {A A':AW} (hk:∀i o,A.bk i=qc o->A'.bk i=qc o) {r:qy->qd} {op:Op} {v:qd} (h:aq P A r op=qc v):aq P A' r op=qc v:=by
 cases op<;>simp only [aq] at h ⊢<;>try exact h
 case convert s d x=>
  split at h;exact h;unfold L8 at h ⊢;split at h;rename_i h1 h2 h3;split at h;rename_i h4 h5;rw [h4,F2 hk h5];exact h;cases h;cases h
 case load t x=>
  split at h;rename_i p hp;exact QT hk h;cases h
 case slice t x lo hi mx=>
  cases mx with
  | some q=>exact h
  | none=>
    simp only at h ⊢;unfold Bx at *;split at h;rename_i hu _ _;split at h;rename_i e1;split at h;rename_i e2;split at h;rename_i e3;exact h;rename_i e3;split at h;rename_i q hq;have key:∀{e:qr} {p:qL} {l:Nat},fC P A e p l=qc q->fC P A' e p l=qc q:=by
     intro e p l hq;unfold fC at hq ⊢;split at hq;rename_i hl;rw [ay hl];exact hq;rename_i hl;rw [aw hl];split at hq;rename_i g1 g2;rw [g1,hk _ _ g2];exact hq;cases hq
    rw [key hq];exact h;cases h;cases h;cases h;cases h;exact h;cases h
 case lookup t x ix c=>
  unfold CT at h ⊢;split at h<;>try(cases h;done)
  split at h<;>try(cases h;done)
  split at h<;>try(cases h;done)
  rename_i xz;split at h<;>try(cases h;done)
  simp_all;split at h<;>try(cases h;done)
  rename_i hg;have RO:=hk _ _ hg;simp_all
def zE:Op->Bool
 | .move _ | .assign _ | .pick _ _ _ | .build _ _ | .nilCheck _ | .binOp _ _ _ _ _ | .unOp _ _ _ | .makeInterface _ _ | .fieldAddr _ _ _ | .field _ _ _ | .indexAddr _ _ _ | .index _ _ _ | .extract _ _ | .makeFunc _ _ _=>qg
 | .call c=>match c.callee with
   | qB .len | qB .min | qB .max=>qg
   | _=>qk
 | _=>qk
def quietOp:Op->Bool
 | .load _ _ | .slice _ _ _ _ _ | .lookup _ _ _ _ | .convert _ _ _=>qg
 | op=>zE op
theorem QR {P:ql} {A A':AW} {r:qy->qd} {op:Op} (hm:zE op=qg):aq P A' r op=aq P A r op:=by
 cases op<;>first|rfl|(simp [zE] at hm;done)
end Go.Stx
namespace Go.Stx
open Go
variable [Gl]
section
variable {P:ql} {bQ:Array qx} {S:AW->Prop} {md:Nat->Nat} {K:Fr->AW->Prop} {tw:List Nat}
def xL (P:ql) (bQ:Array qx) (S:AW->Prop) (md:Nat->Nat) (i:Nat) (o:qx) (a:Fr) (A:AW) (k:Fr->AW->Prop):Prop:=
 if oJ bQ a o=qg then
  if md i<=1 then ∃v,aq P A (jt a) o.op=qc v/\k (fk a o.dst v) A
  else jL P o.op (jt a) A λv A'=>(if md i=2 then A.le A' else (md i=3->S A'))/\k (fk a o.dst v) A'
 else k (fk a o.dst qz) A
def Ub (L:Nat->Bool) (i:Nat) (o:qx):Prop:=L i=qk/\∀e∈o.after,ZJ .any e=qg->L e.on=qg
def dg (L:Nat->Bool) (i:Nat):Nat->Bool:=λj=>if j=i then qg else L j
def BD (P:ql) (bQ:Array qx) (S:AW->Prop) (md:Nat->Nat) (K:Fr->AW->Prop):Nat->(Nat->Bool)->Fr->AW->Prop
 | 0,L,a,A=>(∀i,i<bQ.size->L i=qg)/\K a A
 | n+1,L,a,A=>((∀i,i<bQ.size->L i=qg)->K a A)/\(A.Wf->∀i o,bQ[i]? = qc o->Ub L i o->xL P bQ S md i o a A (BD P bQ S md K n (dg L i)))
theorem xL.mono {i:Nat} {o:qx} {a:Fr} {A:AW} {k k':Fr->AW->Prop} (h:xL P bQ S md i o a A k)
 (hk:∀v A',(md i<=1->A'=A)->(md i=2->A.le A')->(md i=3->oJ bQ a o=qg->S A')->(oJ bQ a o=qk->A'=A)->k (fk a o.dst v) A'->k' (fk a o.dst v) A'):xL P bQ S md i o a A k':=by
 unfold xL at *;split;rename_i hg;rw [ay hg] at h;split;rename_i hm;rw [ay hm] at h;obtain⟨v,h1,h2⟩:=h;exact⟨v,h1,hk v A (λ_=>rfl) (λe=>by omega) (λe=>by omega) (λ_=>rfl) h2⟩;rename_i hm;rw [aw hm] at h;refine h.mono λv A' ⟨h1,h2⟩=>⟨h1,hk v A' (λe=>by omega) (λe=>?_) (λe _=>?_) (λe=>?_) h2⟩;rwa [ay e] at h1;rw [aw Ya] at h1;exact h1 e;rw [e] at hg;cases hg;rename_i hg;rw [aw hg] at h;have RO:oJ bQ a o=qk:=by simpa using hg
 exact hk qz A (λ_=>rfl) (λ_=>AW.le.refl A) (λ_ e=>by rw [e] at RO;cases RO) (λ_=>rfl) h
theorem xL.aop1 {i:Nat} {o:qx} {a:Fr} {A:AW} {k:Fr->AW->Prop} (h:xL P bQ S md i o a A k):Uh P bQ o a A k:=by
 unfold xL at h;unfold Uh;split;rename_i hg;rw [ay hg] at h;split at h;obtain⟨v,h1,h2⟩:=h;simp only [jL,h1];exact h2;exact h.mono λv A' hh=>hh.2;rename_i hg;rw [aw hg] at h;exact h
theorem Eu {n:Nat} {Q:Exit->Fr->AW->Prop} {a:Fr} {A:AW} {id:Nat} (hm:P.follows qF=qg) (xD:ma bQ=qg) {k:Nat}
 (h:BD P bQ S md (Q qG) k (λ_=>qk) a A):cM P n (qR id bQ qg) Q a A:=by
 refine R9 hm xD (λL a A=>∃k,BD P bQ S md (Q qG) k L a A) ⟨k,h⟩ ?_ ?_
 . rintro L a A i o hw ⟨k,hk⟩ ho hL kH;cases k with
   | zero=>
     have:=hk.1 i (Zf.1 ho).1;rw [hL] at this;cases this
   | succ k=>
     have:=(hk.2 hw i o ho ⟨hL,kH⟩).aop1;unfold Uh at this ⊢;split;rename_i hg;rw [ay hg] at this;exact this.mono λv A' hh=>⟨k,hh⟩;rename_i hg;rw [aw hg] at this;exact⟨k,this⟩
 rintro L a A _ ⟨k,hk⟩ kU;cases k with
 | zero=>exact hk.2
 | succ k=>exact hk.1 kU
theorem evF_put {a:Fr} {d:Option Tmp} {v:qd} {x:qy} (h:∀t,d=qc t->x≠.tmp t):jt (fk a d v) x=jt a x:=by
 cases d with
 | none=>rfl
 | some t=>
   cases x with
   | tmp q=>
     have:q≠t:=λe=>h t rfl (by rw [e]);simp [fk,lQ,this]
   | _=>rfl
theorem N2 {a:Fr} {d:Option Tmp} {v:qd} {o:qx} (h:∀t,d=qc t->t∉o.looksAt bQ):oJ bQ (fk a d v) o=oJ bQ a o:=by
 unfold oJ;cases hg:o.guard with
 | none=>rfl
 | some g=>
   obtain⟨j,w⟩:=g;simp only;cases hj:(bQ[j]?).bind (·.dst) with
   | none=>rfl
   | some q=>
     simp only;have gZ:∀t,d=qc t->q≠t:=λt ht e=>h t ht (by simp [Oper.looksAt,hg,hj,e]);have:fk a d v q=a q:=by
      cases d with
      | none=>rfl
      | some t=>simp [fk,lQ,gZ t rfl]
     rw [this]
theorem wE {a:Fr} {d:Option Tmp} {v:qd} {o:qx} (h:∀t,d=qc t->t∉o.looksAt bQ):∀x∈o.op.operands,jt (fk a d v) x=jt a x:=by
 intro x hx;refine evF_put λt ht e=>h t ht ?_;subst e;simp only [Oper.looksAt,List.mem_append,List.mem_filterMap];exact qq ⟨.tmp t,kah.2 hx,rfl⟩
theorem Do {a:Fr} {d e:Option Tmp} {v u:qd} (h:∀t,d=qc t->e≠qc t):fk (fk a d v) e u=fk (fk a e u) d v:=by
 cases d with
 | none=>rfl
 | some t=>
   cases e with
   | none=>rfl
   | some q=>
     have:t≠q:=λx=>h t rfl (by rw [x]);funext j;simp only [fk,lQ];by_cases h1:j=q;subst h1;have:¬j=t:=λx=>this x.symm;simp [this];simp [h1]
theorem xL.unput {j:Nat} {oi oj:qx} {a:Fr} {A:AW} {v:qd} {k:Fr->AW->Prop} (hap:oi.apart bQ oj=qg) (h:xL P bQ S md j oj (fk a oi.dst v) A k) :
 xL P bQ S md j oj a A λa' A'=>k (fk a' oi.dst v) A':=by
 obtain⟨h1,h2,h3⟩:=Oper.apart_spec hap;unfold xL at *;rw [N2 h1] at h;split;rename_i hg;rw [ay hg] at h;split;rename_i hm;rw [ay hm,HC (wE h1)] at h;obtain⟨u,h4,h5⟩:=h;exact⟨u,h4,by show k (fk (fk a oj.dst u) oi.dst v) A;rw [<-Do h2];exact h5⟩;rename_i hm;rw [aw hm,OL (wE h1)] at h;refine h.mono λu A' ⟨h4,h5⟩=>⟨h4,by show k (fk (fk a oj.dst u) oi.dst v) A';rw [<-Do h2];exact h5⟩;rename_i hg;rw [aw hg] at h;rw [<-Do h2];exact h
def pJ (bQ:Array qx) (L:Nat->Bool):Prop:=∀k o,bQ[k]? = qc o->L k=qg->∀e∈o.after,ZJ .any e=qg->L e.on=qg
def ancF (tw:List Nat) (m:Nat) (e:Edge):Nat:=if ZJ .any e=qg then (m ||| tw.getD e.on 0) ||| 2 ^ e.on else m
def ancL:List qx->List Nat->List Nat
 | [],lU=>lU
 | o::r,lU=>ancL r (lU++[o.after.toList.foldl (ancF lU) 0])
def EA (bQ:Array qx) (tw:List Nat):Bool:=(Zp bQ.size).all λi=>match bQ[i]? with|some o=>tw.getD i 0 == o.after.toList.foldl (ancF tw) 0|none=>qk
theorem Oy {tw:List Nat} {q:Nat}:∀(l:List Edge) (m:Nat),(l.foldl (ancF tw) m).testBit q=qg->m.testBit q=qg\/∃e∈l,ZJ .any e=qg/\((tw.getD e.on 0).testBit q=qg\/e.on=q)
 | [],m,h=>qq h
 | e::l,m,h=>by
   rw [List.foldl_cons] at h;rcases Oy l _ h with h1|⟨e',h1,h2⟩;unfold ancF at h1;split at h1;rename_i hb;rw [kbF,kbF,kal,kal] at h1;rcases h1 with (h1|h1)|h1;exact qq h1;exact qt ⟨e,by simp,hb,qq h1⟩;rw [kbW] at h1;exact qt ⟨e,by simp,hb,qt YC⟩;exact qq h1;exact qt ⟨e',by simp [h1],h2⟩
theorem Ox (ha:EA bQ tw=qg) {i q:Nat} {o:qx} (ho:bQ[i]? = qc o) (h:(tw.getD i 0).testBit q=qg) :
 ∃e∈o.after,ZJ .any e=qg/\((tw.getD e.on 0).testBit q=qg\/e.on=q):=by
 have:=Zr.1 ha i (Zn.2 (Zf.1 ho).1);rw [ho] at this;simp only [beq_iff_eq] at this;rw [this] at h;rcases Oy _ _ h with h1|⟨e,h1,h2⟩;simp at h1;exact⟨e,kah.1 h1,h2⟩
theorem Hq (xD:ma bQ=qg) (ha:EA bQ tw=qg) {L:Nat->Bool} (hc:pJ bQ L) {q:Nat}:∀n k o,k<n->bQ[k]? = qc o->L k=qg->(tw.getD k 0).testBit q=qg->L q=qg
 | 0,k,o,h,_,_,_=>by omega
 | n+1,k,o,hk,ho,hL,hb=>by
   obtain⟨e,he,IV,h1⟩:=Ox ha ho hb;have hLe:=hc k o ho hL e he IV;rcases h1 with h1|h1;have bY:=nH xD ho he IV;have hks:=(Zf.1 ho).1;exact Hq xD ha hc n e.on bQ[e.on] Ya (ZL Ya) hLe h1;rw [<-h1];exact hLe
theorem Jx (xD:ma bQ=qg) (ha:EA bQ tw=qg) {L:Nat->Bool} (hc:pJ bQ L) {j q:Nat} {o:qx} (ho:bQ[j]? = qc o) (hr:Ub L j o) (hb:(tw.getD j 0).testBit q=qg):L q=qg:=by
 obtain⟨e,he,IV,h1⟩:=Ox ha ho hb;have hLe:=hr.2 e he IV;rcases h1 with h1|h1;have bY:=nH xD ho he IV;have hks:=(Zf.1 ho).1;exact Hq xD ha hc _ e.on bQ[e.on] (Nat.lt_succ_self _) (ZL Ya) hLe h1;rw [<-h1];exact hLe
theorem pJ.set {L:Nat->Bool} (hc:pJ bQ L) {i:Nat} {o:qx} (ho:bQ[i]? = qc o) (hr:Ub L i o):pJ bQ (dg L i):=by
 intro k o' ho' hk e he hb;unfold dg at hk ⊢;split;rfl;split at hk;rename_i e';subst e';rw [ho] at ho';injection ho' with ho';subst ho';exact hr.2 e he hb;exact hc k o' ho' hk e he hb
theorem Ub.mono {L:Nat->Bool} {i j:Nat} {o:qx} (h:Ub L i o) (gZ:i≠j):Ub (dg L j) i o:=by
 refine⟨by simp [dg,gZ,h.1],λe he hb=>?_⟩;unfold dg;split;rfl;exact h.2 e he hb
theorem SI (L:Nat->Bool) (i j:Nat):dg (dg L i) j=dg (dg L j) i:=by
 funext k;simp only [dg];split<;>split<;>rfl
theorem HQ (xD:ma bQ=qg) (ha:EA bQ tw=qg) {i:Nat} {o:qx} {v:qd} (hi:bQ[i]? = qc o) (hmd:md i<=1):∀(n:Nat) (L:Nat->Bool) (a:Fr) (A:AW),pJ bQ L->
 (∀j oj,bQ[j]? = qc oj->j≠i->L j=qk->(∀e∈oj.after,ZJ .any e=qg->e.on≠i)->o.apart bQ oj=qg)->
 (zE o.op=qg\/(∀j oj,bQ[j]? = qc oj->j≠i->3<=md j->L j=qk->(tw.getD j 0).testBit i=qg)\/((∀j oj,bQ[j]? = qc oj->j≠i->4<=md j->L j=qk->(tw.getD j 0).testBit i=qg)/\∀A',S A'->oJ bQ a o=qg->aq P A' (jt a) o.op=qc v))->
 Ub L i o->((oJ bQ a o=qg/\aq P A (jt a) o.op=qc v)\/(oJ bQ a o=qk/\v=qz))->
 BD P bQ S md K n (dg L i) (fk a o.dst v) A->BD P bQ S md K (n+1) L a A:=by
 intro n
 induction n with
 | zero=>
   intro L a A hc GY dw hr hy H;refine⟨λkU=>?_,λhw j oj hj Mr=>?_⟩;have:=kU i (Zf.1 hi).1;rw [hr.1] at this;cases this;by_cases lf:j=i;subst lf;rw [hi] at hj;injection hj with hj;subst hj;unfold xL;rcases hy with ⟨h1,h2⟩|⟨h1,rfl⟩;rw [ay h1,ay hmd];exact⟨v,h2,H⟩;rw [aw (by simp [h1])];exact H;have:=H.1 j (Zf.1 hj).1;simp [dg,lf,Mr.1] at this
 | succ n ih=>
   intro L a A hc GY dw hr hy H;refine⟨λkU=>?_,λhw j oj hj Mr=>?_⟩;have:=kU i (Zf.1 hi).1;rw [hr.1] at this;cases this;by_cases lf:j=i;subst lf;rw [hi] at hj;injection hj with hj;subst hj;unfold xL;rcases hy with ⟨h1,h2⟩|⟨h1,rfl⟩;rw [ay h1,ay hmd];exact⟨v,h2,H⟩;rw [aw (by simp [h1])];exact H;have hnot:∀e∈oj.after,ZJ .any e=qg->e.on≠i:=λe he hb heq=>by
    have:=Mr.2 e he hb;rw [heq,hr.1] at this;cases this
   have hap:=GY j oj hj lf Mr.1 hnot;obtain⟨g1,g2,g3⟩:=Oper.apart_spec hap;have h1:=H.2 hw j oj hj (Mr.mono lf);refine(xL.unput hap h1).mono λu A' m1 m2 m3 m4 hk=>?_;have H1:oJ bQ (fk a oj.dst u) o=oJ bQ a o:=N2 g3;have nq:∀A0,aq P A0 (jt (fk a oj.dst u)) o.op=aq P A0 (jt a) o.op:=λA0=>HC (wE g3);have lh:=hc.set hj Mr;refine ih (dg L j) (fk a oj.dst u) A' lh ?_ ?_ (hr.mono (Zm lf)) ?_ (by rw [SI];exact hk);intro q oq hq hqi RU zW;refine GY q oq hq hqi ?_ zW;unfold dg at RU;split at RU;cases RU;exact RU;rcases dw with h|h|h;exact qq h;refine qt (qq λq oq hq hqi h3 RU=>h q oq hq hqi h3 ?_);unfold dg at RU;split at RU;cases RU;exact RU;refine qt (qt ⟨λq oq hq hqi h3 RU=>h.1 q oq hq hqi h3 ?_,λA'' hS hg=>by rw [nq];exact h.2 A'' hS (by rw [<-H1];exact hg)⟩);unfold dg at RU;split at RU;cases RU;exact RU;rw [H1,nq];rcases hy with ⟨h2,h3⟩|h2
   . refine qq ⟨h2,?_⟩;rcases Z4 (md j) 2 with H0|H0;rw [m1 Ya];exact h3;rcases Z4 (md j) 3 with Ms|Ms;have fA:=m2 Ya;exact aq_keep (λi o hi=>fA.mS hw hi) h3;rcases dw with h|h|h;rw [QR h];exact h3;exfalso;have:=Jx xD ha hc hj Mr (h j oj hj lf Ms Mr.1);rw [hr.1] at this;cases this;cases hgj:oJ bQ a oj with
     | true=>
       rcases Z4 (md j) 4 with hj3|hj3;exact h.2 A' (m3 Ya hgj) h2;exfalso;have:=Jx xD ha hc hj Mr (h.1 j oj hj lf hj3 Mr.1);rw [hr.1] at this;cases this
     | false=>rw [m4 hgj];exact h3
   exact qt h2
structure BB where
 dst:Option Tmp
 op:Op
 guard:Option (Option Tmp×Bool)
 mode:Nat
def lop (bQ:Array qx) (x:Nat×Nat):Option BB:=(bQ[x.1]?).map λo=>⟨o.dst,o.op,mJ bQ o.guard,x.2⟩
def cU (bQ:Array qx) (tB:List (Nat×Nat)):List BB:=tB.filterMap (lop bQ)
def Ug (P:ql) (A:AW) (r:qy->qd) (op:Op) (k:qd->Prop):Prop:=
 match aq P A r op with
 | some v=>k v
 | none=>False
def aV (P:ql) (S:AW->Prop) (K:Fr->AW->Prop):List BB->Fr->AW->Prop
 | [],a,A=>K a A
 | o::fE,a,A=>
   if sg a o.guard=qg then
    match o.mode with
    | 0=>Ug P A (jt a) o.op λv=>aV P S K fE (fk a o.dst v) A
    | 1=>Ug P A (jt a) o.op λv=>(∀A',S A'->aq P A' (jt a) o.op=qc v)/\aV P S K fE (fk a o.dst v) A
    | 2=>jL P o.op (jt a) A λv A'=>A.le A'/\aV P S K fE (fk a o.dst v) A'
    | 3=>jL P o.op (jt a) A λv A'=>S A'/\aV P S K fE (fk a o.dst v) A'
    | _=>jL P o.op (jt a) A λv A'=>aV P S K fE (fk a o.dst v) A'
   else aV P S K fE (fk a o.dst qz) A
def Lg (tB:List (Nat×Nat)) (j:Nat):Nat:=((tB.find? λx=>x.1 == j).map (·.2)).getD 3
def AU (M:Nat) (i:Nat) (o:qx):Bool:=!M.testBit i && o.after.all λe=>!ZJ .any e || M.testBit e.on
def freeB (bQ:Array qx) (M:Nat) (i:Nat) (o:qx):Bool:=(Zp bQ.size).all λj=>j == i || M.testBit j || match bQ[j]? with
 | some oj=>oj.after.any (λe=>ZJ .any e && e.on == i) || o.apart bQ oj
 | none=>qg
def forcedB (bQ:Array qx) (tw:List Nat) (tB:List (Nat×Nat)) (M i:Nat):Bool:=(Zp bQ.size).all λj=>j == i || M.testBit j || !(kae 3 (Lg tB j)) || (tw.getD j 0).testBit i
def WJ (bQ:Array qx) (tw:List Nat) (tB:List (Nat×Nat)) (M i:Nat):Bool:=(Zp bQ.size).all λj=>j == i || M.testBit j || !(kae 4 (Lg tB j)) || (tw.getD j 0).testBit i
def soleB (bQ:Array qx) (M i:Nat):Bool:=(Zp bQ.size).all λj=>j == i || match bQ[j]? with
 | some oj=>!AU M j oj
 | none=>qg
def RF (bQ:Array qx) (tw:List Nat) (tB:List (Nat×Nat)):Nat->List (Nat×Nat)->Bool
 | M,[]=>(Zp bQ.size).all λj=>M.testBit j
 | M,(i,m)::r=>(match bQ[i]? with
  | none=>qk
  | some o=>AU M i o && Nat.beq (Lg tB i) m && (if kae m 1 then freeB bQ M i o && ((Nat.beq m 1 && WJ bQ tw tB M i) || zE o.op || forcedB bQ tw tB M i) else soleB bQ M i)) && RF bQ tw tB (M ||| 2 ^ i) r
def S9 (bQ:Array qx) (tB:List (Nat×Nat)):Bool:=ma bQ && (let tw:=ancL bQ.toList [];EA bQ tw && (RF bQ tw tB 0 tB && tB.all λx=>match bQ[x.1]? with|some o=>kae x.2 1 == quietOp o.op|none=>qk))
theorem nL {M i:Nat} {o:qx} {L:Nat->Bool} (hi:i<bQ.size) (xD:ma bQ=qg) (ho:bQ[i]? = qc o) (hL:∀j,j<bQ.size->L j=M.testBit j):AU M i o=qg↔Ub L i o:=by
 unfold AU Ub;rw [Zd,kac,<-hL i hi,kaz];refine and_congr Iff.rfl (forall_congr' λe=>forall_congr' λhe=>?_);simp only [kal,kac];constructor;rintro (h|h) hb;rw [h] at hb;cases hb;have bY:=nH xD ho he hb;rw [hL e.on Ya];exact h;intro h;cases hb:ZJ .any e;exact qq rfl;have bY:=nH xD ho he hb;rw [<-hL e.on Ya];exact qt (h hb)
theorem C2 (xD:ma bQ=qg) (ha:EA bQ tw=qg) {tB:List (Nat×Nat)}:∀(l:List (Nat×Nat)) (M:Nat) (L:Nat->Bool) (a:Fr) (A:AW),(∀j,j<bQ.size->L j=M.testBit j)->pJ bQ L->
 RF bQ tw tB M l=qg->aV P S K (cU bQ l) a A->BD P bQ S (Lg tB) K l.length L a A
 | [],M,L,a,A,hL,hc,hg,h=>⟨λj hj=>by rw [hL j hj];exact Zr.1 hg j (Zn.2 hj),h⟩
 | (i,m)::r,M,L,a,A,hL,hc,hg,h=>by
   unfold RF at hg;rw [Zd] at hg;obtain⟨DC,BJ⟩:=hg;cases hi:bQ[i]? with
   | none=>rw [hi] at DC;cases DC
   | some o=>
     rw [hi] at DC;simp only [Zd] at DC;obtain⟨⟨hr,hmd⟩,DE⟩:=DC;have tD:=(Zf.1 hi).1;have hmd':Lg tB i=m:=kbV hmd;have hrd:Ub L i o:=(nL tD xD hi hL).1 hr;have hL':∀j,j<bQ.size->dg L i j=(M ||| 2 ^ i).testBit j:=λj hj=>by
      rw [kbF,kbW,<-hL j hj];unfold dg;by_cases e:j=i;subst e;simp;have:¬i=j:=λx=>e x.symm;simp [e,this]
     have hc':=hc.set hi hrd;have IH:∀a A,aV P S K (cU bQ r) a A->BD P bQ S (Lg tB) K r.length (dg L i) a A:=λa A h=>C2 xD ha r (M ||| 2 ^ i) _ a A hL' hc' BJ h;have hlop:cU bQ ((i,m)::r)=⟨o.dst,o.op,mJ bQ o.guard,m⟩::cU bQ r:=(by simp [cU,lop,hi]);rw [hlop] at h;unfold aV at h;simp only [<-Rc] at h;have hsole:¬m<=1->∀j oj,bQ[j]? = qc oj->Ub L j oj->j=i:=λLr j oj hj Mr=>by
      rw [aw YX] at DE;have h1:=Zr.1 DE j (Zn.2 (Zf.1 hj).1);rw [hj] at h1;simp only [kal,beq_iff_eq,kac] at h1;rcases h1 with h1|h1;exact h1;rw [(nL (Zf.1 hj).1 xD hj hL).2 Mr] at h1;cases h1
     have hnall:¬∀j,j<bQ.size->L j=qg:=λkU=>by
      have:=kU i tD;rw [hrd.1] at this;cases this
     by_cases Lr:m<=1;rw [ay YX] at DE;simp only [Zd] at DE;obtain⟨tE,dw⟩:=DE;have GY:∀j oj,bQ[j]? = qc oj->j≠i->L j=qk->(∀e∈oj.after,ZJ .any e=qg->e.on≠i)->o.apart bQ oj=qg:=λj oj hj lf WA zW=>by
      have zG:=(Zf.1 hj).1;have h1:=Zr.1 tE j (Zn.2 zG);rw [hj,<-hL j zG,WA] at h1;simp only [kal,beq_iff_eq,Zg,or_false] at h1;rcases h1 with h1|h1|h1;exact absurd h1 lf;exfalso;rw [Array.any_eq_true] at h1;obtain⟨q,hq,h2⟩:=h1;simp only [Zd,beq_iff_eq] at h2;exact zW _ (Array.getElem_mem hq) h2.1 h2.2;exact h1
     have bX:∀v,((oJ bQ a o=qg/\aq P A (jt a) o.op=qc v)\/(oJ bQ a o=qk/\v=qz))->(m=1->oJ bQ a o=qg->∀A',S A'->aq P A' (jt a) o.op=qc v)->
      aV P S K (cU bQ r) (fk a o.dst v) A->BD P bQ S (Lg tB) K (r.length+1) L a A:=by
      intro v hy hS hk;refine HQ xD ha hi Ya r.length L a A hc GY ?_ hrd hy (IH _ _ hk);simp only [kal] at dw;rcases dw with (h1|h1)|h1;rw [Zd] at h1;refine qt (qt ⟨λj oj hj lf h3 WA=>?_,λA' CB H1=>hS (kbV h1.1) H1 A' CB⟩);have zG:=(Zf.1 hj).1;have h2:=Zr.1 h1.2 j (Zn.2 zG);rw [<-hL j zG,WA] at h2;have xS:kae 4 (Lg tB j)=qg:=kbd h3;rw [xS] at h2
      simpa [lf] using h2
      exact qq h1;refine qt (qq λj oj hj lf h3 WA=>?_);have zG:=(Zf.1 hj).1;have h2:=Zr.1 h1 j (Zn.2 zG);rw [<-hL j zG,WA] at h2;have xS:kae 3 (Lg tB j)=qg:=kbd h3;rw [xS] at h2
      simpa [lf] using h2
     split at h;rename_i H1;have:m=0\/m=1:=Ya
     rcases this with rfl|rfl;simp only [Ug] at h;split at h;rename_i v hv;exact bX v (qq ⟨H1,hv⟩) (λe=>by omega) h;exact h.elim;simp only [Ug] at h;split at h;rename_i v hv;exact bX v (qq ⟨H1,hv⟩) (λ_ _=>h.1) h.2;exact h.elim;rename_i H1;have Wl:oJ bQ a o=qk:=by simpa using H1
     exact bX qz (qt ⟨Wl,rfl⟩) (λ_ e=>by rw [Wl] at e;cases e) h;refine⟨λkU=>absurd kU hnall,λhw j oj hj Mr=>?_⟩;have lf:=hsole Lr j oj hj Mr;subst lf;rw [hi] at hj;injection hj with hj;subst hj;unfold xL;split at h
     . rename_i H1;rw [ay H1,aw Ya,hmd'];by_cases h2:m=2;subst h2;exact h.mono λv A' hh=>⟨by rw [ay rfl];exact hh.1,IH _ _ hh.2⟩;have:∃q,m=q+3:=⟨m-3,by omega⟩;obtain⟨q,rfl⟩:=this;cases q with
       | zero=>exact h.mono λv A' hh=>⟨by rw [aw h2];exact λ_=>hh.1,IH _ _ hh.2⟩
       | succ q=>exact h.mono λv A' hh=>⟨by rw [aw h2];exact λe=>by omega,IH _ _ hh⟩
     rename_i H1;rw [aw H1];exact IH _ _ h
end
theorem aaa {P:ql} {n:Nat} {Q:Exit->Fr->AW->Prop} {a:Fr} {A:AW} {id:Nat} {bQ:Array qx} (S:AW->Prop) (tB:List (Nat×Nat)) (hm:P.follows qF=qg) (hB:S9 bQ tB=qg)
 (h:∀K:Fr->AW->Prop,(∀a A,Q qG a A->K a A)->aV P S K (cU bQ tB) a A):cM P n (qR id bQ qg) Q a A:=by
 simp only [S9,Zd] at hB;exact Eu hm hB.1 (C2 hB.1 hB.2.1 tB 0 _ a A (λj _=>by simp) (λk o _ hk=>by cases hk) hB.2.2.1 (h _ λ_ _ h=>h))
theorem PG {P:ql} {S:AW->Prop} {K:Fr->AW->Prop} {o:BB} {fE:List BB} {a:Fr} {A:AW}
 (h:∀R:Fr->AW->Prop,(∀a A,aV P S K fE a A->R a A)->
  if sg a o.guard=qg then
   match o.mode with
   | 0=>Ug P A (jt a) o.op λv=>R (fk a o.dst v) A
   | 1=>Ug P A (jt a) o.op λv=>(∀A',S A'->aq P A' (jt a) o.op=qc v)/\R (fk a o.dst v) A
   | 2=>jL P o.op (jt a) A λv A'=>A.le A'/\R (fk a o.dst v) A'
   | 3=>jL P o.op (jt a) A λv A'=>S A'/\R (fk a o.dst v) A'
   | _=>jL P o.op (jt a) A λv A'=>R (fk a o.dst v) A'
  else R (fk a o.dst qz) A):aV P S K (o::fE) a A:=h _ λ_ _ h=>h
attribute [simp] Ug
end Go.Stx
namespace Go.Stx
open Go
variable [Gl]
def cQ (val:Nat->qd) (i:Nat) (v:qd):Nat->qd:=λj=>if j=i then v else val j
def RD (bQ:Array qx):Bool:=ma bQ && (Zp bQ.size).all λi=>match bQ[i]? with
 | some o=>o.guard.isNone && (Zp bQ.size).all λj=>j == i || match bQ[j]?,o.dst with
   | some oj,qc d=>!(oj.dst == qc d)
   | _,_=>qg
 | none=>qk
theorem Gy {bQ:Array qx} (h:RD bQ=qg):ma bQ=qg/\(∀(i:Nat) (o:qx),bQ[i]? = qc o->o.guard=qh)/\
 ∀(i j:Nat) (o oj:qx) (d:Tmp),bQ[i]? = qc o->bQ[j]? = qc oj->i≠j->o.dst=qc d->oj.dst≠qc d:=by
 simp only [RD,Zd] at h;refine⟨h.1,λi o ho=>?_,λi j o oj d ho hoj gZ hd hdj=>?_⟩;have:=Zr.1 h.2 i (Zn.2 (Zf.1 ho).1);rw [ho] at this;simp only [Zd] at this
 simpa using this.1
 have:=Zr.1 h.2 i (Zn.2 (Zf.1 ho).1);rw [ho] at this;simp only [Zd] at this;have h2:=Zr.1 this.2 j (Zn.2 (Zf.1 hoj).1);rw [hoj,hd] at h2;simp only [kal,beq_iff_eq,kac] at h2;rcases h2 with h2|h2;exact gZ h2.symm;rw [hdj] at h2;simp at h2
theorem awp_mix {P:ql} {n:Nat} {Q:Exit->Fr->AW->Prop} {a0:Fr} {A0:AW} {id:Nat} {bQ:Array qx} (hm:P.follows qF=qg) (hB:RD bQ=qg)
 (G:(Nat->Bool)->(Nat->qd)->HP) (φ:Nat->(Nat->qd)->Prop)
 (hG:∀(S:Nat->Bool) (i:Nat) (val:Nat->qd) (v:qd),pJ bQ S->S i=qk->G S (cQ val i v)=G S val)
 (hφ:∀(S:Nat->Bool) (i j:Nat) (val:Nat->qd) (v:qd),pJ bQ S->S i=qk->S j=qg->φ j val->φ j (cQ val i v))
 (h0:∀val,bB A0 (G (λ_=>qk) val))
 (um:∀(i:Nat) (o:qx),bQ[i]? = qc o->∀(S:Nat->Bool) (val:Nat->qd) (a:Fr) (A:AW),S i=qk->(∀e∈o.after,ZJ .any e=qg->S e.on=qg)->pJ bQ S->(∀j,S j=qg->φ j val)->A.Wf->bB A (G S val)->
  (∀(j:Nat) (oj:qx) (d:Tmp),bQ[j]? = qc oj->oj.dst=qc d->S j=qg->a d=val j)->(∀d:Tmp,(bQ.toList.all λo=>!(o.dst == qc d))=qg->a d=a0 d)->
  jL P o.op (jt a) A λv A'=>φ i (cQ val i v)/\bB A' (G (dg S i) (cQ val i v)))
 (sl:∀(S:Nat->Bool) (val:Nat->qd) (a:Fr) (A:AW),(∀i,i<bQ.size->S i=qg)->(∀j,S j=qg->φ j val)->A.Wf->bB A (G S val)->
  (∀(j:Nat) (oj:qx) (d:Tmp),bQ[j]? = qc oj->oj.dst=qc d->S j=qg->a d=val j)->(∀d:Tmp,(bQ.toList.all λo=>!(o.dst == qc d))=qg->a d=a0 d)->Q qG a A) :
 cM P n (qR id bQ qg) Q a0 A0:=by
 obtain⟨xD,Tp,hds⟩:=Gy hB;intro mF m w ca hs hf;have Mo:A0.Wf:=hs.zQ
 refine R9 hm xD (λS a A=>(A.Wf->pJ bQ S/\∃val,(∀j,S j=qg->φ j val)/\bB A (G S val)/\(∀(j:Nat) (oj:qx) (d:Tmp),bQ[j]? = qc oj->oj.dst=qc d->S j=qg->a d=val j)/\
  (∀d:Tmp,(bQ.toList.all λo=>!(o.dst == qc d))=qg->a d=a0 d)/\((∀i,i<bQ.size->S i=qg)->Q qG a A))) ?_ ?_ ?_ mF m w ca hs hf
 intro hw;refine⟨?_,λ_=>qz,?_,h0 _,?_,?_,λkU=>?_⟩;intro k o _ h;cases h;intro j h;cases h;intro j oj d _ _ h;cases h;intro d _;rfl;refine sl (λ_=>qk) (λ_=>qz) a0 A0 kU ?_ Mo (h0 _) ?_ ?_;intro j h;cases h;intro j oj d _ _ h;cases h;intro d _;rfl;intro S a A i o hw hJ ho up kH;obtain⟨lh,val,h1,h2,h3,h4,_⟩:=hJ hw;have hcl':=lh.set ho ⟨up,kH⟩;have dw:=um i o ho S val a A up kH lh h1 hw h2 h3 h4;unfold Uh;have hg:oJ bQ a o=qg:=by simp [oJ,Tp i o ho]
 rw [ay hg];refine dw.mono λv A' ⟨h5,h6⟩ jN=>?_;have hp:∀j,dg S i j=qg->φ j (cQ val i v):=λj hj=>by
  by_cases e:j=i;subst e;exact h5;have:S j=qg:=by simpa [dg,e] using hj
  exact hφ S i j val v lh up this (h1 j this)
 have tE:∀j oj d,bQ[j]? = qc oj->oj.dst=qc d->dg S i j=qg->fk a o.dst v d=cQ val i v j:=λj oj d hj hd hSj=>by
  by_cases e:j=i;subst e;rw [ho] at hj;injection hj with hj;subst hj;rw [hd];simp [fk,lQ,cQ];have hSj':S j=qg:=by simpa [dg,e] using hSj
  have gZ:o.dst≠qc d:=λx=>hds i j o oj d ho hj (Zm e) x hd;have:fk a o.dst v d=a d:=by
   cases hod:o.dst with
   | none=>rfl
   | some q=>
     have:d≠q:=λx=>gZ (by rw [hod,x]);simp [fk,lQ,this]
  rw [this,h3 j oj d hj hd hSj'];simp [cQ,e]
 have Lo:∀d:Tmp,(bQ.toList.all λo=>!(o.dst == qc d))=qg->fk a o.dst v d=a0 d:=λd hd=>by
  have gZ:o.dst≠qc d:=λx=>by
   have:=Zr.1 hd o (kah.2 (kaA ho));rw [x] at this;simp at this
  have:fk a o.dst v d=a d:=by
   cases hod:o.dst with
   | none=>rfl
   | some q=>
     have:d≠q:=λx=>gZ (by rw [hod,x]);simp [fk,lQ,this]
  rw [this];exact h4 d hd
 exact⟨hcl',cQ val i v,hp,h6,tE,Lo,λkU=>sl _ _ _ _ kU hp jN h6 tE Lo⟩;intro S a A hw hJ kU;obtain⟨_,val,_,_,_,_,h⟩:=hJ hw;exact h kU
def AB (bQ:Array qx) (k j:Nat):Bool:=match bQ[k]? with
 | some o=>o.after.toList.any λe=>ZJ .any e && e.on == j
 | none=>qk
def dstB (bQ:Array qx) (j d:Nat):Bool:=match bQ[j]? with
 | some o=>o.dst == qc d
 | none=>qk
def undstB (bQ:Array qx) (d:Nat):Bool:=bQ.toList.all λo=>!(o.dst == qc d)
def nc (bQ:Array qx) (i:Nat):Op:=match bQ[i]? with
 | some o=>o.op
 | none=>.alloc 0
structure MixSt (bQ:Array Oper) (φ:Nat->(Nat->Value)->Prop) (a0:Fr) (S:Nat->Bool) (val:Nat->Value) (a:Fr):Prop where
 closed:∀k j,AB bQ k j=true->S k=true->S j=true
 tN:∀j,S j=true->φ j val
 mP:∀j d,dstB bQ j d=true->S j=true->a d=val j
 ey:∀d,undstB bQ d=true->a d=a0 d
theorem LF {bQ:Array qx} {S:Nat->Bool} (hc:pJ bQ S) (k j:Nat) (h:AB bQ k j=qg) (hk:S k=qg):S j=qg:=by
 unfold AB at h;split at h;rename_i o ho;obtain⟨e,he,h2⟩:=ka2.1 h;simp only [Zd,beq_iff_eq] at h2;rw [<-h2.2];exact hc k o ho hk e (kah.1 he) h2.1;cases h
theorem W9 {P:ql} {n:Nat} {Q:Exit->Fr->AW->Prop} {a0:Fr} {A0:AW} {id:Nat} {bQ:Array qx} (hm:P.follows qF=qg) (hB:RD bQ=qg)
 (G:(Nat->Bool)->(Nat->qd)->HP) (φ:Nat->(Nat->qd)->Prop)
 (hG:∀(S:Nat->Bool) (i:Nat) (val:Nat->qd) (v:qd),(∀k j,AB bQ k j=qg->S k=qg->S j=qg)->S i=qk->G S (cQ val i v)=G S val)
 (hφ:∀(S:Nat->Bool) (i j:Nat) (val:Nat->qd) (v:qd),(∀k j,AB bQ k j=qg->S k=qg->S j=qg)->S i=qk->S j=qg->φ j val->φ j (cQ val i v))
 (h0:∀val,bB A0 (G (λ_=>qk) val))
 (um:∀(i:Nat),i<bQ.size->∀(S:Nat->Bool) (val:Nat->qd) (a:Fr) (A:AW),S i=qk->(∀j,AB bQ i j=qg->S j=qg)->MixSt bQ φ a0 S val a->A.Wf->bB A (G S val)->
  jL P (nc bQ i) (jt a) A λv A'=>φ i (cQ val i v)/\bB A' (G (dg S i) (cQ val i v)))
 (sl:∀(S:Nat->Bool) (val:Nat->qd) (a:Fr) (A:AW),(∀i,i<bQ.size->S i=qg)->MixSt bQ φ a0 S val a->A.Wf->bB A (G S val)->Q qG a A) :
 cM P n (qR id bQ qg) Q a0 A0:=by
 have slots:∀{S:Nat->Bool} {val:Nat->qd} {a:Fr},(∀(j:Nat) (oj:qx) (d:Tmp),bQ[j]? = qc oj->oj.dst=qc d->S j=qg->a d=val j)->∀j d,dstB bQ j d=qg->S j=qg->a d=val j:=by
  intro S val a h j d hd hj;unfold dstB at hd;split at hd;rename_i o ho;exact h j o d ho (by simpa using hd) hj;cases hd
 refine awp_mix hm hB G φ (λS i val v hc=>hG S i val v (LF hc)) (λS i j val v hc=>hφ S i j val v (LF hc)) h0 ?_ ?_;intro i o ho S val a A hi kH hc hp hw hs hf h0';have nq:nc bQ i=o.op:=by unfold nc;rw [ho]
 have zX:∀j,AB bQ i j=qg->S j=qg:=λj hj=>by
  unfold AB at hj;rw [ho] at hj;obtain⟨e,he,h2⟩:=ka2.1 hj;simp only [Zd,beq_iff_eq] at h2;rw [<-h2.2];exact kH e (kah.1 he) h2.1
 have bY:i<bQ.size:=(Zf.1 ho).1;have key:=um i bY S val a A hi zX ⟨LF hc,hp,slots hf,h0'⟩ hw hs;rw [nq] at key;exact key;intro S val a A kU hp hw hs hf h0';refine sl S val a A kU ⟨?_,hp,slots hf,h0'⟩ hw hs;intro k j h hk;unfold AB at h;split at h;rename_i o ho;obtain⟨e,he,h2⟩:=ka2.1 h;simp only [Zd,beq_iff_eq] at h2;have bY:=nH (Gy hB).1 ho (kah.1 he) h2.1;have hk':=(Zf.1 ho).1;exact kU j Ya;cases h
end Go.Stx
namespace Go.Stx
open Go
variable [Gl]
def nop (bQ:Array qx) (o:qx):BB:=⟨o.dst,o.op,mJ bQ o.guard,3⟩
def dh (bQ:Array qx):List BB:=bQ.toList.map (nop bQ)
theorem uG {P:ql} {bQ:Array qx} {K:Fr->AW->Prop}:∀(l:List qx) (a:Fr) (A:AW),aV P (λ_=>True) K (l.map (nop bQ)) a A->Q4 P bQ K l a A
 | [],a,A,h=>h
 | o::fE,a,A,h=>by
   simp only [ZY,aV,nop] at h;simp only [Q4,Rc];split;rename_i hg;rw [ay hg] at h;exact h.mono λv A' hh=>uG fE _ _ hh.2;rename_i hg;rw [aw hg] at h;exact uG fE _ _ h
section
variable {P:ql} {n:Nat} {Q:Exit->Fr->AW->Prop} {a:Fr} {A:AW} {id:Nat}
theorem wn {bQ:Array qx} (h:∀K:Fr->AW->Prop,(∀a A,Q qG a A->K a A)->aV P (λ_=>True) K (dh bQ) a A):cM P n (qR id bQ qk) Q a A:=
 QH (uG _ _ _ (h _ λ_ _ h=>h))
theorem wl {bQ:Array qx} (hm:P.follows qF=qg) (tB:List (Nat×Nat)) (hB:S9 bQ tB=qg)
 (h:∀K:Fr->AW->Prop,(∀a A,Q qG a A->K a A)->aV P (λ_=>True) K (cU bQ tB) a A):cM P n (qR id bQ qg) Q a A:=aaa _ tB hm hB h
theorem wlS {bQ:Array qx} (S:AW->Prop) (hm:P.follows qF=qg) (tB:List (Nat×Nat)) (hB:S9 bQ tB=qg)
 (h:∀K:Fr->AW->Prop,(∀a A,Q qG a A->K a A)->aV P S K (cU bQ tB) a A):cM P n (qR id bQ qg) Q a A:=aaa S tB hm hB h
end
theorem iT {P:ql} {S:AW->Prop} {K:Fr->AW->Prop} {o:BB} {fE:List BB} {a:Fr} {A:AW}
 (h:∀R:Fr->AW->Prop,(∀a A,aV P S K fE a A->R a A)->
  if sg a o.guard=qg then
   match o.mode with
   | 0=>Ug P A (jt a) o.op λv=>R (fk a o.dst v) A
   | 1=>Ug P A (jt a) o.op λv=>(∀A',S A'->aq P A' (jt a) o.op=qc v)/\R (fk a o.dst v) A
   | 2=>jL P o.op (jt a) A λv A'=>A.le A'/\R (fk a o.dst v) A'
   | 3=>jL P o.op (jt a) A λv A'=>S A'/\R (fk a o.dst v) A'
   | _=>jL P o.op (jt a) A λv A'=>R (fk a o.dst v) A'
  else R (fk a o.dst qz) A):aV P S K (o::fE) a A:=PG h
theorem lwn {P:ql} {S:AW->Prop} {K:Fr->AW->Prop} {a:Fr} {A:AW} (h:K a A):aV P S K [] a A:=h
theorem lr {A:AW} {p:Prop} (h:p):A.le A/\p:=⟨AW.le.refl A,h⟩
theorem la {A:AW} {o:eh} {p:Prop} (h:p):A.le (A.alloc o)/\p:=⟨AW.le.alloc A o,h⟩
theorem wb {P:ql} {n:Nat} {Q:Exit->Fr->AW->Prop} {a:Fr} {A:AW} {id:Nat} {c:Code} (h:cM P n c (cZ id Q) a A):cM P n (.block id c) Q a A:=TZ h
theorem wq {P:ql} {n:Nat} {Q:Exit->Fr->AW->Prop} {a:Fr} {A:AW} {x y:Code} (h:cM P n x (aS (cM P n y Q) Q) a A):cM P n (.seq x y) Q a A:=aT h
theorem wr {P:ql} {n:Nat} {Q:Exit->Fr->AW->Prop} {a:Fr} {A:AW} (h:Q .ret a A):cM P n .ret Q a A:=R7 h
theorem wk {P:ql} {n:Nat} {Q:Exit->Fr->AW->Prop} {a:Fr} {A:AW} (h:Q qG a A):cM P n .skip Q a A:=W8 h
theorem we {P:ql} {n:Nat} {Q:Exit->Fr->AW->Prop} {a:Fr} {A:AW} {id:Nat} (h:Q (.exit id) a A):cM P n (.exit id) Q a A:=aab h
theorem wc {P:ql} {n:Nat} {Q:Exit->Fr->AW->Prop} {a:Fr} {A:AW} {c:qy} {x y:Code} {b:Bool} (hc:jt a c=qn b) (h1:b=qg->cM P n x Q a A) (h2:b=qk->cM P n y Q a A) :
 cM P n (.cond c x y) Q a A:=aac hc h1 h2
theorem ws {P:ql} {n:Nat} {c:Code} {Q:Exit->Fr->AW->Prop} {a:Fr} {A:AW} {k:Nat} (h:cM P n c (aS (aL P n c Q k) Q) a A):aL P n c Q (k+1) a A:=h
theorem ib {c:Prop} [Decidable c] {p q:Prop} (h1:c->p) (h2:¬c->q):if c then p else q:=VU h1 h2
theorem wS:(∀bQ:Array qx,dh bQ=bQ.toList.map (nop bQ))/\(∀(bQ:Array qx) (o:qx),nop bQ o=⟨o.dst,o.op,mJ bQ o.guard,3⟩)/\
 (∀(bQ:Array qx) (l:List (Nat×Nat)),cU bQ l=l.filterMap (lop bQ))/\(∀(bQ:Array qx) (x:Nat×Nat),lop bQ x=(bQ[x.1]?).map λo=>⟨o.dst,o.op,mJ bQ o.guard,x.2⟩)/\
 (∀(bQ:Array qx) (g:Option (Nat×Bool)),mJ bQ g=g.map λx=>((bQ[x.1]?).bind (·.dst),x.2))/\
 (∀(f:qx->BB) (a:qx) (l:List qx),List.map f (a::l)=f a::List.map f l)/\(∀f:qx->BB,List.map f []=[])/\
 (∀(f:Nat×Nat->Option BB) (a:Nat×Nat) (l:List (Nat×Nat)),kbG f (a::l)=match f a with|none=>kbG f l|some b=>b::kbG f l)/\(∀f:Nat×Nat->Option BB,kbG f []=[])/\
 (∀f:qx->BB,kbQ f qh=qh)/\(∀(f:qx->BB) (a:qx),kbQ f (qc a)=qc (f a))/\
 (∀f:Nat×Bool->Option Tmp×Bool,kbQ f qh=qh)/\(∀(f:Nat×Bool->Option Tmp×Bool) (a:Nat×Bool),kbQ f (qc a)=qc (f a))/\
 (∀(l:List qx) (i:Nat),l.toArray[i]? = l[i]?)/\(∀(a:qx) (l:List qx),(a::l)[0]? = qc a)/\(∀(a:qx) (l:List qx) (i:Nat),(a::l)[i+1]? = l[i]?)/\
 (∀(a:qx) (f:qx->Option Tmp),(qc a).bind f=f a):=by
 refine⟨λ_=>rfl,λ_ _=>rfl,λ_ _=>rfl,λ_ _=>rfl,λ_ _=>rfl,λ_ _ _=>rfl,λ_=>rfl,λf a l=>?_,λ_=>rfl,λ_=>rfl,λ_ _=>rfl,λ_=>rfl,λ_ _=>rfl,λl i=>?_,λ_ _=>rfl,λ_ _ _=>rfl,λ_ _=>rfl⟩;rw [List.filterMap_cons];cases f a<;>rfl;simp
attribute [simp] AW.dx AW.du Zz
end Go.Stx
namespace Go.Stx
open Go
variable [Gl]
inductive y7 where
 | nil
 | aM (i:Nat) (t:y7)
 | uW (i:Nat) (t:y7) (j:Nat) (t':y7)
inductive AI where
 | nil
 | aM (o:BB) (t:AI)
 | uW (o:BB) (t:AI) (o':BB) (t':AI)
def u6 (bQ:Array qx) (md:List Nat) (i:Nat):BB:=match bQ[i]? with
 | some o=>⟨o.dst,o.op,mJ bQ o.guard,md.getD i 3⟩
 | none=>⟨qh,.alloc 0,qh,3⟩
def bI (bQ:Array qx) (md:List Nat):y7->AI
 | .nil=>.nil
 | .aM i t=>.aM (u6 bQ md i) (bI bQ md t)
 | .uW i t j t'=>.uW (u6 bQ md i) (bI bQ md t) (u6 bQ md j) (bI bQ md t')
def rz (P:ql) (S:AW->Prop) (o:BB) (a:Fr) (A:AW) (R:Fr->AW->Prop):Prop:=
 if sg a o.guard=qg then
  match o.mode with
  | 0=>Ug P A (jt a) o.op λv=>R (fk a o.dst v) A
  | 1=>Ug P A (jt a) o.op λv=>(∀A',S A'->aq P A' (jt a) o.op=qc v)/\R (fk a o.dst v) A
  | 2=>jL P o.op (jt a) A λv A'=>A.le A'/\R (fk a o.dst v) A'
  | 3=>jL P o.op (jt a) A λv A'=>S A'/\R (fk a o.dst v) A'
  | _=>jL P o.op (jt a) A λv A'=>R (fk a o.dst v) A'
 else R (fk a o.dst qz) A
def TW (P:ql) (S:AW->Prop) (K:Fr->AW->Prop):AI->Fr->AW->Prop
 | .nil,a,A=>K a A
 | .aM o t,a,A=>rz P S o a A (TW P S K t)
 | .uW o t o' t',a,A=>rz P S o a A (TW P S K t)/\rz P S o' a A (TW P S K t')
section
variable {P:ql} {bQ:Array qx} {S:AW->Prop} {K:Fr->AW->Prop} {tw:List Nat}
def UT (bQ:Array qx) (tw md:List Nat) (M i:Nat):Bool:=(Zp bQ.size).all λj=>j == i || M.testBit j || !(kae 3 (md.getD j 3)) || (tw.getD j 0).testBit i
def Su (bQ:Array qx) (tw md:List Nat) (M i:Nat):Bool:=(Zp bQ.size).all λj=>j == i || M.testBit j || !(kae 4 (md.getD j 3)) || (tw.getD j 0).testBit i
def onlyB (bQ:Array qx) (M i j:Nat):Bool:=(Zp bQ.size).all λk=>k == i || k == j || match bQ[k]? with
 | some o=>!AU M k o
 | none=>qg
def R1 (bQ:Array qx) (md:List Nat) (M i:Nat):Bool:=match bQ[i]? with
 | some o=>AU M i o && !(kae (md.getD i 3) 1)
 | none=>qk
def AM (bQ:Array qx) (tw md:List Nat):Nat->y7->Bool
 | M,.nil=>(Zp bQ.size).all λj=>M.testBit j
 | M,.aM i t=>(match bQ[i]? with
  | none=>qk
  | some o=>AU M i o && (if kae (md.getD i 3) 1 then freeB bQ M i o && ((Nat.beq (md.getD i 3) 1 && Su bQ tw md M i) || zE o.op || UT bQ tw md M i) else onlyB bQ M i i)) && AM bQ tw md (M ||| 2 ^ i) t
 | M,.uW i t j t'=>R1 bQ md M i && R1 bQ md M j && onlyB bQ M i j && AM bQ tw md (M ||| 2 ^ i) t && AM bQ tw md (M ||| 2 ^ j) t'
def UN (bQ:Array qx) (md:List Nat) (t:y7):Bool:=ma bQ && (let tw:=ancL bQ.toList [];EA bQ tw && AM bQ tw md 0 t)
def depth:y7->Nat
 | .nil=>0
 | .aM _ t=>depth t+1
 | .uW _ t _ t'=>max (depth t) (depth t')+1
theorem Kc {md:Nat->Nat}:∀{n:Nat} {L:Nat->Bool} {a:Fr} {A:AW},BD P bQ S md K n L a A->BD P bQ S md K (n+1) L a A
 | 0,L,a,A,h=>⟨λ_=>h.2,λ_ i o ho hr=>by have:=h.1 i (Zf.1 ho).1;rw [hr.1] at this;cases this⟩
 | n+1,L,a,A,h=>⟨h.1,λhw i o ho hr=>(h.2 hw i o ho hr).mono λv A' _ _ _ _ hk=>Kc hk⟩
theorem Sf {md:Nat->Nat} {n m:Nat} (hnm:n<=m) {L:Nat->Bool} {a:Fr} {A:AW} (h:BD P bQ S md K n L a A):BD P bQ S md K m L a A:=by
 induction hnm with
 | refl=>exact h
 | step _ ih=>exact Kc ih
theorem Bh {md:List Nat} {i:Nat} {o:qx} (hi:bQ[i]? = qc o) (hm:¬md.getD i 3<=1) {a:Fr} {A:AW} {R:Fr->AW->Prop} (h:rz P S (u6 bQ md i) a A R):xL P bQ S (λj=>md.getD j 3) i o a A R:=by
 simp only [rz,u6,hi,<-Rc] at h;unfold xL;split
 . rename_i hg;rw [ay hg] at h;by_cases h2:md.getD i 3=2;rw [h2] at h;exact h.mono λv A' hh=>⟨by rw [ay h2];exact hh.1,hh.2⟩;have:∃q,md.getD i 3=q+3:=⟨md.getD i 3-3,by omega⟩;obtain⟨q,hq⟩:=this;rw [hq] at h;cases q with
   | zero=>exact h.mono λv A' hh=>⟨by rw [aw h2];exact λ_=>hh.1,hh.2⟩
   | succ q=>exact h.mono λv A' hh=>⟨by rw [aw h2];exact λe=>by(have e':md.getD i 3=3:=e);omega,hh⟩
 rename_i hg;rw [aw hg] at h;exact h
theorem Dh {L:Nat->Bool} {M i:Nat} (hL:∀j,j<bQ.size->L j=M.testBit j):∀j,j<bQ.size->dg L i j=(M ||| 2 ^ i).testBit j:=λj hj=>by
 rw [kbF,kbW,<-hL j hj];unfold dg;by_cases e:j=i;subst e;simp;have:¬i=j:=λx=>e x.symm;simp [e,this]
theorem sw (xD:ma bQ=qg) (ha:EA bQ tw=qg) {md:List Nat}:∀(t:y7) (M:Nat) (L:Nat->Bool) (a:Fr) (A:AW),(∀j,j<bQ.size->L j=M.testBit j)->pJ bQ L->
 AM bQ tw md M t=qg->TW P S K (bI bQ md t) a A->BD P bQ S (λj=>md.getD j 3) K (depth t) L a A
 | .nil,M,L,a,A,hL,hc,hg,h=>⟨λj hj=>by rw [hL j hj];exact Zr.1 hg j (Zn.2 hj),h⟩
 | .uW i t j t',M,L,a,A,hL,hc,hg,h=>by
   simp only [AM,Zd] at hg;obtain⟨⟨⟨⟨hei,hej⟩,hon⟩,hgi⟩,hgj⟩:=hg;have eff:∀{k:Nat},R1 bQ md M k=qg->∃o,bQ[k]? = qc o/\Ub L k o/\¬md.getD k 3<=1:=λ{k} hk=>by
    unfold R1 at hk;cases ho:bQ[k]? with
    | none=>rw [ho] at hk;cases hk
    | some o=>
      rw [ho] at hk;simp only [Zd,kac] at hk;refine⟨o,rfl,(nL (Zf.1 ho).1 xD ho hL).1 hk.1,λfA=>?_⟩;rw [kbd fA] at hk;exact absurd hk.2 Yb
   obtain⟨oi,hi,Lm,Dz⟩:=eff hei;obtain⟨oj,hj,Mr,uZ⟩:=eff hej;refine⟨λkU=>?_,λhw k ok hk hrk=>?_⟩;have:=kU i (Zf.1 hi).1;rw [Lm.1] at this;cases this;have hkij:k=i\/k=j:=by
    have h1:=Zr.1 hon k (Zn.2 (Zf.1 hk).1);rw [hk] at h1;simp only [kal,beq_iff_eq,kac] at h1;rcases h1 with (h1|h1)|h1;exact qq h1;exact qt h1;rw [(nL (Zf.1 hk).1 xD hk hL).2 hrk] at h1;cases h1
   rcases hkij with e|e;subst e;rw [hi] at hk;injection hk with hk;subst hk;exact(Bh hi Dz h.1).mono λv A' _ _ _ _ hh=>Sf (Nat.le_max_left _ _) (sw xD ha t _ _ _ A' (Dh hL) (hc.set hi Lm) hgi hh);subst e;rw [hj] at hk;injection hk with hk;subst hk;exact(Bh hj uZ h.2).mono λv A' _ _ _ _ hh=>Sf (Nat.le_max_right _ _) (sw xD ha t' _ _ _ A' (Dh hL) (hc.set hj Mr) hgj hh)
 | .aM i t,M,L,a,A,hL,hc,hg,h=>by
   unfold AM at hg;rw [Zd] at hg;obtain⟨DC,BJ⟩:=hg;cases hi:bQ[i]? with
   | none=>rw [hi] at DC;cases DC
   | some o=>
     rw [hi] at DC;simp only [Zd] at DC;obtain⟨hr,DE⟩:=DC;have tD:=(Zf.1 hi).1;have hrd:Ub L i o:=(nL tD xD hi hL).1 hr;have hc':=hc.set hi hrd;have IH:∀a A,TW P S K (bI bQ md t) a A->BD P bQ S (λj=>md.getD j 3) K (depth t) (dg L i) a A:=λa A h=>sw xD ha t (M ||| 2 ^ i) _ a A (Dh hL) hc' BJ h;by_cases Lr:md.getD i 3<=1;rw [ay YX] at DE;simp only [Zd] at DE;obtain⟨tE,dw⟩:=DE;have GY:∀j oj,bQ[j]? = qc oj->j≠i->L j=qk->(∀e∈oj.after,ZJ .any e=qg->e.on≠i)->o.apart bQ oj=qg:=λj oj hj lf WA zW=>by
      have zG:=(Zf.1 hj).1;have h1:=Zr.1 tE j (Zn.2 zG);rw [hj,<-hL j zG,WA] at h1;simp only [kal,beq_iff_eq,Zg,or_false] at h1;rcases h1 with h1|h1|h1;exact absurd h1 lf;exfalso;rw [Array.any_eq_true] at h1;obtain⟨q,hq,h2⟩:=h1;simp only [Zd,beq_iff_eq] at h2;exact zW _ (Array.getElem_mem hq) h2.1 h2.2;exact h1
     have bX:∀v,((oJ bQ a o=qg/\aq P A (jt a) o.op=qc v)\/(oJ bQ a o=qk/\v=qz))->(md.getD i 3=1->oJ bQ a o=qg->∀A',S A'->aq P A' (jt a) o.op=qc v)->
      TW P S K (bI bQ md t) (fk a o.dst v) A->BD P bQ S (λj=>md.getD j 3) K (depth t+1) L a A:=by
      intro v hy hS hk;refine HQ (md:=λj=>md.getD j 3) xD ha hi Lr (depth t) L a A hc GY ?_ hrd hy (IH _ _ hk);simp only [kal] at dw;rcases dw with (h1|h1)|h1;rw [Zd] at h1;refine qt (qt ⟨λj oj hj lf h3 WA=>?_,λA' CB H1=>hS (kbV h1.1) H1 A' CB⟩);have zG:=(Zf.1 hj).1;have h2:=Zr.1 h1.2 j (Zn.2 zG);rw [<-hL j zG,WA] at h2;have xS:kae 4 (md.getD j 3)=qg:=kbd h3;rw [xS] at h2
      simpa [lf] using h2
      exact qq h1;refine qt (qq λj oj hj lf h3 WA=>?_);have zG:=(Zf.1 hj).1;have h2:=Zr.1 h1 j (Zn.2 zG);rw [<-hL j zG,WA] at h2;have xS:kae 3 (md.getD j 3)=qg:=kbd h3;rw [xS] at h2
      simpa [lf] using h2
     have h':rz P S (u6 bQ md i) a A (TW P S K (bI bQ md t)):=h;simp only [rz,u6,hi,<-Rc] at h';split at h';rename_i H1;have:md.getD i 3=0\/md.getD i 3=1:=Ya
     rcases this with e|e;rw [e] at h';simp only [Ug] at h';split at h';rename_i v hv;exact bX v (qq ⟨H1,hv⟩) (λe'=>by omega) h';exact h'.elim;rw [e] at h';simp only [Ug] at h';split at h';rename_i v hv;exact bX v (qq ⟨H1,hv⟩) (λ_ _=>h'.1) h'.2;exact h'.elim;rename_i H1;have Wl:oJ bQ a o=qk:=by simpa using H1
     exact bX qz (qt ⟨Wl,rfl⟩) (λ_ e=>by rw [Wl] at e;cases e) h';rw [aw YX] at DE;refine⟨λkU=>?_,λhw j oj hj Mr=>?_⟩;have:=kU i tD;rw [hrd.1] at this;cases this;have lf:j=i:=by
      have h1:=Zr.1 DE j (Zn.2 (Zf.1 hj).1);rw [hj] at h1;simp only [kal,beq_iff_eq,kac] at h1;rcases h1 with (h1|h1)|h1;exact h1;exact h1;rw [(nL (Zf.1 hj).1 xD hj hL).2 Mr] at h1;cases h1
     subst lf;rw [hi] at hj;injection hj with hj;subst hj;exact(Bh hi Lr h).mono λv A' _ _ _ _ hh=>IH _ _ hh
end
theorem wt {P:ql} {n:Nat} {Q:Exit->Fr->AW->Prop} {a:Fr} {A:AW} {id:Nat} {bQ:Array qx} (S:AW->Prop) (hm:P.follows qF=qg) (md:List Nat) (t:y7) (hB:UN bQ md t=qg)
 (h:∀K:Fr->AW->Prop,(∀a A,Q qG a A->K a A)->TW P S K (bI bQ md t) a A):cM P n (qR id bQ qg) Q a A:=by
 simp only [UN,Zd] at hB;exact Eu hm hB.1 (sw hB.1 hB.2.1 t 0 _ a A (λj _=>by simp) (λk o _ hk=>by cases hk) hB.2.2 (h _ λ_ _ h=>h))
theorem Sp {P:ql} {S:AW->Prop} {K:Fr->AW->Prop} {o:BB} {t:AI} {a:Fr} {A:AW} (h:∀R:Fr->AW->Prop,(∀a A,TW P S K t a A->R a A)->rz P S o a A R):TW P S K (.aM o t) a A:=h _ λ_ _ h=>h
theorem OM {P:ql} {S:AW->Prop} {K:Fr->AW->Prop} {o o':BB} {t t':AI} {a:Fr} {A:AW} (h:∀R:Fr->AW->Prop,(∀a A,TW P S K t a A->R a A)->rz P S o a A R)
 (h':∀R:Fr->AW->Prop,(∀a A,TW P S K t' a A->R a A)->rz P S o' a A R):TW P S K (.uW o t o' t') a A:=⟨h _ λ_ _ h=>h,h' _ λ_ _ h=>h⟩
theorem So {P:ql} {S:AW->Prop} {K:Fr->AW->Prop} {a:Fr} {A:AW} (h:K a A):TW P S K .nil a A:=h
attribute [simp] rz
end Go.Stx
namespace Go.Stx
open Go
variable [Gl]
def gW (A B:AW):Prop:=∀i o,A.bk i=qc o->B.bk i=qc o
theorem gW.refl (A:AW):gW A A:=λ_ _ h=>h
theorem gW.trans {A B C:AW} (h:gW A B) (k:gW B C):gW A C:=λi o hi=>k i o (h i o hi)
theorem gW.nd {A B:AW} (h:A.le B) (hw:A.Wf):gW A B:=λi o hi=>h.mS hw hi
theorem gW.Pr {A B:AW} {F:HP} (h:bB B (lT A.bk*F)):gW A B:=by
 obtain⟨_,⟨a,b,d,rfl,rfl,q⟩,hs⟩:=h;intro i o hi;exact hs i o (by simp [Hp.un,hi])
theorem fL.keeps {A B:AW} (hk:gW A B) {size:Nat} {v:qd} {n:Nat} {cs:List qd} (h:fL A size v n cs):fL B size v n cs:=by
 rcases h with h|⟨p,c,bS,own,u,h1,h2,h3,h4⟩;exact qq h;exact qt ⟨p,c,bS,own,u,h1,h2,hk _ _ h3,h4⟩
theorem bK.keeps {A B:AW} (hk:gW A B) {k:qw} {v:qd} {l:List Int} (h:bK A k v l):bK B k v l:=fL.keeps hk h
def pH (A:AW) (v:qd) (ls:List (List Int)):Prop:=∃us:List qd,fL A 1 v ls.length us/\∀i (hi:i<ls.length),∃u,us[i]? = qc u/\bK A .i64 u ls[i]
theorem pH.keeps {A B:AW} (hk:gW A B) {v:qd} {ls:List (List Int)} (h:pH A v ls):pH B v ls:=by
 obtain⟨us,h1,h2⟩:=h;exact⟨us,h1.keeps hk,λi hi=>let ⟨u,h3,h4⟩:=h2 i hi;⟨u,h3,h4.keeps hk⟩⟩
theorem pH.bR {A:AW} {v:qd} {ls:List (List Int)} (h:pH A v ls):∃o c,v=.slice o ls.length c/\ls.length<=c:=by
 obtain⟨us,h1,_⟩:=h;exact h1.bR
theorem pH.at {A:AW} {o:Option qL} {n c:Nat} {ls:List (List Int)} (h:pH A (.slice o n c) ls) {i:Nat} (hi:i<ls.length) :
 ∃p bS own u,o=qc p/\A.bk p.block=qc (.cells bS own 1)/\bS[p.off+i]? = qc u/\bK A .i64 u ls[i]:=by
 obtain⟨us,h1,h2⟩:=h;obtain⟨u,h3,h4⟩:=h2 i hi;rcases h1 with ⟨_,e,_⟩|⟨p,c',bS,own,q,e1,e2,e3,e4,e5,e6⟩;omega;injection e1 with e1 e7 e8;subst e4;refine⟨p,bS,own,u,e1,e3,?_,h4⟩;rw [e6,ZN,Z5 hi,Z7] at h3;exact h3
end Go.Stx
namespace Go.Stx
open Go
variable [Gl]
inductive It where
 | at (i:Nat) (o:eh)
 | h (P:HP)
def It.hp:It->HP
 | .at i o=>pt i o
 | .h P=>P
def aO:List It->HP
 | []=>fl
 | x::L=>x.hp*aO L
def aj (A:AW) (L:List It):Prop:=bB A (aO L)
theorem gG:∀(L K:List It),aO (L++K)=aO L*aO K
 | [],K=>by show aO K=fl*aO K;rw [jf]
 | x::L,K=>by show x.hp*aO (L++K)=x.hp*aO L*aO K;rw [gG L K,HP.de]
def Ge:List It->Nat->Option (It×List It)
 | [],_=>qh
 | x::L,0=>qc (x,L)
 | x::L,k+1=>(Ge L k).map λy=>(y.1,x::y.2)
theorem Ec:∀{L:List It} {k:Nat} {x:It} {K:List It},Ge L k=qc (x,K)->aO L=x.hp*aO K
 | [],_,_,_,h=>by cases h
 | y::L,0,x,K,h=>by injection h with h;injection h with h1 h2;subst h1;subst h2;rfl
 | y::L,k+1,x,K,h=>by
   simp only [Ge,kag] at h;obtain⟨⟨z,M⟩,h1,h2⟩:=h;injection h2 with h2 h3;subst h2;subst h3;show y.hp*aO L=_;rw [Ec h1];show y.hp*(z.hp*aO M)=z.hp*(y.hp*aO M)
   ac_rfl
theorem aj.aM {A:AW} {L K:List It} {x:It} (h:aj A L) (k:Nat) (e:Ge L k=qc (x,K)):bB A (x.hp*aO K):=by
 unfold aj at h;rwa [Ec e] at h
theorem aj.g {A:AW} {L K:List It} {i:Nat} {o:eh} (h:aj A L) (k:Nat) (e:Ge L k=qc (.at i o,K)):A.bk i=qc o:=bB.bk (h.aM k e)
theorem aj.keeps {A B:AW} {L K:List It} (h:aj B L) (k:Nat) (e:Ge L k=qc (.h (lT A.bk),K)):gW A B:=gW.Pr (h.aM k e)
theorem aj.le {A A':AW} {L:List It} (h:aj A L) (hw:A.Wf) (hl:A.le A'):aj A' L:=bB.le h hw hl
theorem aj.alloc {A:AW} {L:List It} (h:aj A L) (hw:A.Wf) (o:eh):aj (A.alloc o) (.at A.next o::L):=bB.alloc h hw o
theorem aj.mk {A:AW} {F:HP} (h:bB A F):aj A [.h F]:=by
 show bB A (F*fl);rw [dH];exact h
def aW (A:AW):List It->Prop
 | []=>True
 | .at i o::L=>A.bk i=qc o/\aW A L
 | .h _::L=>aW A L
def bz (A:AW):List It->Prop
 | []=>True
 | .at i _::L=>((i=A.next)=False/\(A.next=i)=False/\(∀k,(i=A.next+k)=False)/\∀k,(A.next+k=i)=False)/\bz A L
 | .h _::L=>bz A L
def ff (i:Nat):List It->Prop
 | []=>True
 | .at j _::L=>((i=j)=False/\(j=i)=False)/\ff i L
 | .h _::L=>ff i L
def cd:List It->Prop
 | []=>True
 | .at i _::L=>ff i L/\cd L
 | .h _::L=>cd L
theorem aj.tail {A:AW} {x:It} {L:List It} (h:aj A (x::L)):aj A L:=bB.right h
theorem aj.Qk {A:AW}:∀{L:List It},aj A L->aW A L
 | [],_=>trivial
 | .at i o::L,h=>⟨bB.bk h,aj.Qk h.tail⟩
 | .h P::L,h=>aj.Qk (L:=L) (aj.tail (x:=.h P) h)
theorem aj.wI {A:AW} (hw:A.Wf):∀{L:List It},aj A L->bz A L
 | [],_=>trivial
 | .at i o::L,h=>by
   have:=hw.lt (bB.bk h);exact⟨⟨eq_false Ya,eq_false Ya,λk=>eq_false Ya,λk=>eq_false Ya⟩,aj.wI hw h.tail⟩
 | .h P::L,h=>aj.wI hw (L:=L) (aj.tail (x:=.h P) h)
theorem aj.PD {A:AW} {i:Nat} {o:eh}:∀{L:List It},aj A (.at i o::L)->ff i L
 | [],_=>trivial
 | .at j p::L,h=>by
   have gZ:i≠j:=bB.ne h;refine⟨⟨eq_false gZ,eq_false (Zm gZ)⟩,aj.PD (A:=A) (L:=L) (o:=o) ?_⟩;have h1:bB A (pt i o*(pt j p*aO L)):=h;exact bB.right (h1.dD (by ac_rfl:_=pt j p*(pt i o*aO L)))
 | .h P::L,h=>by
   have h1:bB A (pt i o*(P*aO L)):=h;exact aj.PD (A:=A) (L:=L) (o:=o) (bB.right (h1.dD (by ac_rfl:_=P*(pt i o*aO L))))
theorem aj.nes {A:AW}:∀{L:List It},aj A L->cd L
 | [],_=>trivial
 | .at i o::L,h=>⟨aj.PD h,aj.nes h.tail⟩
 | .h P::L,h=>aj.nes (L:=L) (aj.tail (x:=.h P) h)
theorem aj.eX {A:AW} {L:List It} (h:aj A L) (hw:A.Wf):aW A L/\bz A L/\cd L:=⟨h.Qk,h.wI hw,h.nes⟩
def bx (P:ql) (f:qJ) (args:List qd) (sG:List It) (φ:qd->Prop) (post:qd->List It):Prop:=
 ∀(A:AW) (F:HP),A.Wf->aj A (sG++[.h F])->aB P f args A λv A'=>φ v/\aj A' (post v++[.h F])
theorem bx.rf {P:ql} {f:qJ} {args:List qd} {sG:List It} {φ:qd->Prop} {post:qd->List It} {p:HP} {q:qd->HP} (h:oR P f args p q) (hp:aO sG=p) (hq:∀v,q v=BH (φ v)*aO (post v)) :
 bx P f args sG φ post:=by
 intro A F hw hS;refine(h A F hw (by unfold aj at hS;rw [gG,hp] at hS;have h3:bB A (p*(F*fl)):=hS;rwa [dH] at h3)).mono ?_;intro v A' hs;rw [hq,HP.de,bB.pr] at hs;refine⟨hs.1,?_⟩;unfold aj;rw [gG];show bB A' (aO (post v)*(F*fl));rw [dH];exact hs.2
section
def Od (l:List (Nat×Nat)):Prop:=True
theorem od (l:List (Nat×Nat)):Od l:=trivial
structure Ts (S:AW->Prop) (md:List Nat) (t:y7):Prop
structure Os (S:AW->Prop) (l:List (Nat×Nat)):Prop
class Stp (G:Prop) (H:outParam Prop):Prop where f:H->G
section
variable [Gl] {P:ql} {n:Nat} {Q:Exit->Fr->AW->Prop} {a:Fr} {A:AW} {id k:Nat} {c x y:Code} {S:AW->Prop} {K X:Fr->AW->Prop} {o:eh} {p:Prop}
instance:Stp (cM P n (.block id c) Q a A) (cM P n c (cZ id Q) a A):=⟨wb⟩
instance:Stp (cM P n (.seq x y) Q a A) (cM P n x (aS (cM P n y Q) Q) a A):=⟨wq⟩
instance:Stp (cM P n .ret Q a A) (Q .ret a A):=⟨wr⟩
instance:Stp (cM P n .skip Q a A) (Q qG a A):=⟨wk⟩
instance:Stp (cM P n (.exit id) Q a A) (Q (.exit id) a A):=⟨we⟩
instance:Stp (aL P n c Q (k+1) a A) (cM P n c (aS (aL P n c Q k) Q) a A):=⟨ws⟩
instance:Stp (aV P S K [] a A) (K a A):=⟨lwn⟩
instance:Stp (A.le A/\p) p:=⟨lr⟩
instance:Stp (A.le (A.alloc o)/\p) p:=⟨la⟩
theorem BL {bQ:Array qx} {tB:List (Nat×Nat)} (q:Od tB) (hm:P.follows qF=qg) (hB:S9 bQ tB=qg)
 (h:∀K:Fr->AW->Prop,(∀a A,Q qG a A->K a A)->aV P (λ_=>True) K (cU bQ tB) a A):cM P n (qR id bQ qg) Q a A:=wl hm tB hB h
theorem Sj {bQ:Array qx} {md:List Nat} {t:y7} (q:Ts S md t) (hm:P.follows qF=qg) (hB:UN bQ md t=qg)
 (h:∀K:Fr->AW->Prop,(∀a A,Q qG a A->K a A)->TW P S K (bI bQ md t) a A):cM P n (qR id bQ qg) Q a A:=wt S hm md t hB h
theorem Sk {bQ:Array qx} {tB:List (Nat×Nat)} (q:Os S tB) (hm:P.follows qF=qg) (hB:S9 bQ tB=qg)
 (h:∀K:Fr->AW->Prop,(∀a A,Q qG a A->K a A)->aV P S K (cU bQ tB) a A):cM P n (qR id bQ qg) Q a A:=wlS S hm tB hB h
theorem wlG {bQ:Array qx} (h:cM P n (qR id bQ qg) Q a A):cM P n (qR id bQ qg) Q a A:=h
theorem acG {f:qJ} {args:List qd} {k:qd->AW->Prop} (h:aB P f args A k):aB P f args A k:=h
end
theorem gR {A:AW} {i:Nat} {o:Option eh} (h:A.bk i=o):A.bk i=o:=h
theorem twG [Gl] {P:ql} {S:AW->Prop} {K:Fr->AW->Prop} {t:AI} {a:Fr} {A:AW} (h:TW P S K t a A):TW P S K t a A:=h
theorem nx {G H:Prop} [i:Stp G H] (h:H):G:=i.f h
structure Tg (n:Nat) (p:Prop):Prop where h:p
structure Kp (p:Prop):Prop where h:p
inductive Df:Prop->Prop where
 | T:Df True
 | C {p q:Prop}:Df p->Df q->Df (p/\q)
 | A {p:Prop}:Df p
theorem J1 {a1:Prop} (x1:a1):a1/\True:=⟨x1,trivial⟩
theorem J2 {a1 a2:Prop} (x1:a1) (x2:a2):a1/\a2/\True:=⟨x1,x2,trivial⟩
theorem J3 {a1 a2 a3:Prop} (x1:a1) (x2:a2) (x3:a3):a1/\a2/\a3/\True:=⟨x1,x2,x3,trivial⟩
theorem J4 {a1 a2 a3 a4:Prop} (x1:a1) (x2:a2) (x3:a3) (x4:a4):a1/\a2/\a3/\a4/\True:=⟨x1,x2,x3,x4,trivial⟩
theorem J5 {a1 a2 a3 a4 a5:Prop} (x1:a1) (x2:a2) (x3:a3) (x4:a4) (x5:a5):a1/\a2/\a3/\a4/\a5/\True:=⟨x1,x2,x3,x4,x5,trivial⟩
theorem J6 {a1 a2 a3 a4 a5 a6:Prop} (x1:a1) (x2:a2) (x3:a3) (x4:a4) (x5:a5) (x6:a6):a1/\a2/\a3/\a4/\a5/\a6/\True:=⟨x1,x2,x3,x4,x5,x6,trivial⟩
theorem J7 {a1 a2 a3 a4 a5 a6 a7:Prop} (x1:a1) (x2:a2) (x3:a3) (x4:a4) (x5:a5) (x6:a6) (x7:a7):a1/\a2/\a3/\a4/\a5/\a6/\a7/\True:=⟨x1,x2,x3,x4,x5,x6,x7,trivial⟩
theorem J8 {a1 a2 a3 a4 a5 a6 a7 a8:Prop} (x1:a1) (x2:a2) (x3:a3) (x4:a4) (x5:a5) (x6:a6) (x7:a7) (x8:a8):a1/\a2/\a3/\a4/\a5/\a6/\a7/\a8/\True:=⟨x1,x2,x3,x4,x5,x6,x7,x8,trivial⟩
theorem J9 {a1 a2 a3 a4 a5 a6 a7 a8 a9:Prop} (x1:a1) (x2:a2) (x3:a3) (x4:a4) (x5:a5) (x6:a6) (x7:a7) (x8:a8) (x9:a9):a1/\a2/\a3/\a4/\a5/\a6/\a7/\a8/\a9/\True:=⟨x1,x2,x3,x4,x5,x6,x7,x8,x9,trivial⟩
theorem E5 {a1 a2 a3 a4 a5 a6 a7 a8 a9 zK:Prop} (x1:a1) (x2:a2) (x3:a3) (x4:a4) (x5:a5) (x6:a6) (x7:a7) (x8:a8) (x9:a9) (H8:zK):a1/\a2/\a3/\a4/\a5/\a6/\a7/\a8/\a9/\zK/\True:=⟨x1,x2,x3,x4,x5,x6,x7,x8,x9,H8,trivial⟩
theorem H7 {a1 a2 a3 a4 a5 a6 a7 a8 a9 zK BA:Prop} (x1:a1) (x2:a2) (x3:a3) (x4:a4) (x5:a5) (x6:a6) (x7:a7) (x8:a8) (x9:a9) (H8:zK) (Kg:BA):a1/\a2/\a3/\a4/\a5/\a6/\a7/\a8/\a9/\zK/\BA/\True:=⟨x1,x2,x3,x4,x5,x6,x7,x8,x9,H8,Kg,trivial⟩
theorem vZ {a1 a2 a3 a4 a5 a6 a7 a8 a9 zK BA EI:Prop} (x1:a1) (x2:a2) (x3:a3) (x4:a4) (x5:a5) (x6:a6) (x7:a7) (x8:a8) (x9:a9) (H8:zK) (Kg:BA) (Mz:EI):a1/\a2/\a3/\a4/\a5/\a6/\a7/\a8/\a9/\zK/\BA/\EI/\True:=⟨x1,x2,x3,x4,x5,x6,x7,x8,x9,H8,Kg,Mz,trivial⟩
theorem mW {a1 a2 a3 a4 a5 a6 a7 a8 a9 zK BA EI HR:Prop} (x1:a1) (x2:a2) (x3:a3) (x4:a4) (x5:a5) (x6:a6) (x7:a7) (x8:a8) (x9:a9) (H8:zK) (Kg:BA) (Mz:EI) (OR:HR):a1/\a2/\a3/\a4/\a5/\a6/\a7/\a8/\a9/\zK/\BA/\EI/\HR/\True:=⟨x1,x2,x3,x4,x5,x6,x7,x8,x9,H8,Kg,Mz,OR,trivial⟩
theorem y9 {a1 a2 a3 a4 a5 a6 a7 a8 a9 zK BA EI HR Kd:Prop} (x1:a1) (x2:a2) (x3:a3) (x4:a4) (x5:a5) (x6:a6) (x7:a7) (x8:a8) (x9:a9) (H8:zK) (Kg:BA) (Mz:EI) (OR:HR) (Si:Kd):a1/\a2/\a3/\a4/\a5/\a6/\a7/\a8/\a9/\zK/\BA/\EI/\HR/\Kd/\True:=⟨x1,x2,x3,x4,x5,x6,x7,x8,x9,H8,Kg,Mz,OR,Si,trivial⟩
theorem Uc {a1 a2 a3 a4 a5 a6 a7 a8 a9 zK BA EI HR Kd OE:Prop} (x1:a1) (x2:a2) (x3:a3) (x4:a4) (x5:a5) (x6:a6) (x7:a7) (x8:a8) (x9:a9) (H8:zK) (Kg:BA) (Mz:EI) (OR:HR) (Si:Kd) (Uz:OE):a1/\a2/\a3/\a4/\a5/\a6/\a7/\a8/\a9/\zK/\BA/\EI/\HR/\Kd/\OE/\True:=⟨x1,x2,x3,x4,x5,x6,x7,x8,x9,H8,Kg,Mz,OR,Si,Uz,trivial⟩
theorem Mg {a1 a2 a3 a4 a5 a6 a7 a8 a9 zK BA EI HR Kd OE Sg:Prop} (x1:a1) (x2:a2) (x3:a3) (x4:a4) (x5:a5) (x6:a6) (x7:a7) (x8:a8) (x9:a9) (H8:zK) (Kg:BA) (Mz:EI) (OR:HR) (Si:Kd) (Uz:OE) (x16:Sg):a1/\a2/\a3/\a4/\a5/\a6/\a7/\a8/\a9/\zK/\BA/\EI/\HR/\Kd/\OE/\Sg/\True:=⟨x1,x2,x3,x4,x5,x6,x7,x8,x9,H8,Kg,Mz,OR,Si,Uz,x16,trivial⟩
theorem J17 {a1 a2 a3 a4 a5 a6 a7 a8 a9 zK BA EI HR Kd OE Sg a17:Prop} (x1:a1) (x2:a2) (x3:a3) (x4:a4) (x5:a5) (x6:a6) (x7:a7) (x8:a8) (x9:a9) (H8:zK) (Kg:BA) (Mz:EI) (OR:HR) (Si:Kd) (Uz:OE) (x16:Sg) (x17:a17):a1/\a2/\a3/\a4/\a5/\a6/\a7/\a8/\a9/\zK/\BA/\EI/\HR/\Kd/\OE/\Sg/\a17/\True:=⟨x1,x2,x3,x4,x5,x6,x7,x8,x9,H8,Kg,Mz,OR,Si,Uz,x16,x17,trivial⟩
theorem J18 {a1 a2 a3 a4 a5 a6 a7 a8 a9 zK BA EI HR Kd OE Sg a17 a18:Prop} (x1:a1) (x2:a2) (x3:a3) (x4:a4) (x5:a5) (x6:a6) (x7:a7) (x8:a8) (x9:a9) (H8:zK) (Kg:BA) (Mz:EI) (OR:HR) (Si:Kd) (Uz:OE) (x16:Sg) (x17:a17) (x18:a18):a1/\a2/\a3/\a4/\a5/\a6/\a7/\a8/\a9/\zK/\BA/\EI/\HR/\Kd/\OE/\Sg/\a17/\a18/\True:=⟨x1,x2,x3,x4,x5,x6,x7,x8,x9,H8,Kg,Mz,OR,Si,Uz,x16,x17,x18,trivial⟩
theorem J19 {a1 a2 a3 a4 a5 a6 a7 a8 a9 zK BA EI HR Kd OE Sg a17 a18 a19:Prop} (x1:a1) (x2:a2) (x3:a3) (x4:a4) (x5:a5) (x6:a6) (x7:a7) (x8:a8) (x9:a9) (H8:zK) (Kg:BA) (Mz:EI) (OR:HR) (Si:Kd) (Uz:OE) (x16:Sg) (x17:a17) (x18:a18) (x19:a19):a1/\a2/\a3/\a4/\a5/\a6/\a7/\a8/\a9/\zK/\BA/\EI/\HR/\Kd/\OE/\Sg/\a17/\a18/\a19/\True:=⟨x1,x2,x3,x4,x5,x6,x7,x8,x9,H8,Kg,Mz,OR,Si,Uz,x16,x17,x18,x19,trivial⟩
theorem J20 {a1 a2 a3 a4 a5 a6 a7 a8 a9 zK BA EI HR Kd OE Sg a17 a18 a19 a20:Prop} (x1:a1) (x2:a2) (x3:a3) (x4:a4) (x5:a5) (x6:a6) (x7:a7) (x8:a8) (x9:a9) (H8:zK) (Kg:BA) (Mz:EI) (OR:HR) (Si:Kd) (Uz:OE) (x16:Sg) (x17:a17) (x18:a18) (x19:a19) (x20:a20):a1/\a2/\a3/\a4/\a5/\a6/\a7/\a8/\a9/\zK/\BA/\EI/\HR/\Kd/\OE/\Sg/\a17/\a18/\a19/\a20/\True:=⟨x1,x2,x3,x4,x5,x6,x7,x8,x9,H8,Kg,Mz,OR,Si,Uz,x16,x17,x18,x19,x20,trivial⟩
theorem W {G H C X:Prop} (c:C) (x:X) (k:H) (s:(∀(zc:C) (zx:X) (zk:Kp H),G)/\Df H:=by
 constructor
 . unhygienic intros
   (try have z1:=zc.1);(try have z2:=zc.2.1);(try have z3:=zc.2.2.1);(try have z4:=zc.2.2.2.1);(try have z5:=zc.2.2.2.2.1);(try have z6:=zc.2.2.2.2.2.1);(try have z7:=zc.2.2.2.2.2.2.1);(try have z8:=zc.2.2.2.2.2.2.2.1);(try have z9:=zc.2.2.2.2.2.2.2.2.1);(try have Uy:=zc.2.2.2.2.2.2.2.2.2.1)
   repeat' (first|(refine iT λR hR=>?_;(first|simp [af,an,zx,hq]|simp [af,an,zx]);try simp (disch:=omega) only [ay,aw,af,an])|(refine hR _ _ ?_;try clear hR R)|(refine hK _ _ ?_;try clear hK K)|refine nx ?_|refine wn λK hK=>?_|simp only [wS]|(refine wlG ?_;first|refine BL z1 Tryz.mx (by decide +kernel) λK hK=>?_|refine BL z2 Tryz.mx (by decide +kernel) λK hK=>?_|refine BL z3 Tryz.mx (by decide +kernel) λK hK=>?_|refine BL z4 Tryz.mx (by decide +kernel) λK hK=>?_|refine BL z5 Tryz.mx (by decide +kernel) λK hK=>?_|refine BL z6 Tryz.mx (by decide +kernel) λK hK=>?_|refine BL z7 Tryz.mx (by decide +kernel) λK hK=>?_|refine BL z8 Tryz.mx (by decide +kernel) λK hK=>?_|refine BL z9 Tryz.mx (by decide +kernel) λK hK=>?_|refine BL Uy Tryz.mx (by decide +kernel) λK hK=>?_)|(refine acG ?_;first|(apply bx.fM;(·(first|apply z1|apply z2|apply z3|apply z4|apply z5|apply z6|apply z7|apply z8|apply z9|apply Uy)<;>first|assumption|(simp [hq];done)|(refine gR ?_;simp [hq];rfl)|(simp [hq,zx];done)|omega|decide);(·exact wA);(·exact sA);(·first|exact pA|exact kA);(first|rintro _ zA rfl hS hw zn|rintro zn zA zn hS hw zn);have hS:=lA hS;(try (have hq:=nO hS hw)))|(apply bD;(·(first|apply z1|apply z2|apply z3|apply z4|apply z5|apply z6|apply z7|apply z8|apply z9|apply Uy)<;>first|assumption|(simp [hq];done)|(refine gR ?_;simp [hq];rfl)|(simp [hq,zx];done)|omega|decide);(first|rintro _ _ ⟨rfl,rfl⟩ zn zn|rintro _ _ ⟨⟨zn,rfl⟩,rfl⟩ zn zn))|((first|apply @Tg.h 10 _ z1|apply @Tg.h 10 _ z2|apply @Tg.h 10 _ z3|apply @Tg.h 10 _ z4);(·exact wA);(·exact sA);(·first|exact pA|exact kA);)|(apply eI.fM;(·first|apply @Tg.h 32 _ z1|apply @Tg.h 32 _ z2|apply @Tg.h 32 _ z3|apply @Tg.h 32 _ z4);(·exact wA);(·exact sA);(·first|exact pA|exact kA);(first|rintro xw _ zA rfl hS hw zn|rintro xw zn zA zn hS hw zn);(try (have hS:=lA hS));(try (have hq:=nO hS hw))))|refine wb ?_|refine wr ?_|refine wk ?_|refine we ?_|refine ws ?_|refine wq ?_|(refine wc rfl (λhc=>?_) (λhc=>?_)<;>(try simp at hc)<;>(try omega))|(refine ib (λhc=>?_) (λhc=>?_)<;>(try omega)<;>(try simp (disch:=omega) only [ay,aw]))|((repeat (first|clear zc|clear zx|clear z1|clear z2|clear z3|clear z4|clear z5|clear z6|clear z7|clear z8|clear z9|clear Uy));(try (revert hq;have zq:=zk;clear zq));(repeat clear hq);(try (revert hS;have zq:=zk;clear zq));(repeat clear hS);(try (revert hw;have zq:=zk;clear zq));(repeat clear hw);(repeat (first|(revert hc;have zq:=zk;clear zq)|(revert zn;have zq:=zk;clear zq)|(revert zA;have zq:=zk;clear zq)|(revert xw;have zq:=zk;clear zq)|(revert K;have zq:=zk;clear zq)|(revert hK;have zq:=zk;clear zq)|(revert R;have zq:=zk;clear zq)|(revert hR;have zq:=zk;clear zq)));first|with_reducible refine zk.h|with_reducible refine zk.h.1|with_reducible refine zk.h.2.1|with_reducible refine zk.h.2.2.1|with_reducible refine zk.h.2.2.2.1|with_reducible refine zk.h.2.2.2.2.1|with_reducible refine zk.h.2.2.2.2.2.1|with_reducible refine zk.h.2.2.2.2.2.2.1|with_reducible refine zk.h.2.2.2.2.2.2.2.1|with_reducible refine zk.h.2.2.2.2.2.2.2.2.1|with_reducible refine zk.h.2.2.2.2.2.2.2.2.2.1|with_reducible refine zk.h.2.2.2.2.2.2.2.2.2.2.1))
 . repeat' (first|exact .T|apply Df.C|exact .A)):G:=s.1 c x ⟨k⟩
theorem Wp {G H C X:Prop} (c:C) (x:X) (k:H) (s:(∀(zc:C) (zx:X) (zk:Kp H),G)/\Df H:=by
 constructor
 . unhygienic intros
   (try have z1:=zc.1);(try have z2:=zc.2.1);(try have z3:=zc.2.2.1);(try have z4:=zc.2.2.2.1);(try have z5:=zc.2.2.2.2.1);(try have z6:=zc.2.2.2.2.2.1)
   repeat' (first|(refine iT λR hR=>?_;(first|simp [af,an,zx,hq]|simp [af,an,zx]);try simp (disch:=omega) only [ay,aw,af,an])|(refine hR _ _ ?_;try clear hR R)|(refine hK _ _ ?_;try clear hK K)|refine nx ?_|refine wn λK hK=>?_|simp only [wS]|(refine wlG ?_;first|refine BL z1 Tryz.mx (by decide +kernel) λK hK=>?_|refine BL z2 Tryz.mx (by decide +kernel) λK hK=>?_|refine BL z3 Tryz.mx (by decide +kernel) λK hK=>?_|refine BL z4 Tryz.mx (by decide +kernel) λK hK=>?_|refine BL z5 Tryz.mx (by decide +kernel) λK hK=>?_|refine BL z6 Tryz.mx (by decide +kernel) λK hK=>?_)|(refine acG ?_;first|(apply bx.fM;(·(first|apply z1|apply z2|apply z3|apply z4|apply z5|apply z6)<;>first|assumption|(simp [hq];done)|(refine gR ?_;simp [hq];rfl)|(simp [hq,zx];done)|omega|decide);(·exact wA);(·exact sA);(·first|exact pP|exact kP);(first|rintro _ zA rfl hS hw zn|rintro zn zA zn hS hw zn);have hS:=lA hS;(try (have hq:=nO hS hw)))|(apply bD;(·(first|apply z1|apply z2|apply z3|apply z4|apply z5|apply z6)<;>first|assumption|(simp [hq];done)|(refine gR ?_;simp [hq];rfl)|(simp [hq,zx];done)|omega|decide);(first|rintro _ _ ⟨rfl,rfl⟩ zn zn|rintro _ _ ⟨⟨zn,rfl⟩,rfl⟩ zn zn))|((first|apply @Tg.h 10 _ z1|apply @Tg.h 10 _ z2|apply @Tg.h 10 _ z3|apply @Tg.h 10 _ z4|apply @Tg.h 10 _ z5);(·exact wA);(·exact sA);(·first|exact pP|exact kP);)|((first|apply @Tg.h 11 _ z1|apply @Tg.h 11 _ z2|apply @Tg.h 11 _ z3|apply @Tg.h 11 _ z4|apply @Tg.h 11 _ z5);(·exact wA);(·exact sA);(·first|exact pP|exact kP);(·first|omega|(simp;omega)|(simp [hq];done));((first|rintro zn zn zA hS hw zn|rintro zn zA hS hw zn|rintro zn zA hS hw);(try refine⟨zn,?_⟩);(try (have hS:=lA hS));have hq:=nO hS hw))|((first|apply @Tg.h 12 _ z1|apply @Tg.h 12 _ z2|apply @Tg.h 12 _ z3|apply @Tg.h 12 _ z4|apply @Tg.h 12 _ z5);(·exact wA);(·exact sA);(·first|exact pP|exact kP);(·first|exact pP|exact kP);(·first|omega|(simp;omega)|(simp [hq];done));(·first|omega|(simp;omega)|(simp [hq];done));((first|rintro zn zn zA hS hw zn|rintro zn zA hS hw zn|rintro zn zA hS hw);(try refine⟨zn,?_⟩);(try (have hS:=lA hS));have hq:=nO hS hw))|((first|apply @Tg.h 19 _ z1|apply @Tg.h 19 _ z2|apply @Tg.h 19 _ z3|apply @Tg.h 19 _ z4|apply @Tg.h 19 _ z5);(·exact wA);(·exact sA);((first|rintro zn zn zA hS hw zn|rintro zn zA hS hw zn|rintro zn zA hS hw);(try refine⟨zn,?_⟩);(try (have hS:=lA hS));have hq:=nO hS hw))|(apply bx.lj;(·first|apply @Tg.h 20 _ z1|apply @Tg.h 20 _ z2|apply @Tg.h 20 _ z3|apply @Tg.h 20 _ z4|apply @Tg.h 20 _ z5);(·exact wA);(·exact sA);(·exact fP);(·first|exact pP|exact kP);(first|rintro _ zA rfl hS hw zn|rintro zn zA zn hS hw zn);have hS:=lA hS;(try (have hq:=nO hS hw));all_goals(try (first|exact 0|exact undef)))|(apply bx.UK;(·first|apply @Tg.h 21 _ z1|apply @Tg.h 21 _ z2|apply @Tg.h 21 _ z3|apply @Tg.h 21 _ z4|apply @Tg.h 21 _ z5);(·exact wA);(·exact sA);(·exact fP);(·first|exact pP|exact kP);(first|rintro _ zA rfl hS hw zn|rintro zn zA zn hS hw zn);have hS:=lA hS;(try (have hq:=nO hS hw));all_goals(try (first|exact 0|exact undef)))|(apply bx.useX;(·first|apply @Tg.h 22 _ z1|apply @Tg.h 22 _ z2|apply @Tg.h 22 _ z3|apply @Tg.h 22 _ z4|apply @Tg.h 22 _ z5);(·exact wA);(·exact sA);(·exact fP);(·first|exact pP|exact kP);(first|rintro _ zA rfl hS hw zn|rintro zn zA zn hS hw zn);have hS:=lA hS;(try (have hq:=nO hS hw));all_goals(try (first|exact 0|exact undef)))|((first|apply @Tg.h 31 _ z1|apply @Tg.h 31 _ z2|apply @Tg.h 31 _ z3|apply @Tg.h 31 _ z4|apply @Tg.h 31 _ z5);(·exact wA);(·exact sA);(·exact fP);((first|rintro zn zn zA hS hw|rintro zn zA hS hw);(try dsimp only [cX,AW.be,aa,ah] at hS);have hq:=hqO hS hw);all_goals(try (first|exact 0|exact undef)))|(apply Es;(·first|apply @Tg.h 30 _ z1|apply @Tg.h 30 _ z2|apply @Tg.h 30 _ z3|apply @Tg.h 30 _ z4|apply @Tg.h 30 _ z5);(·exact wA);(·exact sA);(·exact fP);all_goals(try (first|exact 0|exact undef))))|refine wb ?_|refine wr ?_|refine wk ?_|refine we ?_|refine ws ?_|refine wq ?_|(refine wc rfl (λhc=>?_) (λhc=>?_)<;>(try simp at hc)<;>(try omega)<;>(try (simp [h2] at hc;done))<;>(try (simp [h3] at hc;done))<;>(try (simp [h4] at hc;done)))|(refine ib (λhc=>?_) (λhc=>?_)<;>(try omega)<;>(try simp (disch:=omega) only [ay,aw]))|((repeat (first|clear zc|clear zx|clear z1|clear z2|clear z3|clear z4|clear z5|clear z6));(try (revert hq;have zq:=zk;clear zq));(repeat clear hq);(try (revert hS;have zq:=zk;clear zq));(repeat clear hS);(try (revert hw;have zq:=zk;clear zq));(repeat clear hw);(repeat (first|(revert hc;have zq:=zk;clear zq)|(revert zn;have zq:=zk;clear zq)|(revert zA;have zq:=zk;clear zq)|(revert xw;have zq:=zk;clear zq)|(revert K;have zq:=zk;clear zq)|(revert hK;have zq:=zk;clear zq)|(revert R;have zq:=zk;clear zq)|(revert hR;have zq:=zk;clear zq)));first|with_reducible refine zk.h|with_reducible refine zk.h.1))
 . repeat' (first|exact .T|apply Df.C|exact .A)):G:=s.1 c x ⟨k⟩
theorem Wu {G H C X:Prop} (c:C) (x:X) (k:H) (s:(∀(zc:C) (zx:X) (zk:Kp H),G)/\Df H:=by
 constructor
 . unhygienic intros
   (try have z1:=zc.1);(try have z2:=zc.2.1);(try have z3:=zc.2.2.1);(try have z4:=zc.2.2.2.1);(try have z5:=zc.2.2.2.2.1);(try have z6:=zc.2.2.2.2.2.1);(try have z7:=zc.2.2.2.2.2.2.1);(try have z8:=zc.2.2.2.2.2.2.2.1);(try have z9:=zc.2.2.2.2.2.2.2.2.1);(try have Uy:=zc.2.2.2.2.2.2.2.2.2.1);(try have z11:=zc.2.2.2.2.2.2.2.2.2.2.1);(try have z12:=zc.2.2.2.2.2.2.2.2.2.2.2.1);(try have z13:=zc.2.2.2.2.2.2.2.2.2.2.2.2.1)
   repeat' (first|(with_reducible apply lwI;(·first|(simp;done)|(simp;rfl));(·first|(simp;done)|(simp;rfl));(·exact wA);(·exact sA);(·first|exact pP|exact kP|exact pA|exact kA);(·first|(simp;done)|(simp;rfl)|(simp [hq];done)|(simp [hq];rfl));(·first|omega|(simp;omega));(·intro _ _;trivial);rintro zn zn zA hS hw zn;(try have hS:=lA hS);have hq:=nO hS hw)|(with_reducible apply lwU;(·first|(simp;done)|(simp;rfl));(·first|(simp;done)|(simp;rfl));(·exact wA);(·exact sA);(·first|exact pP|exact kP|exact pA|exact kA);(·first|(simp;done)|(simp;rfl)|(simp [hq];done)|(simp [hq];rfl));(·first|omega|(simp;omega));(·intro _ _;trivial);rintro zn zn zA hS hw zn;(try have hS:=lA hS);have hq:=nO hS hw)|(with_reducible apply twI;(·first|(simp;done)|(simp;rfl));(·first|(simp;done)|(simp;rfl));(·exact wA);(·exact sA);(·first|exact pP|exact kP|exact pA|exact kA);(·first|(simp;done)|(simp;rfl)|(simp [hq];done)|(simp [hq];rfl));(·first|omega|(simp;omega));(·intro _ _;trivial);rintro zn zn zA hS hw zn;(try have hS:=lA hS);have hq:=nO hS hw)|(with_reducible apply twU;(·first|(simp;done)|(simp;rfl));(·first|(simp;done)|(simp;rfl));(·exact wA);(·exact sA);(·first|exact pP|exact kP|exact pA|exact kA);(·first|(simp;done)|(simp;rfl)|(simp [hq];done)|(simp [hq];rfl));(·first|omega|(simp;omega));(·intro _ _;trivial);rintro zn zn zA hS hw zn;(try have hS:=lA hS);have hq:=nO hS hw)|(refine Sp λR hR=>?_;(first|simp [af,an,zx,hq]|simp [af,an,zx]);try simp (disch:=omega) only [ay,aw,af,an])|(refine OM (λR hR=>?_) (λR hR=>?_)<;>(first|(with_reducible apply lhI;(·first|(simp;done)|(simp;rfl));(·first|(simp;done)|(simp;rfl));(·exact wA);(·exact sA);(·first|exact pP|exact kP|exact pA|exact kA);(·first|(simp;done)|(simp;rfl)|(simp [hq];done)|(simp [hq];rfl));(·first|omega|(simp;omega));(·intro _ _;trivial);rintro zn zn zA hS hw zn;(try have hS:=lA hS);have hq:=nO hS hw)|(with_reducible apply lhU;(·first|(simp;done)|(simp;rfl));(·first|(simp;done)|(simp;rfl));(·exact wA);(·exact sA);(·first|exact pP|exact kP|exact pA|exact kA);(·first|(simp;done)|(simp;rfl)|(simp [hq];done)|(simp [hq];rfl));(·first|omega|(simp;omega));(·intro _ _;trivial);rintro zn zn zA hS hw zn;(try have hS:=lA hS);have hq:=nO hS hw)|((first|simp [af,an,zx,hq]|simp [af,an,zx]);try simp (disch:=omega) only [ay,aw,af,an])))|refine So ?_|(refine wlG ?_;first|refine Sj z1 Tryz.mx (by decide +kernel) λK hK=>?_|refine Sk z1 Tryz.mx (by decide +kernel) λK hK=>?_|refine Sj z2 Tryz.mx (by decide +kernel) λK hK=>?_|refine Sk z2 Tryz.mx (by decide +kernel) λK hK=>?_|refine Sj z3 Tryz.mx (by decide +kernel) λK hK=>?_|refine Sk z3 Tryz.mx (by decide +kernel) λK hK=>?_|refine Sj z4 Tryz.mx (by decide +kernel) λK hK=>?_|refine Sk z4 Tryz.mx (by decide +kernel) λK hK=>?_|refine Sj z5 Tryz.mx (by decide +kernel) λK hK=>?_|refine Sk z5 Tryz.mx (by decide +kernel) λK hK=>?_|refine Sj z6 Tryz.mx (by decide +kernel) λK hK=>?_|refine Sk z6 Tryz.mx (by decide +kernel) λK hK=>?_|refine Sj z7 Tryz.mx (by decide +kernel) λK hK=>?_|refine Sk z7 Tryz.mx (by decide +kernel) λK hK=>?_|refine Sj z8 Tryz.mx (by decide +kernel) λK hK=>?_|refine Sk z8 Tryz.mx (by decide +kernel) λK hK=>?_|refine Sj z9 Tryz.mx (by decide +kernel) λK hK=>?_|refine Sk z9 Tryz.mx (by decide +kernel) λK hK=>?_|refine Sj Uy Tryz.mx (by decide +kernel) λK hK=>?_|refine Sk Uy Tryz.mx (by decide +kernel) λK hK=>?_|refine Sj z11 Tryz.mx (by decide +kernel) λK hK=>?_|refine Sk z11 Tryz.mx (by decide +kernel) λK hK=>?_|refine Sj z12 Tryz.mx (by decide +kernel) λK hK=>?_|refine Sk z12 Tryz.mx (by decide +kernel) λK hK=>?_|refine Sj z13 Tryz.mx (by decide +kernel) λK hK=>?_|refine Sk z13 Tryz.mx (by decide +kernel) λK hK=>?_)|(refine twG ?_;simp only [bI,u6,mJ,Option.map_none,Option.map_some,List.getElem?_toArray,List.getElem?_cons_zero,List.getElem?_cons_succ,List.getD_cons_zero,List.getD_cons_succ,Option.bind_some])|(refine ⟨by simp [hq],?_⟩)|(refine ⟨⟨by simp [hq],by simp [hq],by simp [hq]⟩,?_⟩)|(refine ⟨λA' CB=>by simp [AW.ab,CB],?_⟩)|(refine ⟨λA' CB=>by rw [CB]<;>rfl,?_⟩)|(refine ⟨λA' g1 g2 g3=>by simp [AW.ab,g1,g2,g3],?_⟩)|(refine ⟨λA' x g1 g2 g3=>by simp [AW.ab,g1,g2,g3],?_⟩)|(refine iT λR hR=>?_;(first|simp [af,an,zx,hq]|simp [af,an,zx]);try simp (disch:=omega) only [ay,aw,af,an])|(refine hR _ _ ?_;try clear hR R)|(refine hK _ _ ?_;try clear hK K)|refine nx ?_|refine wn λK hK=>?_|simp only [wS]|(refine wlG ?_;first|refine BL z1 Tryz.mx (by decide +kernel) λK hK=>?_|refine BL z2 Tryz.mx (by decide +kernel) λK hK=>?_|refine BL z3 Tryz.mx (by decide +kernel) λK hK=>?_|refine BL z4 Tryz.mx (by decide +kernel) λK hK=>?_|refine BL z5 Tryz.mx (by decide +kernel) λK hK=>?_|refine BL z6 Tryz.mx (by decide +kernel) λK hK=>?_|refine BL z7 Tryz.mx (by decide +kernel) λK hK=>?_|refine BL z8 Tryz.mx (by decide +kernel) λK hK=>?_|refine BL z9 Tryz.mx (by decide +kernel) λK hK=>?_|refine BL Uy Tryz.mx (by decide +kernel) λK hK=>?_|refine BL z11 Tryz.mx (by decide +kernel) λK hK=>?_|refine BL z12 Tryz.mx (by decide +kernel) λK hK=>?_|refine BL z13 Tryz.mx (by decide +kernel) λK hK=>?_)|(refine acG ?_;first|(apply bx.fM;(·(first|apply z1|apply z2|apply z3|apply z4|apply z5|apply z6|apply z7|apply z8|apply z9|apply Uy|apply z11|apply z12|apply z13)<;>first|assumption|(simp [hq];done)|(refine gR ?_;simp [hq];rfl)|(simp [hq,zx];done)|omega|decide);(·exact wA);(·exact sA);(·first|exact pP|exact kP|exact pA|exact kA);(first|rintro _ zA rfl hS hw zn|rintro zn zA zn hS hw zn);have hS:=lA hS;(try (have hq:=nO hS hw)))|(apply bD;(·(first|apply z1|apply z2|apply z3|apply z4|apply z5|apply z6|apply z7|apply z8|apply z9|apply Uy|apply z11|apply z12|apply z13)<;>first|assumption|(simp [hq];done)|(refine gR ?_;simp [hq];rfl)|(simp [hq,zx];done)|omega|decide);(first|rintro _ _ ⟨rfl,rfl⟩ zn zn|rintro _ _ ⟨⟨zn,rfl⟩,rfl⟩ zn zn))|((first|apply @Tg.h 10 _ z1|apply @Tg.h 10 _ z2|apply @Tg.h 10 _ z3|apply @Tg.h 10 _ z4|apply @Tg.h 10 _ z5);(·exact wA);(·exact sA);(·first|exact pP|exact kP|exact pA|exact kA);)|((first|apply @Tg.h 14 _ z1|apply @Tg.h 14 _ z2|apply @Tg.h 14 _ z3|apply @Tg.h 14 _ z4|apply @Tg.h 14 _ z5);(·exact wA);(·exact sA);(·first|exact pP|exact kP|exact pA|exact kA);(·first|omega|(simp;omega)|(simp [hq];done));)|(apply bx.lj;(·first|apply @Tg.h 20 _ z1|apply @Tg.h 20 _ z2|apply @Tg.h 20 _ z3|apply @Tg.h 20 _ z4|apply @Tg.h 20 _ z5);(·exact wA);(·exact sA);(·exact fP);(·first|exact pP|exact kP|exact pA|exact kA);(first|rintro _ zA rfl hS hw zn|rintro zn zA zn hS hw zn);have hS:=lA hS;(try (have hq:=nO hS hw));all_goals(try (first|exact 0|exact undef)))|(apply bx.UK;(·first|apply @Tg.h 21 _ z1|apply @Tg.h 21 _ z2|apply @Tg.h 21 _ z3|apply @Tg.h 21 _ z4|apply @Tg.h 21 _ z5);(·exact wA);(·exact sA);(·exact fP);(·first|exact pP|exact kP|exact pA|exact kA);(first|rintro _ zA rfl hS hw zn|rintro zn zA zn hS hw zn);have hS:=lA hS;(try (have hq:=nO hS hw));all_goals(try (first|exact 0|exact undef)))|(apply Es;(·first|apply @Tg.h 30 _ z1|apply @Tg.h 30 _ z2|apply @Tg.h 30 _ z3|apply @Tg.h 30 _ z4|apply @Tg.h 30 _ z5);(·exact wA);(·exact sA);(·exact fP);all_goals(try (first|exact 0|exact undef)))|(apply eI.fM;(·first|apply @Tg.h 32 _ z1|apply @Tg.h 32 _ z2|apply @Tg.h 32 _ z3|apply @Tg.h 32 _ z4|apply @Tg.h 32 _ z5);(·exact wA);(·exact sA);(·first|exact pP|exact kP|exact pA|exact kA);(first|rintro xw _ zA rfl hS hw zn|rintro xw zn zA zn hS hw zn);(try (have hS:=lA hS));(try (have hq:=nO hS hw)))|((first|apply eI.fM (@Tg.h 36 _ z1 _)|apply eI.fM (@Tg.h 36 _ z2 _)|apply eI.fM (@Tg.h 36 _ z3 _)|apply eI.fM (@Tg.h 36 _ z4 _)|apply eI.fM (@Tg.h 36 _ z5 _)|apply eI.fM (@Tg.h 36 _ z1 _ _ _ _ _ _)|apply eI.fM (@Tg.h 36 _ z2 _ _ _ _ _ _)|apply eI.fM (@Tg.h 36 _ z3 _ _ _ _ _ _)|apply eI.fM (@Tg.h 36 _ z4 _ _ _ _ _ _)|apply eI.fM (@Tg.h 36 _ z5 _ _ _ _ _ _)|apply eI.fM (@Tg.h 36 _ z1 _ _ _ _ _ _ _ _ _)|apply eI.fM (@Tg.h 36 _ z2 _ _ _ _ _ _ _ _ _)|apply eI.fM (@Tg.h 36 _ z3 _ _ _ _ _ _ _ _ _)|apply eI.fM (@Tg.h 36 _ z4 _ _ _ _ _ _ _ _ _)|apply eI.fM (@Tg.h 36 _ z5 _ _ _ _ _ _ _ _ _)|apply eI.fM (@Tg.h 36 _ z1 _ _ _ _ _ _ _ _ _ _)|apply eI.fM (@Tg.h 36 _ z2 _ _ _ _ _ _ _ _ _ _)|apply eI.fM (@Tg.h 36 _ z3 _ _ _ _ _ _ _ _ _ _)|apply eI.fM (@Tg.h 36 _ z4 _ _ _ _ _ _ _ _ _ _)|apply eI.fM (@Tg.h 36 _ z5 _ _ _ _ _ _ _ _ _ _));(·exact wA);(·exact sA);(·first|exact pP|exact kP|exact pA|exact kA);(first|rintro xw _ zA rfl hS hw zn|rintro xw zn zA zn hS hw zn);(try (have hS:=lA hS));(try (have hq:=nO hS hw)))|((first|apply bx.fM (@Tg.h 37 _ z1 _)|apply bx.fM (@Tg.h 37 _ z2 _)|apply bx.fM (@Tg.h 37 _ z3 _)|apply bx.fM (@Tg.h 37 _ z4 _)|apply bx.fM (@Tg.h 37 _ z5 _)|apply bx.fM (@Tg.h 37 _ z1 _ _ _ _ _ _)|apply bx.fM (@Tg.h 37 _ z2 _ _ _ _ _ _)|apply bx.fM (@Tg.h 37 _ z3 _ _ _ _ _ _)|apply bx.fM (@Tg.h 37 _ z4 _ _ _ _ _ _)|apply bx.fM (@Tg.h 37 _ z5 _ _ _ _ _ _)|apply bx.fM (@Tg.h 37 _ z1 _ _ _ _ _ _ _ _ _)|apply bx.fM (@Tg.h 37 _ z2 _ _ _ _ _ _ _ _ _)|apply bx.fM (@Tg.h 37 _ z3 _ _ _ _ _ _ _ _ _)|apply bx.fM (@Tg.h 37 _ z4 _ _ _ _ _ _ _ _ _)|apply bx.fM (@Tg.h 37 _ z5 _ _ _ _ _ _ _ _ _));(·exact wA);(·exact sA);(·first|exact pP|exact kP|exact pA|exact kA);(first|rintro _ zA rfl hS hw zn|rintro zn zA zn hS hw zn);have hS:=lA hS;(try (have hq:=nO hS hw)))|(apply bx.useT;(·first|apply @Tg.h 34 _ z1|apply @Tg.h 34 _ z2|apply @Tg.h 34 _ z3|apply @Tg.h 34 _ z4|apply @Tg.h 34 _ z5);(·exact wA);(·exact sA);(·exact fT);(·first|exact pP|exact kP|exact pA|exact kA);(first|rintro _ zA rfl hS hw zn|rintro zn zA zn hS hw zn);(try (have hS:=lA hS));(try (have hq:=nO hS hw));all_goals(try (first|exact 0|exact undef)))|(apply eI.useT;(·first|apply @Tg.h 35 _ z1|apply @Tg.h 35 _ z2|apply @Tg.h 35 _ z3|apply @Tg.h 35 _ z4|apply @Tg.h 35 _ z5);(·exact wA);(·exact sA);(·exact fT);(·first|exact pP|exact kP|exact pA|exact kA);(first|rintro xw _ zA rfl hS hw zn|rintro xw zn zA zn hS hw zn);(try (have hS:=lA hS));(try (have hq:=nO hS hw));all_goals(try (first|exact 0|exact undef))))|refine wb ?_|refine wr ?_|refine wk ?_|refine we ?_|refine ws ?_|refine wq ?_|(refine wc rfl (λhc=>?_) (λhc=>?_)<;>(try simp at hc)<;>(try omega)<;>(try (simp [h2] at hc;done))<;>(try (simp [h3] at hc;done))<;>(try (simp [h4] at hc;done)))|(refine ib (λhc=>?_) (λhc=>?_)<;>(try omega)<;>(try simp (disch:=omega) only [ay,aw]))|((repeat (first|clear zc|clear zx|clear z1|clear z2|clear z3|clear z4|clear z5|clear z6|clear z7|clear z8|clear z9|clear Uy|clear z11|clear z12|clear z13));(try (revert hq;have zq:=zk;clear zq));(repeat clear hq);(try (revert hS;have zq:=zk;clear zq));(repeat clear hS);(try (revert hw;have zq:=zk;clear zq));(repeat clear hw);(repeat (first|(revert hc;have zq:=zk;clear zq)|(revert zn;have zq:=zk;clear zq)|(revert zA;have zq:=zk;clear zq)|(revert xw;have zq:=zk;clear zq)|(revert K;have zq:=zk;clear zq)|(revert hK;have zq:=zk;clear zq)|(revert R;have zq:=zk;clear zq)|(revert hR;have zq:=zk;clear zq)));first|with_reducible refine zk.h|with_reducible refine zk.h.1|with_reducible refine zk.h.2.1))
 . repeat' (first|exact .T|apply Df.C|exact .A)):G:=s.1 c x ⟨k⟩
end
theorem cx:True:=trivial
theorem bC [Gl]:(∀(A:AW) (i:Nat),A.bS i=match A.bk i with|some (.cells cs _ _)=>qc cs|_=>qh)/\∀(P:ql) (A:AW) (t:qr) (p:qL) (v:qd),aG P A t p v=match A.bk p.block,P.info? t with|some (.cells cs qg unit),qc i=>if v.cells.size=i.size/\p.off+i.size<=cs.length/\v.cells.toList.all Zz then qc (A.set p.block (qc (.cells (fY cs p.off v.cells.toList) qg unit))) else qh|_,_=>qh:=⟨AW.ab,@aG.eq_1⟩
theorem aK [Gl] {P:Program} {f:FuncId} {fn:Func} {c:Code} {args:List Value} {A:AW} {R:Value->AW->Prop} (hf:P.funcs[f]? = some fn) (h:A.Wf->cM P fn.ntmps c (aX P fn R) (GM args) A) (hb:fn.body=some c:=by rfl) (mF:N9 fn args.length=true:=by kernel_rfl):aB P f args A R:=EF hf hb mF h
theorem zd {i:Nat} (h:i<9223372036854775807:=by omega):IntKind.i64.wrap ((i:Int)+1)=((i+1:Nat):Int):=af (by omega) (by omega)
end Go.Stx
