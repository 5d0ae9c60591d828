/-
 Contracts over the abstract memory: slices, assertions, maps, regions that draw their order.
-/
import Derived.Test.YtipomeafemoelaaGreatDoorF0
import Derived.Sort.Grow
import Derived.Orders
import Derived.KernelRfl
set_option linter.unusedVariables false
set_option linter.unusedSimpArgs false
set_option linter.unusedSectionVars false
set_option maxRecDepth 20000
namespace Go.Stx
open Go
variable [Gl]
def dB (B:Nat) (A:AW) (size:Nat) (v:Value) (n:Nat) (cs:List Value):Prop:=
 (v=.slice none 0 0/\n=0/\cs=[]) \/
 ∃p c bP,v=.slice (some p) n c/\n<=c/\p.spot=none/\B<=p.block/\A.bg p.block=some (.cells bP true size)/\p.off+n*size<=bP.length/\cs=(bP.drop p.off).take (n*size)
theorem dB.is {B:Nat} {A:AW} {size:Nat} {v:Value} {n:Nat} {cs:List Value} (h:dB B A size v n cs):dM A size v n cs:=by
 rcases h with ⟨h1,h2,h3⟩|⟨p,c,bP,h1,h2,_,_,h3,h4,h5⟩;exact .inl ⟨⟨none,h1⟩,h2,h3⟩;exact .inr ⟨p,c,bP,true,size,h1,h2,h3,rfl,h4,h5⟩
theorem dB.nil (B:Nat) (A:AW) (size:Nat):dB B A size (.slice none 0 0) 0 []:=.inl ⟨rfl,rfl,rfl⟩
theorem dB.le {B:Nat} {A A':AW} (hl:A.le A') (hw:A.Wf) {size:Nat} {v:Value} {n:Nat} {cs:List Value} (h:dB B A size v n cs):dB B A' size v n cs:=by
 rcases h with h|⟨p,c,bP,h1,h2,hs,h3,h4,h5⟩;exact .inl h;exact .inr ⟨p,c,bP,h1,h2,hs,h3,hl.oK hw h4,h5⟩
def fa:Value->Option Nat
 | .slice (some p) _ _=>some p.block
 | _=>none
theorem dB.length {B:Nat} {A:AW} {size:Nat} {v:Value} {n:Nat} {cs:List Value} (h:dB B A size v n cs):cs.length=n*size:=h.is.length
theorem DF {A:AW} {size:Nat} {x:Value} {m:Nat} {lK:List Value} (h:fK A size x=some (m,lK)):lK.length=m*size:=by
 unfold fK at h;split at h;simp only [Option.some.injEq,Prod.mk.injEq] at h;obtain⟨rfl,rfl⟩:=h;simp;split at h;simp only [Option.some.injEq,Prod.mk.injEq] at h;obtain⟨rfl,rfl⟩:=h;simp;split at h;split at h;simp only [Option.some.injEq,Prod.mk.injEq] at h;obtain⟨rfl,rfl⟩:=h;simp;omega;cases h;cases h;cases h
theorem jm {P:Program} {A:AW} {t e:TypeId} {i:TypeInfo} {z:Value} {B:Nat} {v x:Value} {n m size:Nat} {cs lK:List Value}
 (hu:P.underlying t=some (.slice e)) (hi:P.info? e=some i) (hz:i.zero=some z) (gv:i.size=size) (nA:z.cells.size=size) (h0:0<size)
 (gB:dB B A size v n cs) (iF:fK A size x=some (m,lK)) (lN:lK.all Value.oneCell'=true) (k7:n+m<=140737488355328) (hb:(n+m)*i.bytes<=140737488355328)
 (hB:B<=A.next) (hw:A.Wf) :
 ∃v' A',eU P A t t v x=some (v',A')/\dB B A' size v' (n+m) (cs++lK)/\(∀A0:AW,A0.next<=B->A0.le A->A0.le A')/\A'.Wf/\A.next<=A'.next/\
  (∀j,j<A.next->fa v≠some j->A'.bg j=A.bg j)/\(v'=v\/fa v'=some A.next):=by
 subst gv;have bG:=gB.length;have AI:=DF iF;by_cases hm:m=0;subst hm;have N5:lK=[]:=List.eq_nil_of_length_eq_zero (by omega);subst N5;have holds:∃b,gr A i.size v=some (b,n,cs):=by
  rcases gB with ⟨rfl,rfl,rfl⟩|⟨p,c,bP,rfl,hc,xB,_,hg,eJ,rfl⟩;exact⟨none,rfl⟩;exact⟨some p,by simp [gr,xB,hg,eJ]⟩
 obtain⟨b,vG⟩:=holds;refine⟨v,A,?_,by simpa using gB,λA0 _ h=>h,hw,Nat.le_refl _,λj _ _=>rfl,.inl rfl⟩;simp [eU,hu,hi,hz,nA,h0,iF,vG];rcases gB with ⟨rfl,rfl,rfl⟩|⟨p,c,bP,rfl,hc,xB,hBp,hg,eJ,rfl⟩;refine⟨.slice (some ⟨A.next,0,none⟩) (0+m) (0+m),A.alloc (.cells lK true i.size),?_,?_,λA0 _ h=>h.trans (AW.le.alloc A _),hw.alloc _,by simp,λj hj _=>AW.fz _ _ (by omega),.inr rfl⟩;have ur:(0+m)*i.bytes<=140737488355328:=hb;have hb2':0+m<=140737488355328:=k7;simp only [eU,hu,hi,hz,iF,gr];rw [if_pos ⟨nA,h0,trivial⟩,if_neg hm,if_pos ⟨hb2',ur,lN⟩];simp;refine .inr ⟨⟨A.next,0,none⟩,0+m,lK,rfl,Nat.le_refl _,rfl,hB,AW.bM _ _,by simp;omega,?_⟩;simp only [ag,List.drop_zero,Nat.zero_add];rw [List.take_of_length_le (by omega)];have bL:=hw.lt hg;refine⟨.slice (some ⟨A.next,0,none⟩) (n+m) (n+m),(A.set p.block none).alloc (.cells ((bP.drop p.off).take (n*i.size)++lK) true i.size),?_,?_,?_,(hw.set none bL).alloc _,by simp,?_,.inr rfl⟩
 simp only [eU,hu,hi,hz,iF,gr,hg];have I1:¬(p.spot.isSome=true/\c=0/\n=0):=by simp [xB]
 rw [if_pos ⟨nA,h0,trivial⟩,if_neg I1,if_pos ⟨trivial,eJ⟩];simp only;rw [if_neg hm,if_pos ⟨k7,hb,lN⟩];refine .inr ⟨⟨A.next,0,none⟩,n+m,(bP.drop p.off).take (n*i.size)++lK,rfl,Nat.le_refl _,rfl,hB,?_,?_,?_⟩;have:=AW.bM (A.set p.block none) (.cells ((bP.drop p.off).take (n*i.size)++lK) true i.size)
 simpa using this
 have:((bP.drop p.off).take (n*i.size)++lK).length=(n+m)*i.size:=by
  rw [List.length_append,bG,AI,Nat.add_mul]
 show 0+(n+m)*i.size<=_;omega;have:((bP.drop p.off).take (n*i.size)++lK).length=(n+m)*i.size:=by
  rw [List.length_append,bG,AI,Nat.add_mul]
 exact(List.take_of_length_le (Nat.le_of_eq this)).symm;intro A0 hA0 hl;exact(hl.set (by omega) none).trans (AW.le.alloc _ _);intro j hj hU;rw [AW.fz _ _ (by simp;omega),AW.aY (λe=>hU (by simp [fa,e]))]
theorem dM.ng {A:AW} {size:Nat} {v:Value} {n:Nat} {cs:List Value} (h:dM A size v n cs):fK A size v=some (n,cs):=by
 rcases h with ⟨⟨o,rfl⟩,rfl,rfl⟩|⟨p,c,bP,own,u,rfl,hc,hg,_,eJ,rfl⟩;cases o<;>simp [fK];by_cases h0:n=0;subst h0;simp [fK];simp [fK,h0,AW.wQ hg,eJ]
def dx (B:Nat) (A:AW) (k:IntKind) (v:Value) (l:List Int):Prop:=dB B A 1 v l.length (l.map (Value.int k))
theorem dx.is {B:Nat} {A:AW} {k:IntKind} {v:Value} {l:List Int} (h:dx B A k v l):bx A k v l:=dB.is h
theorem dx.nil (B:Nat) (A:AW) (k:IntKind):dx B A k (.slice none 0 0) []:=dB.nil B A 1
theorem dx.le {B:Nat} {A A':AW} (hl:A.le A') (hw:A.Wf) {k:IntKind} {v:Value} {l:List Int} (h:dx B A k v l):dx B A' k v l:=dB.le hl hw h
theorem DD {P:Program} {A:AW} {t e:TypeId} {i:TypeInfo} {z:Value} {B:Nat} {v:Value} {k:IntKind} {l:List Int} (y:Int)
 (hu:P.underlying t=some (.slice e)) (hi:P.info? e=some i) (hz:i.zero=some z) (gv:i.size=1) (nA:z.cells.size=1)
 (gB:dx B A k v l) (bG:l.length<2 ^ 40) (vJ:i.bytes<=8) (hB:B<=A.next) (hw:A.Wf) :
 ∃v' A',eU P (A.alloc (.cells [.int k y] true 1)) t t v (.slice (some ⟨A.next,0,none⟩) 1 1)=some (v',A')/\dx B A' k v' (l++[y])/\
  (∀A0:AW,A0.next<=B->A0.le A->A0.le A')/\A'.Wf/\A.next<=A'.next:=by
 have yp:=dx.le (AW.le.alloc A (.cells [.int k y] true 1)) hw gB;have iF:fK (A.alloc (.cells [.int k y] true 1)) 1 (.slice (some ⟨A.next,0,none⟩) 1 1)=some (1,[.int k y]):=by
  simp [fK,AW.bP]
 have hb:(l.length+1)*i.bytes<=140737488355328:=by
  have:=Nat.mul_le_mul_left (l.length+1) vJ;omega
 obtain⟨v',A',h1,h2,h3,h4,h5,_⟩:=jm (P:=P) (t:=t) hu hi hz gv nA (by omega) yp iF rfl (by omega) hb (by simp;omega) (hw.alloc _);refine⟨v',A',h1,?_,λA0 ha hl=>h3 A0 ha (hl.trans (AW.le.alloc A _)),h4,by simp at h5;omega⟩;unfold dx
 simpa using h2
theorem AR {P:Program} {A:AW} {t e:TypeId} {i:TypeInfo} {z:Value} {B:Nat} {v x:Value} {k:IntKind} {l l2:List Int}
 (hu:P.underlying t=some (.slice e)) (hi:P.info? e=some i) (hz:i.zero=some z) (gv:i.size=1) (nA:z.cells.size=1)
 (gB:dx B A k v l) (hx:bx A k x l2) (bG:l.length+l2.length<2 ^ 40) (vJ:i.bytes<=8) (hB:B<=A.next) (hw:A.Wf) :
 ∃v' A',eU P A t t v x=some (v',A')/\dx B A' k v' (l++l2)/\(∀A0:AW,A0.next<=B->A0.le A->A0.le A')/\A'.Wf/\A.next<=A'.next:=by
 have hb:(l.length+l2.length)*i.bytes<=140737488355328:=by
  have:=Nat.mul_le_mul_left (l.length+l2.length) vJ;omega
 obtain⟨v',A',h1,h2,h3,h4,h5,_⟩:=jm (P:=P) (t:=t) hu hi hz gv nA (by omega) gB hx.ng (by simp [Value.oneCell']) (by omega) hb hB hw;refine⟨v',A',h1,?_,h3,h4,h5⟩;unfold dx
 simpa using h2
end Go.Stx
namespace Go.Stx
open Go
variable [Gl]
def AW.mu:AW:=⟨Gl.N,λ_=>none⟩
def Mp.mu:Mp:=λg=>if Gl.ok g=true then some ⟨g,0,1,Lz g⟩ else none
def AW.tz (A:AW):Prop:=∀i o,A.bg i=some o->o.own=false
theorem jM.mu (w:World) (hl:∀b x,Gl.B b=some x->w.heap[b]? = some x):jM Mp.mu AW.mu w:=⟨λi o h=>(by cases h),λi j o o' p p' h=>(by cases h),λi hi=>if_neg λh=>absurd (Gl.lt i h) (by simp only [AW.mu] at hi;omega),λ_ _=>rfl,hl,λi o p h=>(by cases h),λg hg=>if_pos hg⟩
theorem AW.tz.mu:AW.mu.tz:=λi o h=>by cases h
theorem jM.MV {m:Mp} {A:AW} {w:World} (hs:jM m A w) (zO:A.tz) (cs:List Value) (p:Pl) {io:Array Value} {e:TypeId} {fr:Nat×Nat}
 (hb:w.heap[p.block]? = some (.cells io e fr)) (xg:io.size=p.xE)
 (up:∀(k:Nat) (v:Value),cs[k]? = some v->∃v',io[p.base+k]? = some v'/\bB m v v') :
 jM (m.ext A.next p) (A.alloc (.cells cs false p.unit)) w/\(A.alloc (.cells cs false p.unit)).tz:=by
 have eJ:=hs.CJ p;have qy:∀{j},j≠A.next->(m.ext A.next p) j=m j:=λ{j} h=>by simp [Mp.ext,h]
 have rp:∀{j},j≠A.next->(A.alloc (.cells cs false p.unit)).bg j=A.bg j:=λ{j} h=>by simp [AW.alloc,h]
 have xd:(m.ext A.next p) A.next=some p:=by simp [Mp.ext]
 have Oi:(A.alloc (.cells cs false p.unit)).bg A.next=some (.cells cs false p.unit):=by simp [AW.alloc]
 have Lm:(A.alloc (.cells cs false p.unit)).tz:=by
  intro i o hi;by_cases hn:i=A.next;subst hn;rw [Oi] at hi;injection hi with hi;subst hi;rfl
  rw [rp hn] at hi;exact zO i o hi
 refine⟨⟨?_,?_,?_,?_,hs.laid,λi o q hi ho=>(by rw [Lm i o hi] at ho;cases ho),hs.uu.mono eJ⟩,Lm⟩;intro j o hj;by_cases hn:j=A.next;subst hn;rw [Oi] at hj;injection hj with hj;subst hj;exact⟨p,xd,io,e,fr,hb,λh=>(by cases h),rfl,xg,λk v hv=>(by obtain⟨v',h1,h2⟩:=up k v hv;exact⟨v',h1,h2.mono eJ⟩)⟩;rw [rp hn] at hj;obtain⟨p',h1,h2⟩:=hs.Ev j o hj;exact⟨p',by rw [qy hn];exact h1,h2.mono eJ⟩;intro i j o o' p1 p2 hi y6;have:=Lm i o hi;rw [y6] at this;cases this;intro i hi;have:i≠A.next:=by simp at hi;omega
 rw [qy this];exact hs.qW i (by simp at hi;omega);intro i hi;have:i≠A.next:=by simp at hi;omega
 rw [rp this];exact hs.xz i (by simp at hi;omega)
theorem CN {m:Mp} {A:AW} {w:World} (hs:jM m A w) (zO:A.tz) {k:IntKind} {a:Option Addr} {len ef:Nat} {zs:List Int}
 (h:(a=none/\len=0/\ef=0/\zs=[]) \/
  ∃x,a=some x/\len<=ef/\ef<=maxLen/\zs.length=ef/\(∀i,i<zs.length->w.cell? (x.add i)=some (.int k (zs.getD i 0)))/\∀n∈zs,(Lit.int k n).wf=true) :
 ∃m' A' v,Mp.le m m'/\A.le A'/\jM m' A' w/\A'.tz/\bB m' v (.slice a len ef)/\bx A' k v (zs.take len)/\len<=maxLen:=by
 rcases h with ⟨rfl,rfl,rfl,rfl⟩|⟨x,rfl,N8,Y2,hzl,hcell,_⟩;exact⟨m,A,.slice none 0 0,Mp.le_refl m,AW.le.refl A,hs,zO,.li,bx.nil A k,Nat.zero_le _⟩;by_cases Y4:ef=0;subst Y4;have:len=0:=by omega
 subst this;refine⟨m,A,.slice (some ⟨0,0,some 0⟩) 0 0,Mp.le_refl m,AW.le.refl A,hs,zO,.slice (.inr ⟨rfl,rfl,.inl rfl⟩) (Nat.le_refl _) (Nat.le_refl _),?_,Nat.zero_le _⟩;rw [List.take_zero];exact .inl ⟨⟨_,rfl⟩,rfl,rfl⟩;have h0:=hcell 0 (by omega);rw [show x.add 0=x by unfold Addr.add;simp] at h0;have xB:x.spot=none:=by
  unfold World.cell? at h0;split at h0;split at h0;cases h0;rename_i xB;simpa using xB;cases h0
 have C9:∃io e fr,w.heap[x.block]? = some (.cells io e fr):=by
  unfold World.cell? at h0;split at h0;rename_i c e fr hh;exact⟨c,e,fr,hh⟩;cases h0
 obtain⟨io,e,fr,C9⟩:=C9;have QN:∀i,i<ef->io[x.off+i]? = some (.int k (zs.getD i 0)):=λi hi=>by
  have h1:=hcell i (by omega);rw [mX _ _ xB] at h1
  simpa [World.cell?,C9] using h1
 obtain⟨R0,Lm⟩:=jM.MV hs zO (zs.map (Value.int k)) ⟨x.block,x.off,1,io.size⟩ C9 rfl (λj v hv=>by
  rw [List.getElem?_map,Option.map_eq_some_iff] at hv;obtain⟨z,hz,rfl⟩:=hv;have hj:=(List.getElem?_eq_some_iff.1 hz).1;refine⟨_,QN j (by omega),?_⟩;rw [List.getD_eq_getElem?_getD,hz];exact .int k z)
 have QC:=(Array.getElem?_eq_some_iff.1 (QN (ef-1) (by omega))).1;refine⟨_,_,.slice (some ⟨A.next,0,none⟩) len len,hs.CJ _,AW.le.alloc A _,R0,Lm,?_,?_,by omega⟩;refine .slice (.inl ⟨rfl,xB,⟨x.block,x.off,1,io.size⟩,by simp [Mp.ext],rfl,rfl,?_⟩) (Nat.le_refl _) N8;show x.off+ef*1<=io.size;omega;refine .inr ⟨⟨A.next,0,none⟩,len,zs.map (Value.int k),false,1,?_,?_,AW.bM _ _,rfl,?_,?_⟩;rw [List.length_take,Nat.min_eq_left (by omega)];simp;omega;simp;omega;rw [List.drop_zero,List.length_take,Nat.min_eq_left (by omega),Nat.mul_one,List.map_take]
theorem Dy {P:Program} {f:FuncId} {args:List Value} {go:Array Value} {A:AW} {m:Mp} {w:World} {R:Value->AW->Prop} (h:ax P f args A R) (hR:∀v A',R v A'->v=.bool true)
 (hs:jM m A w) (zO:A.tz) (hl:iu m args go.toList):Calls P f go w λe w'=>e=.returned (.bool true)/\RowKit.Below w.heap.size w w':=by
 refine(h.2 m w go hs hl).mono ?_;rintro e w' ⟨v,v',m',A',rfl,ev,hv,hr⟩;have e1:=hR v A' hr;subst e1;cases hv;refine⟨rfl,ev.os,ev.tape,ev.output,ev.size,λk hk=>ev.tk k hk ?_⟩;rintro ⟨i,o,p,hi,y6,_⟩;have:=zO i o hi;rw [y6] at this;cases this
end Go.Stx
namespace Go.Stx
open Go
variable [Gl]
theorem sq:∀(l cs:List Value) (off j:Nat),off+l.length<=cs.length->(fh cs off l)[j]? = if off<=j/\j<off+l.length then l[j-off]? else cs[j]?
 | [],cs,off,j,_=>by
   simp [fh];omega
 | v::l,cs,off,j,h=>by
   simp only [List.length_cons] at h;rw [fh,sq l _ (off+1) j (by simp;omega)];by_cases h1:off+1<=j/\j<off+1+l.length;rw [if_pos h1,if_pos (by simp;omega)];rw [show j-off=(j-(off+1))+1 by omega,List.getElem?_cons_succ];rw [if_neg h1];by_cases h2:off=j;subst h2;rw [if_pos (by simp),List.getElem?_set_self (by omega)];simp;rw [if_neg (by simp;omega),List.getElem?_set_ne h2]
theorem Ez (w:World) (b:Nat) (f:Array Value->Array Value) {io:Array Value} {e:TypeId} {fr:Nat×Nat} (h:w.heap[b]? = some (.cells io e fr)) :
 (Go.Sort.mapBlock w b f).heap[b]? = some (.cells (f io) e fr):=by
 simp [Go.Sort.mapBlock,Array.getElem?_modify,h,Go.Sort.onCells]
theorem CF (w:World) (b j:Nat) (f:Array Value->Array Value) (h:j≠b):(Go.Sort.mapBlock w b f).heap[j]? = w.heap[j]?:=by
 simp [Go.Sort.mapBlock,Array.getElem?_modify,Ne.symm h]
theorem Kt {m:Mp} {A:AW} {w:World} (hs:jM m A w) {i off:Nat} {q:Pl} {bP:List Value} {k:IntKind} (d:List Int)
 (hg:A.bg i=some (.cells bP true 1)) (hm:m i=some q) (qf:off+d.length<=bP.length) :
 jN m A w m (A.set i (some (.cells (fh bP off (d.map (Value.int k))) true 1))) (Go.Sort.putRow (Value.int k) w q.block (q.base+off) d.toArray):=by
 obtain⟨p',N7,io,e',fr,hw,sd,hu,xg,xj⟩:=hs.Ev _ _ hg;rw [hm] at N7;injection N7 with N7;subst N7;obtain rfl:=sd rfl;refine jN.set hs hg hm hu (by simp [Go.Sort.putRow,Go.Sort.mapBlock]) rfl rfl rfl (Ez w q.block _ hw) (by simpa [Go.Sort.putCells] using xg) (λj hj=>CF w _ _ _ hj) ?_;intro j v hv;rw [sq _ _ _ _ (by simpa using qf)] at hv;simp only [List.length_map] at hv;by_cases hj:off<=j/\j<off+d.length;rw [if_pos hj,List.getElem?_map,List.getElem?_eq_getElem (by omega)] at hv;injection hv with hv;subst hv;obtain⟨v0,h0,_⟩:=xj j bP[j] (List.getElem?_eq_getElem (by omega));refine⟨.int k d[j-off],?_,.int _ _⟩;have bL:=(Array.getElem?_eq_some_iff.1 h0).1;simp only [Go.Sort.putCells,Array.getElem?_mapIdx,h0,Option.map_some,List.size_toArray];rw [if_pos (by omega)];have e1:q.base+j-(q.base+off)=j-off:=by omega
 rw [e1,getElem!_pos d.toArray (j-off) (by simp;omega)];simp;rw [if_neg hj] at hv;obtain⟨v0,h0,h1⟩:=xj j v hv;refine⟨v0,?_,h1⟩;simp only [Go.Sort.putCells,Array.getElem?_mapIdx,h0,Option.map_some,List.size_toArray];rw [if_neg (by omega)]
theorem jN.ahead {m:Mp} {A:AW} {w:World} (h:jM m A w) (n:Nat):jN m A w m A (Go.Sort.ahead w n):=
 ⟨Mp.le_refl m,h.GB rfl,Nat.le_refl _,rfl,rfl,rfl,Nat.le_refl _,λ_ _ _=>rfl,λ_ h=>.inl h,λ_ _=>rfl,λ_ h=>.inl h⟩
theorem jN.Jf {m:Mp} {A:AW} {w:World} (h:jM m A w) (os:Array Obj):jN m A w m A (Go.Sort.grow w os):=by
 have fe:∀b,b<w.heap.size->(Go.Sort.grow w os).heap[b]? = w.heap[b]?:=λb hb=>by
  show (w.heap++os)[b]? = _;rw [Array.getElem?_append_left hb]
 exact⟨Mp.le_refl m,OK.DV fe h,Nat.le_refl _,rfl,rfl,rfl,by simp [Go.Sort.grow],λb hb _=>fe b hb,λ_ h=>.inl h,λ_ _=>rfl,λ_ h=>.inl h⟩
theorem Mi {P:Program} {f:FuncId} (dl:jF P f=true) {n c:Nat} {A:AW} {p:Addr} {k:IntKind} {l d:List Int} {bP:List Value} {rv:Value} {ret:Addr->Nat->Value}
 (hn:n=l.length) (h0:0<l.length) (hc:n<=c) (hg:A.bg p.block=some (.cells bP true 1)) (qf:p.off+n<=bP.length) (hl:l.map (Value.int k)=(bP.drop p.off).take n) (hd:d.length=l.length)
 (VS:∀m a' iD,Ai m p a' iD->c<=iD->bB m rv (ret a' iD))
 (QO:∀jK off ef w,Go.Sort.Holds (Value.int k) w jK off l.toArray->jK<w.heap.size->l.length<=ef->Calls P f #[.slice (some ⟨jK,off,none⟩) l.length ef] w λe w'=>
  e=.returned (ret ⟨jK,off,none⟩ ef)/\∃n os,w'=Go.Sort.grow (Go.Sort.putRow (Value.int k) (Go.Sort.ahead w n) jK off d.toArray) os) :
 ax P f [.slice (some p) n c] A λu A'=>u=rv/\A'=A.set p.block (some (.cells (fh bP p.off (d.map (Value.int k))) true 1)):=by
 subst hn;refine⟨dl,λm w go hs Lo=>?_⟩;obtain⟨v',t',e1,hv,ht⟩:=Lo.lM;have e2:=ht.pj;subst e2;have ec:go = #[v']:=by apply Array.ext';exact e1
 subst ec;cases hv with
 | slice hh h1 h2=>
   rename_i a' iD;have BD:Ai m p a' iD:=by
    rcases hh with hh|hh;exact hh;omega
   have hsr0:=BD;obtain⟨g1,g2,q,g3,g4,g5,g6⟩:=BD;obtain⟨p',N7,io,e',fr,hw,sd,hu,xg,xj⟩:=hs.Ev _ _ hg;rw [g3] at N7;injection N7 with N7;subst N7;obtain rfl:=sd rfl;have ea:a'=⟨q.block,q.base+p.off,none⟩:=(by rw [yR a' g2,g4,g5]);subst ea;have hH:Go.Sort.Holds (Value.int k) w q.block (q.base+p.off) l.toArray:=by
    intro j hj;have tm:j<l.length:=by simpa using hj
    have bI:bP[p.off+j]? = some (.int k l[j]):=by
     have:(l.map (Value.int k))[j]? = some (.int k l[j]):=by rw [List.getElem?_map,List.getElem?_eq_getElem tm];rfl
     rw [hl,List.getElem?_take_of_lt tm,List.getElem?_drop] at this;exact this
    obtain⟨v0,h3,h4⟩:=xj _ _ bI;cases h4;rw [getElem!_pos l.toArray j hj];simp only [World.cell?,World.frozen?,hw];rw [Nat.add_assoc];simp [h3]
   refine(QO q.block (q.base+p.off) iD w hH (Array.getElem?_eq_some_iff.1 hw).1 (by omega)).mono ?_;rintro e w' ⟨rfl,n,os,rfl⟩;refine⟨rv,_,m,A.set p.block (some (.cells (fh bP p.off (d.map (Value.int k))) true 1)),rfl,?_,VS m _ iD hsr0 h2,rfl,rfl⟩;have WF:=jN.ahead hs n;have LK:=Kt (k:=k) WF.DV d hg g3 (off:=p.off) (by omega);exact(WF.trans LK).trans (jN.Jf LK.DV os)
theorem ax.mu {P:Program} {f:FuncId} (dl:jF P f=true) {o:Option Addr} {c:Nat} {A:AW} {rv:Value} {ret:Option Addr->Nat->Value}
 (VS:∀m o' c',bB m (.slice o 0 c) (.slice o' 0 c')->bB m rv (ret o' c'))
 (QO:∀o' c' w,Calls P f #[.slice o' 0 c'] w λe w'=>e=.returned (ret o' c')/\w'=w) :
 ax P f [.slice o 0 c] A λu A'=>u=rv/\A=A':=by
 refine⟨dl,λm w go hs Lo=>?_⟩;obtain⟨v',t',e1,hv,ht⟩:=Lo.lM;have e2:=ht.pj;subst e2;have ec:go = #[v']:=by apply Array.ext';exact e1
 subst ec;have Xg:∃o' c',v'=.slice o' 0 c':=by
  cases hv<;>exact⟨_,_,rfl⟩
 obtain⟨o',c',rfl⟩:=Xg;refine(QO o' c' w).mono ?_;rintro e w' ⟨rfl,rfl⟩;exact⟨rv,_,m,A,rfl,jN.refl hs,VS m _ _ hv,rfl,rfl⟩
theorem dx.bE {B:Nat} {A:AW} {k:IntKind} {v:Value} {l:List Int} (h:dx B A k v l) :
 (∃o c,v=.slice o 0 c/\l=[]/\0<=c)\/∃p c bP,v=.slice (some p) l.length c/\0<l.length/\l.length<=c/\p.spot=none/\B<=p.block/\A.bg p.block=some (.cells bP true 1)/\
  p.off+l.length<=bP.length/\l.map (Value.int k)=(bP.drop p.off).take l.length:=by
 rcases h with ⟨h1,h2,h3⟩|⟨p,c,bP,h1,h2,hs,hB,h3,h4,h5⟩;exact .inl ⟨none,0,h1,List.eq_nil_of_length_eq_zero h2,Nat.le_refl _⟩;by_cases h0:l.length=0;rw [h0] at h1;exact .inl ⟨some p,c,h1,List.eq_nil_of_length_eq_zero h0,Nat.zero_le _⟩;exact .inr ⟨p,c,bP,h1,by omega,h2,hs,hB,h3,by simpa using h4,by simpa using h5⟩
theorem Ct {B:Nat} {A:AW} {k:IntKind} {p:Addr} {c n:Nat} {bP:List Value} (d z:List Int) (hw:A.Wf) (hB:B<=p.block) (hs:p.spot=none) (hg:A.bg p.block=some (.cells bP true 1))
 (qf:p.off+(d++z).length<=bP.length) (hc:d.length<=c) (hn:n=d.length) :
 dx B (A.set p.block (some (.cells (fh bP p.off ((d++z).map (Value.int k))) true 1))) k (.slice (some p) n c) d:=by
 subst hn;refine .inr ⟨p,c,_,rfl,hc,hs,hB,AW.cm,?_,?_⟩;rw [Bi];simp at qf;omega;apply List.ext_getElem?;intro j;by_cases hj:j<d.length;rw [List.getElem?_take_of_lt (by omega),List.getElem?_drop,sq _ _ _ _ (by simpa using qf),if_pos (by simp;omega)];rw [show p.off+j-p.off=j by omega,List.map_append,List.getElem?_append_left (by simpa using hj)];rw [List.getElem?_eq_none (by simp;omega),List.getElem?_eq_none (by simp;omega)]
end Go.Stx
namespace Go.Stx
open Go
variable [Gl]
def kJ (bC:Array Oper):Bool:=(List.range bC.size).all λi=>match bC[i]? with
 | some o=>o.after.toList.all λe=>!Region.binds .any e || Nat.ble (e.on+1) i
 | none=>true
theorem mg {bC:Array Oper} (tr:kJ bC=true) {i:Nat} {o:Oper} (ho:bC[i]? = some o) {e:Edge} (he:e∈o.after) (hb:Region.binds .any e=true):e.on<i:=by
 have ha:=List.all_eq_true.1 tr i (List.mem_range.2 (Array.getElem?_eq_some_iff.1 ho).1);rw [ho] at ha;have h2:=List.all_eq_true.1 ha e (Array.mem_toList_iff.2 he);rw [hb] at h2;have h3:e.on+1<=i:=by simpa [Nat.ble_eq] using h2
 omega
def OP (P:Program) (bC:Array Oper) (o:Oper) (a:Fr) (A:AW) (k:Fr->AW->Prop):Prop:=
 if mO bC a o=true then iI P o.op (ia a) A (λv A'=>k (eA a o.dst v) A') else k (eA a o.dst undef) A
theorem Fm {md:Region.Mode} {bC:Array Oper} {listed:Array Bool} {i:Nat} (h:i∈Region.ready md bC listed) :
 ∃o,bC[i]? = some o/\listed.getD i true=false/\∀e∈o.after,Region.binds md e=true->listed.getD e.on false=true:=by
 simp only [Region.ready,List.mem_filter,List.mem_range,Bool.and_eq_true,Bool.not_eq_true'] at h;obtain⟨hi,h1,h2⟩:=h;refine⟨bC[i],Array.getElem?_eq_getElem hi,h1,λe he hb=>?_⟩;rw [Array.getElem?_eq_getElem hi] at h2;simp only [Option.map_some,Option.getD_some] at h2;have:=Array.all_eq_true_iff_forall_mem.1 h2 e he
 simpa [hb] using this
theorem xt {bC:Array Oper} (tr:kJ bC=true) {listed:Array Bool} (tI:listed.size=bC.size) (hr:Region.ready .any bC listed=[]) :
 ∀n i,i<n->i<bC.size->listed.getD i false=true
 | 0,i,h,_=>by omega
 | n+1,i,h,hi=>by
   by_cases vH:i<n;exact xt tr tI hr n i vH hi;by_cases hl:listed.getD i false=true;exact hl;exfalso;have tJ:i<listed.size:=(by omega);have GP:i∈Region.ready .any bC listed:=by
    simp only [Region.ready,List.mem_filter,List.mem_range,Bool.and_eq_true,Bool.not_eq_true'];refine⟨hi,?_,?_⟩;rw [Array.getD_eq_getD_getElem?,Array.getElem?_eq_getElem tJ] at hl ⊢
    simpa using hl
    rw [Array.getElem?_eq_getElem hi];simp only [Option.map_some,Option.getD_some];refine Array.all_eq_true_iff_forall_mem.2 λe he=>?_;cases hb:Region.binds .any e with
    | false=>simp
    | true=>
      have bL:=mg tr (Array.getElem?_eq_getElem hi) he hb;have:=xt tr tI hr n e.on (by omega) (by omega);simp [this]
   rw [hr] at GP;cases GP
theorem M5 {P:Program} {n:Nat} {Q:Exit->Fr->AW->Prop} {a:Fr} {A:AW} {id:Nat} {bC:Array Oper} (hm:P.follows .mixedOrders=true) (tr:kJ bC=true)
 (J:(Nat->Bool)->Fr->AW->Prop) (h0:J (λ_=>false) a A)
 (yl:∀S a A i o,A.Wf->J S a A->bC[i]? = some o->S i=false->(∀e∈o.after,Region.binds .any e=true->S e.on=true)->OP P bC o a A (J λj=>if j=i then true else S j))
 (rT:∀S a A,A.Wf->J S a A->(∀i,i<bC.size->S i=true)->Q .normal a A):cM P n (.region id bC true) Q a A:=by
 intro lZ m w ca hs hf;have CZ:bC.all (mC n)=true:=lZ;refine wp_region_any hm ?_
 have key:∀(fuel:Nat) (listed:Array Bool) (S:Nat->Bool) (a':Fr) (A':AW) (m':Mp) (w':World) (za:Act),listed.size=bC.size->(∀i,i<bC.size->listed.getD i false=S i)->
  (List.range bC.size).countP (λi=>!S i)<=fuel->J S a' A'->jN m A w m' A' w'->rC m' n a' za->
  wpAny P .any bC (λe za w'=>∃m' a' A',jN m A w m' A' w'/\rC m' n a' za/\Q e a' A') fuel listed za w':=by
  intro fuel
  induction fuel with
  | zero=>
    intro listed S a' A' m' w' za tI hS Y1 hJ FE sd;have k8:∀i,i<bC.size->S i=true:=by
     intro i hi;have:=List.countP_eq_zero.1 (Nat.le_zero.1 Y1) i (List.mem_range.2 hi)
     simpa using this
    refine⟨?_,m',a',A',FE,sd,rT S a' A' FE.DV.xz hJ k8⟩;rw [List.eq_nil_iff_forall_not_mem];intro i hi;obtain⟨o,ho,hl,_⟩:=Fm hi;have y7:=(Array.getElem?_eq_some_iff.1 ho).1;have:=hS i y7;rw [k8 i y7] at this;rw [Array.getD_eq_getD_getElem?,Array.getElem?_eq_getElem (by omega)] at this hl;simp only [Option.getD_some] at this hl;rw [this] at hl;cases hl
  | succ fuel ih=>
    intro listed S a' A' m' w' za tI hS Y1 hJ FE sd;refine⟨λhr=>⟨m',a',A',FE,sd,rT S a' A' FE.DV.xz hJ λi hi=>?_⟩,λi hi=>?_⟩;rw [<-hS i hi];exact xt tr tI hr (i+1) i (by omega) hi;obtain⟨o,ho,hl,ju⟩:=Fm hi;have y7:=(Array.getElem?_eq_some_iff.1 ho).1;have qV:S i=false:=by
     rw [<-hS i y7];rw [Array.getD_eq_getD_getElem?,Array.getElem?_eq_getElem (by omega)] at hl ⊢
     simpa using hl
    have YY:∀e∈o.after,Region.binds .any e=true->S e.on=true:=by
     intro e he hb;have h1:=ju e he hb;have bL:=mg tr ho he hb;rw [<-hS e.on (by omega)];exact h1
    have dv:=yl S a' A' i o FE.DV.xz hJ ho qV YY;have hoo:=Array.all_eq_true_iff_forall_mem.1 CZ o (Array.mem_of_getElem? ho);have UG:(List.range bC.size).countP (λj=>!(if j=i then true else S j))<=fuel:=by
     have e1:(List.range bC.size).countP (λj=>!(if j=i then true else S j))+1<=(List.range bC.size).countP (λj=>!S j):=by
      have GP:i∈List.range bC.size:=List.mem_range.2 y7;have key2:∀l:List Nat,i∈l->l.countP (λj=>!(if j=i then true else S j))+1<=l.countP (λj=>!S j):=by
       intro l;have mono:∀l:List Nat,l.countP (λj=>!(if j=i then true else S j))<=l.countP (λj=>!S j):=λl=>by
        refine List.countP_mono_left λx _ hx=>?_;by_cases e:x=i;simp [e] at hx
        simpa [e] using hx
       induction l with
       | nil=>intro h;cases h
       | cons x l ihl=>
         intro hx;rw [List.countP_cons,List.countP_cons];by_cases e:x=i;subst e;have:=mono l;simp [qV]
         simpa using this
         have VJ:i∈l:=by
          rcases List.mem_cons.1 hx with h|h;exact absurd h.symm e;exact h
         have:=ihl VJ;simp only [e,if_false];omega
      exact key2 _ GP
     omega
    have qh:∀j,j<bC.size->(listed.setIfInBounds i true).getD j false=if j=i then true else S j:=by
     intro j hj;by_cases e:j=i;subst e;rw [if_pos rfl,Array.getD_eq_getD_getElem?,Array.getElem?_setIfInBounds_self_of_lt (by omega)];rfl;rw [if_neg e,<-hS j hj,Array.getD_eq_getD_getElem?,Array.getD_eq_getD_getElem?,Array.getElem?_setIfInBounds_ne (by omega)]
    unfold OP at dv;unfold wpOp;rw [ho];simp only;rw [FJ sd CZ o];split at dv;rename_i hg;rw [if_pos hg];refine .inl (Ak FE.DV sd hoo dv ?_);intro v A2 m2 w2 ZC hk LK GS;exact ih _ _ _ A2 m2 w2 ZC (by simpa using tI) qh UG hk (FE.trans LK) GS;rename_i hg;rw [if_neg hg];simp only [mC,Bool.and_eq_true] at hoo;have hd:∀j,o.dst=some j->j<n:=λj e=>by have:=hoo.2;rw [e] at this;simpa using this
    exact ih _ _ _ A' m' w' _ (by simpa using tI) qh UG dv FE (sd.put hd (bB.undef m'))
 refine key bC.size _ (λ_=>false) a A m { w with drawn:=w.drawn+1 } ca (by simp) (λi hi=>by simp [Array.getD_eq_getD_getElem?,hi]) ?_ h0 (jN.drew hs) hf;exact Nat.le_trans (List.countP_le_length) (by simp)
end Go.Stx
namespace Go.Stx
open Go
variable [Gl]
abbrev Hp:=Nat->Option dH
def Hp.dj (h k:Hp):Prop:=∀i,h i=none\/k i=none
def Hp.un (h k:Hp):Hp:=λi=>match h i with|some o=>some o|none=>k i
theorem Hp.M1 {h k:Hp} (d:Hp.dj h k):Hp.dj k h:=λi=>(d i).symm
theorem Hp.Mb {h k:Hp} (d:Hp.dj h k):Hp.un h k=Hp.un k h:=by
 funext i;simp only [Hp.un];rcases d i with e|e;rw [e];cases k i<;>rfl;rw [e];cases h i<;>rfl
theorem Hp.HZ (h k l:Hp):Hp.un (Hp.un h k) l=Hp.un h (Hp.un k l):=by
 funext i;simp only [Hp.un];cases h i<;>rfl
theorem Hp.uS {h k:Hp} {i:Nat}:Hp.un h k i=none↔h i=none/\k i=none:=by
 simp only [Hp.un];cases h i<;>simp
structure HP where
 holds:Hp->Prop
@[ext] theorem HP.ext' {P Q:HP} (h:∀x,P.holds x↔Q.holds x):P=Q:=by
 obtain⟨p⟩:=P;obtain⟨q⟩:=Q;congr;funext x;exact propext (h x)
def HP.Vb (P Q:HP):HP:=⟨λh=>∃h1 h2,Hp.dj h1 h2/\h=Hp.un h1 h2/\P.holds h1/\Q.holds h2⟩
instance:Mul HP:=⟨HP.Vb⟩
theorem wM {P Q:HP} {h:Hp}:(P*Q).holds h↔∃h1 h2,Hp.dj h1 h2/\h=Hp.un h1 h2/\P.holds h1/\Q.holds h2:=Iff.rfl
theorem HP.mul_comm (P Q:HP):P*Q=Q*P:=by
 ext h;simp only [wM];constructor;rintro ⟨a,b,d,rfl,p,q⟩;exact⟨b,a,Hp.M1 d,Hp.Mb d,q,p⟩;rintro ⟨a,b,d,rfl,p,q⟩;exact⟨b,a,Hp.M1 d,Hp.Mb d,q,p⟩
theorem HP.cx (P Q R:HP):P*Q*R=P*(Q*R):=by
 ext h;simp only [wM];constructor;rintro ⟨_,c,d,rfl,⟨a,b,d1,rfl,p,q⟩,r⟩;refine⟨a,Hp.un b c,λi=>?_,Hp.HZ _ _ _,p,b,c,λi=>?_,rfl,q,r⟩;rcases d i with e|e;exact .inl (Hp.uS.1 e).1;rcases d1 i with e1|e1;exact .inl e1;exact .inr (Hp.uS.2 ⟨e1,e⟩);rcases d i with e|e;exact .inl (Hp.uS.1 e).2;exact .inr e;rintro ⟨a,_,d,rfl,p,b,c,d1,rfl,q,r⟩;refine⟨Hp.un a b,c,λi=>?_,(Hp.HZ _ _ _).symm,⟨a,b,λi=>?_,rfl,p,q⟩,r⟩;rcases d1 i with e|e;rcases d i with e1|e1;exact .inl (Hp.uS.2 ⟨e1,e⟩);exact .inr (Hp.uS.1 e1).2;exact .inr e;rcases d i with e1|e1;exact .inl e1;exact .inr (Hp.uS.1 e1).1
instance:Std.Associative (α:=HP) (·* ·):=⟨HP.cx⟩
instance:Std.Commutative (α:=HP) (·* ·):=⟨HP.mul_comm⟩
def eC:HP:=⟨λh=>h=λ_=>none⟩
def Bl (p:Prop):HP:=⟨λh=>p/\h=λ_=>none⟩
def pG {α:Type} (P:α->HP):HP:=⟨λh=>∃x,(P x).holds h⟩
def pt (i:Nat) (o:dH):HP:=⟨λh=>h=λj=>if j=i then some o else none⟩
def ma (h0:Hp):HP:=⟨λh=>h=h0⟩
theorem MK {p:Prop} {P:HP} {h:Hp}:(Bl p*P).holds h↔p/\P.holds h:=by
 simp only [wM];constructor;rintro ⟨a,b,d,rfl,⟨hp,rfl⟩,q⟩;exact⟨hp,q⟩;rintro ⟨hp,q⟩;exact⟨_,h,λ_=>.inl rfl,rfl,⟨hp,rfl⟩,q⟩
theorem Tc {α:Type} {P:α->HP} {Q:HP}:pG P*Q=pG λx=>P x*Q:=by
 ext h;constructor;rintro ⟨a,b,d,rfl,⟨x,p⟩,q⟩;exact⟨x,a,b,d,rfl,p,q⟩;rintro ⟨x,a,b,d,rfl,p,q⟩;exact⟨a,b,d,rfl,⟨x,p⟩,q⟩
theorem gL (P:HP):eC*P=P:=by
 ext h;constructor;rintro ⟨a,b,d,rfl,rfl,q⟩;exact q;intro q;exact⟨_,h,λ_=>.inl rfl,rfl,rfl,q⟩
theorem du (P:HP):P*eC=P:=by rw [HP.mul_comm,gL]
def bk (A:AW) (P:HP):Prop:=∃h,P.holds h/\∀i o,h i=some o->A.bg i=some o
def OL (P Q:HP):Prop:=∀h,P.holds h->Q.holds h
theorem OL.refl (P:HP):OL P P:=λ_ h=>h
theorem OL.Vb {P P' Q Q':HP} (h:OL P P') (k:OL Q Q'):OL (P*Q) (P'*Q'):=λ_ ⟨a,b,d,e,p,q⟩=>⟨a,b,d,e,h a p,k b q⟩
theorem OL.left {P P':HP} (Q:HP) (h:OL P P'):OL (P*Q) (P'*Q):=OL.Vb h (OL.refl Q)
theorem bk.bY {A:AW} {P Q:HP} (h:bk A P) (e:OL P Q):bk A Q:=⟨h.choose,e _ h.choose_spec.1,h.choose_spec.2⟩
theorem bk.entl {A:AW} {P Q F:HP} (h:bk A (P*F)) (e:OL P Q):bk A (Q*F):=h.bY (e.left F)
theorem bk.dK {A:AW} {P Q:HP} (h:bk A P) (e:P=Q):bk A Q:=e▸h
theorem bk.right {A:AW} {P Q:HP} (h:bk A (P*Q)):bk A Q:=by
 obtain⟨_,⟨a,b,d,rfl,p,q⟩,hs⟩:=h;refine⟨b,q,λi o hi=>hs i o ?_⟩;simp only [Hp.un];rcases d i with e|e;rw [e];exact hi;rw [e] at hi;cases hi
theorem bk.left {A:AW} {P Q:HP} (h:bk A (P*Q)):bk A P:=(h.dK (HP.mul_comm P Q)).right
theorem bk.ex {α:Type} {A:AW} {P:α->HP} {F:HP}:bk A (pG P*F)↔∃x,bk A (P x*F):=by
 rw [Tc];constructor;rintro ⟨h,⟨x,p⟩,hs⟩;exact⟨x,h,p,hs⟩;rintro ⟨x,h,p,hs⟩;exact⟨h,⟨x,p⟩,hs⟩
theorem bk.pr {A:AW} {p:Prop} {F:HP}:bk A (Bl p*F)↔p/\bk A F:=by
 constructor;rintro ⟨h,hh,hs⟩;rw [MK] at hh;exact⟨hh.1,h,hh.2,hs⟩;rintro ⟨hp,h,hh,hs⟩;exact⟨h,MK.2 ⟨hp,hh⟩,hs⟩
theorem bk.PR {A A':AW} {P:HP} (h:bk A P) (e:∀i o,A.bg i=some o->A'.bg i=some o):bk A' P:=
 ⟨h.choose,h.choose_spec.1,λi o hi=>e i o (h.choose_spec.2 i o hi)⟩
theorem bk.le {A A':AW} {P:HP} (h:bk A P) (hw:A.Wf) (hl:A.le A'):bk A' P:=h.PR λi o hi=>hl.oK hw hi
theorem bk.bg {A:AW} {i:Nat} {o:dH} {F:HP} (h:bk A (pt i o*F)):A.bg i=some o:=by
 obtain⟨_,⟨a,b,d,rfl,rfl,q⟩,hs⟩:=h;exact hs i o (by simp [Hp.un])
theorem bk.ne {A:AW} {i j:Nat} {o o':dH} {F:HP} (h:bk A (pt i o*(pt j o'*F))):i≠j:=by
 obtain⟨_,⟨a,_,d,rfl,rfl,b,c,d1,rfl,rfl,q⟩,hs⟩:=h;rintro rfl;rcases d i with e|e;simp at e;simp [Hp.un] at e
theorem bk.DB {A A':AW} {i:Nat} {o:dH} {F:HP} (h:bk A (pt i o*F)) (e:∀j o',j≠i->A.bg j=some o'->A'.bg j=some o'):bk A' F:=by
 obtain⟨_,⟨a,b,d,rfl,rfl,q⟩,hs⟩:=h;refine⟨b,q,λj o' hj=>?_⟩;have mM:j≠i:=by
  rintro rfl;rcases d j with e|e;simp at e;rw [e] at hj;cases hj
 refine e j o' mM (hs j o' ?_);simp [Hp.un,mM,hj]
theorem bk.cons {A:AW} {i:Nat} {o:dH} {F:HP} (hg:A.bg i=some o) (h:bk (A.set i none) F):bk A (pt i o*F):=by
 obtain⟨b,q,hs⟩:=h;have hb:b i=none:=by
  cases vK:b i with
  | none=>rfl
  | some x=>have:=hs i x vK;simp at this
 refine⟨_,⟨_,b,λj=>?_,rfl,rfl,q⟩,λj o' hj=>?_⟩;by_cases e:j=i;subst e;exact .inr hb;exact .inl (by simp [e]);by_cases e:j=i;subst e;simp [Hp.un] at hj;rw [hg,hj];simp [Hp.un,e] at hj;have:=hs j o' hj;rwa [AW.aY e] at this
theorem bk.set {A:AW} {i:Nat} {o:dH} {F:HP} (h:bk A (pt i o*F)) (o':dH):bk (A.set i (some o')) (pt i o'*F):=by
 refine bk.cons AW.cm (h.DB λj x hj hx=>?_);rw [AW.aY hj,AW.aY hj];exact hx
theorem bk.KW {A:AW} {i:Nat} {o:dH} {F:HP} (h:bk A (pt i o*F)):bk (A.set i none) F:=
 h.DB λj x hj hx=>by rw [AW.aY hj];exact hx
theorem bk.alloc {A:AW} {F:HP} (h:bk A F) (hw:A.Wf) (o:dH):bk (A.alloc o) (pt A.next o*F):=by
 refine bk.cons (AW.bM A o) (h.PR λj x hx=>?_);have:=hw.lt hx;rw [AW.aY (by omega),AW.fz _ _ (by omega)];exact hx
theorem bk.oK {A:AW} {F:HP} (h:bk A F) (hw:A.Wf) (o:dH):bk (A.alloc o) F:=(h.alloc hw o).right
theorem bk.Vx {A:AW} {i j:Nat} {o o':dH} {P F:HP} (h:bk A (pt i o*(P*(pt j o'*F)))):i≠j:=
 bk.ne (h.dK (by ac_rfl:pt i o*(P*(pt j o'*F))=pt i o*(pt j o'*(P*F))))
theorem AW.eg (A:AW) (o:dH) (i:Nat):(A.alloc o).bg i=if i=A.next then some o else A.bg i:=rfl
theorem AW.dF (A:AW) (o:Option dH) (i j:Nat):(A.set i o).bg j=if j=i then o else A.bg j:=rfl
theorem AW.af (A:AW) (i:Nat):A.bP i=match A.bg i with|some (.cells cs _ _)=>some cs|_=>none:=rfl
theorem AW.Wf.fe {A:AW} (hw:A.Wf) {i:Nat} {o:dH} (hg:A.bg i=some o):(i=A.next)=False/\∀k,(i=A.next+k)=False:=by
 have:=hw.lt hg;exact⟨eq_false (by omega),λk=>eq_false (by omega)⟩
theorem bk.post {A:AW} {p:Prop} {Q F:HP} (hp:p) (h:bk A (Q*F)):bk A (Bl p*Q*F):=by
 rw [HP.cx,bk.pr];exact⟨hp,h⟩
theorem bk.pL {A:AW} {p:Prop} {Q F:HP} (h:bk A (Bl p*Q*F)):p/\bk A (Q*F):=by
 rw [HP.cx,bk.pr] at h;exact h
theorem bk.Sh {A A':AW} {b:Nat} {o o':dH} {F:HP} (h:bk A (pt b o*F)) (h1:A'.bg b=some o') (hk:∀j x,j≠b->A.bg j=some x->A'.bg j=some x):bk A' (pt b o'*F):=
 bk.cons h1 (h.DB λj x hj hx=>by rw [AW.aY hj];exact hk j x hj hx)
theorem bk.upd2 {A A':AW} {b c:Nat} {o o' p p':dH} {F:HP} (h:bk A (pt b o*(pt c p*F))) (h1:A'.bg b=some o') (h2:A'.bg c=some p')
 (hk:∀j x,j≠b->j≠c->A.bg j=some x->A'.bg j=some x):bk A' (pt b o'*(pt c p'*F)):=by
 have Xq:=h.ne;have e1:bk (A'.set b (some o)) (pt b o*(pt c p'*F)):=by
  have h':bk A (pt c p*(pt b o*F)):=h.dK (by ac_rfl);refine(bk.Sh h' (by rw [AW.aY (Ne.symm Xq)];exact h2) λj x hj hx=>?_).dK (by ac_rfl);by_cases e:j=b;subst e;rw [AW.cm];rw [h.bg] at hx;exact hx;rw [AW.aY e];exact hk j x e hj hx
 exact bk.Sh e1 h1 λj x hj hx=>by rwa [AW.aY hj] at hx
theorem bk.upd3 {A A':AW} {b c d:Nat} {o o' p p' q q':dH} {F:HP} (h:bk A (pt b o*(pt c p*(pt d q*F)))) (h1:A'.bg b=some o') (h2:A'.bg c=some p') (h3:A'.bg d=some q')
 (hk:∀j x,j≠b->j≠c->j≠d->A.bg j=some x->A'.bg j=some x):bk A' (pt b o'*(pt c p'*(pt d q'*F))):=by
 have Xq:=h.ne;have hbd:=h.Vx;have e1:bk (A'.set b (some o)) (pt b o*(pt c p'*(pt d q'*F))):=by
  have h':bk A (pt c p*(pt d q*(pt b o*F))):=h.dK (by ac_rfl);refine(bk.upd2 h' (by rw [AW.aY (Ne.symm Xq)];exact h2) (by rw [AW.aY (Ne.symm hbd)];exact h3) λj x hj QG hx=>?_).dK (by ac_rfl);by_cases e:j=b;subst e;rw [AW.cm];rw [h.bg] at hx;exact hx;rw [AW.aY e];exact hk j x e hj QG hx
 exact bk.Sh e1 h1 λj x hj hx=>by rwa [AW.aY hj] at hx
theorem bk.Q9 {A A':AW} {b c:Nat} {o o' p:dH} {F:HP} (h:bk A (pt b o*(pt c p*F))) (h1:A'.bg b=some o') (hk:∀j x,j≠b->j≠c->A.bg j=some x->A'.bg j=some x):bk A' (pt b o'*F):=by
 have Xq:=h.ne;have h':bk A (pt c p*(pt b o*F)):=h.dK (by ac_rfl);have e1:bk (A'.set b (some o)) (pt b o*F):=h'.DB λj x hj hx=>by
  by_cases e:j=b;subst e;rw [AW.cm];rw [h.bg] at hx;exact hx;rw [AW.aY e];exact hk j x e hj hx
 exact bk.Sh e1 h1 λj x hj hx=>by rwa [AW.aY hj] at hx
theorem bk.Jn {A A':AW} {b c d:Nat} {o o' p q:dH} {F:HP} (h:bk A (pt b o*(pt c p*(pt d q*F)))) (h1:A'.bg b=some o') (hk:∀j x,j≠b->j≠c->j≠d->A.bg j=some x->A'.bg j=some x):bk A' (pt b o'*F):=by
 have Xq:=h.ne;have hbd:=h.Vx;have MO:=h.right.ne;have e1:bk (A'.set c (some p)) (pt b o'*(pt c p*F)):=by
  refine(bk.Q9 (b:=b) (c:=d) (o:=o) (p:=q) (F:=pt c p*F) (h.dK (by ac_rfl)) (by rw [AW.aY Xq];exact h1) λj x hj QG hx=>?_);by_cases e:j=c;subst e;rw [AW.cm];rw [h.right.bg] at hx;exact hx;rw [AW.aY e];exact hk j x hj e QG hx
 have e2:bk (A'.set c (some p)) (pt c p*(pt b o'*F)):=e1.dK (by ac_rfl);exact e2.DB λj x hj hx=>by rwa [AW.aY hj] at hx
theorem Hc {P:Program} {n:Nat} {c:Code} {Q:Exit->Fr->AW->Prop} {a:Fr} {A:AW} (J:AW->Prop) (hJ:J A) (h:∀A',J A'->cM P n c Q a A'):cM P n c Q a A:=h A hJ
def aH (P:Program) (n:Nat) (c:Code) (Q:Exit->Fr->AW->Prop):Nat->Fr->AW->Prop
 | 0,_,_=>False
 | k+1,a,A=>cM P n c (aL (aH P n c Q k) Q) a A
theorem ii {P:Program} {n:Nat} {c:Code} {Q:Exit->Fr->AW->Prop} {a:Fr} {A:AW} (k:Nat) (h:aH P n c Q k a A):cM P n (.loop c) Q a A:=by
 refine cW (aH P n c Q) k h ?_;intro k a A h;cases k with
 | zero=>exact h.elim
 | succ k=>exact yI h λe a A hh=>by cases e<;>first|exact⟨k,Nat.lt_succ_self k,hh⟩|exact hh
def oX (P:Program) (f:FuncId) (args:List Value) (pC:HP) (post:Value->HP):Prop:=
 ∀(A:AW) (F:HP),A.Wf->bk A (pC*F)->ax P f args A λv A'=>bk A' (post v*F)
theorem oX.use {P:Program} {f:FuncId} {args:List Value} {pC:HP} {post:Value->HP} (h:oX P f args pC post) {A:AW} {G F:HP} (hw:A.Wf) (hs:bk A G) (e:G=pC*F) {k:Value->AW->Prop}
 (hk:∀v A',bk A' (post v*F)->A'.Wf->A.next<=A'.next->k v A'):ax P f args A k:=
 bD (h A F hw (hs.dK e)) hk
end Go.Stx
namespace Go.Stx
open Go
variable [Gl]
def cL (n:Nat) (v:Value):Prop:=∀(m m':Mp) (x:Value),bB m v x->(∀i,i<n->m' i=m i)->bB m' v x
theorem cL.hY {n:Nat} {v:Value} (h:fl v=true):cL n v:=λm m' x hx _=>by
 have:=hx.mT h;subst this;exact .hY h m'
theorem cL.xM {n:Nat}:cL n (.pointer none):=λm m' x hx _=>by cases hx;constructor
theorem cL.li {n a b:Nat}:cL n (.slice none a b):=λm m' x hx _=>by cases hx;constructor
theorem cL.yd {n:Nat}:cL n (.map none):=λm m' x hx _=>by cases hx;constructor
theorem cL.nilFunc {n:Nat}:cL n .nilFunc:=λm m' x hx _=>by cases hx;constructor
theorem cL.nilIface {n:Nat}:cL n .nilIface:=λm m' x hx _=>by cases hx;constructor
theorem cL.agg {n:Nat} {vs:Array Value} (h:∀v∈vs.toList,cL n v):cL n (.agg vs):=λm m' x hx e=>by
 cases hx with
 | agg h1 h2=>exact .agg h1 λi v v' e1 e2=>h v (Array.mem_toList_iff.2 (Array.mem_of_getElem? e1)) m m' v' (h2 i v v' e1 e2) e
theorem cL.tuple {n:Nat} {vs:Array Value} (h:∀v∈vs.toList,cL n v):cL n (.tuple vs):=λm m' x hx e=>by
 cases hx with
 | tuple h1 h2=>exact .tuple h1 λi v v' e1 e2=>h v (Array.mem_toList_iff.2 (Array.mem_of_getElem? e1)) m m' v' (h2 i v v' e1 e2) e
@[simp] theorem cL.int {n:Nat} {k:IntKind} {x:Int}:cL n (.int k x):=λm m' x hx _=>by cases hx;constructor
@[simp] theorem cL.bool {n:Nat} {x:Bool}:cL n (.bool x):=λm m' x hx _=>by cases hx;constructor
@[simp] theorem cL.string {n:Nat} {x:ByteArray}:cL n (.string x):=λm m' x hx _=>by cases hx;constructor
attribute [simp] cL.xM cL.li cL.yd cL.nilFunc cL.nilIface
theorem pz.Ck {m m':Mp} {a a':Addr} (h:pz m a a') (e:∀p,m a.block=some p->m' a.block=some p):pz m' a a':=by
 obtain⟨h1,h2,p,h3,h4⟩:=h;exact⟨h1,h2,p,e p h3,h4⟩
theorem Ai.Ck {m m':Mp} {a a':Addr} {c:Nat} (h:Ai m a a' c) (e:∀p,m a.block=some p->m' a.block=some p):Ai m' a a' c:=by
 obtain⟨h1,h2,p,h3,h4⟩:=h;exact⟨h1,h2,p,e p h3,h4⟩
theorem bB.JV {m m1 m2:Mp} (Xs:∀i,m i≠none->m2 i=m1 i) {v x:Value} (h:bB m v x):∀y,bB m1 v y->bB m2 v y:=by
 have Gm:∀{i:Nat} {p:Pl},m i=some p->m2 i=m1 i:=λh=>Xs _ (by rw [h];exact Option.some_ne_none _)
 induction h with
 | bool b=>intro y hy;cases hy;constructor
 | int k n=>intro y hy;cases hy;constructor
 | float k n=>intro y hy;cases hy;constructor
 | complex k x y=>intro y hy;cases hy;constructor
 | string s=>intro y hy;cases hy;constructor
 | xM=>intro y hy;cases hy;constructor
 | Im h=>
   intro y hy;obtain⟨_,_,p,hp,_⟩:=h;cases hy with
   | Im h'=>exact .Im (h'.Ck λq hq=>by rw [Gm hp];exact hq)
 | li=>intro y hy;cases hy;constructor
 | slice h h1 h2=>
   intro y hy;cases hy with
   | slice h' Wt Zk=>
     rename_i a _ _ _ _ _ _;have key:m2 a.block=m1 a.block\/a.spot.isSome=true:=by
      rcases h with ⟨N0,_,p,hp,_⟩|⟨hl,_,xB|hb⟩;exact .inl (Gm hp);exact .inr xB;exact .inl (Xs _ hb)
     rcases key with hb|xB;refine .slice ?_ Wt Zk;rcases h' with s|⟨e1,e2,e3⟩;exact .inl (s.Ck λq hq=>by rw [hb];exact hq);exact .inr ⟨e1,e2,e3.imp id λe=>by rw [hb];exact e⟩;refine .slice ?_ Wt Zk;rcases h' with s|⟨e1,e2,e3⟩;have:=s.1;rw [this] at xB;cases xB;exact .inr ⟨e1,e2,.inl xB⟩
 | yd=>intro y hy;cases hy;constructor
 | map h=>
   intro y hy;obtain⟨p,hp,_⟩:=h;cases hy with
   | map h'=>
     obtain⟨q,hq,e⟩:=h';exact .map ⟨q,by rw [Gm hp];exact hq,e⟩
 | Dx=>intro y hy;cases hy;constructor
 | func fn hx hy h1 h2 ih1 ih2=>
   intro y VH;rename_i x x' z z';cases VH with
   | func _ kx ky g1 g2=>
     refine .func fn kx ky (λi v v' e1 e2=>?_) (λi v v' e1 e2=>?_);have bL:i<x'.size:=(by rw [<-hx];exact(Array.getElem?_eq_some_iff.1 e1).1);exact ih1 i v _ e1 (Array.getElem?_eq_getElem bL) v' (g1 i v v' e1 e2);have bL:i<z'.size:=(by rw [<-hy];exact(Array.getElem?_eq_some_iff.1 e1).1);exact ih2 i v _ e1 (Array.getElem?_eq_getElem bL) v' (g2 i v v' e1 e2)
 | nilFunc=>intro y hy;cases hy;constructor
 | iface t _ ih=>intro y hy;cases hy with|iface _ h'=>exact .iface t (ih _ h')
 | nilIface=>intro y hy;cases hy;constructor
 | agg hx _ ih=>
   intro y VH;rename_i x x' _;cases VH with
   | agg kx g1=>
     refine .agg kx (λi v v' e1 e2=>?_);have bL:i<x'.size:=(by rw [<-hx];exact(Array.getElem?_eq_some_iff.1 e1).1);exact ih i v _ e1 (Array.getElem?_eq_getElem bL) v' (g1 i v v' e1 e2)
 | tuple hx _ ih=>
   intro y VH;rename_i x x' _;cases VH with
   | tuple kx g1=>
     refine .tuple kx (λi v v' e1 e2=>?_);have bL:i<x'.size:=(by rw [<-hx];exact(Array.getElem?_eq_some_iff.1 e1).1);exact ih i v _ e1 (Array.getElem?_eq_getElem bL) v' (g1 i v v' e1 e2)
def WV (n:Nat):dH->Prop
 | .cells cs _ _=>∀c∈cs,cL n c
 | .map es _=>∀e∈es,cL n e.1/\cL n e.2
theorem ax.gc {P:Program} {f:FuncId} {args:List Value} {A X:AW} {V:Value} (hX:X.next=A.next) (hV:cL A.next V)
 (hO:∀i o,X.bg i=some o->i<A.next/\(A.bg i=some o\/WV A.next o))
 (h:ax P f args A λv A'=>v=V/\∀i o,X.bg i=some o->A'.bg i=some o):ax P f args A λv A'=>v=V/\X=A':=by
 refine⟨h.1,λm w go hs hl=>(h.2 m w go hs hl).mono ?_⟩;rintro e w' ⟨v,v',m',A',rfl,ev,hv,rfl,hg⟩
 let m2:Mp:=λi=>if i<A.next then m' i else none
 have YL:∀i,m i≠none->i<A.next:=λi hi=>by
  rcases Nat.lt_or_ge i A.next with h|h;exact h;exact absurd (hs.qW i h) hi
 have h2:∀i,i<A.next->m2 i=m' i:=λi hi=>if_pos hi;have eJ:Mp.le m m2:=λi p hi=>by
  have:=YL i (by rw [hi];exact Option.some_ne_none _);rw [h2 i this];exact ev.ext i p hi
 have Te:∀{u x:Value},cL A.next u->bB m' u x->bB m2 u x:=λhb hr=>hb m' m2 _ hr h2;have Xs:∀i,m i≠none->m2 i=m' i:=λi hi=>h2 i (YL i hi);refine⟨v,v',m2,X,rfl,⟨eJ,⟨?_,?_,?_,?_,ev.DV.laid,λi o p hi y6 zQ=>ev.DV.yf i o p (hg i o hi) y6 (by rw [<-h2 i (hO i o hi).1];exact zQ),hs.uu.mono eJ⟩,by omega,ev.os,ev.tape,ev.output,ev.size,ev.tk,?_,λi hi=>(h2 i hi).trans (ev.oK i hi),?_⟩,Te hV hv,rfl,rfl⟩
 . intro i o hi;obtain⟨p,hp,hm⟩:=ev.DV.Ev i o (hg i o hi);obtain⟨bL,AH⟩:=hO i o hi;refine⟨p,by rw [h2 i bL];exact hp,?_⟩;rcases AH with hA|hB
   . obtain⟨p0,ML,hm0⟩:=hs.Ev i o hA;cases o with
     | cells cs own u=>
       obtain⟨io,e1,fr,g1,g2,g3,g4,g5⟩:=hm;obtain⟨_,_,_,_,_,_,_,k5⟩:=hm0;refine⟨io,e1,fr,g1,g2,g3,g4,λk u hu=>?_⟩;obtain⟨y,hy,hr⟩:=g5 k u hu;obtain⟨x,_,Xh⟩:=k5 k u hu;exact⟨y,hy,Xh.JV Xs y hr⟩
     | map es own=>
       obtain⟨kM,aw,xn,gp,g1,g2,g3⟩:=hm;obtain⟨Zv,_,es0,kp,_,k2,k3⟩:=hm0;refine⟨kM,aw,xn,gp,g1,g2,λk x e hx he=>?_⟩;obtain⟨k0,S6⟩:=List.mem_iff_getElem?.1 ((kp.mem_iff).1 ((gp.mem_iff).2 (List.mem_of_getElem? hx)));have bL:k0<Zv.size:=(by rw [<-k2];exact(List.getElem?_eq_some_iff.1 S6).1);have q:=k3 k0 x _ S6 (Array.getElem?_eq_getElem bL);have r:=g3 k x e hx he;exact⟨q.1.JV Xs _ r.1,q.2.JV Xs _ r.2⟩
   cases o with
   | cells cs own u=>
     obtain⟨io,e1,fr,g1,g2,g3,g4,g5⟩:=hm;refine⟨io,e1,fr,g1,g2,g3,g4,λk u hu=>?_⟩;obtain⟨y,hy,hr⟩:=g5 k u hu;exact⟨y,hy,Te (hB u (List.mem_of_getElem? hu)) hr⟩
   | map es own=>
     obtain⟨kM,aw,xn,gp,g1,g2,g3⟩:=hm;refine⟨kM,aw,xn,gp,g1,g2,λk x e hx he=>?_⟩;have r:=g3 k x e hx he;have b:=hB x ((gp.mem_iff).2 (List.mem_of_getElem? hx));exact⟨Te b.1 r.1,Te b.2 r.2⟩
 intro i j o o' p p' hi ho hj hU Qq Uw;rw [h2 i (hO i o hi).1] at Qq;rw [h2 j (hO j o' hj).1] at Uw;exact ev.DV.inj i j o o' p p' (hg i o hi) ho (hg j o' hj) hU Qq Uw;intro i hi;exact if_neg (by omega)
 . intro i hi;cases hx:X.bg i with
   | none=>rfl
   | some o=>have:=(hO i o hx).1;omega
 rintro b ⟨i,o,p,hi,ho,hp,hb⟩;rw [h2 i (hO i o hi).1] at hp;exact ev.grow b ⟨i,o,p,hg i o hi,ho,hp,hb⟩;rintro b ⟨i,o,p,hi,hp,hb⟩;rw [h2 i (hO i o hi).1] at hp;exact ev.Sf b ⟨i,o,p,hg i o hi,hp,hb⟩
theorem ax.qt {P:Program} {f:FuncId} {args:List Value} {A:AW} {V:Value} (hV:cL A.next V)
 (h:A.Wf->ax P f args A λv A'=>v=V/\A.le A') (hc:jF P f=true):ax P f args A λv A'=>v=V/\A=A':=by
 have key:A.Wf->ax P f args A λv A'=>v=V/\A=A':=λhw=>
  ax.gc rfl hV (λi o hi=>⟨hw.lt hi,.inl hi⟩) ((h hw).mono λv A' ⟨h1,h2⟩=>⟨h1,λi o hi=>h2.oK hw hi⟩)
 exact⟨hc,λm w go hs hl=>(key hs.xz).2 m w go hs hl⟩
end Go.Stx
namespace Go.Stx
open Go
variable [Gl]
def cY (size:Nat) (v:Value) (n:Nat) (cs:List Value):HP:=
 ⟨λh=>(v=.slice none 0 0/\n=0/\cs=[]/\h=λ_=>none) \/
  ∃b off c bP,v=.slice (some ⟨b,off,none⟩) n c/\n<=c/\off+n*size<=bP.length/\cs=(bP.drop off).take (n*size)/\
   h=λj=>if j=b then some (.cells bP true size) else none⟩
def ap (k:IntKind) (v:Value) (l:List Int):HP:=cY 1 v l.length (l.map (Value.int k))
theorem cY.cases {A:AW} {size n:Nat} {v:Value} {cs:List Value} {F:HP} (h:bk A (cY size v n cs*F)) :
 (v=.slice none 0 0/\n=0/\cs=[]/\bk A F) \/
 ∃b off c bP,v=.slice (some ⟨b,off,none⟩) n c/\n<=c/\off+n*size<=bP.length/\cs=(bP.drop off).take (n*size)/\bk A (pt b (.cells bP true size)*F):=by
 obtain⟨_,⟨a,b,d,rfl,p,q⟩,hs⟩:=h;rcases p with ⟨h1,h2,h3,rfl⟩|⟨b',off,c,bP,h1,h2,h3,h4,rfl⟩;exact .inl ⟨h1,h2,h3,b,q,hs⟩;exact .inr ⟨b',off,c,bP,h1,h2,h3,h4,_,⟨_,b,d,rfl,rfl,q⟩,hs⟩
theorem cY.nil {A:AW} {size:Nat} {F:HP} (h:bk A F):bk A (cY size (.slice none 0 0) 0 []*F):=by
 obtain⟨x,p,hs⟩:=h;exact⟨x,⟨_,x,λ_=>.inl rfl,rfl,.inl ⟨rfl,rfl,rfl,rfl⟩,p⟩,hs⟩
theorem cY.mk {A:AW} {size n b off c:Nat} {bP cs:List Value} {F:HP} (hc:n<=c) (h1:off+n*size<=bP.length) (h2:cs=(bP.drop off).take (n*size))
 (h:bk A (pt b (.cells bP true size)*F)):bk A (cY size (.slice (some ⟨b,off,none⟩) n c) n cs*F):=
 h.entl λx hx=>.inr ⟨b,off,c,bP,rfl,hc,h1,h2,hx⟩
theorem cY.own {A:AW} {size n:Nat} {v:Value} {cs:List Value} {F:HP} (h:bk A (cY size v n cs*F)):dB 0 A size v n cs:=by
 rcases cY.cases h with ⟨rfl,rfl,rfl,_⟩|⟨b,off,c,bP,rfl,h1,h2,h3,h4⟩;exact .inl ⟨rfl,rfl,rfl⟩;exact .inr ⟨⟨b,off,none⟩,c,bP,rfl,h1,rfl,Nat.zero_le _,h4.bg,h2,h3⟩
theorem cY.is {A:AW} {size n:Nat} {v:Value} {cs:List Value} {F:HP} (h:bk A (cY size v n cs*F)):dM A size v n cs:=(cY.own h).is
theorem ap.is {A:AW} {k:IntKind} {v:Value} {l:List Int} {F:HP} (h:bk A (ap k v l*F)):bx A k v l:=cY.is h
theorem ap.nil {A:AW} {k:IntKind} {F:HP} (h:bk A F):bk A (ap k (.slice none 0 0) []*F):=cY.nil h
theorem ap.mk {A:AW} {k:IntKind} {b off c n:Nat} {bP:List Value} {l:List Int} {F:HP} (hn:n=l.length) (hc:l.length<=c) (h1:off+l.length<=bP.length) (h2:l.map (Value.int k)=(bP.drop off).take l.length)
 (h:bk A (pt b (.cells bP true 1)*F)):bk A (ap k (.slice (some ⟨b,off,none⟩) n c) l*F):=by
 subst hn;exact cY.mk hc (by simpa using h1) (by simpa using h2) h
theorem cY.gA {A A':AW} {size n:Nat} {v:Value} {cs:List Value} {F:HP} (h:bk A F) (hw:A.Wf) (hl:A.le A') (ho:dB A.next A' size v n cs):bk A' (cY size v n cs*F):=by
 rcases ho with ⟨rfl,rfl,rfl⟩|⟨p,c,bP,rfl,h1,hs,hB,hg,h2,h3⟩;exact cY.nil (h.le hw hl);obtain⟨b,o,s⟩:=p;simp only at hs hB hg h2 h3;subst hs;refine cY.mk h1 h2 h3 (bk.cons hg (h.PR λi o hi=>?_));have:=hw.lt hi;rw [AW.aY (by omega)];exact hl.oK hw hi
theorem ap.gA {A A':AW} {k:IntKind} {v:Value} {l:List Int} {F:HP} (h:bk A F) (hw:A.Wf) (hl:A.le A') (ho:dx A.next A' k v l):bk A' (ap k v l*F):=cY.gA h hw hl ho
theorem ap.at {A:AW} {k:IntKind} {v:Value} {l:List Int} {F:HP} (h:bk A (ap k v l*F)) {j:Nat} (hj:j<l.length) :
 ∃b off c bP,v=.slice (some ⟨b,off,none⟩) l.length c/\l.length<=c/\A.bg b=some (.cells bP true 1)/\bP[off+j]? = some (.int k l[j])/\off+l.length<=bP.length/\
  ∀y,bk (A.set b (some (.cells (bP.set (off+j) (.int k y)) true 1))) (ap k v (l.set j y)*F):=by
 rcases cY.cases h with ⟨_,h0,_⟩|⟨b,off,c,bP,rfl,h1,h2,h3,h4⟩;omega;rw [Nat.mul_one] at h2 h3;have hcell:∀q,q<l.length->bP[off+q]? = (l.map (Value.int k))[q]?:=λq hq=>by
  rw [h3,List.getElem?_take_of_lt hq,List.getElem?_drop]
 refine⟨b,off,c,bP,rfl,h1,h4.bg,by rw [hcell j hj,List.getElem?_map,List.getElem?_eq_getElem hj];rfl,h2,λy=>?_⟩;have:=cY.mk (size:=1) (n:=l.length) (off:=off) (c:=c) (cs:=(l.set j y).map (Value.int k)) h1 (by simpa using h2) ?_ (h4.set (.cells (bP.set (off+j) (.int k y)) true 1));unfold ap
 simpa using this
 rw [Nat.mul_one];apply List.ext_getElem?;intro q;by_cases hq:q<l.length;rw [List.getElem?_take_of_lt hq,List.getElem?_drop,List.getElem?_map];by_cases e:j=q;subst e;rw [List.getElem?_set_self hj,List.getElem?_set_self (by omega)];rfl;rw [List.getElem?_set_ne e,List.getElem?_set_ne (by omega),hcell q hq,List.getElem?_map];rw [List.getElem?_eq_none (by simp;omega),List.getElem?_eq_none (by simp;omega)]
theorem ap.append {P:Program} {A:AW} {t e:TypeId} {i:TypeInfo} {z:Value} {v:Value} {k:IntKind} {l:List Int} {F:HP} (y:Int)
 (hu:P.underlying t=some (.slice e)) (hi:P.info? e=some i) (hz:i.zero=some z) (gv:i.size=1) (nA:z.cells.size=1)
 (h:bk A (ap k v l*F)) (bG:l.length<2 ^ 40) (vJ:i.bytes<=8) (hw:A.Wf) :
 ∃v' A',eU P (A.alloc (.cells [.int k y] true 1)) t t v (.slice (some ⟨A.next,0,none⟩) 1 1)=some (v',A')/\bk A' (ap k v' (l++[y])*F)/\A'.Wf/\A.next<=A'.next:=by
 have iF:fK (A.alloc (.cells [.int k y] true 1)) 1 (.slice (some ⟨A.next,0,none⟩) 1 1)=some (1,[.int k y]):=by
  simp [fK,AW.bP]
 have hb:(l.length+1)*i.bytes<=140737488355328:=by
  have:=Nat.mul_le_mul_left (l.length+1) vJ;omega
 have k7:l.length+1<=140737488355328:=by omega
 have lN:[Value.int k y].all Value.oneCell'=true:=rfl;have hll:(l++[y]).length=l.length+1:=by simp
 rcases cY.cases h with ⟨rfl,h0,h1,h2⟩|⟨b,off,c,bP,rfl,h1,h2,h3,h4⟩;have:l=[]:=List.eq_nil_of_length_eq_zero h0;subst this;refine⟨.slice (some ⟨A.next+1,0,none⟩) (0+1) (0+1),(A.alloc (.cells [.int k y] true 1)).alloc (.cells ([]++[.int k y]) true i.size),?_,?_,(hw.alloc _).alloc _,by simp;omega⟩;simp only [eU,hu,hi,hz,gv,iF,gr];rw [if_pos ⟨nA,by omega,trivial⟩,if_neg (by omega),if_pos ⟨k7,hb,lN⟩];simp;have:=(h2.oK hw (.cells [.int k y] true 1)).alloc (hw.alloc _) (.cells ([]++[.int k y]) true i.size);rw [gv] at this ⊢;have h9:bk ((A.alloc (.cells [.int k y] true 1)).alloc (.cells ([]++[.int k y]) true 1)) (pt (A.next+1) (.cells [.int k y] true 1)*F):=this;exact cY.mk (size:=1) (n:=1) (off:=0) (c:=1) (by simp) (by simp) (by simp) h9;have hg:=h4.bg;have bL:=hw.lt hg;have MM:(A.alloc (.cells [.int k y] true 1)).bg b=some (.cells bP true 1):=by rw [AW.fz _ _ (by omega)];exact hg
 refine⟨.slice (some ⟨A.next+1,0,none⟩) (l.length+1) (l.length+1),((A.alloc (.cells [.int k y] true 1)).set b none).alloc (.cells ((bP.drop off).take (l.length*1)++[.int k y]) true i.size),?_,?_,
  ((hw.alloc _).set none (by simp;omega)).alloc _,by simp;omega⟩
 simp only [eU,hu,hi,hz,gv,iF,gr,MM];rw [if_pos ⟨nA,by omega,trivial⟩,if_neg (by simp),if_pos ⟨trivial,h2⟩];simp only;rw [if_neg (by omega),if_pos ⟨k7,hb,lN⟩];simp;have h5:=((h4.oK hw (.cells [.int k y] true 1)).KW).alloc ((hw.alloc (.cells [.int k y] true 1)).set none (by simp;omega)) (.cells ((bP.drop off).take (l.length*1)++[.int k y]) true i.size);rw [gv] at h5 ⊢;unfold ap;rw [hll];refine cY.mk (Nat.le_refl _) ?_ ?_ (by simpa using h5);simp at h2 ⊢;omega;rw [Nat.mul_one] at h2 h3;simp only [Nat.mul_one,List.drop_zero];rw [<-h3,List.take_of_length_le (by simp)];simp
theorem ap.Hh {P:Program} {A:AW} {t e:TypeId} {i:TypeInfo} {z:Value} {v:Value} {k:IntKind} {l:List Int} {F:HP} (y:Int) (n:Nat)
 (hu:P.underlying t=some (.slice e)) (hi:P.info? e=some i) (hz:i.zero=some z) (gv:i.size=1) (nA:z.cells.size=1)
 (hn:A.bg n=some (.cells [.int k y] true 1)) (h:bk A (ap k v l*F)) (bG:l.length<2 ^ 40) (vJ:i.bytes<=8) (hw:A.Wf) :
 ∃v' A',eU P A t t v (.slice (some ⟨n,0,none⟩) 1 1)=some (v',A')/\bk A' (ap k v' (l++[y])*F)/\A'.Wf/\A.next<=A'.next:=by
 have iF:fK A 1 (.slice (some ⟨n,0,none⟩) 1 1)=some (1,[.int k y]):=by
  simp [fK,AW.bP,hn]
 have hb:(l.length+1)*i.bytes<=140737488355328:=by
  have:=Nat.mul_le_mul_left (l.length+1) vJ;omega
 have k7:l.length+1<=140737488355328:=by omega
 have lN:[Value.int k y].all Value.oneCell'=true:=rfl;have hll:(l++[y]).length=l.length+1:=by simp
 rcases cY.cases h with ⟨rfl,h0,h1,h2⟩|⟨b,off,c,bP,rfl,h1,h2,h3,h4⟩
 . have:l=[]:=List.eq_nil_of_length_eq_zero h0;subst this;refine⟨.slice (some ⟨A.next,0,none⟩) (0+1) (0+1),A.alloc (.cells ([]++[.int k y]) true i.size),?_,?_,hw.alloc _,by simp⟩
   . simp only [eU,hu,hi,hz,gv,iF,gr];rw [if_pos ⟨nA,by omega,trivial⟩,if_neg (by omega),if_pos ⟨k7,hb,lN⟩]
     try simp
   have:=h2.alloc hw (.cells ([]++[.int k y]) true i.size);rw [gv] at this ⊢;have h9:bk (A.alloc (.cells [.int k y] true 1)) (pt A.next (.cells [.int k y] true 1)*F):=this;exact cY.mk (size:=1) (n:=1) (off:=0) (c:=1) (by simp) (by simp) (by simp) h9
 have hg:=h4.bg;have bL:=hw.lt hg
 refine⟨.slice (some ⟨A.next,0,none⟩) (l.length+1) (l.length+1),(A.set b none).alloc (.cells ((bP.drop off).take (l.length*1)++[.int k y]) true i.size),?_,?_,
  (hw.set none bL).alloc _,by simp⟩
 . simp only [eU,hu,hi,hz,gv,iF,gr,hg];rw [if_pos ⟨nA,by omega,trivial⟩,if_neg (by simp),if_pos ⟨trivial,h2⟩];simp only;rw [if_neg (by omega),if_pos ⟨k7,hb,lN⟩]
   try simp
 have h5:=(h4.KW).alloc (hw.set none bL) (.cells ((bP.drop off).take (l.length*1)++[.int k y]) true i.size);rw [gv] at h5 ⊢;unfold ap;rw [hll];refine cY.mk (Nat.le_refl _) ?_ ?_ (by simpa using h5);simp at h2 ⊢;omega;rw [Nat.mul_one] at h2 h3;simp only [Nat.mul_one,List.drop_zero];rw [<-h3,List.take_of_length_le (by simp)];simp
theorem bx.atg {A:AW} {k:IntKind} {o:Option Addr} {c n:Nat} {l:List Int} (h:bx A k (.slice o n c) l) {i:Nat} (hi:i<l.length) :
 ∃p bP own,o=some p/\A.bg p.block=some (.cells bP own 1)/\bP[p.off+i]? = some (.int k l[i]):=by
 rcases h.cases with ⟨h1,rfl⟩|⟨p,c,bP,own,h1,_,hg,_,hr⟩;simp at hi;injection h1 with h1 h2 h3;exact⟨p,bP,own,h1,hg,hr i hi⟩
theorem ap.Qa {P:Program} {A:AW} {t e:TypeId} {i:TypeInfo} {k k1 k2:IntKind} {F:HP} (n:Nat)
 (hu:P.underlying t=some (.slice e)) (hi:P.info? e=some i) (hz:i.zero=some (.int k 0)) (gv:i.size=1) (vJ:i.bytes<=8) (hn:n<2 ^ 40) (h:bk A F) (hw:A.Wf) :
 ∃v' A',oW P A t (.int k1 (n:Int)) (.int k2 (n:Int))=some (v',A')/\bk A' (ap k v' (List.replicate n 0)*F)/\A'.Wf/\A.le A':=by
 have hb:(n:Int)*i.bytes<=140737488355328:=by
  have:=Nat.mul_le_mul_left n vJ;have h2:((n*i.bytes:Nat):Int)<=((n*8:Nat):Int):=by exact_mod_cast this
  have h3:((n*i.bytes:Nat):Int)=(n:Int)*i.bytes:=by push_cast;rfl
  omega
 refine⟨.slice (some ⟨A.next,0,none⟩) n n,A.alloc (.cells (ft [.int k 0] n) true 1),?_,?_,hw.alloc _,AW.le.alloc _ _⟩;simp only [oW,hu,hi,hz,gv];rw [if_pos ⟨rfl,by omega,rfl,by omega,by omega,by omega,hb⟩];simp [Value.cells];have bG:(ft [Value.int k 0] n).length=n:=by simp [jn]
 have hcs:(List.replicate n (0:Int)).map (Value.int k)=ft [Value.int k 0] n:=by
  clear hb hn bG
  induction n with
  | zero=>rfl
  | succ n ih=>rw [List.replicate_succ,List.map_cons,ih];rfl
 refine ap.mk (by simp) (by simp) (by simp [bG]) ?_ (h.alloc hw _);rw [hcs,List.drop_zero,List.take_of_length_le (by simp [bG])]
theorem ap.TI {P:Program} {A:AW} {t u e:TypeId} {i:TypeInfo} {ku:IntKind} {v:Value} {k kq:IntKind} {l:List Int} {F:HP} (n:Nat)
 (hu:P.underlying t=some (.slice e)) (huu:P.underlying u=some (.int ku)) (hi:P.info? e=some i) (hz:i.zero=some (.int k 0)) (gv:i.size=1)
 (h:bk A (ap k v l*F)) (bG:l.length+n<2 ^ 40) (vJ:i.bytes<=8) (hw:A.Wf) :
 ∃v' A',oE P A t u v (.int kq (n:Int))=some (v',A')/\bk A' (ap k v' (l++List.replicate n 0)*F)/\A'.Wf:=by
 have hcs:(List.replicate n (0:Int)).map (Value.int k)=ft [Value.int k 0] n:=by
  clear bG
  induction n with
  | zero=>rfl
  | succ n ih=>rw [List.replicate_succ,List.map_cons,ih];rfl
 have hzl:(ft [Value.int k 0] n).length=n:=by simp [jn]
 have hb:(l.length+n)*i.bytes<=140737488355328:=by
  have:=Nat.mul_le_mul_left (l.length+n) vJ;omega
 rcases cY.cases h with ⟨rfl,h0,h1,h2⟩|⟨b,off,c,bP,rfl,h1,h2,h3,h4⟩;have:l=[]:=List.eq_nil_of_length_eq_zero h0;subst this;by_cases hn:n=0;subst hn;refine⟨.slice none 0 0,A,?_,by simpa using h,hw⟩;simp only [oE,hu,huu,hi,hz,gv,gr];rw [if_pos ⟨rfl,by omega,rfl,by omega,by simp,by simp⟩];simp;refine⟨.slice (some ⟨A.next,0,none⟩) (0+n) (0+n),A.alloc (.cells ([]++ft [.int k 0] n) true 1),?_,?_,hw.alloc _⟩;simp only [oE,hu,huu,hi,hz,gv,gr,Int.toNat_natCast];rw [if_pos ⟨rfl,by omega,rfl,by omega,by simp at bG;omega,by simpa using hb⟩,if_neg hn];rfl;refine ap.mk (by simp) (by simp) (by simp [hzl]) ?_ (h2.alloc hw _);rw [ag,ag,hcs,List.drop_zero,List.take_of_length_le (by simp [hzl])];have hg:=h4.bg;have bL:=hw.lt hg;by_cases hn:n=0;subst hn;refine⟨.slice (some ⟨b,off,none⟩) l.length c,A,?_,by simpa using h,hw⟩;simp only [oE,hu,huu,hi,hz,gv,gr,hg];rw [if_neg (by simp),if_pos ⟨trivial,h2⟩];simp only
 rw [if_pos ⟨rfl,by omega,rfl,by omega,by simp at bG ⊢;omega,by simpa using hb⟩];simp;refine⟨.slice (some ⟨A.next,0,none⟩) (l.length+n) (l.length+n),(A.set b none).alloc (.cells ((bP.drop off).take (l.length*1)++ft [.int k 0] n) true 1),?_,?_,(hw.set none bL).alloc _⟩;simp only [oE,hu,huu,hi,hz,gv,gr,hg,Int.toNat_natCast];rw [if_neg (by simp),if_pos ⟨trivial,h2⟩];simp only;rw [if_pos ⟨rfl,by omega,rfl,by omega,by omega,hb⟩,if_neg hn];rfl;have h5:=h4.KW.alloc (hw.set none bL) (.cells ((bP.drop off).take (l.length*1)++ft [.int k 0] n) true 1);rw [Nat.mul_one] at h2 h3;refine ap.mk (by simp) (by simp) ?_ ?_ (by simpa using h5);simp [hzl];omega;rw [List.drop_zero,<-h3,<-hcs,<-List.map_append,List.take_of_length_le (by simp)]
def kG (f:Nat->HP):Nat->HP
 | 0=>eC
 | n+1=>kG f n*f n
def rf (f:Nat->HP) (i:Nat) (Q:HP):Nat->HP:=λj=>if j=i then Q else f j
theorem uF {f g:Nat->HP}:∀{n:Nat},(∀i,i<n->f i=g i)->kG f n=kG g n
 | 0,_=>rfl
 | n+1,h=>by
   unfold kG;rw [uF (n:=n) (λi hi=>h i (by omega)),h n (by omega)]
theorem xr (f:Nat->HP) {i:Nat}:∀{n:Nat},i<n->kG f n=f i*kG (rf f i eC) n
 | 0,h=>by omega
 | n+1,h=>by
   unfold kG;by_cases e:i=n;subst e;rw [uF (f:=rf f i eC) (g:=f) (n:=i) (λj hj=>by simp [rf];omega)];simp only [rf,if_true,du];exact HP.mul_comm _ _;have vH:i<n:=(by omega);rw [xr f vH];have:rf f i eC n=f n:=by simp [rf];omega
   rw [this,HP.cx]
theorem OD (f:Nat->HP) {i n:Nat} (hi:i<n) (Q:HP):kG (rf f i Q) n=Q*kG (rf f i eC) n:=by
 rw [xr _ hi];congr 1;simp [rf];refine uF λj _=>?_;simp only [rf];split<;>rfl
theorem bk.pick {A:AW} {f:Nat->HP} {n i:Nat} {F:HP} (h:bk A (kG f n*F)) (hi:i<n):bk A (f i*(kG (rf f i eC) n*F)):=by
 rw [xr f hi,HP.cx] at h;exact h
theorem bk.put {A:AW} {f:Nat->HP} {n i:Nat} {Q F:HP} (h:bk A (Q*(kG (rf f i eC) n*F))) (hi:i<n):bk A (kG (rf f i Q) n*F):=by
 rw [OD f hi,HP.cx];exact h
end Go.Stx
namespace Go.Stx
open Go
variable [Gl]
def lB (es:List (Int×Value)) (a:Int):Option Value:=(es.find? λe=>e.1 == a).map (·.2)
def qG (k:IntKind) (es:List (Int×Value)):List (Value×Value):=es.map λe=>(.int k e.1,e.2)
def gl (k:IntKind) (r:Nat) (f:Int->Option Value):HP:=pG λes:List (Int×Value)=>Bl ((es.map (·.1)).Nodup/\∀a,lB es a=f a)*pt r (.map (qG k es) true)
theorem yb {k0 k:IntKind} {a:Int}:∀(es:List (Int×Value)),(∀e∈es,¬a=e.1)->oy (.int k0) (.int k a) (qG k es)=true
 | [],_=>rfl
 | e::es,h=>by
   have he:(a == e.1)=false:=by simpa using h e (by simp)
   unfold qG oy;simp only [List.map_cons,Au,he];exact yb es λx hx=>h x (by simp [hx])
theorem pn {k0 k:IntKind} {a:Int}:∀(es:List (Int×Value)) (i:Nat),(es.map (·.1)).Nodup->∃q,eL (.int k0) (.int k a) (qG k es) i=some q/\q.map (·.2)=lB es a/\
 ∀j v,q=some (j,v)->∃j',j=i+j'/\j'<es.length/\(∀v',(es.set j' (a,v')).map (·.1)=es.map (·.1))/\∀v' b,lB (es.set j' (a,v')) b=if b=a then some v' else lB es b
 | [],i,_=>⟨none,rfl,rfl,λj v h=>by cases h⟩
 | e::es,i,hn=>by
   simp only [List.map_cons,List.nodup_cons] at hn;unfold qG eL;simp only [List.map_cons,Au];by_cases h:a=e.1;subst h;have hns:oy (.int k0) (.int k e.1) (qG k es)=true:=yb es λx hx h=>hn.1 (by rw [h];exact List.mem_map_of_mem hx);unfold qG at hns;refine⟨some (i,e.2),by simp [hns],by simp [lB],?_⟩;intro j v hj;injection hj with hj;injection hj with h1 h2;subst h1;refine⟨0,rfl,by simp,λv'=>by simp,λv' b=>?_⟩;simp only [List.set_cons_zero,lB,List.find?_cons];by_cases hb:e.1=b;subst hb;simp;have ur:(e.1 == b)=false:=by simpa using hb
   simp [ur,Ne.symm hb];have hU:(a == e.1)=false:=by simpa using h
   rw [hU];obtain⟨q,h1,h2,h3⟩:=pn (k0:=k0) (k:=k) (a:=a) es (i+1) hn.2;refine⟨q,h1,?_,?_⟩;rw [h2];have:¬e.1=a:=λx=>h x.symm;simp [lB,this];intro j v hj;obtain⟨j',g1,g2,g0,g3⟩:=h3 j v hj;refine⟨j'+1,by omega,by simpa using g2,λv'=>by simpa using g0 v',λv' b=>?_⟩;have:=g3 v' b;simp only [List.set_cons_succ,lB,List.find?_cons] at this ⊢;by_cases hb:e.1=b;subst hb;have:¬e.1=a:=λx=>h x.symm;simp [this];have ur:(e.1 == b)=false:=by simpa using hb
   rw [ur]
   simpa using this
theorem EU {es:List (Int×Value)} {a:Int} {v:Value} (h:lB es a=none) (b:Int):lB (es++[(a,v)]) b=if b=a then some v else lB es b:=by
 simp only [lB,List.find?_append,Option.map_eq_none_iff] at h ⊢;by_cases hb:b=a;subst hb;simp [h];have:¬a=b:=λx=>hb x.symm;simp [hb,this]
theorem gl.bg {A:AW} {k:IntKind} {r:Nat} {f:Int->Option Value} {F:HP} (h:bk A (gl k r f*F)) :
 ∃es,A.bg r=some (.map (qG k es) true)/\((es.map (·.1)).Nodup/\∀a,lB es a=f a)/\bk A (pt r (.map (qG k es) true)*F):=by
 unfold gl at h;rw [bk.ex] at h;obtain⟨es,h⟩:=h;rw [HP.cx,bk.pr] at h;exact⟨es,h.2.bg,h.1,h.2⟩
theorem gl.eD {A:AW} {k:IntKind} {r:Nat} {f:Int->Option Value} {F:HP} (h:bk A (gl k r f*F)) :
 ∃qx,A.bg r=some (.map qx true)/\(∀k0 a v,f a=some v->∃q,eL (.int k0) (.int k a) qx 0=some (some (q,v)))/\(∀k0 a,f a=none->eL (.int k0) (.int k a) qx 0=some none)/\
  bk A (pt r (.map qx true)*F)/\∀{A':AW} {F':HP},bk A' (pt r (.map qx true)*F')->bk A' (gl k r f*F'):=by
 obtain⟨es,hg,⟨hn,hf⟩,hS⟩:=gl.bg h;refine⟨_,hg,λk0 a v hv=>?_,λk0 a hv=>?_,hS,λ{A' F'} h'=>?_⟩
 . obtain⟨q,h1,h2,_⟩:=pn (k0:=k0) (k:=k) (a:=a) es 0 hn;rw [hf,hv] at h2;cases q with
   | none=>cases h2
   | some q=>obtain⟨j,u⟩:=q;injection h2 with h2;simp only at h2;subst h2;exact⟨j,h1⟩
 . obtain⟨q,h1,h2,_⟩:=pn (k0:=k0) (k:=k) (a:=a) es 0 hn;rw [hf,hv] at h2;cases q with
   | none=>exact h1
   | some q=>cases h2
 unfold gl;rw [bk.ex];refine⟨es,?_⟩;rw [HP.cx,bk.pr];exact⟨⟨hn,hf⟩,h'⟩
theorem gl.lK {A:AW} {k:IntKind} {F:HP} (h:bk A F) (hw:A.Wf):bk (A.alloc (.map [] true)) (gl k A.next (λ_=>none)*F):=by
 unfold gl;rw [bk.ex];refine⟨[],?_⟩;rw [HP.cx,bk.pr];exact⟨⟨List.nodup_nil,λa=>rfl⟩,h.alloc hw _⟩
def mz (f:Int->Option Value) (a:Int) (v:Value):Int->Option Value:=λb=>if b=a then some v else f b
theorem gl.tR {P:Program} {A:AW} {t kt e:TypeId} {k0 k:IntKind} {r:Nat} {f:Int->Option Value} {F:HP} (h:bk A (gl k r f*F)) (ht:P.underlying t=some (.map kt e)) (hk:P.underlying kt=some (.int k0)) (a:Int) (v:Value) :
 ∃A',fQ P A t (.map (some r)) (.int k a) v=some A'/\bk A' (gl k r (mz f a v)*F)/\(A.Wf->A'.Wf)/\A'.next=A.next/\∀j,j≠r->A'.bg j=A.bg j:=by
 obtain⟨es,hg,⟨hn,hf⟩,hS⟩:=gl.bg h;obtain⟨q,h1,h2,h3⟩:=pn (k0:=k0) (k:=k) (a:=a) es 0 hn;have bO:∀xn:List (Int×Value),(xn.map (·.1)).Nodup->(∀b,lB xn b=mz f a v b)->bk (A.set r (some (.map (qG k xn) true))) (gl k r (mz f a v)*F):=λxn hn' he=>by
  unfold gl;rw [bk.ex];refine⟨xn,?_⟩;rw [HP.cx,bk.pr];exact⟨⟨hn',he⟩,hS.set _⟩
 cases q with
 | none=>
   refine⟨A.set r (some (.map (qG k (es++[(a,v)])) true)),?_,bO _ ?_ λb=>?_,λhw=>hw.set _ (hw.lt hg),rfl,λj hj=>AW.aY hj⟩;simp only [fQ,ht,hk,hg,mq,if_true,h1];simp [qG];rw [List.map_append,List.nodup_append];refine⟨hn,by simp,λx hx y hy e=>?_⟩;simp only [List.map_cons,List.map_nil,List.mem_singleton] at hy;subst hy;subst e;have Zk:lB es x=none:=(by rw [<-h2];rfl);simp only [lB,Option.map_eq_none_iff,List.find?_eq_none] at Zk;obtain⟨q,hq,rfl⟩:=List.mem_map.1 hx;have:=Zk q hq;simp at this;rw [EU (by rw [<-h2];rfl)];simp only [mz,hf]
 | some q=>
   obtain⟨j,u⟩:=q;obtain⟨j',g1,g2,g0,g3⟩:=h3 j u rfl;refine⟨A.set r (some (.map (qG k (es.set j' (a,v))) true)),?_,bO _ (by rw [g0];exact hn) λb=>?_,λhw=>hw.set _ (hw.lt hg),rfl,λj hj=>AW.aY hj⟩;simp only [fQ,ht,hk,hg,mq,if_true,h1];have:j=j':=by omega
   subst this;simp [qG,List.map_set];rw [g3];simp only [mz,hf]
end Go.Stx
namespace Go.Stx
open Go
variable [Gl]
theorem yL {r r':Operand->Value} {ps:Array (Nat×Operand)} (h:∀x∈(ps.toList.map (·.2)).toArray,r x=r' x):ry r ps=ry r' ps:=by
 unfold ry;refine List.map_congr_left λx hx=>?_;rw [h x.2 (by simpa using ⟨x.1,by simpa using hx⟩)]
theorem wV {r r':Operand->Value} {x:Option Operand} (h:∀y∈x.toArray,r y=r' y):x.map r=x.map r':=by
 cases x with
 | none=>rfl
 | some y=>simp [h y (by simp)]
theorem DH {r r':Operand->Value} {x:Array Operand} (h:∀y∈x,r y=r' y):x.map r=x.map r':=Array.map_congr_left h
theorem DC {P:Program} {A:AW} {r r':Operand->Value} {op:Op} (h:∀x∈op.operands,r x=r' x):aq P A r op=aq P A r' op:=by
 cases op<;>simp only [aq,Op.operands] at h ⊢
 case move x=>rw [h x (by simp)]
 case assign x=>rw [h x (by simp)]
 case pick c x y=>rw [h c (by simp),h x (by simp),h y (by simp)]
 case build t ps=>rw [yL h]
 case load t x=>rw [h x (by simp)]
 case nilCheck x=>rw [h x (by simp)]
 case binOp op t x y u=>rw [h x (by simp),h y (by simp)]
 case unOp op t x=>rw [h x (by simp)]
 case convert s d x=>rw [h x (by simp)]
 case makeInterface t x=>rw [h x (by simp)]
 case slice t x lo hi mx=>
  have e1:r x=r' x:=h x (by simp);have e2:lo.map r=lo.map r':=wV λy hy=>h y (by simp [hy]);have e3:hi.map r=hi.map r':=wV λy hy=>h y (by simp [hy]);cases mx with
  | none=>simp only [e1,e2,e3]
  | some q=>simp only [e1,e2,e3,h q (by simp)]
 case lookup t x ix c=>rw [h x (by simp),h ix (by simp)]
 case fieldAddr s x f=>rw [h x (by simp)]
 case field t x f=>rw [h x (by simp)]
 case indexAddr t x ix=>rw [h x (by simp),h ix (by simp)]
 case index t x ix=>rw [h x (by simp),h ix (by simp)]
 case extract t i=>rw [h t (by simp)]
 case makeFunc fn fs cs=>
  rw [DH (r:=r) (r':=r') (x:=fs) λy hy=>h y (by simp [hy]),DH (r:=r) (r':=r') (x:=cs) λy hy=>h y (by simp [hy])]
 case call c=>
  have hk:∀x∈c.args.toList,r x=r' x:=λx hx=>h x (by simp only [Call.operands,Array.mem_append];exact .inr (Array.mem_toList_iff.1 hx));clear h;generalize c.args.toList=l at hk ⊢;generalize c.argTypes.toList=ts;generalize c.callee=ce;split<;>simp_all
theorem RI {P:Program} {A:AW} {r r':Operand->Value} {op:Op} (h:∀x∈op.operands,r x=r' x):ae P A r op=ae P A r' op:=by
 cases op<;>simp only [ae,Op.operands] at h ⊢
 case box t x=>rw [h x (by simp)]
 case buildSlice t n ps=>rw [yL h]
 case store t x y=>rw [h x (by simp),h y (by simp)]
 case makeSlice t l c=>rw [h l (by simp),h c (by simp)]
 case makeMap t x=>rw [wV h]
 case mapUpdate t x k v=>rw [h x (by simp),h k (by simp),h v (by simp)]
 case insert t x k v=>rw [h x (by simp),h k (by simp),h v (by simp)]
 case call c=>
  have hk:∀x∈c.args.toList,r x=r' x:=λx hx=>h x (by simp only [Call.operands,Array.mem_append];exact .inr (Array.mem_toList_iff.1 hx));clear h;generalize c.args.toList=l at hk ⊢;generalize c.argTypes.toList=ts;generalize c.callee=ce;split<;>simp_all
theorem HH {P:Program} {A:AW} {r r':Operand->Value} {op:Op} {k:Value->AW->Prop} (h:∀x∈op.operands,r x=r' x):xv P op r A k=xv P op r' A k:=by
 cases op<;>try rfl
 case call c=>
  obtain⟨callee,args,ts⟩:=c;cases callee with
  | value x=>
    have hx:r x=r' x:=h x (by simp [Op.operands,Call.operands]);have ha:args.toList.map r=args.toList.map r':=List.map_congr_left λy hy=>h y (by simp only [Op.operands,Call.operands,Array.mem_append];exact .inr (Array.mem_toList_iff.1 hy));simp only [xv,hx,ha]
  | invoke _ _=>rfl
  | builtin _=>rfl
theorem JR {P:Program} {A:AW} {r r':Operand->Value} {op:Op} {k:Value->AW->Prop} (h:∀x∈op.operands,r x=r' x):iI P op r A k=iI P op r' A k:=by
 unfold iI;rw [DC h,RI h,HH h]
theorem Cj {A A':AW} (hk:∀i o,A.bg i=some o->A'.bg i=some o) {i:Nat} {cs:List Value} (h:A.bP i=some cs):A'.bP i=some cs:=by
 unfold AW.bP at *;split at h;rename_i hg;rw [hk _ _ hg];exact h;cases h
theorem L0 {P:Program} {A A':AW} (hk:∀i o,A.bg i=some o->A'.bg i=some o) {t:TypeId} {p:Addr} {v:Value} (h:gX P A t p=some v):gX P A' t p=some v:=by
 unfold gX at *;split at h;rename_i h1 h2;rw [Cj hk h1,h2];exact h;rename_i h1 h2;rw [Cj hk h1,h2];exact h;cases h
theorem TH {P:Program} {A A':AW} (hk:∀i o,A.bg i=some o->A'.bg i=some o) {r:Operand->Value} {op:Op} {v:Value} (h:aq P A r op=some v):aq P A' r op=some v:=by
 cases op<;>simp only [aq] at h ⊢<;>try exact h
 case convert s d x=>
  split at h;exact h;unfold Hy at h ⊢;split at h;rename_i h1 h2 h3;split at h;rename_i h4 h5;rw [h4,Cj hk h5];exact h;cases h;cases h
 case load t x=>
  split at h;rename_i p hp;exact L0 hk h;cases h
 case slice t x lo hi mx=>
  cases mx with
  | some q=>exact h
  | none=>
    simp only at h ⊢;unfold mU at *;split at h;rename_i hu _ _;split at h;rename_i e1;split at h;rename_i e2;split at h;rename_i e3;exact h;rename_i e3;split at h;rename_i q hq;have key:∀{e:TypeId} {p:Addr} {l:Nat},eu P A e p l=some q->eu P A' e p l=some q:=by
     intro e p l hq;unfold eu at hq ⊢;split at hq;rename_i hl;rw [if_pos hl];exact hq;rename_i hl;rw [if_neg hl];split at hq;rename_i g1 g2;rw [g1,hk _ _ g2];exact hq;cases hq
    rw [key hq];exact h;cases h;cases h;cases h;cases h;exact h;cases h
 case lookup t x ix c=>
  unfold yN at h ⊢;split at h<;>try(cases h;done)
  split at h<;>try(cases h;done)
  split at h<;>try(cases h;done)
  rename_i wi;split at h<;>try(cases h;done)
  simp_all;split at h<;>try(cases h;done)
  rename_i hg;have MM:=hk _ _ hg;simp_all
def u6:Op->Bool
 | .move _ | .assign _ | .pick _ _ _ | .build _ _ | .nilCheck _ | .binOp _ _ _ _ _ | .unOp _ _ _ | .makeInterface _ _ | .fieldAddr _ _ _ | .field _ _ _ | .indexAddr _ _ _ | .index _ _ _ | .extract _ _ | .makeFunc _ _ _=>true
 | .call c=>match c.callee with
   | .builtin .len | .builtin .min | .builtin .max=>true
   | _=>false
 | _=>false
def Ss:Op->Bool
 | .load _ _ | .slice _ _ _ _ _ | .lookup _ _ _ _ | .convert _ _ _=>true
 | op=>u6 op
theorem LZ {P:Program} {A A':AW} {r:Operand->Value} {op:Op} (hm:u6 op=true):aq P A' r op=aq P A r op:=by
 cases op<;>first|rfl|(simp [u6] at hm;done)
end Go.Stx
namespace Go.Stx
open Go
variable [Gl]
section
variable {P:Program} {bC:Array Oper} {S:AW->Prop} {md:Nat->Nat} {K:Fr->AW->Prop} {qn:List Nat}
def tE (P:Program) (bC:Array Oper) (S:AW->Prop) (md:Nat->Nat) (i:Nat) (o:Oper) (a:Fr) (A:AW) (k:Fr->AW->Prop):Prop:=
 if mO bC a o=true then
  if md i<=1 then ∃v,aq P A (ia a) o.op=some v/\k (eA a o.dst v) A
  else iI P o.op (ia a) A λv A'=>(if md i=2 then A.le A' else (md i=3->S A'))/\k (eA a o.dst v) A'
 else k (eA a o.dst undef) A
def OJ (L:Nat->Bool) (i:Nat) (o:Oper):Prop:=L i=false/\∀e∈o.after,Region.binds .any e=true->L e.on=true
def cr (L:Nat->Bool) (i:Nat):Nat->Bool:=λj=>if j=i then true else L j
def xx (P:Program) (bC:Array Oper) (S:AW->Prop) (md:Nat->Nat) (K:Fr->AW->Prop):Nat->(Nat->Bool)->Fr->AW->Prop
 | 0,L,a,A=>(∀i,i<bC.size->L i=true)/\K a A
 | n+1,L,a,A=>((∀i,i<bC.size->L i=true)->K a A)/\(A.Wf->∀i o,bC[i]? = some o->OJ L i o->tE P bC S md i o a A (xx P bC S md K n (cr L i)))
theorem tE.mono {i:Nat} {o:Oper} {a:Fr} {A:AW} {k k':Fr->AW->Prop} (h:tE P bC S md i o a A k)
 (hk:∀v A',(md i<=1->A'=A)->(md i=2->A.le A')->(md i=3->mO bC a o=true->S A')->(mO bC a o=false->A'=A)->k (eA a o.dst v) A'->k' (eA a o.dst v) A'):tE P bC S md i o a A k':=by
 unfold tE at *;split;rename_i hg;rw [if_pos hg] at h;split;rename_i hm;rw [if_pos hm] at h;obtain⟨v,h1,h2⟩:=h;exact⟨v,h1,hk v A (λ_=>rfl) (λe=>by omega) (λe=>by omega) (λ_=>rfl) h2⟩;rename_i hm;rw [if_neg hm] at h;refine h.mono λv A' ⟨h1,h2⟩=>⟨h1,hk v A' (λe=>by omega) (λe=>?_) (λe _=>?_) (λe=>?_) h2⟩;rwa [if_pos e] at h1;rw [if_neg (by omega)] at h1;exact h1 e;rw [e] at hg;cases hg;rename_i hg;rw [if_neg hg] at h;have MM:mO bC a o=false:=by simpa using hg
 exact hk undef A (λ_=>rfl) (λ_=>AW.le.refl A) (λ_ e=>by rw [e] at MM;cases MM) (λ_=>rfl) h
theorem tE.aop1 {i:Nat} {o:Oper} {a:Fr} {A:AW} {k:Fr->AW->Prop} (h:tE P bC S md i o a A k):OP P bC o a A k:=by
 unfold tE at h;unfold OP;split;rename_i hg;rw [if_pos hg] at h;split at h;obtain⟨v,h1,h2⟩:=h;simp only [iI,h1];exact h2;exact h.mono λv A' hh=>hh.2;rename_i hg;rw [if_neg hg] at h;exact h
theorem AO {n:Nat} {Q:Exit->Fr->AW->Prop} {a:Fr} {A:AW} {id:Nat} (hm:P.follows .mixedOrders=true) (tr:kJ bC=true) {k:Nat}
 (h:xx P bC S md (Q .normal) k (λ_=>false) a A):cM P n (.region id bC true) Q a A:=by
 refine M5 hm tr (λL a A=>∃k,xx P bC S md (Q .normal) k L a A) ⟨k,h⟩ ?_ ?_
 . rintro L a A i o hw ⟨k,hk⟩ ho hL ju;cases k with
   | zero=>
     have:=hk.1 i (Array.getElem?_eq_some_iff.1 ho).1;rw [hL] at this;cases this
   | succ k=>
     have:=(hk.2 hw i o ho ⟨hL,ju⟩).aop1;unfold OP at this ⊢;split;rename_i hg;rw [if_pos hg] at this;exact this.mono λv A' hh=>⟨k,hh⟩;rename_i hg;rw [if_neg hg] at this;exact⟨k,this⟩
 rintro L a A _ ⟨k,hk⟩ k8;cases k with
 | zero=>exact hk.2
 | succ k=>exact hk.1 k8
theorem Tq {a:Fr} {d:Option Tmp} {v:Value} {x:Operand} (h:∀t,d=some t->x≠.tmp t):ia (eA a d v) x=ia a x:=by
 cases d with
 | none=>rfl
 | some t=>
   cases x with
   | tmp q=>
     have:q≠t:=λe=>h t rfl (by rw [e]);simp [eA,km,this]
   | _=>rfl
theorem Je {a:Fr} {d:Option Tmp} {v:Value} {o:Oper} (h:∀t,d=some t->t∉o.looksAt bC):mO bC (eA a d v) o=mO bC a o:=by
 unfold mO;cases hg:o.guard with
 | none=>rfl
 | some g=>
   obtain⟨j,w⟩:=g;simp only;cases hj:(bC[j]?).bind (·.dst) with
   | none=>rfl
   | some q=>
     simp only;have hU:∀t,d=some t->q≠t:=λt ht e=>h t ht (by simp [Oper.looksAt,hg,hj,e]);have:eA a d v q=a q:=by
      cases d with
      | none=>rfl
      | some t=>simp [eA,km,hU t rfl]
     rw [this]
theorem sC {a:Fr} {d:Option Tmp} {v:Value} {o:Oper} (h:∀t,d=some t->t∉o.looksAt bC):∀x∈o.op.operands,ia (eA a d v) x=ia a x:=by
 intro x hx;refine Tq λt ht e=>h t ht ?_;subst e;simp only [Oper.looksAt,List.mem_append,List.mem_filterMap];exact .inl ⟨.tmp t,Array.mem_toList_iff.2 hx,rfl⟩
theorem zF {a:Fr} {d e:Option Tmp} {v u:Value} (h:∀t,d=some t->e≠some t):eA (eA a d v) e u=eA (eA a e u) d v:=by
 cases d with
 | none=>rfl
 | some t=>
   cases e with
   | none=>rfl
   | some q=>
     have:t≠q:=λx=>h t rfl (by rw [x]);funext j;simp only [eA,km];by_cases h1:j=q;subst h1;have:¬j=t:=λx=>this x.symm;simp [this];simp [h1]
theorem tE.XO {j:Nat} {oi oj:Oper} {a:Fr} {A:AW} {v:Value} {k:Fr->AW->Prop} (Xr:oi.apart bC oj=true) (h:tE P bC S md j oj (eA a oi.dst v) A k) :
 tE P bC S md j oj a A λa' A'=>k (eA a' oi.dst v) A':=by
 obtain⟨h1,h2,h3⟩:=Oper.apart_spec Xr;unfold tE at *;rw [Je h1] at h;split;rename_i hg;rw [if_pos hg] at h;split;rename_i hm;rw [if_pos hm,DC (sC h1)] at h;obtain⟨u,h4,h5⟩:=h;exact⟨u,h4,by show k (eA (eA a oj.dst u) oi.dst v) A;rw [<-zF h2];exact h5⟩;rename_i hm;rw [if_neg hm,JR (sC h1)] at h;refine h.mono λu A' ⟨h4,h5⟩=>⟨h4,by show k (eA (eA a oj.dst u) oi.dst v) A';rw [<-zF h2];exact h5⟩;rename_i hg;rw [if_neg hg] at h;rw [<-zF h2];exact h
def nL (bC:Array Oper) (L:Nat->Bool):Prop:=∀k o,bC[k]? = some o->L k=true->∀e∈o.after,Region.binds .any e=true->L e.on=true
def TM (qn:List Nat) (m:Nat) (e:Edge):Nat:=if Region.binds .any e=true then (m ||| qn.getD e.on 0) ||| 2 ^ e.on else m
def WP:List Oper->List Nat->List Nat
 | [],uM=>uM
 | o::r,uM=>WP r (uM++[o.after.toList.foldl (TM uM) 0])
def AU (bC:Array Oper) (qn:List Nat):Bool:=(List.range bC.size).all λi=>match bC[i]? with|some o=>qn.getD i 0 == o.after.toList.foldl (TM qn) 0|none=>false
theorem JF {qn:List Nat} {q:Nat}:∀(l:List Edge) (m:Nat),(l.foldl (TM qn) m).testBit q=true->m.testBit q=true\/∃e∈l,Region.binds .any e=true/\((qn.getD e.on 0).testBit q=true\/e.on=q)
 | [],m,h=>.inl h
 | e::l,m,h=>by
   rw [List.foldl_cons] at h;rcases JF l _ h with h1|⟨e',h1,h2⟩;unfold TM at h1;split at h1;rename_i hb;rw [Nat.testBit_or,Nat.testBit_or,Bool.or_eq_true,Bool.or_eq_true] at h1;rcases h1 with (h1|h1)|h1;exact .inl h1;exact .inr ⟨e,by simp,hb,.inl h1⟩;rw [Nat.testBit_two_pow] at h1;exact .inr ⟨e,by simp,hb,.inr (by simpa using h1)⟩;exact .inl h1;exact .inr ⟨e',by simp [h1],h2⟩
theorem JE (ha:AU bC qn=true) {i q:Nat} {o:Oper} (ho:bC[i]? = some o) (h:(qn.getD i 0).testBit q=true) :
 ∃e∈o.after,Region.binds .any e=true/\((qn.getD e.on 0).testBit q=true\/e.on=q):=by
 have:=List.all_eq_true.1 ha i (List.mem_range.2 (Array.getElem?_eq_some_iff.1 ho).1);rw [ho] at this;simp only [beq_iff_eq] at this;rw [this] at h;rcases JF _ _ h with h1|⟨e,h1,h2⟩;simp at h1;exact⟨e,Array.mem_toList_iff.1 h1,h2⟩
theorem Dr (tr:kJ bC=true) (ha:AU bC qn=true) {L:Nat->Bool} (hc:nL bC L) {q:Nat}:∀n k o,k<n->bC[k]? = some o->L k=true->(qn.getD k 0).testBit q=true->L q=true
 | 0,k,o,h,_,_,_=>by omega
 | n+1,k,o,hk,ho,hL,hb=>by
   obtain⟨e,he,QR,h1⟩:=JE ha ho hb;have Ze:=hc k o ho hL e he QR;rcases h1 with h1|h1;have bL:=mg tr ho he QR;have hks:=(Array.getElem?_eq_some_iff.1 ho).1;exact Dr tr ha hc n e.on bC[e.on] (by omega) (Array.getElem?_eq_getElem (by omega)) Ze h1;rw [<-h1];exact Ze
theorem Fo (tr:kJ bC=true) (ha:AU bC qn=true) {L:Nat->Bool} (hc:nL bC L) {j q:Nat} {o:Oper} (ho:bC[j]? = some o) (hr:OJ L j o) (hb:(qn.getD j 0).testBit q=true):L q=true:=by
 obtain⟨e,he,QR,h1⟩:=JE ha ho hb;have Ze:=hr.2 e he QR;rcases h1 with h1|h1;have bL:=mg tr ho he QR;have hks:=(Array.getElem?_eq_some_iff.1 ho).1;exact Dr tr ha hc _ e.on bC[e.on] (Nat.lt_succ_self _) (Array.getElem?_eq_getElem (by omega)) Ze h1;rw [<-h1];exact Ze
theorem nL.set {L:Nat->Bool} (hc:nL bC L) {i:Nat} {o:Oper} (ho:bC[i]? = some o) (hr:OJ L i o):nL bC (cr L i):=by
 intro k o' SW hk e he hb;unfold cr at hk ⊢;split;rfl;split at hk;rename_i e';subst e';rw [ho] at SW;injection SW with SW;subst SW;exact hr.2 e he hb;exact hc k o' SW hk e he hb
theorem OJ.mono {L:Nat->Bool} {i j:Nat} {o:Oper} (h:OJ L i o) (hU:i≠j):OJ (cr L j) i o:=by
 refine⟨by simp [cr,hU,h.1],λe he hb=>?_⟩;unfold cr;split;rfl;exact h.2 e he hb
theorem Nz (L:Nat->Bool) (i j:Nat):cr (cr L i) j=cr (cr L j) i:=by
 funext k;simp only [cr];split<;>split<;>rfl
theorem DP (tr:kJ bC=true) (ha:AU bC qn=true) {i:Nat} {o:Oper} {v:Value} (hi:bC[i]? = some o) (hmd:md i<=1):∀(n:Nat) (L:Nat->Bool) (a:Fr) (A:AW),nL bC L->
 (∀j oj,bC[j]? = some oj->j≠i->L j=false->(∀e∈oj.after,Region.binds .any e=true->e.on≠i)->o.apart bC oj=true)->
 (u6 o.op=true\/(∀j oj,bC[j]? = some oj->j≠i->3<=md j->L j=false->(qn.getD j 0).testBit i=true)\/((∀j oj,bC[j]? = some oj->j≠i->4<=md j->L j=false->(qn.getD j 0).testBit i=true)/\∀A',S A'->mO bC a o=true->aq P A' (ia a) o.op=some v))->
 OJ L i o->((mO bC a o=true/\aq P A (ia a) o.op=some v)\/(mO bC a o=false/\v=undef))->
 xx P bC S md K n (cr L i) (eA a o.dst v) A->xx P bC S md K (n+1) L a A:=by
 intro n
 induction n with
 | zero=>
   intro L a A hc C4 dv hr hy H;refine⟨λk8=>?_,λhw j oj hj HN=>?_⟩;have:=k8 i (Array.getElem?_eq_some_iff.1 hi).1;rw [hr.1] at this;cases this;by_cases mM:j=i;subst mM;rw [hi] at hj;injection hj with hj;subst hj;unfold tE;rcases hy with ⟨h1,h2⟩|⟨h1,rfl⟩;rw [if_pos h1,if_pos hmd];exact⟨v,h2,H⟩;rw [if_neg (by simp [h1])];exact H;have:=H.1 j (Array.getElem?_eq_some_iff.1 hj).1;simp [cr,mM,HN.1] at this
 | succ n ih=>
   intro L a A hc C4 dv hr hy H;refine⟨λk8=>?_,λhw j oj hj HN=>?_⟩;have:=k8 i (Array.getElem?_eq_some_iff.1 hi).1;rw [hr.1] at this;cases this;by_cases mM:j=i;subst mM;rw [hi] at hj;injection hj with hj;subst hj;unfold tE;rcases hy with ⟨h1,h2⟩|⟨h1,rfl⟩;rw [if_pos h1,if_pos hmd];exact⟨v,h2,H⟩;rw [if_neg (by simp [h1])];exact H;have hnot:∀e∈oj.after,Region.binds .any e=true->e.on≠i:=λe he hb heq=>by
    have:=HN.2 e he hb;rw [heq,hr.1] at this;cases this
   have Xr:=C4 j oj hj mM HN.1 hnot;obtain⟨g1,g2,g3⟩:=Oper.apart_spec Xr;have h1:=H.2 hw j oj hj (HN.mono mM);refine(tE.XO Xr h1).mono λu A' m1 m2 m3 m4 hk=>?_;have DY:mO bC (eA a oj.dst u) o=mO bC a o:=Je g3;have mt:∀A0,aq P A0 (ia (eA a oj.dst u)) o.op=aq P A0 (ia a) o.op:=λA0=>DC (sC g3);have kv:=hc.set hj HN;refine ih (cr L j) (eA a oj.dst u) A' kv ?_ ?_ (hr.mono (Ne.symm mM)) ?_ (by rw [Nz];exact hk);intro q oq hq Yy MP zO;refine C4 q oq hq Yy ?_ zO;unfold cr at MP;split at MP;cases MP;exact MP;rcases dv with h|h|h;exact .inl h;refine .inr (.inl λq oq hq Yy h3 MP=>h q oq hq Yy h3 ?_);unfold cr at MP;split at MP;cases MP;exact MP;refine .inr (.inr ⟨λq oq hq Yy h3 MP=>h.1 q oq hq Yy h3 ?_,λA'' hS hg=>by rw [mt];exact h.2 A'' hS (by rw [<-DY];exact hg)⟩);unfold cr at MP;split at MP;cases MP;exact MP;rw [DY,mt];rcases hy with ⟨h2,h3⟩|h2
   . refine .inl ⟨h2,?_⟩;rcases Nat.lt_or_ge (md j) 2 with S7|S7;rw [m1 (by omega)];exact h3;rcases Nat.lt_or_ge (md j) 3 with QG|QG;have eJ:=m2 (by omega);exact TH (λi o hi=>eJ.oK hw hi) h3;rcases dv with h|h|h;rw [LZ h];exact h3;exfalso;have:=Fo tr ha hc hj HN (h j oj hj mM QG HN.1);rw [hr.1] at this;cases this;cases hgj:mO bC a oj with
     | true=>
       rcases Nat.lt_or_ge (md j) 4 with hj3|hj3;exact h.2 A' (m3 (by omega) hgj) h2;exfalso;have:=Fo tr ha hc hj HN (h.1 j oj hj mM hj3 HN.1);rw [hr.1] at this;cases this
     | false=>rw [m4 hgj];exact h3
   exact .inr h2
structure xu where
 dst:Option Tmp
 op:Op
 guard:Option (Option Tmp×Bool)
 SC:Nat
def lop (bC:Array Oper) (x:Nat×Nat):Option xu:=(bC[x.1]?).map λo=>⟨o.dst,o.op,kU bC o.guard,x.2⟩
def cJ (bC:Array Oper) (qs:List (Nat×Nat)):List xu:=qs.filterMap (lop bC)
def ON (P:Program) (A:AW) (r:Operand->Value) (op:Op) (k:Value->Prop):Prop:=
 match aq P A r op with
 | some v=>k v
 | none=>False
def aS (P:Program) (S:AW->Prop) (K:Fr->AW->Prop):List xu->Fr->AW->Prop
 | [],a,A=>K a A
 | o::fu,a,A=>
   if sg a o.guard=true then
    match o.SC with
    | 0=>ON P A (ia a) o.op λv=>aS P S K fu (eA a o.dst v) A
    | 1=>ON P A (ia a) o.op λv=>(∀A',S A'->aq P A' (ia a) o.op=some v)/\aS P S K fu (eA a o.dst v) A
    | 2=>iI P o.op (ia a) A λv A'=>A.le A'/\aS P S K fu (eA a o.dst v) A'
    | 3=>iI P o.op (ia a) A λv A'=>S A'/\aS P S K fu (eA a o.dst v) A'
    | _=>iI P o.op (ia a) A λv A'=>aS P S K fu (eA a o.dst v) A'
   else aS P S K fu (eA a o.dst undef) A
def GI (qs:List (Nat×Nat)) (j:Nat):Nat:=((qs.find? λx=>x.1 == j).map (·.2)).getD 3
def wR (M:Nat) (i:Nat) (o:Oper):Bool:=!M.testBit i && o.after.all λe=>!Region.binds .any e || M.testBit e.on
def UQ (bC:Array Oper) (M:Nat) (i:Nat) (o:Oper):Bool:=(List.range bC.size).all λj=>j == i || M.testBit j || match bC[j]? with
 | some oj=>oj.after.any (λe=>Region.binds .any e && e.on == i) || o.apart bC oj
 | none=>true
def Tn (bC:Array Oper) (qn:List Nat) (qs:List (Nat×Nat)) (M i:Nat):Bool:=(List.range bC.size).all λj=>j == i || M.testBit j || !(Nat.ble 3 (GI qs j)) || (qn.getD j 0).testBit i
def Q6 (bC:Array Oper) (qn:List Nat) (qs:List (Nat×Nat)) (M i:Nat):Bool:=(List.range bC.size).all λj=>j == i || M.testBit j || !(Nat.ble 4 (GI qs j)) || (qn.getD j 0).testBit i
def XQ (bC:Array Oper) (M i:Nat):Bool:=(List.range bC.size).all λj=>j == i || match bC[j]? with
 | some oj=>!wR M j oj
 | none=>true
def ME (bC:Array Oper) (qn:List Nat) (qs:List (Nat×Nat)):Nat->List (Nat×Nat)->Bool
 | M,[]=>(List.range bC.size).all λj=>M.testBit j
 | M,(i,m)::r=>(match bC[i]? with
  | none=>false
  | some o=>wR M i o && Nat.beq (GI qs i) m && (if Nat.ble m 1 then UQ bC M i o && ((Nat.beq m 1 && Q6 bC qn qs M i) || u6 o.op || Tn bC qn qs M i) else XQ bC M i)) && ME bC qn qs (M ||| 2 ^ i) r
def NS (bC:Array Oper) (qs:List (Nat×Nat)):Bool:=kJ bC && (let qn:=WP bC.toList [];AU bC qn && (ME bC qn qs 0 qs && qs.all λx=>match bC[x.1]? with|some o=>Nat.ble x.2 1 == Ss o.op|none=>false))
theorem mn {M i:Nat} {o:Oper} {L:Nat->Bool} (hi:i<bC.size) (tr:kJ bC=true) (ho:bC[i]? = some o) (hL:∀j,j<bC.size->L j=M.testBit j):wR M i o=true↔OJ L i o:=by
 unfold wR OJ;rw [Bool.and_eq_true,Bool.not_eq_true',<-hL i hi,Array.all_eq_true_iff_forall_mem];refine and_congr Iff.rfl (forall_congr' λe=>forall_congr' λhe=>?_);simp only [Bool.or_eq_true,Bool.not_eq_true'];constructor;rintro (h|h) hb;rw [h] at hb;cases hb;have bL:=mg tr ho he hb;rw [hL e.on (by omega)];exact h;intro h;cases hb:Region.binds .any e;exact .inl rfl;have bL:=mg tr ho he hb;rw [<-hL e.on (by omega)];exact .inr (h hb)
theorem yU (tr:kJ bC=true) (ha:AU bC qn=true) {qs:List (Nat×Nat)}:∀(l:List (Nat×Nat)) (M:Nat) (L:Nat->Bool) (a:Fr) (A:AW),(∀j,j<bC.size->L j=M.testBit j)->nL bC L->
 ME bC qn qs M l=true->aS P S K (cJ bC l) a A->xx P bC S (GI qs) K l.length L a A
 | [],M,L,a,A,hL,hc,hg,h=>⟨λj hj=>by rw [hL j hj];exact List.all_eq_true.1 hg j (List.mem_range.2 hj),h⟩
 | (i,m)::r,M,L,a,A,hL,hc,hg,h=>by
   unfold ME at hg;rw [Bool.and_eq_true] at hg;obtain⟨zS,Lt⟩:=hg;cases hi:bC[i]? with
   | none=>rw [hi] at zS;cases zS
   | some o=>
     rw [hi] at zS;simp only [Bool.and_eq_true] at zS;obtain⟨⟨hr,hmd⟩,zU⟩:=zS;have tJ:=(Array.getElem?_eq_some_iff.1 hi).1;have hmd':GI qs i=m:=Nat.eq_of_beq_eq_true hmd;have Uu:OJ L i o:=(mn tJ tr hi hL).1 hr;have hL':∀j,j<bC.size->cr L i j=(M ||| 2 ^ i).testBit j:=λj hj=>by
      rw [Nat.testBit_or,Nat.testBit_two_pow,<-hL j hj];unfold cr;by_cases e:j=i;subst e;simp;have:¬i=j:=λx=>e x.symm;simp [e,this]
     have Wq:=hc.set hi Uu;have IH:∀a A,aS P S K (cJ bC r) a A->xx P bC S (GI qs) K r.length (cr L i) a A:=λa A h=>yU tr ha r (M ||| 2 ^ i) _ a A hL' Wq Lt h;have hlop:cJ bC ((i,m)::r)=⟨o.dst,o.op,kU bC o.guard,m⟩::cJ bC r:=(by simp [cJ,lop,hi]);rw [hlop] at h;unfold aS at h;simp only [<-Mh] at h;have Ys:¬m<=1->∀j oj,bC[j]? = some oj->OJ L j oj->j=i:=λGQ j oj hj HN=>by
      rw [if_neg (by simpa [Nat.ble_eq] using GQ)] at zU;have h1:=List.all_eq_true.1 zU j (List.mem_range.2 (Array.getElem?_eq_some_iff.1 hj).1);rw [hj] at h1;simp only [Bool.or_eq_true,beq_iff_eq,Bool.not_eq_true'] at h1;rcases h1 with h1|h1;exact h1;rw [(mn (Array.getElem?_eq_some_iff.1 hj).1 tr hj hL).2 HN] at h1;cases h1
     have YH:¬∀j,j<bC.size->L j=true:=λk8=>by
      have:=k8 i tJ;rw [Uu.1] at this;cases this
     by_cases GQ:m<=1;rw [if_pos (by simpa [Nat.ble_eq] using GQ)] at zU;simp only [Bool.and_eq_true] at zU;obtain⟨sd,dv⟩:=zU;have C4:∀j oj,bC[j]? = some oj->j≠i->L j=false->(∀e∈oj.after,Region.binds .any e=true->e.on≠i)->o.apart bC oj=true:=λj oj hj mM QZ zO=>by
      have wj:=(Array.getElem?_eq_some_iff.1 hj).1;have h1:=List.all_eq_true.1 sd j (List.mem_range.2 wj);rw [hj,<-hL j wj,QZ] at h1;simp only [Bool.or_eq_true,beq_iff_eq,Bool.false_eq_true,or_false] at h1;rcases h1 with h1|h1|h1;exact absurd h1 mM;exfalso;rw [Array.any_eq_true] at h1;obtain⟨q,hq,h2⟩:=h1;simp only [Bool.and_eq_true,beq_iff_eq] at h2;exact zO _ (Array.getElem_mem hq) h2.1 h2.2;exact h1
     have bO:∀v,((mO bC a o=true/\aq P A (ia a) o.op=some v)\/(mO bC a o=false/\v=undef))->(m=1->mO bC a o=true->∀A',S A'->aq P A' (ia a) o.op=some v)->
      aS P S K (cJ bC r) (eA a o.dst v) A->xx P bC S (GI qs) K (r.length+1) L a A:=by
      intro v hy hS hk;refine DP tr ha hi (by omega) r.length L a A hc C4 ?_ Uu hy (IH _ _ hk);simp only [Bool.or_eq_true] at dv;rcases dv with (h1|h1)|h1;rw [Bool.and_eq_true] at h1;refine .inr (.inr ⟨λj oj hj mM h3 QZ=>?_,λA' yx DY=>hS (Nat.eq_of_beq_eq_true h1.1) DY A' yx⟩);have wj:=(Array.getElem?_eq_some_iff.1 hj).1;have h2:=List.all_eq_true.1 h1.2 j (List.mem_range.2 wj);rw [<-hL j wj,QZ] at h2;have tL:Nat.ble 4 (GI qs j)=true:=Nat.ble_eq_true_of_le h3;rw [tL] at h2
      simpa [mM] using h2
      exact .inl h1;refine .inr (.inl λj oj hj mM h3 QZ=>?_);have wj:=(Array.getElem?_eq_some_iff.1 hj).1;have h2:=List.all_eq_true.1 h1 j (List.mem_range.2 wj);rw [<-hL j wj,QZ] at h2;have tL:Nat.ble 3 (GI qs j)=true:=Nat.ble_eq_true_of_le h3;rw [tL] at h2
      simpa [mM] using h2
     split at h;rename_i DY;have:m=0\/m=1:=by omega
     rcases this with rfl|rfl;simp only [ON] at h;split at h;rename_i v hv;exact bO v (.inl ⟨DY,hv⟩) (λe=>by omega) h;exact h.elim;simp only [ON] at h;split at h;rename_i v hv;exact bO v (.inl ⟨DY,hv⟩) (λ_ _=>h.1) h.2;exact h.elim;rename_i DY;have QJ:mO bC a o=false:=by simpa using DY
     exact bO undef (.inr ⟨QJ,rfl⟩) (λ_ e=>by rw [QJ] at e;cases e) h;refine⟨λk8=>absurd k8 YH,λhw j oj hj HN=>?_⟩;have mM:=Ys GQ j oj hj HN;subst mM;rw [hi] at hj;injection hj with hj;subst hj;unfold tE;split at h
     . rename_i DY;rw [if_pos DY,if_neg (by omega),hmd'];by_cases h2:m=2;subst h2;exact h.mono λv A' hh=>⟨by rw [if_pos rfl];exact hh.1,IH _ _ hh.2⟩;have:∃q,m=q+3:=⟨m-3,by omega⟩;obtain⟨q,rfl⟩:=this;cases q with
       | zero=>exact h.mono λv A' hh=>⟨by rw [if_neg h2];exact λ_=>hh.1,IH _ _ hh.2⟩
       | succ q=>exact h.mono λv A' hh=>⟨by rw [if_neg h2];exact λe=>by omega,IH _ _ hh⟩
     rename_i DY;rw [if_neg DY];exact IH _ _ h
end
theorem Rw {P:Program} {n:Nat} {Q:Exit->Fr->AW->Prop} {a:Fr} {A:AW} {id:Nat} {bC:Array Oper} (S:AW->Prop) (qs:List (Nat×Nat)) (hm:P.follows .mixedOrders=true) (hB:NS bC qs=true)
 (h:∀K:Fr->AW->Prop,(∀a A,Q .normal a A->K a A)->aS P S K (cJ bC qs) a A):cM P n (.region id bC true) Q a A:=by
 simp only [NS,Bool.and_eq_true] at hB;exact AO hm hB.1 (yU hB.1 hB.2.1 qs 0 _ a A (λj _=>by simp) (λk o _ hk=>by cases hk) hB.2.2.1 (h _ λ_ _ h=>h))
theorem KN {P:Program} {S:AW->Prop} {K:Fr->AW->Prop} {o:xu} {fu:List xu} {a:Fr} {A:AW}
 (h:∀R:Fr->AW->Prop,(∀a A,aS P S K fu a A->R a A)->
  if sg a o.guard=true then
   match o.SC with
   | 0=>ON P A (ia a) o.op λv=>R (eA a o.dst v) A
   | 1=>ON P A (ia a) o.op λv=>(∀A',S A'->aq P A' (ia a) o.op=some v)/\R (eA a o.dst v) A
   | 2=>iI P o.op (ia a) A λv A'=>A.le A'/\R (eA a o.dst v) A'
   | 3=>iI P o.op (ia a) A λv A'=>S A'/\R (eA a o.dst v) A'
   | _=>iI P o.op (ia a) A λv A'=>R (eA a o.dst v) A'
  else R (eA a o.dst undef) A):aS P S K (o::fu) a A:=h _ λ_ _ h=>h
attribute [simp] ON
end Go.Stx
namespace Go.Stx
open Go
variable [Gl]
def bZ (val:Nat->Value) (i:Nat) (v:Value):Nat->Value:=λj=>if j=i then v else val j
def MD (bC:Array Oper):Bool:=kJ bC && (List.range bC.size).all λi=>match bC[i]? with
 | some o=>o.guard.isNone && (List.range bC.size).all λj=>j == i || match bC[j]?,o.dst with
   | some oj,some d=>!(oj.dst == some d)
   | _,_=>true
 | none=>false
theorem CE {bC:Array Oper} (h:MD bC=true):kJ bC=true/\(∀(i:Nat) (o:Oper),bC[i]? = some o->o.guard=none)/\
 ∀(i j:Nat) (o oj:Oper) (d:Tmp),bC[i]? = some o->bC[j]? = some oj->i≠j->o.dst=some d->oj.dst≠some d:=by
 simp only [MD,Bool.and_eq_true] at h;refine⟨h.1,λi o ho=>?_,λi j o oj d ho hoj hU hd hdj=>?_⟩;have:=List.all_eq_true.1 h.2 i (List.mem_range.2 (Array.getElem?_eq_some_iff.1 ho).1);rw [ho] at this;simp only [Bool.and_eq_true] at this
 simpa using this.1
 have:=List.all_eq_true.1 h.2 i (List.mem_range.2 (Array.getElem?_eq_some_iff.1 ho).1);rw [ho] at this;simp only [Bool.and_eq_true] at this;have h2:=List.all_eq_true.1 this.2 j (List.mem_range.2 (Array.getElem?_eq_some_iff.1 hoj).1);rw [hoj,hd] at h2;simp only [Bool.or_eq_true,beq_iff_eq,Bool.not_eq_true'] at h2;rcases h2 with h2|h2;exact hU h2.symm;rw [hdj] at h2;simp at h2
theorem TA {P:Program} {n:Nat} {Q:Exit->Fr->AW->Prop} {a0:Fr} {A0:AW} {id:Nat} {bC:Array Oper} (hm:P.follows .mixedOrders=true) (hB:MD bC=true)
 (G:(Nat->Bool)->(Nat->Value)->HP) (φ:Nat->(Nat->Value)->Prop)
 (hG:∀(S:Nat->Bool) (i:Nat) (val:Nat->Value) (v:Value),nL bC S->S i=false->G S (bZ val i v)=G S val)
 (hφ:∀(S:Nat->Bool) (i j:Nat) (val:Nat->Value) (v:Value),nL bC S->S i=false->S j=true->φ j val->φ j (bZ val i v))
 (h0:∀val,bk A0 (G (λ_=>false) val))
 (yl:∀(i:Nat) (o:Oper),bC[i]? = some o->∀(S:Nat->Bool) (val:Nat->Value) (a:Fr) (A:AW),S i=false->(∀e∈o.after,Region.binds .any e=true->S e.on=true)->nL bC S->(∀j,S j=true->φ j val)->A.Wf->bk A (G S val)->
  (∀(j:Nat) (oj:Oper) (d:Tmp),bC[j]? = some oj->oj.dst=some d->S j=true->a d=val j)->(∀d:Tmp,(bC.toList.all λo=>!(o.dst == some d))=true->a d=a0 d)->
  iI P o.op (ia a) A λv A'=>φ i (bZ val i v)/\bk A' (G (cr S i) (bZ val i v)))
 (rT:∀(S:Nat->Bool) (val:Nat->Value) (a:Fr) (A:AW),(∀i,i<bC.size->S i=true)->(∀j,S j=true->φ j val)->A.Wf->bk A (G S val)->
  (∀(j:Nat) (oj:Oper) (d:Tmp),bC[j]? = some oj->oj.dst=some d->S j=true->a d=val j)->(∀d:Tmp,(bC.toList.all λo=>!(o.dst == some d))=true->a d=a0 d)->Q .normal a A) :
 cM P n (.region id bC true) Q a0 A0:=by
 obtain⟨tr,hgd,hds⟩:=CE hB;intro lZ m w ca hs hf;have I0:A0.Wf:=hs.xz
 refine M5 hm tr (λS a A=>(A.Wf->nL bC S/\∃val,(∀j,S j=true->φ j val)/\bk A (G S val)/\(∀(j:Nat) (oj:Oper) (d:Tmp),bC[j]? = some oj->oj.dst=some d->S j=true->a d=val j)/\
  (∀d:Tmp,(bC.toList.all λo=>!(o.dst == some d))=true->a d=a0 d)/\((∀i,i<bC.size->S i=true)->Q .normal a A))) ?_ ?_ ?_ lZ m w ca hs hf
 intro hw;refine⟨?_,λ_=>undef,?_,h0 _,?_,?_,λk8=>?_⟩;intro k o _ h;cases h;intro j h;cases h;intro j oj d _ _ h;cases h;intro d _;rfl;refine rT (λ_=>false) (λ_=>undef) a0 A0 k8 ?_ I0 (h0 _) ?_ ?_;intro j h;cases h;intro j oj d _ _ h;cases h;intro d _;rfl;intro S a A i o hw hJ ho qV ju;obtain⟨kv,val,h1,h2,h3,h4,_⟩:=hJ hw;have hcl':=kv.set ho ⟨qV,ju⟩;have dv:=yl i o ho S val a A qV ju kv h1 hw h2 h3 h4;unfold OP;have hg:mO bC a o=true:=by simp [mO,hgd i o ho]
 rw [if_pos hg];refine dv.mono λv A' ⟨h5,h6⟩ i8=>?_;have hp:∀j,cr S i j=true->φ j (bZ val i v):=λj hj=>by
  by_cases e:j=i;subst e;exact h5;have:S j=true:=by simpa [cr,e] using hj
  exact hφ S i j val v kv qV this (h1 j this)
 have sd:∀j oj d,bC[j]? = some oj->oj.dst=some d->cr S i j=true->eA a o.dst v d=bZ val i v j:=λj oj d hj hd hSj=>by
  by_cases e:j=i;subst e;rw [ho] at hj;injection hj with hj;subst hj;rw [hd];simp [eA,km,bZ];have hSj':S j=true:=by simpa [cr,e] using hSj
  have hU:o.dst≠some d:=λx=>hds i j o oj d ho hj (Ne.symm e) x hd;have:eA a o.dst v d=a d:=by
   cases hod:o.dst with
   | none=>rfl
   | some q=>
     have:d≠q:=λx=>hU (by rw [hod,x]);simp [eA,km,this]
  rw [this,h3 j oj d hj hd hSj'];simp [bZ,e]
 have N3:∀d:Tmp,(bC.toList.all λo=>!(o.dst == some d))=true->eA a o.dst v d=a0 d:=λd hd=>by
  have hU:o.dst≠some d:=λx=>by
   have:=List.all_eq_true.1 hd o (Array.mem_toList_iff.2 (Array.mem_of_getElem? ho));rw [x] at this;simp at this
  have:eA a o.dst v d=a d:=by
   cases hod:o.dst with
   | none=>rfl
   | some q=>
     have:d≠q:=λx=>hU (by rw [hod,x]);simp [eA,km,this]
  rw [this];exact h4 d hd
 exact⟨hcl',bZ val i v,hp,h6,sd,N3,λk8=>rT _ _ _ _ k8 hp i8 h6 sd N3⟩;intro S a A hw hJ k8;obtain⟨_,val,_,_,_,_,h⟩:=hJ hw;exact h k8
def wy (bC:Array Oper) (k j:Nat):Bool:=match bC[k]? with
 | some o=>o.after.toList.any λe=>Region.binds .any e && e.on == j
 | none=>false
def WG (bC:Array Oper) (j d:Nat):Bool:=match bC[j]? with
 | some o=>o.dst == some d
 | none=>false
def U8 (bC:Array Oper) (d:Nat):Bool:=bC.toList.all λo=>!(o.dst == some d)
def lJ (bC:Array Oper) (i:Nat):Op:=match bC[i]? with
 | some o=>o.op
 | none=>.alloc 0
structure UX (bC:Array Oper) (φ:Nat->(Nat->Value)->Prop) (a0:Fr) (S:Nat->Bool) (val:Nat->Value) (a:Fr):Prop where
 WK:∀k j,wy bC k j=true->S k=true->S j=true
 qA:∀j,S j=true->φ j val
 ly:∀j d,WG bC j d=true->S j=true->a d=val j
 fe:∀d,U8 bC d=true->a d=a0 d
theorem G3 {bC:Array Oper} {S:Nat->Bool} (hc:nL bC S) (k j:Nat) (h:wy bC k j=true) (hk:S k=true):S j=true:=by
 unfold wy at h;split at h;rename_i o ho;obtain⟨e,he,h2⟩:=List.any_eq_true.1 h;simp only [Bool.and_eq_true,beq_iff_eq] at h2;rw [<-h2.2];exact hc k o ho hk e (Array.mem_toList_iff.1 he) h2.1;cases h
theorem Rv {P:Program} {n:Nat} {Q:Exit->Fr->AW->Prop} {a0:Fr} {A0:AW} {id:Nat} {bC:Array Oper} (hm:P.follows .mixedOrders=true) (hB:MD bC=true)
 (G:(Nat->Bool)->(Nat->Value)->HP) (φ:Nat->(Nat->Value)->Prop)
 (hG:∀(S:Nat->Bool) (i:Nat) (val:Nat->Value) (v:Value),(∀k j,wy bC k j=true->S k=true->S j=true)->S i=false->G S (bZ val i v)=G S val)
 (hφ:∀(S:Nat->Bool) (i j:Nat) (val:Nat->Value) (v:Value),(∀k j,wy bC k j=true->S k=true->S j=true)->S i=false->S j=true->φ j val->φ j (bZ val i v))
 (h0:∀val,bk A0 (G (λ_=>false) val))
 (yl:∀(i:Nat),i<bC.size->∀(S:Nat->Bool) (val:Nat->Value) (a:Fr) (A:AW),S i=false->(∀j,wy bC i j=true->S j=true)->UX bC φ a0 S val a->A.Wf->bk A (G S val)->
  iI P (lJ bC i) (ia a) A λv A'=>φ i (bZ val i v)/\bk A' (G (cr S i) (bZ val i v)))
 (rT:∀(S:Nat->Bool) (val:Nat->Value) (a:Fr) (A:AW),(∀i,i<bC.size->S i=true)->UX bC φ a0 S val a->A.Wf->bk A (G S val)->Q .normal a A) :
 cM P n (.region id bC true) Q a0 A0:=by
 have T8:∀{S:Nat->Bool} {val:Nat->Value} {a:Fr},(∀(j:Nat) (oj:Oper) (d:Tmp),bC[j]? = some oj->oj.dst=some d->S j=true->a d=val j)->∀j d,WG bC j d=true->S j=true->a d=val j:=by
  intro S val a h j d hd hj;unfold WG at hd;split at hd;rename_i o ho;exact h j o d ho (by simpa using hd) hj;cases hd
 refine TA hm hB G φ (λS i val v hc=>hG S i val v (G3 hc)) (λS i j val v hc=>hφ S i j val v (G3 hc)) h0 ?_ ?_;intro i o ho S val a A hi ju hc hp hw hs hf R5;have mt:lJ bC i=o.op:=by unfold lJ;rw [ho]
 have GP:∀j,wy bC i j=true->S j=true:=λj hj=>by
  unfold wy at hj;rw [ho] at hj;obtain⟨e,he,h2⟩:=List.any_eq_true.1 hj;simp only [Bool.and_eq_true,beq_iff_eq] at h2;rw [<-h2.2];exact ju e (Array.mem_toList_iff.1 he) h2.1
 have bL:i<bC.size:=(Array.getElem?_eq_some_iff.1 ho).1;have key:=yl i bL S val a A hi GP ⟨G3 hc,hp,T8 hf,R5⟩ hw hs;rw [mt] at key;exact key;intro S val a A k8 hp hw hs hf R5;refine rT S val a A k8 ⟨?_,hp,T8 hf,R5⟩ hw hs;intro k j h hk;unfold wy at h;split at h;rename_i o ho;obtain⟨e,he,h2⟩:=List.any_eq_true.1 h;simp only [Bool.and_eq_true,beq_iff_eq] at h2;have bL:=mg (CE hB).1 ho (Array.mem_toList_iff.1 he) h2.1;have hk':=(Array.getElem?_eq_some_iff.1 ho).1;exact k8 j (by omega);cases h
end Go.Stx
namespace Go.Stx
open Go
variable [Gl]
def Ya (bC:Array Oper) (o:Oper):xu:=⟨o.dst,o.op,kU bC o.guard,3⟩
def de (bC:Array Oper):List xu:=bC.toList.map (Ya bC)
theorem rk {P:Program} {bC:Array Oper} {K:Fr->AW->Prop}:∀(l:List Oper) (a:Fr) (A:AW),aS P (λ_=>True) K (l.map (Ya bC)) a A->L7 P bC K l a A
 | [],a,A,h=>h
 | o::fu,a,A,h=>by
   simp only [List.map_cons,aS,Ya] at h;simp only [L7,Mh];split;rename_i hg;rw [if_pos hg] at h;exact h.mono λv A' hh=>rk fu _ _ hh.2;rename_i hg;rw [if_neg hg] at h;exact rk fu _ _ h
section
variable {P:Program} {n:Nat} {Q:Exit->Fr->AW->Prop} {a:Fr} {A:AW} {id:Nat}
theorem wn {bC:Array Oper} (h:∀K:Fr->AW->Prop,(∀a A,Q .normal a A->K a A)->aS P (λ_=>True) K (de bC) a A):cM P n (.region id bC false) Q a A:=
 LV (rk _ _ _ (h _ λ_ _ h=>h))
theorem wl {bC:Array Oper} (hm:P.follows .mixedOrders=true) (qs:List (Nat×Nat)) (hB:NS bC qs=true)
 (h:∀K:Fr->AW->Prop,(∀a A,Q .normal a A->K a A)->aS P (λ_=>True) K (cJ bC qs) a A):cM P n (.region id bC true) Q a A:=Rw _ qs hm hB h
theorem U5 {bC:Array Oper} (S:AW->Prop) (hm:P.follows .mixedOrders=true) (qs:List (Nat×Nat)) (hB:NS bC qs=true)
 (h:∀K:Fr->AW->Prop,(∀a A,Q .normal a A->K a A)->aS P S K (cJ bC qs) a A):cM P n (.region id bC true) Q a A:=Rw S qs hm hB h
end
theorem jX {P:Program} {S:AW->Prop} {K:Fr->AW->Prop} {o:xu} {fu:List xu} {a:Fr} {A:AW}
 (h:∀R:Fr->AW->Prop,(∀a A,aS P S K fu a A->R a A)->
  if sg a o.guard=true then
   match o.SC with
   | 0=>ON P A (ia a) o.op λv=>R (eA a o.dst v) A
   | 1=>ON P A (ia a) o.op λv=>(∀A',S A'->aq P A' (ia a) o.op=some v)/\R (eA a o.dst v) A
   | 2=>iI P o.op (ia a) A λv A'=>A.le A'/\R (eA a o.dst v) A'
   | 3=>iI P o.op (ia a) A λv A'=>S A'/\R (eA a o.dst v) A'
   | _=>iI P o.op (ia a) A λv A'=>R (eA a o.dst v) A'
  else R (eA a o.dst undef) A):aS P S K (o::fu) a A:=KN h
theorem lwn {P:Program} {S:AW->Prop} {K:Fr->AW->Prop} {a:Fr} {A:AW} (h:K a A):aS P S K [] a A:=h
theorem lr {A:AW} {p:Prop} (h:p):A.le A/\p:=⟨AW.le.refl A,h⟩
theorem la {A:AW} {o:dH} {p:Prop} (h:p):A.le (A.alloc o)/\p:=⟨AW.le.alloc A o,h⟩
theorem wb {P:Program} {n:Nat} {Q:Exit->Fr->AW->Prop} {a:Fr} {A:AW} {id:Nat} {c:Code} (h:cM P n c (cg id Q) a A):cM P n (.block id c) Q a A:=OE h
theorem wq {P:Program} {n:Nat} {Q:Exit->Fr->AW->Prop} {a:Fr} {A:AW} {x y:Code} (h:cM P n x (aL (cM P n y Q) Q) a A):cM P n (.seq x y) Q a A:=aO h
theorem wr {P:Program} {n:Nat} {Q:Exit->Fr->AW->Prop} {a:Fr} {A:AW} (h:Q .ret a A):cM P n .ret Q a A:=M4 h
theorem wk {P:Program} {n:Nat} {Q:Exit->Fr->AW->Prop} {a:Fr} {A:AW} (h:Q .normal a A):cM P n .skip Q a A:=Ru h
theorem we {P:Program} {n:Nat} {Q:Exit->Fr->AW->Prop} {a:Fr} {A:AW} {id:Nat} (h:Q (.exit id) a A):cM P n (.exit id) Q a A:=Rx h
theorem wc {P:Program} {n:Nat} {Q:Exit->Fr->AW->Prop} {a:Fr} {A:AW} {c:Operand} {x y:Code} {b:Bool} (hc:ia a c=.bool b) (h1:b=true->cM P n x Q a A) (h2:b=false->cM P n y Q a A) :
 cM P n (.cond c x y) Q a A:=Ry hc h1 h2
theorem ws {P:Program} {n:Nat} {c:Code} {Q:Exit->Fr->AW->Prop} {a:Fr} {A:AW} {k:Nat} (h:cM P n c (aL (aH P n c Q k) Q) a A):aH P n c Q (k+1) a A:=h
theorem ib {c:Prop} [Decidable c] {p q:Prop} (h1:c->p) (h2:¬c->q):if c then p else q:=Qi h1 h2
theorem wS:(∀bC:Array Oper,de bC=bC.toList.map (Ya bC))/\(∀(bC:Array Oper) (o:Oper),Ya bC o=⟨o.dst,o.op,kU bC o.guard,3⟩)/\
 (∀(bC:Array Oper) (l:List (Nat×Nat)),cJ bC l=l.filterMap (lop bC))/\(∀(bC:Array Oper) (x:Nat×Nat),lop bC x=(bC[x.1]?).map λo=>⟨o.dst,o.op,kU bC o.guard,x.2⟩)/\
 (∀(bC:Array Oper) (g:Option (Nat×Bool)),kU bC g=g.map λx=>((bC[x.1]?).bind (·.dst),x.2))/\
 (∀(f:Oper->xu) (a:Oper) (l:List Oper),List.map f (a::l)=f a::List.map f l)/\(∀f:Oper->xu,List.map f []=[])/\
 (∀(f:Nat×Nat->Option xu) (a:Nat×Nat) (l:List (Nat×Nat)),List.filterMap f (a::l)=match f a with|none=>List.filterMap f l|some b=>b::List.filterMap f l)/\(∀f:Nat×Nat->Option xu,List.filterMap f []=[])/\
 (∀f:Oper->xu,Option.map f none=none)/\(∀(f:Oper->xu) (a:Oper),Option.map f (some a)=some (f a))/\
 (∀f:Nat×Bool->Option Tmp×Bool,Option.map f none=none)/\(∀(f:Nat×Bool->Option Tmp×Bool) (a:Nat×Bool),Option.map f (some a)=some (f a))/\
 (∀(l:List Oper) (i:Nat),l.toArray[i]? = l[i]?)/\(∀(a:Oper) (l:List Oper),(a::l)[0]? = some a)/\(∀(a:Oper) (l:List Oper) (i:Nat),(a::l)[i+1]? = l[i]?)/\
 (∀(a:Oper) (f:Oper->Option Tmp),(some a).bind f=f a):=by
 refine⟨λ_=>rfl,λ_ _=>rfl,λ_ _=>rfl,λ_ _=>rfl,λ_ _=>rfl,λ_ _ _=>rfl,λ_=>rfl,λf a l=>?_,λ_=>rfl,λ_=>rfl,λ_ _=>rfl,λ_=>rfl,λ_ _=>rfl,λl i=>?_,λ_ _=>rfl,λ_ _ _=>rfl,λ_ _=>rfl⟩;rw [List.filterMap_cons];cases f a<;>rfl;simp
attribute [simp] AW.eg AW.dF Value.oneCell'
end Go.Stx
namespace Go.Stx
open Go
variable [Gl]
inductive uO where
 | nil
 | aD (i:Nat) (t:uO)
 | qD (i:Nat) (t:uO) (j:Nat) (t':uO)
inductive wG where
 | nil
 | aD (o:xu) (t:wG)
 | qD (o:xu) (t:wG) (o':xu) (t':wG)
def rg (bC:Array Oper) (md:List Nat) (i:Nat):xu:=match bC[i]? with
 | some o=>⟨o.dst,o.op,kU bC o.guard,md.getD i 3⟩
 | none=>⟨none,.alloc 0,none,3⟩
def bA (bC:Array Oper) (md:List Nat):uO->wG
 | .nil=>.nil
 | .aD i t=>.aD (rg bC md i) (bA bC md t)
 | .qD i t j t'=>.qD (rg bC md i) (bA bC md t) (rg bC md j) (bA bC md t')
def oG (P:Program) (S:AW->Prop) (o:xu) (a:Fr) (A:AW) (R:Fr->AW->Prop):Prop:=
 if sg a o.guard=true then
  match o.SC with
  | 0=>ON P A (ia a) o.op λv=>R (eA a o.dst v) A
  | 1=>ON P A (ia a) o.op λv=>(∀A',S A'->aq P A' (ia a) o.op=some v)/\R (eA a o.dst v) A
  | 2=>iI P o.op (ia a) A λv A'=>A.le A'/\R (eA a o.dst v) A'
  | 3=>iI P o.op (ia a) A λv A'=>S A'/\R (eA a o.dst v) A'
  | _=>iI P o.op (ia a) A λv A'=>R (eA a o.dst v) A'
 else R (eA a o.dst undef) A
def TW (P:Program) (S:AW->Prop) (K:Fr->AW->Prop):wG->Fr->AW->Prop
 | .nil,a,A=>K a A
 | .aD o t,a,A=>oG P S o a A (TW P S K t)
 | .qD o t o' t',a,A=>oG P S o a A (TW P S K t)/\oG P S o' a A (TW P S K t')
section
variable {P:Program} {bC:Array Oper} {S:AW->Prop} {K:Fr->AW->Prop} {qn:List Nat}
def Pn (bC:Array Oper) (qn md:List Nat) (M i:Nat):Bool:=(List.range bC.size).all λj=>j == i || M.testBit j || !(Nat.ble 3 (md.getD j 3)) || (qn.getD j 0).testBit i
def Np (bC:Array Oper) (qn md:List Nat) (M i:Nat):Bool:=(List.range bC.size).all λj=>j == i || M.testBit j || !(Nat.ble 4 (md.getD j 3)) || (qn.getD j 0).testBit i
def Ud (bC:Array Oper) (M i j:Nat):Bool:=(List.range bC.size).all λk=>k == i || k == j || match bC[k]? with
 | some o=>!wR M k o
 | none=>true
def MY (bC:Array Oper) (md:List Nat) (M i:Nat):Bool:=match bC[i]? with
 | some o=>wR M i o && !(Nat.ble (md.getD i 3) 1)
 | none=>false
def wI (bC:Array Oper) (qn md:List Nat):Nat->uO->Bool
 | M,.nil=>(List.range bC.size).all λj=>M.testBit j
 | M,.aD i t=>(match bC[i]? with
  | none=>false
  | some o=>wR M i o && (if Nat.ble (md.getD i 3) 1 then UQ bC M i o && ((Nat.beq (md.getD i 3) 1 && Np bC qn md M i) || u6 o.op || Pn bC qn md M i) else Ud bC M i i)) && wI bC qn md (M ||| 2 ^ i) t
 | M,.qD i t j t'=>MY bC md M i && MY bC md M j && Ud bC M i j && wI bC qn md (M ||| 2 ^ i) t && wI bC qn md (M ||| 2 ^ j) t'
def Pg (bC:Array Oper) (md:List Nat) (t:uO):Bool:=kJ bC && (let qn:=WP bC.toList [];AU bC qn && wI bC qn md 0 t)
def depth:uO->Nat
 | .nil=>0
 | .aD _ t=>depth t+1
 | .qD _ t _ t'=>max (depth t) (depth t')+1
theorem FU {md:Nat->Nat}:∀{n:Nat} {L:Nat->Bool} {a:Fr} {A:AW},xx P bC S md K n L a A->xx P bC S md K (n+1) L a A
 | 0,L,a,A,h=>⟨λ_=>h.2,λ_ i o ho hr=>by have:=h.1 i (Array.getElem?_eq_some_iff.1 ho).1;rw [hr.1] at this;cases this⟩
 | n+1,L,a,A,h=>⟨h.1,λhw i o ho hr=>(h.2 hw i o ho hr).mono λv A' _ _ _ _ hk=>FU hk⟩
theorem Nb {md:Nat->Nat} {n m:Nat} (hnm:n<=m) {L:Nat->Bool} {a:Fr} {A:AW} (h:xx P bC S md K n L a A):xx P bC S md K m L a A:=by
 induction hnm with
 | refl=>exact h
 | step _ ih=>exact FU ih
theorem xf {md:List Nat} {i:Nat} {o:Oper} (hi:bC[i]? = some o) (hm:¬md.getD i 3<=1) {a:Fr} {A:AW} {R:Fr->AW->Prop} (h:oG P S (rg bC md i) a A R):tE P bC S (λj=>md.getD j 3) i o a A R:=by
 simp only [oG,rg,hi,<-Mh] at h;unfold tE;split
 . rename_i hg;rw [if_pos hg] at h;by_cases h2:md.getD i 3=2;rw [h2] at h;exact h.mono λv A' hh=>⟨by rw [if_pos h2];exact hh.1,hh.2⟩;have:∃q,md.getD i 3=q+3:=⟨md.getD i 3-3,by omega⟩;obtain⟨q,hq⟩:=this;rw [hq] at h;cases q with
   | zero=>exact h.mono λv A' hh=>⟨by rw [if_neg h2];exact λ_=>hh.1,hh.2⟩
   | succ q=>exact h.mono λv A' hh=>⟨by rw [if_neg h2];exact λe=>by(have e':md.getD i 3=3:=e);omega,hh⟩
 rename_i hg;rw [if_neg hg] at h;exact h
theorem zt {L:Nat->Bool} {M i:Nat} (hL:∀j,j<bC.size->L j=M.testBit j):∀j,j<bC.size->cr L i j=(M ||| 2 ^ i).testBit j:=λj hj=>by
 rw [Nat.testBit_or,Nat.testBit_two_pow,<-hL j hj];unfold cr;by_cases e:j=i;subst e;simp;have:¬i=j:=λx=>e x.symm;simp [e,this]
theorem pu (tr:kJ bC=true) (ha:AU bC qn=true) {md:List Nat}:∀(t:uO) (M:Nat) (L:Nat->Bool) (a:Fr) (A:AW),(∀j,j<bC.size->L j=M.testBit j)->nL bC L->
 wI bC qn md M t=true->TW P S K (bA bC md t) a A->xx P bC S (λj=>md.getD j 3) K (depth t) L a A
 | .nil,M,L,a,A,hL,hc,hg,h=>⟨λj hj=>by rw [hL j hj];exact List.all_eq_true.1 hg j (List.mem_range.2 hj),h⟩
 | .qD i t j t',M,L,a,A,hL,hc,hg,h=>by
   simp only [wI,Bool.and_eq_true] at hg;obtain⟨⟨⟨⟨hei,hej⟩,hon⟩,S9⟩,hgj⟩:=hg;have eff:∀{k:Nat},MY bC md M k=true->∃o,bC[k]? = some o/\OJ L k o/\¬md.getD k 3<=1:=λ{k} hk=>by
    unfold MY at hk;cases ho:bC[k]? with
    | none=>rw [ho] at hk;cases hk
    | some o=>
      rw [ho] at hk;simp only [Bool.and_eq_true,Bool.not_eq_true'] at hk;refine⟨o,rfl,(mn (Array.getElem?_eq_some_iff.1 ho).1 tr ho hL).1 hk.1,λeJ=>?_⟩;rw [Nat.ble_eq_true_of_le eJ] at hk;exact absurd hk.2 (by simp)
   obtain⟨oi,hi,I2,zQ⟩:=eff hei;obtain⟨oj,hj,HN,rE⟩:=eff hej;refine⟨λk8=>?_,λhw k ok hk hrk=>?_⟩;have:=k8 i (Array.getElem?_eq_some_iff.1 hi).1;rw [I2.1] at this;cases this;have hkij:k=i\/k=j:=by
    have h1:=List.all_eq_true.1 hon k (List.mem_range.2 (Array.getElem?_eq_some_iff.1 hk).1);rw [hk] at h1;simp only [Bool.or_eq_true,beq_iff_eq,Bool.not_eq_true'] at h1;rcases h1 with (h1|h1)|h1;exact .inl h1;exact .inr h1;rw [(mn (Array.getElem?_eq_some_iff.1 hk).1 tr hk hL).2 hrk] at h1;cases h1
   rcases hkij with e|e;subst e;rw [hi] at hk;injection hk with hk;subst hk;exact(xf hi zQ h.1).mono λv A' _ _ _ _ hh=>Nb (Nat.le_max_left _ _) (pu tr ha t _ _ _ A' (zt hL) (hc.set hi I2) S9 hh);subst e;rw [hj] at hk;injection hk with hk;subst hk;exact(xf hj rE h.2).mono λv A' _ _ _ _ hh=>Nb (Nat.le_max_right _ _) (pu tr ha t' _ _ _ A' (zt hL) (hc.set hj HN) hgj hh)
 | .aD i t,M,L,a,A,hL,hc,hg,h=>by
   unfold wI at hg;rw [Bool.and_eq_true] at hg;obtain⟨zS,Lt⟩:=hg;cases hi:bC[i]? with
   | none=>rw [hi] at zS;cases zS
   | some o=>
     rw [hi] at zS;simp only [Bool.and_eq_true] at zS;obtain⟨hr,zU⟩:=zS;have tJ:=(Array.getElem?_eq_some_iff.1 hi).1;have Uu:OJ L i o:=(mn tJ tr hi hL).1 hr;have Wq:=hc.set hi Uu;have IH:∀a A,TW P S K (bA bC md t) a A->xx P bC S (λj=>md.getD j 3) K (depth t) (cr L i) a A:=λa A h=>pu tr ha t (M ||| 2 ^ i) _ a A (zt hL) Wq Lt h;by_cases GQ:md.getD i 3<=1;rw [if_pos (by simpa [Nat.ble_eq] using GQ)] at zU;simp only [Bool.and_eq_true] at zU;obtain⟨sd,dv⟩:=zU;have C4:∀j oj,bC[j]? = some oj->j≠i->L j=false->(∀e∈oj.after,Region.binds .any e=true->e.on≠i)->o.apart bC oj=true:=λj oj hj mM QZ zO=>by
      have wj:=(Array.getElem?_eq_some_iff.1 hj).1;have h1:=List.all_eq_true.1 sd j (List.mem_range.2 wj);rw [hj,<-hL j wj,QZ] at h1;simp only [Bool.or_eq_true,beq_iff_eq,Bool.false_eq_true,or_false] at h1;rcases h1 with h1|h1|h1;exact absurd h1 mM;exfalso;rw [Array.any_eq_true] at h1;obtain⟨q,hq,h2⟩:=h1;simp only [Bool.and_eq_true,beq_iff_eq] at h2;exact zO _ (Array.getElem_mem hq) h2.1 h2.2;exact h1
     have bO:∀v,((mO bC a o=true/\aq P A (ia a) o.op=some v)\/(mO bC a o=false/\v=undef))->(md.getD i 3=1->mO bC a o=true->∀A',S A'->aq P A' (ia a) o.op=some v)->
      TW P S K (bA bC md t) (eA a o.dst v) A->xx P bC S (λj=>md.getD j 3) K (depth t+1) L a A:=by
      intro v hy hS hk;refine DP (md:=λj=>md.getD j 3) tr ha hi GQ (depth t) L a A hc C4 ?_ Uu hy (IH _ _ hk);simp only [Bool.or_eq_true] at dv;rcases dv with (h1|h1)|h1;rw [Bool.and_eq_true] at h1;refine .inr (.inr ⟨λj oj hj mM h3 QZ=>?_,λA' yx DY=>hS (Nat.eq_of_beq_eq_true h1.1) DY A' yx⟩);have wj:=(Array.getElem?_eq_some_iff.1 hj).1;have h2:=List.all_eq_true.1 h1.2 j (List.mem_range.2 wj);rw [<-hL j wj,QZ] at h2;have tL:Nat.ble 4 (md.getD j 3)=true:=Nat.ble_eq_true_of_le h3;rw [tL] at h2
      simpa [mM] using h2
      exact .inl h1;refine .inr (.inl λj oj hj mM h3 QZ=>?_);have wj:=(Array.getElem?_eq_some_iff.1 hj).1;have h2:=List.all_eq_true.1 h1 j (List.mem_range.2 wj);rw [<-hL j wj,QZ] at h2;have tL:Nat.ble 3 (md.getD j 3)=true:=Nat.ble_eq_true_of_le h3;rw [tL] at h2
      simpa [mM] using h2
     have h':oG P S (rg bC md i) a A (TW P S K (bA bC md t)):=h;simp only [oG,rg,hi,<-Mh] at h';split at h';rename_i DY;have:md.getD i 3=0\/md.getD i 3=1:=by omega
     rcases this with e|e;rw [e] at h';simp only [ON] at h';split at h';rename_i v hv;exact bO v (.inl ⟨DY,hv⟩) (λe'=>by omega) h';exact h'.elim;rw [e] at h';simp only [ON] at h';split at h';rename_i v hv;exact bO v (.inl ⟨DY,hv⟩) (λ_ _=>h'.1) h'.2;exact h'.elim;rename_i DY;have QJ:mO bC a o=false:=by simpa using DY
     exact bO undef (.inr ⟨QJ,rfl⟩) (λ_ e=>by rw [QJ] at e;cases e) h';rw [if_neg (by simpa [Nat.ble_eq] using GQ)] at zU;refine⟨λk8=>?_,λhw j oj hj HN=>?_⟩;have:=k8 i tJ;rw [Uu.1] at this;cases this;have mM:j=i:=by
      have h1:=List.all_eq_true.1 zU j (List.mem_range.2 (Array.getElem?_eq_some_iff.1 hj).1);rw [hj] at h1;simp only [Bool.or_eq_true,beq_iff_eq,Bool.not_eq_true'] at h1;rcases h1 with (h1|h1)|h1;exact h1;exact h1;rw [(mn (Array.getElem?_eq_some_iff.1 hj).1 tr hj hL).2 HN] at h1;cases h1
     subst mM;rw [hi] at hj;injection hj with hj;subst hj;exact(xf hi GQ h).mono λv A' _ _ _ _ hh=>IH _ _ hh
end
theorem wt {P:Program} {n:Nat} {Q:Exit->Fr->AW->Prop} {a:Fr} {A:AW} {id:Nat} {bC:Array Oper} (S:AW->Prop) (hm:P.follows .mixedOrders=true) (md:List Nat) (t:uO) (hB:Pg bC md t=true)
 (h:∀K:Fr->AW->Prop,(∀a A,Q .normal a A->K a A)->TW P S K (bA bC md t) a A):cM P n (.region id bC true) Q a A:=by
 simp only [Pg,Bool.and_eq_true] at hB;exact AO hm hB.1 (pu hB.1 hB.2.1 t 0 _ a A (λj _=>by simp) (λk o _ hk=>by cases hk) hB.2.2 (h _ λ_ _ h=>h))
theorem Md {P:Program} {S:AW->Prop} {K:Fr->AW->Prop} {o:xu} {t:wG} {a:Fr} {A:AW} (h:∀R:Fr->AW->Prop,(∀a A,TW P S K t a A->R a A)->oG P S o a A R):TW P S K (.aD o t) a A:=h _ λ_ _ h=>h
theorem H0 {P:Program} {S:AW->Prop} {K:Fr->AW->Prop} {o o':xu} {t t':wG} {a:Fr} {A:AW} (h:∀R:Fr->AW->Prop,(∀a A,TW P S K t a A->R a A)->oG P S o a A R)
 (h':∀R:Fr->AW->Prop,(∀a A,TW P S K t' a A->R a A)->oG P S o' a A R):TW P S K (.qD o t o' t') a A:=⟨h _ λ_ _ h=>h,h' _ λ_ _ h=>h⟩
theorem Mc {P:Program} {S:AW->Prop} {K:Fr->AW->Prop} {a:Fr} {A:AW} (h:K a A):TW P S K .nil a A:=h
attribute [simp] oG
end Go.Stx
namespace Go.Stx
open Go
variable [Gl]
def ff (A B:AW):Prop:=∀i o,A.bg i=some o->B.bg i=some o
theorem ff.trans {A B C:AW} (h:ff A B) (k:ff B C):ff A C:=λi o hi=>k i o (h i o hi)
theorem ff.jC {A B:AW} (h:A.le B) (hw:A.Wf):ff A B:=λi o hi=>h.oK hw hi
theorem ff.KD {A B:AW} {F:HP} (h:bk B (ma A.bg*F)):ff A B:=by
 obtain⟨_,⟨a,b,d,rfl,rfl,q⟩,hs⟩:=h;intro i o hi;exact hs i o (by simp [Hp.un,hi])
theorem dM.keeps {A B:AW} (hk:ff A B) {size:Nat} {v:Value} {n:Nat} {cs:List Value} (h:dM A size v n cs):dM B size v n cs:=by
 rcases h with h|⟨p,c,bP,own,u,h1,h2,h3,h4⟩;exact .inl h;exact .inr ⟨p,c,bP,own,u,h1,h2,hk _ _ h3,h4⟩
theorem bx.keeps {A B:AW} (hk:ff A B) {k:IntKind} {v:Value} {l:List Int} (h:bx A k v l):bx B k v l:=dM.keeps hk h
def qr (A:AW) (v:Value) (ls:List (List Int)):Prop:=∃us:List Value,dM A 1 v ls.length us/\∀i (hi:i<ls.length),∃u,us[i]? = some u/\bx A .i64 u ls[i]
theorem qr.keeps {A B:AW} (hk:ff A B) {v:Value} {ls:List (List Int)} (h:qr A v ls):qr B v ls:=by
 obtain⟨us,h1,h2⟩:=h;exact⟨us,h1.keeps hk,λi hi=>let ⟨u,h3,h4⟩:=h2 i hi;⟨u,h3,h4.keeps hk⟩⟩
theorem qr.bE {A:AW} {v:Value} {ls:List (List Int)} (h:qr A v ls):∃o c,v=.slice o ls.length c/\ls.length<=c:=by
 obtain⟨us,h1,_⟩:=h;exact h1.bE
theorem qr.at {A:AW} {o:Option Addr} {n c:Nat} {ls:List (List Int)} (h:qr A (.slice o n c) ls) {i:Nat} (hi:i<ls.length) :
 ∃p bP own u,o=some p/\A.bg p.block=some (.cells bP own 1)/\bP[p.off+i]? = some u/\bx A .i64 u ls[i]:=by
 obtain⟨us,h1,h2⟩:=h;obtain⟨u,h3,h4⟩:=h2 i hi;rcases h1 with ⟨_,e,_⟩|⟨p,c',bP,own,q,e1,e2,e3,e4,e5,e6⟩;omega;injection e1 with e1 e7 e8;subst e4;refine⟨p,bP,own,u,e1,e3,?_,h4⟩;rw [e6,Nat.mul_one,List.getElem?_take_of_lt hi,List.getElem?_drop] at h3;exact h3
end Go.Stx
namespace Go.Stx
open Go
variable [Gl]
inductive It where
 | at (i:Nat) (o:dH)
 | h (P:HP)
def It.hp:It->HP
 | .at i o=>pt i o
 | .h P=>P
def aE:List It->HP
 | []=>eC
 | x::L=>x.hp*aE L
def ah (A:AW) (L:List It):Prop:=bk A (aE L)
theorem fF:∀(L K:List It),aE (L++K)=aE L*aE K
 | [],K=>by show aE K=eC*aE K;rw [gL]
 | x::L,K=>by show x.hp*aE (L++K)=x.hp*aE L*aE K;rw [fF L K,HP.cx]
def Fv:List It->Nat->Option (It×List It)
 | [],_=>none
 | x::L,0=>some (x,L)
 | x::L,k+1=>(Fv L k).map λy=>(y.1,x::y.2)
theorem Ay:∀{L:List It} {k:Nat} {x:It} {K:List It},Fv L k=some (x,K)->aE L=x.hp*aE K
 | [],_,_,_,h=>by cases h
 | y::L,0,x,K,h=>by injection h with h;injection h with h1 h2;subst h1;subst h2;rfl
 | y::L,k+1,x,K,h=>by
   simp only [Fv,Option.map_eq_some_iff] at h;obtain⟨⟨z,M⟩,h1,h2⟩:=h;injection h2 with h2 h3;subst h2;subst h3;show y.hp*aE L=_;rw [Ay h1];show y.hp*(z.hp*aE M)=z.hp*(y.hp*aE M)
   ac_rfl
theorem ah.aD {A:AW} {L K:List It} {x:It} (h:ah A L) (k:Nat) (e:Fv L k=some (x,K)):bk A (x.hp*aE K):=by
 unfold ah at h;rwa [Ay e] at h
theorem ah.g {A:AW} {L K:List It} {i:Nat} {o:dH} (h:ah A L) (k:Nat) (e:Fv L k=some (.at i o,K)):A.bg i=some o:=bk.bg (h.aD k e)
theorem ah.keeps {A B:AW} {L K:List It} (h:ah B L) (k:Nat) (e:Fv L k=some (.h (ma A.bg),K)):ff A B:=ff.KD (h.aD k e)
theorem ah.le {A A':AW} {L:List It} (h:ah A L) (hw:A.Wf) (hl:A.le A'):ah A' L:=bk.le h hw hl
theorem ah.alloc {A:AW} {L:List It} (h:ah A L) (hw:A.Wf) (o:dH):ah (A.alloc o) (.at A.next o::L):=bk.alloc h hw o
theorem ah.mk {A:AW} {F:HP} (h:bk A F):ah A [.h F]:=by
 show bk A (F*eC);rw [du];exact h
def aR (A:AW):List It->Prop
 | []=>True
 | .at i o::L=>A.bg i=some o/\aR A L
 | .h _::L=>aR A L
def bj (A:AW):List It->Prop
 | []=>True
 | .at i _::L=>((i=A.next)=False/\(A.next=i)=False/\(∀k,(i=A.next+k)=False)/\∀k,(A.next+k=i)=False)/\bj A L
 | .h _::L=>bj A L
def eE (i:Nat):List It->Prop
 | []=>True
 | .at j _::L=>((i=j)=False/\(j=i)=False)/\eE i L
 | .h _::L=>eE i L
def bN:List It->Prop
 | []=>True
 | .at i _::L=>eE i L/\bN L
 | .h _::L=>bN L
theorem ah.tail {A:AW} {x:It} {L:List It} (h:ah A (x::L)):ah A L:=bk.right h
theorem ah.LA {A:AW}:∀{L:List It},ah A L->aR A L
 | [],_=>trivial
 | .at i o::L,h=>⟨bk.bg h,ah.LA h.tail⟩
 | .h P::L,h=>ah.LA (L:=L) (ah.tail (x:=.h P) h)
theorem ah.sE {A:AW} (hw:A.Wf):∀{L:List It},ah A L->bj A L
 | [],_=>trivial
 | .at i o::L,h=>by
   have:=hw.lt (bk.bg h);exact⟨⟨eq_false (by omega),eq_false (by omega),λk=>eq_false (by omega),λk=>eq_false (by omega)⟩,ah.sE hw h.tail⟩
 | .h P::L,h=>ah.sE hw (L:=L) (ah.tail (x:=.h P) h)
theorem ah.KL {A:AW} {i:Nat} {o:dH}:∀{L:List It},ah A (.at i o::L)->eE i L
 | [],_=>trivial
 | .at j p::L,h=>by
   have hU:i≠j:=bk.ne h;refine⟨⟨eq_false hU,eq_false (Ne.symm hU)⟩,ah.KL (A:=A) (L:=L) (o:=o) ?_⟩;have h1:bk A (pt i o*(pt j p*aE L)):=h;exact bk.right (h1.dK (by ac_rfl:_=pt j p*(pt i o*aE L)))
 | .h P::L,h=>by
   have h1:bk A (pt i o*(P*aE L)):=h;exact ah.KL (A:=A) (L:=L) (o:=o) (bk.right (h1.dK (by ac_rfl:_=P*(pt i o*aE L))))
theorem ah.nes {A:AW}:∀{L:List It},ah A L->bN L
 | [],_=>trivial
 | .at i o::L,h=>⟨ah.KL h,ah.nes h.tail⟩
 | .h P::L,h=>ah.nes (L:=L) (ah.tail (x:=.h P) h)
theorem ah.eD {A:AW} {L:List It} (h:ah A L) (hw:A.Wf):aR A L/\bj A L/\bN L:=⟨h.LA,h.sE hw,h.nes⟩
def bf (P:Program) (f:FuncId) (args:List Value) (pC:List It) (φ:Value->Prop) (post:Value->List It):Prop:=
 ∀(A:AW) (F:HP),A.Wf->ah A (pC++[.h F])->ax P f args A λv A'=>φ v/\ah A' (post v++[.h F])
theorem bf.pX {P:Program} {f:FuncId} {args:List Value} {pC:List It} {φ:Value->Prop} {post:Value->List It} {p:HP} {q:Value->HP} (h:oX P f args p q) (hp:aE pC=p) (hq:∀v,q v=Bl (φ v)*aE (post v)) :
 bf P f args pC φ post:=by
 intro A F hw hS;refine(h A F hw (by unfold ah at hS;rw [fF,hp] at hS;have h3:bk A (p*(F*eC)):=hS;rwa [du] at h3)).mono ?_;intro v A' hs;rw [hq,HP.cx,bk.pr] at hs;refine⟨hs.1,?_⟩;unfold ah;rw [fF];show bk A' (aE (post v)*(F*eC));rw [du];exact hs.2
section
def Od (l:List (Nat×Nat)):Prop:=True
theorem od (l:List (Nat×Nat)):Od l:=trivial
structure Ts (S:AW->Prop) (md:List Nat) (t:uO):Prop
structure Os (S:AW->Prop) (l:List (Nat×Nat)):Prop
class Sb (G:Prop) (H:outParam Prop):Prop where f:H->G
section
variable [Gl] {P:Program} {n:Nat} {Q:Exit->Fr->AW->Prop} {a:Fr} {A:AW} {id k:Nat} {c x y:Code} {S:AW->Prop} {K X:Fr->AW->Prop} {o:dH} {p:Prop}
instance:Sb (cM P n (.block id c) Q a A) (cM P n c (cg id Q) a A):=⟨wb⟩
instance:Sb (cM P n (.seq x y) Q a A) (cM P n x (aL (cM P n y Q) Q) a A):=⟨wq⟩
instance:Sb (cM P n .ret Q a A) (Q .ret a A):=⟨wr⟩
instance:Sb (cM P n .skip Q a A) (Q .normal a A):=⟨wk⟩
instance:Sb (cM P n (.exit id) Q a A) (Q (.exit id) a A):=⟨we⟩
instance:Sb (aH P n c Q (k+1) a A) (cM P n c (aL (aH P n c Q k) Q) a A):=⟨ws⟩
instance:Sb (aS P S K [] a A) (K a A):=⟨lwn⟩
instance:Sb (A.le A/\p) p:=⟨lr⟩
instance:Sb (A.le (A.alloc o)/\p) p:=⟨la⟩
theorem xD {bC:Array Oper} {qs:List (Nat×Nat)} (q:Od qs) (hm:P.follows .mixedOrders=true) (hB:NS bC qs=true)
 (h:∀K:Fr->AW->Prop,(∀a A,Q .normal a A->K a A)->aS P (λ_=>True) K (cJ bC qs) a A):cM P n (.region id bC true) Q a A:=wl hm qs hB h
theorem Ng {bC:Array Oper} {md:List Nat} {t:uO} (q:Ts S md t) (hm:P.follows .mixedOrders=true) (hB:Pg bC md t=true)
 (h:∀K:Fr->AW->Prop,(∀a A,Q .normal a A->K a A)->TW P S K (bA bC md t) a A):cM P n (.region id bC true) Q a A:=wt S hm md t hB h
theorem Nh {bC:Array Oper} {qs:List (Nat×Nat)} (q:Os S qs) (hm:P.follows .mixedOrders=true) (hB:NS bC qs=true)
 (h:∀K:Fr->AW->Prop,(∀a A,Q .normal a A->K a A)->aS P S K (cJ bC qs) a A):cM P n (.region id bC true) Q a A:=U5 S hm qs hB h
theorem ZP {bC:Array Oper} (h:cM P n (.region id bC true) Q a A):cM P n (.region id bC true) Q a A:=h
theorem acG {f:FuncId} {args:List Value} {k:Value->AW->Prop} (h:ax P f args A k):ax P f args A k:=h
end
theorem gR {A:AW} {i:Nat} {o:Option dH} (h:A.bg i=o):A.bg i=o:=h
theorem twG [Gl] {P:Program} {S:AW->Prop} {K:Fr->AW->Prop} {t:wG} {a:Fr} {A:AW} (h:TW P S K t a A):TW P S K t a A:=h
theorem nx {G H:Prop} [i:Sb G H] (h:H):G:=i.f h
structure Tg (n:Nat) (p:Prop):Prop where h:p
structure Kp (p:Prop):Prop where h:p
inductive Df:Prop->Prop where
 | T:Df True
 | C {p q:Prop}:Df p->Df q->Df (p/\q)
 | A {p:Prop}:Df p
theorem J1 {a1:Prop} (x1:a1):a1/\True:=⟨x1,trivial⟩
theorem J2 {a1 a2:Prop} (x1:a1) (x2:a2):a1/\a2/\True:=⟨x1,x2,trivial⟩
theorem J3 {a1 a2 a3:Prop} (x1:a1) (x2:a2) (x3:a3):a1/\a2/\a3/\True:=⟨x1,x2,x3,trivial⟩
theorem J4 {a1 a2 a3 a4:Prop} (x1:a1) (x2:a2) (x3:a3) (x4:a4):a1/\a2/\a3/\a4/\True:=⟨x1,x2,x3,x4,trivial⟩
theorem J5 {a1 a2 a3 a4 a5:Prop} (x1:a1) (x2:a2) (x3:a3) (x4:a4) (x5:a5):a1/\a2/\a3/\a4/\a5/\True:=⟨x1,x2,x3,x4,x5,trivial⟩
theorem J6 {a1 a2 a3 a4 a5 a6:Prop} (x1:a1) (x2:a2) (x3:a3) (x4:a4) (x5:a5) (x6:a6):a1/\a2/\a3/\a4/\a5/\a6/\True:=⟨x1,x2,x3,x4,x5,x6,trivial⟩
theorem J7 {a1 a2 a3 a4 a5 a6 a7:Prop} (x1:a1) (x2:a2) (x3:a3) (x4:a4) (x5:a5) (x6:a6) (x7:a7):a1/\a2/\a3/\a4/\a5/\a6/\a7/\True:=⟨x1,x2,x3,x4,x5,x6,x7,trivial⟩
theorem J8 {a1 a2 a3 a4 a5 a6 a7 a8:Prop} (x1:a1) (x2:a2) (x3:a3) (x4:a4) (x5:a5) (x6:a6) (x7:a7) (x8:a8):a1/\a2/\a3/\a4/\a5/\a6/\a7/\a8/\True:=⟨x1,x2,x3,x4,x5,x6,x7,x8,trivial⟩
theorem J9 {a1 a2 a3 a4 a5 a6 a7 a8 a9:Prop} (x1:a1) (x2:a2) (x3:a3) (x4:a4) (x5:a5) (x6:a6) (x7:a7) (x8:a8) (x9:a9):a1/\a2/\a3/\a4/\a5/\a6/\a7/\a8/\a9/\True:=⟨x1,x2,x3,x4,x5,x6,x7,x8,x9,trivial⟩
theorem Bs {a1 a2 a3 a4 a5 a6 a7 a8 a9 wF:Prop} (x1:a1) (x2:a2) (x3:a3) (x4:a4) (x5:a5) (x6:a6) (x7:a7) (x8:a8) (x9:a9) (D3:wF):a1/\a2/\a3/\a4/\a5/\a6/\a7/\a8/\a9/\wF/\True:=⟨x1,x2,x3,x4,x5,x6,x7,x8,x9,D3,trivial⟩
theorem HE {a1 a2 a3 a4 a5 a6 a7 a8 a9 wF yV:Prop} (x1:a1) (x2:a2) (x3:a3) (x4:a4) (x5:a5) (x6:a6) (x7:a7) (x8:a8) (x9:a9) (D3:wF) (FX:yV):a1/\a2/\a3/\a4/\a5/\a6/\a7/\a8/\a9/\wF/\yV/\True:=⟨x1,x2,x3,x4,x5,x6,x7,x8,x9,D3,FX,trivial⟩
theorem tA {a1 a2 a3 a4 a5 a6 a7 a8 a9 wF yV Bb:Prop} (x1:a1) (x2:a2) (x3:a3) (x4:a4) (x5:a5) (x6:a6) (x7:a7) (x8:a8) (x9:a9) (D3:wF) (FX:yV) (HU:Bb):a1/\a2/\a3/\a4/\a5/\a6/\a7/\a8/\a9/\wF/\yV/\Bb/\True:=⟨x1,x2,x3,x4,x5,x6,x7,x8,x9,D3,FX,HU,trivial⟩
theorem mi {a1 a2 a3 a4 a5 a6 a7 a8 a9 wF yV Bb DQ:Prop} (x1:a1) (x2:a2) (x3:a3) (x4:a4) (x5:a5) (x6:a6) (x7:a7) (x8:a8) (x9:a9) (D3:wF) (FX:yV) (HU:Bb) (JT:DQ):a1/\a2/\a3/\a4/\a5/\a6/\a7/\a8/\a9/\wF/\yV/\Bb/\DQ/\True:=⟨x1,x2,x3,x4,x5,x6,x7,x8,x9,D3,FX,HU,JT,trivial⟩
theorem vO {a1 a2 a3 a4 a5 a6 a7 a8 a9 wF yV Bb DQ FV:Prop} (x1:a1) (x2:a2) (x3:a3) (x4:a4) (x5:a5) (x6:a6) (x7:a7) (x8:a8) (x9:a9) (D3:wF) (FX:yV) (HU:Bb) (JT:DQ) (Nf:FV):a1/\a2/\a3/\a4/\a5/\a6/\a7/\a8/\a9/\wF/\yV/\Bb/\DQ/\FV/\True:=⟨x1,x2,x3,x4,x5,x6,x7,x8,x9,D3,FX,HU,JT,Nf,trivial⟩
theorem O4 {a1 a2 a3 a4 a5 a6 a7 a8 a9 wF yV Bb DQ FV JJ:Prop} (x1:a1) (x2:a2) (x3:a3) (x4:a4) (x5:a5) (x6:a6) (x7:a7) (x8:a8) (x9:a9) (D3:wF) (FX:yV) (HU:Bb) (JT:DQ) (Nf:FV) (O6:JJ):a1/\a2/\a3/\a4/\a5/\a6/\a7/\a8/\a9/\wF/\yV/\Bb/\DQ/\FV/\JJ/\True:=⟨x1,x2,x3,x4,x5,x6,x7,x8,x9,D3,FX,HU,JT,Nf,O6,trivial⟩
theorem JN {a1 a2 a3 a4 a5 a6 a7 a8 a9 wF yV Bb DQ FV JJ Nc:Prop} (x1:a1) (x2:a2) (x3:a3) (x4:a4) (x5:a5) (x6:a6) (x7:a7) (x8:a8) (x9:a9) (D3:wF) (FX:yV) (HU:Bb) (JT:DQ) (Nf:FV) (O6:JJ) (Se:Nc):a1/\a2/\a3/\a4/\a5/\a6/\a7/\a8/\a9/\wF/\yV/\Bb/\DQ/\FV/\JJ/\Nc/\True:=⟨x1,x2,x3,x4,x5,x6,x7,x8,x9,D3,FX,HU,JT,Nf,O6,Se,trivial⟩
theorem TS {a1 a2 a3 a4 a5 a6 a7 a8 a9 wF yV Bb DQ FV JJ Nc RK:Prop} (x1:a1) (x2:a2) (x3:a3) (x4:a4) (x5:a5) (x6:a6) (x7:a7) (x8:a8) (x9:a9) (D3:wF) (FX:yV) (HU:Bb) (JT:DQ) (Nf:FV) (O6:JJ) (Se:Nc) (U4:RK):a1/\a2/\a3/\a4/\a5/\a6/\a7/\a8/\a9/\wF/\yV/\Bb/\DQ/\FV/\JJ/\Nc/\RK/\True:=⟨x1,x2,x3,x4,x5,x6,x7,x8,x9,D3,FX,HU,JT,Nf,O6,Se,U4,trivial⟩
theorem RO {a1 a2 a3 a4 a5 a6 a7 a8 a9 wF yV Bb DQ FV JJ Nc RK UV:Prop} (x1:a1) (x2:a2) (x3:a3) (x4:a4) (x5:a5) (x6:a6) (x7:a7) (x8:a8) (x9:a9) (D3:wF) (FX:yV) (HU:Bb) (JT:DQ) (Nf:FV) (O6:JJ) (Se:Nc) (U4:RK) (XJ:UV):a1/\a2/\a3/\a4/\a5/\a6/\a7/\a8/\a9/\wF/\yV/\Bb/\DQ/\FV/\JJ/\Nc/\RK/\UV/\True:=⟨x1,x2,x3,x4,x5,x6,x7,x8,x9,D3,FX,HU,JT,Nf,O6,Se,U4,XJ,trivial⟩
theorem J19 {a1 a2 a3 a4 a5 a6 a7 a8 a9 wF yV Bb DQ FV JJ Nc RK UV ZF:Prop} (x1:a1) (x2:a2) (x3:a3) (x4:a4) (x5:a5) (x6:a6) (x7:a7) (x8:a8) (x9:a9) (D3:wF) (FX:yV) (HU:Bb) (JT:DQ) (Nf:FV) (O6:JJ) (Se:Nc) (U4:RK) (XJ:UV) (x19:ZF):a1/\a2/\a3/\a4/\a5/\a6/\a7/\a8/\a9/\wF/\yV/\Bb/\DQ/\FV/\JJ/\Nc/\RK/\UV/\ZF/\True:=⟨x1,x2,x3,x4,x5,x6,x7,x8,x9,D3,FX,HU,JT,Nf,O6,Se,U4,XJ,x19,trivial⟩
theorem J20 {a1 a2 a3 a4 a5 a6 a7 a8 a9 wF yV Bb DQ FV JJ Nc RK UV ZF a20:Prop} (x1:a1) (x2:a2) (x3:a3) (x4:a4) (x5:a5) (x6:a6) (x7:a7) (x8:a8) (x9:a9) (D3:wF) (FX:yV) (HU:Bb) (JT:DQ) (Nf:FV) (O6:JJ) (Se:Nc) (U4:RK) (XJ:UV) (x19:ZF) (x20:a20):a1/\a2/\a3/\a4/\a5/\a6/\a7/\a8/\a9/\wF/\yV/\Bb/\DQ/\FV/\JJ/\Nc/\RK/\UV/\ZF/\a20/\True:=⟨x1,x2,x3,x4,x5,x6,x7,x8,x9,D3,FX,HU,JT,Nf,O6,Se,U4,XJ,x19,x20,trivial⟩
theorem W {G H C X:Prop} (c:C) (x:X) (k:H) (s:(∀(zc:C) (zx:X) (zk:Kp H),G)/\Df H:=by
 constructor
 . unhygienic intros
   (try have z1:=zc.1);(try have z2:=zc.2.1);(try have z3:=zc.2.2.1);(try have z4:=zc.2.2.2.1);(try have z5:=zc.2.2.2.2.1);(try have z6:=zc.2.2.2.2.2.1);(try have z7:=zc.2.2.2.2.2.2.1);(try have z8:=zc.2.2.2.2.2.2.2.1);(try have z9:=zc.2.2.2.2.2.2.2.2.1);(try have O5:=zc.2.2.2.2.2.2.2.2.2.1)
   repeat' (first|(refine jX λR hR=>?_;(first|simp [ai,ar,zx,hq]|simp [ai,ar,zx]);try simp (disch:=omega) only [if_pos,if_neg,ai,ar])|(refine hR _ _ ?_;try clear hR R)|(refine hK _ _ ?_;try clear hK K)|refine nx ?_|refine wn λK hK=>?_|simp only [wS]|(refine ZP ?_;first|refine xD z1 Tryz.mx (by decide +kernel) λK hK=>?_|refine xD z2 Tryz.mx (by decide +kernel) λK hK=>?_|refine xD z3 Tryz.mx (by decide +kernel) λK hK=>?_|refine xD z4 Tryz.mx (by decide +kernel) λK hK=>?_|refine xD z5 Tryz.mx (by decide +kernel) λK hK=>?_|refine xD z6 Tryz.mx (by decide +kernel) λK hK=>?_|refine xD z7 Tryz.mx (by decide +kernel) λK hK=>?_|refine xD z8 Tryz.mx (by decide +kernel) λK hK=>?_|refine xD z9 Tryz.mx (by decide +kernel) λK hK=>?_|refine xD O5 Tryz.mx (by decide +kernel) λK hK=>?_)|(refine acG ?_;first|(apply bf.eZ;(·(first|apply z1|apply z2|apply z3|apply z4|apply z5|apply z6|apply z7|apply z8|apply z9|apply O5)<;>first|assumption|(simp [hq];done)|(refine gR ?_;simp [hq];rfl)|(simp [hq,zx];done)|omega|decide);(·exact wA);(·exact sA);(·first|exact pA|exact kA);(first|rintro _ zA rfl hS hw zn|rintro zn zA zn hS hw zn);have hS:=lA hS;(try (have hq:=mr hS hw)))|(apply bD;(·(first|apply z1|apply z2|apply z3|apply z4|apply z5|apply z6|apply z7|apply z8|apply z9|apply O5)<;>first|assumption|(simp [hq];done)|(refine gR ?_;simp [hq];rfl)|(simp [hq,zx];done)|omega|decide);(first|rintro _ _ ⟨rfl,rfl⟩ zn zn|rintro _ _ ⟨⟨zn,rfl⟩,rfl⟩ zn zn))|((first|apply @Tg.h 10 _ z1|apply @Tg.h 10 _ z2|apply @Tg.h 10 _ z3|apply @Tg.h 10 _ z4);(·exact wA);(·exact sA);(·first|exact pA|exact kA);)|(apply dT.eZ;(·first|apply @Tg.h 32 _ z1|apply @Tg.h 32 _ z2|apply @Tg.h 32 _ z3|apply @Tg.h 32 _ z4);(·exact wA);(·exact sA);(·first|exact pA|exact kA);(first|rintro xw _ zA rfl hS hw zn|rintro xw zn zA zn hS hw zn);(try (have hS:=lA hS));(try (have hq:=mr hS hw))))|refine wb ?_|refine wr ?_|refine wk ?_|refine we ?_|refine ws ?_|refine wq ?_|(refine wc rfl (λhc=>?_) (λhc=>?_)<;>(try simp at hc)<;>(try omega))|(refine ib (λhc=>?_) (λhc=>?_)<;>(try omega)<;>(try simp (disch:=omega) only [if_pos,if_neg]))|((repeat (first|clear zc|clear zx|clear z1|clear z2|clear z3|clear z4|clear z5|clear z6|clear z7|clear z8|clear z9|clear O5));(try (revert hq;have zq:=zk;clear zq));(repeat clear hq);(try (revert hS;have zq:=zk;clear zq));(repeat clear hS);(try (revert hw;have zq:=zk;clear zq));(repeat clear hw);(repeat (first|(revert hc;have zq:=zk;clear zq)|(revert zn;have zq:=zk;clear zq)|(revert zA;have zq:=zk;clear zq)|(revert xw;have zq:=zk;clear zq)|(revert K;have zq:=zk;clear zq)|(revert hK;have zq:=zk;clear zq)|(revert R;have zq:=zk;clear zq)|(revert hR;have zq:=zk;clear zq)));first|with_reducible refine zk.h|with_reducible refine zk.h.1|with_reducible refine zk.h.2.1|with_reducible refine zk.h.2.2.1|with_reducible refine zk.h.2.2.2.1|with_reducible refine zk.h.2.2.2.2.1|with_reducible refine zk.h.2.2.2.2.2.1|with_reducible refine zk.h.2.2.2.2.2.2.1|with_reducible refine zk.h.2.2.2.2.2.2.2.1|with_reducible refine zk.h.2.2.2.2.2.2.2.2.1|with_reducible refine zk.h.2.2.2.2.2.2.2.2.2.1|with_reducible refine zk.h.2.2.2.2.2.2.2.2.2.2.1))
 . repeat' (first|exact .T|apply Df.C|exact .A)):G:=s.1 c x ⟨k⟩
theorem Wp {G H C X:Prop} (c:C) (x:X) (k:H) (s:(∀(zc:C) (zx:X) (zk:Kp H),G)/\Df H:=by
 constructor
 . unhygienic intros
   (try have z1:=zc.1);(try have z2:=zc.2.1);(try have z3:=zc.2.2.1);(try have z4:=zc.2.2.2.1);(try have z5:=zc.2.2.2.2.1);(try have z6:=zc.2.2.2.2.2.1)
   repeat' (first|(refine jX λR hR=>?_;(first|simp [ai,ar,zx,hq]|simp [ai,ar,zx]);try simp (disch:=omega) only [if_pos,if_neg,ai,ar])|(refine hR _ _ ?_;try clear hR R)|(refine hK _ _ ?_;try clear hK K)|refine nx ?_|refine wn λK hK=>?_|simp only [wS]|(refine ZP ?_;first|refine xD z1 Tryz.mx (by decide +kernel) λK hK=>?_|refine xD z2 Tryz.mx (by decide +kernel) λK hK=>?_|refine xD z3 Tryz.mx (by decide +kernel) λK hK=>?_|refine xD z4 Tryz.mx (by decide +kernel) λK hK=>?_|refine xD z5 Tryz.mx (by decide +kernel) λK hK=>?_|refine xD z6 Tryz.mx (by decide +kernel) λK hK=>?_)|(refine acG ?_;first|(apply bf.eZ;(·(first|apply z1|apply z2|apply z3|apply z4|apply z5|apply z6)<;>first|assumption|(simp [hq];done)|(refine gR ?_;simp [hq];rfl)|(simp [hq,zx];done)|omega|decide);(·exact wA);(·exact sA);(·first|exact pP|exact kP);(first|rintro _ zA rfl hS hw zn|rintro zn zA zn hS hw zn);have hS:=lA hS;(try (have hq:=mr hS hw)))|(apply bD;(·(first|apply z1|apply z2|apply z3|apply z4|apply z5|apply z6)<;>first|assumption|(simp [hq];done)|(refine gR ?_;simp [hq];rfl)|(simp [hq,zx];done)|omega|decide);(first|rintro _ _ ⟨rfl,rfl⟩ zn zn|rintro _ _ ⟨⟨zn,rfl⟩,rfl⟩ zn zn))|((first|apply @Tg.h 10 _ z1|apply @Tg.h 10 _ z2|apply @Tg.h 10 _ z3|apply @Tg.h 10 _ z4|apply @Tg.h 10 _ z5);(·exact wA);(·exact sA);(·first|exact pP|exact kP);)|((first|apply @Tg.h 11 _ z1|apply @Tg.h 11 _ z2|apply @Tg.h 11 _ z3|apply @Tg.h 11 _ z4|apply @Tg.h 11 _ z5);(·exact wA);(·exact sA);(·first|exact pP|exact kP);(·first|omega|(simp;omega)|(simp [hq];done));((first|rintro zn zn zA hS hw zn|rintro zn zA hS hw zn|rintro zn zA hS hw);(try refine⟨zn,?_⟩);(try (have hS:=lA hS));have hq:=mr hS hw))|((first|apply @Tg.h 12 _ z1|apply @Tg.h 12 _ z2|apply @Tg.h 12 _ z3|apply @Tg.h 12 _ z4|apply @Tg.h 12 _ z5);(·exact wA);(·exact sA);(·first|exact pP|exact kP);(·first|exact pP|exact kP);(·first|omega|(simp;omega)|(simp [hq];done));(·first|omega|(simp;omega)|(simp [hq];done));((first|rintro zn zn zA hS hw zn|rintro zn zA hS hw zn|rintro zn zA hS hw);(try refine⟨zn,?_⟩);(try (have hS:=lA hS));have hq:=mr hS hw))|((first|apply @Tg.h 19 _ z1|apply @Tg.h 19 _ z2|apply @Tg.h 19 _ z3|apply @Tg.h 19 _ z4|apply @Tg.h 19 _ z5);(·exact wA);(·exact sA);((first|rintro zn zn zA hS hw zn|rintro zn zA hS hw zn|rintro zn zA hS hw);(try refine⟨zn,?_⟩);(try (have hS:=lA hS));have hq:=mr hS hw))|(apply bf.jT;(·first|apply @Tg.h 20 _ z1|apply @Tg.h 20 _ z2|apply @Tg.h 20 _ z3|apply @Tg.h 20 _ z4|apply @Tg.h 20 _ z5);(·exact wA);(·exact sA);(·exact fP);(·first|exact pP|exact kP);(first|rintro _ zA rfl hS hw zn|rintro zn zA zn hS hw zn);have hS:=lA hS;(try (have hq:=mr hS hw));all_goals(try (first|exact 0|exact undef)))|(apply bf.Pe;(·first|apply @Tg.h 21 _ z1|apply @Tg.h 21 _ z2|apply @Tg.h 21 _ z3|apply @Tg.h 21 _ z4|apply @Tg.h 21 _ z5);(·exact wA);(·exact sA);(·exact fP);(·first|exact pP|exact kP);(first|rintro _ zA rfl hS hw zn|rintro zn zA zn hS hw zn);have hS:=lA hS;(try (have hq:=mr hS hw));all_goals(try (first|exact 0|exact undef)))|(apply bf.useX;(·first|apply @Tg.h 22 _ z1|apply @Tg.h 22 _ z2|apply @Tg.h 22 _ z3|apply @Tg.h 22 _ z4|apply @Tg.h 22 _ z5);(·exact wA);(·exact sA);(·exact fP);(·first|exact pP|exact kP);(first|rintro _ zA rfl hS hw zn|rintro zn zA zn hS hw zn);have hS:=lA hS;(try (have hq:=mr hS hw));all_goals(try (first|exact 0|exact undef)))|((first|apply @Tg.h 31 _ z1|apply @Tg.h 31 _ z2|apply @Tg.h 31 _ z3|apply @Tg.h 31 _ z4|apply @Tg.h 31 _ z5);(·exact wA);(·exact sA);(·exact fP);((first|rintro zn zn zA hS hw|rintro zn zA hS hw);(try dsimp only [b9,AW.aV,aa,ag] at hS);have hq:=hqO hS hw);all_goals(try (first|exact 0|exact undef)))|(apply AN;(·first|apply @Tg.h 30 _ z1|apply @Tg.h 30 _ z2|apply @Tg.h 30 _ z3|apply @Tg.h 30 _ z4|apply @Tg.h 30 _ z5);(·exact wA);(·exact sA);(·exact fP);all_goals(try (first|exact 0|exact undef))))|refine wb ?_|refine wr ?_|refine wk ?_|refine we ?_|refine ws ?_|refine wq ?_|(refine wc rfl (λhc=>?_) (λhc=>?_)<;>(try simp at hc)<;>(try omega)<;>(try (simp [h2] at hc;done))<;>(try (simp [h3] at hc;done))<;>(try (simp [h4] at hc;done)))|(refine ib (λhc=>?_) (λhc=>?_)<;>(try omega)<;>(try simp (disch:=omega) only [if_pos,if_neg]))|((repeat (first|clear zc|clear zx|clear z1|clear z2|clear z3|clear z4|clear z5|clear z6));(try (revert hq;have zq:=zk;clear zq));(repeat clear hq);(try (revert hS;have zq:=zk;clear zq));(repeat clear hS);(try (revert hw;have zq:=zk;clear zq));(repeat clear hw);(repeat (first|(revert hc;have zq:=zk;clear zq)|(revert zn;have zq:=zk;clear zq)|(revert zA;have zq:=zk;clear zq)|(revert xw;have zq:=zk;clear zq)|(revert K;have zq:=zk;clear zq)|(revert hK;have zq:=zk;clear zq)|(revert R;have zq:=zk;clear zq)|(revert hR;have zq:=zk;clear zq)));first|with_reducible refine zk.h|with_reducible refine zk.h.1))
 . repeat' (first|exact .T|apply Df.C|exact .A)):G:=s.1 c x ⟨k⟩
theorem Wu {G H C X:Prop} (c:C) (x:X) (k:H) (s:(∀(zc:C) (zx:X) (zk:Kp H),G)/\Df H:=by
 constructor
 . unhygienic intros
   (try have z1:=zc.1);(try have z2:=zc.2.1);(try have z3:=zc.2.2.1);(try have z4:=zc.2.2.2.1);(try have z5:=zc.2.2.2.2.1);(try have z6:=zc.2.2.2.2.2.1);(try have z7:=zc.2.2.2.2.2.2.1);(try have z8:=zc.2.2.2.2.2.2.2.1);(try have z9:=zc.2.2.2.2.2.2.2.2.1);(try have O5:=zc.2.2.2.2.2.2.2.2.2.1);(try have W0:=zc.2.2.2.2.2.2.2.2.2.2.1);(try have WZ:=zc.2.2.2.2.2.2.2.2.2.2.2.1);(try have WY:=zc.2.2.2.2.2.2.2.2.2.2.2.2.1)
   repeat' (first|(with_reducible apply lwI;(·first|(simp;done)|(simp;rfl));(·first|(simp;done)|(simp;rfl));(·exact wA);(·exact sA);(·first|exact pP|exact kP|exact pA|exact kA);(·first|(simp;done)|(simp;rfl)|(simp [hq];done)|(simp [hq];rfl));(·first|omega|(simp;omega));(·intro _ _;trivial);rintro zn zn zA hS hw zn;(try have hS:=lA hS);have hq:=mr hS hw)|(with_reducible apply lwU;(·first|(simp;done)|(simp;rfl));(·first|(simp;done)|(simp;rfl));(·exact wA);(·exact sA);(·first|exact pP|exact kP|exact pA|exact kA);(·first|(simp;done)|(simp;rfl)|(simp [hq];done)|(simp [hq];rfl));(·first|omega|(simp;omega));(·intro _ _;trivial);rintro zn zn zA hS hw zn;(try have hS:=lA hS);have hq:=mr hS hw)|(with_reducible apply twI;(·first|(simp;done)|(simp;rfl));(·first|(simp;done)|(simp;rfl));(·exact wA);(·exact sA);(·first|exact pP|exact kP|exact pA|exact kA);(·first|(simp;done)|(simp;rfl)|(simp [hq];done)|(simp [hq];rfl));(·first|omega|(simp;omega));(·intro _ _;trivial);rintro zn zn zA hS hw zn;(try have hS:=lA hS);have hq:=mr hS hw)|(with_reducible apply twU;(·first|(simp;done)|(simp;rfl));(·first|(simp;done)|(simp;rfl));(·exact wA);(·exact sA);(·first|exact pP|exact kP|exact pA|exact kA);(·first|(simp;done)|(simp;rfl)|(simp [hq];done)|(simp [hq];rfl));(·first|omega|(simp;omega));(·intro _ _;trivial);rintro zn zn zA hS hw zn;(try have hS:=lA hS);have hq:=mr hS hw)|(refine Md λR hR=>?_;(first|simp [ai,ar,zx,hq]|simp [ai,ar,zx]);try simp (disch:=omega) only [if_pos,if_neg,ai,ar])|(refine H0 (λR hR=>?_) (λR hR=>?_)<;>(first|(with_reducible apply lhI;(·first|(simp;done)|(simp;rfl));(·first|(simp;done)|(simp;rfl));(·exact wA);(·exact sA);(·first|exact pP|exact kP|exact pA|exact kA);(·first|(simp;done)|(simp;rfl)|(simp [hq];done)|(simp [hq];rfl));(·first|omega|(simp;omega));(·intro _ _;trivial);rintro zn zn zA hS hw zn;(try have hS:=lA hS);have hq:=mr hS hw)|(with_reducible apply lhU;(·first|(simp;done)|(simp;rfl));(·first|(simp;done)|(simp;rfl));(·exact wA);(·exact sA);(·first|exact pP|exact kP|exact pA|exact kA);(·first|(simp;done)|(simp;rfl)|(simp [hq];done)|(simp [hq];rfl));(·first|omega|(simp;omega));(·intro _ _;trivial);rintro zn zn zA hS hw zn;(try have hS:=lA hS);have hq:=mr hS hw)|((first|simp [ai,ar,zx,hq]|simp [ai,ar,zx]);try simp (disch:=omega) only [if_pos,if_neg,ai,ar])))|refine Mc ?_|(refine ZP ?_;first|refine Ng z1 Tryz.mx (by decide +kernel) λK hK=>?_|refine Nh z1 Tryz.mx (by decide +kernel) λK hK=>?_|refine Ng z2 Tryz.mx (by decide +kernel) λK hK=>?_|refine Nh z2 Tryz.mx (by decide +kernel) λK hK=>?_|refine Ng z3 Tryz.mx (by decide +kernel) λK hK=>?_|refine Nh z3 Tryz.mx (by decide +kernel) λK hK=>?_|refine Ng z4 Tryz.mx (by decide +kernel) λK hK=>?_|refine Nh z4 Tryz.mx (by decide +kernel) λK hK=>?_|refine Ng z5 Tryz.mx (by decide +kernel) λK hK=>?_|refine Nh z5 Tryz.mx (by decide +kernel) λK hK=>?_|refine Ng z6 Tryz.mx (by decide +kernel) λK hK=>?_|refine Nh z6 Tryz.mx (by decide +kernel) λK hK=>?_|refine Ng z7 Tryz.mx (by decide +kernel) λK hK=>?_|refine Nh z7 Tryz.mx (by decide +kernel) λK hK=>?_|refine Ng z8 Tryz.mx (by decide +kernel) λK hK=>?_|refine Nh z8 Tryz.mx (by decide +kernel) λK hK=>?_|refine Ng z9 Tryz.mx (by decide +kernel) λK hK=>?_|refine Nh z9 Tryz.mx (by decide +kernel) λK hK=>?_|refine Ng O5 Tryz.mx (by decide +kernel) λK hK=>?_|refine Nh O5 Tryz.mx (by decide +kernel) λK hK=>?_|refine Ng W0 Tryz.mx (by decide +kernel) λK hK=>?_|refine Nh W0 Tryz.mx (by decide +kernel) λK hK=>?_|refine Ng WZ Tryz.mx (by decide +kernel) λK hK=>?_|refine Nh WZ Tryz.mx (by decide +kernel) λK hK=>?_|refine Ng WY Tryz.mx (by decide +kernel) λK hK=>?_|refine Nh WY Tryz.mx (by decide +kernel) λK hK=>?_)|(refine twG ?_;simp only [bA,rg,kU,Option.map_none,Option.map_some,List.getElem?_toArray,List.getElem?_cons_zero,List.getElem?_cons_succ,List.getD_cons_zero,List.getD_cons_succ,Option.bind_some])|(refine ⟨by simp [hq],?_⟩)|(refine ⟨⟨by simp [hq],by simp [hq],by simp [hq]⟩,?_⟩)|(refine ⟨λA' yx=>by simp [AW.af,yx],?_⟩)|(refine ⟨λA' yx=>by rw [yx]<;>rfl,?_⟩)|(refine ⟨λA' g1 g2 g3=>by simp [AW.af,g1,g2,g3],?_⟩)|(refine ⟨λA' x g1 g2 g3=>by simp [AW.af,g1,g2,g3],?_⟩)|(refine jX λR hR=>?_;(first|simp [ai,ar,zx,hq]|simp [ai,ar,zx]);try simp (disch:=omega) only [if_pos,if_neg,ai,ar])|(refine hR _ _ ?_;try clear hR R)|(refine hK _ _ ?_;try clear hK K)|refine nx ?_|refine wn λK hK=>?_|simp only [wS]|(refine ZP ?_;first|refine xD z1 Tryz.mx (by decide +kernel) λK hK=>?_|refine xD z2 Tryz.mx (by decide +kernel) λK hK=>?_|refine xD z3 Tryz.mx (by decide +kernel) λK hK=>?_|refine xD z4 Tryz.mx (by decide +kernel) λK hK=>?_|refine xD z5 Tryz.mx (by decide +kernel) λK hK=>?_|refine xD z6 Tryz.mx (by decide +kernel) λK hK=>?_|refine xD z7 Tryz.mx (by decide +kernel) λK hK=>?_|refine xD z8 Tryz.mx (by decide +kernel) λK hK=>?_|refine xD z9 Tryz.mx (by decide +kernel) λK hK=>?_|refine xD O5 Tryz.mx (by decide +kernel) λK hK=>?_|refine xD W0 Tryz.mx (by decide +kernel) λK hK=>?_|refine xD WZ Tryz.mx (by decide +kernel) λK hK=>?_|refine xD WY Tryz.mx (by decide +kernel) λK hK=>?_)|(refine acG ?_;first|(apply bf.eZ;(·(first|apply z1|apply z2|apply z3|apply z4|apply z5|apply z6|apply z7|apply z8|apply z9|apply O5|apply W0|apply WZ|apply WY)<;>first|assumption|(simp [hq];done)|(refine gR ?_;simp [hq];rfl)|(simp [hq,zx];done)|omega|decide);(·exact wA);(·exact sA);(·first|exact pP|exact kP|exact pA|exact kA);(first|rintro _ zA rfl hS hw zn|rintro zn zA zn hS hw zn);have hS:=lA hS;(try (have hq:=mr hS hw)))|(apply bD;(·(first|apply z1|apply z2|apply z3|apply z4|apply z5|apply z6|apply z7|apply z8|apply z9|apply O5|apply W0|apply WZ|apply WY)<;>first|assumption|(simp [hq];done)|(refine gR ?_;simp [hq];rfl)|(simp [hq,zx];done)|omega|decide);(first|rintro _ _ ⟨rfl,rfl⟩ zn zn|rintro _ _ ⟨⟨zn,rfl⟩,rfl⟩ zn zn))|((first|apply @Tg.h 10 _ z1|apply @Tg.h 10 _ z2|apply @Tg.h 10 _ z3|apply @Tg.h 10 _ z4|apply @Tg.h 10 _ z5);(·exact wA);(·exact sA);(·first|exact pP|exact kP|exact pA|exact kA);)|((first|apply @Tg.h 14 _ z1|apply @Tg.h 14 _ z2|apply @Tg.h 14 _ z3|apply @Tg.h 14 _ z4|apply @Tg.h 14 _ z5);(·exact wA);(·exact sA);(·first|exact pP|exact kP|exact pA|exact kA);(·first|omega|(simp;omega)|(simp [hq];done));)|(apply bf.jT;(·first|apply @Tg.h 20 _ z1|apply @Tg.h 20 _ z2|apply @Tg.h 20 _ z3|apply @Tg.h 20 _ z4|apply @Tg.h 20 _ z5);(·exact wA);(·exact sA);(·exact fP);(·first|exact pP|exact kP|exact pA|exact kA);(first|rintro _ zA rfl hS hw zn|rintro zn zA zn hS hw zn);have hS:=lA hS;(try (have hq:=mr hS hw));all_goals(try (first|exact 0|exact undef)))|(apply bf.Pe;(·first|apply @Tg.h 21 _ z1|apply @Tg.h 21 _ z2|apply @Tg.h 21 _ z3|apply @Tg.h 21 _ z4|apply @Tg.h 21 _ z5);(·exact wA);(·exact sA);(·exact fP);(·first|exact pP|exact kP|exact pA|exact kA);(first|rintro _ zA rfl hS hw zn|rintro zn zA zn hS hw zn);have hS:=lA hS;(try (have hq:=mr hS hw));all_goals(try (first|exact 0|exact undef)))|(apply AN;(·first|apply @Tg.h 30 _ z1|apply @Tg.h 30 _ z2|apply @Tg.h 30 _ z3|apply @Tg.h 30 _ z4|apply @Tg.h 30 _ z5);(·exact wA);(·exact sA);(·exact fP);all_goals(try (first|exact 0|exact undef)))|(apply dT.eZ;(·first|apply @Tg.h 32 _ z1|apply @Tg.h 32 _ z2|apply @Tg.h 32 _ z3|apply @Tg.h 32 _ z4|apply @Tg.h 32 _ z5);(·exact wA);(·exact sA);(·first|exact pP|exact kP|exact pA|exact kA);(first|rintro xw _ zA rfl hS hw zn|rintro xw zn zA zn hS hw zn);(try (have hS:=lA hS));(try (have hq:=mr hS hw)))|((first|apply dT.eZ (@Tg.h 36 _ z1 _)|apply dT.eZ (@Tg.h 36 _ z2 _)|apply dT.eZ (@Tg.h 36 _ z3 _)|apply dT.eZ (@Tg.h 36 _ z4 _)|apply dT.eZ (@Tg.h 36 _ z5 _)|apply dT.eZ (@Tg.h 36 _ z1 _ _ _ _ _ _)|apply dT.eZ (@Tg.h 36 _ z2 _ _ _ _ _ _)|apply dT.eZ (@Tg.h 36 _ z3 _ _ _ _ _ _)|apply dT.eZ (@Tg.h 36 _ z4 _ _ _ _ _ _)|apply dT.eZ (@Tg.h 36 _ z5 _ _ _ _ _ _)|apply dT.eZ (@Tg.h 36 _ z1 _ _ _ _ _ _ _ _ _)|apply dT.eZ (@Tg.h 36 _ z2 _ _ _ _ _ _ _ _ _)|apply dT.eZ (@Tg.h 36 _ z3 _ _ _ _ _ _ _ _ _)|apply dT.eZ (@Tg.h 36 _ z4 _ _ _ _ _ _ _ _ _)|apply dT.eZ (@Tg.h 36 _ z5 _ _ _ _ _ _ _ _ _)|apply dT.eZ (@Tg.h 36 _ z1 _ _ _ _ _ _ _ _ _ _)|apply dT.eZ (@Tg.h 36 _ z2 _ _ _ _ _ _ _ _ _ _)|apply dT.eZ (@Tg.h 36 _ z3 _ _ _ _ _ _ _ _ _ _)|apply dT.eZ (@Tg.h 36 _ z4 _ _ _ _ _ _ _ _ _ _)|apply dT.eZ (@Tg.h 36 _ z5 _ _ _ _ _ _ _ _ _ _));(·exact wA);(·exact sA);(·first|exact pP|exact kP|exact pA|exact kA);(first|rintro xw _ zA rfl hS hw zn|rintro xw zn zA zn hS hw zn);(try (have hS:=lA hS));(try (have hq:=mr hS hw)))|((first|apply bf.eZ (@Tg.h 37 _ z1 _)|apply bf.eZ (@Tg.h 37 _ z2 _)|apply bf.eZ (@Tg.h 37 _ z3 _)|apply bf.eZ (@Tg.h 37 _ z4 _)|apply bf.eZ (@Tg.h 37 _ z5 _)|apply bf.eZ (@Tg.h 37 _ z1 _ _ _ _ _ _)|apply bf.eZ (@Tg.h 37 _ z2 _ _ _ _ _ _)|apply bf.eZ (@Tg.h 37 _ z3 _ _ _ _ _ _)|apply bf.eZ (@Tg.h 37 _ z4 _ _ _ _ _ _)|apply bf.eZ (@Tg.h 37 _ z5 _ _ _ _ _ _)|apply bf.eZ (@Tg.h 37 _ z1 _ _ _ _ _ _ _ _ _)|apply bf.eZ (@Tg.h 37 _ z2 _ _ _ _ _ _ _ _ _)|apply bf.eZ (@Tg.h 37 _ z3 _ _ _ _ _ _ _ _ _)|apply bf.eZ (@Tg.h 37 _ z4 _ _ _ _ _ _ _ _ _)|apply bf.eZ (@Tg.h 37 _ z5 _ _ _ _ _ _ _ _ _));(·exact wA);(·exact sA);(·first|exact pP|exact kP|exact pA|exact kA);(first|rintro _ zA rfl hS hw zn|rintro zn zA zn hS hw zn);have hS:=lA hS;(try (have hq:=mr hS hw)))|(apply bf.U7;(·first|apply @Tg.h 34 _ z1|apply @Tg.h 34 _ z2|apply @Tg.h 34 _ z3|apply @Tg.h 34 _ z4|apply @Tg.h 34 _ z5);(·exact wA);(·exact sA);(·exact fT);(·first|exact pP|exact kP|exact pA|exact kA);(first|rintro _ zA rfl hS hw zn|rintro zn zA zn hS hw zn);(try (have hS:=lA hS));(try (have hq:=mr hS hw));all_goals(try (first|exact 0|exact undef)))|(apply dT.U7;(·first|apply @Tg.h 35 _ z1|apply @Tg.h 35 _ z2|apply @Tg.h 35 _ z3|apply @Tg.h 35 _ z4|apply @Tg.h 35 _ z5);(·exact wA);(·exact sA);(·exact fT);(·first|exact pP|exact kP|exact pA|exact kA);(first|rintro xw _ zA rfl hS hw zn|rintro xw zn zA zn hS hw zn);(try (have hS:=lA hS));(try (have hq:=mr hS hw));all_goals(try (first|exact 0|exact undef))))|refine wb ?_|refine wr ?_|refine wk ?_|refine we ?_|refine ws ?_|refine wq ?_|(refine wc rfl (λhc=>?_) (λhc=>?_)<;>(try simp at hc)<;>(try omega)<;>(try (simp [h2] at hc;done))<;>(try (simp [h3] at hc;done))<;>(try (simp [h4] at hc;done)))|(refine ib (λhc=>?_) (λhc=>?_)<;>(try omega)<;>(try simp (disch:=omega) only [if_pos,if_neg]))|((repeat (first|clear zc|clear zx|clear z1|clear z2|clear z3|clear z4|clear z5|clear z6|clear z7|clear z8|clear z9|clear O5|clear W0|clear WZ|clear WY));(try (revert hq;have zq:=zk;clear zq));(repeat clear hq);(try (revert hS;have zq:=zk;clear zq));(repeat clear hS);(try (revert hw;have zq:=zk;clear zq));(repeat clear hw);(repeat (first|(revert hc;have zq:=zk;clear zq)|(revert zn;have zq:=zk;clear zq)|(revert zA;have zq:=zk;clear zq)|(revert xw;have zq:=zk;clear zq)|(revert K;have zq:=zk;clear zq)|(revert hK;have zq:=zk;clear zq)|(revert R;have zq:=zk;clear zq)|(revert hR;have zq:=zk;clear zq)));first|with_reducible refine zk.h|with_reducible refine zk.h.1|with_reducible refine zk.h.2.1))
 . repeat' (first|exact .T|apply Df.C|exact .A)):G:=s.1 c x ⟨k⟩
end
theorem cd:True:=trivial
theorem bz [Gl]:(∀(A:AW) (i:Nat),A.bP i=match A.bg i with|some (.cells cs _ _)=>some cs|_=>none)/\∀(P:Program) (A:AW) (t:TypeId) (p:Addr) (v:Value),aB P A t p v=match A.bg p.block,P.info? t with|some (.cells cs true unit),some i=>if v.cells.size=i.size/\p.off+i.size<=cs.length/\v.cells.toList.all Value.oneCell' then some (A.set p.block (some (.cells (fh cs p.off v.cells.toList) true unit))) else none|_,_=>none:=⟨AW.af,@aB.eq_1⟩
theorem aF [Gl] {P:Program} {f:FuncId} {fn:Func} {c:Code} {args:List Value} {A:AW} {R:Value->AW->Prop} (hf:P.funcs[f]? = some fn) (h:A.Wf->cM P fn.ntmps c (aQ P fn R) (CS args) A) (hb:fn.body=some c:=by rfl) (lZ:Jl fn args.length=true:=by kernel_rfl):ax P f args A R:=A7 hf hb lZ h
theorem uR {i:Nat} (h:i<2^62:=by omega):IntKind.i64.wrap ((i:Int)+1)=((i+1:Nat):Int):=ai (by omega) (by omega)
end Go.Stx
