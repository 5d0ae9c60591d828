/-
 Contracts over the abstract memory: slices, assertions, maps, regions that draw their order.
-/
import Derived.Test.YtnnbecihffpedaaGreatDoorF0
import Derived.Sort.Grow
import Derived.Orders
import Derived.KernelRfl
set_option linter.unusedVariables false
set_option linter.unusedSimpArgs false
set_option linter.unusedSectionVars false
set_option maxRecDepth 20000
namespace Go.Stx
open Go
variable [Gl]
def ez (B:Nat) (A:AW) (size:Nat) (v:Value) (n:Nat) (cs:List Value):Prop:=
 (v=.slice none 0 0/\n=0/\cs=[]) \/
 ∃p c cD,v=.slice (some p) n c/\n<=c/\p.spot=none/\B<=p.block/\A.bt p.block=some (.cells cD true size)/\p.off+n*size<=cD.length/\cs=(cD.drop p.off).take (n*size)
theorem ez.is {B:Nat} {A:AW} {size:Nat} {v:Value} {n:Nat} {cs:List Value} (h:ez B A size v n cs):gZ A size v n cs:=by
 rcases h with ⟨h1,h2,h3⟩|⟨p,c,cD,h1,h2,_,_,h3,h4,h5⟩;exact .inl ⟨⟨none,h1⟩,h2,h3⟩;exact .inr ⟨p,c,cD,true,size,h1,h2,h3,rfl,h4,h5⟩
theorem ez.nil (B:Nat) (A:AW) (size:Nat):ez B A size (.slice none 0 0) 0 []:=.inl ⟨rfl,rfl,rfl⟩
theorem ez.le {B:Nat} {A A':AW} (hl:A.le A') (hw:A.Wf) {size:Nat} {v:Value} {n:Nat} {cs:List Value} (h:ez B A size v n cs):ez B A' size v n cs:=by
 rcases h with h|⟨p,c,cD,h1,h2,hs,h3,h4,h5⟩;exact .inl h;exact .inr ⟨p,c,cD,h1,h2,hs,h3,hl.sZ hw h4,h5⟩
def gK:Value->Option Nat
 | .slice (some p) _ _=>some p.block
 | _=>none
theorem ez.length {B:Nat} {A:AW} {size:Nat} {v:Value} {n:Nat} {cs:List Value} (h:ez B A size v n cs):cs.length=n*size:=h.is.length
theorem CL {A:AW} {size:Nat} {x:Value} {m:Nat} {kD:List Value} (h:ga A size x=some (m,kD)):kD.length=m*size:=by
 unfold ga at h;split at h;simp only [Option.some.injEq,Prod.mk.injEq] at h;obtain⟨rfl,rfl⟩:=h;simp;split at h;simp only [Option.some.injEq,Prod.mk.injEq] at h;obtain⟨rfl,rfl⟩:=h;simp;split at h;split at h;simp only [Option.some.injEq,Prod.mk.injEq] at h;obtain⟨rfl,rfl⟩:=h;simp;omega;cases h;cases h;cases h
theorem li {P:Program} {A:AW} {t e:TypeId} {i:TypeInfo} {z:Value} {B:Nat} {v x:Value} {n m size:Nat} {cs kD:List Value}
 (hu:P.underlying t=some (.slice e)) (hi:P.info? e=some i) (hz:i.zero=some z) (gf:i.size=size) (nz:z.cells.size=size) (h0:0<size)
 (pd:ez B A size v n cs) (iN:ga A size x=some (m,kD)) (mS:kD.all Value.oneCell'=true) (ks:n+m<=140737488355328) (hb:(n+m)*i.bytes<=140737488355328)
 (hB:B<=A.next) (hw:A.Wf) :
 ∃v' A',eK P A t t v x=some (v',A')/\ez B A' size v' (n+m) (cs++kD)/\(∀A0:AW,A0.next<=B->A0.le A->A0.le A')/\A'.Wf/\A.next<=A'.next/\
  (∀j,j<A.next->gK v≠some j->A'.bt j=A.bt j)/\(v'=v\/gK v'=some A.next):=by
 subst gf;have b6:=pd.length;have Ai:=CL iN;by_cases hm:m=0;subst hm;have M3:kD=[]:=List.eq_nil_of_length_eq_zero (by omega);subst M3;have holds:∃b,fQ A i.size v=some (b,n,cs):=by
  rcases pd with ⟨rfl,rfl,rfl⟩|⟨p,c,cD,rfl,hc,yM,_,hg,fo,rfl⟩;exact⟨none,rfl⟩;exact⟨some p,by simp [fQ,yM,hg,fo]⟩
 obtain⟨b,xH⟩:=holds;refine⟨v,A,?_,by simpa using pd,λA0 _ h=>h,hw,Nat.le_refl _,λj _ _=>rfl,.inl rfl⟩;simp [eK,hu,hi,hz,nz,h0,iN,xH];rcases pd with ⟨rfl,rfl,rfl⟩|⟨p,c,cD,rfl,hc,yM,hBp,hg,fo,rfl⟩;refine⟨.slice (some ⟨A.next,0,none⟩) (0+m) (0+m),A.alloc (.cells kD true i.size),?_,?_,λA0 _ h=>h.trans (AW.le.alloc A _),hw.alloc _,by simp,λj hj _=>AW.fz _ _ (by omega),.inr rfl⟩;have tH:(0+m)*i.bytes<=140737488355328:=hb;have hb2':0+m<=140737488355328:=ks;simp only [eK,hu,hi,hz,iN,fQ];rw [ay ⟨nz,h0,trivial⟩,ap hm,ay ⟨hb2',tH,mS⟩];simp;refine .inr ⟨⟨A.next,0,none⟩,0+m,kD,rfl,Nat.le_refl _,rfl,hB,AW.dw _ _,by simp;omega,?_⟩;simp only [af,List.drop_zero,Nat.zero_add];rw [List.take_of_length_le (by omega)];have cF:=hw.lt hg;refine⟨.slice (some ⟨A.next,0,none⟩) (n+m) (n+m),(A.set p.block none).alloc (.cells ((cD.drop p.off).take (n*i.size)++kD) true i.size),?_,?_,?_,(hw.set none cF).alloc _,by simp,?_,.inr rfl⟩
 simp only [eK,hu,hi,hz,iN,fQ,hg];have DM:¬(p.spot.isSome=true/\c=0/\n=0):=by simp [yM]
 rw [ay ⟨nz,h0,trivial⟩,ap DM,ay ⟨trivial,fo⟩];simp only;rw [ap hm,ay ⟨ks,hb,mS⟩];refine .inr ⟨⟨A.next,0,none⟩,n+m,(cD.drop p.off).take (n*i.size)++kD,rfl,Nat.le_refl _,rfl,hB,?_,?_,?_⟩;have:=AW.dw (A.set p.block none) (.cells ((cD.drop p.off).take (n*i.size)++kD) true i.size)
 simpa using this
 have:((cD.drop p.off).take (n*i.size)++kD).length=(n+m)*i.size:=by
  rw [List.length_append,b6,Ai,Nat.add_mul]
 show 0+(n+m)*i.size<=_;omega;have:((cD.drop p.off).take (n*i.size)++kD).length=(n+m)*i.size:=by
  rw [List.length_append,b6,Ai,Nat.add_mul]
 exact(List.take_of_length_le (Nat.le_of_eq this)).symm;intro A0 hA0 hl;exact(hl.set (by omega) none).trans (AW.le.alloc _ _);intro j hj gl;rw [AW.fz _ _ (by simp;omega),AW.bM (λe=>gl (by simp [gK,e]))]
theorem gZ.mn {A:AW} {size:Nat} {v:Value} {n:Nat} {cs:List Value} (h:gZ A size v n cs):ga A size v=some (n,cs):=by
 rcases h with ⟨⟨o,rfl⟩,rfl,rfl⟩|⟨p,c,cD,own,u,rfl,hc,hg,_,fo,rfl⟩;cases o<;>simp [ga];by_cases h0:n=0;subst h0;simp [ga];simp [ga,h0,AW.Fy hg,fo]
def eA (B:Nat) (A:AW) (k:IntKind) (v:Value) (l:List Int):Prop:=ez B A 1 v l.length (l.map (Value.int k))
theorem eA.is {B:Nat} {A:AW} {k:IntKind} {v:Value} {l:List Int} (h:eA B A k v l):dz A k v l:=ez.is h
theorem eA.nil (B:Nat) (A:AW) (k:IntKind):eA B A k (.slice none 0 0) []:=ez.nil B A 1
theorem zP {P:Program} {A:AW} {t e:TypeId} {i:TypeInfo} {z:Value} {B:Nat} {v x:Value} {k:IntKind} {l l2:List Int}
 (hu:P.underlying t=some (.slice e)) (hi:P.info? e=some i) (hz:i.zero=some z) (gf:i.size=1) (nz:z.cells.size=1)
 (pd:eA B A k v l) (hx:dz A k x l2) (b6:l.length+l2.length<2 ^ 40) (yS:i.bytes<=8) (hB:B<=A.next) (hw:A.Wf) :
 ∃v' A',eK P A t t v x=some (v',A')/\eA B A' k v' (l++l2)/\(∀A0:AW,A0.next<=B->A0.le A->A0.le A')/\A'.Wf/\A.next<=A'.next:=by
 have hb:(l.length+l2.length)*i.bytes<=140737488355328:=by
  have:=Nat.mul_le_mul_left (l.length+l2.length) yS;omega
 obtain⟨v',A',h1,h2,h3,h4,h5,_⟩:=li (P:=P) (t:=t) hu hi hz gf nz (by omega) pd hx.mn (by simp [Value.oneCell']) (by omega) hb hB hw;refine⟨v',A',h1,?_,h3,h4,h5⟩;unfold eA
 simpa using h2
end Go.Stx
namespace Go.Stx
open Go
variable [Gl]
def AW.lh:AW:=⟨Gl.N,λ_=>none⟩
def Mp.lh:Mp:=λg=>if Gl.ok g=true then some ⟨g,0,1,Kr g⟩ else none
def AW.yh (A:AW):Prop:=∀i o,A.bt i=some o->o.own=false
theorem jp.lh (w:World) (hl:∀b x,Gl.B b=some x->w.heap[b]? = some x):jp Mp.lh AW.lh w:=⟨λi o h=>(by cases h),λi j o o' p p' h=>(by cases h),λi hi=>ap λh=>absurd (Gl.lt i h) (by simp only [AW.lh] at hi;omega),λ_ _=>rfl,hl,λi o p h=>(by cases h),λg hg=>ay hg⟩
theorem AW.yh.lh:AW.lh.yh:=λi o h=>by cases h
theorem jp.RY {m:Mp} {A:AW} {w:World} (hs:jp m A w) (AD:A.yh) (cs:List Value) (p:Pl) {ik:Array Value} {e:TypeId} {fr:Nat×Nat}
 (hb:w.heap[p.block]? = some (.cells ik e fr)) (wy:ik.size=p.wU)
 (s3:∀(k:Nat) (v:Value),cs[k]? = some v->∃v',ik[p.base+k]? = some v'/\bu m v v') :
 jp (m.ext A.next p) (A.alloc (.cells cs false p.unit)) w/\(A.alloc (.cells cs false p.unit)).yh:=by
 have fo:=hs.FT p;have oZ:∀{j},j≠A.next->(m.ext A.next p) j=m j:=λ{j} h=>by simp [Mp.ext,h]
 have pX:∀{j},j≠A.next->(A.alloc (.cells cs false p.unit)).bt j=A.bt j:=λ{j} h=>by simp [AW.alloc,h]
 have wo:(m.ext A.next p) A.next=some p:=by simp [Mp.ext]
 have Nh:(A.alloc (.cells cs false p.unit)).bt A.next=some (.cells cs false p.unit):=by simp [AW.alloc]
 have Pw:(A.alloc (.cells cs false p.unit)).yh:=by
  intro i o hi;by_cases hn:i=A.next;subst hn;rw [Nh] at hi;injection hi with hi;subst hi;rfl
  rw [pX hn] at hi;exact AD i o hi
 refine⟨⟨?_,?_,?_,?_,hs.laid,λi o q hi ho=>(by rw [Pw i o hi] at ho;cases ho),hs.tJ.mono fo⟩,Pw⟩;intro j o hj;by_cases hn:j=A.next;subst hn;rw [Nh] at hj;injection hj with hj;subst hj;exact⟨p,wo,ik,e,fr,hb,λh=>(by cases h),rfl,wy,λk v hv=>(by obtain⟨v',h1,h2⟩:=s3 k v hv;exact⟨v',h1,h2.mono fo⟩)⟩;rw [pX hn] at hj;obtain⟨p',h1,h2⟩:=hs.C4 j o hj;exact⟨p',by rw [oZ hn];exact h1,h2.mono fo⟩;intro i j o o' p1 p2 hi yk;have:=Pw i o hi;rw [yk] at this;cases this;intro i hi;have:i≠A.next:=by simp at hi;omega
 rw [oZ this];exact hs.pI i (by simp at hi;omega);intro i hi;have:i≠A.next:=by simp at hi;omega
 rw [pX this];exact hs.DE i (by simp at hi;omega)
theorem JS {m:Mp} {A:AW} {w:World} (hs:jp m A w) (AD:A.yh) {k:IntKind} {a:Option Addr} {len ee:Nat} {zs:List Int}
 (h:(a=none/\len=0/\ee=0/\zs=[]) \/
  ∃x,a=some x/\len<=ee/\ee<=maxLen/\zs.length=ee/\(∀i,i<zs.length->w.cell? (x.add i)=some (.int k (zs.getD i 0)))/\∀n∈zs,(Lit.int k n).wf=true) :
 ∃m' A' v,Mp.le m m'/\A.le A'/\jp m' A' w/\A'.yh/\bu m' v (.slice a len ee)/\dz A' k v (zs.take len)/\len<=maxLen:=by
 rcases h with ⟨rfl,rfl,rfl,rfl⟩|⟨x,rfl,PC,hcm,hzl,hcell,_⟩;exact⟨m,A,.slice none 0 0,Mp.le_refl m,AW.le.refl A,hs,AD,.kZ,dz.nil A k,Nat.zero_le _⟩;by_cases hc0:ee=0;subst hc0;have:len=0:=by omega
 subst this;refine⟨m,A,.slice (some ⟨0,0,some 0⟩) 0 0,Mp.le_refl m,AW.le.refl A,hs,AD,.slice (.inr ⟨rfl,rfl,.inl rfl⟩) (Nat.le_refl _) (Nat.le_refl _),?_,Nat.zero_le _⟩;rw [List.take_zero];exact .inl ⟨⟨_,rfl⟩,rfl,rfl⟩;have h0:=hcell 0 (by omega);rw [show x.add 0=x by unfold Addr.add;simp] at h0;have yM:x.spot=none:=by
  unfold World.cell? at h0;split at h0;split at h0;cases h0;rename_i yM;simpa using yM;cases h0
 have Nb:∃ik e fr,w.heap[x.block]? = some (.cells ik e fr):=by
  unfold World.cell? at h0;split at h0;rename_i c e fr hh;exact⟨c,e,fr,hh⟩;cases h0
 obtain⟨ik,e,fr,Nb⟩:=Nb;have hcur:∀i,i<ee->ik[x.off+i]? = some (.int k (zs.getD i 0)):=λi hi=>by
  have h1:=hcell i (by omega);rw [mX _ _ yM] at h1
  simpa [World.cell?,Nb] using h1
 obtain⟨SR,Pw⟩:=jp.RY hs AD (zs.map (Value.int k)) ⟨x.block,x.off,1,ik.size⟩ Nb rfl (λj v hv=>by
  rw [List.getElem?_map,Option.map_eq_some_iff] at hv;obtain⟨z,hz,rfl⟩:=hv;have hj:=(List.getElem?_eq_some_iff.1 hz).1;refine⟨_,hcur j (by omega),?_⟩;rw [List.getD_eq_getElem?_getD,hz];exact .int k z)
 have S2:=(Array.getElem?_eq_some_iff.1 (hcur (ee-1) (by omega))).1;refine⟨_,_,.slice (some ⟨A.next,0,none⟩) len len,hs.FT _,AW.le.alloc A _,SR,Pw,?_,?_,by omega⟩;refine .slice (.inl ⟨rfl,yM,⟨x.block,x.off,1,ik.size⟩,by simp [Mp.ext],rfl,rfl,?_⟩) (Nat.le_refl _) PC;show x.off+ee*1<=ik.size;omega;refine .inr ⟨⟨A.next,0,none⟩,len,zs.map (Value.int k),false,1,?_,?_,AW.dw _ _,rfl,?_,?_⟩;rw [List.length_take,Nat.min_eq_left (by omega)];simp;omega;simp;omega;rw [List.drop_zero,List.length_take,Nat.min_eq_left (by omega),Nat.mul_one,List.map_take]
theorem CE {P:Program} {f:FuncId} {args:List Value} {fL:Array Value} {A:AW} {m:Mp} {w:World} {R:Value->AW->Prop} (h:az P f args A R) (hR:∀v A',R v A'->v=.bool true)
 (hs:jp m A w) (AD:A.yh) (hl:gQ m args fL.toList):Calls P f fL w λe w'=>e=.returned (.bool true)/\RowKit.Below w.heap.size w w':=by
 refine(h.2 m w fL hs hl).mono ?_;rintro e w' ⟨v,v',m',A',rfl,ev,hv,hr⟩;have e1:=hR v A' hr;subst e1;cases hv;refine⟨rfl,ev.os,ev.tape,ev.output,ev.size,λk hk=>ev.rO k hk ?_⟩;rintro ⟨i,o,p,hi,yk,_⟩;have:=AD i o hi;rw [yk] at this;cases this
end Go.Stx
namespace Go.Stx
open Go
variable [Gl]
theorem rY:∀(l cs:List Value) (off j:Nat),off+l.length<=cs.length->(eD cs off l)[j]? = if off<=j/\j<off+l.length then l[j-off]? else cs[j]?
 | [],cs,off,j,_=>by
   simp [eD];omega
 | v::l,cs,off,j,h=>by
   simp only [List.length_cons] at h;rw [eD,rY l _ (off+1) j (by simp;omega)];by_cases h1:off+1<=j/\j<off+1+l.length;rw [ay h1,ay (by simp;omega)];rw [show j-off=(j-(off+1))+1 by omega,List.getElem?_cons_succ];rw [ap h1];by_cases h2:off=j;subst h2;rw [ay (by simp),List.getElem?_set_self (by omega)];simp;rw [ap (by simp;omega),List.getElem?_set_ne h2]
theorem DD (w:World) (b:Nat) (f:Array Value->Array Value) {ik:Array Value} {e:TypeId} {fr:Nat×Nat} (h:w.heap[b]? = some (.cells ik e fr)) :
 (Go.Sort.mapBlock w b f).heap[b]? = some (.cells (f ik) e fr):=by
 simp [Go.Sort.mapBlock,Array.getElem?_modify,h,Go.Sort.onCells]
theorem BT (w:World) (b j:Nat) (f:Array Value->Array Value) (h:j≠b):(Go.Sort.mapBlock w b f).heap[j]? = w.heap[j]?:=by
 simp [Go.Sort.mapBlock,Array.getElem?_modify,Ne.symm h]
theorem Jr {m:Mp} {A:AW} {w:World} (hs:jp m A w) {i off:Nat} {q:Pl} {cD:List Value} {k:IntKind} (d:List Int)
 (hg:A.bt i=some (.cells cD true 1)) (hm:m i=some q) (oH:off+d.length<=cD.length) :
 jc m A w m (A.set i (some (.cells (eD cD off (d.map (Value.int k))) true 1))) (Go.Sort.putRow (Value.int k) w q.block (q.base+off) d.toArray):=by
 obtain⟨p',M5,ik,e',fr,hw,s7,hu,wy,yQ⟩:=hs.C4 _ _ hg;rw [hm] at M5;injection M5 with M5;subst M5;obtain rfl:=s7 rfl;refine jc.set hs hg hm hu (by simp [Go.Sort.putRow,Go.Sort.mapBlock]) rfl rfl rfl (DD w q.block _ hw) (by simpa [Go.Sort.putCells] using wy) (λj hj=>BT w _ _ _ hj) ?_;intro j v hv;rw [rY _ _ _ _ (by simpa using oH)] at hv;simp only [List.length_map] at hv;by_cases hj:off<=j/\j<off+d.length;rw [ay hj,List.getElem?_map,List.getElem?_eq_getElem (by omega)] at hv;injection hv with hv;subst hv;obtain⟨v0,h0,_⟩:=yQ j cD[j] (List.getElem?_eq_getElem (by omega));refine⟨.int k d[j-off],?_,.int _ _⟩;have cF:=(Array.getElem?_eq_some_iff.1 h0).1;simp only [Go.Sort.putCells,Array.getElem?_mapIdx,h0,Option.map_some,List.size_toArray];rw [ay (by omega)];have e1:q.base+j-(q.base+off)=j-off:=by omega
 rw [e1,getElem!_pos d.toArray (j-off) (by simp;omega)];simp;rw [ap hj] at hv;obtain⟨v0,h0,h1⟩:=yQ j v hv;refine⟨v0,?_,h1⟩;simp only [Go.Sort.putCells,Array.getElem?_mapIdx,h0,Option.map_some,List.size_toArray];rw [ap (by omega)]
theorem jc.ahead {m:Mp} {A:AW} {w:World} (h:jp m A w) (n:Nat):jc m A w m A (Go.Sort.ahead w n):=
 ⟨Mp.le_refl m,h.FK rfl,Nat.le_refl _,rfl,rfl,rfl,Nat.le_refl _,λ_ _ _=>rfl,λ_ h=>.inl h,λ_ _=>rfl,λ_ h=>.inl h⟩
theorem jc.H8 {m:Mp} {A:AW} {w:World} (h:jp m A w) (os:Array Obj):jc m A w m A (Go.Sort.grow w os):=by
 have eL:∀b,b<w.heap.size->(Go.Sort.grow w os).heap[b]? = w.heap[b]?:=λb hb=>by
  show (w.heap++os)[b]? = _;rw [Array.getElem?_append_left hb]
 exact⟨Mp.le_refl m,NN.C2 eL h,Nat.le_refl _,rfl,rfl,rfl,by simp [Go.Sort.grow],λb hb _=>eL b hb,λ_ h=>.inl h,λ_ _=>rfl,λ_ h=>.inl h⟩
theorem Ln {P:Program} {f:FuncId} (de:i7 P f=true) {n c:Nat} {A:AW} {p:Addr} {k:IntKind} {l d:List Int} {cD:List Value} {rv:Value} {ret:Addr->Nat->Value}
 (hn:n=l.length) (h0:0<l.length) (hc:n<=c) (hg:A.bt p.block=some (.cells cD true 1)) (oH:p.off+n<=cD.length) (hl:l.map (Value.int k)=(cD.drop p.off).take n) (hd:d.length=l.length)
 (Uw:∀m a' gY,ze m p a' gY->c<=gY->bu m rv (ret a' gY))
 (PI:∀iy off ee w,Go.Sort.Holds (Value.int k) w iy off l.toArray->iy<w.heap.size->l.length<=ee->Calls P f #[.slice (some ⟨iy,off,none⟩) l.length ee] w λe w'=>
  e=.returned (ret ⟨iy,off,none⟩ ee)/\∃n os,w'=Go.Sort.grow (Go.Sort.putRow (Value.int k) (Go.Sort.ahead w n) iy off d.toArray) os) :
 az P f [.slice (some p) n c] A λu A'=>u=rv/\A'=A.set p.block (some (.cells (eD cD p.off (d.map (Value.int k))) true 1)):=by
 subst hn;refine⟨de,λm w fL hs LS=>?_⟩;obtain⟨v',t',e1,hv,ht⟩:=LS.kE;have e2:=ht.nL;subst e2;have ec:fL = #[v']:=by apply Array.ext';exact e1
 subst ec;cases hv with
 | slice hh h1 h2=>
   rename_i a' gY;have wO:ze m p a' gY:=by
    rcases hh with hh|hh;exact hh;omega
   have hsr0:=wO;obtain⟨g1,g2,q,g3,g4,g5,g6⟩:=wO;obtain⟨p',M5,ik,e',fr,hw,s7,hu,wy,yQ⟩:=hs.C4 _ _ hg;rw [g3] at M5;injection M5 with M5;subst M5;obtain rfl:=s7 rfl;have ea:a'=⟨q.block,q.base+p.off,none⟩:=(by rw [ue a' g2,g4,g5]);subst ea;have hH:Go.Sort.Holds (Value.int k) w q.block (q.base+p.off) l.toArray:=by
    intro j hj;have uB:j<l.length:=by simpa using hj
    have cH:cD[p.off+j]? = some (.int k l[j]):=by
     have:(l.map (Value.int k))[j]? = some (.int k l[j]):=by rw [List.getElem?_map,List.getElem?_eq_getElem uB];rfl
     rw [hl,List.getElem?_take_of_lt uB,List.getElem?_drop] at this;exact this
    obtain⟨v0,h3,h4⟩:=yQ _ _ cH;cases h4;rw [getElem!_pos l.toArray j hj];simp only [World.cell?,World.frozen?,hw];rw [Nat.add_assoc];simp [h3]
   refine(PI q.block (q.base+p.off) gY w hH (Array.getElem?_eq_some_iff.1 hw).1 (by omega)).mono ?_;rintro e w' ⟨rfl,n,os,rfl⟩;refine⟨rv,_,m,A.set p.block (some (.cells (eD cD p.off (d.map (Value.int k))) true 1)),rfl,?_,Uw m _ gY hsr0 h2,rfl,rfl⟩;have ev1:=jc.ahead hs n;have KB:=Jr (k:=k) ev1.C2 d hg g3 (off:=p.off) (by omega);exact(ev1.trans KB).trans (jc.H8 KB.C2 os)
theorem az.lh {P:Program} {f:FuncId} (de:i7 P f=true) {o:Option Addr} {c:Nat} {A:AW} {rv:Value} {ret:Option Addr->Nat->Value}
 (Uw:∀m o' c',bu m (.slice o 0 c) (.slice o' 0 c')->bu m rv (ret o' c'))
 (PI:∀o' c' w,Calls P f #[.slice o' 0 c'] w λe w'=>e=.returned (ret o' c')/\w'=w) :
 az P f [.slice o 0 c] A λu A'=>u=rv/\A=A':=by
 refine⟨de,λm w fL hs LS=>?_⟩;obtain⟨v',t',e1,hv,ht⟩:=LS.kE;have e2:=ht.nL;subst e2;have ec:fL = #[v']:=by apply Array.ext';exact e1
 subst ec;have VR:∃o' c',v'=.slice o' 0 c':=by
  cases hv<;>exact⟨_,_,rfl⟩
 obtain⟨o',c',rfl⟩:=VR;refine(PI o' c' w).mono ?_;rintro e w' ⟨rfl,rfl⟩;exact⟨rv,_,m,A,rfl,jc.refl hs,Uw m _ _ hv,rfl,rfl⟩
theorem eA.dO {B:Nat} {A:AW} {k:IntKind} {v:Value} {l:List Int} (h:eA B A k v l) :
 (∃o c,v=.slice o 0 c/\l=[]/\0<=c)\/∃p c cD,v=.slice (some p) l.length c/\0<l.length/\l.length<=c/\p.spot=none/\B<=p.block/\A.bt p.block=some (.cells cD true 1)/\
  p.off+l.length<=cD.length/\l.map (Value.int k)=(cD.drop p.off).take l.length:=by
 rcases h with ⟨h1,h2,h3⟩|⟨p,c,cD,h1,h2,hs,hB,h3,h4,h5⟩;exact .inl ⟨none,0,h1,List.eq_nil_of_length_eq_zero h2,Nat.le_refl _⟩;by_cases h0:l.length=0;rw [h0] at h1;exact .inl ⟨some p,c,h1,List.eq_nil_of_length_eq_zero h0,Nat.zero_le _⟩;exact .inr ⟨p,c,cD,h1,by omega,h2,hs,hB,h3,by simpa using h4,by simpa using h5⟩
theorem BF {B:Nat} {A:AW} {k:IntKind} {p:Addr} {c n:Nat} {cD:List Value} (d z:List Int) (hw:A.Wf) (hB:B<=p.block) (hs:p.spot=none) (hg:A.bt p.block=some (.cells cD true 1))
 (oH:p.off+(d++z).length<=cD.length) (hc:d.length<=c) (hn:n=d.length) :
 eA B (A.set p.block (some (.cells (eD cD p.off ((d++z).map (Value.int k))) true 1))) k (.slice (some p) n c) d:=by
 subst hn;refine .inr ⟨p,c,_,rfl,hc,hs,hB,AW.ef,?_,?_⟩;rw [Ah];simp at oH;omega;apply List.ext_getElem?;intro j;by_cases hj:j<d.length;rw [List.getElem?_take_of_lt (by omega),List.getElem?_drop,rY _ _ _ _ (by simpa using oH),ay (by simp;omega)];rw [show p.off+j-p.off=j by omega,List.map_append,List.getElem?_append_left (by simpa using hj)];rw [List.getElem?_eq_none (by simp;omega),List.getElem?_eq_none (by simp;omega)]
end Go.Stx
namespace Go.Stx
open Go
variable [Gl]
def jJ (bz:Array Oper):Bool:=(List.range bz.size).all λi=>match bz[i]? with
 | some o=>o.after.toList.all λe=>!Region.binds .any e || Nat.ble (e.on+1) i
 | none=>true
theorem kW {bz:Array Oper} (sT:jJ bz=true) {i:Nat} {o:Oper} (ho:bz[i]? = some o) {e:Edge} (he:e∈o.after) (hb:Region.binds .any e=true):e.on<i:=by
 have ha:=List.all_eq_true.1 sT i (List.mem_range.2 (Array.getElem?_eq_some_iff.1 ho).1);rw [ho] at ha;have h2:=List.all_eq_true.1 ha e (Array.mem_toList_iff.2 he);rw [hb] at h2;have h3:e.on+1<=i:=by simpa [Nat.ble_eq] using h2
 omega
def NR (P:Program) (bz:Array Oper) (o:Oper) (a:Fr) (A:AW) (k:Fr->AW->Prop):Prop:=
 if lN bz a o=true then hY P o.op (iO a) A (λv A'=>k (ew a o.dst v) A') else k (ew a o.dst undef) A
theorem En {md:Region.Mode} {bz:Array Oper} {listed:Array Bool} {i:Nat} (h:i∈Region.ready md bz listed) :
 ∃o,bz[i]? = some o/\listed.getD i true=false/\∀e∈o.after,Region.binds md e=true->listed.getD e.on false=true:=by
 simp only [Region.ready,List.mem_filter,List.mem_range,Bool.and_eq_true,Bool.not_eq_true'] at h;obtain⟨hi,h1,h2⟩:=h;refine⟨bz[i],Array.getElem?_eq_getElem hi,h1,λe he hb=>?_⟩;rw [Array.getElem?_eq_getElem hi] at h2;simp only [Option.map_some,Option.getD_some] at h2;have:=Array.all_eq_true_iff_forall_mem.1 h2 e he
 simpa [hb] using this
theorem wK {bz:Array Oper} (sT:jJ bz=true) {listed:Array Bool} (td:listed.size=bz.size) (hr:Region.ready .any bz listed=[]) :
 ∀n i,i<n->i<bz.size->listed.getD i false=true
 | 0,i,h,_=>by omega
 | n+1,i,h,hi=>by
   by_cases rQ:i<n;exact wK sT td hr n i rQ hi;by_cases hl:listed.getD i false=true;exact hl;exfalso;have C7:i<listed.size:=(by omega);have M4:i∈Region.ready .any bz listed:=by
    simp only [Region.ready,List.mem_filter,List.mem_range,Bool.and_eq_true,Bool.not_eq_true'];refine⟨hi,?_,?_⟩;rw [Array.getD_eq_getD_getElem?,Array.getElem?_eq_getElem C7] at hl ⊢
    simpa using hl
    rw [Array.getElem?_eq_getElem hi];simp only [Option.map_some,Option.getD_some];refine Array.all_eq_true_iff_forall_mem.2 λe he=>?_;cases hb:Region.binds .any e with
    | false=>simp
    | true=>
      have cF:=kW sT (Array.getElem?_eq_getElem hi) he hb;have:=wK sT td hr n e.on (by omega) (by omega);simp [this]
   rw [hr] at M4;cases M4
theorem L7 {P:Program} {n:Nat} {Q:Exit->Fr->AW->Prop} {a:Fr} {A:AW} {id:Nat} {bz:Array Oper} (hm:P.follows .mixedOrders=true) (sT:jJ bz=true)
 (J:(Nat->Bool)->Fr->AW->Prop) (h0:J (λ_=>false) a A)
 (xF:∀S a A i o,A.Wf->J S a A->bz[i]? = some o->S i=false->(∀e∈o.after,Region.binds .any e=true->S e.on=true)->NR P bz o a A (J λj=>if j=i then true else S j))
 (pf:∀S a A,A.Wf->J S a A->(∀i,i<bz.size->S i=true)->Q .normal a A):cB P n (.region id bz true) Q a A:=by
 intro lq m w ca hs hf;have B7:bz.all (lC n)=true:=lq;refine wp_region_any hm ?_
 have key:∀(fuel:Nat) (listed:Array Bool) (S:Nat->Bool) (a':Fr) (A':AW) (m':Mp) (w':World) (yq:Act),listed.size=bz.size->(∀i,i<bz.size->listed.getD i false=S i)->
  (List.range bz.size).countP (λi=>!S i)<=fuel->J S a' A'->jc m A w m' A' w'->rj m' n a' yq->
  wpAny P .any bz (λe yq w'=>∃m' a' A',jc m A w m' A' w'/\rj m' n a' yq/\Q e a' A') fuel listed yq w':=by
  intro fuel
  induction fuel with
  | zero=>
    intro listed S a' A' m' w' yq td hS hcnt hJ RN s7;have jW:∀i,i<bz.size->S i=true:=by
     intro i hi;have:=List.countP_eq_zero.1 (Nat.le_zero.1 hcnt) i (List.mem_range.2 hi)
     simpa using this
    refine⟨?_,m',a',A',RN,s7,pf S a' A' RN.C2.DE hJ jW⟩;rw [List.eq_nil_iff_forall_not_mem];intro i hi;obtain⟨o,ho,hl,_⟩:=En hi;have yl:=(Array.getElem?_eq_some_iff.1 ho).1;have:=hS i yl;rw [jW i yl] at this;rw [Array.getD_eq_getD_getElem?,Array.getElem?_eq_getElem (by omega)] at this hl;simp only [Option.getD_some] at this hl;rw [this] at hl;cases hl
  | succ fuel ih=>
    intro listed S a' A' m' w' yq td hS hcnt hJ RN s7;refine⟨λhr=>⟨m',a',A',RN,s7,pf S a' A' RN.C2.DE hJ λi hi=>?_⟩,λi hi=>?_⟩;rw [<-hS i hi];exact wK sT td hr (i+1) i (by omega) hi;obtain⟨o,ho,hl,iQ⟩:=En hi;have yl:=(Array.getElem?_eq_some_iff.1 ho).1;have pH:S i=false:=by
     rw [<-hS i yl];rw [Array.getD_eq_getD_getElem?,Array.getElem?_eq_getElem (by omega)] at hl ⊢
     simpa using hl
    have hdep':∀e∈o.after,Region.binds .any e=true->S e.on=true:=by
     intro e he hb;have h1:=iQ e he hb;have cF:=kW sT ho he hb;rw [<-hS e.on (by omega)];exact h1
    have cL:=xF S a' A' i o RN.C2.DE hJ ho pH hdep';have hoo:=Array.all_eq_true_iff_forall_mem.1 B7 o (Array.mem_of_getElem? ho);have S6:(List.range bz.size).countP (λj=>!(if j=i then true else S j))<=fuel:=by
     have e1:(List.range bz.size).countP (λj=>!(if j=i then true else S j))+1<=(List.range bz.size).countP (λj=>!S j):=by
      have M4:i∈List.range bz.size:=List.mem_range.2 yl;have key2:∀l:List Nat,i∈l->l.countP (λj=>!(if j=i then true else S j))+1<=l.countP (λj=>!S j):=by
       intro l;have mono:∀l:List Nat,l.countP (λj=>!(if j=i then true else S j))<=l.countP (λj=>!S j):=λl=>by
        refine List.countP_mono_left λx _ hx=>?_;by_cases e:x=i;simp [e] at hx
        simpa [e] using hx
       induction l with
       | nil=>intro h;cases h
       | cons x l ihl=>
         intro hx;rw [List.countP_cons,List.countP_cons];by_cases e:x=i;subst e;have:=mono l;simp [pH]
         simpa using this
         have Un:i∈l:=by
          rcases List.mem_cons.1 hx with h|h;exact absurd h.symm e;exact h
         have:=ihl Un;simp only [e,if_false];omega
      exact key2 _ M4
     omega
    have mT:∀j,j<bz.size->(listed.setIfInBounds i true).getD j false=if j=i then true else S j:=by
     intro j hj;by_cases e:j=i;subst e;rw [ay rfl,Array.getD_eq_getD_getElem?,Array.getElem?_setIfInBounds_self_of_lt (by omega)];rfl;rw [ap e,<-hS j hj,Array.getD_eq_getD_getElem?,Array.getD_eq_getD_getElem?,Array.getElem?_setIfInBounds_ne (by omega)]
    unfold NR at cL;unfold wpOp;rw [ho];simp only;rw [EN s7 B7 o];split at cL;rename_i hg;rw [ay hg];refine .inl (zh RN.C2 s7 hoo cL ?_);intro v A2 m2 w2 ca2 hk KB IU;exact ih _ _ _ A2 m2 w2 ca2 (by simpa using td) mT S6 hk (RN.trans KB) IU;rename_i hg;rw [ap hg];simp only [lC,Bool.and_eq_true] at hoo;have hd:∀j,o.dst=some j->j<n:=λj e=>by have:=hoo.2;rw [e] at this;simpa using this
    exact ih _ _ _ A' m' w' _ (by simpa using td) mT S6 cL RN (s7.put hd (bu.undef m'))
 refine key bz.size _ (λ_=>false) a A m { w with drawn:=w.drawn+1 } ca (by simp) (λi hi=>by simp [Array.getD_eq_getD_getElem?,hi]) ?_ h0 (jc.drew hs) hf;exact Nat.le_trans (List.countP_le_length) (by simp)
end Go.Stx
namespace Go.Stx
open Go
variable [Gl]
abbrev Hp:=Nat->Option dG
def Hp.dj (h k:Hp):Prop:=∀i,h i=none\/k i=none
def Hp.un (h k:Hp):Hp:=λi=>match h i with|some o=>some o|none=>k i
theorem Hp.L3 {h k:Hp} (d:Hp.dj h k):Hp.dj k h:=λi=>(d i).symm
theorem Hp.Lf {h k:Hp} (d:Hp.dj h k):Hp.un h k=Hp.un k h:=by
 funext i;simp only [Hp.un];rcases d i with e|e;rw [e];cases k i<;>rfl;rw [e];cases h i<;>rfl
theorem Hp.G6 (h k l:Hp):Hp.un (Hp.un h k) l=Hp.un h (Hp.un k l):=by
 funext i;simp only [Hp.un];cases h i<;>rfl
theorem Hp.ui {h k:Hp} {i:Nat}:Hp.un h k i=none↔h i=none/\k i=none:=by
 simp only [Hp.un];cases h i<;>simp
structure HP where
 holds:Hp->Prop
@[ext] theorem HP.ext' {P Q:HP} (h:∀x,P.holds x↔Q.holds x):P=Q:=by
 obtain⟨p⟩:=P;obtain⟨q⟩:=Q;congr;funext x;exact propext (h x)
def HP.TJ (P Q:HP):HP:=⟨λh=>∃h1 h2,Hp.dj h1 h2/\h=Hp.un h1 h2/\P.holds h1/\Q.holds h2⟩
instance:Mul HP:=⟨HP.TJ⟩
theorem vM {P Q:HP} {h:Hp}:(P*Q).holds h↔∃h1 h2,Hp.dj h1 h2/\h=Hp.un h1 h2/\P.holds h1/\Q.holds h2:=Iff.rfl
theorem HP.mul_comm (P Q:HP):P*Q=Q*P:=by
 ext h;simp only [vM];constructor;rintro ⟨a,b,d,rfl,p,q⟩;exact⟨b,a,Hp.L3 d,Hp.Lf d,q,p⟩;rintro ⟨a,b,d,rfl,p,q⟩;exact⟨b,a,Hp.L3 d,Hp.Lf d,q,p⟩
theorem HP.b5 (P Q R:HP):P*Q*R=P*(Q*R):=by
 ext h;simp only [vM];constructor;rintro ⟨_,c,d,rfl,⟨a,b,d1,rfl,p,q⟩,r⟩;refine⟨a,Hp.un b c,λi=>?_,Hp.G6 _ _ _,p,b,c,λi=>?_,rfl,q,r⟩;rcases d i with e|e;exact .inl (Hp.ui.1 e).1;rcases d1 i with e1|e1;exact .inl e1;exact .inr (Hp.ui.2 ⟨e1,e⟩);rcases d i with e|e;exact .inl (Hp.ui.1 e).2;exact .inr e;rintro ⟨a,_,d,rfl,p,b,c,d1,rfl,q,r⟩;refine⟨Hp.un a b,c,λi=>?_,(Hp.G6 _ _ _).symm,⟨a,b,λi=>?_,rfl,p,q⟩,r⟩;rcases d1 i with e|e;rcases d i with e1|e1;exact .inl (Hp.ui.2 ⟨e1,e⟩);exact .inr (Hp.ui.1 e1).2;exact .inr e;rcases d i with e1|e1;exact .inl e1;exact .inr (Hp.ui.1 e1).1
instance:Std.Associative (α:=HP) (·* ·):=⟨HP.b5⟩
instance:Std.Commutative (α:=HP) (·* ·):=⟨HP.mul_comm⟩
def eP:HP:=⟨λh=>h=λ_=>none⟩
def C5 (p:Prop):HP:=⟨λh=>p/\h=λ_=>none⟩
def pe {α:Type} (P:α->HP):HP:=⟨λh=>∃x,(P x).holds h⟩
def pt (i:Nat) (o:dG):HP:=⟨λh=>h=λj=>if j=i then some o else none⟩
def H0 (h0:Hp):HP:=⟨λh=>h=h0⟩
theorem LO {p:Prop} {P:HP} {h:Hp}:(C5 p*P).holds h↔p/\P.holds h:=by
 simp only [vM];constructor;rintro ⟨a,b,d,rfl,⟨hp,rfl⟩,q⟩;exact⟨hp,q⟩;rintro ⟨hp,q⟩;exact⟨_,h,λ_=>.inl rfl,rfl,⟨hp,rfl⟩,q⟩
theorem RM {α:Type} {P:α->HP} {Q:HP}:pe P*Q=pe λx=>P x*Q:=by
 ext h;constructor;rintro ⟨a,b,d,rfl,⟨x,p⟩,q⟩;exact⟨x,a,b,d,rfl,p,q⟩;rintro ⟨x,a,b,d,rfl,p,q⟩;exact⟨a,b,d,rfl,⟨x,p⟩,q⟩
theorem iD (P:HP):eP*P=P:=by
 ext h;constructor;rintro ⟨a,b,d,rfl,rfl,q⟩;exact q;intro q;exact⟨_,h,λ_=>.inl rfl,rfl,rfl,q⟩
theorem dt (P:HP):P*eP=P:=by rw [HP.mul_comm,iD]
def bn (A:AW) (P:HP):Prop:=∃h,P.holds h/\∀i o,h i=some o->A.bt i=some o
def NO (P Q:HP):Prop:=∀h,P.holds h->Q.holds h
theorem NO.refl (P:HP):NO P P:=λ_ h=>h
theorem NO.TJ {P P' Q Q':HP} (h:NO P P') (k:NO Q Q'):NO (P*Q) (P'*Q'):=λ_ ⟨a,b,d,e,p,q⟩=>⟨a,b,d,e,h a p,k b q⟩
theorem NO.left {P P':HP} (Q:HP) (h:NO P P'):NO (P*Q) (P'*Q):=NO.TJ h (NO.refl Q)
theorem bn.bS {A:AW} {P Q:HP} (h:bn A P) (e:NO P Q):bn A Q:=⟨h.choose,e _ h.choose_spec.1,h.choose_spec.2⟩
theorem bn.entl {A:AW} {P Q F:HP} (h:bn A (P*F)) (e:NO P Q):bn A (Q*F):=h.bS (e.left F)
theorem bn.dV {A:AW} {P Q:HP} (h:bn A P) (e:P=Q):bn A Q:=e▸h
theorem bn.right {A:AW} {P Q:HP} (h:bn A (P*Q)):bn A Q:=by
 obtain⟨_,⟨a,b,d,rfl,p,q⟩,hs⟩:=h;refine⟨b,q,λi o hi=>hs i o ?_⟩;simp only [Hp.un];rcases d i with e|e;rw [e];exact hi;rw [e] at hi;cases hi
theorem bn.left {A:AW} {P Q:HP} (h:bn A (P*Q)):bn A P:=(h.dV (HP.mul_comm P Q)).right
theorem bn.emp (A:AW):bn A eP:=⟨_,rfl,λi o h=>by cases h⟩
theorem bn.ex {α:Type} {A:AW} {P:α->HP} {F:HP}:bn A (pe P*F)↔∃x,bn A (P x*F):=by
 rw [RM];constructor;rintro ⟨h,⟨x,p⟩,hs⟩;exact⟨x,h,p,hs⟩;rintro ⟨x,h,p,hs⟩;exact⟨h,⟨x,p⟩,hs⟩
theorem bn.pr {A:AW} {p:Prop} {F:HP}:bn A (C5 p*F)↔p/\bn A F:=by
 constructor;rintro ⟨h,hh,hs⟩;rw [LO] at hh;exact⟨hh.1,h,hh.2,hs⟩;rintro ⟨hp,h,hh,hs⟩;exact⟨h,LO.2 ⟨hp,hh⟩,hs⟩
theorem bn.OQ {A A':AW} {P:HP} (h:bn A P) (e:∀i o,A.bt i=some o->A'.bt i=some o):bn A' P:=
 ⟨h.choose,h.choose_spec.1,λi o hi=>e i o (h.choose_spec.2 i o hi)⟩
theorem bn.le {A A':AW} {P:HP} (h:bn A P) (hw:A.Wf) (hl:A.le A'):bn A' P:=h.OQ λi o hi=>hl.sZ hw hi
theorem bn.bt {A:AW} {i:Nat} {o:dG} {F:HP} (h:bn A (pt i o*F)):A.bt i=some o:=by
 obtain⟨_,⟨a,b,d,rfl,rfl,q⟩,hs⟩:=h;exact hs i o (by simp [Hp.un])
theorem bn.ne {A:AW} {i j:Nat} {o o':dG} {F:HP} (h:bn A (pt i o*(pt j o'*F))):i≠j:=by
 obtain⟨_,⟨a,_,d,rfl,rfl,b,c,d1,rfl,rfl,q⟩,hs⟩:=h;rintro rfl;rcases d i with e|e;simp at e;simp [Hp.un] at e
theorem bn.CH {A A':AW} {i:Nat} {o:dG} {F:HP} (h:bn A (pt i o*F)) (e:∀j o',j≠i->A.bt j=some o'->A'.bt j=some o'):bn A' F:=by
 obtain⟨_,⟨a,b,d,rfl,rfl,q⟩,hs⟩:=h;refine⟨b,q,λj o' hj=>?_⟩;have lL:j≠i:=by
  rintro rfl;rcases d j with e|e;simp at e;rw [e] at hj;cases hj
 refine e j o' lL (hs j o' ?_);simp [Hp.un,lL,hj]
theorem bn.cons {A:AW} {i:Nat} {o:dG} {F:HP} (hg:A.bt i=some o) (h:bn (A.set i none) F):bn A (pt i o*F):=by
 obtain⟨b,q,hs⟩:=h;have hb:b i=none:=by
  cases uM:b i with
  | none=>rfl
  | some x=>have:=hs i x uM;simp at this
 refine⟨_,⟨_,b,λj=>?_,rfl,rfl,q⟩,λj o' hj=>?_⟩;by_cases e:j=i;subst e;exact .inr hb;exact .inl (by simp [e]);by_cases e:j=i;subst e;simp [Hp.un] at hj;rw [hg,hj];simp [Hp.un,e] at hj;have:=hs j o' hj;rwa [AW.bM e] at this
theorem bn.set {A:AW} {i:Nat} {o:dG} {F:HP} (h:bn A (pt i o*F)) (o':dG):bn (A.set i (some o')) (pt i o'*F):=by
 refine bn.cons AW.ef (h.CH λj x hj hx=>?_);rw [AW.bM hj,AW.bM hj];exact hx
theorem bn.JQ {A:AW} {i:Nat} {o:dG} {F:HP} (h:bn A (pt i o*F)):bn (A.set i none) F:=
 h.CH λj x hj hx=>by rw [AW.bM hj];exact hx
theorem bn.alloc {A:AW} {F:HP} (h:bn A F) (hw:A.Wf) (o:dG):bn (A.alloc o) (pt A.next o*F):=by
 refine bn.cons (AW.dw A o) (h.OQ λj x hx=>?_);have:=hw.lt hx;rw [AW.bM (by omega),AW.fz _ _ (by omega)];exact hx
theorem bn.sZ {A:AW} {F:HP} (h:bn A F) (hw:A.Wf) (o:dG):bn (A.alloc o) F:=(h.alloc hw o).right
theorem bn.Ud {A:AW} {i j:Nat} {o o':dG} {P F:HP} (h:bn A (pt i o*(P*(pt j o'*F)))):i≠j:=
 bn.ne (h.dV (by ac_rfl:pt i o*(P*(pt j o'*F))=pt i o*(pt j o'*(P*F))))
theorem AW.eY (A:AW) (o:dG) (i:Nat):(A.alloc o).bt i=if i=A.next then some o else A.bt i:=rfl
theorem AW.dM (A:AW) (o:Option dG) (i j:Nat):(A.set i o).bt j=if j=i then o else A.bt j:=rfl
theorem AW.ab (A:AW) (i:Nat):A.cD i=match A.bt i with|some (.cells cs _ _)=>some cs|_=>none:=rfl
theorem AW.Wf.eL {A:AW} (hw:A.Wf) {i:Nat} {o:dG} (hg:A.bt i=some o):(i=A.next)=False/\∀k,(i=A.next+k)=False:=by
 have:=hw.lt hg;exact⟨eq_false (by omega),λk=>eq_false (by omega)⟩
theorem bn.post {A:AW} {p:Prop} {Q F:HP} (hp:p) (h:bn A (Q*F)):bn A (C5 p*Q*F):=by
 rw [HP.b5,bn.pr];exact⟨hp,h⟩
theorem bn.oc {A:AW} {p:Prop} {Q F:HP} (h:bn A (C5 p*Q*F)):p/\bn A (Q*F):=by
 rw [HP.b5,bn.pr] at h;exact h
theorem bn.QY {A A':AW} {b:Nat} {o o':dG} {F:HP} (h:bn A (pt b o*F)) (h1:A'.bt b=some o') (hk:∀j x,j≠b->A.bt j=some x->A'.bt j=some x):bn A' (pt b o'*F):=
 bn.cons h1 (h.CH λj x hj hx=>by rw [AW.bM hj];exact hk j x hj hx)
theorem bn.upd2 {A A':AW} {b c:Nat} {o o' p p':dG} {F:HP} (h:bn A (pt b o*(pt c p*F))) (h1:A'.bt b=some o') (h2:A'.bt c=some p')
 (hk:∀j x,j≠b->j≠c->A.bt j=some x->A'.bt j=some x):bn A' (pt b o'*(pt c p'*F)):=by
 have V4:=h.ne;have e1:bn (A'.set b (some o)) (pt b o*(pt c p'*F)):=by
  have h':bn A (pt c p*(pt b o*F)):=h.dV (by ac_rfl);refine(bn.QY h' (by rw [AW.bM (Ne.symm V4)];exact h2) λj x hj hx=>?_).dV (by ac_rfl);by_cases e:j=b;subst e;rw [AW.ef];rw [h.bt] at hx;exact hx;rw [AW.bM e];exact hk j x e hj hx
 exact bn.QY e1 h1 λj x hj hx=>by rwa [AW.bM hj] at hx
theorem bn.upd3 {A A':AW} {b c d:Nat} {o o' p p' q q':dG} {F:HP} (h:bn A (pt b o*(pt c p*(pt d q*F)))) (h1:A'.bt b=some o') (h2:A'.bt c=some p') (h3:A'.bt d=some q')
 (hk:∀j x,j≠b->j≠c->j≠d->A.bt j=some x->A'.bt j=some x):bn A' (pt b o'*(pt c p'*(pt d q'*F))):=by
 have V4:=h.ne;have hbd:=h.Ud;have e1:bn (A'.set b (some o)) (pt b o*(pt c p'*(pt d q'*F))):=by
  have h':bn A (pt c p*(pt d q*(pt b o*F))):=h.dV (by ac_rfl);refine(bn.upd2 h' (by rw [AW.bM (Ne.symm V4)];exact h2) (by rw [AW.bM (Ne.symm hbd)];exact h3) λj x hj GS hx=>?_).dV (by ac_rfl);by_cases e:j=b;subst e;rw [AW.ef];rw [h.bt] at hx;exact hx;rw [AW.bM e];exact hk j x e hj GS hx
 exact bn.QY e1 h1 λj x hj hx=>by rwa [AW.bM hj] at hx
theorem bn.PZ {A A':AW} {b c:Nat} {o o' p:dG} {F:HP} (h:bn A (pt b o*(pt c p*F))) (h1:A'.bt b=some o') (hk:∀j x,j≠b->j≠c->A.bt j=some x->A'.bt j=some x):bn A' (pt b o'*F):=by
 have V4:=h.ne;have h':bn A (pt c p*(pt b o*F)):=h.dV (by ac_rfl);have e1:bn (A'.set b (some o)) (pt b o*F):=h'.CH λj x hj hx=>by
  by_cases e:j=b;subst e;rw [AW.ef];rw [h.bt] at hx;exact hx;rw [AW.bM e];exact hk j x e hj hx
 exact bn.QY e1 h1 λj x hj hx=>by rwa [AW.bM hj] at hx
theorem bn.Ih {A A':AW} {b c d:Nat} {o o' p q:dG} {F:HP} (h:bn A (pt b o*(pt c p*(pt d q*F)))) (h1:A'.bt b=some o') (hk:∀j x,j≠b->j≠c->j≠d->A.bt j=some x->A'.bt j=some x):bn A' (pt b o'*F):=by
 have V4:=h.ne;have hbd:=h.Ud;have s8:=h.right.ne;have e1:bn (A'.set c (some p)) (pt b o'*(pt c p*F)):=by
  refine(bn.PZ (b:=b) (c:=d) (o:=o) (p:=q) (F:=pt c p*F) (h.dV (by ac_rfl)) (by rw [AW.bM V4];exact h1) λj x hj GS hx=>?_);by_cases e:j=c;subst e;rw [AW.ef];rw [h.right.bt] at hx;exact hx;rw [AW.bM e];exact hk j x hj e GS hx
 have e2:bn (A'.set c (some p)) (pt c p*(pt b o'*F)):=e1.dV (by ac_rfl);exact e2.CH λj x hj hx=>by rwa [AW.bM hj] at hx
theorem Gh {P:Program} {n:Nat} {c:Code} {Q:Exit->Fr->AW->Prop} {a:Fr} {A:AW} (J:AW->Prop) (hJ:J A) (h:∀A',J A'->cB P n c Q a A'):cB P n c Q a A:=h A hJ
def aG (P:Program) (n:Nat) (c:Code) (Q:Exit->Fr->AW->Prop):Nat->Fr->AW->Prop
 | 0,_,_=>False
 | k+1,a,A=>cB P n c (aM (aG P n c Q k) Q) a A
theorem gM {P:Program} {n:Nat} {c:Code} {Q:Exit->Fr->AW->Prop} {a:Fr} {A:AW} (k:Nat) (h:aG P n c Q k a A):cB P n (.loop c) Q a A:=by
 refine dW (aG P n c Q) k h ?_;intro k a A h;cases k with
 | zero=>exact h.elim
 | succ k=>exact CI h λe a A hh=>by cases e<;>first|exact⟨k,Nat.lt_succ_self k,hh⟩|exact hh
def nD (P:Program) (f:FuncId) (args:List Value) (rk:HP) (post:Value->HP):Prop:=
 ∀(A:AW) (F:HP),A.Wf->bn A (rk*F)->az P f args A λv A'=>bn A' (post v*F)
theorem nD.use {P:Program} {f:FuncId} {args:List Value} {rk:HP} {post:Value->HP} (h:nD P f args rk post) {A:AW} {G F:HP} (hw:A.Wf) (hs:bn A G) (e:G=rk*F) {k:Value->AW->Prop}
 (hk:∀v A',bn A' (post v*F)->A'.Wf->A.next<=A'.next->k v A'):az P f args A k:=
 bV (h A F hw (hs.dV e)) hk
end Go.Stx
namespace Go.Stx
open Go
variable [Gl]
def da (n:Nat) (v:Value):Prop:=∀(m m':Mp) (x:Value),bu m v x->(∀i,i<n->m' i=m i)->bu m' v x
theorem da.jz {n:Nat} {v:Value} (h:eQ v=true):da n v:=λm m' x hx _=>by
 have:=hx.lQ h;subst this;exact .jz h m'
theorem da.xe {n:Nat}:da n (.pointer none):=λm m' x hx _=>by cases hx;constructor
theorem da.kZ {n a b:Nat}:da n (.slice none a b):=λm m' x hx _=>by cases hx;constructor
theorem da.xy {n:Nat}:da n (.map none):=λm m' x hx _=>by cases hx;constructor
theorem da.nilFunc {n:Nat}:da n .nilFunc:=λm m' x hx _=>by cases hx;constructor
theorem da.nilIface {n:Nat}:da n .nilIface:=λm m' x hx _=>by cases hx;constructor
theorem da.agg {n:Nat} {vs:Array Value} (h:∀v∈vs.toList,da n v):da n (.agg vs):=λm m' x hx e=>by
 cases hx with
 | agg h1 h2=>exact .agg h1 λi v v' e1 e2=>h v (Array.mem_toList_iff.2 (Array.mem_of_getElem? e1)) m m' v' (h2 i v v' e1 e2) e
theorem da.tuple {n:Nat} {vs:Array Value} (h:∀v∈vs.toList,da n v):da n (.tuple vs):=λm m' x hx e=>by
 cases hx with
 | tuple h1 h2=>exact .tuple h1 λi v v' e1 e2=>h v (Array.mem_toList_iff.2 (Array.mem_of_getElem? e1)) m m' v' (h2 i v v' e1 e2) e
@[simp] theorem da.int {n:Nat} {k:IntKind} {x:Int}:da n (.int k x):=λm m' x hx _=>by cases hx;constructor
@[simp] theorem da.bool {n:Nat} {x:Bool}:da n (.bool x):=λm m' x hx _=>by cases hx;constructor
@[simp] theorem da.string {n:Nat} {x:ByteArray}:da n (.string x):=λm m' x hx _=>by cases hx;constructor
attribute [simp] da.xe da.kZ da.xy da.nilFunc da.nilIface
theorem m6.Bv {m m':Mp} {a a':Addr} (h:m6 m a a') (e:∀p,m a.block=some p->m' a.block=some p):m6 m' a a':=by
 obtain⟨h1,h2,p,h3,h4⟩:=h;exact⟨h1,h2,p,e p h3,h4⟩
theorem ze.Bv {m m':Mp} {a a':Addr} {c:Nat} (h:ze m a a' c) (e:∀p,m a.block=some p->m' a.block=some p):ze m' a a' c:=by
 obtain⟨h1,h2,p,h3,h4⟩:=h;exact⟨h1,h2,p,e p h3,h4⟩
theorem bu.I1 {m m1 m2:Mp} (V6:∀i,m i≠none->m2 i=m1 i) {v x:Value} (h:bu m v x):∀y,bu m1 v y->bu m2 v y:=by
 have Ft:∀{i:Nat} {p:Pl},m i=some p->m2 i=m1 i:=λh=>V6 _ (by rw [h];exact Option.some_ne_none _)
 induction h with
 | bool b=>intro y hy;cases hy;constructor
 | int k n=>intro y hy;cases hy;constructor
 | float k n=>intro y hy;cases hy;constructor
 | complex k x y=>intro y hy;cases hy;constructor
 | string s=>intro y hy;cases hy;constructor
 | xe=>intro y hy;cases hy;constructor
 | Hn h=>
   intro y hy;obtain⟨_,_,p,hp,_⟩:=h;cases hy with
   | Hn h'=>exact .Hn (h'.Bv λq hq=>by rw [Ft hp];exact hq)
 | kZ=>intro y hy;cases hy;constructor
 | slice h h1 h2=>
   intro y hy;cases hy with
   | slice h' U1 h2'=>
     rename_i a _ _ _ _ _ _;have key:m2 a.block=m1 a.block\/a.spot.isSome=true:=by
      rcases h with ⟨HV,_,p,hp,_⟩|⟨hl,_,yM|hb⟩;exact .inl (Ft hp);exact .inr yM;exact .inl (V6 _ hb)
     rcases key with hb|yM;refine .slice ?_ U1 h2';rcases h' with s|⟨e1,e2,e3⟩;exact .inl (s.Bv λq hq=>by rw [hb];exact hq);exact .inr ⟨e1,e2,e3.imp id λe=>by rw [hb];exact e⟩;refine .slice ?_ U1 h2';rcases h' with s|⟨e1,e2,e3⟩;have:=s.1;rw [this] at yM;cases yM;exact .inr ⟨e1,e2,.inl yM⟩
 | xy=>intro y hy;cases hy;constructor
 | map h=>
   intro y hy;obtain⟨p,hp,_⟩:=h;cases hy with
   | map h'=>
     obtain⟨q,hq,e⟩:=h';exact .map ⟨q,by rw [Ft hp];exact hq,e⟩
 | CC=>intro y hy;cases hy;constructor
 | func fn hx hy h1 h2 ih1 ih2=>
   intro y Ul;rename_i x x' z z';cases Ul with
   | func _ kx ky g1 g2=>
     refine .func fn kx ky (λi v v' e1 e2=>?_) (λi v v' e1 e2=>?_);have cF:i<x'.size:=(by rw [<-hx];exact(Array.getElem?_eq_some_iff.1 e1).1);exact ih1 i v _ e1 (Array.getElem?_eq_getElem cF) v' (g1 i v v' e1 e2);have cF:i<z'.size:=(by rw [<-hy];exact(Array.getElem?_eq_some_iff.1 e1).1);exact ih2 i v _ e1 (Array.getElem?_eq_getElem cF) v' (g2 i v v' e1 e2)
 | nilFunc=>intro y hy;cases hy;constructor
 | iface t _ ih=>intro y hy;cases hy with|iface _ h'=>exact .iface t (ih _ h')
 | nilIface=>intro y hy;cases hy;constructor
 | agg hx _ ih=>
   intro y Ul;rename_i x x' _;cases Ul with
   | agg kx g1=>
     refine .agg kx (λi v v' e1 e2=>?_);have cF:i<x'.size:=(by rw [<-hx];exact(Array.getElem?_eq_some_iff.1 e1).1);exact ih i v _ e1 (Array.getElem?_eq_getElem cF) v' (g1 i v v' e1 e2)
 | tuple hx _ ih=>
   intro y Ul;rename_i x x' _;cases Ul with
   | tuple kx g1=>
     refine .tuple kx (λi v v' e1 e2=>?_);have cF:i<x'.size:=(by rw [<-hx];exact(Array.getElem?_eq_some_iff.1 e1).1);exact ih i v _ e1 (Array.getElem?_eq_getElem cF) v' (g1 i v v' e1 e2)
def Vw (n:Nat):dG->Prop
 | .cells cs _ _=>∀c∈cs,da n c
 | .map es _=>∀e∈es,da n e.1/\da n e.2
theorem az.gc {P:Program} {f:FuncId} {args:List Value} {A X:AW} {V:Value} (hX:X.next=A.next) (hV:da A.next V)
 (hO:∀i o,X.bt i=some o->i<A.next/\(A.bt i=some o\/Vw A.next o))
 (h:az P f args A λv A'=>v=V/\∀i o,X.bt i=some o->A'.bt i=some o):az P f args A λv A'=>v=V/\X=A':=by
 refine⟨h.1,λm w fL hs hl=>(h.2 m w fL hs hl).mono ?_⟩;rintro e w' ⟨v,v',m',A',rfl,ev,hv,rfl,hg⟩
 let m2:Mp:=λi=>if i<A.next then m' i else none
 have W6:∀i,m i≠none->i<A.next:=λi hi=>by
  rcases Nat.lt_or_ge i A.next with h|h;exact h;exact absurd (hs.pI i h) hi
 have h2:∀i,i<A.next->m2 i=m' i:=λi hi=>ay hi;have fo:Mp.le m m2:=λi p hi=>by
  have:=W6 i (by rw [hi];exact Option.some_ne_none _);rw [h2 i this];exact ev.ext i p hi
 have RP:∀{u x:Value},da A.next u->bu m' u x->bu m2 u x:=λhb hr=>hb m' m2 _ hr h2;have V6:∀i,m i≠none->m2 i=m' i:=λi hi=>h2 i (W6 i hi);refine⟨v,v',m2,X,rfl,⟨fo,⟨?_,?_,?_,?_,ev.C2.laid,λi o p hi yk QG=>ev.C2.xz i o p (hg i o hi) yk (by rw [<-h2 i (hO i o hi).1];exact QG),hs.tJ.mono fo⟩,by omega,ev.os,ev.tape,ev.output,ev.size,ev.rO,?_,λi hi=>(h2 i hi).trans (ev.sZ i hi),?_⟩,RP hV hv,rfl,rfl⟩
 . intro i o hi;obtain⟨p,hp,hm⟩:=ev.C2.C4 i o (hg i o hi);obtain⟨cF,zG⟩:=hO i o hi;refine⟨p,by rw [h2 i cF];exact hp,?_⟩;rcases zG with hA|hB
   . obtain⟨p0,LQ,hm0⟩:=hs.C4 i o hA;cases o with
     | cells cs own u=>
       obtain⟨ik,e1,fr,g1,g2,g3,g4,g5⟩:=hm;obtain⟨_,_,_,_,_,_,_,k5⟩:=hm0;refine⟨ik,e1,fr,g1,g2,g3,g4,λk u hu=>?_⟩;obtain⟨y,hy,hr⟩:=g5 k u hu;obtain⟨x,_,VT⟩:=k5 k u hu;exact⟨y,hy,VT.I1 V6 y hr⟩
     | map es own=>
       obtain⟨jv,aw,uN,gp,g1,g2,g3⟩:=hm;obtain⟨ents0,_,es0,kp,_,k2,k3⟩:=hm0;refine⟨jv,aw,uN,gp,g1,g2,λk x e hx he=>?_⟩;obtain⟨k0,RE⟩:=List.mem_iff_getElem?.1 ((kp.mem_iff).1 ((gp.mem_iff).2 (List.mem_of_getElem? hx)));have cF:k0<ents0.size:=(by rw [<-k2];exact(List.getElem?_eq_some_iff.1 RE).1);have q:=k3 k0 x _ RE (Array.getElem?_eq_getElem cF);have r:=g3 k x e hx he;exact⟨q.1.I1 V6 _ r.1,q.2.I1 V6 _ r.2⟩
   cases o with
   | cells cs own u=>
     obtain⟨ik,e1,fr,g1,g2,g3,g4,g5⟩:=hm;refine⟨ik,e1,fr,g1,g2,g3,g4,λk u hu=>?_⟩;obtain⟨y,hy,hr⟩:=g5 k u hu;exact⟨y,hy,RP (hB u (List.mem_of_getElem? hu)) hr⟩
   | map es own=>
     obtain⟨jv,aw,uN,gp,g1,g2,g3⟩:=hm;refine⟨jv,aw,uN,gp,g1,g2,λk x e hx he=>?_⟩;have r:=g3 k x e hx he;have b:=hB x ((gp.mem_iff).2 (List.mem_of_getElem? hx));exact⟨RP b.1 r.1,RP b.2 r.2⟩
 intro i j o o' p p' hi ho hj gl Rz SW;rw [h2 i (hO i o hi).1] at Rz;rw [h2 j (hO j o' hj).1] at SW;exact ev.C2.inj i j o o' p p' (hg i o hi) ho (hg j o' hj) gl Rz SW;intro i hi;exact ap (by omega)
 . intro i hi;cases hx:X.bt i with
   | none=>rfl
   | some o=>have:=(hO i o hx).1;omega
 rintro b ⟨i,o,p,hi,ho,hp,hb⟩;rw [h2 i (hO i o hi).1] at hp;exact ev.grow b ⟨i,o,p,hg i o hi,ho,hp,hb⟩;rintro b ⟨i,o,p,hi,hp,hb⟩;rw [h2 i (hO i o hi).1] at hp;exact ev.QW b ⟨i,o,p,hg i o hi,hp,hb⟩
theorem az.rR {P:Program} {f:FuncId} {args:List Value} {A:AW} {V:Value} (hV:da A.next V)
 (h:A.Wf->az P f args A λv A'=>v=V/\A.le A') (hc:i7 P f=true):az P f args A λv A'=>v=V/\A=A':=by
 have key:A.Wf->az P f args A λv A'=>v=V/\A=A':=λhw=>
  az.gc rfl hV (λi o hi=>⟨hw.lt hi,.inl hi⟩) ((h hw).mono λv A' ⟨h1,h2⟩=>⟨h1,λi o hi=>h2.sZ hw hi⟩)
 exact⟨hc,λm w fL hs hl=>(key hs.DE).2 m w fL hs hl⟩
end Go.Stx
namespace Go.Stx
open Go
variable [Gl]
def ep (size:Nat) (v:Value) (n:Nat) (cs:List Value):HP:=
 ⟨λh=>(v=.slice none 0 0/\n=0/\cs=[]/\h=λ_=>none) \/
  ∃b off c cD,v=.slice (some ⟨b,off,none⟩) n c/\n<=c/\off+n*size<=cD.length/\cs=(cD.drop off).take (n*size)/\
   h=λj=>if j=b then some (.cells cD true size) else none⟩
def au (k:IntKind) (v:Value) (l:List Int):HP:=ep 1 v l.length (l.map (Value.int k))
theorem ep.cases {A:AW} {size n:Nat} {v:Value} {cs:List Value} {F:HP} (h:bn A (ep size v n cs*F)) :
 (v=.slice none 0 0/\n=0/\cs=[]/\bn A F) \/
 ∃b off c cD,v=.slice (some ⟨b,off,none⟩) n c/\n<=c/\off+n*size<=cD.length/\cs=(cD.drop off).take (n*size)/\bn A (pt b (.cells cD true size)*F):=by
 obtain⟨_,⟨a,b,d,rfl,p,q⟩,hs⟩:=h;rcases p with ⟨h1,h2,h3,rfl⟩|⟨b',off,c,cD,h1,h2,h3,h4,rfl⟩;exact .inl ⟨h1,h2,h3,b,q,hs⟩;exact .inr ⟨b',off,c,cD,h1,h2,h3,h4,_,⟨_,b,d,rfl,rfl,q⟩,hs⟩
theorem ep.nil {A:AW} {size:Nat} {F:HP} (h:bn A F):bn A (ep size (.slice none 0 0) 0 []*F):=by
 obtain⟨x,p,hs⟩:=h;exact⟨x,⟨_,x,λ_=>.inl rfl,rfl,.inl ⟨rfl,rfl,rfl,rfl⟩,p⟩,hs⟩
theorem ep.mk {A:AW} {size n b off c:Nat} {cD cs:List Value} {F:HP} (hc:n<=c) (h1:off+n*size<=cD.length) (h2:cs=(cD.drop off).take (n*size))
 (h:bn A (pt b (.cells cD true size)*F)):bn A (ep size (.slice (some ⟨b,off,none⟩) n c) n cs*F):=
 h.entl λx hx=>.inr ⟨b,off,c,cD,rfl,hc,h1,h2,hx⟩
theorem ep.own {A:AW} {size n:Nat} {v:Value} {cs:List Value} {F:HP} (h:bn A (ep size v n cs*F)):ez 0 A size v n cs:=by
 rcases ep.cases h with ⟨rfl,rfl,rfl,_⟩|⟨b,off,c,cD,rfl,h1,h2,h3,h4⟩;exact .inl ⟨rfl,rfl,rfl⟩;exact .inr ⟨⟨b,off,none⟩,c,cD,rfl,h1,rfl,Nat.zero_le _,h4.bt,h2,h3⟩
theorem ep.is {A:AW} {size n:Nat} {v:Value} {cs:List Value} {F:HP} (h:bn A (ep size v n cs*F)):gZ A size v n cs:=(ep.own h).is
theorem au.is {A:AW} {k:IntKind} {v:Value} {l:List Int} {F:HP} (h:bn A (au k v l*F)):dz A k v l:=ep.is h
theorem au.nil {A:AW} {k:IntKind} {F:HP} (h:bn A F):bn A (au k (.slice none 0 0) []*F):=ep.nil h
theorem au.mk {A:AW} {k:IntKind} {b off c n:Nat} {cD:List Value} {l:List Int} {F:HP} (hn:n=l.length) (hc:l.length<=c) (h1:off+l.length<=cD.length) (h2:l.map (Value.int k)=(cD.drop off).take l.length)
 (h:bn A (pt b (.cells cD true 1)*F)):bn A (au k (.slice (some ⟨b,off,none⟩) n c) l*F):=by
 subst hn;exact ep.mk hc (by simpa using h1) (by simpa using h2) h
theorem ep.jF {A A':AW} {size n:Nat} {v:Value} {cs:List Value} {F:HP} (h:bn A F) (hw:A.Wf) (hl:A.le A') (ho:ez A.next A' size v n cs):bn A' (ep size v n cs*F):=by
 rcases ho with ⟨rfl,rfl,rfl⟩|⟨p,c,cD,rfl,h1,hs,hB,hg,h2,h3⟩;exact ep.nil (h.le hw hl);obtain⟨b,o,s⟩:=p;simp only at hs hB hg h2 h3;subst hs;refine ep.mk h1 h2 h3 (bn.cons hg (h.OQ λi o hi=>?_));have:=hw.lt hi;rw [AW.bM (by omega)];exact hl.sZ hw hi
theorem au.jF {A A':AW} {k:IntKind} {v:Value} {l:List Int} {F:HP} (h:bn A F) (hw:A.Wf) (hl:A.le A') (ho:eA A.next A' k v l):bn A' (au k v l*F):=ep.jF h hw hl ho
theorem au.at {A:AW} {k:IntKind} {v:Value} {l:List Int} {F:HP} (h:bn A (au k v l*F)) {j:Nat} (hj:j<l.length) :
 ∃b off c cD,v=.slice (some ⟨b,off,none⟩) l.length c/\l.length<=c/\A.bt b=some (.cells cD true 1)/\cD[off+j]? = some (.int k l[j])/\off+l.length<=cD.length/\
  ∀y,bn (A.set b (some (.cells (cD.set (off+j) (.int k y)) true 1))) (au k v (l.set j y)*F):=by
 rcases ep.cases h with ⟨_,h0,_⟩|⟨b,off,c,cD,rfl,h1,h2,h3,h4⟩;omega;rw [Nat.mul_one] at h2 h3;have hcell:∀q,q<l.length->cD[off+q]? = (l.map (Value.int k))[q]?:=λq hq=>by
  rw [h3,List.getElem?_take_of_lt hq,List.getElem?_drop]
 refine⟨b,off,c,cD,rfl,h1,h4.bt,by rw [hcell j hj,List.getElem?_map,List.getElem?_eq_getElem hj];rfl,h2,λy=>?_⟩;have:=ep.mk (size:=1) (n:=l.length) (off:=off) (c:=c) (cs:=(l.set j y).map (Value.int k)) h1 (by simpa using h2) ?_ (h4.set (.cells (cD.set (off+j) (.int k y)) true 1));unfold au
 simpa using this
 rw [Nat.mul_one];apply List.ext_getElem?;intro q;by_cases hq:q<l.length;rw [List.getElem?_take_of_lt hq,List.getElem?_drop,List.getElem?_map];by_cases e:j=q;subst e;rw [List.getElem?_set_self hj,List.getElem?_set_self (by omega)];rfl;rw [List.getElem?_set_ne e,List.getElem?_set_ne (by omega),hcell q hq,List.getElem?_map];rw [List.getElem?_eq_none (by simp;omega),List.getElem?_eq_none (by simp;omega)]
theorem au.append {P:Program} {A:AW} {t e:TypeId} {i:TypeInfo} {z:Value} {v:Value} {k:IntKind} {l:List Int} {F:HP} (y:Int)
 (hu:P.underlying t=some (.slice e)) (hi:P.info? e=some i) (hz:i.zero=some z) (gf:i.size=1) (nz:z.cells.size=1)
 (h:bn A (au k v l*F)) (b6:l.length<2 ^ 40) (yS:i.bytes<=8) (hw:A.Wf) :
 ∃v' A',eK P (A.alloc (.cells [.int k y] true 1)) t t v (.slice (some ⟨A.next,0,none⟩) 1 1)=some (v',A')/\bn A' (au k v' (l++[y])*F)/\A'.Wf/\A.next<=A'.next:=by
 have iN:ga (A.alloc (.cells [.int k y] true 1)) 1 (.slice (some ⟨A.next,0,none⟩) 1 1)=some (1,[.int k y]):=by
  simp [ga,AW.cD]
 have hb:(l.length+1)*i.bytes<=140737488355328:=by
  have:=Nat.mul_le_mul_left (l.length+1) yS;omega
 have ks:l.length+1<=140737488355328:=by omega
 have mS:[Value.int k y].all Value.oneCell'=true:=rfl;have hll:(l++[y]).length=l.length+1:=by simp
 rcases ep.cases h with ⟨rfl,h0,h1,h2⟩|⟨b,off,c,cD,rfl,h1,h2,h3,h4⟩;have:l=[]:=List.eq_nil_of_length_eq_zero h0;subst this;refine⟨.slice (some ⟨A.next+1,0,none⟩) (0+1) (0+1),(A.alloc (.cells [.int k y] true 1)).alloc (.cells ([]++[.int k y]) true i.size),?_,?_,(hw.alloc _).alloc _,by simp;omega⟩;simp only [eK,hu,hi,hz,gf,iN,fQ];rw [ay ⟨nz,by omega,trivial⟩,ap (by omega),ay ⟨ks,hb,mS⟩];simp;have:=(h2.sZ hw (.cells [.int k y] true 1)).alloc (hw.alloc _) (.cells ([]++[.int k y]) true i.size);rw [gf] at this ⊢;have h9:bn ((A.alloc (.cells [.int k y] true 1)).alloc (.cells ([]++[.int k y]) true 1)) (pt (A.next+1) (.cells [.int k y] true 1)*F):=this;exact ep.mk (size:=1) (n:=1) (off:=0) (c:=1) (by simp) (by simp) (by simp) h9;have hg:=h4.bt;have cF:=hw.lt hg;have Kk:(A.alloc (.cells [.int k y] true 1)).bt b=some (.cells cD true 1):=by rw [AW.fz _ _ (by omega)];exact hg
 refine⟨.slice (some ⟨A.next+1,0,none⟩) (l.length+1) (l.length+1),((A.alloc (.cells [.int k y] true 1)).set b none).alloc (.cells ((cD.drop off).take (l.length*1)++[.int k y]) true i.size),?_,?_,
  ((hw.alloc _).set none (by simp;omega)).alloc _,by simp;omega⟩
 simp only [eK,hu,hi,hz,gf,iN,fQ,Kk];rw [ay ⟨nz,by omega,trivial⟩,ap (by simp),ay ⟨trivial,h2⟩];simp only;rw [ap (by omega),ay ⟨ks,hb,mS⟩];simp;have h5:=((h4.sZ hw (.cells [.int k y] true 1)).JQ).alloc ((hw.alloc (.cells [.int k y] true 1)).set none (by simp;omega)) (.cells ((cD.drop off).take (l.length*1)++[.int k y]) true i.size);rw [gf] at h5 ⊢;unfold au;rw [hll];refine ep.mk (Nat.le_refl _) ?_ ?_ (by simpa using h5);simp at h2 ⊢;omega;rw [Nat.mul_one] at h2 h3;simp only [Nat.mul_one,List.drop_zero];rw [<-h3,List.take_of_length_le (by simp)];simp
theorem au.Gn {P:Program} {A:AW} {t e:TypeId} {i:TypeInfo} {z:Value} {v:Value} {k:IntKind} {l:List Int} {F:HP} (y:Int) (n:Nat)
 (hu:P.underlying t=some (.slice e)) (hi:P.info? e=some i) (hz:i.zero=some z) (gf:i.size=1) (nz:z.cells.size=1)
 (hn:A.bt n=some (.cells [.int k y] true 1)) (h:bn A (au k v l*F)) (b6:l.length<2 ^ 40) (yS:i.bytes<=8) (hw:A.Wf) :
 ∃v' A',eK P A t t v (.slice (some ⟨n,0,none⟩) 1 1)=some (v',A')/\bn A' (au k v' (l++[y])*F)/\A'.Wf/\A.next<=A'.next:=by
 have iN:ga A 1 (.slice (some ⟨n,0,none⟩) 1 1)=some (1,[.int k y]):=by
  simp [ga,AW.cD,hn]
 have hb:(l.length+1)*i.bytes<=140737488355328:=by
  have:=Nat.mul_le_mul_left (l.length+1) yS;omega
 have ks:l.length+1<=140737488355328:=by omega
 have mS:[Value.int k y].all Value.oneCell'=true:=rfl;have hll:(l++[y]).length=l.length+1:=by simp
 rcases ep.cases h with ⟨rfl,h0,h1,h2⟩|⟨b,off,c,cD,rfl,h1,h2,h3,h4⟩
 . have:l=[]:=List.eq_nil_of_length_eq_zero h0;subst this;refine⟨.slice (some ⟨A.next,0,none⟩) (0+1) (0+1),A.alloc (.cells ([]++[.int k y]) true i.size),?_,?_,hw.alloc _,by simp⟩
   . simp only [eK,hu,hi,hz,gf,iN,fQ];rw [ay ⟨nz,by omega,trivial⟩,ap (by omega),ay ⟨ks,hb,mS⟩]
     try simp
   have:=h2.alloc hw (.cells ([]++[.int k y]) true i.size);rw [gf] at this ⊢;have h9:bn (A.alloc (.cells [.int k y] true 1)) (pt A.next (.cells [.int k y] true 1)*F):=this;exact ep.mk (size:=1) (n:=1) (off:=0) (c:=1) (by simp) (by simp) (by simp) h9
 have hg:=h4.bt;have cF:=hw.lt hg
 refine⟨.slice (some ⟨A.next,0,none⟩) (l.length+1) (l.length+1),(A.set b none).alloc (.cells ((cD.drop off).take (l.length*1)++[.int k y]) true i.size),?_,?_,
  (hw.set none cF).alloc _,by simp⟩
 . simp only [eK,hu,hi,hz,gf,iN,fQ,hg];rw [ay ⟨nz,by omega,trivial⟩,ap (by simp),ay ⟨trivial,h2⟩];simp only;rw [ap (by omega),ay ⟨ks,hb,mS⟩]
   try simp
 have h5:=(h4.JQ).alloc (hw.set none cF) (.cells ((cD.drop off).take (l.length*1)++[.int k y]) true i.size);rw [gf] at h5 ⊢;unfold au;rw [hll];refine ep.mk (Nat.le_refl _) ?_ ?_ (by simpa using h5);simp at h2 ⊢;omega;rw [Nat.mul_one] at h2 h3;simp only [Nat.mul_one,List.drop_zero];rw [<-h3,List.take_of_length_le (by simp)];simp
theorem au.O5 {P:Program} {A:AW} {t e:TypeId} {i:TypeInfo} {k k1 k2:IntKind} {F:HP} (n:Nat)
 (hu:P.underlying t=some (.slice e)) (hi:P.info? e=some i) (hz:i.zero=some (.int k 0)) (gf:i.size=1) (yS:i.bytes<=8) (hn:n<2 ^ 40) (h:bn A F) (hw:A.Wf) :
 ∃v' A',nC P A t (.int k1 (n:Int)) (.int k2 (n:Int))=some (v',A')/\bn A' (au k v' (List.replicate n 0)*F)/\A'.Wf/\A.le A':=by
 have hb:(n:Int)*i.bytes<=140737488355328:=by
  have:=Nat.mul_le_mul_left n yS;have h2:((n*i.bytes:Nat):Int)<=((n*8:Nat):Int):=by exact_mod_cast this
  have h3:((n*i.bytes:Nat):Int)=(n:Int)*i.bytes:=by push_cast;rfl
  omega
 refine⟨.slice (some ⟨A.next,0,none⟩) n n,A.alloc (.cells (eJ [.int k 0] n) true 1),?_,?_,hw.alloc _,AW.le.alloc _ _⟩;simp only [nC,hu,hi,hz,gf];rw [ay ⟨rfl,by omega,rfl,by omega,by omega,by omega,hb⟩];simp [Value.cells];have b6:(eJ [Value.int k 0] n).length=n:=by simp [iF]
 have hcs:(List.replicate n (0:Int)).map (Value.int k)=eJ [Value.int k 0] n:=by
  clear hb hn b6
  induction n with
  | zero=>rfl
  | succ n ih=>rw [List.replicate_succ,List.map_cons,ih];rfl
 refine au.mk (by simp) (by simp) (by simp [b6]) ?_ (h.alloc hw _);rw [hcs,List.drop_zero,List.take_of_length_le (by simp [b6])]
theorem au.Sg {P:Program} {A:AW} {t u e:TypeId} {i:TypeInfo} {ku:IntKind} {v:Value} {k kq:IntKind} {l:List Int} {F:HP} (n:Nat)
 (hu:P.underlying t=some (.slice e)) (huu:P.underlying u=some (.int ku)) (hi:P.info? e=some i) (hz:i.zero=some (.int k 0)) (gf:i.size=1)
 (h:bn A (au k v l*F)) (b6:l.length+n<2 ^ 40) (yS:i.bytes<=8) (hw:A.Wf) :
 ∃v' A',mY P A t u v (.int kq (n:Int))=some (v',A')/\bn A' (au k v' (l++List.replicate n 0)*F)/\A'.Wf:=by
 have hcs:(List.replicate n (0:Int)).map (Value.int k)=eJ [Value.int k 0] n:=by
  clear b6
  induction n with
  | zero=>rfl
  | succ n ih=>rw [List.replicate_succ,List.map_cons,ih];rfl
 have hzl:(eJ [Value.int k 0] n).length=n:=by simp [iF]
 have hb:(l.length+n)*i.bytes<=140737488355328:=by
  have:=Nat.mul_le_mul_left (l.length+n) yS;omega
 rcases ep.cases h with ⟨rfl,h0,h1,h2⟩|⟨b,off,c,cD,rfl,h1,h2,h3,h4⟩;have:l=[]:=List.eq_nil_of_length_eq_zero h0;subst this;by_cases hn:n=0;subst hn;refine⟨.slice none 0 0,A,?_,by simpa using h,hw⟩;simp only [mY,hu,huu,hi,hz,gf,fQ];rw [ay ⟨rfl,by omega,rfl,by omega,by simp,by simp⟩];simp;refine⟨.slice (some ⟨A.next,0,none⟩) (0+n) (0+n),A.alloc (.cells ([]++eJ [.int k 0] n) true 1),?_,?_,hw.alloc _⟩;simp only [mY,hu,huu,hi,hz,gf,fQ,Int.toNat_natCast];rw [ay ⟨rfl,by omega,rfl,by omega,by simp at b6;omega,by simpa using hb⟩,ap hn];rfl;refine au.mk (by simp) (by simp) (by simp [hzl]) ?_ (h2.alloc hw _);rw [af,af,hcs,List.drop_zero,List.take_of_length_le (by simp [hzl])];have hg:=h4.bt;have cF:=hw.lt hg;by_cases hn:n=0;subst hn;refine⟨.slice (some ⟨b,off,none⟩) l.length c,A,?_,by simpa using h,hw⟩;simp only [mY,hu,huu,hi,hz,gf,fQ,hg];rw [ap (by simp),ay ⟨trivial,h2⟩];simp only;rw [ay ⟨rfl,by omega,rfl,by omega,by simp at b6 ⊢;omega,by simpa using hb⟩]
 simp;refine⟨.slice (some ⟨A.next,0,none⟩) (l.length+n) (l.length+n),(A.set b none).alloc (.cells ((cD.drop off).take (l.length*1)++eJ [.int k 0] n) true 1),?_,?_,(hw.set none cF).alloc _⟩;simp only [mY,hu,huu,hi,hz,gf,fQ,hg,Int.toNat_natCast];rw [ap (by simp),ay ⟨trivial,h2⟩];simp only;rw [ay ⟨rfl,by omega,rfl,by omega,by omega,hb⟩,ap hn];rfl;have h5:=h4.JQ.alloc (hw.set none cF) (.cells ((cD.drop off).take (l.length*1)++eJ [.int k 0] n) true 1);rw [Nat.mul_one] at h2 h3;refine au.mk (by simp) (by simp) ?_ ?_ (by simpa using h5);simp [hzl];omega;rw [List.drop_zero,<-h3,<-hcs,<-List.map_append,List.take_of_length_le (by simp)]
def jI (f:Nat->HP):Nat->HP
 | 0=>eP
 | n+1=>jI f n*f n
def pN (f:Nat->HP) (i:Nat) (Q:HP):Nat->HP:=λj=>if j=i then Q else f j
theorem tV {f g:Nat->HP}:∀{n:Nat},(∀i,i<n->f i=g i)->jI f n=jI g n
 | 0,_=>rfl
 | n+1,h=>by
   unfold jI;rw [tV (n:=n) (λi hi=>h i (by omega)),h n (by omega)]
theorem wI (f:Nat->HP) {i:Nat}:∀{n:Nat},i<n->jI f n=f i*jI (pN f i eP) n
 | 0,h=>by omega
 | n+1,h=>by
   unfold jI;by_cases e:i=n;subst e;rw [tV (f:=pN f i eP) (g:=f) (n:=i) (λj hj=>by simp [pN];omega)];simp only [pN,if_true,dt];exact HP.mul_comm _ _;have rQ:i<n:=(by omega);rw [wI f rQ];have:pN f i eP n=f n:=by simp [pN];omega
   rw [this,HP.b5]
theorem Nz (f:Nat->HP) {i n:Nat} (hi:i<n) (Q:HP):jI (pN f i Q) n=Q*jI (pN f i eP) n:=by
 rw [wI _ hi];congr 1;simp [pN];refine tV λj _=>?_;simp only [pN];split<;>rfl
theorem bn.pick {A:AW} {f:Nat->HP} {n i:Nat} {F:HP} (h:bn A (jI f n*F)) (hi:i<n):bn A (f i*(jI (pN f i eP) n*F)):=by
 rw [wI f hi,HP.b5] at h;exact h
theorem bn.put {A:AW} {f:Nat->HP} {n i:Nat} {Q F:HP} (h:bn A (Q*(jI (pN f i eP) n*F))) (hi:i<n):bn A (jI (pN f i Q) n*F):=by
 rw [Nz f hi,HP.b5];exact h
end Go.Stx
namespace Go.Stx
open Go
variable [Gl]
def kv (es:List (Int×Value)) (a:Int):Option Value:=(es.find? λe=>e.1 == a).map (·.2)
def pm (k:IntKind) (es:List (Int×Value)):List (Value×Value):=es.map λe=>(.int k e.1,e.2)
def fM (k:IntKind) (r:Nat) (f:Int->Option Value):HP:=pe λes:List (Int×Value)=>C5 ((es.map (·.1)).Nodup/\∀a,kv es a=f a)*pt r (.map (pm k es) true)
theorem xv {k0 k:IntKind} {a:Int}:∀(es:List (Int×Value)),(∀e∈es,¬a=e.1)->mR (.int k0) (.int k a) (pm k es)=true
 | [],_=>rfl
 | e::es,h=>by
   have he:(a == e.1)=false:=by simpa using h e (by simp)
   unfold pm mR;simp only [List.map_cons,zr,he];exact xv es λx hx=>h x (by simp [hx])
theorem nN {k0 k:IntKind} {a:Int}:∀(es:List (Int×Value)) (i:Nat),(es.map (·.1)).Nodup->∃q,gb (.int k0) (.int k a) (pm k es) i=some q/\q.map (·.2)=kv es a/\
 ∀j v,q=some (j,v)->∃j',j=i+j'/\j'<es.length/\(∀v',(es.set j' (a,v')).map (·.1)=es.map (·.1))/\∀v' b,kv (es.set j' (a,v')) b=if b=a then some v' else kv es b
 | [],i,_=>⟨none,rfl,rfl,λj v h=>by cases h⟩
 | e::es,i,hn=>by
   simp only [List.map_cons,List.nodup_cons] at hn;unfold pm gb;simp only [List.map_cons,zr];by_cases h:a=e.1;subst h;have hns:mR (.int k0) (.int k e.1) (pm k es)=true:=xv es λx hx h=>hn.1 (by rw [h];exact List.mem_map_of_mem hx);unfold pm at hns;refine⟨some (i,e.2),by simp [hns],by simp [kv],?_⟩;intro j v hj;injection hj with hj;injection hj with h1 h2;subst h1;refine⟨0,rfl,by simp,λv'=>by simp,λv' b=>?_⟩;simp only [List.set_cons_zero,kv,List.find?_cons];by_cases hb:e.1=b;subst hb;simp;have tH:(e.1 == b)=false:=by simpa using hb
   simp [tH,Ne.symm hb];have gl:(a == e.1)=false:=by simpa using h
   rw [gl];obtain⟨q,h1,h2,h3⟩:=nN (k0:=k0) (k:=k) (a:=a) es (i+1) hn.2;refine⟨q,h1,?_,?_⟩;rw [h2];have:¬e.1=a:=λx=>h x.symm;simp [kv,this];intro j v hj;obtain⟨j',g1,g2,g0,g3⟩:=h3 j v hj;refine⟨j'+1,by omega,by simpa using g2,λv'=>by simpa using g0 v',λv' b=>?_⟩;have:=g3 v' b;simp only [List.set_cons_succ,kv,List.find?_cons] at this ⊢;by_cases hb:e.1=b;subst hb;have:¬e.1=a:=λx=>h x.symm;simp [this];have tH:(e.1 == b)=false:=by simpa using hb
   rw [tH]
   simpa using this
theorem DU {es:List (Int×Value)} {a:Int} {v:Value} (h:kv es a=none) (b:Int):kv (es++[(a,v)]) b=if b=a then some v else kv es b:=by
 simp only [kv,List.find?_append,Option.map_eq_none_iff] at h ⊢;by_cases hb:b=a;subst hb;simp [h];have:¬a=b:=λx=>hb x.symm;simp [hb,this]
theorem fM.bt {A:AW} {k:IntKind} {r:Nat} {f:Int->Option Value} {F:HP} (h:bn A (fM k r f*F)) :
 ∃es,A.bt r=some (.map (pm k es) true)/\((es.map (·.1)).Nodup/\∀a,kv es a=f a)/\bn A (pt r (.map (pm k es) true)*F):=by
 unfold fM at h;rw [bn.ex] at h;obtain⟨es,h⟩:=h;rw [HP.b5,bn.pr] at h;exact⟨es,h.2.bt,h.1,h.2⟩
theorem fM.dT {A:AW} {k:IntKind} {r:Nat} {f:Int->Option Value} {F:HP} (h:bn A (fM k r f*F)) :
 ∃My,A.bt r=some (.map My true)/\(∀k0 a v,f a=some v->∃q,gb (.int k0) (.int k a) My 0=some (some (q,v)))/\(∀k0 a,f a=none->gb (.int k0) (.int k a) My 0=some none)/\
  bn A (pt r (.map My true)*F)/\∀{A':AW} {F':HP},bn A' (pt r (.map My true)*F')->bn A' (fM k r f*F'):=by
 obtain⟨es,hg,⟨hn,hf⟩,hS⟩:=fM.bt h;refine⟨_,hg,λk0 a v hv=>?_,λk0 a hv=>?_,hS,λ{A' F'} h'=>?_⟩
 . obtain⟨q,h1,h2,_⟩:=nN (k0:=k0) (k:=k) (a:=a) es 0 hn;rw [hf,hv] at h2;cases q with
   | none=>cases h2
   | some q=>obtain⟨j,u⟩:=q;injection h2 with h2;simp only at h2;subst h2;exact⟨j,h1⟩
 . obtain⟨q,h1,h2,_⟩:=nN (k0:=k0) (k:=k) (a:=a) es 0 hn;rw [hf,hv] at h2;cases q with
   | none=>exact h1
   | some q=>cases h2
 unfold fM;rw [bn.ex];refine⟨es,?_⟩;rw [HP.b5,bn.pr];exact⟨⟨hn,hf⟩,h'⟩
theorem fM.kD {A:AW} {k:IntKind} {F:HP} (h:bn A F) (hw:A.Wf):bn (A.alloc (.map [] true)) (fM k A.next (λ_=>none)*F):=by
 unfold fM;rw [bn.ex];refine⟨[],?_⟩;rw [HP.b5,bn.pr];exact⟨⟨List.nodup_nil,λa=>rfl⟩,h.alloc hw _⟩
def ls (f:Int->Option Value) (a:Int) (v:Value):Int->Option Value:=λb=>if b=a then some v else f b
theorem fM.tp {P:Program} {A:AW} {t kt e:TypeId} {k0 k:IntKind} {r:Nat} {f:Int->Option Value} {F:HP} (h:bn A (fM k r f*F)) (ht:P.underlying t=some (.map kt e)) (hk:P.underlying kt=some (.int k0)) (a:Int) (v:Value) :
 ∃A',ft P A t (.map (some r)) (.int k a) v=some A'/\bn A' (fM k r (ls f a v)*F)/\(A.Wf->A'.Wf)/\A'.next=A.next/\∀j,j≠r->A'.bt j=A.bt j:=by
 obtain⟨es,hg,⟨hn,hf⟩,hS⟩:=fM.bt h;obtain⟨q,h1,h2,h3⟩:=nN (k0:=k0) (k:=k) (a:=a) es 0 hn;have bI:∀uN:List (Int×Value),(uN.map (·.1)).Nodup->(∀b,kv uN b=ls f a v b)->bn (A.set r (some (.map (pm k uN) true))) (fM k r (ls f a v)*F):=λuN hn' he=>by
  unfold fM;rw [bn.ex];refine⟨uN,?_⟩;rw [HP.b5,bn.pr];exact⟨⟨hn',he⟩,hS.set _⟩
 cases q with
 | none=>
   refine⟨A.set r (some (.map (pm k (es++[(a,v)])) true)),?_,bI _ ?_ λb=>?_,λhw=>hw.set _ (hw.lt hg),rfl,λj hj=>AW.bM hj⟩;simp only [ft,ht,hk,hg,lb,if_true,h1];simp [pm];rw [List.map_append,List.nodup_append];refine⟨hn,by simp,λx hx y hy e=>?_⟩;simp only [List.map_cons,List.map_nil,List.mem_singleton] at hy;subst hy;subst e;have h2':kv es x=none:=(by rw [<-h2];rfl);simp only [kv,Option.map_eq_none_iff,List.find?_eq_none] at h2';obtain⟨q,hq,rfl⟩:=List.mem_map.1 hx;have:=h2' q hq;simp at this;rw [DU (by rw [<-h2];rfl)];simp only [ls,hf]
 | some q=>
   obtain⟨j,u⟩:=q;obtain⟨j',g1,g2,g0,g3⟩:=h3 j u rfl;refine⟨A.set r (some (.map (pm k (es.set j' (a,v))) true)),?_,bI _ (by rw [g0];exact hn) λb=>?_,λhw=>hw.set _ (hw.lt hg),rfl,λj hj=>AW.bM hj⟩;simp only [ft,ht,hk,hg,lb,if_true,h1];have:j=j':=by omega
   subst this;simp [pm,List.map_set];rw [g3];simp only [ls,hf]
end Go.Stx
namespace Go.Stx
open Go
variable [Gl]
theorem xW {r r':Operand->Value} {ps:Array (Nat×Operand)} (h:∀x∈(ps.toList.map (·.2)).toArray,r x=r' x):rg r ps=rg r' ps:=by
 unfold rg;refine List.map_congr_left λx hx=>?_;rw [h x.2 (by simpa using ⟨x.1,by simpa using hx⟩)]
theorem vX {r r':Operand->Value} {x:Option Operand} (h:∀y∈x.toArray,r y=r' y):x.map r=x.map r':=by
 cases x with
 | none=>rfl
 | some y=>simp [h y (by simp)]
theorem CN {r r':Operand->Value} {x:Array Operand} (h:∀y∈x,r y=r' y):x.map r=x.map r':=Array.map_congr_left h
theorem CJ {P:Program} {A:AW} {r r':Operand->Value} {op:Op} (h:∀x∈op.operands,r x=r' x):aq P A r op=aq P A r' op:=by
 cases op<;>simp only [aq,Op.operands] at h ⊢
 case move x=>rw [h x (by simp)]
 case assign x=>rw [h x (by simp)]
 case pick c x y=>rw [h c (by simp),h x (by simp),h y (by simp)]
 case build t ps=>rw [xW h]
 case load t x=>rw [h x (by simp)]
 case nilCheck x=>rw [h x (by simp)]
 case binOp op t x y u=>rw [h x (by simp),h y (by simp)]
 case unOp op t x=>rw [h x (by simp)]
 case convert s d x=>rw [h x (by simp)]
 case makeInterface t x=>rw [h x (by simp)]
 case slice t x lo hi mx=>
  have e1:r x=r' x:=h x (by simp);have e2:lo.map r=lo.map r':=vX λy hy=>h y (by simp [hy]);have e3:hi.map r=hi.map r':=vX λy hy=>h y (by simp [hy]);cases mx with
  | none=>simp only [e1,e2,e3]
  | some q=>simp only [e1,e2,e3,h q (by simp)]
 case lookup t x ix c=>rw [h x (by simp),h ix (by simp)]
 case fieldAddr s x f=>rw [h x (by simp)]
 case field t x f=>rw [h x (by simp)]
 case indexAddr t x ix=>rw [h x (by simp),h ix (by simp)]
 case index t x ix=>rw [h x (by simp),h ix (by simp)]
 case extract t i=>rw [h t (by simp)]
 case makeFunc fn fs cs=>
  rw [CN (r:=r) (r':=r') (x:=fs) λy hy=>h y (by simp [hy]),CN (r:=r) (r':=r') (x:=cs) λy hy=>h y (by simp [hy])]
 case call c=>
  have hk:∀x∈c.args.toList,r x=r' x:=λx hx=>h x (by simp only [Call.operands,Array.mem_append];exact .inr (Array.mem_toList_iff.1 hx));clear h;generalize c.args.toList=l at hk ⊢;generalize c.argTypes.toList=ts;generalize c.callee=ce;split<;>simp_all
theorem Qq {P:Program} {A:AW} {r r':Operand->Value} {op:Op} (h:∀x∈op.operands,r x=r' x):ae P A r op=ae P A r' op:=by
 cases op<;>simp only [ae,Op.operands] at h ⊢
 case box t x=>rw [h x (by simp)]
 case buildSlice t n ps=>rw [xW h]
 case store t x y=>rw [h x (by simp),h y (by simp)]
 case makeSlice t l c=>rw [h l (by simp),h c (by simp)]
 case makeMap t x=>rw [vX h]
 case mapUpdate t x k v=>rw [h x (by simp),h k (by simp),h v (by simp)]
 case insert t x k v=>rw [h x (by simp),h k (by simp),h v (by simp)]
 case call c=>
  have hk:∀x∈c.args.toList,r x=r' x:=λx hx=>h x (by simp only [Call.operands,Array.mem_append];exact .inr (Array.mem_toList_iff.1 hx));clear h;generalize c.args.toList=l at hk ⊢;generalize c.argTypes.toList=ts;generalize c.callee=ce;split<;>simp_all
theorem GN {P:Program} {A:AW} {r r':Operand->Value} {op:Op} {k:Value->AW->Prop} (h:∀x∈op.operands,r x=r' x):wL P op r A k=wL P op r' A k:=by
 cases op<;>try rfl
 case call c=>
  obtain⟨callee,args,ts⟩:=c;cases callee with
  | value x=>
    have hx:r x=r' x:=h x (by simp [Op.operands,Call.operands]);have ha:args.toList.map r=args.toList.map r':=List.map_congr_left λy hy=>h y (by simp only [Op.operands,Call.operands,Array.mem_append];exact .inr (Array.mem_toList_iff.1 hy));simp only [wL,hx,ha]
  | invoke _ _=>rfl
  | builtin _=>rfl
theorem IR {P:Program} {A:AW} {r r':Operand->Value} {op:Op} {k:Value->AW->Prop} (h:∀x∈op.operands,r x=r' x):hY P op r A k=hY P op r' A k:=by
 unfold hY;rw [CJ h,Qq h,GN h]
theorem Bu {A A':AW} (hk:∀i o,A.bt i=some o->A'.bt i=some o) {i:Nat} {cs:List Value} (h:A.cD i=some cs):A'.cD i=some cs:=by
 unfold AW.cD at *;split at h;rename_i hg;rw [hk _ _ hg];exact h;cases h
theorem KW {P:Program} {A A':AW} (hk:∀i o,A.bt i=some o->A'.bt i=some o) {t:TypeId} {p:Addr} {v:Value} (h:i9 P A t p=some v):i9 P A' t p=some v:=by
 unfold i9 at *;split at h;rename_i h1 h2;rw [Bu hk h1,h2];exact h;rename_i h1 h2;rw [Bu hk h1,h2];exact h;cases h
theorem Sf {P:Program} {A A':AW} (hk:∀i o,A.bt i=some o->A'.bt i=some o) {r:Operand->Value} {op:Op} {v:Value} (h:aq P A r op=some v):aq P A' r op=some v:=by
 cases op<;>simp only [aq] at h ⊢<;>try exact h
 case convert s d x=>
  split at h;exact h;unfold GD at h ⊢;split at h;rename_i h1 h2 h3;split at h;rename_i h4 h5;rw [h4,Bu hk h5];exact h;cases h;cases h
 case load t x=>
  split at h;rename_i p hp;exact KW hk h;cases h
 case slice t x lo hi mx=>
  cases mx with
  | some q=>exact h
  | none=>
    simp only at h ⊢;unfold wJ at *;split at h;rename_i hu _ _;split at h;rename_i e1;split at h;rename_i e2;split at h;rename_i e3;exact h;rename_i e3;split at h;rename_i q hq;have key:∀{e:TypeId} {p:Addr} {l:Nat},eo P A e p l=some q->eo P A' e p l=some q:=by
     intro e p l hq;unfold eo at hq ⊢;split at hq;rename_i hl;rw [ay hl];exact hq;rename_i hl;rw [ap hl];split at hq;rename_i g1 g2;rw [g1,hk _ _ g2];exact hq;cases hq
    rw [key hq];exact h;cases h;cases h;cases h;cases h;exact h;cases h
 case lookup t x ix c=>
  unfold xZ at h ⊢;split at h<;>try(cases h;done)
  split at h<;>try(cases h;done)
  split at h
  case' isFalse=>
   rename_i uA;simp only [uA,if_false, *];unfold xY at h ⊢;split at h<;>try(cases h;done)
   split at h<;>try(cases h;done)
   split at h<;>try(cases h;done)
   simp_all;split at h<;>try(cases h;done)
   rename_i hg;have Kk:=hk _ _ hg;simp_all
  rename_i uA;split at h<;>try(cases h;done)
  simp_all;split at h<;>try(cases h;done)
  rename_i hg;have Kk:=hk _ _ hg;simp_all
def ux:Op->Bool
 | .move _ | .assign _ | .pick _ _ _ | .build _ _ | .nilCheck _ | .binOp _ _ _ _ _ | .unOp _ _ _ | .makeInterface _ _ | .fieldAddr _ _ _ | .field _ _ _ | .indexAddr _ _ _ | .index _ _ _ | .extract _ _ | .makeFunc _ _ _=>true
 | .call c=>match c.callee with
   | .builtin .len | .builtin .min | .builtin .max=>true
   | _=>false
 | _=>false
def Q8:Op->Bool
 | .load _ _ | .slice _ _ _ _ _ | .lookup _ _ _ _ | .convert _ _ _=>true
 | op=>ux op
theorem KU {P:Program} {A A':AW} {r:Operand->Value} {op:Op} (hm:ux op=true):aq P A' r op=aq P A r op:=by
 cases op<;>first|rfl|(simp [ux] at hm;done)
end Go.Stx
namespace Go.Stx
open Go
variable [Gl]
section
variable {P:Program} {bz:Array Oper} {S:AW->Prop} {md:Nat->Nat} {K:Fr->AW->Prop} {oO:List Nat}
def ta (P:Program) (bz:Array Oper) (S:AW->Prop) (md:Nat->Nat) (i:Nat) (o:Oper) (a:Fr) (A:AW) (k:Fr->AW->Prop):Prop:=
 if lN bz a o=true then
  if md i<=1 then ∃v,aq P A (iO a) o.op=some v/\k (ew a o.dst v) A
  else hY P o.op (iO a) A λv A'=>(if md i=2 then A.le A' else (md i=3->S A'))/\k (ew a o.dst v) A'
 else k (ew a o.dst undef) A
def NL (L:Nat->Bool) (i:Nat) (o:Oper):Prop:=L i=false/\∀e∈o.after,Region.binds .any e=true->L e.on=true
def bY (L:Nat->Bool) (i:Nat):Nat->Bool:=λj=>if j=i then true else L j
def wM (P:Program) (bz:Array Oper) (S:AW->Prop) (md:Nat->Nat) (K:Fr->AW->Prop):Nat->(Nat->Bool)->Fr->AW->Prop
 | 0,L,a,A=>(∀i,i<bz.size->L i=true)/\K a A
 | n+1,L,a,A=>((∀i,i<bz.size->L i=true)->K a A)/\(A.Wf->∀i o,bz[i]? = some o->NL L i o->ta P bz S md i o a A (wM P bz S md K n (bY L i)))
theorem ta.mono {i:Nat} {o:Oper} {a:Fr} {A:AW} {k k':Fr->AW->Prop} (h:ta P bz S md i o a A k)
 (hk:∀v A',(md i<=1->A'=A)->(md i=2->A.le A')->(md i=3->lN bz a o=true->S A')->(lN bz a o=false->A'=A)->k (ew a o.dst v) A'->k' (ew a o.dst v) A'):ta P bz S md i o a A k':=by
 unfold ta at *;split;rename_i hg;rw [ay hg] at h;split;rename_i hm;rw [ay hm] at h;obtain⟨v,h1,h2⟩:=h;exact⟨v,h1,hk v A (λ_=>rfl) (λe=>by omega) (λe=>by omega) (λ_=>rfl) h2⟩;rename_i hm;rw [ap hm] at h;refine h.mono λv A' ⟨h1,h2⟩=>⟨h1,hk v A' (λe=>by omega) (λe=>?_) (λe _=>?_) (λe=>?_) h2⟩;rwa [ay e] at h1;rw [ap (by omega)] at h1;exact h1 e;rw [e] at hg;cases hg;rename_i hg;rw [ap hg] at h;have Kk:lN bz a o=false:=by simpa using hg
 exact hk undef A (λ_=>rfl) (λ_=>AW.le.refl A) (λ_ e=>by rw [e] at Kk;cases Kk) (λ_=>rfl) h
theorem ta.aop1 {i:Nat} {o:Oper} {a:Fr} {A:AW} {k:Fr->AW->Prop} (h:ta P bz S md i o a A k):NR P bz o a A k:=by
 unfold ta at h;unfold NR;split;rename_i hg;rw [ay hg] at h;split at h;obtain⟨v,h1,h2⟩:=h;simp only [hY,h1];exact h2;exact h.mono λv A' hh=>hh.2;rename_i hg;rw [ap hg] at h;exact h
theorem zM {n:Nat} {Q:Exit->Fr->AW->Prop} {a:Fr} {A:AW} {id:Nat} (hm:P.follows .mixedOrders=true) (sT:jJ bz=true) {k:Nat}
 (h:wM P bz S md (Q .normal) k (λ_=>false) a A):cB P n (.region id bz true) Q a A:=by
 refine L7 hm sT (λL a A=>∃k,wM P bz S md (Q .normal) k L a A) ⟨k,h⟩ ?_ ?_
 . rintro L a A i o hw ⟨k,hk⟩ ho hL iQ;cases k with
   | zero=>
     have:=hk.1 i (Array.getElem?_eq_some_iff.1 ho).1;rw [hL] at this;cases this
   | succ k=>
     have:=(hk.2 hw i o ho ⟨hL,iQ⟩).aop1;unfold NR at this ⊢;split;rename_i hg;rw [ay hg] at this;exact this.mono λv A' hh=>⟨k,hh⟩;rename_i hg;rw [ap hg] at this;exact⟨k,this⟩
 rintro L a A _ ⟨k,hk⟩ jW;cases k with
 | zero=>exact hk.2
 | succ k=>exact hk.1 jW
theorem R1 {a:Fr} {d:Option Tmp} {v:Value} {x:Operand} (h:∀t,d=some t->x≠.tmp t):iO (ew a d v) x=iO a x:=by
 cases d with
 | none=>rfl
 | some t=>
   cases x with
   | tmp q=>
     have:q≠t:=λe=>h t rfl (by rw [e]);simp [ew,kQ,this]
   | _=>rfl
theorem H7 {a:Fr} {d:Option Tmp} {v:Value} {o:Oper} (h:∀t,d=some t->t∉o.looksAt bz):lN bz (ew a d v) o=lN bz a o:=by
 unfold lN;cases hg:o.guard with
 | none=>rfl
 | some g=>
   obtain⟨j,w⟩:=g;simp only;cases hj:(bz[j]?).bind (·.dst) with
   | none=>rfl
   | some q=>
     simp only;have gl:∀t,d=some t->q≠t:=λt ht e=>h t ht (by simp [Oper.looksAt,hg,hj,e]);have:ew a d v q=a q:=by
      cases d with
      | none=>rfl
      | some t=>simp [ew,kQ,gl t rfl]
     rw [this]
theorem se {a:Fr} {d:Option Tmp} {v:Value} {o:Oper} (h:∀t,d=some t->t∉o.looksAt bz):∀x∈o.op.operands,iO (ew a d v) x=iO a x:=by
 intro x hx;refine R1 λt ht e=>h t ht ?_;subst e;simp only [Oper.looksAt,List.mem_append,List.mem_filterMap];exact .inl ⟨.tmp t,Array.mem_toList_iff.2 hx,rfl⟩
theorem yG {a:Fr} {d e:Option Tmp} {v u:Value} (h:∀t,d=some t->e≠some t):ew (ew a d v) e u=ew (ew a e u) d v:=by
 cases d with
 | none=>rfl
 | some t=>
   cases e with
   | none=>rfl
   | some q=>
     have:t≠q:=λx=>h t rfl (by rw [x]);funext j;simp only [ew,kQ];by_cases h1:j=q;subst h1;have:¬j=t:=λx=>this x.symm;simp [this];simp [h1]
theorem ta.Wn {j:Nat} {oi oj:Oper} {a:Fr} {A:AW} {v:Value} {k:Fr->AW->Prop} (V5:oi.apart bz oj=true) (h:ta P bz S md j oj (ew a oi.dst v) A k) :
 ta P bz S md j oj a A λa' A'=>k (ew a' oi.dst v) A':=by
 obtain⟨h1,h2,h3⟩:=Oper.apart_spec V5;unfold ta at *;rw [H7 h1] at h;split;rename_i hg;rw [ay hg] at h;split;rename_i hm;rw [ay hm,CJ (se h1)] at h;obtain⟨u,h4,h5⟩:=h;exact⟨u,h4,by show k (ew (ew a oj.dst u) oi.dst v) A;rw [<-yG h2];exact h5⟩;rename_i hm;rw [ap hm,IR (se h1)] at h;refine h.mono λu A' ⟨h4,h5⟩=>⟨h4,by show k (ew (ew a oj.dst u) oi.dst v) A';rw [<-yG h2];exact h5⟩;rename_i hg;rw [ap hg] at h;rw [<-yG h2];exact h
def mz (bz:Array Oper) (L:Nat->Bool):Prop:=∀k o,bz[k]? = some o->L k=true->∀e∈o.after,Region.binds .any e=true->L e.on=true
def Sk (oO:List Nat) (m:Nat) (e:Edge):Nat:=if Region.binds .any e=true then (m ||| oO.getD e.on 0) ||| 2 ^ e.on else m
def Vp:List Oper->List Nat->List Nat
 | [],Ap=>Ap
 | o::r,Ap=>Vp r (Ap++[o.after.toList.foldl (Sk Ap) 0])
def zS (bz:Array Oper) (oO:List Nat):Bool:=(List.range bz.size).all λi=>match bz[i]? with|some o=>oO.getD i 0 == o.after.toList.foldl (Sk oO) 0|none=>false
theorem IF {oO:List Nat} {q:Nat}:∀(l:List Edge) (m:Nat),(l.foldl (Sk oO) m).testBit q=true->m.testBit q=true\/∃e∈l,Region.binds .any e=true/\((oO.getD e.on 0).testBit q=true\/e.on=q)
 | [],m,h=>.inl h
 | e::l,m,h=>by
   rw [List.foldl_cons] at h;rcases IF l _ h with h1|⟨e',h1,h2⟩;unfold Sk at h1;split at h1;rename_i hb;rw [Nat.testBit_or,Nat.testBit_or,Bool.or_eq_true,Bool.or_eq_true] at h1;rcases h1 with (h1|h1)|h1;exact .inl h1;exact .inr ⟨e,by simp,hb,.inl h1⟩;rw [Nat.testBit_two_pow] at h1;exact .inr ⟨e,by simp,hb,.inr (by simpa using h1)⟩;exact .inl h1;exact .inr ⟨e',by simp [h1],h2⟩
theorem IE (ha:zS bz oO=true) {i q:Nat} {o:Oper} (ho:bz[i]? = some o) (h:(oO.getD i 0).testBit q=true) :
 ∃e∈o.after,Region.binds .any e=true/\((oO.getD e.on 0).testBit q=true\/e.on=q):=by
 have:=List.all_eq_true.1 ha i (List.mem_range.2 (Array.getElem?_eq_some_iff.1 ho).1);rw [ho] at this;simp only [beq_iff_eq] at this;rw [this] at h;rcases IF _ _ h with h1|⟨e,h1,h2⟩;simp at h1;exact⟨e,Array.mem_toList_iff.1 h1,h2⟩
theorem Cw (sT:jJ bz=true) (ha:zS bz oO=true) {L:Nat->Bool} (hc:mz bz L) {q:Nat}:∀n k o,k<n->bz[k]? = some o->L k=true->(oO.getD k 0).testBit q=true->L q=true
 | 0,k,o,h,_,_,_=>by omega
 | n+1,k,o,hk,ho,hL,hb=>by
   obtain⟨e,he,PM,h1⟩:=IE ha ho hb;have hLe:=hc k o ho hL e he PM;rcases h1 with h1|h1;have cF:=kW sT ho he PM;have hks:=(Array.getElem?_eq_some_iff.1 ho).1;exact Cw sT ha hc n e.on bz[e.on] (by omega) (Array.getElem?_eq_getElem (by omega)) hLe h1;rw [<-h1];exact hLe
theorem Eo (sT:jJ bz=true) (ha:zS bz oO=true) {L:Nat->Bool} (hc:mz bz L) {j q:Nat} {o:Oper} (ho:bz[j]? = some o) (hr:NL L j o) (hb:(oO.getD j 0).testBit q=true):L q=true:=by
 obtain⟨e,he,PM,h1⟩:=IE ha ho hb;have hLe:=hr.2 e he PM;rcases h1 with h1|h1;have cF:=kW sT ho he PM;have hks:=(Array.getElem?_eq_some_iff.1 ho).1;exact Cw sT ha hc _ e.on bz[e.on] (Nat.lt_succ_self _) (Array.getElem?_eq_getElem (by omega)) hLe h1;rw [<-h1];exact hLe
theorem mz.set {L:Nat->Bool} (hc:mz bz L) {i:Nat} {o:Oper} (ho:bz[i]? = some o) (hr:NL L i o):mz bz (bY L i):=by
 intro k o' RC hk e he hb;unfold bY at hk ⊢;split;rfl;split at hk;rename_i e';subst e';rw [ho] at RC;injection RC with RC;subst RC;exact hr.2 e he hb;exact hc k o' RC hk e he hb
theorem NL.mono {L:Nat->Bool} {i j:Nat} {o:Oper} (h:NL L i o) (gl:i≠j):NL (bY L j) i o:=by
 refine⟨by simp [bY,gl,h.1],λe he hb=>?_⟩;unfold bY;split;rfl;exact h.2 e he hb
theorem Mx (L:Nat->Bool) (i j:Nat):bY (bY L i) j=bY (bY L j) i:=by
 funext k;simp only [bY];split<;>split<;>rfl
theorem CY (sT:jJ bz=true) (ha:zS bz oO=true) {i:Nat} {o:Oper} {v:Value} (hi:bz[i]? = some o) (hmd:md i<=1):∀(n:Nat) (L:Nat->Bool) (a:Fr) (A:AW),mz bz L->
 (∀j oj,bz[j]? = some oj->j≠i->L j=false->(∀e∈oj.after,Region.binds .any e=true->e.on≠i)->o.apart bz oj=true)->
 (ux o.op=true\/(∀j oj,bz[j]? = some oj->j≠i->3<=md j->L j=false->(oO.getD j 0).testBit i=true)\/((∀j oj,bz[j]? = some oj->j≠i->4<=md j->L j=false->(oO.getD j 0).testBit i=true)/\∀A',S A'->lN bz a o=true->aq P A' (iO a) o.op=some v))->
 NL L i o->((lN bz a o=true/\aq P A (iO a) o.op=some v)\/(lN bz a o=false/\v=undef))->
 wM P bz S md K n (bY L i) (ew a o.dst v) A->wM P bz S md K (n+1) L a A:=by
 intro n
 induction n with
 | zero=>
   intro L a A hc Ca cL hr hy H;refine⟨λjW=>?_,λhw j oj hj GQ=>?_⟩;have:=jW i (Array.getElem?_eq_some_iff.1 hi).1;rw [hr.1] at this;cases this;by_cases lL:j=i;subst lL;rw [hi] at hj;injection hj with hj;subst hj;unfold ta;rcases hy with ⟨h1,h2⟩|⟨h1,rfl⟩;rw [ay h1,ay hmd];exact⟨v,h2,H⟩;rw [ap (by simp [h1])];exact H;have:=H.1 j (Array.getElem?_eq_some_iff.1 hj).1;simp [bY,lL,GQ.1] at this
 | succ n ih=>
   intro L a A hc Ca cL hr hy H;refine⟨λjW=>?_,λhw j oj hj GQ=>?_⟩;have:=jW i (Array.getElem?_eq_some_iff.1 hi).1;rw [hr.1] at this;cases this;by_cases lL:j=i;subst lL;rw [hi] at hj;injection hj with hj;subst hj;unfold ta;rcases hy with ⟨h1,h2⟩|⟨h1,rfl⟩;rw [ay h1,ay hmd];exact⟨v,h2,H⟩;rw [ap (by simp [h1])];exact H;have hnot:∀e∈oj.after,Region.binds .any e=true->e.on≠i:=λe he hb heq=>by
    have:=GQ.2 e he hb;rw [heq,hr.1] at this;cases this
   have V5:=Ca j oj hj lL GQ.1 hnot;obtain⟨g1,g2,g3⟩:=Oper.apart_spec V5;have h1:=H.2 hw j oj hj (GQ.mono lL);refine(ta.Wn V5 h1).mono λu A' m1 m2 m3 m4 hk=>?_;have C8:lN bz (ew a oj.dst u) o=lN bz a o:=H7 g3;have kJ:∀A0,aq P A0 (iO (ew a oj.dst u)) o.op=aq P A0 (iO a) o.op:=λA0=>CJ (se g3);have iR:=hc.set hj GQ;refine ih (bY L j) (ew a oj.dst u) A' iR ?_ ?_ (hr.mono (Ne.symm lL)) ?_ (by rw [Mx];exact hk);intro q oq hq Rx LW AD;refine Ca q oq hq Rx ?_ AD;unfold bY at LW;split at LW;cases LW;exact LW;rcases cL with h|h|h;exact .inl h;refine .inr (.inl λq oq hq Rx h3 LW=>h q oq hq Rx h3 ?_);unfold bY at LW;split at LW;cases LW;exact LW;refine .inr (.inr ⟨λq oq hq Rx h3 LW=>h.1 q oq hq Rx h3 ?_,λA'' hS hg=>by rw [kJ];exact h.2 A'' hS (by rw [<-C8];exact hg)⟩);unfold bY at LW;split at LW;cases LW;exact LW;rw [C8,kJ];rcases hy with ⟨h2,h3⟩|h2
   . refine .inl ⟨h2,?_⟩;rcases Nat.lt_or_ge (md j) 2 with LT|LT;rw [m1 (by omega)];exact h3;rcases Nat.lt_or_ge (md j) 3 with GS|GS;have fo:=m2 (by omega);exact Sf (λi o hi=>fo.sZ hw hi) h3;rcases cL with h|h|h;rw [KU h];exact h3;exfalso;have:=Eo sT ha hc hj GQ (h j oj hj lL GS GQ.1);rw [hr.1] at this;cases this;cases hgj:lN bz a oj with
     | true=>
       rcases Nat.lt_or_ge (md j) 4 with RF|RF;exact h.2 A' (m3 (by omega) hgj) h2;exfalso;have:=Eo sT ha hc hj GQ (h.1 j oj hj lL RF GQ.1);rw [hr.1] at this;cases this
     | false=>rw [m4 hgj];exact h3
   exact .inr h2
structure zg where
 dst:Option Tmp
 op:Op
 guard:Option (Option Tmp×Bool)
 Rj:Nat
def lop (bz:Array Oper) (x:Nat×Nat):Option zg:=(bz[x.1]?).map λo=>⟨o.dst,o.op,mN bz o.guard,x.2⟩
def bZ (bz:Array Oper) (oU:List (Nat×Nat)):List zg:=oU.filterMap (lop bz)
def NQ (P:Program) (A:AW) (r:Operand->Value) (op:Op) (k:Value->Prop):Prop:=
 match aq P A r op with
 | some v=>k v
 | none=>False
def aW (P:Program) (S:AW->Prop) (K:Fr->AW->Prop):List zg->Fr->AW->Prop
 | [],a,A=>K a A
 | o::gI,a,A=>
   if sg a o.guard=true then
    match o.Rj with
    | 0=>NQ P A (iO a) o.op λv=>aW P S K gI (ew a o.dst v) A
    | 1=>NQ P A (iO a) o.op λv=>(∀A',S A'->aq P A' (iO a) o.op=some v)/\aW P S K gI (ew a o.dst v) A
    | 2=>hY P o.op (iO a) A λv A'=>A.le A'/\aW P S K gI (ew a o.dst v) A'
    | 3=>hY P o.op (iO a) A λv A'=>S A'/\aW P S K gI (ew a o.dst v) A'
    | _=>hY P o.op (iO a) A λv A'=>aW P S K gI (ew a o.dst v) A'
   else aW P S K gI (ew a o.dst undef) A
def FR (oU:List (Nat×Nat)) (j:Nat):Nat:=((oU.find? λx=>x.1 == j).map (·.2)).getD 3
def vT (M:Nat) (i:Nat) (o:Oper):Bool:=!M.testBit i && o.after.all λe=>!Region.binds .any e || M.testBit e.on
def Tf (bz:Array Oper) (M:Nat) (i:Nat) (o:Oper):Bool:=(List.range bz.size).all λj=>j == i || M.testBit j || match bz[j]? with
 | some oj=>oj.after.any (λe=>Region.binds .any e && e.on == i) || o.apart bz oj
 | none=>true
def RZ (bz:Array Oper) (oO:List Nat) (oU:List (Nat×Nat)) (M i:Nat):Bool:=(List.range bz.size).all λj=>j == i || M.testBit j || !(Nat.ble 3 (FR oU j)) || (oO.getD j 0).testBit i
def PW (bz:Array Oper) (oO:List Nat) (oU:List (Nat×Nat)) (M i:Nat):Bool:=(List.range bz.size).all λj=>j == i || M.testBit j || !(Nat.ble 4 (FR oU j)) || (oO.getD j 0).testBit i
def Wq (bz:Array Oper) (M i:Nat):Bool:=(List.range bz.size).all λj=>j == i || match bz[j]? with
 | some oj=>!vT M j oj
 | none=>true
def LJ (bz:Array Oper) (oO:List Nat) (oU:List (Nat×Nat)):Nat->List (Nat×Nat)->Bool
 | M,[]=>(List.range bz.size).all λj=>M.testBit j
 | M,(i,m)::r=>(match bz[i]? with
  | none=>false
  | some o=>vT M i o && Nat.beq (FR oU i) m && (if Nat.ble m 1 then Tf bz M i o && ((Nat.beq m 1 && PW bz oO oU M i) || ux o.op || RZ bz oO oU M i) else Wq bz M i)) && LJ bz oO oU (M ||| 2 ^ i) r
def MN (bz:Array Oper) (oU:List (Nat×Nat)):Bool:=jJ bz && (let oO:=Vp bz.toList [];zS bz oO && (LJ bz oO oU 0 oU && oU.all λx=>match bz[x.1]? with|some o=>Nat.ble x.2 1 == Q8 o.op|none=>false))
theorem k8 {M i:Nat} {o:Oper} {L:Nat->Bool} (hi:i<bz.size) (sT:jJ bz=true) (ho:bz[i]? = some o) (hL:∀j,j<bz.size->L j=M.testBit j):vT M i o=true↔NL L i o:=by
 unfold vT NL;rw [Bool.and_eq_true,Bool.not_eq_true',<-hL i hi,Array.all_eq_true_iff_forall_mem];refine and_congr Iff.rfl (forall_congr' λe=>forall_congr' λhe=>?_);simp only [Bool.or_eq_true,Bool.not_eq_true'];constructor;rintro (h|h) hb;rw [h] at hb;cases hb;have cF:=kW sT ho he hb;rw [hL e.on (by omega)];exact h;intro h;cases hb:Region.binds .any e;exact .inl rfl;have cF:=kW sT ho he hb;rw [<-hL e.on (by omega)];exact .inr (h hb)
theorem yd (sT:jJ bz=true) (ha:zS bz oO=true) {oU:List (Nat×Nat)}:∀(l:List (Nat×Nat)) (M:Nat) (L:Nat->Bool) (a:Fr) (A:AW),(∀j,j<bz.size->L j=M.testBit j)->mz bz L->
 LJ bz oO oU M l=true->aW P S K (bZ bz l) a A->wM P bz S (FR oU) K l.length L a A
 | [],M,L,a,A,hL,hc,hg,h=>⟨λj hj=>by rw [hL j hj];exact List.all_eq_true.1 hg j (List.mem_range.2 hj),h⟩
 | (i,m)::r,M,L,a,A,hL,hc,hg,h=>by
   unfold LJ at hg;rw [Bool.and_eq_true] at hg;obtain⟨yO,Kj⟩:=hg;cases hi:bz[i]? with
   | none=>rw [hi] at yO;cases yO
   | some o=>
     rw [hi] at yO;simp only [Bool.and_eq_true] at yO;obtain⟨⟨hr,hmd⟩,yP⟩:=yO;have C7:=(Array.getElem?_eq_some_iff.1 hi).1;have hmd':FR oU i=m:=Nat.eq_of_beq_eq_true hmd;have SU:NL L i o:=(k8 C7 sT hi hL).1 hr;have hL':∀j,j<bz.size->bY L i j=(M ||| 2 ^ i).testBit j:=λj hj=>by
      rw [Nat.testBit_or,Nat.testBit_two_pow,<-hL j hj];unfold bY;by_cases e:j=i;subst e;simp;have:¬i=j:=λx=>e x.symm;simp [e,this]
     have UV:=hc.set hi SU;have IH:∀a A,aW P S K (bZ bz r) a A->wM P bz S (FR oU) K r.length (bY L i) a A:=λa A h=>yd sT ha r (M ||| 2 ^ i) _ a A hL' UV Kj h;have hlop:bZ bz ((i,m)::r)=⟨o.dst,o.op,mN bz o.guard,m⟩::bZ bz r:=(by simp [bZ,lop,hi]);rw [hlop] at h;unfold aW at h;simp only [<-Lm] at h;have WR:¬m<=1->∀j oj,bz[j]? = some oj->NL L j oj->j=i:=λF0 j oj hj GQ=>by
      rw [ap (by simpa [Nat.ble_eq] using F0)] at yP;have h1:=List.all_eq_true.1 yP j (List.mem_range.2 (Array.getElem?_eq_some_iff.1 hj).1);rw [hj] at h1;simp only [Bool.or_eq_true,beq_iff_eq,Bool.not_eq_true'] at h1;rcases h1 with h1|h1;exact h1;rw [(k8 (Array.getElem?_eq_some_iff.1 hj).1 sT hj hL).2 GQ] at h1;cases h1
     have W3:¬∀j,j<bz.size->L j=true:=λjW=>by
      have:=jW i C7;rw [SU.1] at this;cases this
     by_cases F0:m<=1;rw [ay (by simpa [Nat.ble_eq] using F0)] at yP;simp only [Bool.and_eq_true] at yP;obtain⟨s7,cL⟩:=yP;have Ca:∀j oj,bz[j]? = some oj->j≠i->L j=false->(∀e∈oj.after,Region.binds .any e=true->e.on≠i)->o.apart bz oj=true:=λj oj hj lL PP AD=>by
      have wP:=(Array.getElem?_eq_some_iff.1 hj).1;have h1:=List.all_eq_true.1 s7 j (List.mem_range.2 wP);rw [hj,<-hL j wP,PP] at h1;simp only [Bool.or_eq_true,beq_iff_eq,Bool.false_eq_true,or_false] at h1;rcases h1 with h1|h1|h1;exact absurd h1 lL;exfalso;rw [Array.any_eq_true] at h1;obtain⟨q,hq,h2⟩:=h1;simp only [Bool.and_eq_true,beq_iff_eq] at h2;exact AD _ (Array.getElem_mem hq) h2.1 h2.2;exact h1
     have bI:∀v,((lN bz a o=true/\aq P A (iO a) o.op=some v)\/(lN bz a o=false/\v=undef))->(m=1->lN bz a o=true->∀A',S A'->aq P A' (iO a) o.op=some v)->
      aW P S K (bZ bz r) (ew a o.dst v) A->wM P bz S (FR oU) K (r.length+1) L a A:=by
      intro v hy hS hk;refine CY sT ha hi (by omega) r.length L a A hc Ca ?_ SU hy (IH _ _ hk);simp only [Bool.or_eq_true] at cL;rcases cL with (h1|h1)|h1;rw [Bool.and_eq_true] at h1;refine .inr (.inr ⟨λj oj hj lL h3 PP=>?_,λA' xL C8=>hS (Nat.eq_of_beq_eq_true h1.1) C8 A' xL⟩);have wP:=(Array.getElem?_eq_some_iff.1 hj).1;have h2:=List.all_eq_true.1 h1.2 j (List.mem_range.2 wP);rw [<-hL j wP,PP] at h2;have uD:Nat.ble 4 (FR oU j)=true:=Nat.ble_eq_true_of_le h3;rw [uD] at h2
      simpa [lL] using h2
      exact .inl h1;refine .inr (.inl λj oj hj lL h3 PP=>?_);have wP:=(Array.getElem?_eq_some_iff.1 hj).1;have h2:=List.all_eq_true.1 h1 j (List.mem_range.2 wP);rw [<-hL j wP,PP] at h2;have uD:Nat.ble 3 (FR oU j)=true:=Nat.ble_eq_true_of_le h3;rw [uD] at h2
      simpa [lL] using h2
     split at h;rename_i C8;have:m=0\/m=1:=by omega
     rcases this with rfl|rfl;simp only [NQ] at h;split at h;rename_i v hv;exact bI v (.inl ⟨C8,hv⟩) (λe=>by omega) h;exact h.elim;simp only [NQ] at h;split at h;rename_i v hv;exact bI v (.inl ⟨C8,hv⟩) (λ_ _=>h.1) h.2;exact h.elim;rename_i C8;have PE:lN bz a o=false:=by simpa using C8
     exact bI undef (.inr ⟨PE,rfl⟩) (λ_ e=>by rw [PE] at e;cases e) h;refine⟨λjW=>absurd jW W3,λhw j oj hj GQ=>?_⟩;have lL:=WR F0 j oj hj GQ;subst lL;rw [hi] at hj;injection hj with hj;subst hj;unfold ta;split at h
     . rename_i C8;rw [ay C8,ap (by omega),hmd'];by_cases h2:m=2;subst h2;exact h.mono λv A' hh=>⟨by rw [ay rfl];exact hh.1,IH _ _ hh.2⟩;have:∃q,m=q+3:=⟨m-3,by omega⟩;obtain⟨q,rfl⟩:=this;cases q with
       | zero=>exact h.mono λv A' hh=>⟨by rw [ap h2];exact λ_=>hh.1,IH _ _ hh.2⟩
       | succ q=>exact h.mono λv A' hh=>⟨by rw [ap h2];exact λe=>by omega,IH _ _ hh⟩
     rename_i C8;rw [ap C8];exact IH _ _ h
end
theorem Qf {P:Program} {n:Nat} {Q:Exit->Fr->AW->Prop} {a:Fr} {A:AW} {id:Nat} {bz:Array Oper} (S:AW->Prop) (oU:List (Nat×Nat)) (hm:P.follows .mixedOrders=true) (hB:MN bz oU=true)
 (h:∀K:Fr->AW->Prop,(∀a A,Q .normal a A->K a A)->aW P S K (bZ bz oU) a A):cB P n (.region id bz true) Q a A:=by
 simp only [MN,Bool.and_eq_true] at hB;exact zM hm hB.1 (yd hB.1 hB.2.1 oU 0 _ a A (λj _=>by simp) (λk o _ hk=>by cases hk) hB.2.2.1 (h _ λ_ _ h=>h))
theorem JH {P:Program} {S:AW->Prop} {K:Fr->AW->Prop} {o:zg} {gI:List zg} {a:Fr} {A:AW}
 (h:∀R:Fr->AW->Prop,(∀a A,aW P S K gI a A->R a A)->
  if sg a o.guard=true then
   match o.Rj with
   | 0=>NQ P A (iO a) o.op λv=>R (ew a o.dst v) A
   | 1=>NQ P A (iO a) o.op λv=>(∀A',S A'->aq P A' (iO a) o.op=some v)/\R (ew a o.dst v) A
   | 2=>hY P o.op (iO a) A λv A'=>A.le A'/\R (ew a o.dst v) A'
   | 3=>hY P o.op (iO a) A λv A'=>S A'/\R (ew a o.dst v) A'
   | _=>hY P o.op (iO a) A λv A'=>R (ew a o.dst v) A'
  else R (ew a o.dst undef) A):aW P S K (o::gI) a A:=h _ λ_ _ h=>h
attribute [simp] NQ
end Go.Stx
namespace Go.Stx
open Go
variable [Gl]
def bU (val:Nat->Value) (i:Nat) (v:Value):Nat->Value:=λj=>if j=i then v else val j
def LI (bz:Array Oper):Bool:=jJ bz && (List.range bz.size).all λi=>match bz[i]? with
 | some o=>o.guard.isNone && (List.range bz.size).all λj=>j == i || match bz[j]?,o.dst with
   | some oj,some d=>!(oj.dst == some d)
   | _,_=>true
 | none=>false
theorem BR {bz:Array Oper} (h:LI bz=true):jJ bz=true/\(∀(i:Nat) (o:Oper),bz[i]? = some o->o.guard=none)/\
 ∀(i j:Nat) (o oj:Oper) (d:Tmp),bz[i]? = some o->bz[j]? = some oj->i≠j->o.dst=some d->oj.dst≠some d:=by
 simp only [LI,Bool.and_eq_true] at h;refine⟨h.1,λi o ho=>?_,λi j o oj d ho hoj gl hd hdj=>?_⟩;have:=List.all_eq_true.1 h.2 i (List.mem_range.2 (Array.getElem?_eq_some_iff.1 ho).1);rw [ho] at this;simp only [Bool.and_eq_true] at this
 simpa using this.1
 have:=List.all_eq_true.1 h.2 i (List.mem_range.2 (Array.getElem?_eq_some_iff.1 ho).1);rw [ho] at this;simp only [Bool.and_eq_true] at this;have h2:=List.all_eq_true.1 this.2 j (List.mem_range.2 (Array.getElem?_eq_some_iff.1 hoj).1);rw [hoj,hd] at h2;simp only [Bool.or_eq_true,beq_iff_eq,Bool.not_eq_true'] at h2;rcases h2 with h2|h2;exact gl h2.symm;rw [hdj] at h2;simp at h2
theorem R9 {P:Program} {n:Nat} {Q:Exit->Fr->AW->Prop} {a0:Fr} {A0:AW} {id:Nat} {bz:Array Oper} (hm:P.follows .mixedOrders=true) (hB:LI bz=true)
 (G:(Nat->Bool)->(Nat->Value)->HP) (φ:Nat->(Nat->Value)->Prop)
 (hG:∀(S:Nat->Bool) (i:Nat) (val:Nat->Value) (v:Value),mz bz S->S i=false->G S (bU val i v)=G S val)
 (hφ:∀(S:Nat->Bool) (i j:Nat) (val:Nat->Value) (v:Value),mz bz S->S i=false->S j=true->φ j val->φ j (bU val i v))
 (h0:∀val,bn A0 (G (λ_=>false) val))
 (xF:∀(i:Nat) (o:Oper),bz[i]? = some o->∀(S:Nat->Bool) (val:Nat->Value) (a:Fr) (A:AW),S i=false->(∀e∈o.after,Region.binds .any e=true->S e.on=true)->mz bz S->(∀j,S j=true->φ j val)->A.Wf->bn A (G S val)->
  (∀(j:Nat) (oj:Oper) (d:Tmp),bz[j]? = some oj->oj.dst=some d->S j=true->a d=val j)->(∀d:Tmp,(bz.toList.all λo=>!(o.dst == some d))=true->a d=a0 d)->
  hY P o.op (iO a) A λv A'=>φ i (bU val i v)/\bn A' (G (bY S i) (bU val i v)))
 (pf:∀(S:Nat->Bool) (val:Nat->Value) (a:Fr) (A:AW),(∀i,i<bz.size->S i=true)->(∀j,S j=true->φ j val)->A.Wf->bn A (G S val)->
  (∀(j:Nat) (oj:Oper) (d:Tmp),bz[j]? = some oj->oj.dst=some d->S j=true->a d=val j)->(∀d:Tmp,(bz.toList.all λo=>!(o.dst == some d))=true->a d=a0 d)->Q .normal a A) :
 cB P n (.region id bz true) Q a0 A0:=by
 obtain⟨sT,hgd,hds⟩:=BR hB;intro lq m w ca hs hf;have MW:A0.Wf:=hs.DE
 refine L7 hm sT (λS a A=>(A.Wf->mz bz S/\∃val,(∀j,S j=true->φ j val)/\bn A (G S val)/\(∀(j:Nat) (oj:Oper) (d:Tmp),bz[j]? = some oj->oj.dst=some d->S j=true->a d=val j)/\
  (∀d:Tmp,(bz.toList.all λo=>!(o.dst == some d))=true->a d=a0 d)/\((∀i,i<bz.size->S i=true)->Q .normal a A))) ?_ ?_ ?_ lq m w ca hs hf
 intro hw;refine⟨?_,λ_=>undef,?_,h0 _,?_,?_,λjW=>?_⟩;intro k o _ h;cases h;intro j h;cases h;intro j oj d _ _ h;cases h;intro d _;rfl;refine pf (λ_=>false) (λ_=>undef) a0 A0 jW ?_ MW (h0 _) ?_ ?_;intro j h;cases h;intro j oj d _ _ h;cases h;intro d _;rfl;intro S a A i o hw hJ ho pH iQ;obtain⟨iR,val,h1,h2,h3,h4,_⟩:=hJ hw;have hcl':=iR.set ho ⟨pH,iQ⟩;have cL:=xF i o ho S val a A pH iQ iR h1 hw h2 h3 h4;unfold NR;have hg:lN bz a o=true:=by simp [lN,hgd i o ho]
 rw [ay hg];refine cL.mono λv A' ⟨h5,h6⟩ lp=>?_;have hp:∀j,bY S i j=true->φ j (bU val i v):=λj hj=>by
  by_cases e:j=i;subst e;exact h5;have:S j=true:=by simpa [bY,e] using hj
  exact hφ S i j val v iR pH this (h1 j this)
 have s7:∀j oj d,bz[j]? = some oj->oj.dst=some d->bY S i j=true->ew a o.dst v d=bU val i v j:=λj oj d hj hd hSj=>by
  by_cases e:j=i;subst e;rw [ho] at hj;injection hj with hj;subst hj;rw [hd];simp [ew,kQ,bU];have hSj':S j=true:=by simpa [bY,e] using hSj
  have gl:o.dst≠some d:=λx=>hds i j o oj d ho hj (Ne.symm e) x hd;have:ew a o.dst v d=a d:=by
   cases hod:o.dst with
   | none=>rfl
   | some q=>
     have:d≠q:=λx=>gl (by rw [hod,x]);simp [ew,kQ,this]
  rw [this,h3 j oj d hj hd hSj'];simp [bU,e]
 have M1:∀d:Tmp,(bz.toList.all λo=>!(o.dst == some d))=true->ew a o.dst v d=a0 d:=λd hd=>by
  have gl:o.dst≠some d:=λx=>by
   have:=List.all_eq_true.1 hd o (Array.mem_toList_iff.2 (Array.mem_of_getElem? ho));rw [x] at this;simp at this
  have:ew a o.dst v d=a d:=by
   cases hod:o.dst with
   | none=>rfl
   | some q=>
     have:d≠q:=λx=>gl (by rw [hod,x]);simp [ew,kQ,this]
  rw [this];exact h4 d hd
 exact⟨hcl',bU val i v,hp,h6,s7,M1,λjW=>pf _ _ _ _ jW hp lp h6 s7 M1⟩;intro S a A hw hJ jW;obtain⟨_,val,_,_,_,_,h⟩:=hJ hw;exact h jW
def vm (bz:Array Oper) (k j:Nat):Bool:=match bz[k]? with
 | some o=>o.after.toList.any λe=>Region.binds .any e && e.on == j
 | none=>false
def Vd (bz:Array Oper) (j d:Nat):Bool:=match bz[j]? with
 | some o=>o.dst == some d
 | none=>false
def TF (bz:Array Oper) (d:Nat):Bool:=bz.toList.all λo=>!(o.dst == some d)
def kC (bz:Array Oper) (i:Nat):Op:=match bz[i]? with
 | some o=>o.op
 | none=>.alloc 0
structure Tt (bz:Array Oper) (φ:Nat->(Nat->Value)->Prop) (a0:Fr) (S:Nat->Bool) (val:Nat->Value) (a:Fr):Prop where
 KI:∀k j,vm bz k j=true->S k=true->S j=true
 pg:∀j,S j=true->φ j val
 kr:∀j d,Vd bz j d=true->S j=true->a d=val j
 eL:∀d,TF bz d=true->a d=a0 d
theorem F9 {bz:Array Oper} {S:Nat->Bool} (hc:mz bz S) (k j:Nat) (h:vm bz k j=true) (hk:S k=true):S j=true:=by
 unfold vm at h;split at h;rename_i o ho;obtain⟨e,he,h2⟩:=List.any_eq_true.1 h;simp only [Bool.and_eq_true,beq_iff_eq] at h2;rw [<-h2.2];exact hc k o ho hk e (Array.mem_toList_iff.1 he) h2.1;cases h
theorem Qe {P:Program} {n:Nat} {Q:Exit->Fr->AW->Prop} {a0:Fr} {A0:AW} {id:Nat} {bz:Array Oper} (hm:P.follows .mixedOrders=true) (hB:LI bz=true)
 (G:(Nat->Bool)->(Nat->Value)->HP) (φ:Nat->(Nat->Value)->Prop)
 (hG:∀(S:Nat->Bool) (i:Nat) (val:Nat->Value) (v:Value),(∀k j,vm bz k j=true->S k=true->S j=true)->S i=false->G S (bU val i v)=G S val)
 (hφ:∀(S:Nat->Bool) (i j:Nat) (val:Nat->Value) (v:Value),(∀k j,vm bz k j=true->S k=true->S j=true)->S i=false->S j=true->φ j val->φ j (bU val i v))
 (h0:∀val,bn A0 (G (λ_=>false) val))
 (xF:∀(i:Nat),i<bz.size->∀(S:Nat->Bool) (val:Nat->Value) (a:Fr) (A:AW),S i=false->(∀j,vm bz i j=true->S j=true)->Tt bz φ a0 S val a->A.Wf->bn A (G S val)->
  hY P (kC bz i) (iO a) A λv A'=>φ i (bU val i v)/\bn A' (G (bY S i) (bU val i v)))
 (pf:∀(S:Nat->Bool) (val:Nat->Value) (a:Fr) (A:AW),(∀i,i<bz.size->S i=true)->Tt bz φ a0 S val a->A.Wf->bn A (G S val)->Q .normal a A) :
 cB P n (.region id bz true) Q a0 A0:=by
 have SC:∀{S:Nat->Bool} {val:Nat->Value} {a:Fr},(∀(j:Nat) (oj:Oper) (d:Tmp),bz[j]? = some oj->oj.dst=some d->S j=true->a d=val j)->∀j d,Vd bz j d=true->S j=true->a d=val j:=by
  intro S val a h j d hd hj;unfold Vd at hd;split at hd;rename_i o ho;exact h j o d ho (by simpa using hd) hj;cases hd
 refine R9 hm hB G φ (λS i val v hc=>hG S i val v (F9 hc)) (λS i j val v hc=>hφ S i j val v (F9 hc)) h0 ?_ ?_;intro i o ho S val a A hi iQ hc hp hw hs hf QO;have kJ:kC bz i=o.op:=by unfold kC;rw [ho]
 have M4:∀j,vm bz i j=true->S j=true:=λj hj=>by
  unfold vm at hj;rw [ho] at hj;obtain⟨e,he,h2⟩:=List.any_eq_true.1 hj;simp only [Bool.and_eq_true,beq_iff_eq] at h2;rw [<-h2.2];exact iQ e (Array.mem_toList_iff.1 he) h2.1
 have cF:i<bz.size:=(Array.getElem?_eq_some_iff.1 ho).1;have key:=xF i cF S val a A hi M4 ⟨F9 hc,hp,SC hf,QO⟩ hw hs;rw [kJ] at key;exact key;intro S val a A jW hp hw hs hf QO;refine pf S val a A jW ⟨?_,hp,SC hf,QO⟩ hw hs;intro k j h hk;unfold vm at h;split at h;rename_i o ho;obtain⟨e,he,h2⟩:=List.any_eq_true.1 h;simp only [Bool.and_eq_true,beq_iff_eq] at h2;have cF:=kW (BR hB).1 ho (Array.mem_toList_iff.1 he) h2.1;have hk':=(Array.getElem?_eq_some_iff.1 ho).1;exact jW j (by omega);cases h
end Go.Stx
namespace Go.Stx
open Go
variable [Gl]
def WG (bz:Array Oper) (o:Oper):zg:=⟨o.dst,o.op,mN bz o.guard,3⟩
def cz (bz:Array Oper):List zg:=bz.toList.map (WG bz)
theorem pT {P:Program} {bz:Array Oper} {K:Fr->AW->Prop}:∀(l:List Oper) (a:Fr) (A:AW),aW P (λ_=>True) K (l.map (WG bz)) a A->Lb P bz K l a A
 | [],a,A,h=>h
 | o::gI,a,A,h=>by
   simp only [List.map_cons,aW,WG] at h;simp only [Lb,Lm];split;rename_i hg;rw [ay hg] at h;exact h.mono λv A' hh=>pT gI _ _ hh.2;rename_i hg;rw [ap hg] at h;exact pT gI _ _ h
section
variable {P:Program} {n:Nat} {Q:Exit->Fr->AW->Prop} {a:Fr} {A:AW} {id:Nat}
theorem wn {bz:Array Oper} (h:∀K:Fr->AW->Prop,(∀a A,Q .normal a A->K a A)->aW P (λ_=>True) K (cz bz) a A):cB P n (.region id bz false) Q a A:=
 KP (pT _ _ _ (h _ λ_ _ h=>h))
theorem wl {bz:Array Oper} (hm:P.follows .mixedOrders=true) (oU:List (Nat×Nat)) (hB:MN bz oU=true)
 (h:∀K:Fr->AW->Prop,(∀a A,Q .normal a A->K a A)->aW P (λ_=>True) K (bZ bz oU) a A):cB P n (.region id bz true) Q a A:=Qf _ oU hm hB h
theorem TC {bz:Array Oper} (S:AW->Prop) (hm:P.follows .mixedOrders=true) (oU:List (Nat×Nat)) (hB:MN bz oU=true)
 (h:∀K:Fr->AW->Prop,(∀a A,Q .normal a A->K a A)->aW P S K (bZ bz oU) a A):cB P n (.region id bz true) Q a A:=Qf S oU hm hB h
end
theorem jK {P:Program} {S:AW->Prop} {K:Fr->AW->Prop} {o:zg} {gI:List zg} {a:Fr} {A:AW}
 (h:∀R:Fr->AW->Prop,(∀a A,aW P S K gI a A->R a A)->
  if sg a o.guard=true then
   match o.Rj with
   | 0=>NQ P A (iO a) o.op λv=>R (ew a o.dst v) A
   | 1=>NQ P A (iO a) o.op λv=>(∀A',S A'->aq P A' (iO a) o.op=some v)/\R (ew a o.dst v) A
   | 2=>hY P o.op (iO a) A λv A'=>A.le A'/\R (ew a o.dst v) A'
   | 3=>hY P o.op (iO a) A λv A'=>S A'/\R (ew a o.dst v) A'
   | _=>hY P o.op (iO a) A λv A'=>R (ew a o.dst v) A'
  else R (ew a o.dst undef) A):aW P S K (o::gI) a A:=JH h
theorem lwn {P:Program} {S:AW->Prop} {K:Fr->AW->Prop} {a:Fr} {A:AW} (h:K a A):aW P S K [] a A:=h
theorem lr {A:AW} {p:Prop} (h:p):A.le A/\p:=⟨AW.le.refl A,h⟩
theorem la {A:AW} {o:dG} {p:Prop} (h:p):A.le (A.alloc o)/\p:=⟨AW.le.alloc A o,h⟩
theorem wb {P:Program} {n:Nat} {Q:Exit->Fr->AW->Prop} {a:Fr} {A:AW} {id:Nat} {c:Code} (h:cB P n c (b7 id Q) a A):cB P n (.block id c) Q a A:=NC h
theorem wq {P:Program} {n:Nat} {Q:Exit->Fr->AW->Prop} {a:Fr} {A:AW} {x y:Code} (h:cB P n x (aM (cB P n y Q) Q) a A):cB P n (.seq x y) Q a A:=bh h
theorem wr {P:Program} {n:Nat} {Q:Exit->Fr->AW->Prop} {a:Fr} {A:AW} (h:Q .ret a A):cB P n .ret Q a A:=L6 h
theorem wk {P:Program} {n:Nat} {Q:Exit->Fr->AW->Prop} {a:Fr} {A:AW} (h:Q .normal a A):cB P n .skip Q a A:=Qd h
theorem we {P:Program} {n:Nat} {Q:Exit->Fr->AW->Prop} {a:Fr} {A:AW} {id:Nat} (h:Q (.exit id) a A):cB P n (.exit id) Q a A:=Qg h
theorem wc {P:Program} {n:Nat} {Q:Exit->Fr->AW->Prop} {a:Fr} {A:AW} {c:Operand} {x y:Code} {b:Bool} (hc:iO a c=.bool b) (h1:b=true->cB P n x Q a A) (h2:b=false->cB P n y Q a A) :
 cB P n (.cond c x y) Q a A:=Qh hc h1 h2
theorem ws {P:Program} {n:Nat} {c:Code} {Q:Exit->Fr->AW->Prop} {a:Fr} {A:AW} {k:Nat} (h:cB P n c (aM (aG P n c Q k) Q) a A):aG P n c Q (k+1) a A:=h
theorem ib {c:Prop} [Decidable c] {p q:Prop} (h1:c->p) (h2:¬c->q):if c then p else q:=Pi h1 h2
theorem wS:(∀bz:Array Oper,cz bz=bz.toList.map (WG bz))/\(∀(bz:Array Oper) (o:Oper),WG bz o=⟨o.dst,o.op,mN bz o.guard,3⟩)/\
 (∀(bz:Array Oper) (l:List (Nat×Nat)),bZ bz l=l.filterMap (lop bz))/\(∀(bz:Array Oper) (x:Nat×Nat),lop bz x=(bz[x.1]?).map λo=>⟨o.dst,o.op,mN bz o.guard,x.2⟩)/\
 (∀(bz:Array Oper) (g:Option (Nat×Bool)),mN bz g=g.map λx=>((bz[x.1]?).bind (·.dst),x.2))/\
 (∀(f:Oper->zg) (a:Oper) (l:List Oper),List.map f (a::l)=f a::List.map f l)/\(∀f:Oper->zg,List.map f []=[])/\
 (∀(f:Nat×Nat->Option zg) (a:Nat×Nat) (l:List (Nat×Nat)),List.filterMap f (a::l)=match f a with|none=>List.filterMap f l|some b=>b::List.filterMap f l)/\(∀f:Nat×Nat->Option zg,List.filterMap f []=[])/\
 (∀f:Oper->zg,Option.map f none=none)/\(∀(f:Oper->zg) (a:Oper),Option.map f (some a)=some (f a))/\
 (∀f:Nat×Bool->Option Tmp×Bool,Option.map f none=none)/\(∀(f:Nat×Bool->Option Tmp×Bool) (a:Nat×Bool),Option.map f (some a)=some (f a))/\
 (∀(l:List Oper) (i:Nat),l.toArray[i]? = l[i]?)/\(∀(a:Oper) (l:List Oper),(a::l)[0]? = some a)/\(∀(a:Oper) (l:List Oper) (i:Nat),(a::l)[i+1]? = l[i]?)/\
 (∀(a:Oper) (f:Oper->Option Tmp),(some a).bind f=f a):=by
 refine⟨λ_=>rfl,λ_ _=>rfl,λ_ _=>rfl,λ_ _=>rfl,λ_ _=>rfl,λ_ _ _=>rfl,λ_=>rfl,λf a l=>?_,λ_=>rfl,λ_=>rfl,λ_ _=>rfl,λ_=>rfl,λ_ _=>rfl,λl i=>?_,λ_ _=>rfl,λ_ _ _=>rfl,λ_ _=>rfl⟩;rw [List.filterMap_cons];cases f a<;>rfl;simp
attribute [simp] AW.eY AW.dM Value.oneCell'
end Go.Stx
namespace Go.Stx
open Go
variable [Gl]
inductive ug where
 | nil
 | aY (i:Nat) (t:ug)
 | uS (i:Nat) (t:ug) (j:Nat) (t':ug)
inductive vC where
 | nil
 | aY (o:zg) (t:vC)
 | uS (o:zg) (t:vC) (o':zg) (t':vC)
def vI (bz:Array Oper) (md:List Nat) (i:Nat):zg:=match bz[i]? with
 | some o=>⟨o.dst,o.op,mN bz o.guard,md.getD i 3⟩
 | none=>⟨none,.alloc 0,none,3⟩
def bC (bz:Array Oper) (md:List Nat):ug->vC
 | .nil=>.nil
 | .aY i t=>.aY (vI bz md i) (bC bz md t)
 | .uS i t j t'=>.uS (vI bz md i) (bC bz md t) (vI bz md j) (bC bz md t')
def m5 (P:Program) (S:AW->Prop) (o:zg) (a:Fr) (A:AW) (R:Fr->AW->Prop):Prop:=
 if sg a o.guard=true then
  match o.Rj with
  | 0=>NQ P A (iO a) o.op λv=>R (ew a o.dst v) A
  | 1=>NQ P A (iO a) o.op λv=>(∀A',S A'->aq P A' (iO a) o.op=some v)/\R (ew a o.dst v) A
  | 2=>hY P o.op (iO a) A λv A'=>A.le A'/\R (ew a o.dst v) A'
  | 3=>hY P o.op (iO a) A λv A'=>S A'/\R (ew a o.dst v) A'
  | _=>hY P o.op (iO a) A λv A'=>R (ew a o.dst v) A'
 else R (ew a o.dst undef) A
def TW (P:Program) (S:AW->Prop) (K:Fr->AW->Prop):vC->Fr->AW->Prop
 | .nil,a,A=>K a A
 | .aY o t,a,A=>m5 P S o a A (TW P S K t)
 | .uS o t o' t',a,A=>m5 P S o a A (TW P S K t)/\m5 P S o' a A (TW P S K t')
section
variable {P:Program} {bz:Array Oper} {S:AW->Prop} {K:Fr->AW->Prop} {oO:List Nat}
def Ot (bz:Array Oper) (oO md:List Nat) (M i:Nat):Bool:=(List.range bz.size).all λj=>j == i || M.testBit j || !(Nat.ble 3 (md.getD j 3)) || (oO.getD j 0).testBit i
def Mn (bz:Array Oper) (oO md:List Nat) (M i:Nat):Bool:=(List.range bz.size).all λj=>j == i || M.testBit j || !(Nat.ble 4 (md.getD j 3)) || (oO.getD j 0).testBit i
def SG (bz:Array Oper) (M i j:Nat):Bool:=(List.range bz.size).all λk=>k == i || k == j || match bz[k]? with
 | some o=>!vT M k o
 | none=>true
def L1 (bz:Array Oper) (md:List Nat) (M i:Nat):Bool:=match bz[i]? with
 | some o=>vT M i o && !(Nat.ble (md.getD i 3) 1)
 | none=>false
def vG (bz:Array Oper) (oO md:List Nat):Nat->ug->Bool
 | M,.nil=>(List.range bz.size).all λj=>M.testBit j
 | M,.aY i t=>(match bz[i]? with
  | none=>false
  | some o=>vT M i o && (if Nat.ble (md.getD i 3) 1 then Tf bz M i o && ((Nat.beq (md.getD i 3) 1 && Mn bz oO md M i) || ux o.op || Ot bz oO md M i) else SG bz M i i)) && vG bz oO md (M ||| 2 ^ i) t
 | M,.uS i t j t'=>L1 bz md M i && L1 bz md M j && SG bz M i j && vG bz oO md (M ||| 2 ^ i) t && vG bz oO md (M ||| 2 ^ j) t'
def Ok (bz:Array Oper) (md:List Nat) (t:ug):Bool:=jJ bz && (let oO:=Vp bz.toList [];zS bz oO && vG bz oO md 0 t)
def depth:ug->Nat
 | .nil=>0
 | .aY _ t=>depth t+1
 | .uS _ t _ t'=>max (depth t) (depth t')+1
theorem EX {md:Nat->Nat}:∀{n:Nat} {L:Nat->Bool} {a:Fr} {A:AW},wM P bz S md K n L a A->wM P bz S md K (n+1) L a A
 | 0,L,a,A,h=>⟨λ_=>h.2,λ_ i o ho hr=>by have:=h.1 i (Array.getElem?_eq_some_iff.1 ho).1;rw [hr.1] at this;cases this⟩
 | n+1,L,a,A,h=>⟨h.1,λhw i o ho hr=>(h.2 hw i o ho hr).mono λv A' _ _ _ _ hk=>EX hk⟩
theorem Mc {md:Nat->Nat} {n m:Nat} (hnm:n<=m) {L:Nat->Bool} {a:Fr} {A:AW} (h:wM P bz S md K n L a A):wM P bz S md K m L a A:=by
 induction hnm with
 | refl=>exact h
 | step _ ih=>exact EX ih
theorem ww {md:List Nat} {i:Nat} {o:Oper} (hi:bz[i]? = some o) (hm:¬md.getD i 3<=1) {a:Fr} {A:AW} {R:Fr->AW->Prop} (h:m5 P S (vI bz md i) a A R):ta P bz S (λj=>md.getD j 3) i o a A R:=by
 simp only [m5,vI,hi,<-Lm] at h;unfold ta;split
 . rename_i hg;rw [ay hg] at h;by_cases h2:md.getD i 3=2;rw [h2] at h;exact h.mono λv A' hh=>⟨by rw [ay h2];exact hh.1,hh.2⟩;have:∃q,md.getD i 3=q+3:=⟨md.getD i 3-3,by omega⟩;obtain⟨q,hq⟩:=this;rw [hq] at h;cases q with
   | zero=>exact h.mono λv A' hh=>⟨by rw [ap h2];exact λ_=>hh.1,hh.2⟩
   | succ q=>exact h.mono λv A' hh=>⟨by rw [ap h2];exact λe=>by(have e':md.getD i 3=3:=e);omega,hh⟩
 rename_i hg;rw [ap hg] at h;exact h
theorem yA {L:Nat->Bool} {M i:Nat} (hL:∀j,j<bz.size->L j=M.testBit j):∀j,j<bz.size->bY L i j=(M ||| 2 ^ i).testBit j:=λj hj=>by
 rw [Nat.testBit_or,Nat.testBit_two_pow,<-hL j hj];unfold bY;by_cases e:j=i;subst e;simp;have:¬i=j:=λx=>e x.symm;simp [e,this]
theorem nP (sT:jJ bz=true) (ha:zS bz oO=true) {md:List Nat}:∀(t:ug) (M:Nat) (L:Nat->Bool) (a:Fr) (A:AW),(∀j,j<bz.size->L j=M.testBit j)->mz bz L->
 vG bz oO md M t=true->TW P S K (bC bz md t) a A->wM P bz S (λj=>md.getD j 3) K (depth t) L a A
 | .nil,M,L,a,A,hL,hc,hg,h=>⟨λj hj=>by rw [hL j hj];exact List.all_eq_true.1 hg j (List.mem_range.2 hj),h⟩
 | .uS i t j t',M,L,a,A,hL,hc,hg,h=>by
   simp only [vG,Bool.and_eq_true] at hg;obtain⟨⟨⟨⟨hei,hej⟩,hon⟩,RI⟩,hgj⟩:=hg;have eff:∀{k:Nat},L1 bz md M k=true->∃o,bz[k]? = some o/\NL L k o/\¬md.getD k 3<=1:=λ{k} hk=>by
    unfold L1 at hk;cases ho:bz[k]? with
    | none=>rw [ho] at hk;cases hk
    | some o=>
      rw [ho] at hk;simp only [Bool.and_eq_true,Bool.not_eq_true'] at hk;refine⟨o,rfl,(k8 (Array.getElem?_eq_some_iff.1 ho).1 sT ho hL).1 hk.1,λfo=>?_⟩;rw [Nat.ble_eq_true_of_le fo] at hk;exact absurd hk.2 (by simp)
   obtain⟨oi,hi,FX,QG⟩:=eff hei;obtain⟨oj,hj,GQ,rl⟩:=eff hej;refine⟨λjW=>?_,λhw k ok hk hrk=>?_⟩;have:=jW i (Array.getElem?_eq_some_iff.1 hi).1;rw [FX.1] at this;cases this;have hkij:k=i\/k=j:=by
    have h1:=List.all_eq_true.1 hon k (List.mem_range.2 (Array.getElem?_eq_some_iff.1 hk).1);rw [hk] at h1;simp only [Bool.or_eq_true,beq_iff_eq,Bool.not_eq_true'] at h1;rcases h1 with (h1|h1)|h1;exact .inl h1;exact .inr h1;rw [(k8 (Array.getElem?_eq_some_iff.1 hk).1 sT hk hL).2 hrk] at h1;cases h1
   rcases hkij with e|e;subst e;rw [hi] at hk;injection hk with hk;subst hk;exact(ww hi QG h.1).mono λv A' _ _ _ _ hh=>Mc (Nat.le_max_left _ _) (nP sT ha t _ _ _ A' (yA hL) (hc.set hi FX) RI hh);subst e;rw [hj] at hk;injection hk with hk;subst hk;exact(ww hj rl h.2).mono λv A' _ _ _ _ hh=>Mc (Nat.le_max_right _ _) (nP sT ha t' _ _ _ A' (yA hL) (hc.set hj GQ) hgj hh)
 | .aY i t,M,L,a,A,hL,hc,hg,h=>by
   unfold vG at hg;rw [Bool.and_eq_true] at hg;obtain⟨yO,Kj⟩:=hg;cases hi:bz[i]? with
   | none=>rw [hi] at yO;cases yO
   | some o=>
     rw [hi] at yO;simp only [Bool.and_eq_true] at yO;obtain⟨hr,yP⟩:=yO;have C7:=(Array.getElem?_eq_some_iff.1 hi).1;have SU:NL L i o:=(k8 C7 sT hi hL).1 hr;have UV:=hc.set hi SU;have IH:∀a A,TW P S K (bC bz md t) a A->wM P bz S (λj=>md.getD j 3) K (depth t) (bY L i) a A:=λa A h=>nP sT ha t (M ||| 2 ^ i) _ a A (yA hL) UV Kj h;by_cases F0:md.getD i 3<=1;rw [ay (by simpa [Nat.ble_eq] using F0)] at yP;simp only [Bool.and_eq_true] at yP;obtain⟨s7,cL⟩:=yP;have Ca:∀j oj,bz[j]? = some oj->j≠i->L j=false->(∀e∈oj.after,Region.binds .any e=true->e.on≠i)->o.apart bz oj=true:=λj oj hj lL PP AD=>by
      have wP:=(Array.getElem?_eq_some_iff.1 hj).1;have h1:=List.all_eq_true.1 s7 j (List.mem_range.2 wP);rw [hj,<-hL j wP,PP] at h1;simp only [Bool.or_eq_true,beq_iff_eq,Bool.false_eq_true,or_false] at h1;rcases h1 with h1|h1|h1;exact absurd h1 lL;exfalso;rw [Array.any_eq_true] at h1;obtain⟨q,hq,h2⟩:=h1;simp only [Bool.and_eq_true,beq_iff_eq] at h2;exact AD _ (Array.getElem_mem hq) h2.1 h2.2;exact h1
     have bI:∀v,((lN bz a o=true/\aq P A (iO a) o.op=some v)\/(lN bz a o=false/\v=undef))->(md.getD i 3=1->lN bz a o=true->∀A',S A'->aq P A' (iO a) o.op=some v)->
      TW P S K (bC bz md t) (ew a o.dst v) A->wM P bz S (λj=>md.getD j 3) K (depth t+1) L a A:=by
      intro v hy hS hk;refine CY (md:=λj=>md.getD j 3) sT ha hi F0 (depth t) L a A hc Ca ?_ SU hy (IH _ _ hk);simp only [Bool.or_eq_true] at cL;rcases cL with (h1|h1)|h1;rw [Bool.and_eq_true] at h1;refine .inr (.inr ⟨λj oj hj lL h3 PP=>?_,λA' xL C8=>hS (Nat.eq_of_beq_eq_true h1.1) C8 A' xL⟩);have wP:=(Array.getElem?_eq_some_iff.1 hj).1;have h2:=List.all_eq_true.1 h1.2 j (List.mem_range.2 wP);rw [<-hL j wP,PP] at h2;have uD:Nat.ble 4 (md.getD j 3)=true:=Nat.ble_eq_true_of_le h3;rw [uD] at h2
      simpa [lL] using h2
      exact .inl h1;refine .inr (.inl λj oj hj lL h3 PP=>?_);have wP:=(Array.getElem?_eq_some_iff.1 hj).1;have h2:=List.all_eq_true.1 h1 j (List.mem_range.2 wP);rw [<-hL j wP,PP] at h2;have uD:Nat.ble 3 (md.getD j 3)=true:=Nat.ble_eq_true_of_le h3;rw [uD] at h2
      simpa [lL] using h2
     have h':m5 P S (vI bz md i) a A (TW P S K (bC bz md t)):=h;simp only [m5,vI,hi,<-Lm] at h';split at h';rename_i C8;have:md.getD i 3=0\/md.getD i 3=1:=by omega
     rcases this with e|e;rw [e] at h';simp only [NQ] at h';split at h';rename_i v hv;exact bI v (.inl ⟨C8,hv⟩) (λe'=>by omega) h';exact h'.elim;rw [e] at h';simp only [NQ] at h';split at h';rename_i v hv;exact bI v (.inl ⟨C8,hv⟩) (λ_ _=>h'.1) h'.2;exact h'.elim;rename_i C8;have PE:lN bz a o=false:=by simpa using C8
     exact bI undef (.inr ⟨PE,rfl⟩) (λ_ e=>by rw [PE] at e;cases e) h';rw [ap (by simpa [Nat.ble_eq] using F0)] at yP;refine⟨λjW=>?_,λhw j oj hj GQ=>?_⟩;have:=jW i C7;rw [SU.1] at this;cases this;have lL:j=i:=by
      have h1:=List.all_eq_true.1 yP j (List.mem_range.2 (Array.getElem?_eq_some_iff.1 hj).1);rw [hj] at h1;simp only [Bool.or_eq_true,beq_iff_eq,Bool.not_eq_true'] at h1;rcases h1 with (h1|h1)|h1;exact h1;exact h1;rw [(k8 (Array.getElem?_eq_some_iff.1 hj).1 sT hj hL).2 GQ] at h1;cases h1
     subst lL;rw [hi] at hj;injection hj with hj;subst hj;exact(ww hi F0 h).mono λv A' _ _ _ _ hh=>IH _ _ hh
end
theorem wt {P:Program} {n:Nat} {Q:Exit->Fr->AW->Prop} {a:Fr} {A:AW} {id:Nat} {bz:Array Oper} (S:AW->Prop) (hm:P.follows .mixedOrders=true) (md:List Nat) (t:ug) (hB:Ok bz md t=true)
 (h:∀K:Fr->AW->Prop,(∀a A,Q .normal a A->K a A)->TW P S K (bC bz md t) a A):cB P n (.region id bz true) Q a A:=by
 simp only [Ok,Bool.and_eq_true] at hB;exact zM hm hB.1 (nP hB.1 hB.2.1 t 0 _ a A (λj _=>by simp) (λk o _ hk=>by cases hk) hB.2.2 (h _ λ_ _ h=>h))
theorem Sw {P:Program} {S:AW->Prop} {K:Fr->AW->Prop} {o:zg} {t:vC} {a:Fr} {A:AW} (h:∀R:Fr->AW->Prop,(∀a A,TW P S K t a A->R a A)->m5 P S o a A R):TW P S K (.aY o t) a A:=h _ λ_ _ h=>h
theorem QZ {P:Program} {S:AW->Prop} {K:Fr->AW->Prop} {o o':zg} {t t':vC} {a:Fr} {A:AW} (h:∀R:Fr->AW->Prop,(∀a A,TW P S K t a A->R a A)->m5 P S o a A R)
 (h':∀R:Fr->AW->Prop,(∀a A,TW P S K t' a A->R a A)->m5 P S o' a A R):TW P S K (.uS o t o' t') a A:=⟨h _ λ_ _ h=>h,h' _ λ_ _ h=>h⟩
theorem Sv {P:Program} {S:AW->Prop} {K:Fr->AW->Prop} {a:Fr} {A:AW} (h:K a A):TW P S K .nil a A:=h
attribute [simp] m5
end Go.Stx
namespace Go.Stx
open Go
variable [Gl]
def C1 (A B:AW):Prop:=∀i o,A.bt i=some o->B.bt i=some o
theorem C1.T9 {A B:AW} {F:HP} (h:bn B (H0 A.bt*F)):C1 A B:=by
 obtain⟨_,⟨a,b,d,rfl,rfl,q⟩,hs⟩:=h;intro i o hi;exact hs i o (by simp [Hp.un,hi])
theorem gZ.keeps {A B:AW} (hk:C1 A B) {size:Nat} {v:Value} {n:Nat} {cs:List Value} (h:gZ A size v n cs):gZ B size v n cs:=by
 rcases h with h|⟨p,c,cD,own,u,h1,h2,h3,h4⟩;exact .inl h;exact .inr ⟨p,c,cD,own,u,h1,h2,hk _ _ h3,h4⟩
end Go.Stx
namespace Go.Stx
open Go
variable [Gl]
inductive It where
 | at (i:Nat) (o:dG)
 | h (P:HP)
def It.hp:It->HP
 | .at i o=>pt i o
 | .h P=>P
def aL:List It->HP
 | []=>eP
 | x::L=>x.hp*aL L
def ah (A:AW) (L:List It):Prop:=bn A (aL L)
theorem fi:∀(L K:List It),aL (L++K)=aL L*aL K
 | [],K=>by show aL K=eP*aL K;rw [iD]
 | x::L,K=>by show x.hp*aL (L++K)=x.hp*aL L*aL K;rw [fi L K,HP.b5]
def Eu:List It->Nat->Option (It×List It)
 | [],_=>none
 | x::L,0=>some (x,L)
 | x::L,k+1=>(Eu L k).map λy=>(y.1,x::y.2)
theorem zv:∀{L:List It} {k:Nat} {x:It} {K:List It},Eu L k=some (x,K)->aL L=x.hp*aL K
 | [],_,_,_,h=>by cases h
 | y::L,0,x,K,h=>by injection h with h;injection h with h1 h2;subst h1;subst h2;rfl
 | y::L,k+1,x,K,h=>by
   simp only [Eu,Option.map_eq_some_iff] at h;obtain⟨⟨z,M⟩,h1,h2⟩:=h;injection h2 with h2 h3;subst h2;subst h3;show y.hp*aL L=_;rw [zv h1];show y.hp*(z.hp*aL M)=z.hp*(y.hp*aL M)
   ac_rfl
theorem ah.aY {A:AW} {L K:List It} {x:It} (h:ah A L) (k:Nat) (e:Eu L k=some (x,K)):bn A (x.hp*aL K):=by
 unfold ah at h;rwa [zv e] at h
theorem ah.g {A:AW} {L K:List It} {i:Nat} {o:dG} (h:ah A L) (k:Nat) (e:Eu L k=some (.at i o,K)):A.bt i=some o:=bn.bt (h.aY k e)
theorem ah.keeps {A B:AW} {L K:List It} (h:ah B L) (k:Nat) (e:Eu L k=some (.h (H0 A.bt),K)):C1 A B:=C1.T9 (h.aY k e)
theorem ah.le {A A':AW} {L:List It} (h:ah A L) (hw:A.Wf) (hl:A.le A'):ah A' L:=bn.le h hw hl
theorem ah.alloc {A:AW} {L:List It} (h:ah A L) (hw:A.Wf) (o:dG):ah (A.alloc o) (.at A.next o::L):=bn.alloc h hw o
theorem ah.mk {A:AW} {F:HP} (h:bn A F):ah A [.h F]:=by
 show bn A (F*eP);rw [dt];exact h
def aK (A:AW):List It->Prop
 | []=>True
 | .at i o::L=>A.bt i=some o/\aK A L
 | .h _::L=>aK A L
def ba (A:AW):List It->Prop
 | []=>True
 | .at i _::L=>((i=A.next)=False/\(A.next=i)=False/\(∀k,(i=A.next+k)=False)/\∀k,(A.next+k=i)=False)/\ba A L
 | .h _::L=>ba A L
def dN (i:Nat):List It->Prop
 | []=>True
 | .at j _::L=>((i=j)=False/\(j=i)=False)/\dN i L
 | .h _::L=>dN i L
def bD:List It->Prop
 | []=>True
 | .at i _::L=>dN i L/\bD L
 | .h _::L=>bD L
theorem ah.tail {A:AW} {x:It} {L:List It} (h:ah A (x::L)):ah A L:=bn.right h
theorem ah.Ks {A:AW}:∀{L:List It},ah A L->aK A L
 | [],_=>trivial
 | .at i o::L,h=>⟨bn.bt h,ah.Ks h.tail⟩
 | .h P::L,h=>ah.Ks (L:=L) (ah.tail (x:=.h P) h)
theorem ah.sf {A:AW} (hw:A.Wf):∀{L:List It},ah A L->ba A L
 | [],_=>trivial
 | .at i o::L,h=>by
   have:=hw.lt (bn.bt h);exact⟨⟨eq_false (by omega),eq_false (by omega),λk=>eq_false (by omega),λk=>eq_false (by omega)⟩,ah.sf hw h.tail⟩
 | .h P::L,h=>ah.sf hw (L:=L) (ah.tail (x:=.h P) h)
theorem ah.JF {A:AW} {i:Nat} {o:dG}:∀{L:List It},ah A (.at i o::L)->dN i L
 | [],_=>trivial
 | .at j p::L,h=>by
   have gl:i≠j:=bn.ne h;refine⟨⟨eq_false gl,eq_false (Ne.symm gl)⟩,ah.JF (A:=A) (L:=L) (o:=o) ?_⟩;have h1:bn A (pt i o*(pt j p*aL L)):=h;exact bn.right (h1.dV (by ac_rfl:_=pt j p*(pt i o*aL L)))
 | .h P::L,h=>by
   have h1:bn A (pt i o*(P*aL L)):=h;exact ah.JF (A:=A) (L:=L) (o:=o) (bn.right (h1.dV (by ac_rfl:_=P*(pt i o*aL L))))
theorem ah.nes {A:AW}:∀{L:List It},ah A L->bD L
 | [],_=>trivial
 | .at i o::L,h=>⟨ah.JF h,ah.nes h.tail⟩
 | .h P::L,h=>ah.nes (L:=L) (ah.tail (x:=.h P) h)
theorem ah.dT {A:AW} {L:List It} (h:ah A L) (hw:A.Wf):aK A L/\ba A L/\bD L:=⟨h.Ks,h.sf hw,h.nes⟩
def bf (P:Program) (f:FuncId) (args:List Value) (rk:List It) (φ:Value->Prop) (post:Value->List It):Prop:=
 ∀(A:AW) (F:HP),A.Wf->ah A (rk++[.h F])->az P f args A λv A'=>φ v/\ah A' (post v++[.h F])
theorem bf.oB {P:Program} {f:FuncId} {args:List Value} {rk:List It} {φ:Value->Prop} {post:Value->List It} {p:HP} {q:Value->HP} (h:nD P f args p q) (hp:aL rk=p) (hq:∀v,q v=C5 (φ v)*aL (post v)) :
 bf P f args rk φ post:=by
 intro A F hw hS;refine(h A F hw (by unfold ah at hS;rw [fi,hp] at hS;have h3:bn A (p*(F*eP)):=hS;rwa [dt] at h3)).mono ?_;intro v A' hs;rw [hq,HP.b5,bn.pr] at hs;refine⟨hs.1,?_⟩;unfold ah;rw [fi];show bn A' (aL (post v)*(F*eP));rw [dt];exact hs.2
section
def Od (l:List (Nat×Nat)):Prop:=True
theorem od (l:List (Nat×Nat)):Od l:=trivial
structure Ts (S:AW->Prop) (md:List Nat) (t:ug):Prop
structure Os (S:AW->Prop) (l:List (Nat×Nat)):Prop
class QS (G:Prop) (H:outParam Prop):Prop where f:H->G
section
variable [Gl] {P:Program} {n:Nat} {Q:Exit->Fr->AW->Prop} {a:Fr} {A:AW} {id k:Nat} {c x y:Code} {S:AW->Prop} {K X:Fr->AW->Prop} {o:dG} {p:Prop}
instance:QS (cB P n (.block id c) Q a A) (cB P n c (b7 id Q) a A):=⟨wb⟩
instance:QS (cB P n (.seq x y) Q a A) (cB P n x (aM (cB P n y Q) Q) a A):=⟨wq⟩
instance:QS (cB P n .ret Q a A) (Q .ret a A):=⟨wr⟩
instance:QS (cB P n .skip Q a A) (Q .normal a A):=⟨wk⟩
instance:QS (cB P n (.exit id) Q a A) (Q (.exit id) a A):=⟨we⟩
instance:QS (aG P n c Q (k+1) a A) (cB P n c (aM (aG P n c Q k) Q) a A):=⟨ws⟩
instance:QS (aW P S K [] a A) (K a A):=⟨lwn⟩
instance:QS (A.le A/\p) p:=⟨lr⟩
instance:QS (A.le (A.alloc o)/\p) p:=⟨la⟩
theorem wT {bz:Array Oper} {oU:List (Nat×Nat)} (q:Od oU) (hm:P.follows .mixedOrders=true) (hB:MN bz oU=true)
 (h:∀K:Fr->AW->Prop,(∀a A,Q .normal a A->K a A)->aW P (λ_=>True) K (bZ bz oU) a A):cB P n (.region id bz true) Q a A:=wl hm oU hB h
theorem Mg {bz:Array Oper} {md:List Nat} {t:ug} (q:Ts S md t) (hm:P.follows .mixedOrders=true) (hB:Ok bz md t=true)
 (h:∀K:Fr->AW->Prop,(∀a A,Q .normal a A->K a A)->TW P S K (bC bz md t) a A):cB P n (.region id bz true) Q a A:=wt S hm md t hB h
theorem Mh {bz:Array Oper} {oU:List (Nat×Nat)} (q:Os S oU) (hm:P.follows .mixedOrders=true) (hB:MN bz oU=true)
 (h:∀K:Fr->AW->Prop,(∀a A,Q .normal a A->K a A)->aW P S K (bZ bz oU) a A):cB P n (.region id bz true) Q a A:=TC S hm oU hB h
theorem wlG {bz:Array Oper} (h:cB P n (.region id bz true) Q a A):cB P n (.region id bz true) Q a A:=h
theorem acG {f:FuncId} {args:List Value} {k:Value->AW->Prop} (h:az P f args A k):az P f args A k:=h
end
theorem gR {A:AW} {i:Nat} {o:Option dG} (h:A.bt i=o):A.bt i=o:=h
theorem twG [Gl] {P:Program} {S:AW->Prop} {K:Fr->AW->Prop} {t:vC} {a:Fr} {A:AW} (h:TW P S K t a A):TW P S K t a A:=h
theorem nx {G H:Prop} [i:QS G H] (h:H):G:=i.f h
structure Tg (n:Nat) (p:Prop):Prop where h:p
structure Kp (p:Prop):Prop where h:p
inductive Df:Prop->Prop where
 | T:Df True
 | C {p q:Prop}:Df p->Df q->Df (p/\q)
 | A {p:Prop}:Df p
theorem J1 {a1:Prop} (x1:a1):a1/\True:=⟨x1,trivial⟩
theorem J2 {a1 a2:Prop} (x1:a1) (x2:a2):a1/\a2/\True:=⟨x1,x2,trivial⟩
theorem J3 {a1 a2 a3:Prop} (x1:a1) (x2:a2) (x3:a3):a1/\a2/\a3/\True:=⟨x1,x2,x3,trivial⟩
theorem J4 {a1 a2 a3 a4:Prop} (x1:a1) (x2:a2) (x3:a3) (x4:a4):a1/\a2/\a3/\a4/\True:=⟨x1,x2,x3,x4,trivial⟩
theorem J5 {a1 a2 a3 a4 a5:Prop} (x1:a1) (x2:a2) (x3:a3) (x4:a4) (x5:a5):a1/\a2/\a3/\a4/\a5/\True:=⟨x1,x2,x3,x4,x5,trivial⟩
theorem J6 {a1 a2 a3 a4 a5 a6:Prop} (x1:a1) (x2:a2) (x3:a3) (x4:a4) (x5:a5) (x6:a6):a1/\a2/\a3/\a4/\a5/\a6/\True:=⟨x1,x2,x3,x4,x5,x6,trivial⟩
theorem J7 {a1 a2 a3 a4 a5 a6 a7:Prop} (x1:a1) (x2:a2) (x3:a3) (x4:a4) (x5:a5) (x6:a6) (x7:a7):a1/\a2/\a3/\a4/\a5/\a6/\a7/\True:=⟨x1,x2,x3,x4,x5,x6,x7,trivial⟩
theorem J8 {a1 a2 a3 a4 a5 a6 a7 a8:Prop} (x1:a1) (x2:a2) (x3:a3) (x4:a4) (x5:a5) (x6:a6) (x7:a7) (x8:a8):a1/\a2/\a3/\a4/\a5/\a6/\a7/\a8/\True:=⟨x1,x2,x3,x4,x5,x6,x7,x8,trivial⟩
theorem J9 {a1 a2 a3 a4 a5 a6 a7 a8 a9:Prop} (x1:a1) (x2:a2) (x3:a3) (x4:a4) (x5:a5) (x6:a6) (x7:a7) (x8:a8) (x9:a9):a1/\a2/\a3/\a4/\a5/\a6/\a7/\a8/\a9/\True:=⟨x1,x2,x3,x4,x5,x6,x7,x8,x9,trivial⟩
theorem GK {a1 a2 a3 a4 a5 a6 a7 a8 a9 vA:Prop} (x1:a1) (x2:a2) (x3:a3) (x4:a4) (x5:a5) (x6:a6) (x7:a7) (x8:a8) (x9:a9) (C9:vA):a1/\a2/\a3/\a4/\a5/\a6/\a7/\a8/\a9/\vA/\True:=⟨x1,x2,x3,x4,x5,x6,x7,x8,x9,C9,trivial⟩
theorem IX {a1 a2 a3 a4 a5 a6 a7 a8 a9 vA ye:Prop} (x1:a1) (x2:a2) (x3:a3) (x4:a4) (x5:a5) (x6:a6) (x7:a7) (x8:a8) (x9:a9) (C9:vA) (E3:ye):a1/\a2/\a3/\a4/\a5/\a6/\a7/\a8/\a9/\vA/\ye/\True:=⟨x1,x2,x3,x4,x5,x6,x7,x8,x9,C9,E3,trivial⟩
theorem rL {a1 a2 a3 a4 a5 a6 a7 a8 a9 vA ye Aa:Prop} (x1:a1) (x2:a2) (x3:a3) (x4:a4) (x5:a5) (x6:a6) (x7:a7) (x8:a8) (x9:a9) (C9:vA) (E3:ye) (GY:Aa):a1/\a2/\a3/\a4/\a5/\a6/\a7/\a8/\a9/\vA/\ye/\Aa/\True:=⟨x1,x2,x3,x4,x5,x6,x7,x8,x9,C9,E3,GY,trivial⟩
theorem kM {a1 a2 a3 a4 a5 a6 a7 a8 a9 vA ye Aa CZ:Prop} (x1:a1) (x2:a2) (x3:a3) (x4:a4) (x5:a5) (x6:a6) (x7:a7) (x8:a8) (x9:a9) (C9:vA) (E3:ye) (GY:Aa) (IY:CZ):a1/\a2/\a3/\a4/\a5/\a6/\a7/\a8/\a9/\vA/\ye/\Aa/\CZ/\True:=⟨x1,x2,x3,x4,x5,x6,x7,x8,x9,C9,E3,GY,IY,trivial⟩
theorem vD {a1 a2 a3 a4 a5 a6 a7 a8 a9 vA ye Aa CZ EY:Prop} (x1:a1) (x2:a2) (x3:a3) (x4:a4) (x5:a5) (x6:a6) (x7:a7) (x8:a8) (x9:a9) (C9:vA) (E3:ye) (GY:Aa) (IY:CZ) (Mf:EY):a1/\a2/\a3/\a4/\a5/\a6/\a7/\a8/\a9/\vA/\ye/\Aa/\CZ/\EY/\True:=⟨x1,x2,x3,x4,x5,x6,x7,x8,x9,C9,E3,GY,IY,Mf,trivial⟩
theorem N9 {a1 a2 a3 a4 a5 a6 a7 a8 a9 vA ye Aa CZ EY IM:Prop} (x1:a1) (x2:a2) (x3:a3) (x4:a4) (x5:a5) (x6:a6) (x7:a7) (x8:a8) (x9:a9) (C9:vA) (E3:ye) (GY:Aa) (IY:CZ) (Mf:EY) (Ob:IM):a1/\a2/\a3/\a4/\a5/\a6/\a7/\a8/\a9/\vA/\ye/\Aa/\CZ/\EY/\IM/\True:=⟨x1,x2,x3,x4,x5,x6,x7,x8,x9,C9,E3,GY,IY,Mf,Ob,trivial⟩
theorem NM {a1 a2 a3 a4 a5 a6 a7 a8 a9 vA ye Aa CZ EY IM Md:Prop} (x1:a1) (x2:a2) (x3:a3) (x4:a4) (x5:a5) (x6:a6) (x7:a7) (x8:a8) (x9:a9) (C9:vA) (E3:ye) (GY:Aa) (IY:CZ) (Mf:EY) (Ob:IM) (QV:Md):a1/\a2/\a3/\a4/\a5/\a6/\a7/\a8/\a9/\vA/\ye/\Aa/\CZ/\EY/\IM/\Md/\True:=⟨x1,x2,x3,x4,x5,x6,x7,x8,x9,C9,E3,GY,IY,Mf,Ob,QV,trivial⟩
theorem J17 {a1 a2 a3 a4 a5 a6 a7 a8 a9 vA ye Aa CZ EY IM Md Qt:Prop} (x1:a1) (x2:a2) (x3:a3) (x4:a4) (x5:a5) (x6:a6) (x7:a7) (x8:a8) (x9:a9) (C9:vA) (E3:ye) (GY:Aa) (IY:CZ) (Mf:EY) (Ob:IM) (QV:Md) (TB:Qt):a1/\a2/\a3/\a4/\a5/\a6/\a7/\a8/\a9/\vA/\ye/\Aa/\CZ/\EY/\IM/\Md/\Qt/\True:=⟨x1,x2,x3,x4,x5,x6,x7,x8,x9,C9,E3,GY,IY,Mf,Ob,QV,TB,trivial⟩
theorem Vx {a1 a2 a3 a4 a5 a6 a7 a8 a9 vA ye Aa CZ EY IM Md Qt To:Prop} (x1:a1) (x2:a2) (x3:a3) (x4:a4) (x5:a5) (x6:a6) (x7:a7) (x8:a8) (x9:a9) (C9:vA) (E3:ye) (GY:Aa) (IY:CZ) (Mf:EY) (Ob:IM) (QV:Md) (TB:Qt) (Wl:To):a1/\a2/\a3/\a4/\a5/\a6/\a7/\a8/\a9/\vA/\ye/\Aa/\CZ/\EY/\IM/\Md/\Qt/\To/\True:=⟨x1,x2,x3,x4,x5,x6,x7,x8,x9,C9,E3,GY,IY,Mf,Ob,QV,TB,Wl,trivial⟩
theorem J19 {a1 a2 a3 a4 a5 a6 a7 a8 a9 vA ye Aa CZ EY IM Md Qt To a19:Prop} (x1:a1) (x2:a2) (x3:a3) (x4:a4) (x5:a5) (x6:a6) (x7:a7) (x8:a8) (x9:a9) (C9:vA) (E3:ye) (GY:Aa) (IY:CZ) (Mf:EY) (Ob:IM) (QV:Md) (TB:Qt) (Wl:To) (x19:a19):a1/\a2/\a3/\a4/\a5/\a6/\a7/\a8/\a9/\vA/\ye/\Aa/\CZ/\EY/\IM/\Md/\Qt/\To/\a19/\True:=⟨x1,x2,x3,x4,x5,x6,x7,x8,x9,C9,E3,GY,IY,Mf,Ob,QV,TB,Wl,x19,trivial⟩
theorem J20 {a1 a2 a3 a4 a5 a6 a7 a8 a9 vA ye Aa CZ EY IM Md Qt To a19 a20:Prop} (x1:a1) (x2:a2) (x3:a3) (x4:a4) (x5:a5) (x6:a6) (x7:a7) (x8:a8) (x9:a9) (C9:vA) (E3:ye) (GY:Aa) (IY:CZ) (Mf:EY) (Ob:IM) (QV:Md) (TB:Qt) (Wl:To) (x19:a19) (x20:a20):a1/\a2/\a3/\a4/\a5/\a6/\a7/\a8/\a9/\vA/\ye/\Aa/\CZ/\EY/\IM/\Md/\Qt/\To/\a19/\a20/\True:=⟨x1,x2,x3,x4,x5,x6,x7,x8,x9,C9,E3,GY,IY,Mf,Ob,QV,TB,Wl,x19,x20,trivial⟩
theorem W {G H C X:Prop} (c:C) (x:X) (k:H) (s:(∀(zc:C) (zx:X) (zk:Kp H),G)/\Df H:=by
 constructor
 . unhygienic intros
   (try have z1:=zc.1);(try have z2:=zc.2.1);(try have z3:=zc.2.2.1);(try have z4:=zc.2.2.2.1);(try have z5:=zc.2.2.2.2.1);(try have z6:=zc.2.2.2.2.2.1);(try have z7:=zc.2.2.2.2.2.2.1);(try have z8:=zc.2.2.2.2.2.2.2.1);(try have z9:=zc.2.2.2.2.2.2.2.2.1);(try have Oa:=zc.2.2.2.2.2.2.2.2.2.1)
   repeat' (first|(refine jK λR hR=>?_;(first|simp [an,ax,zx,hq]|simp [an,ax,zx]);try simp (disch:=omega) only [ay,ap,an,ax])|(refine hR _ _ ?_;try clear hR R)|(refine hK _ _ ?_;try clear hK K)|refine nx ?_|refine wn λK hK=>?_|simp only [wS]|(refine wlG ?_;first|refine wT z1 Tryz.mx (by decide +kernel) λK hK=>?_|refine wT z2 Tryz.mx (by decide +kernel) λK hK=>?_|refine wT z3 Tryz.mx (by decide +kernel) λK hK=>?_|refine wT z4 Tryz.mx (by decide +kernel) λK hK=>?_|refine wT z5 Tryz.mx (by decide +kernel) λK hK=>?_|refine wT z6 Tryz.mx (by decide +kernel) λK hK=>?_|refine wT z7 Tryz.mx (by decide +kernel) λK hK=>?_|refine wT z8 Tryz.mx (by decide +kernel) λK hK=>?_|refine wT z9 Tryz.mx (by decide +kernel) λK hK=>?_|refine wT Oa Tryz.mx (by decide +kernel) λK hK=>?_)|(refine acG ?_;first|(apply bf.eH;(·(first|apply z1|apply z2|apply z3|apply z4|apply z5|apply z6|apply z7|apply z8|apply z9|apply Oa)<;>first|assumption|(simp [hq];done)|(refine gR ?_;simp [hq];rfl)|(simp [hq,zx];done)|omega|decide);(·exact wA);(·exact sA);(·first|exact pA|exact kA);(first|rintro _ zA rfl hS hw zn|rintro zn zA zn hS hw zn);have hS:=lA hS;(try (have hq:=kI hS hw)))|(apply bV;(·(first|apply z1|apply z2|apply z3|apply z4|apply z5|apply z6|apply z7|apply z8|apply z9|apply Oa)<;>first|assumption|(simp [hq];done)|(refine gR ?_;simp [hq];rfl)|(simp [hq,zx];done)|omega|decide);(first|rintro _ _ ⟨rfl,rfl⟩ zn zn|rintro _ _ ⟨⟨zn,rfl⟩,rfl⟩ zn zn))|((first|apply @Tg.h 10 _ z1|apply @Tg.h 10 _ z2|apply @Tg.h 10 _ z3|apply @Tg.h 10 _ z4);(·exact wA);(·exact sA);(·first|exact pA|exact kA);)|((first|apply @Tg.h 15 _ z1|apply @Tg.h 15 _ z2|apply @Tg.h 15 _ z3|apply @Tg.h 15 _ z4);(·exact wA);(·exact sA);(·first|exact pA|exact kA);((first|rintro zn zn zA hS hw zn|rintro zn zA hS hw zn|rintro zn zA hS hw);(try refine⟨zn,?_⟩);(try (have hS:=lA hS));have hq:=kI hS hw))|(apply d8.eH;(·first|apply @Tg.h 32 _ z1|apply @Tg.h 32 _ z2|apply @Tg.h 32 _ z3|apply @Tg.h 32 _ z4);(·exact wA);(·exact sA);(·first|exact pA|exact kA);(first|rintro xw _ zA rfl hS hw zn|rintro xw zn zA zn hS hw zn);(try (have hS:=lA hS));(try (have hq:=kI hS hw))))|refine wb ?_|refine wr ?_|refine wk ?_|refine we ?_|refine ws ?_|refine wq ?_|(refine wc rfl (λhc=>?_) (λhc=>?_)<;>(try simp at hc)<;>(try omega))|(refine ib (λhc=>?_) (λhc=>?_)<;>(try omega)<;>(try simp (disch:=omega) only [ay,ap]))|((repeat (first|clear zc|clear zx|clear z1|clear z2|clear z3|clear z4|clear z5|clear z6|clear z7|clear z8|clear z9|clear Oa));(try (revert hq;have zq:=zk;clear zq));(repeat clear hq);(try (revert hS;have zq:=zk;clear zq));(repeat clear hS);(try (revert hw;have zq:=zk;clear zq));(repeat clear hw);(repeat (first|(revert hc;have zq:=zk;clear zq)|(revert zn;have zq:=zk;clear zq)|(revert zA;have zq:=zk;clear zq)|(revert xw;have zq:=zk;clear zq)|(revert K;have zq:=zk;clear zq)|(revert hK;have zq:=zk;clear zq)|(revert R;have zq:=zk;clear zq)|(revert hR;have zq:=zk;clear zq)));first|with_reducible refine zk.h|with_reducible refine zk.h.1|with_reducible refine zk.h.2.1|with_reducible refine zk.h.2.2.1|with_reducible refine zk.h.2.2.2.1|with_reducible refine zk.h.2.2.2.2.1|with_reducible refine zk.h.2.2.2.2.2.1|with_reducible refine zk.h.2.2.2.2.2.2.1|with_reducible refine zk.h.2.2.2.2.2.2.2.1|with_reducible refine zk.h.2.2.2.2.2.2.2.2.1|with_reducible refine zk.h.2.2.2.2.2.2.2.2.2.1|with_reducible refine zk.h.2.2.2.2.2.2.2.2.2.2.1))
 . repeat' (first|exact .T|apply Df.C|exact .A)):G:=s.1 c x ⟨k⟩
theorem Wp {G H C X:Prop} (c:C) (x:X) (k:H) (s:(∀(zc:C) (zx:X) (zk:Kp H),G)/\Df H:=by
 constructor
 . unhygienic intros
   (try have z1:=zc.1);(try have z2:=zc.2.1);(try have z3:=zc.2.2.1);(try have z4:=zc.2.2.2.1);(try have z5:=zc.2.2.2.2.1);(try have z6:=zc.2.2.2.2.2.1)
   repeat' (first|(refine jK λR hR=>?_;(first|simp [an,ax,zx,hq]|simp [an,ax,zx]);try simp (disch:=omega) only [ay,ap,an,ax])|(refine hR _ _ ?_;try clear hR R)|(refine hK _ _ ?_;try clear hK K)|refine nx ?_|refine wn λK hK=>?_|simp only [wS]|(refine wlG ?_;first|refine wT z1 Tryz.mx (by decide +kernel) λK hK=>?_|refine wT z2 Tryz.mx (by decide +kernel) λK hK=>?_|refine wT z3 Tryz.mx (by decide +kernel) λK hK=>?_|refine wT z4 Tryz.mx (by decide +kernel) λK hK=>?_|refine wT z5 Tryz.mx (by decide +kernel) λK hK=>?_|refine wT z6 Tryz.mx (by decide +kernel) λK hK=>?_)|(refine acG ?_;first|(apply bf.eH;(·(first|apply z1|apply z2|apply z3|apply z4|apply z5|apply z6)<;>first|assumption|(simp [hq];done)|(refine gR ?_;simp [hq];rfl)|(simp [hq,zx];done)|omega|decide);(·exact wA);(·exact sA);(·first|exact pP|exact kP);(first|rintro _ zA rfl hS hw zn|rintro zn zA zn hS hw zn);have hS:=lA hS;(try (have hq:=kI hS hw)))|(apply bV;(·(first|apply z1|apply z2|apply z3|apply z4|apply z5|apply z6)<;>first|assumption|(simp [hq];done)|(refine gR ?_;simp [hq];rfl)|(simp [hq,zx];done)|omega|decide);(first|rintro _ _ ⟨rfl,rfl⟩ zn zn|rintro _ _ ⟨⟨zn,rfl⟩,rfl⟩ zn zn))|((first|apply @Tg.h 10 _ z1|apply @Tg.h 10 _ z2|apply @Tg.h 10 _ z3|apply @Tg.h 10 _ z4|apply @Tg.h 10 _ z5);(·exact wA);(·exact sA);(·first|exact pP|exact kP);)|((first|apply @Tg.h 11 _ z1|apply @Tg.h 11 _ z2|apply @Tg.h 11 _ z3|apply @Tg.h 11 _ z4|apply @Tg.h 11 _ z5);(·exact wA);(·exact sA);(·first|exact pP|exact kP);(·first|omega|(simp;omega)|(simp [hq];done));((first|rintro zn zn zA hS hw zn|rintro zn zA hS hw zn|rintro zn zA hS hw);(try refine⟨zn,?_⟩);(try (have hS:=lA hS));have hq:=kI hS hw))|((first|apply @Tg.h 12 _ z1|apply @Tg.h 12 _ z2|apply @Tg.h 12 _ z3|apply @Tg.h 12 _ z4|apply @Tg.h 12 _ z5);(·exact wA);(·exact sA);(·first|exact pP|exact kP);(·first|exact pP|exact kP);(·first|omega|(simp;omega)|(simp [hq];done));(·first|omega|(simp;omega)|(simp [hq];done));((first|rintro zn zn zA hS hw zn|rintro zn zA hS hw zn|rintro zn zA hS hw);(try refine⟨zn,?_⟩);(try (have hS:=lA hS));have hq:=kI hS hw))|((first|apply @Tg.h 19 _ z1|apply @Tg.h 19 _ z2|apply @Tg.h 19 _ z3|apply @Tg.h 19 _ z4|apply @Tg.h 19 _ z5);(·exact wA);(·exact sA);((first|rintro zn zn zA hS hw zn|rintro zn zA hS hw zn|rintro zn zA hS hw);(try refine⟨zn,?_⟩);(try (have hS:=lA hS));have hq:=kI hS hw))|(apply bf.jd;(·first|apply @Tg.h 20 _ z1|apply @Tg.h 20 _ z2|apply @Tg.h 20 _ z3|apply @Tg.h 20 _ z4|apply @Tg.h 20 _ z5);(·exact wA);(·exact sA);(·exact fP);(·first|exact pP|exact kP);(first|rintro _ zA rfl hS hw zn|rintro zn zA zn hS hw zn);have hS:=lA hS;(try (have hq:=kI hS hw));all_goals(try (first|exact 0|exact undef)))|(apply bf.Oi;(·first|apply @Tg.h 21 _ z1|apply @Tg.h 21 _ z2|apply @Tg.h 21 _ z3|apply @Tg.h 21 _ z4|apply @Tg.h 21 _ z5);(·exact wA);(·exact sA);(·exact fP);(·first|exact pP|exact kP);(first|rintro _ zA rfl hS hw zn|rintro zn zA zn hS hw zn);have hS:=lA hS;(try (have hq:=kI hS hw));all_goals(try (first|exact 0|exact undef)))|(apply bf.useX;(·first|apply @Tg.h 22 _ z1|apply @Tg.h 22 _ z2|apply @Tg.h 22 _ z3|apply @Tg.h 22 _ z4|apply @Tg.h 22 _ z5);(·exact wA);(·exact sA);(·exact fP);(·first|exact pP|exact kP);(first|rintro _ zA rfl hS hw zn|rintro zn zA zn hS hw zn);have hS:=lA hS;(try (have hq:=kI hS hw));all_goals(try (first|exact 0|exact undef)))|((first|apply @Tg.h 31 _ z1|apply @Tg.h 31 _ z2|apply @Tg.h 31 _ z3|apply @Tg.h 31 _ z4|apply @Tg.h 31 _ z5);(·exact wA);(·exact sA);(·exact fP);((first|rintro zn zn zA hS hw|rintro zn zA hS hw);(try dsimp only [bW,AW.bx,aa,af] at hS);have hq:=hqO hS hw);all_goals(try (first|exact 0|exact undef)))|(apply zL;(·first|apply @Tg.h 30 _ z1|apply @Tg.h 30 _ z2|apply @Tg.h 30 _ z3|apply @Tg.h 30 _ z4|apply @Tg.h 30 _ z5);(·exact wA);(·exact sA);(·exact fP);all_goals(try (first|exact 0|exact undef))))|refine wb ?_|refine wr ?_|refine wk ?_|refine we ?_|refine ws ?_|refine wq ?_|(refine wc rfl (λhc=>?_) (λhc=>?_)<;>(try simp at hc)<;>(try omega)<;>(try (simp [h2] at hc;done))<;>(try (simp [h3] at hc;done))<;>(try (simp [h4] at hc;done)))|(refine ib (λhc=>?_) (λhc=>?_)<;>(try omega)<;>(try simp (disch:=omega) only [ay,ap]))|((repeat (first|clear zc|clear zx|clear z1|clear z2|clear z3|clear z4|clear z5|clear z6));(try (revert hq;have zq:=zk;clear zq));(repeat clear hq);(try (revert hS;have zq:=zk;clear zq));(repeat clear hS);(try (revert hw;have zq:=zk;clear zq));(repeat clear hw);(repeat (first|(revert hc;have zq:=zk;clear zq)|(revert zn;have zq:=zk;clear zq)|(revert zA;have zq:=zk;clear zq)|(revert xw;have zq:=zk;clear zq)|(revert K;have zq:=zk;clear zq)|(revert hK;have zq:=zk;clear zq)|(revert R;have zq:=zk;clear zq)|(revert hR;have zq:=zk;clear zq)));first|with_reducible refine zk.h|with_reducible refine zk.h.1))
 . repeat' (first|exact .T|apply Df.C|exact .A)):G:=s.1 c x ⟨k⟩
theorem Wu {G H C X:Prop} (c:C) (x:X) (k:H) (s:(∀(zc:C) (zx:X) (zk:Kp H),G)/\Df H:=by
 constructor
 . unhygienic intros
   (try have z1:=zc.1);(try have z2:=zc.2.1);(try have z3:=zc.2.2.1);(try have z4:=zc.2.2.2.1);(try have z5:=zc.2.2.2.2.1);(try have z6:=zc.2.2.2.2.2.1);(try have z7:=zc.2.2.2.2.2.2.1);(try have z8:=zc.2.2.2.2.2.2.2.1);(try have z9:=zc.2.2.2.2.2.2.2.2.1);(try have Oa:=zc.2.2.2.2.2.2.2.2.2.1);(try have VC:=zc.2.2.2.2.2.2.2.2.2.2.1);(try have VB:=zc.2.2.2.2.2.2.2.2.2.2.2.1);(try have VA:=zc.2.2.2.2.2.2.2.2.2.2.2.2.1)
   repeat' (first|(with_reducible apply lwI;(·first|(simp;done)|(simp;rfl));(·first|(simp;done)|(simp;rfl));(·exact wA);(·exact sA);(·first|exact pP|exact kP|exact pA|exact kA);(·first|(simp;done)|(simp;rfl)|(simp [hq];done)|(simp [hq];rfl));(·first|omega|(simp;omega));(·intro _ _;trivial);rintro zn zn zA hS hw zn;(try have hS:=lA hS);have hq:=kI hS hw)|(with_reducible apply lwU;(·first|(simp;done)|(simp;rfl));(·first|(simp;done)|(simp;rfl));(·exact wA);(·exact sA);(·first|exact pP|exact kP|exact pA|exact kA);(·first|(simp;done)|(simp;rfl)|(simp [hq];done)|(simp [hq];rfl));(·first|omega|(simp;omega));(·intro _ _;trivial);rintro zn zn zA hS hw zn;(try have hS:=lA hS);have hq:=kI hS hw)|(with_reducible apply twI;(·first|(simp;done)|(simp;rfl));(·first|(simp;done)|(simp;rfl));(·exact wA);(·exact sA);(·first|exact pP|exact kP|exact pA|exact kA);(·first|(simp;done)|(simp;rfl)|(simp [hq];done)|(simp [hq];rfl));(·first|omega|(simp;omega));(·intro _ _;trivial);rintro zn zn zA hS hw zn;(try have hS:=lA hS);have hq:=kI hS hw)|(with_reducible apply twU;(·first|(simp;done)|(simp;rfl));(·first|(simp;done)|(simp;rfl));(·exact wA);(·exact sA);(·first|exact pP|exact kP|exact pA|exact kA);(·first|(simp;done)|(simp;rfl)|(simp [hq];done)|(simp [hq];rfl));(·first|omega|(simp;omega));(·intro _ _;trivial);rintro zn zn zA hS hw zn;(try have hS:=lA hS);have hq:=kI hS hw)|(refine Sw λR hR=>?_;(first|simp [an,ax,zx,hq]|simp [an,ax,zx]);try simp (disch:=omega) only [ay,ap,an,ax])|(refine QZ (λR hR=>?_) (λR hR=>?_)<;>(first|(with_reducible apply lhI;(·first|(simp;done)|(simp;rfl));(·first|(simp;done)|(simp;rfl));(·exact wA);(·exact sA);(·first|exact pP|exact kP|exact pA|exact kA);(·first|(simp;done)|(simp;rfl)|(simp [hq];done)|(simp [hq];rfl));(·first|omega|(simp;omega));(·intro _ _;trivial);rintro zn zn zA hS hw zn;(try have hS:=lA hS);have hq:=kI hS hw)|(with_reducible apply lhU;(·first|(simp;done)|(simp;rfl));(·first|(simp;done)|(simp;rfl));(·exact wA);(·exact sA);(·first|exact pP|exact kP|exact pA|exact kA);(·first|(simp;done)|(simp;rfl)|(simp [hq];done)|(simp [hq];rfl));(·first|omega|(simp;omega));(·intro _ _;trivial);rintro zn zn zA hS hw zn;(try have hS:=lA hS);have hq:=kI hS hw)|((first|simp [an,ax,zx,hq]|simp [an,ax,zx]);try simp (disch:=omega) only [ay,ap,an,ax])))|refine Sv ?_|(refine wlG ?_;first|refine Mg z1 Tryz.mx (by decide +kernel) λK hK=>?_|refine Mh z1 Tryz.mx (by decide +kernel) λK hK=>?_|refine Mg z2 Tryz.mx (by decide +kernel) λK hK=>?_|refine Mh z2 Tryz.mx (by decide +kernel) λK hK=>?_|refine Mg z3 Tryz.mx (by decide +kernel) λK hK=>?_|refine Mh z3 Tryz.mx (by decide +kernel) λK hK=>?_|refine Mg z4 Tryz.mx (by decide +kernel) λK hK=>?_|refine Mh z4 Tryz.mx (by decide +kernel) λK hK=>?_|refine Mg z5 Tryz.mx (by decide +kernel) λK hK=>?_|refine Mh z5 Tryz.mx (by decide +kernel) λK hK=>?_|refine Mg z6 Tryz.mx (by decide +kernel) λK hK=>?_|refine Mh z6 Tryz.mx (by decide +kernel) λK hK=>?_|refine Mg z7 Tryz.mx (by decide +kernel) λK hK=>?_|refine Mh z7 Tryz.mx (by decide +kernel) λK hK=>?_|refine Mg z8 Tryz.mx (by decide +kernel) λK hK=>?_|refine Mh z8 Tryz.mx (by decide +kernel) λK hK=>?_|refine Mg z9 Tryz.mx (by decide +kernel) λK hK=>?_|refine Mh z9 Tryz.mx (by decide +kernel) λK hK=>?_|refine Mg Oa Tryz.mx (by decide +kernel) λK hK=>?_|refine Mh Oa Tryz.mx (by decide +kernel) λK hK=>?_|refine Mg VC Tryz.mx (by decide +kernel) λK hK=>?_|refine Mh VC Tryz.mx (by decide +kernel) λK hK=>?_|refine Mg VB Tryz.mx (by decide +kernel) λK hK=>?_|refine Mh VB Tryz.mx (by decide +kernel) λK hK=>?_|refine Mg VA Tryz.mx (by decide +kernel) λK hK=>?_|refine Mh VA Tryz.mx (by decide +kernel) λK hK=>?_)|(refine twG ?_;simp only [bC,vI,mN,Option.map_none,Option.map_some,List.getElem?_toArray,List.getElem?_cons_zero,List.getElem?_cons_succ,List.getD_cons_zero,List.getD_cons_succ,Option.bind_some])|(refine ⟨by simp [hq],?_⟩)|(refine ⟨⟨by simp [hq],by simp [hq],by simp [hq]⟩,?_⟩)|(refine ⟨λA' xL=>by simp [AW.ab,xL],?_⟩)|(refine ⟨λA' xL=>by rw [xL]<;>rfl,?_⟩)|(refine ⟨λA' g1 g2 g3=>by simp [AW.ab,g1,g2,g3],?_⟩)|(refine ⟨λA' x g1 g2 g3=>by simp [AW.ab,g1,g2,g3],?_⟩)|(refine jK λR hR=>?_;(first|simp [an,ax,zx,hq]|simp [an,ax,zx]);try simp (disch:=omega) only [ay,ap,an,ax])|(refine hR _ _ ?_;try clear hR R)|(refine hK _ _ ?_;try clear hK K)|refine nx ?_|refine wn λK hK=>?_|simp only [wS]|(refine wlG ?_;first|refine wT z1 Tryz.mx (by decide +kernel) λK hK=>?_|refine wT z2 Tryz.mx (by decide +kernel) λK hK=>?_|refine wT z3 Tryz.mx (by decide +kernel) λK hK=>?_|refine wT z4 Tryz.mx (by decide +kernel) λK hK=>?_|refine wT z5 Tryz.mx (by decide +kernel) λK hK=>?_|refine wT z6 Tryz.mx (by decide +kernel) λK hK=>?_|refine wT z7 Tryz.mx (by decide +kernel) λK hK=>?_|refine wT z8 Tryz.mx (by decide +kernel) λK hK=>?_|refine wT z9 Tryz.mx (by decide +kernel) λK hK=>?_|refine wT Oa Tryz.mx (by decide +kernel) λK hK=>?_|refine wT VC Tryz.mx (by decide +kernel) λK hK=>?_|refine wT VB Tryz.mx (by decide +kernel) λK hK=>?_|refine wT VA Tryz.mx (by decide +kernel) λK hK=>?_)|(refine acG ?_;first|(apply bf.eH;(·(first|apply z1|apply z2|apply z3|apply z4|apply z5|apply z6|apply z7|apply z8|apply z9|apply Oa|apply VC|apply VB|apply VA)<;>first|assumption|(simp [hq];done)|(refine gR ?_;simp [hq];rfl)|(simp [hq,zx];done)|omega|decide);(·exact wA);(·exact sA);(·first|exact pP|exact kP|exact pA|exact kA);(first|rintro _ zA rfl hS hw zn|rintro zn zA zn hS hw zn);have hS:=lA hS;(try (have hq:=kI hS hw)))|(apply bV;(·(first|apply z1|apply z2|apply z3|apply z4|apply z5|apply z6|apply z7|apply z8|apply z9|apply Oa|apply VC|apply VB|apply VA)<;>first|assumption|(simp [hq];done)|(refine gR ?_;simp [hq];rfl)|(simp [hq,zx];done)|omega|decide);(first|rintro _ _ ⟨rfl,rfl⟩ zn zn|rintro _ _ ⟨⟨zn,rfl⟩,rfl⟩ zn zn))|((first|apply @Tg.h 10 _ z1|apply @Tg.h 10 _ z2|apply @Tg.h 10 _ z3|apply @Tg.h 10 _ z4|apply @Tg.h 10 _ z5);(·exact wA);(·exact sA);(·first|exact pP|exact kP|exact pA|exact kA);)|((first|apply @Tg.h 14 _ z1|apply @Tg.h 14 _ z2|apply @Tg.h 14 _ z3|apply @Tg.h 14 _ z4|apply @Tg.h 14 _ z5);(·exact wA);(·exact sA);(·first|exact pP|exact kP|exact pA|exact kA);(·first|omega|(simp;omega)|(simp [hq];done));)|(apply bf.jd;(·first|apply @Tg.h 20 _ z1|apply @Tg.h 20 _ z2|apply @Tg.h 20 _ z3|apply @Tg.h 20 _ z4|apply @Tg.h 20 _ z5);(·exact wA);(·exact sA);(·exact fP);(·first|exact pP|exact kP|exact pA|exact kA);(first|rintro _ zA rfl hS hw zn|rintro zn zA zn hS hw zn);have hS:=lA hS;(try (have hq:=kI hS hw));all_goals(try (first|exact 0|exact undef)))|(apply bf.Oi;(·first|apply @Tg.h 21 _ z1|apply @Tg.h 21 _ z2|apply @Tg.h 21 _ z3|apply @Tg.h 21 _ z4|apply @Tg.h 21 _ z5);(·exact wA);(·exact sA);(·exact fP);(·first|exact pP|exact kP|exact pA|exact kA);(first|rintro _ zA rfl hS hw zn|rintro zn zA zn hS hw zn);have hS:=lA hS;(try (have hq:=kI hS hw));all_goals(try (first|exact 0|exact undef)))|(apply zL;(·first|apply @Tg.h 30 _ z1|apply @Tg.h 30 _ z2|apply @Tg.h 30 _ z3|apply @Tg.h 30 _ z4|apply @Tg.h 30 _ z5);(·exact wA);(·exact sA);(·exact fP);all_goals(try (first|exact 0|exact undef)))|(apply d8.eH;(·first|apply @Tg.h 32 _ z1|apply @Tg.h 32 _ z2|apply @Tg.h 32 _ z3|apply @Tg.h 32 _ z4|apply @Tg.h 32 _ z5);(·exact wA);(·exact sA);(·first|exact pP|exact kP|exact pA|exact kA);(first|rintro xw _ zA rfl hS hw zn|rintro xw zn zA zn hS hw zn);(try (have hS:=lA hS));(try (have hq:=kI hS hw)))|((first|apply d8.eH (@Tg.h 36 _ z1 _)|apply d8.eH (@Tg.h 36 _ z2 _)|apply d8.eH (@Tg.h 36 _ z3 _)|apply d8.eH (@Tg.h 36 _ z4 _)|apply d8.eH (@Tg.h 36 _ z5 _)|apply d8.eH (@Tg.h 36 _ z1 _ _ _ _ _ _)|apply d8.eH (@Tg.h 36 _ z2 _ _ _ _ _ _)|apply d8.eH (@Tg.h 36 _ z3 _ _ _ _ _ _)|apply d8.eH (@Tg.h 36 _ z4 _ _ _ _ _ _)|apply d8.eH (@Tg.h 36 _ z5 _ _ _ _ _ _)|apply d8.eH (@Tg.h 36 _ z1 _ _ _ _ _ _ _ _ _)|apply d8.eH (@Tg.h 36 _ z2 _ _ _ _ _ _ _ _ _)|apply d8.eH (@Tg.h 36 _ z3 _ _ _ _ _ _ _ _ _)|apply d8.eH (@Tg.h 36 _ z4 _ _ _ _ _ _ _ _ _)|apply d8.eH (@Tg.h 36 _ z5 _ _ _ _ _ _ _ _ _)|apply d8.eH (@Tg.h 36 _ z1 _ _ _ _ _ _ _ _ _ _)|apply d8.eH (@Tg.h 36 _ z2 _ _ _ _ _ _ _ _ _ _)|apply d8.eH (@Tg.h 36 _ z3 _ _ _ _ _ _ _ _ _ _)|apply d8.eH (@Tg.h 36 _ z4 _ _ _ _ _ _ _ _ _ _)|apply d8.eH (@Tg.h 36 _ z5 _ _ _ _ _ _ _ _ _ _));(·exact wA);(·exact sA);(·first|exact pP|exact kP|exact pA|exact kA);(first|rintro xw _ zA rfl hS hw zn|rintro xw zn zA zn hS hw zn);(try (have hS:=lA hS));(try (have hq:=kI hS hw)))|((first|apply bf.eH (@Tg.h 37 _ z1 _)|apply bf.eH (@Tg.h 37 _ z2 _)|apply bf.eH (@Tg.h 37 _ z3 _)|apply bf.eH (@Tg.h 37 _ z4 _)|apply bf.eH (@Tg.h 37 _ z5 _)|apply bf.eH (@Tg.h 37 _ z1 _ _ _ _ _ _)|apply bf.eH (@Tg.h 37 _ z2 _ _ _ _ _ _)|apply bf.eH (@Tg.h 37 _ z3 _ _ _ _ _ _)|apply bf.eH (@Tg.h 37 _ z4 _ _ _ _ _ _)|apply bf.eH (@Tg.h 37 _ z5 _ _ _ _ _ _)|apply bf.eH (@Tg.h 37 _ z1 _ _ _ _ _ _ _ _ _)|apply bf.eH (@Tg.h 37 _ z2 _ _ _ _ _ _ _ _ _)|apply bf.eH (@Tg.h 37 _ z3 _ _ _ _ _ _ _ _ _)|apply bf.eH (@Tg.h 37 _ z4 _ _ _ _ _ _ _ _ _)|apply bf.eH (@Tg.h 37 _ z5 _ _ _ _ _ _ _ _ _));(·exact wA);(·exact sA);(·first|exact pP|exact kP|exact pA|exact kA);(first|rintro _ zA rfl hS hw zn|rintro zn zA zn hS hw zn);have hS:=lA hS;(try (have hq:=kI hS hw)))|(apply bf.TE;(·first|apply @Tg.h 34 _ z1|apply @Tg.h 34 _ z2|apply @Tg.h 34 _ z3|apply @Tg.h 34 _ z4|apply @Tg.h 34 _ z5);(·exact wA);(·exact sA);(·exact fT);(·first|exact pP|exact kP|exact pA|exact kA);(first|rintro _ zA rfl hS hw zn|rintro zn zA zn hS hw zn);(try (have hS:=lA hS));(try (have hq:=kI hS hw));all_goals(try (first|exact 0|exact undef)))|(apply d8.TE;(·first|apply @Tg.h 35 _ z1|apply @Tg.h 35 _ z2|apply @Tg.h 35 _ z3|apply @Tg.h 35 _ z4|apply @Tg.h 35 _ z5);(·exact wA);(·exact sA);(·exact fT);(·first|exact pP|exact kP|exact pA|exact kA);(first|rintro xw _ zA rfl hS hw zn|rintro xw zn zA zn hS hw zn);(try (have hS:=lA hS));(try (have hq:=kI hS hw));all_goals(try (first|exact 0|exact undef))))|refine wb ?_|refine wr ?_|refine wk ?_|refine we ?_|refine ws ?_|refine wq ?_|(refine wc rfl (λhc=>?_) (λhc=>?_)<;>(try simp at hc)<;>(try omega)<;>(try (simp [h2] at hc;done))<;>(try (simp [h3] at hc;done))<;>(try (simp [h4] at hc;done)))|(refine ib (λhc=>?_) (λhc=>?_)<;>(try omega)<;>(try simp (disch:=omega) only [ay,ap]))|((repeat (first|clear zc|clear zx|clear z1|clear z2|clear z3|clear z4|clear z5|clear z6|clear z7|clear z8|clear z9|clear Oa|clear VC|clear VB|clear VA));(try (revert hq;have zq:=zk;clear zq));(repeat clear hq);(try (revert hS;have zq:=zk;clear zq));(repeat clear hS);(try (revert hw;have zq:=zk;clear zq));(repeat clear hw);(repeat (first|(revert hc;have zq:=zk;clear zq)|(revert zn;have zq:=zk;clear zq)|(revert zA;have zq:=zk;clear zq)|(revert xw;have zq:=zk;clear zq)|(revert K;have zq:=zk;clear zq)|(revert hK;have zq:=zk;clear zq)|(revert R;have zq:=zk;clear zq)|(revert hR;have zq:=zk;clear zq)));first|with_reducible refine zk.h|with_reducible refine zk.h.1|with_reducible refine zk.h.2.1))
 . repeat' (first|exact .T|apply Df.C|exact .A)):G:=s.1 c x ⟨k⟩
end
theorem cy:True:=trivial
theorem bF [Gl]:(∀(A:AW) (i:Nat),A.cD i=match A.bt i with|some (.cells cs _ _)=>some cs|_=>none)/\∀(P:Program) (A:AW) (t:TypeId) (p:Addr) (v:Value),aD P A t p v=match A.bt p.block,P.info? t with|some (.cells cs true unit),some i=>if v.cells.size=i.size/\p.off+i.size<=cs.length/\v.cells.toList.all Value.oneCell' then some (A.set p.block (some (.cells (eD cs p.off v.cells.toList) true unit))) else none|_,_=>none:=⟨AW.ab,@aD.eq_1⟩
theorem aH [Gl] {P:Program} {f:FuncId} {fn:Func} {c:Code} {args:List Value} {A:AW} {R:Value->AW->Prop} (hf:P.funcs[f]? = some fn) (h:A.Wf->cB P fn.ntmps c (aS P fn R) (B3 args) A) (hb:fn.body=some c:=by rfl) (lq:If fn args.length=true:=by kernel_rfl):az P f args A R:=zX hf hb lq h
theorem D9 {i:Nat} (h:i<9223372036854775807:=by omega):IntKind.i64.wrap ((i:Int)+1)=((i+1:Nat):Int):=an (by omega) (by omega)
end Go.Stx
