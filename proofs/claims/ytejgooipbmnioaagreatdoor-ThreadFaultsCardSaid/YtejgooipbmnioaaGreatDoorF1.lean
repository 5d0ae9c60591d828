/-
 Contracts over the abstract memory: slices, assertions, maps, regions that draw their order.
-/
import Derived.Test.YtejgooipbmnioaaGreatDoorF0
import Derived.Sort.Grow
import Derived.Orders
namespace Go.Stx
open Go
variable [Gl]
set_option linter.unusedSectionVars false
set_option linter.unusedVariables false
def lU (B:Nat) (A:AW) (size:Nat) (v:Value) (n:Nat) (cs:List Value):Prop:=
 (v=.slice none 0 0∧n=0∧cs=[]) ∨
 ∃p c cK,v=.slice (some p) n c∧n≤c∧p.spot=none∧B≤p.block∧A.bR p.block=some (.cells cK true size)∧p.off+n*size≤cK.length∧cs=(cK.drop p.off).take (n*size)
theorem lU.is {B:Nat} {A:AW} {size:Nat} {v:Value} {n:Nat} {cs:List Value} (h:lU B A size v n cs):iF A size v n cs:=by
 rcases h with ⟨h1,h2,h3⟩|⟨p,c,cK,h1,h2,_,_,h3,h4,h5⟩
 · exact .inl ⟨⟨none,h1⟩,h2,h3⟩
 · exact .inr ⟨p,c,cK,true,size,h1,h2,h3,rfl,h4,h5⟩
theorem lU.nil (B:Nat) (A:AW) (size:Nat):lU B A size (.slice none 0 0) 0 []:=.inl ⟨rfl,rfl,rfl⟩
def Co:Value→Option Nat
 | .slice (some p) _ _=>some p.block
 | _=>none
theorem lU.length {B:Nat} {A:AW} {size:Nat} {v:Value} {n:Nat} {cs:List Value} (h:lU B A size v n cs):cs.length=n*size:=h.is.length
theorem zz {A:AW} {size:Nat} {x:Value} {m:Nat} {kh:List Value} (h:hY A size x=some (m,kh)):kh.length=m*size:=by
 unfold hY at h
 split at h
 · simp only [Option.some.injEq,Prod.mk.injEq] at h
   obtain⟨rfl,rfl⟩:=h
   simp
 · split at h
   · simp only [Option.some.injEq,Prod.mk.injEq] at h
     obtain⟨rfl,rfl⟩:=h
     simp
   · split at h
     · split at h
       · simp only [Option.some.injEq,Prod.mk.injEq] at h
         obtain⟨rfl,rfl⟩:=h
         simp
         omega
       · cases h
     · cases h
 · cases h
theorem rt {P:Program} {A:AW} {t e:TypeId} {i:TypeInfo} {z:Value} {B:Nat} {v x:Value} {n m size:Nat} {cs kh:List Value}
 (hu:P.underlying t=some (.slice e)) (hi:P.info? e=some i) (hz:i.zero=some z) (fH:i.size=size) (mr:z.cells.size=size) (h0:0<size)
 (uu:lU B A size v n cs) (jH:hY A size x=some (m,kh)) (lQ:kh.all Value.oneCell'=true) (jX:n+m≤140737488355328) (hb:(n+m)*i.bytes≤140737488355328)
 (hB:B≤A.next) (hw:A.Wf) :
 ∃v' A',fC P A t t v x=some (v',A')∧lU B A' size v' (n+m) (cs++kh)∧(∀A0:AW,A0.next≤B→A0.le A→A0.le A')∧A'.Wf∧A.next≤A'.next∧
  (∀j,j<A.next→Co v≠some j→A'.bR j=A.bR j)∧(v'=v∨Co v'=some A.next):=by
 subst fH
 have bW:=uu.length
 have ER:=zz jH
 by_cases hm:m=0
 · subst hm
   have I8:kh=[]:=List.eq_nil_of_length_eq_zero (by omega)
   subst I8
   have holds:∃b,fB A i.size v=some (b,n,cs):=by
    rcases uu with ⟨rfl,rfl,rfl⟩|⟨p,c,cK,rfl,hc,CO,_,hg,eT,rfl⟩
    · exact⟨none,rfl⟩
    · exact⟨some p,by simp [fB,CO,hg,eT]⟩
   obtain⟨b,th⟩:=holds
   refine⟨v,A,?_,by simpa using uu,fun A0 _ h=>h,hw,Nat.le_refl _,fun j _ _=>rfl,.inl rfl⟩
   simp [fC,hu,hi,hz,mr,h0,jH,th]
 · rcases uu with ⟨rfl,rfl,rfl⟩|⟨p,c,cK,rfl,hc,CO,hBp,hg,eT,rfl⟩
   · refine⟨.slice (some ⟨A.next,0,none⟩) (0+m) (0+m),A.alloc (.cells kh true i.size),?_,?_,fun A0 _ h=>h.trans (AW.le.alloc A _),hw.alloc _,by simp,fun j hj _=>AW.gx _ _ (by omega),.inr rfl⟩
     · have sy:(0+m)*i.bytes≤140737488355328:=hb
       have VQ:0+m≤140737488355328:=jX
       simp only [fC,hu,hi,hz,jH,fB]
       rw [if_pos ⟨mr,h0,trivial⟩,if_neg hm,if_pos ⟨VQ,sy,lQ⟩]
       simp
     · refine .inr ⟨⟨A.next,0,none⟩,0+m,kh,rfl,Nat.le_refl _,rfl,hB,AW.cW _ _,by simp;omega,?_⟩
       simp only [ag,List.drop_zero,Nat.zero_add]
       rw [List.take_of_length_le (by omega)]
   · have dO:=hw.lt hg
     refine⟨.slice (some ⟨A.next,0,none⟩) (n+m) (n+m),(A.set p.block none).alloc (.cells ((cK.drop p.off).take (n*i.size)++kh) true i.size),?_,?_,?_,(hw.set none dO).alloc _,by simp,?_,.inr rfl⟩
     · simp only [fC,hu,hi,hz,jH,fB,hg]
       have EP:¬(p.spot.isSome=true∧c=0∧n=0):=by simp [CO]
       rw [if_pos ⟨mr,h0,trivial⟩,if_neg EP,if_pos ⟨trivial,eT⟩]
       simp only
       rw [if_neg hm,if_pos ⟨jX,hb,lQ⟩]
     · refine .inr ⟨⟨A.next,0,none⟩,n+m,(cK.drop p.off).take (n*i.size)++kh,rfl,Nat.le_refl _,rfl,hB,?_,?_,?_⟩
       · have:=AW.cW (A.set p.block none) (.cells ((cK.drop p.off).take (n*i.size)++kh) true i.size)
         simpa using this
       · have:((cK.drop p.off).take (n*i.size)++kh).length=(n+m)*i.size:=by
          rw [List.length_append,bW,ER,Nat.add_mul]
         show 0+(n+m)*i.size≤_
         omega
       · have:((cK.drop p.off).take (n*i.size)++kh).length=(n+m)*i.size:=by
          rw [List.length_append,bW,ER,Nat.add_mul]
         exact(List.take_of_length_le (Nat.le_of_eq this)).symm
     · intro A0 hA0 hl
       exact(hl.set (by omega) none).trans (AW.le.alloc _ _)
     · intro j hj iX
       rw [AW.gx _ _ (by simp;omega),AW.bV (fun e=>iX (by simp [Co,e]))]
theorem iF.lj {A:AW} {size:Nat} {v:Value} {n:Nat} {cs:List Value} (h:iF A size v n cs):hY A size v=some (n,cs):=by
 rcases h with ⟨⟨o,rfl⟩,rfl,rfl⟩|⟨p,c,cK,own,u,rfl,hc,hg,_,eT,rfl⟩
 · cases o<;>simp [hY]
 · by_cases h0:n=0
   · subst h0;simp [hY]
   · simp [hY,h0,AW.Cs hg,eT]
def fe (B:Nat) (A:AW) (k:IntKind) (v:Value) (l:List Int):Prop:=lU B A 1 v l.length (l.map (Value.int k))
theorem fe.is {B:Nat} {A:AW} {k:IntKind} {v:Value} {l:List Int} (h:fe B A k v l):dB A k v l:=lU.is h
theorem fe.nil (B:Nat) (A:AW) (k:IntKind):fe B A k (.slice none 0 0) []:=lU.nil B A 1
theorem wR {P:Program} {A:AW} {t e:TypeId} {i:TypeInfo} {z:Value} {B:Nat} {v x:Value} {k:IntKind} {l l2:List Int}
 (hu:P.underlying t=some (.slice e)) (hi:P.info? e=some i) (hz:i.zero=some z) (fH:i.size=1) (mr:z.cells.size=1)
 (uu:fe B A k v l) (hx:dB A k x l2) (bW:l.length+l2.length<2 ^ 40) (vI:i.bytes≤8) (hB:B≤A.next) (hw:A.Wf) :
 ∃v' A',fC P A t t v x=some (v',A')∧fe B A' k v' (l++l2)∧(∀A0:AW,A0.next≤B→A0.le A→A0.le A')∧A'.Wf∧A.next≤A'.next:=by
 have hb:(l.length+l2.length)*i.bytes≤140737488355328:=by
  have:=Nat.mul_le_mul_left (l.length+l2.length) vI
  omega
 obtain⟨v',A',h1,h2,h3,h4,h5,_⟩:=rt (P:=P) (t:=t) hu hi hz fH mr (by omega) uu hx.lj (by simp [Value.oneCell']) (by omega) hb hB hw
 refine⟨v',A',h1,?_,h3,h4,h5⟩
 unfold fe
 simpa using h2
end Go.Stx
namespace Go.Stx
open Go
variable [Gl]
set_option linter.unusedSectionVars false
set_option linter.unusedVariables false
def AW.jS:AW:=⟨Gl.N,fun _=>none⟩
def Mp.jS:Mp:=fun g=>if Gl.ok g=true then some ⟨g,0,1,GT g⟩ else none
def AW.Iw (A:AW):Prop:=∀i o,A.bR i=some o→o.own=false
theorem jv.jS (w:World) (hl:∀b x,Gl.B b=some x→w.heap[b]? = some x):jv Mp.jS AW.jS w:=⟨fun i o h=>(by cases h),fun i j o o' p p' h=>(by cases h),fun i hi=>if_neg fun h=>absurd (Gl.lt i h) (by simp only [AW.jS] at hi;omega),fun _ _=>rfl,hl,fun i o p h=>(by cases h),fun g hg=>if_pos hg⟩
theorem AW.Iw.jS:AW.jS.Iw:=fun i o h=>by cases h
theorem zr {P:Program} {f:FuncId} {args:List Value} {fE:Array Value} {A:AW} {m:Mp} {w:World} {R:Value→AW→Prop} (h:aC P f args A R) (hR:∀v A',R v A'→v=.bool true)
 (hs:jv m A w) (DL:A.Iw) (hl:gu m args fE.toList):Calls P f fE w fun e w'=>e=.returned (.bool true)∧RowKit.Below w.heap.size w w':=by
 refine(h.2 m w fE hs hl).mono ?_
 rintro e w' ⟨v,v',m',A',rfl,ev,hv,hr⟩
 have e1:=hR v A' hr
 subst e1
 cases hv
 refine⟨rfl,ev.os,ev.tape,ev.output,ev.size,fun k hk=>ev.qq k hk ?_⟩
 rintro ⟨i,o,p,hi,wH,_⟩
 have:=DL i o hi
 rw [wH] at this
 cases this
end Go.Stx
namespace Go.Stx
open Go
variable [Gl]
set_option linter.unusedSectionVars false
set_option linter.unusedVariables false
theorem pG:∀(l cs:List Value) (off j:Nat),off+l.length≤cs.length→(eI cs off l)[j]? = if off≤j∧j<off+l.length then l[j-off]? else cs[j]?
 | [],cs,off,j,_=>by
   simp [eI]
   omega
 | v::l,cs,off,j,h=>by
   simp only [List.length_cons] at h
   rw [eI,pG l _ (off+1) j (by simp;omega)]
   by_cases h1:off+1≤j∧j<off+1+l.length
   · rw [if_pos h1,if_pos (by simp;omega)]
     rw [show j-off=(j-(off+1))+1 by omega,List.getElem?_cons_succ]
   · rw [if_neg h1]
     by_cases h2:off=j
     · subst h2
       rw [if_pos (by simp),List.getElem?_set_self (by omega)]
       simp
     · rw [if_neg (by simp;omega),List.getElem?_set_ne h2]
theorem As (w:World) (b:Nat) (f:Array Value→Array Value) {iB:Array Value} {e:TypeId} {fr:Nat×Nat} (h:w.heap[b]? = some (.cells iB e fr)) :
 (Go.Sort.mapBlock w b f).heap[b]? = some (.cells (f iB) e fr):=by
 simp [Go.Sort.mapBlock,Array.getElem?_modify,h,Go.Sort.onCells]
theorem yJ (w:World) (b j:Nat) (f:Array Value→Array Value) (h:j≠b):(Go.Sort.mapBlock w b f).heap[j]? = w.heap[j]?:=by
 simp [Go.Sort.mapBlock,Array.getElem?_modify,Ne.symm h]
theorem F9 {m:Mp} {A:AW} {w:World} (hs:jv m A w) {i off:Nat} {q:Pl} {cK:List Value} {k:IntKind} (d:List Int)
 (hg:A.bR i=some (.cells cK true 1)) (hm:m i=some q) (ng:off+d.length≤cK.length) :
 iG m A w m (A.set i (some (.cells (eI cK off (d.map (Value.int k))) true 1))) (Go.Sort.putRow (Value.int k) w q.block (q.base+off) d.toArray):=by
 obtain⟨p',Ja,iB,e',fr,hw,qB,hu,vB,vH⟩:=hs.Bq _ _ hg
 rw [hm] at Ja
 injection Ja with Ja
 subst Ja
 obtain rfl:=qB rfl
 refine iG.set hs hg hm hu (by simp [Go.Sort.putRow,Go.Sort.mapBlock]) rfl rfl rfl (As w q.block _ hw) (by simpa [Go.Sort.putCells] using vB) (fun j hj=>yJ w _ _ _ hj) ?_
 intro j v hv
 rw [pG _ _ _ _ (by simpa using ng)] at hv
 simp only [List.length_map] at hv
 by_cases hj:off≤j∧j<off+d.length
 · rw [if_pos hj,List.getElem?_map,List.getElem?_eq_getElem (by omega)] at hv
   injection hv with hv
   subst hv
   obtain⟨v0,h0,_⟩:=vH j cK[j] (List.getElem?_eq_getElem (by omega))
   refine⟨.int k d[j-off],?_,.int _ _⟩
   have dO:=(Array.getElem?_eq_some_iff.1 h0).1
   simp only [Go.Sort.putCells,Array.getElem?_mapIdx,h0,Option.map_some,List.size_toArray]
   rw [if_pos (by omega)]
   have e1:q.base+j-(q.base+off)=j-off:=by omega
   rw [e1,getElem!_pos d.toArray (j-off) (by simp;omega)]
   simp
 · rw [if_neg hj] at hv
   obtain⟨v0,h0,h1⟩:=vH j v hv
   refine⟨v0,?_,h1⟩
   simp only [Go.Sort.putCells,Array.getElem?_mapIdx,h0,Option.map_some,List.size_toArray]
   rw [if_neg (by omega)]
theorem iG.ahead {m:Mp} {A:AW} {w:World} (h:jv m A w) (n:Nat):iG m A w m A (Go.Sort.ahead w n):=
 ⟨Mp.le_refl m,h.CB rfl,Nat.le_refl _,rfl,rfl,rfl,Nat.le_refl _,fun _ _ _=>rfl,fun _ h=>.inl h,fun _ _=>rfl,fun _ h=>.inl h⟩
theorem iG.EZ {m:Mp} {A:AW} {w:World} (h:jv m A w) (os:Array Obj):iG m A w m A (Go.Sort.grow w os):=by
 have eo:∀b,b<w.heap.size→(Go.Sort.grow w os).heap[b]? = w.heap[b]?:=fun b hb=>by
  show (w.heap++os)[b]? = _
  rw [Array.getElem?_append_left hb]
 exact⟨Mp.le_refl m,JY.zO eo h,Nat.le_refl _,rfl,rfl,rfl,by simp [Go.Sort.grow],fun b hb _=>eo b hb,fun _ h=>.inl h,fun _ _=>rfl,fun _ h=>.inl h⟩
theorem HG {P:Program} {f:FuncId} (cL:iP P f=true) {n c:Nat} {A:AW} {p:Addr} {k:IntKind} {l d:List Int} {cK:List Value} {rv:Value} {ret:Addr→Nat→Value}
 (hn:n=l.length) (h0:0<l.length) (hc:n≤c) (hg:A.bR p.block=some (.cells cK true 1)) (ng:p.off+n≤cK.length) (hl:l.map (Value.int k)=(cK.drop p.off).take n) (hd:d.length=l.length)
 (PF:∀m a' gt,wa m p a' gt→c≤gt→bG m rv (ret a' gt))
 (LD:∀iD off ew w,Go.Sort.Holds (Value.int k) w iD off l.toArray→iD<w.heap.size→l.length≤ew→Calls P f #[.slice (some ⟨iD,off,none⟩) l.length ew] w fun e w'=>
  e=.returned (ret ⟨iD,off,none⟩ ew)∧∃n os,w'=Go.Sort.grow (Go.Sort.putRow (Value.int k) (Go.Sort.ahead w n) iD off d.toArray) os) :
 aC P f [.slice (some p) n c] A fun u A'=>u=rv∧A'=A.set p.block (some (.cells (eI cK p.off (d.map (Value.int k))) true 1)):=by
 subst hn
 refine⟨cL,fun m w fE hs H7=>?_⟩
 obtain⟨v',t',e1,hv,ht⟩:=H7.kI
 have e2:=ht.oh
 subst e2
 have ec:fE = #[v']:=by apply Array.ext';exact e1
 subst ec
 cases hv with
 | slice hh h1 h2=>
   rename_i a' gt
   have xC:wa m p a' gt:=by
    rcases hh with hh|hh
    · exact hh
    · omega
   have U4:=xC
   obtain⟨g1,g2,q,g3,g4,g5,g6⟩:=xC
   obtain⟨p',Ja,iB,e',fr,hw,qB,hu,vB,vH⟩:=hs.Bq _ _ hg
   rw [g3] at Ja
   injection Ja with Ja
   subst Ja
   obtain rfl:=qB rfl
   have ea:a'=⟨q.block,q.base+p.off,none⟩:=by rw [uO a' g2,g4,g5]
   subst ea
   have hH:Go.Sort.Holds (Value.int k) w q.block (q.base+p.off) l.toArray:=by
    intro j hj
    have vC:j<l.length:=by simpa using hj
    have dG:cK[p.off+j]? = some (.int k l[j]):=by
     have:(l.map (Value.int k))[j]? = some (.int k l[j]):=by rw [List.getElem?_map,List.getElem?_eq_getElem vC];rfl
     rw [hl,List.getElem?_take_of_lt vC,List.getElem?_drop] at this
     exact this
    obtain⟨v0,h3,h4⟩:=vH _ _ dG
    cases h4
    rw [getElem!_pos l.toArray j hj]
    simp only [World.cell?,World.frozen?,hw]
    rw [Nat.add_assoc]
    simp [h3]
   refine(LD q.block (q.base+p.off) gt w hH (Array.getElem?_eq_some_iff.1 hw).1 (by omega)).mono ?_
   rintro e w' ⟨rfl,n,os,rfl⟩
   refine⟨rv,_,m,A.set p.block (some (.cells (eI cK p.off (d.map (Value.int k))) true 1)),rfl,?_,PF m _ gt U4 h2,rfl,rfl⟩
   have Sr:=iG.ahead hs n
   have G5:=F9 (k:=k) Sr.zO d hg g3 (off:=p.off) (by omega)
   exact(Sr.trans G5).trans (iG.EZ G5.zO os)
theorem aC.jS {P:Program} {f:FuncId} (cL:iP P f=true) {o:Option Addr} {c:Nat} {A:AW} {rv:Value} {ret:Option Addr→Nat→Value}
 (PF:∀m o' c',bG m (.slice o 0 c) (.slice o' 0 c')→bG m rv (ret o' c'))
 (LD:∀o' c' w,Calls P f #[.slice o' 0 c'] w fun e w'=>e=.returned (ret o' c')∧w'=w) :
 aC P f [.slice o 0 c] A fun u A'=>u=rv∧A=A':=by
 refine⟨cL,fun m w fE hs H7=>?_⟩
 obtain⟨v',t',e1,hv,ht⟩:=H7.kI
 have e2:=ht.oh
 subst e2
 have ec:fE = #[v']:=by apply Array.ext';exact e1
 subst ec
 have QO:∃o' c',v'=.slice o' 0 c':=by
  cases hv<;>exact⟨_,_,rfl⟩
 obtain⟨o',c',rfl⟩:=QO
 refine(LD o' c' w).mono ?_
 rintro e w' ⟨rfl,rfl⟩
 exact⟨rv,_,m,A,rfl,iG.refl hs,PF m _ _ hv,rfl,rfl⟩
theorem fe.dJ {B:Nat} {A:AW} {k:IntKind} {v:Value} {l:List Int} (h:fe B A k v l) :
 (∃o c,v=.slice o 0 c∧l=[]∧0≤c)∨∃p c cK,v=.slice (some p) l.length c∧0<l.length∧l.length≤c∧p.spot=none∧B≤p.block∧A.bR p.block=some (.cells cK true 1)∧
  p.off+l.length≤cK.length∧l.map (Value.int k)=(cK.drop p.off).take l.length:=by
 rcases h with ⟨h1,h2,h3⟩|⟨p,c,cK,h1,h2,hs,hB,h3,h4,h5⟩
 · exact .inl ⟨none,0,h1,List.eq_nil_of_length_eq_zero h2,Nat.le_refl _⟩
 · by_cases h0:l.length=0
   · rw [h0] at h1
     exact .inl ⟨some p,c,h1,List.eq_nil_of_length_eq_zero h0,Nat.zero_le _⟩
   · exact .inr ⟨p,c,cK,h1,by omega,h2,hs,hB,h3,by simpa using h4,by simpa using h5⟩
theorem yA {B:Nat} {A:AW} {k:IntKind} {p:Addr} {c n:Nat} {cK:List Value} (d z:List Int) (hw:A.Wf) (hB:B≤p.block) (hs:p.spot=none) (hg:A.bR p.block=some (.cells cK true 1))
 (ng:p.off+(d++z).length≤cK.length) (hc:d.length≤c) (hn:n=d.length) :
 fe B (A.set p.block (some (.cells (eI cK p.off ((d++z).map (Value.int k))) true 1))) k (.slice (some p) n c) d:=by
 subst hn
 refine .inr ⟨p,c,_,rfl,hc,hs,hB,AW.el,?_,?_⟩
 · rw [xh]
   simp at ng
   omega
 · apply List.ext_getElem?
   intro j
   by_cases hj:j<d.length
   · rw [List.getElem?_take_of_lt (by omega),List.getElem?_drop,pG _ _ _ _ (by simpa using ng),if_pos (by simp;omega)]
     rw [show p.off+j-p.off=j by omega,List.map_append,List.getElem?_append_left (by simpa using hj)]
   · rw [List.getElem?_eq_none (by simp;omega),List.getElem?_eq_none (by simp;omega)]
end Go.Stx
namespace Go.Stx
open Go
variable [Gl]
set_option linter.unusedSectionVars false
set_option linter.unusedVariables false
def jc (bE:Array Oper):Bool:=(List.range bE.size).all fun i=>match bE[i]? with
 | some o=>o.after.toList.all fun e=>!Region.binds .any e || Nat.ble (e.on+1) i
 | none=>true
theorem jZ {bE:Array Oper} (qt:jc bE=true) {i:Nat} {o:Oper} (ho:bE[i]? = some o) {e:Edge} (he:e∈o.after) (hb:Region.binds .any e=true):e.on<i:=by
 have ha:=List.all_eq_true.1 qt i (List.mem_range.2 (Array.getElem?_eq_some_iff.1 ho).1)
 rw [ho] at ha
 have h2:=List.all_eq_true.1 ha e (Array.mem_toList_iff.2 he)
 rw [hb] at h2
 have h3:e.on+1≤i:=by simpa [Nat.ble_eq] using h2
 omega
def JI (P:Program) (bE:Array Oper) (o:Oper) (a:Fr) (A:AW) (k:Fr→AW→Prop):Prop:=
 if kL bE a o=true then gz P o.op (ip a) A (fun v A'=>k (eb a o.dst v) A') else k (eb a o.dst undef) A
theorem Bj {md:Region.Mode} {bE:Array Oper} {listed:Array Bool} {i:Nat} (h:i∈Region.ready md bE listed) :
 ∃o,bE[i]? = some o∧listed.getD i true=false∧∀e∈o.after,Region.binds md e=true→listed.getD e.on false=true:=by
 simp only [Region.ready,List.mem_filter,List.mem_range,Bool.and_eq_true,Bool.not_eq_true'] at h
 obtain⟨hi,h1,h2⟩:=h
 refine⟨bE[i],Array.getElem?_eq_getElem hi,h1,fun e he hb=>?_⟩
 rw [Array.getElem?_eq_getElem hi] at h2
 simp only [Option.map_some,Option.getD_some] at h2
 have:=Array.all_eq_true_iff_forall_mem.1 h2 e he
 simpa [hb] using this
theorem tv {bE:Array Oper} (qt:jc bE=true) {listed:Array Bool} (qF:listed.size=bE.size) (hr:Region.ready .any bE listed=[]) :
 ∀n i,i<n→i<bE.size→listed.getD i false=true
 | 0,i,h,_=>by omega
 | n+1,i,h,hi=>by
   by_cases ti:i<n
   · exact tv qt qF hr n i ti hi
   · by_cases hl:listed.getD i false=true
     · exact hl
     · exfalso
       have DN:i<listed.size:=by omega
       have I9:i∈Region.ready .any bE listed:=by
        simp only [Region.ready,List.mem_filter,List.mem_range,Bool.and_eq_true,Bool.not_eq_true']
        refine⟨hi,?_,?_⟩
        · rw [Array.getD_eq_getD_getElem?,Array.getElem?_eq_getElem DN] at hl ⊢
          simpa using hl
        · rw [Array.getElem?_eq_getElem hi]
          simp only [Option.map_some,Option.getD_some]
          refine Array.all_eq_true_iff_forall_mem.2 fun e he=>?_
          cases hb:Region.binds .any e with
          | false=>simp
          | true=>
            have dO:=jZ qt (Array.getElem?_eq_getElem hi) he hb
            have:=tv qt qF hr n e.on (by omega) (by omega)
            simp [this]
       rw [hr] at I9
       cases I9
theorem Io {P:Program} {n:Nat} {Q:Exit→Fr→AW→Prop} {a:Fr} {A:AW} {id:Nat} {bE:Array Oper} (hm:P.follows .mixedOrders=true) (qt:jc bE=true)
 (J:(Nat→Bool)→Fr→AW→Prop) (h0:J (fun _=>false) a A)
 (uq:∀S a A i o,A.Wf→J S a A→bE[i]? = some o→S i=false→(∀e∈o.after,Region.binds .any e=true→S e.on=true)→JI P bE o a A (J fun j=>if j=i then true else S j))
 (pm:∀S a A,A.Wf→J S a A→(∀i,i<bE.size→S i=true)→Q .normal a A):eg P n (.region id bE true) Q a A:=by
 intro ko m w ca hs hf
 have yS:bE.all (kz n)=true:=ko
 refine wp_region_any hm ?_
 have key:∀(CX:Nat) (listed:Array Bool) (S:Nat→Bool) (a':Fr) (A':AW) (m':Mp) (w':World) (uY:Act),listed.size=bE.size→(∀i,i<bE.size→listed.getD i false=S i)→
  (List.range bE.size).countP (fun i=>!S i)≤CX→J S a' A'→iG m A w m' A' w'→oP m' n a' uY→
  wpAny P .any bE (fun e uY w'=>∃m' a' A',iG m A w m' A' w'∧oP m' n a' uY∧Q e a' A') CX listed uY w':=by
  intro CX
  induction CX with
  | zero=>
    intro listed S a' A' m' w' uY qF hS Sb hJ No qB
    have jp:∀i,i<bE.size→S i=true:=by
     intro i hi
     have:=List.countP_eq_zero.1 (Nat.le_zero.1 Sb) i (List.mem_range.2 hi)
     simpa using this
    refine⟨?_,m',a',A',No,qB,pm S a' A' No.zO.DJ hJ jp⟩
    rw [List.eq_nil_iff_forall_not_mem]
    intro i hi
    obtain⟨o,ho,hl,_⟩:=Bj hi
    have uV:=(Array.getElem?_eq_some_iff.1 ho).1
    have:=hS i uV
    rw [jp i uV] at this
    rw [Array.getD_eq_getD_getElem?,Array.getElem?_eq_getElem (by omega)] at this hl
    simp only [Option.getD_some] at this hl
    rw [this] at hl
    cases hl
  | succ CX ih=>
    intro listed S a' A' m' w' uY qF hS Sb hJ No qB
    refine⟨fun hr=>⟨m',a',A',No,qB,pm S a' A' No.zO.DJ hJ fun i hi=>?_⟩,fun i hi=>?_⟩
    · rw [←hS i hi]
      exact tv qt qF hr (i+1) i (by omega) hi
    · obtain⟨o,ho,hl,iq⟩:=Bj hi
      have uV:=(Array.getElem?_eq_some_iff.1 ho).1
      have ot:S i=false:=by
       rw [←hS i uV]
       rw [Array.getD_eq_getD_getElem?,Array.getElem?_eq_getElem (by omega)] at hl ⊢
       simpa using hl
      have R6:∀e∈o.after,Region.binds .any e=true→S e.on=true:=by
       intro e he hb
       have h1:=iq e he hb
       have dO:=jZ qt ho he hb
       rw [←hS e.on (by omega)]
       exact h1
      have cX:=uq S a' A' i o No.zO.DJ hJ ho ot R6
      have Ve:=Array.all_eq_true_iff_forall_mem.1 yS o (Array.mem_of_getElem? ho)
      have OD:(List.range bE.size).countP (fun j=>!(if j=i then true else S j))≤CX:=by
       have e1:(List.range bE.size).countP (fun j=>!(if j=i then true else S j))+1≤(List.range bE.size).countP (fun j=>!S j):=by
        have I9:i∈List.range bE.size:=List.mem_range.2 uV
        have UT:∀l:List Nat,i∈l→l.countP (fun j=>!(if j=i then true else S j))+1≤l.countP (fun j=>!S j):=by
         intro l
         have mono:∀l:List Nat,l.countP (fun j=>!(if j=i then true else S j))≤l.countP (fun j=>!S j):=fun l=>by
          refine List.countP_mono_left fun x _ hx=>?_
          by_cases e:x=i
          · simp [e] at hx
          · simpa [e] using hx
         induction l with
         | nil=>intro h;cases h
         | cons x l ihl=>
           intro hx
           rw [List.countP_cons,List.countP_cons]
           by_cases e:x=i
           · subst e
             have:=mono l
             simp [ot]
             simpa using this
           · have Py:i∈l:=by
              rcases List.mem_cons.1 hx with h|h
              · exact absurd h.symm e
              · exact h
             have:=ihl Py
             simp only [e,if_false]
             omega
        exact UT _ I9
       omega
      have mh:∀j,j<bE.size→(listed.setIfInBounds i true).getD j false=if j=i then true else S j:=by
       intro j hj
       by_cases e:j=i
       · subst e
         rw [if_pos rfl,Array.getD_eq_getD_getElem?,Array.getElem?_setIfInBounds_self_of_lt (by omega)]
         rfl
       · rw [if_neg e,←hS j hj,Array.getD_eq_getD_getElem?,Array.getD_eq_getD_getElem?,Array.getElem?_setIfInBounds_ne (by omega)]
      unfold JI at cX
      unfold wpOp
      rw [ho]
      simp only
      rw [BE qB yS o]
      split at cX
      · rename_i hg
        rw [if_pos hg]
        refine .inl (wg No.zO qB Ve cX ?_)
        intro v A2 m2 w2 Sy hk G5 FE
        exact ih _ _ _ A2 m2 w2 Sy (by simpa using qF) mh OD hk (No.trans G5) FE
      · rename_i hg
        rw [if_neg hg]
        simp only [kz,Bool.and_eq_true] at Ve
        have hd:∀j,o.dst=some j→j<n:=fun j e=>by have:=Ve.2;rw [e] at this;simpa using this
        exact ih _ _ _ A' m' w' _ (by simpa using qF) mh OD cX No (qB.put hd (bG.undef m'))
 refine key bE.size _ (fun _=>false) a A m { w with drawn:=w.drawn+1 } ca (by simp) (fun i hi=>by simp [Array.getD_eq_getD_getElem?,hi]) ?_ h0 (iG.drew hs) hf
 exact Nat.le_trans (List.countP_le_length) (by simp)
end Go.Stx
namespace Go.Stx
open Go
variable [Gl]
set_option linter.unusedSectionVars false
set_option linter.unusedVariables false
abbrev Hp:=Nat→Option dK
def Hp.dj (h k:Hp):Prop:=∀i,h i=none∨k i=none
def Hp.un (h k:Hp):Hp:=fun i=>match h i with|some o=>some o|none=>k i
theorem Hp.Il {h k:Hp} (d:Hp.dj h k):Hp.dj k h:=fun i=>(d i).symm
theorem Hp.HA {h k:Hp} (d:Hp.dj h k):Hp.un h k=Hp.un k h:=by
 funext i
 simp only [Hp.un]
 rcases d i with e|e
 · rw [e];cases k i<;>rfl
 · rw [e];cases h i<;>rfl
theorem Hp.DY (h k l:Hp):Hp.un (Hp.un h k) l=Hp.un h (Hp.un k l):=by
 funext i
 simp only [Hp.un]
 cases h i<;>rfl
theorem Hp.rA {h k:Hp} {i:Nat}:Hp.un h k i=none↔h i=none∧k i=none:=by
 simp only [Hp.un]
 cases h i<;>simp
structure HP where
 holds:Hp→Prop
@[ext] theorem HP.ext' {P Q:HP} (h:∀x,P.holds x↔Q.holds x):P=Q:=by
 obtain⟨p⟩:=P
 obtain⟨q⟩:=Q
 congr
 funext x
 exact propext (h x)
def HP.O8 (P Q:HP):HP:=⟨fun h=>∃h1 h2,Hp.dj h1 h2∧h=Hp.un h1 h2∧P.holds h1∧Q.holds h2⟩
instance:Mul HP:=⟨HP.O8⟩
theorem sT {P Q:HP} {h:Hp}:(P*Q).holds h↔∃h1 h2,Hp.dj h1 h2∧h=Hp.un h1 h2∧P.holds h1∧Q.holds h2:=Iff.rfl
theorem HP.mul_comm (P Q:HP):P*Q=Q*P:=by
 ext h
 simp only [sT]
 constructor
 · rintro ⟨a,b,d,rfl,p,q⟩;exact⟨b,a,Hp.Il d,Hp.HA d,q,p⟩
 · rintro ⟨a,b,d,rfl,p,q⟩;exact⟨b,a,Hp.Il d,Hp.HA d,q,p⟩
theorem HP.cl (P Q R:HP):P*Q*R=P*(Q*R):=by
 ext h
 simp only [sT]
 constructor
 · rintro ⟨_,c,d,rfl,⟨a,b,d1,rfl,p,q⟩,r⟩
   refine⟨a,Hp.un b c,fun i=>?_,Hp.DY _ _ _,p,b,c,fun i=>?_,rfl,q,r⟩
   · rcases d i with e|e
     · exact .inl (Hp.rA.1 e).1
     · rcases d1 i with e1|e1
       · exact .inl e1
       · exact .inr (Hp.rA.2 ⟨e1,e⟩)
   · rcases d i with e|e
     · exact .inl (Hp.rA.1 e).2
     · exact .inr e
 · rintro ⟨a,_,d,rfl,p,b,c,d1,rfl,q,r⟩
   refine⟨Hp.un a b,c,fun i=>?_,(Hp.DY _ _ _).symm,⟨a,b,fun i=>?_,rfl,p,q⟩,r⟩
   · rcases d1 i with e|e
     · rcases d i with e1|e1
       · exact .inl (Hp.rA.2 ⟨e1,e⟩)
       · exact .inr (Hp.rA.1 e1).2
     · exact .inr e
   · rcases d i with e1|e1
     · exact .inl e1
     · exact .inr (Hp.rA.1 e1).1
instance:Std.Associative (α:=HP) (·* ·):=⟨HP.cl⟩
instance:Std.Commutative (α:=HP) (·* ·):=⟨HP.mul_comm⟩
def eG:HP:=⟨fun h=>h=fun _=>none⟩
def zQ (p:Prop):HP:=⟨fun h=>p∧h=fun _=>none⟩
def nI {α:Type} (P:α→HP):HP:=⟨fun h=>∃x,(P x).holds h⟩
def pt (i:Nat) (o:dK):HP:=⟨fun h=>h=fun j=>if j=i then some o else none⟩
theorem H6 {p:Prop} {P:HP} {h:Hp}:(zQ p*P).holds h↔p∧P.holds h:=by
 simp only [sT]
 constructor
 · rintro ⟨a,b,d,rfl,⟨hp,rfl⟩,q⟩;exact⟨hp,q⟩
 · rintro ⟨hp,q⟩;exact⟨_,h,fun _=>.inl rfl,rfl,⟨hp,rfl⟩,q⟩
theorem Nn {α:Type} {P:α→HP} {Q:HP}:nI P*Q=nI fun x=>P x*Q:=by
 ext h
 constructor
 · rintro ⟨a,b,d,rfl,⟨x,p⟩,q⟩;exact⟨x,a,b,d,rfl,p,q⟩
 · rintro ⟨x,a,b,d,rfl,p,q⟩;exact⟨a,b,d,rfl,⟨x,p⟩,q⟩
theorem hQ (P:HP):eG*P=P:=by
 ext h
 constructor
 · rintro ⟨a,b,d,rfl,rfl,q⟩;exact q
 · intro q;exact⟨_,h,fun _=>.inl rfl,rfl,rfl,q⟩
theorem dg (P:HP):P*eG=P:=by rw [HP.mul_comm,hQ]
def bz (A:AW) (P:HP):Prop:=∃h,P.holds h∧∀i o,h i=some o→A.bR i=some o
def JE (P Q:HP):Prop:=∀h,P.holds h→Q.holds h
theorem JE.refl (P:HP):JE P P:=fun _ h=>h
theorem JE.O8 {P P' Q Q':HP} (h:JE P P') (k:JE Q Q'):JE (P*Q) (P'*Q'):=fun _ ⟨a,b,d,e,p,q⟩=>⟨a,b,d,e,h a p,k b q⟩
theorem JE.left {P P':HP} (Q:HP) (h:JE P P'):JE (P*Q) (P'*Q):=JE.O8 h (JE.refl Q)
theorem bz.bL {A:AW} {P Q:HP} (h:bz A P) (e:JE P Q):bz A Q:=⟨h.choose,e _ h.choose_spec.1,h.choose_spec.2⟩
theorem bz.V7 {A:AW} {P Q F:HP} (h:bz A (P*F)) (e:JE P Q):bz A (Q*F):=h.bL (e.left F)
theorem bz.dH {A:AW} {P Q:HP} (h:bz A P) (e:P=Q):bz A Q:=e▸h
theorem bz.right {A:AW} {P Q:HP} (h:bz A (P*Q)):bz A Q:=by
 obtain⟨_,⟨a,b,d,rfl,p,q⟩,hs⟩:=h
 refine⟨b,q,fun i o hi=>hs i o ?_⟩
 simp only [Hp.un]
 rcases d i with e|e
 · rw [e];exact hi
 · rw [e] at hi;cases hi
theorem bz.left {A:AW} {P Q:HP} (h:bz A (P*Q)):bz A P:=(h.dH (HP.mul_comm P Q)).right
theorem bz.Xz (A:AW):bz A eG:=⟨_,rfl,fun i o h=>by cases h⟩
theorem bz.ex {α:Type} {A:AW} {P:α→HP} {F:HP}:bz A (nI P*F)↔∃x,bz A (P x*F):=by
 rw [Nn]
 constructor
 · rintro ⟨h,⟨x,p⟩,hs⟩;exact⟨x,h,p,hs⟩
 · rintro ⟨x,h,p,hs⟩;exact⟨h,⟨x,p⟩,hs⟩
theorem bz.pr {A:AW} {p:Prop} {F:HP}:bz A (zQ p*F)↔p∧bz A F:=by
 constructor
 · rintro ⟨h,hh,hs⟩;rw [H6] at hh;exact⟨hh.1,h,hh.2,hs⟩
 · rintro ⟨hp,h,hh,hs⟩;exact⟨h,H6.2 ⟨hp,hh⟩,hs⟩
theorem bz.KI {A A':AW} {P:HP} (h:bz A P) (e:∀i o,A.bR i=some o→A'.bR i=some o):bz A' P:=
 ⟨h.choose,h.choose_spec.1,fun i o hi=>e i o (h.choose_spec.2 i o hi)⟩
theorem bz.le {A A':AW} {P:HP} (h:bz A P) (hw:A.Wf) (hl:A.le A'):bz A' P:=h.KI fun i o hi=>hl.qA hw hi
theorem bz.bR {A:AW} {i:Nat} {o:dK} {F:HP} (h:bz A (pt i o*F)):A.bR i=some o:=by
 obtain⟨_,⟨a,b,d,rfl,rfl,q⟩,hs⟩:=h
 exact hs i o (by simp [Hp.un])
theorem bz.ne {A:AW} {i j:Nat} {o o':dK} {F:HP} (h:bz A (pt i o*(pt j o'*F))):i≠j:=by
 obtain⟨_,⟨a,_,d,rfl,rfl,b,c,d1,rfl,rfl,q⟩,hs⟩:=h
 rintro rfl
 rcases d i with e|e
 · simp at e
 · simp [Hp.un] at e
theorem bz.zv {A A':AW} {i:Nat} {o:dK} {F:HP} (h:bz A (pt i o*F)) (e:∀j o',j≠i→A.bR j=some o'→A'.bR j=some o'):bz A' F:=by
 obtain⟨_,⟨a,b,d,rfl,rfl,q⟩,hs⟩:=h
 refine⟨b,q,fun j o' hj=>?_⟩
 have kK:j≠i:=by
  rintro rfl
  rcases d j with e|e
  · simp at e
  · rw [e] at hj;cases hj
 refine e j o' kK (hs j o' ?_)
 simp [Hp.un,kK,hj]
theorem bz.cons {A:AW} {i:Nat} {o:dK} {F:HP} (hg:A.bR i=some o) (h:bz (A.set i none) F):bz A (pt i o*F):=by
 obtain⟨b,q,hs⟩:=h
 have hb:b i=none:=by
  cases LE:b i with
  | none=>rfl
  | some x=>have:=hs i x LE;simp at this
 refine⟨_,⟨_,b,fun j=>?_,rfl,rfl,q⟩,fun j o' hj=>?_⟩
 · by_cases e:j=i
   · subst e;exact .inr hb
   · exact .inl (by simp [e])
 · by_cases e:j=i
   · subst e;simp [Hp.un] at hj;rw [hg,hj]
   · simp [Hp.un,e] at hj
     have:=hs j o' hj
     rwa [AW.bV e] at this
theorem bz.set {A:AW} {i:Nat} {o:dK} {F:HP} (h:bz A (pt i o*F)) (o':dK):bz (A.set i (some o')) (pt i o'*F):=by
 refine bz.cons AW.el (h.zv fun j x hj hx=>?_)
 rw [AW.bV hj,AW.bV hj]
 exact hx
theorem bz.GB {A:AW} {i:Nat} {o:dK} {F:HP} (h:bz A (pt i o*F)):bz (A.set i none) F:=
 h.zv fun j x hj hx=>by rw [AW.bV hj];exact hx
theorem bz.alloc {A:AW} {F:HP} (h:bz A F) (hw:A.Wf) (o:dK):bz (A.alloc o) (pt A.next o*F):=by
 refine bz.cons (AW.cW A o) (h.KI fun j x hx=>?_)
 have:=hw.lt hx
 rw [AW.bV (by omega),AW.gx _ _ (by omega)]
 exact hx
theorem bz.qA {A:AW} {F:HP} (h:bz A F) (hw:A.Wf) (o:dK):bz (A.alloc o) F:=(h.alloc hw o).right
theorem bz.Pn {A:AW} {i j:Nat} {o o':dK} {P F:HP} (h:bz A (pt i o*(P*(pt j o'*F)))):i≠j:=
 bz.ne (h.dH (by ac_rfl:pt i o*(P*(pt j o'*F))=pt i o*(pt j o'*(P*F))))
theorem AW.gi (A:AW) (o:dK) (i:Nat):(A.alloc o).bR i=if i=A.next then some o else A.bR i:=rfl
theorem AW.dX (A:AW) (o:Option dK) (i j:Nat):(A.set i o).bR j=if j=i then o else A.bR j:=rfl
theorem AW.aa (A:AW) (i:Nat):A.cK i=match A.bR i with|some (.cells cs _ _)=>some cs|_=>none:=rfl
theorem AW.Wf.eo {A:AW} (hw:A.Wf) {i:Nat} {o:dK} (hg:A.bR i=some o):(i=A.next)=False∧∀k,(i=A.next+k)=False:=by
 have:=hw.lt hg
 exact⟨eq_false (by omega),fun k=>eq_false (by omega)⟩
theorem bz.post {A:AW} {p:Prop} {Q F:HP} (hp:p) (h:bz A (Q*F)):bz A (zQ p*Q*F):=by
 rw [HP.cl,bz.pr];exact⟨hp,h⟩
theorem bz.mT {A:AW} {p:Prop} {Q F:HP} (h:bz A (zQ p*Q*F)):p∧bz A (Q*F):=by
 rw [HP.cl,bz.pr] at h;exact h
theorem bz.MI {A A':AW} {b:Nat} {o o':dK} {F:HP} (h:bz A (pt b o*F)) (h1:A'.bR b=some o') (hk:∀j x,j≠b→A.bR j=some x→A'.bR j=some x):bz A' (pt b o'*F):=
 bz.cons h1 (h.zv fun j x hj hx=>by rw [AW.bV hj];exact hk j x hj hx)
theorem bz.Uf {A A':AW} {b c:Nat} {o o' p p':dK} {F:HP} (h:bz A (pt b o*(pt c p*F))) (h1:A'.bR b=some o') (h2:A'.bR c=some p')
 (hk:∀j x,j≠b→j≠c→A.bR j=some x→A'.bR j=some x):bz A' (pt b o'*(pt c p'*F)):=by
 have QZ:=h.ne
 have e1:bz (A'.set b (some o)) (pt b o*(pt c p'*F)):=by
  have h':bz A (pt c p*(pt b o*F)):=h.dH (by ac_rfl)
  refine(bz.MI h' (by rw [AW.bV (Ne.symm QZ)];exact h2) fun j x hj hx=>?_).dH (by ac_rfl)
  by_cases e:j=b
  · subst e;rw [AW.el];rw [h.bR] at hx;exact hx
  · rw [AW.bV e];exact hk j x e hj hx
 exact bz.MI e1 h1 fun j x hj hx=>by rwa [AW.bV hj] at hx
theorem bz.Ue {A A':AW} {b c d:Nat} {o o' p p' q q':dK} {F:HP} (h:bz A (pt b o*(pt c p*(pt d q*F)))) (h1:A'.bR b=some o') (h2:A'.bR c=some p') (h3:A'.bR d=some q')
 (hk:∀j x,j≠b→j≠c→j≠d→A.bR j=some x→A'.bR j=some x):bz A' (pt b o'*(pt c p'*(pt d q'*F))):=by
 have QZ:=h.ne
 have Xi:=h.Pn
 have e1:bz (A'.set b (some o)) (pt b o*(pt c p'*(pt d q'*F))):=by
  have h':bz A (pt c p*(pt d q*(pt b o*F))):=h.dH (by ac_rfl)
  refine(bz.Uf h' (by rw [AW.bV (Ne.symm QZ)];exact h2) (by rw [AW.bV (Ne.symm Xi)];exact h3) fun j x hj DM hx=>?_).dH (by ac_rfl)
  by_cases e:j=b
  · subst e;rw [AW.el];rw [h.bR] at hx;exact hx
  · rw [AW.bV e];exact hk j x e hj DM hx
 exact bz.MI e1 h1 fun j x hj hx=>by rwa [AW.bV hj] at hx
theorem bz.LS {A A':AW} {b c:Nat} {o o' p:dK} {F:HP} (h:bz A (pt b o*(pt c p*F))) (h1:A'.bR b=some o') (hk:∀j x,j≠b→j≠c→A.bR j=some x→A'.bR j=some x):bz A' (pt b o'*F):=by
 have QZ:=h.ne
 have h':bz A (pt c p*(pt b o*F)):=h.dH (by ac_rfl)
 have e1:bz (A'.set b (some o)) (pt b o*F):=h'.zv fun j x hj hx=>by
  by_cases e:j=b
  · subst e;rw [AW.el];rw [h.bR] at hx;exact hx
  · rw [AW.bV e];exact hk j x e hj hx
 exact bz.MI e1 h1 fun j x hj hx=>by rwa [AW.bV hj] at hx
theorem bz.E4 {A A':AW} {b c d:Nat} {o o' p q:dK} {F:HP} (h:bz A (pt b o*(pt c p*(pt d q*F)))) (h1:A'.bR b=some o') (hk:∀j x,j≠b→j≠c→j≠d→A.bR j=some x→A'.bR j=some x):bz A' (pt b o'*F):=by
 have QZ:=h.ne
 have Xi:=h.Pn
 have Ic:=h.right.ne
 have e1:bz (A'.set c (some p)) (pt b o'*(pt c p*F)):=by
  refine(bz.LS (b:=b) (c:=d) (o:=o) (p:=q) (F:=pt c p*F) (h.dH (by ac_rfl)) (by rw [AW.bV QZ];exact h1) fun j x hj DM hx=>?_)
  by_cases e:j=c
  · subst e;rw [AW.el];rw [h.right.bR] at hx;exact hx
  · rw [AW.bV e];exact hk j x hj e DM hx
 have e2:bz (A'.set c (some p)) (pt c p*(pt b o'*F)):=e1.dH (by ac_rfl)
 exact e2.zv fun j x hj hx=>by rwa [AW.bV hj] at hx
theorem NH {P:Program} {n:Nat} {c:Code} {Q:Exit→Fr→AW→Prop} {a:Fr} {A:AW} (J:AW→Prop) (hJ:J A) (h:∀A',J A'→eg P n c Q a A'):eg P n c Q a A:=h A hJ
def aV (P:Program) (n:Nat) (c:Code) (Q:Exit→Fr→AW→Prop):Nat→Fr→AW→Prop
 | 0,_,_=>False
 | k+1,a,A=>eg P n c (bH (aV P n c Q k) Q) a A
theorem bu {P:Program} {n:Nat} {c:Code} {Q:Exit→Fr→AW→Prop} {a:Fr} {A:AW} (k:Nat) (h:aV P n c Q k a A):eg P n (.loop c) Q a A:=by
 refine eS (aV P n c Q) k h ?_
 intro k a A h
 cases k with
 | zero=>exact h.elim
 | succ k=>exact L6 h fun e a A hh=>by cases e<;>first|exact⟨k,Nat.lt_succ_self k,hh⟩|exact hh
def mw (P:Program) (f:FuncId) (args:List Value) (nG:HP) (post:Value→HP):Prop:=
 ∀(A:AW) (F:HP),A.Wf→bz A (nG*F)→aC P f args A fun v A'=>bz A' (post v*F)
theorem mw.use {P:Program} {f:FuncId} {args:List Value} {nG:HP} {post:Value→HP} (h:mw P f args nG post) {A:AW} {G F:HP} (hw:A.Wf) (hs:bz A G) (e:G=nG*F) {k:Value→AW→Prop}
 (hk:∀v A',bz A' (post v*F)→A'.Wf→A.next≤A'.next→k v A'):aC P f args A k:=
 bT (h A F hw (hs.dH e)) hk
end Go.Stx
namespace Go.Stx
open Go
variable [Gl]
set_option linter.unusedSectionVars false
set_option linter.unusedVariables false
def eE (n:Nat) (v:Value):Prop:=∀(m m':Mp) (x:Value),bG m v x→(∀i,i<n→m' i=m i)→bG m' v x
theorem eE.tP {n:Nat}:eE n (.pointer none):=fun m m' x hx _=>by cases hx;constructor
theorem eE.lg {n a b:Nat}:eE n (.slice none a b):=fun m m' x hx _=>by cases hx;constructor
theorem eE.ui {n:Nat}:eE n (.map none):=fun m m' x hx _=>by cases hx;constructor
theorem eE.nilFunc {n:Nat}:eE n .nilFunc:=fun m m' x hx _=>by cases hx;constructor
theorem eE.nilIface {n:Nat}:eE n .nilIface:=fun m m' x hx _=>by cases hx;constructor
theorem eE.agg {n:Nat} {vs:Array Value} (h:∀v∈vs.toList,eE n v):eE n (.agg vs):=fun m m' x hx e=>by
 cases hx with
 | agg h1 h2=>exact .agg h1 fun i v v' e1 e2=>h v (Array.mem_toList_iff.2 (Array.mem_of_getElem? e1)) m m' v' (h2 i v v' e1 e2) e
theorem eE.tuple {n:Nat} {vs:Array Value} (h:∀v∈vs.toList,eE n v):eE n (.tuple vs):=fun m m' x hx e=>by
 cases hx with
 | tuple h1 h2=>exact .tuple h1 fun i v v' e1 e2=>h v (Array.mem_toList_iff.2 (Array.mem_of_getElem? e1)) m m' v' (h2 i v v' e1 e2) e
@[simp] theorem eE.int {n:Nat} {k:IntKind} {x:Int}:eE n (.int k x):=fun m m' x hx _=>by cases hx;constructor
@[simp] theorem eE.bool {n:Nat} {x:Bool}:eE n (.bool x):=fun m m' x hx _=>by cases hx;constructor
@[simp] theorem eE.string {n:Nat} {x:ByteArray}:eE n (.string x):=fun m m' x hx _=>by cases hx;constructor
attribute [simp] eE.tP eE.lg eE.ui eE.nilFunc eE.nilIface
theorem mM.yr {m m':Mp} {a a':Addr} (h:mM m a a') (e:∀p,m a.block=some p→m' a.block=some p):mM m' a a':=by
 obtain⟨h1,h2,p,h3,h4⟩:=h
 exact⟨h1,h2,p,e p h3,h4⟩
theorem wa.yr {m m':Mp} {a a':Addr} {c:Nat} (h:wa m a a' c) (e:∀p,m a.block=some p→m' a.block=some p):wa m' a a' c:=by
 obtain⟨h1,h2,p,h3,h4⟩:=h
 exact⟨h1,h2,p,e p h3,h4⟩
theorem bG.FJ {m m1 m2:Mp} (Q1:∀i,m i≠none→m2 i=m1 i) {v x:Value} (h:bG m v x):∀y,bG m1 v y→bG m2 v y:=by
 have Cm:∀{i:Nat} {p:Pl},m i=some p→m2 i=m1 i:=fun h=>Q1 _ (by rw [h];exact Option.some_ne_none _)
 induction h with
 | bool b=>intro y hy;cases hy;constructor
 | int k n=>intro y hy;cases hy;constructor
 | float k n=>intro y hy;cases hy;constructor
 | complex k x y=>intro y hy;cases hy;constructor
 | string s=>intro y hy;cases hy;constructor
 | tP=>intro y hy;cases hy;constructor
 | Ef h=>
   intro y hy
   obtain⟨_,_,p,hp,_⟩:=h
   cases hy with
   | Ef h'=>exact .Ef (h'.yr fun q hq=>by rw [Cm hp];exact hq)
 | lg=>intro y hy;cases hy;constructor
 | slice h h1 h2=>
   intro y hy
   cases hy with
   | slice h' P5 Sj=>
     rename_i a _ _ _ _ _ _
     have key:m2 a.block=m1 a.block∨a.spot.isSome=true:=by
      rcases h with ⟨FB,_,p,hp,_⟩|⟨hl,_,CO|hb⟩
      · exact .inl (Cm hp)
      · exact .inr CO
      · exact .inl (Q1 _ hb)
     rcases key with hb|CO
     · refine .slice ?_ P5 Sj
       rcases h' with s|⟨e1,e2,e3⟩
       · exact .inl (s.yr fun q hq=>by rw [hb];exact hq)
       · exact .inr ⟨e1,e2,e3.imp id fun e=>by rw [hb];exact e⟩
     · refine .slice ?_ P5 Sj
       rcases h' with s|⟨e1,e2,e3⟩
       · have:=s.1
         rw [this] at CO
         cases CO
       · exact .inr ⟨e1,e2,.inl CO⟩
 | ui=>intro y hy;cases hy;constructor
 | map h=>
   intro y hy
   obtain⟨p,hp,_⟩:=h
   cases hy with
   | map h'=>
     obtain⟨q,hq,e⟩:=h'
     exact .map ⟨q,by rw [Cm hp];exact hq,e⟩
 | zp=>intro y hy;cases hy;constructor
 | func fn hx hy h1 h2 ih1 ih2=>
   intro y Pw
   rename_i x x' z z'
   cases Pw with
   | func _ kx ky g1 g2=>
     refine .func fn kx ky (fun i v v' e1 e2=>?_) (fun i v v' e1 e2=>?_)
     · have dO:i<x'.size:=by rw [←hx];exact(Array.getElem?_eq_some_iff.1 e1).1
       exact ih1 i v _ e1 (Array.getElem?_eq_getElem dO) v' (g1 i v v' e1 e2)
     · have dO:i<z'.size:=by rw [←hy];exact(Array.getElem?_eq_some_iff.1 e1).1
       exact ih2 i v _ e1 (Array.getElem?_eq_getElem dO) v' (g2 i v v' e1 e2)
 | nilFunc=>intro y hy;cases hy;constructor
 | iface t _ ih=>intro y hy;cases hy with|iface _ h'=>exact .iface t (ih _ h')
 | nilIface=>intro y hy;cases hy;constructor
 | agg hx _ ih=>
   intro y Pw
   rename_i x x' _
   cases Pw with
   | agg kx g1=>
     refine .agg kx (fun i v v' e1 e2=>?_)
     have dO:i<x'.size:=by rw [←hx];exact(Array.getElem?_eq_some_iff.1 e1).1
     exact ih i v _ e1 (Array.getElem?_eq_getElem dO) v' (g1 i v v' e1 e2)
 | tuple hx _ ih=>
   intro y Pw
   rename_i x x' _
   cases Pw with
   | tuple kx g1=>
     refine .tuple kx (fun i v v' e1 e2=>?_)
     have dO:i<x'.size:=by rw [←hx];exact(Array.getElem?_eq_some_iff.1 e1).1
     exact ih i v _ e1 (Array.getElem?_eq_getElem dO) v' (g1 i v v' e1 e2)
def Qx (n:Nat):dK→Prop
 | .cells cs _ _=>∀c∈cs,eE n c
 | .map es _=>∀e∈es,eE n e.1∧eE n e.2
theorem aC.gc {P:Program} {f:FuncId} {args:List Value} {A X:AW} {V:Value} (hX:X.next=A.next) (hV:eE A.next V)
 (hO:∀i o,X.bR i=some o→i<A.next∧(A.bR i=some o∨Qx A.next o))
 (h:aC P f args A fun v A'=>v=V∧∀i o,X.bR i=some o→A'.bR i=some o):aC P f args A fun v A'=>v=V∧X=A':=by
 refine⟨h.1,fun m w fE hs hl=>(h.2 m w fE hs hl).mono ?_⟩
 rintro e w' ⟨v,v',m',A',rfl,ev,hv,rfl,hg⟩
 let m2:Mp:=fun i=>if i<A.next then m' i else none
 have RT:∀i,m i≠none→i<A.next:=fun i hi=>by
  rcases Nat.lt_or_ge i A.next with h|h
  · exact h
  · exact absurd (hs.pn i h) hi
 have h2:∀i,i<A.next→m2 i=m' i:=fun i hi=>if_pos hi
 have eT:Mp.le m m2:=fun i p hi=>by
  have:=RT i (by rw [hi];exact Option.some_ne_none _)
  rw [h2 i this]
  exact ev.ext i p hi
 have Nq:∀{u x:Value},eE A.next u→bG m' u x→bG m2 u x:=fun hb hr=>hb m' m2 _ hr h2
 have Q1:∀i,m i≠none→m2 i=m' i:=fun i hi=>h2 i (RT i hi)
 refine⟨v,v',m2,X,rfl,⟨eT,⟨?_,?_,?_,?_,ev.zO.laid,fun i o p hi wH Mv=>ev.zO.uj i o p (hg i o hi) wH (by rw [←h2 i (hO i o hi).1];exact Mv),hs.rY.mono eT⟩,by omega,ev.os,ev.tape,ev.output,ev.size,ev.qq,?_,fun i hi=>(h2 i hi).trans (ev.qA i hi),?_⟩,Nq hV hv,rfl,rfl⟩
 · intro i o hi
   obtain⟨p,hp,hm⟩:=ev.zO.Bq i o (hg i o hi)
   obtain⟨dO,wI⟩:=hO i o hi
   refine⟨p,by rw [h2 i dO];exact hp,?_⟩
   rcases wI with hA|hB
   · obtain⟨p0,FC,W9⟩:=hs.Bq i o hA
     cases o with
     | cells cs own u=>
       obtain⟨iB,e1,fr,g1,g2,g3,g4,g5⟩:=hm
       obtain⟨_,_,_,_,_,_,_,k5⟩:=W9
       refine⟨iB,e1,fr,g1,g2,g3,g4,fun k u hu=>?_⟩
       obtain⟨y,hy,hr⟩:=g5 k u hu
       obtain⟨x,_,RL⟩:=k5 k u hu
       exact⟨y,hy,RL.FJ Q1 y hr⟩
     | map es own=>
       obtain⟨jd,ax,tm,gp,g1,g2,g3⟩:=hm
       obtain⟨Ss,_,Xy,kp,_,k2,k3⟩:=W9
       refine⟨jd,ax,tm,gp,g1,g2,fun k x e hx he=>?_⟩
       obtain⟨k0,QW⟩:=List.mem_iff_getElem?.1 ((kp.mem_iff).1 ((gp.mem_iff).2 (List.mem_of_getElem? hx)))
       have dO:k0<Ss.size:=by rw [←k2];exact(List.getElem?_eq_some_iff.1 QW).1
       have q:=k3 k0 x _ QW (Array.getElem?_eq_getElem dO)
       have r:=g3 k x e hx he
       exact⟨q.1.FJ Q1 _ r.1,q.2.FJ Q1 _ r.2⟩
   · cases o with
     | cells cs own u=>
       obtain⟨iB,e1,fr,g1,g2,g3,g4,g5⟩:=hm
       refine⟨iB,e1,fr,g1,g2,g3,g4,fun k u hu=>?_⟩
       obtain⟨y,hy,hr⟩:=g5 k u hu
       exact⟨y,hy,Nq (hB u (List.mem_of_getElem? hu)) hr⟩
     | map es own=>
       obtain⟨jd,ax,tm,gp,g1,g2,g3⟩:=hm
       refine⟨jd,ax,tm,gp,g1,g2,fun k x e hx he=>?_⟩
       have r:=g3 k x e hx he
       have b:=hB x ((gp.mem_iff).2 (List.mem_of_getElem? hx))
       exact⟨Nq b.1 r.1,Nq b.2 r.2⟩
 · intro i j o o' p p' hi ho hj iX Na Oq
   rw [h2 i (hO i o hi).1] at Na
   rw [h2 j (hO j o' hj).1] at Oq
   exact ev.zO.inj i j o o' p p' (hg i o hi) ho (hg j o' hj) iX Na Oq
 · intro i hi
   exact if_neg (by omega)
 · intro i hi
   cases hx:X.bR i with
   | none=>rfl
   | some o=>have:=(hO i o hx).1;omega
 · rintro b ⟨i,o,p,hi,ho,hp,hb⟩
   rw [h2 i (hO i o hi).1] at hp
   exact ev.grow b ⟨i,o,p,hg i o hi,ho,hp,hb⟩
 · rintro b ⟨i,o,p,hi,hp,hb⟩
   rw [h2 i (hO i o hi).1] at hp
   exact ev.MG b ⟨i,o,p,hg i o hi,hp,hb⟩
theorem aC.DP {P:Program} {f:FuncId} {args:List Value} {A:AW} {V:Value} (hV:eE A.next V)
 (h:A.Wf→aC P f args A fun v A'=>v=V∧A.le A') (hc:iP P f=true):aC P f args A fun v A'=>v=V∧A=A':=by
 have key:A.Wf→aC P f args A fun v A'=>v=V∧A=A':=fun hw=>
  aC.gc rfl hV (fun i o hi=>⟨hw.lt hi,.inl hi⟩) ((h hw).mono fun v A' ⟨h1,h2⟩=>⟨h1,fun i o hi=>h2.qA hw hi⟩)
 exact⟨hc,fun m w fE hs hl=>(key hs.DJ).2 m w fE hs hl⟩
end Go.Stx
namespace Go.Stx
open Go
variable [Gl]
set_option linter.unusedSectionVars false
set_option linter.unusedVariables false
def d9 (size:Nat) (v:Value) (n:Nat) (cs:List Value):HP:=
 ⟨fun h=>(v=.slice none 0 0∧n=0∧cs=[]∧h=fun _=>none) ∨
  ∃b off c cK,v=.slice (some ⟨b,off,none⟩) n c∧n≤c∧off+n*size≤cK.length∧cs=(cK.drop off).take (n*size)∧
   h=fun j=>if j=b then some (.cells cK true size) else none⟩
def au (k:IntKind) (v:Value) (l:List Int):HP:=d9 1 v l.length (l.map (Value.int k))
theorem d9.cases {A:AW} {size n:Nat} {v:Value} {cs:List Value} {F:HP} (h:bz A (d9 size v n cs*F)) :
 (v=.slice none 0 0∧n=0∧cs=[]∧bz A F) ∨
 ∃b off c cK,v=.slice (some ⟨b,off,none⟩) n c∧n≤c∧off+n*size≤cK.length∧cs=(cK.drop off).take (n*size)∧bz A (pt b (.cells cK true size)*F):=by
 obtain⟨_,⟨a,b,d,rfl,p,q⟩,hs⟩:=h
 rcases p with ⟨h1,h2,h3,rfl⟩|⟨b',off,c,cK,h1,h2,h3,h4,rfl⟩
 · exact .inl ⟨h1,h2,h3,b,q,hs⟩
 · exact .inr ⟨b',off,c,cK,h1,h2,h3,h4,_,⟨_,b,d,rfl,rfl,q⟩,hs⟩
theorem d9.nil {A:AW} {size:Nat} {F:HP} (h:bz A F):bz A (d9 size (.slice none 0 0) 0 []*F):=by
 obtain⟨x,p,hs⟩:=h
 exact⟨x,⟨_,x,fun _=>.inl rfl,rfl,.inl ⟨rfl,rfl,rfl,rfl⟩,p⟩,hs⟩
theorem d9.mk {A:AW} {size n b off c:Nat} {cK cs:List Value} {F:HP} (hc:n≤c) (h1:off+n*size≤cK.length) (h2:cs=(cK.drop off).take (n*size))
 (h:bz A (pt b (.cells cK true size)*F)):bz A (d9 size (.slice (some ⟨b,off,none⟩) n c) n cs*F):=
 h.V7 fun x hx=>.inr ⟨b,off,c,cK,rfl,hc,h1,h2,hx⟩
theorem d9.own {A:AW} {size n:Nat} {v:Value} {cs:List Value} {F:HP} (h:bz A (d9 size v n cs*F)):lU 0 A size v n cs:=by
 rcases d9.cases h with ⟨rfl,rfl,rfl,_⟩|⟨b,off,c,cK,rfl,h1,h2,h3,h4⟩
 · exact .inl ⟨rfl,rfl,rfl⟩
 · exact .inr ⟨⟨b,off,none⟩,c,cK,rfl,h1,rfl,Nat.zero_le _,h4.bR,h2,h3⟩
theorem d9.is {A:AW} {size n:Nat} {v:Value} {cs:List Value} {F:HP} (h:bz A (d9 size v n cs*F)):iF A size v n cs:=(d9.own h).is
theorem au.is {A:AW} {k:IntKind} {v:Value} {l:List Int} {F:HP} (h:bz A (au k v l*F)):dB A k v l:=d9.is h
theorem au.nil {A:AW} {k:IntKind} {F:HP} (h:bz A F):bz A (au k (.slice none 0 0) []*F):=d9.nil h
theorem au.mk {A:AW} {k:IntKind} {b off c n:Nat} {cK:List Value} {l:List Int} {F:HP} (hn:n=l.length) (hc:l.length≤c) (h1:off+l.length≤cK.length) (h2:l.map (Value.int k)=(cK.drop off).take l.length)
 (h:bz A (pt b (.cells cK true 1)*F)):bz A (au k (.slice (some ⟨b,off,none⟩) n c) l*F):=by
 subst hn
 exact d9.mk hc (by simpa using h1) (by simpa using h2) h
theorem d9.gG {A A':AW} {size n:Nat} {v:Value} {cs:List Value} {F:HP} (h:bz A F) (hw:A.Wf) (hl:A.le A') (ho:lU A.next A' size v n cs):bz A' (d9 size v n cs*F):=by
 rcases ho with ⟨rfl,rfl,rfl⟩|⟨p,c,cK,rfl,h1,hs,hB,hg,h2,h3⟩
 · exact d9.nil (h.le hw hl)
 · obtain⟨b,o,s⟩:=p
   simp only at hs hB hg h2 h3
   subst hs
   refine d9.mk h1 h2 h3 (bz.cons hg (h.KI fun i o hi=>?_))
   have:=hw.lt hi
   rw [AW.bV (by omega)]
   exact hl.qA hw hi
theorem au.gG {A A':AW} {k:IntKind} {v:Value} {l:List Int} {F:HP} (h:bz A F) (hw:A.Wf) (hl:A.le A') (ho:fe A.next A' k v l):bz A' (au k v l*F):=d9.gG h hw hl ho
theorem au.at {A:AW} {k:IntKind} {v:Value} {l:List Int} {F:HP} (h:bz A (au k v l*F)) {j:Nat} (hj:j<l.length) :
 ∃b off c cK,v=.slice (some ⟨b,off,none⟩) l.length c∧l.length≤c∧A.bR b=some (.cells cK true 1)∧cK[off+j]? = some (.int k l[j])∧off+l.length≤cK.length∧
  ∀y,bz (A.set b (some (.cells (cK.set (off+j) (.int k y)) true 1))) (au k v (l.set j y)*F):=by
 rcases d9.cases h with ⟨_,h0,_⟩|⟨b,off,c,cK,rfl,h1,h2,h3,h4⟩
 · omega
 · rw [Nat.mul_one] at h2 h3
   have bA:∀q,q<l.length→cK[off+q]? = (l.map (Value.int k))[q]?:=fun q hq=>by
    rw [h3,List.getElem?_take_of_lt hq,List.getElem?_drop]
   refine⟨b,off,c,cK,rfl,h1,h4.bR,by rw [bA j hj,List.getElem?_map,List.getElem?_eq_getElem hj];rfl,h2,fun y=>?_⟩
   have:=d9.mk (size:=1) (n:=l.length) (off:=off) (c:=c) (cs:=(l.set j y).map (Value.int k)) h1 (by simpa using h2) ?_ (h4.set (.cells (cK.set (off+j) (.int k y)) true 1))
   · unfold au
     simpa using this
   · rw [Nat.mul_one]
     apply List.ext_getElem?
     intro q
     by_cases hq:q<l.length
     · rw [List.getElem?_take_of_lt hq,List.getElem?_drop,List.getElem?_map]
       by_cases e:j=q
       · subst e
         rw [List.getElem?_set_self hj,List.getElem?_set_self (by omega)];rfl
       · rw [List.getElem?_set_ne e,List.getElem?_set_ne (by omega),bA q hq,List.getElem?_map]
     · rw [List.getElem?_eq_none (by simp;omega),List.getElem?_eq_none (by simp;omega)]
theorem au.append {P:Program} {A:AW} {t e:TypeId} {i:TypeInfo} {z:Value} {v:Value} {k:IntKind} {l:List Int} {F:HP} (y:Int)
 (hu:P.underlying t=some (.slice e)) (hi:P.info? e=some i) (hz:i.zero=some z) (fH:i.size=1) (mr:z.cells.size=1)
 (h:bz A (au k v l*F)) (bW:l.length<2 ^ 40) (vI:i.bytes≤8) (hw:A.Wf) :
 ∃v' A',fC P (A.alloc (.cells [.int k y] true 1)) t t v (.slice (some ⟨A.next,0,none⟩) 1 1)=some (v',A')∧bz A' (au k v' (l++[y])*F)∧A'.Wf∧A.next≤A'.next:=by
 have jH:hY (A.alloc (.cells [.int k y] true 1)) 1 (.slice (some ⟨A.next,0,none⟩) 1 1)=some (1,[.int k y]):=by
  simp [hY,AW.cK]
 have hb:(l.length+1)*i.bytes≤140737488355328:=by
  have:=Nat.mul_le_mul_left (l.length+1) vI
  omega
 have jX:l.length+1≤140737488355328:=by omega
 have lQ:[Value.int k y].all Value.oneCell'=true:=rfl
 have Jb:(l++[y]).length=l.length+1:=by simp
 rcases d9.cases h with ⟨rfl,h0,h1,h2⟩|⟨b,off,c,cK,rfl,h1,h2,h3,h4⟩
 · have:l=[]:=List.eq_nil_of_length_eq_zero h0
   subst this
   refine⟨.slice (some ⟨A.next+1,0,none⟩) (0+1) (0+1),(A.alloc (.cells [.int k y] true 1)).alloc (.cells ([]++[.int k y]) true i.size),?_,?_,(hw.alloc _).alloc _,by simp;omega⟩
   · simp only [fC,hu,hi,hz,fH,jH,fB]
     rw [if_pos ⟨mr,by omega,trivial⟩,if_neg (by omega),if_pos ⟨jX,hb,lQ⟩]
     simp
   · have:=(h2.qA hw (.cells [.int k y] true 1)).alloc (hw.alloc _) (.cells ([]++[.int k y]) true i.size)
     rw [fH] at this ⊢
     have h9:bz ((A.alloc (.cells [.int k y] true 1)).alloc (.cells ([]++[.int k y]) true 1)) (pt (A.next+1) (.cells [.int k y] true 1)*F):=this
     exact d9.mk (size:=1) (n:=1) (off:=0) (c:=1) (by simp) (by simp) (by simp) h9
 · have hg:=h4.bR
   have dO:=hw.lt hg
   have H9:(A.alloc (.cells [.int k y] true 1)).bR b=some (.cells cK true 1):=by rw [AW.gx _ _ (by omega)];exact hg
   refine⟨.slice (some ⟨A.next+1,0,none⟩) (l.length+1) (l.length+1),((A.alloc (.cells [.int k y] true 1)).set b none).alloc (.cells ((cK.drop off).take (l.length*1)++[.int k y]) true i.size),?_,?_,
    ((hw.alloc _).set none (by simp;omega)).alloc _,by simp;omega⟩
   · simp only [fC,hu,hi,hz,fH,jH,fB,H9]
     rw [if_pos ⟨mr,by omega,trivial⟩,if_neg (by simp),if_pos ⟨trivial,h2⟩]
     simp only
     rw [if_neg (by omega),if_pos ⟨jX,hb,lQ⟩]
     simp
   · have h5:=((h4.qA hw (.cells [.int k y] true 1)).GB).alloc ((hw.alloc (.cells [.int k y] true 1)).set none (by simp;omega)) (.cells ((cK.drop off).take (l.length*1)++[.int k y]) true i.size)
     rw [fH] at h5 ⊢
     unfold au
     rw [Jb]
     refine d9.mk (Nat.le_refl _) ?_ ?_ (by simpa using h5)
     · simp at h2 ⊢;omega
     · rw [Nat.mul_one] at h2 h3
       simp only [Nat.mul_one,List.drop_zero]
       rw [←h3,List.take_of_length_le (by simp)]
       simp
theorem au.De {P:Program} {A:AW} {t e:TypeId} {i:TypeInfo} {z:Value} {v:Value} {k:IntKind} {l:List Int} {F:HP} (y:Int) (n:Nat)
 (hu:P.underlying t=some (.slice e)) (hi:P.info? e=some i) (hz:i.zero=some z) (fH:i.size=1) (mr:z.cells.size=1)
 (hn:A.bR n=some (.cells [.int k y] true 1)) (h:bz A (au k v l*F)) (bW:l.length<2 ^ 40) (vI:i.bytes≤8) (hw:A.Wf) :
 ∃v' A',fC P A t t v (.slice (some ⟨n,0,none⟩) 1 1)=some (v',A')∧bz A' (au k v' (l++[y])*F)∧A'.Wf∧A.next≤A'.next:=by
 have jH:hY A 1 (.slice (some ⟨n,0,none⟩) 1 1)=some (1,[.int k y]):=by
  simp [hY,AW.cK,hn]
 have hb:(l.length+1)*i.bytes≤140737488355328:=by
  have:=Nat.mul_le_mul_left (l.length+1) vI
  omega
 have jX:l.length+1≤140737488355328:=by omega
 have lQ:[Value.int k y].all Value.oneCell'=true:=rfl
 have Jb:(l++[y]).length=l.length+1:=by simp
 rcases d9.cases h with ⟨rfl,h0,h1,h2⟩|⟨b,off,c,cK,rfl,h1,h2,h3,h4⟩
 · have:l=[]:=List.eq_nil_of_length_eq_zero h0
   subst this
   refine⟨.slice (some ⟨A.next,0,none⟩) (0+1) (0+1),A.alloc (.cells ([]++[.int k y]) true i.size),?_,?_,hw.alloc _,by simp⟩
   · simp only [fC,hu,hi,hz,fH,jH,fB]
     rw [if_pos ⟨mr,by omega,trivial⟩,if_neg (by omega),if_pos ⟨jX,hb,lQ⟩]
     try simp
   · have:=h2.alloc hw (.cells ([]++[.int k y]) true i.size)
     rw [fH] at this ⊢
     have h9:bz (A.alloc (.cells [.int k y] true 1)) (pt A.next (.cells [.int k y] true 1)*F):=this
     exact d9.mk (size:=1) (n:=1) (off:=0) (c:=1) (by simp) (by simp) (by simp) h9
 · have hg:=h4.bR
   have dO:=hw.lt hg
   refine⟨.slice (some ⟨A.next,0,none⟩) (l.length+1) (l.length+1),(A.set b none).alloc (.cells ((cK.drop off).take (l.length*1)++[.int k y]) true i.size),?_,?_,
    (hw.set none dO).alloc _,by simp⟩
   · simp only [fC,hu,hi,hz,fH,jH,fB,hg]
     rw [if_pos ⟨mr,by omega,trivial⟩,if_neg (by simp),if_pos ⟨trivial,h2⟩]
     simp only
     rw [if_neg (by omega),if_pos ⟨jX,hb,lQ⟩]
     try simp
   · have h5:=(h4.GB).alloc (hw.set none dO) (.cells ((cK.drop off).take (l.length*1)++[.int k y]) true i.size)
     rw [fH] at h5 ⊢
     unfold au
     rw [Jb]
     refine d9.mk (Nat.le_refl _) ?_ ?_ (by simpa using h5)
     · simp at h2 ⊢;omega
     · rw [Nat.mul_one] at h2 h3
       simp only [Nat.mul_one,List.drop_zero]
       rw [←h3,List.take_of_length_le (by simp)]
       simp
theorem dB.Wb {A:AW} {k:IntKind} {o:Option Addr} {c n:Nat} {l:List Int} (h:dB A k (.slice o n c) l) {i:Nat} (hi:i<l.length) :
 ∃p cK own,o=some p∧A.bR p.block=some (.cells cK own 1)∧cK[p.off+i]? = some (.int k l[i]):=by
 rcases h.cases with ⟨h1,rfl⟩|⟨p,c,cK,own,h1,_,hg,_,hr⟩
 · simp at hi
 · injection h1 with h1 h2 h3
   exact⟨p,cK,own,h1,hg,hr i hi⟩
theorem au.KX {P:Program} {A:AW} {t e:TypeId} {i:TypeInfo} {k k1 k2:IntKind} {F:HP} (n:Nat)
 (hu:P.underlying t=some (.slice e)) (hi:P.info? e=some i) (hz:i.zero=some (.int k 0)) (fH:i.size=1) (vI:i.bytes≤8) (hn:n<2 ^ 40) (h:bz A F) (hw:A.Wf) :
 ∃v' A',mv P A t (.int k1 (n:Int)) (.int k2 (n:Int))=some (v',A')∧bz A' (au k v' (List.replicate n 0)*F)∧A'.Wf∧A.le A':=by
 have hb:(n:Int)*i.bytes≤140737488355328:=by
  have:=Nat.mul_le_mul_left n vI
  have h2:((n*i.bytes:Nat):Int)≤((n*8:Nat):Int):=by exact_mod_cast this
  have h3:((n*i.bytes:Nat):Int)=(n:Int)*i.bytes:=by push_cast;rfl
  omega
 refine⟨.slice (some ⟨A.next,0,none⟩) n n,A.alloc (.cells (ep [.int k 0] n) true 1),?_,?_,hw.alloc _,AW.le.alloc _ _⟩
 · simp only [mv,hu,hi,hz,fH]
   rw [if_pos ⟨rfl,by omega,rfl,by omega,by omega,by omega,hb⟩]
   simp [Value.cells]
 · have bW:(ep [Value.int k 0] n).length=n:=by simp [ic]
   have vE:(List.replicate n (0:Int)).map (Value.int k)=ep [Value.int k 0] n:=by
    clear hb hn bW
    induction n with
    | zero=>rfl
    | succ n ih=>rw [List.replicate_succ,List.map_cons,ih];rfl
   refine au.mk (by simp) (by simp) (by simp [bW]) ?_ (h.alloc hw _)
   rw [vE,List.drop_zero,List.take_of_length_le (by simp [bW])]
theorem au.NQ {P:Program} {A:AW} {t u e:TypeId} {i:TypeInfo} {ku:IntKind} {v:Value} {k kq:IntKind} {l:List Int} {F:HP} (n:Nat)
 (hu:P.underlying t=some (.slice e)) (TC:P.underlying u=some (.int ku)) (hi:P.info? e=some i) (hz:i.zero=some (.int k 0)) (fH:i.size=1)
 (h:bz A (au k v l*F)) (bW:l.length+n<2 ^ 40) (vI:i.bytes≤8) (hw:A.Wf) :
 ∃v' A',lT P A t u v (.int kq (n:Int))=some (v',A')∧bz A' (au k v' (l++List.replicate n 0)*F)∧A'.Wf:=by
 have vE:(List.replicate n (0:Int)).map (Value.int k)=ep [Value.int k 0] n:=by
  clear bW
  induction n with
  | zero=>rfl
  | succ n ih=>rw [List.replicate_succ,List.map_cons,ih];rfl
 have UU:(ep [Value.int k 0] n).length=n:=by simp [ic]
 have hb:(l.length+n)*i.bytes≤140737488355328:=by
  have:=Nat.mul_le_mul_left (l.length+n) vI
  omega
 rcases d9.cases h with ⟨rfl,h0,h1,h2⟩|⟨b,off,c,cK,rfl,h1,h2,h3,h4⟩
 · have:l=[]:=List.eq_nil_of_length_eq_zero h0
   subst this
   by_cases hn:n=0
   · subst hn
     refine⟨.slice none 0 0,A,?_,by simpa using h,hw⟩
     simp only [lT,hu,TC,hi,hz,fH,fB]
     rw [if_pos ⟨rfl,by omega,rfl,by omega,by simp,by simp⟩]
     simp
   · refine⟨.slice (some ⟨A.next,0,none⟩) (0+n) (0+n),A.alloc (.cells ([]++ep [.int k 0] n) true 1),?_,?_,hw.alloc _⟩
     · simp only [lT,hu,TC,hi,hz,fH,fB,Int.toNat_natCast]
       rw [if_pos ⟨rfl,by omega,rfl,by omega,by simp at bW;omega,by simpa using hb⟩,if_neg hn]
       rfl
     · refine au.mk (by simp) (by simp) (by simp [UU]) ?_ (h2.alloc hw _)
       rw [ag,ag,vE,List.drop_zero,List.take_of_length_le (by simp [UU])]
 · have hg:=h4.bR
   have dO:=hw.lt hg
   by_cases hn:n=0
   · subst hn
     refine⟨.slice (some ⟨b,off,none⟩) l.length c,A,?_,by simpa using h,hw⟩
     simp only [lT,hu,TC,hi,hz,fH,fB,hg]
     rw [if_neg (by simp),if_pos ⟨trivial,h2⟩]
     simp only
     rw [if_pos ⟨rfl,by omega,rfl,by omega,by simp at bW ⊢;omega,by simpa using hb⟩]
     simp
   · refine⟨.slice (some ⟨A.next,0,none⟩) (l.length+n) (l.length+n),(A.set b none).alloc (.cells ((cK.drop off).take (l.length*1)++ep [.int k 0] n) true 1),?_,?_,(hw.set none dO).alloc _⟩
     · simp only [lT,hu,TC,hi,hz,fH,fB,hg,Int.toNat_natCast]
       rw [if_neg (by simp),if_pos ⟨trivial,h2⟩]
       simp only
       rw [if_pos ⟨rfl,by omega,rfl,by omega,by omega,hb⟩,if_neg hn]
       rfl
     · have h5:=h4.GB.alloc (hw.set none dO) (.cells ((cK.drop off).take (l.length*1)++ep [.int k 0] n) true 1)
       rw [Nat.mul_one] at h2 h3
       refine au.mk (by simp) (by simp) ?_ ?_ (by simpa using h5)
       · simp [UU];omega
       · rw [List.drop_zero,←h3,←vE,←List.map_append,List.take_of_length_le (by simp)]
def jb (f:Nat→HP):Nat→HP
 | 0=>eG
 | n+1=>jb f n*f n
def oA (f:Nat→HP) (i:Nat) (Q:HP):Nat→HP:=fun j=>if j=i then Q else f j
theorem rl {f g:Nat→HP}:∀{n:Nat},(∀i,i<n→f i=g i)→jb f n=jb g n
 | 0,_=>rfl
 | n+1,h=>by
   unfold jb
   rw [rl (n:=n) (fun i hi=>h i (by omega)),h n (by omega)]
theorem tt (f:Nat→HP) {i:Nat}:∀{n:Nat},i<n→jb f n=f i*jb (oA f i eG) n
 | 0,h=>by omega
 | n+1,h=>by
   unfold jb
   by_cases e:i=n
   · subst e
     rw [rl (f:=oA f i eG) (g:=f) (n:=i) (fun j hj=>by simp [oA];omega)]
     simp only [oA,if_true,dg]
     exact HP.mul_comm _ _
   · have ti:i<n:=by omega
     rw [tt f ti]
     have:oA f i eG n=f n:=by simp [oA];omega
     rw [this,HP.cl]
theorem Jy (f:Nat→HP) {i n:Nat} (hi:i<n) (Q:HP):jb (oA f i Q) n=Q*jb (oA f i eG) n:=by
 rw [tt _ hi]
 congr 1
 · simp [oA]
 · refine rl fun j _=>?_
   simp only [oA]
   split<;>rfl
theorem bz.pick {A:AW} {f:Nat→HP} {n i:Nat} {F:HP} (h:bz A (jb f n*F)) (hi:i<n):bz A (f i*(jb (oA f i eG) n*F)):=by
 rw [tt f hi,HP.cl] at h
 exact h
theorem bz.put {A:AW} {f:Nat→HP} {n i:Nat} {Q F:HP} (h:bz A (Q*(jb (oA f i eG) n*F))) (hi:i<n):bz A (jb (oA f i Q) n*F):=by
 rw [Jy f hi,HP.cl]
 exact h
end Go.Stx
namespace Go.Stx
open Go
variable [Gl]
set_option linter.unusedSectionVars false
set_option linter.unusedVariables false
def jL (es:List (Int×Value)) (a:Int):Option Value:=(es.find? fun e=>e.1 == a).map (·.2)
def nP (k:IntKind) (es:List (Int×Value)):List (Value×Value):=es.map fun e=>(.int k e.1,e.2)
def fy (k:IntKind) (r:Nat) (f:Int→Option Value):HP:=nI fun es:List (Int×Value)=>zQ ((es.map (·.1)).Nodup∧∀a,jL es a=f a)*pt r (.map (nP k es) true)
theorem ug {k0 k:IntKind} {a:Int}:∀(es:List (Int×Value)),(∀e∈es,¬a=e.1)→lP (.int k0) (.int k a) (nP k es)=true
 | [],_=>rfl
 | e::es,h=>by
   have he:(a == e.1)=false:=by simpa using h e (by simp)
   unfold nP lP
   simp only [List.map_cons,ww,he]
   exact ug es fun x hx=>h x (by simp [hx])
theorem mH {k0 k:IntKind} {a:Int}:∀(es:List (Int×Value)) (i:Nat),(es.map (·.1)).Nodup→∃q,d6 (.int k0) (.int k a) (nP k es) i=some q∧q.map (·.2)=jL es a∧
 ∀j v,q=some (j,v)→∃j',j=i+j'∧j'<es.length∧(∀v',(es.set j' (a,v')).map (·.1)=es.map (·.1))∧∀v' b,jL (es.set j' (a,v')) b=if b=a then some v' else jL es b
 | [],i,_=>⟨none,rfl,rfl,fun j v h=>by cases h⟩
 | e::es,i,hn=>by
   simp only [List.map_cons,List.nodup_cons] at hn
   unfold nP d6
   simp only [List.map_cons,ww]
   by_cases h:a=e.1
   · subst h
     have TJ:lP (.int k0) (.int k e.1) (nP k es)=true:=ug es fun x hx h=>hn.1 (by rw [h];exact List.mem_map_of_mem hx)
     unfold nP at TJ
     refine⟨some (i,e.2),by simp [TJ],by simp [jL],?_⟩
     intro j v hj
     injection hj with hj
     injection hj with h1 h2
     subst h1
     refine⟨0,rfl,by simp,fun v'=>by simp,fun v' b=>?_⟩
     simp only [List.set_cons_zero,jL,List.find?_cons]
     by_cases hb:e.1=b
     · subst hb;simp
     · have sy:(e.1 == b)=false:=by simpa using hb
       simp [sy,Ne.symm hb]
   · have iX:(a == e.1)=false:=by simpa using h
     rw [iX]
     obtain⟨q,h1,h2,h3⟩:=mH (k0:=k0) (k:=k) (a:=a) es (i+1) hn.2
     refine⟨q,h1,?_,?_⟩
     · rw [h2]
       have:¬e.1=a:=fun x=>h x.symm
       simp [jL,this]
     · intro j v hj
       obtain⟨j',g1,g2,g0,g3⟩:=h3 j v hj
       refine⟨j'+1,by omega,by simpa using g2,fun v'=>by simpa using g0 v',fun v' b=>?_⟩
       have:=g3 v' b
       simp only [List.set_cons_succ,jL,List.find?_cons] at this ⊢
       by_cases hb:e.1=b
       · subst hb
         have:¬e.1=a:=fun x=>h x.symm
         simp [this]
       · have sy:(e.1 == b)=false:=by simpa using hb
         rw [sy]
         simpa using this
theorem AL {es:List (Int×Value)} {a:Int} {v:Value} (h:jL es a=none) (b:Int):jL (es++[(a,v)]) b=if b=a then some v else jL es b:=by
 simp only [jL,List.find?_append,Option.map_eq_none_iff] at h ⊢
 by_cases hb:b=a
 · subst hb
   simp [h]
 · have:¬a=b:=fun x=>hb x.symm
   simp [hb,this]
theorem fy.bR {A:AW} {k:IntKind} {r:Nat} {f:Int→Option Value} {F:HP} (h:bz A (fy k r f*F)) :
 ∃es,A.bR r=some (.map (nP k es) true)∧((es.map (·.1)).Nodup∧∀a,jL es a=f a)∧bz A (pt r (.map (nP k es) true)*F):=by
 unfold fy at h
 rw [bz.ex] at h
 obtain⟨es,h⟩:=h
 rw [HP.cl,bz.pr] at h
 exact⟨es,h.2.bR,h.1,h.2⟩
theorem fy.eu {A:AW} {k:IntKind} {r:Nat} {f:Int→Option Value} {F:HP} (h:bz A (fy k r f*F)) :
 ∃oX,A.bR r=some (.map oX true)∧(∀k0 a v,f a=some v→∃q,d6 (.int k0) (.int k a) oX 0=some (some (q,v)))∧(∀k0 a,f a=none→d6 (.int k0) (.int k a) oX 0=some none)∧
  bz A (pt r (.map oX true)*F)∧∀{A':AW} {F':HP},bz A' (pt r (.map oX true)*F')→bz A' (fy k r f*F'):=by
 obtain⟨es,hg,⟨hn,hf⟩,hS⟩:=fy.bR h
 refine⟨_,hg,fun k0 a v hv=>?_,fun k0 a hv=>?_,hS,fun {A' F'} h'=>?_⟩
 · obtain⟨q,h1,h2,_⟩:=mH (k0:=k0) (k:=k) (a:=a) es 0 hn
   rw [hf,hv] at h2
   cases q with
   | none=>cases h2
   | some q=>obtain⟨j,u⟩:=q;injection h2 with h2;simp only at h2;subst h2;exact⟨j,h1⟩
 · obtain⟨q,h1,h2,_⟩:=mH (k0:=k0) (k:=k) (a:=a) es 0 hn
   rw [hf,hv] at h2
   cases q with
   | none=>exact h1
   | some q=>cases h2
 · unfold fy
   rw [bz.ex]
   refine⟨es,?_⟩
   rw [HP.cl,bz.pr]
   exact⟨⟨hn,hf⟩,h'⟩
theorem fy.kh {A:AW} {k:IntKind} {F:HP} (h:bz A F) (hw:A.Wf):bz (A.alloc (.map [] true)) (fy k A.next (fun _=>none)*F):=by
 unfold fy
 rw [bz.ex]
 refine⟨[],?_⟩
 rw [HP.cl,bz.pr]
 exact⟨⟨List.nodup_nil,fun a=>rfl⟩,h.alloc hw _⟩
def kr (f:Int→Option Value) (a:Int) (v:Value):Int→Option Value:=fun b=>if b=a then some v else f b
theorem fy.qL {P:Program} {A:AW} {t kt e:TypeId} {k0 k:IntKind} {r:Nat} {f:Int→Option Value} {F:HP} (h:bz A (fy k r f*F)) (ht:P.underlying t=some (.map kt e)) (hk:P.underlying kt=some (.int k0)) (a:Int) (v:Value) :
 ∃A',fk P A t (.map (some r)) (.int k a) v=some A'∧bz A' (fy k r (kr f a v)*F)∧(A.Wf→A'.Wf)∧A'.next=A.next∧∀j,j≠r→A'.bR j=A.bR j:=by
 obtain⟨es,hg,⟨hn,hf⟩,hS⟩:=fy.bR h
 obtain⟨q,h1,h2,h3⟩:=mH (k0:=k0) (k:=k) (a:=a) es 0 hn
 have bS:∀tm:List (Int×Value),(tm.map (·.1)).Nodup→(∀b,jL tm b=kr f a v b)→bz (A.set r (some (.map (nP k tm) true))) (fy k r (kr f a v)*F):=fun tm W8 he=>by
  unfold fy
  rw [bz.ex]
  refine⟨tm,?_⟩
  rw [HP.cl,bz.pr]
  exact⟨⟨W8,he⟩,hS.set _⟩
 cases q with
 | none=>
   refine⟨A.set r (some (.map (nP k (es++[(a,v)])) true)),?_,bS _ ?_ fun b=>?_,fun hw=>hw.set _ (hw.lt hg),rfl,fun j hj=>AW.bV hj⟩
   · simp only [fk,ht,hk,hg,kc,if_true,h1]
     simp [nP]
   · rw [List.map_append,List.nodup_append]
     refine⟨hn,by simp,fun x hx y hy e=>?_⟩
     simp only [List.map_cons,List.map_nil,List.mem_singleton] at hy
     subst hy
     subst e
     have Sj:jL es x=none:=by rw [←h2];rfl
     simp only [jL,Option.map_eq_none_iff,List.find?_eq_none] at Sj
     obtain⟨q,hq,rfl⟩:=List.mem_map.1 hx
     have:=Sj q hq
     simp at this
   · rw [AL (by rw [←h2];rfl)]
     simp only [kr,hf]
 | some q=>
   obtain⟨j,u⟩:=q
   obtain⟨j',g1,g2,g0,g3⟩:=h3 j u rfl
   refine⟨A.set r (some (.map (nP k (es.set j' (a,v))) true)),?_,bS _ (by rw [g0];exact hn) fun b=>?_,fun hw=>hw.set _ (hw.lt hg),rfl,fun j hj=>AW.bV hj⟩
   · simp only [fk,ht,hk,hg,kc,if_true,h1]
     have:j=j':=by omega
     subst this
     simp [nP,List.map_set]
   · rw [g3]
     simp only [kr,hf]
end Go.Stx
namespace Go.Stx
open Go
variable [Gl]
set_option linter.unusedSectionVars false
set_option linter.unusedVariables false
theorem uK {r r':Operand→Value} {ps:Array (Nat×Operand)} (h:∀x∈(ps.toList.map (·.2)).toArray,r x=r' x):oM r ps=oM r' ps:=by
 unfold oM
 refine List.map_congr_left fun x hx=>?_
 rw [h x.2 (by simpa using ⟨x.1,by simpa using hx⟩)]
theorem sZ {r r':Operand→Value} {x:Option Operand} (h:∀y∈x.toArray,r y=r' y):x.map r=x.map r':=by
 cases x with
 | none=>rfl
 | some y=>simp [h y (by simp)]
theorem zC {r r':Operand→Value} {x:Array Operand} (h:∀y∈x,r y=r' y):x.map r=x.map r':=Array.map_congr_left h
theorem zw {P:Program} {A:AW} {r r':Operand→Value} {op:Op} (h:∀x∈op.operands,r x=r' x):aq P A r op=aq P A r' op:=by
 cases op<;>simp only [aq,Op.operands] at h ⊢
 case move x=>rw [h x (by simp)]
 case assign x=>rw [h x (by simp)]
 case pick c x y=>rw [h c (by simp),h x (by simp),h y (by simp)]
 case build t ps=>rw [uK h]
 case load t x=>rw [h x (by simp)]
 case nilCheck x=>rw [h x (by simp)]
 case binOp op t x y u=>rw [h x (by simp),h y (by simp)]
 case unOp op t x=>rw [h x (by simp)]
 case convert s d x=>rw [h x (by simp)]
 case makeInterface t x=>rw [h x (by simp)]
 case slice t x lo hi mx=>
  have e1:r x=r' x:=h x (by simp)
  have e2:lo.map r=lo.map r':=sZ fun y hy=>h y (by simp [hy])
  have e3:hi.map r=hi.map r':=sZ fun y hy=>h y (by simp [hy])
  cases mx with
  | none=>simp only [e1,e2,e3]
  | some q=>simp only [e1,e2,e3,h q (by simp)]
 case lookup t x ix c=>rw [h x (by simp),h ix (by simp)]
 case fieldAddr s x f=>rw [h x (by simp)]
 case field t x f=>rw [h x (by simp)]
 case indexAddr t x ix=>rw [h x (by simp),h ix (by simp)]
 case index t x ix=>rw [h x (by simp),h ix (by simp)]
 case extract t i=>rw [h t (by simp)]
 case makeFunc fn fs cs=>
  rw [zC (r:=r) (r':=r') (x:=fs) fun y hy=>h y (by simp [hy]),zC (r:=r) (r':=r') (x:=cs) fun y hy=>h y (by simp [hy])]
 case call c=>
  have hk:∀x∈c.args.toList,r x=r' x:=fun x hx=>h x (by simp only [Call.operands,Array.mem_append];exact .inr (Array.mem_toList_iff.1 hx))
  clear h
  generalize c.args.toList=l at hk ⊢
  generalize c.argTypes.toList=ts
  generalize c.callee=ce
  split<;>simp_all
theorem Mi {P:Program} {A:AW} {r r':Operand→Value} {op:Op} (h:∀x∈op.operands,r x=r' x):ae P A r op=ae P A r' op:=by
 cases op<;>simp only [ae,Op.operands] at h ⊢
 case box t x=>rw [h x (by simp)]
 case buildSlice t n ps=>rw [uK h]
 case store t x y=>rw [h x (by simp),h y (by simp)]
 case makeSlice t l c=>rw [h l (by simp),h c (by simp)]
 case makeMap t x=>rw [sZ h]
 case mapUpdate t x k v=>rw [h x (by simp),h k (by simp),h v (by simp)]
 case insert t x k v=>rw [h x (by simp),h k (by simp),h v (by simp)]
 case call c=>
  have hk:∀x∈c.args.toList,r x=r' x:=fun x hx=>h x (by simp only [Call.operands,Array.mem_append];exact .inr (Array.mem_toList_iff.1 hx))
  clear h
  generalize c.args.toList=l at hk ⊢
  generalize c.argTypes.toList=ts
  generalize c.callee=ce
  split<;>simp_all
theorem DE {P:Program} {A:AW} {r r':Operand→Value} {op:Op} {k:Value→AW→Prop} (h:∀x∈op.operands,r x=r' x):tw P op r A k=tw P op r' A k:=by
 cases op<;>try rfl
 case call c=>
  obtain⟨callee,args,ts⟩:=c
  cases callee with
  | value x=>
    have hx:r x=r' x:=h x (by simp [Op.operands,Call.operands])
    have ha:args.toList.map r=args.toList.map r':=List.map_congr_left fun y hy=>h y (by simp only [Op.operands,Call.operands,Array.mem_append];exact .inr (Array.mem_toList_iff.1 hy))
    simp only [tw,hx,ha]
  | invoke _ _=>rfl
  | builtin _=>rfl
theorem Fx {P:Program} {A:AW} {r r':Operand→Value} {op:Op} {k:Value→AW→Prop} (h:∀x∈op.operands,r x=r' x):gz P op r A k=gz P op r' A k:=by
 unfold gz
 rw [zw h,Mi h,DE h]
theorem yq {A A':AW} (hk:∀i o,A.bR i=some o→A'.bR i=some o) {i:Nat} {cs:List Value} (h:A.cK i=some cs):A'.cK i=some cs:=by
 unfold AW.cK at *
 split at h
 · rename_i hg
   rw [hk _ _ hg]
   exact h
 · cases h
theorem Hn {P:Program} {A A':AW} (hk:∀i o,A.bR i=some o→A'.bR i=some o) {t:TypeId} {p:Addr} {v:Value} (h:sJ P A t p=some v):sJ P A' t p=some v:=by
 unfold sJ at *
 split at h
 · rename_i h1 h2;rw [yq hk h1,h2];exact h
 · rename_i h1 h2;rw [yq hk h1,h2];exact h
 · cases h
theorem NP {P:Program} {A A':AW} (hk:∀i o,A.bR i=some o→A'.bR i=some o) {r:Operand→Value} {op:Op} {v:Value} (h:aq P A r op=some v):aq P A' r op=some v:=by
 cases op<;>simp only [aq] at h ⊢<;>try exact h
 case convert s d x=>
  split at h
  · exact h
  · unfold Dt at h ⊢
    split at h
    · rename_i h1 h2 h3
      split at h
      · rename_i h4 h5
        rw [h4,yq hk h5]
        exact h
      · cases h
    · cases h
 case load t x=>
  split at h
  · rename_i p hp
    exact Hn hk h
  · cases h
 case slice t x lo hi mx=>
  cases mx with
  | some q=>exact h
  | none=>
    simp only at h ⊢
    unfold tu at *
    split at h
    · rename_i hu _ _
      split at h
      · rename_i e1
        split at h
        · rename_i e2
          split at h
          · rename_i e3
            exact h
          · rename_i e3
            split at h
            · rename_i q hq
              have key:∀{e:TypeId} {p:Addr} {l:Nat},d8 P A e p l=some q→d8 P A' e p l=some q:=by
               intro e p l hq
               unfold d8 at hq ⊢
               split at hq
               · rename_i hl;rw [if_pos hl];exact hq
               · rename_i hl
                 rw [if_neg hl]
                 split at hq
                 · rename_i g1 g2
                   rw [g1,hk _ _ g2]
                   exact hq
                 · cases hq
              rw [key hq]
              exact h
            · cases h
          · cases h
        · cases h
      · cases h
    · exact h
    · cases h
 case lookup t x ix c=>
  unfold uM at h ⊢
  split at h<;>try(cases h;done)
  split at h<;>try(cases h;done)
  split at h<;>try(cases h;done)
  rename_i PL
  split at h<;>try(cases h;done)
  · simp_all
  · split at h<;>try(cases h;done)
    rename_i hg
    have H9:=hk _ _ hg
    simp_all
def rL:Op→Bool
 | .move _ | .assign _ | .pick _ _ _ | .build _ _ | .nilCheck _ | .binOp _ _ _ _ _ | .unOp _ _ _ | .makeInterface _ _ | .fieldAddr _ _ _ | .field _ _ _ | .indexAddr _ _ _ | .index _ _ _ | .extract _ _ | .makeFunc _ _ _=>true
 | .call c=>match c.callee with
   | .builtin .len | .builtin .min | .builtin .max=>true
   | _=>false
 | _=>false
def MN:Op→Bool
 | .load _ _ | .slice _ _ _ _ _ | .lookup _ _ _ _ | .convert _ _ _=>true
 | op=>rL op
theorem Hl {P:Program} {A A':AW} {r:Operand→Value} {op:Op} (hm:rL op=true):aq P A' r op=aq P A r op:=by
 cases op<;>first|rfl|(simp [rL] at hm;done)
end Go.Stx
namespace Go.Stx
open Go
variable [Gl]
set_option linter.unusedSectionVars false
set_option linter.unusedVariables false
section
variable {P:Program} {bE:Array Oper} {S:AW→Prop} {md:Nat→Nat} {K:Fr→AW→Prop} {nu:List Nat}
def qD (P:Program) (bE:Array Oper) (S:AW→Prop) (md:Nat→Nat) (i:Nat) (o:Oper) (a:Fr) (A:AW) (k:Fr→AW→Prop):Prop:=
 if kL bE a o=true then
  if md i≤1 then ∃v,aq P A (ip a) o.op=some v∧k (eb a o.dst v) A
  else gz P o.op (ip a) A fun v A'=>(if md i=2 then A.le A' else (md i=3→S A'))∧k (eb a o.dst v) A'
 else k (eb a o.dst undef) A
def JD (L:Nat→Bool) (i:Nat) (o:Oper):Prop:=L i=false∧∀e∈o.after,Region.binds .any e=true→L e.on=true
def cd (L:Nat→Bool) (i:Nat):Nat→Bool:=fun j=>if j=i then true else L j
def tx (P:Program) (bE:Array Oper) (S:AW→Prop) (md:Nat→Nat) (K:Fr→AW→Prop):Nat→(Nat→Bool)→Fr→AW→Prop
 | 0,L,a,A=>(∀i,i<bE.size→L i=true)∧K a A
 | n+1,L,a,A=>((∀i,i<bE.size→L i=true)→K a A)∧(A.Wf→∀i o,bE[i]? = some o→JD L i o→qD P bE S md i o a A (tx P bE S md K n (cd L i)))
theorem qD.mono {i:Nat} {o:Oper} {a:Fr} {A:AW} {k k':Fr→AW→Prop} (h:qD P bE S md i o a A k)
 (hk:∀v A',(md i≤1→A'=A)→(md i=2→A.le A')→(md i=3→kL bE a o=true→S A')→(kL bE a o=false→A'=A)→k (eb a o.dst v) A'→k' (eb a o.dst v) A'):qD P bE S md i o a A k':=by
 unfold qD at *
 split
 · rename_i hg
   rw [if_pos hg] at h
   split
   · rename_i hm
     rw [if_pos hm] at h
     obtain⟨v,h1,h2⟩:=h
     exact⟨v,h1,hk v A (fun _=>rfl) (fun e=>by omega) (fun e=>by omega) (fun _=>rfl) h2⟩
   · rename_i hm
     rw [if_neg hm] at h
     refine h.mono fun v A' ⟨h1,h2⟩=>⟨h1,hk v A' (fun e=>by omega) (fun e=>?_) (fun e _=>?_) (fun e=>?_) h2⟩
     · rwa [if_pos e] at h1
     · rw [if_neg (by omega)] at h1;exact h1 e
     · rw [e] at hg;cases hg
 · rename_i hg
   rw [if_neg hg] at h
   have H9:kL bE a o=false:=by simpa using hg
   exact hk undef A (fun _=>rfl) (fun _=>AW.le.refl A) (fun _ e=>by rw [e] at H9;cases H9) (fun _=>rfl) h
theorem qD.Wc {i:Nat} {o:Oper} {a:Fr} {A:AW} {k:Fr→AW→Prop} (h:qD P bE S md i o a A k):JI P bE o a A k:=by
 unfold qD at h
 unfold JI
 split
 · rename_i hg
   rw [if_pos hg] at h
   split at h
   · obtain⟨v,h1,h2⟩:=h
     simp only [gz,h1]
     exact h2
   · exact h.mono fun v A' hh=>hh.2
 · rename_i hg
   rw [if_neg hg] at h
   exact h
theorem wO {n:Nat} {Q:Exit→Fr→AW→Prop} {a:Fr} {A:AW} {id:Nat} (hm:P.follows .mixedOrders=true) (qt:jc bE=true) {k:Nat}
 (h:tx P bE S md (Q .normal) k (fun _=>false) a A):eg P n (.region id bE true) Q a A:=by
 refine Io hm qt (fun L a A=>∃k,tx P bE S md (Q .normal) k L a A) ⟨k,h⟩ ?_ ?_
 · rintro L a A i o hw ⟨k,hk⟩ ho hL iq
   cases k with
   | zero=>
     have:=hk.1 i (Array.getElem?_eq_some_iff.1 ho).1
     rw [hL] at this
     cases this
   | succ k=>
     have:=(hk.2 hw i o ho ⟨hL,iq⟩).Wc
     unfold JI at this ⊢
     split
     · rename_i hg
       rw [if_pos hg] at this
       exact this.mono fun v A' hh=>⟨k,hh⟩
     · rename_i hg
       rw [if_neg hg] at this
       exact⟨k,this⟩
 · rintro L a A _ ⟨k,hk⟩ jp
   cases k with
   | zero=>exact hk.2
   | succ k=>exact hk.1 jp
theorem Nz {a:Fr} {d:Option Tmp} {v:Value} {x:Operand} (h:∀t,d=some t→x≠.tmp t):ip (eb a d v) x=ip a x:=by
 cases d with
 | none=>rfl
 | some t=>
   cases x with
   | tmp q=>
     have:q≠t:=fun e=>h t rfl (by rw [e])
     simp [eb,BW,this]
   | _=>rfl
theorem EY {a:Fr} {d:Option Tmp} {v:Value} {o:Oper} (h:∀t,d=some t→t∉o.looksAt bE):kL bE (eb a d v) o=kL bE a o:=by
 unfold kL
 cases hg:o.guard with
 | none=>rfl
 | some g=>
   obtain⟨j,w⟩:=g
   simp only
   cases hj:(bE[j]?).bind (·.dst) with
   | none=>rfl
   | some q=>
     simp only
     have iX:∀t,d=some t→q≠t:=fun t ht e=>h t ht (by simp [Oper.looksAt,hg,hj,e])
     have:eb a d v q=a q:=by
      cases d with
      | none=>rfl
      | some t=>simp [eb,BW,iX t rfl]
     rw [this]
theorem pN {a:Fr} {d:Option Tmp} {v:Value} {o:Oper} (h:∀t,d=some t→t∉o.looksAt bE):∀x∈o.op.operands,ip (eb a d v) x=ip a x:=by
 intro x hx
 refine Nz fun t ht e=>h t ht ?_
 subst e
 simp only [Oper.looksAt,List.mem_append,List.mem_filterMap]
 exact .inl ⟨.tmp t,Array.mem_toList_iff.2 hx,rfl⟩
theorem vm {a:Fr} {d e:Option Tmp} {v u:Value} (h:∀t,d=some t→e≠some t):eb (eb a d v) e u=eb (eb a e u) d v:=by
 cases d with
 | none=>rfl
 | some t=>
   cases e with
   | none=>rfl
   | some q=>
     have:t≠q:=fun x=>h t rfl (by rw [x])
     funext j
     simp only [eb,BW]
     by_cases h1:j=q
     · subst h1
       have:¬j=t:=fun x=>this x.symm
       simp [this]
     · simp [h1]
theorem qD.Rf {j:Nat} {oi oj:Oper} {a:Fr} {A:AW} {v:Value} {k:Fr→AW→Prop} (Q0:oi.apart bE oj=true) (h:qD P bE S md j oj (eb a oi.dst v) A k) :
 qD P bE S md j oj a A fun a' A'=>k (eb a' oi.dst v) A':=by
 obtain⟨h1,h2,h3⟩:=Oper.apart_spec Q0
 unfold qD at *
 rw [EY h1] at h
 split
 · rename_i hg
   rw [if_pos hg] at h
   split
   · rename_i hm
     rw [if_pos hm,zw (pN h1)] at h
     obtain⟨u,h4,h5⟩:=h
     exact⟨u,h4,by show k (eb (eb a oj.dst u) oi.dst v) A;rw [←vm h2];exact h5⟩
   · rename_i hm
     rw [if_neg hm,Fx (pN h1)] at h
     refine h.mono fun u A' ⟨h4,h5⟩=>⟨h4,by show k (eb (eb a oj.dst u) oi.dst v) A';rw [←vm h2];exact h5⟩
 · rename_i hg
   rw [if_neg hg] at h
   rw [←vm h2]
   exact h
def lu (bE:Array Oper) (L:Nat→Bool):Prop:=∀k o,bE[k]? = some o→L k=true→∀e∈o.after,Region.binds .any e=true→L e.on=true
def NT (nu:List Nat) (m:Nat) (e:Edge):Nat:=if Region.binds .any e=true then (m ||| nu.getD e.on 0) ||| 2 ^ e.on else m
def Qs:List Oper→List Nat→List Nat
 | [],Mj=>Mj
 | o::r,Mj=>Qs r (Mj++[o.after.toList.foldl (NT Mj) 0])
def wV (bE:Array Oper) (nu:List Nat):Bool:=(List.range bE.size).all fun i=>match bE[i]? with|some o=>nu.getD i 0 == o.after.toList.foldl (NT nu) 0|none=>false
theorem Fl {nu:List Nat} {q:Nat}:∀(l:List Edge) (m:Nat),(l.foldl (NT nu) m).testBit q=true→m.testBit q=true∨∃e∈l,Region.binds .any e=true∧((nu.getD e.on 0).testBit q=true∨e.on=q)
 | [],m,h=>.inl h
 | e::l,m,h=>by
   rw [List.foldl_cons] at h
   rcases Fl l _ h with h1|⟨e',h1,h2⟩
   · unfold NT at h1
     split at h1
     · rename_i hb
       rw [Nat.testBit_or,Nat.testBit_or,Bool.or_eq_true,Bool.or_eq_true] at h1
       rcases h1 with (h1|h1)|h1
       · exact .inl h1
       · exact .inr ⟨e,by simp,hb,.inl h1⟩
       · rw [Nat.testBit_two_pow] at h1
         exact .inr ⟨e,by simp,hb,.inr (by simpa using h1)⟩
     · exact .inl h1
   · exact .inr ⟨e',by simp [h1],h2⟩
theorem Fk (ha:wV bE nu=true) {i q:Nat} {o:Oper} (ho:bE[i]? = some o) (h:(nu.getD i 0).testBit q=true) :
 ∃e∈o.after,Region.binds .any e=true∧((nu.getD e.on 0).testBit q=true∨e.on=q):=by
 have:=List.all_eq_true.1 ha i (List.mem_range.2 (Array.getElem?_eq_some_iff.1 ho).1)
 rw [ho] at this
 simp only [beq_iff_eq] at this
 rw [this] at h
 rcases Fl _ _ h with h1|⟨e,h1,h2⟩
 · simp at h1
 · exact⟨e,Array.mem_toList_iff.1 h1,h2⟩
theorem zj (qt:jc bE=true) (ha:wV bE nu=true) {L:Nat→Bool} (hc:lu bE L) {q:Nat}:∀n k o,k<n→bE[k]? = some o→L k=true→(nu.getD k 0).testBit q=true→L q=true
 | 0,k,o,h,_,_,_=>by omega
 | n+1,k,o,hk,ho,hL,hb=>by
   obtain⟨e,he,Np,h1⟩:=Fk ha ho hb
   have Sh:=hc k o ho hL e he Np
   rcases h1 with h1|h1
   · have dO:=jZ qt ho he Np
     have Y9:=(Array.getElem?_eq_some_iff.1 ho).1
     exact zj qt ha hc n e.on bE[e.on] (by omega) (Array.getElem?_eq_getElem (by omega)) Sh h1
   · rw [←h1];exact Sh
theorem Bk (qt:jc bE=true) (ha:wV bE nu=true) {L:Nat→Bool} (hc:lu bE L) {j q:Nat} {o:Oper} (ho:bE[j]? = some o) (hr:JD L j o) (hb:(nu.getD j 0).testBit q=true):L q=true:=by
 obtain⟨e,he,Np,h1⟩:=Fk ha ho hb
 have Sh:=hr.2 e he Np
 rcases h1 with h1|h1
 · have dO:=jZ qt ho he Np
   have Y9:=(Array.getElem?_eq_some_iff.1 ho).1
   exact zj qt ha hc _ e.on bE[e.on] (Nat.lt_succ_self _) (Array.getElem?_eq_getElem (by omega)) Sh h1
 · rw [←h1];exact Sh
theorem lu.set {L:Nat→Bool} (hc:lu bE L) {i:Nat} {o:Oper} (ho:bE[i]? = some o) (hr:JD L i o):lu bE (cd L i):=by
 intro k o' Nf hk e he hb
 unfold cd at hk ⊢
 split
 · rfl
 · split at hk
   · rename_i e'
     subst e'
     rw [ho] at Nf
     injection Nf with Nf
     subst Nf
     exact hr.2 e he hb
   · exact hc k o' Nf hk e he hb
theorem JD.mono {L:Nat→Bool} {i j:Nat} {o:Oper} (h:JD L i o) (iX:i≠j):JD (cd L j) i o:=by
 refine⟨by simp [cd,iX,h.1],fun e he hb=>?_⟩
 unfold cd
 split
 · rfl
 · exact h.2 e he hb
theorem IK (L:Nat→Bool) (i j:Nat):cd (cd L i) j=cd (cd L j) i:=by
 funext k
 simp only [cd]
 split<;>split<;>rfl
theorem zK (qt:jc bE=true) (ha:wV bE nu=true) {i:Nat} {o:Oper} {v:Value} (hi:bE[i]? = some o) (TM:md i≤1):∀(n:Nat) (L:Nat→Bool) (a:Fr) (A:AW),lu bE L→
 (∀j oj,bE[j]? = some oj→j≠i→L j=false→(∀e∈oj.after,Region.binds .any e=true→e.on≠i)→o.apart bE oj=true)→
 (rL o.op=true∨(∀j oj,bE[j]? = some oj→j≠i→3≤md j→L j=false→(nu.getD j 0).testBit i=true)∨((∀j oj,bE[j]? = some oj→j≠i→4≤md j→L j=false→(nu.getD j 0).testBit i=true)∧∀A',S A'→kL bE a o=true→aq P A' (ip a) o.op=some v))→
 JD L i o→((kL bE a o=true∧aq P A (ip a) o.op=some v)∨(kL bE a o=false∧v=undef))→
 tx P bE S md K n (cd L i) (eb a o.dst v) A→tx P bE S md K (n+1) L a A:=by
 intro n
 induction n with
 | zero=>
   intro L a A hc yU cX hr hy H
   refine⟨fun jp=>?_,fun hw j oj hj DK=>?_⟩
   · have:=jp i (Array.getElem?_eq_some_iff.1 hi).1
     rw [hr.1] at this
     cases this
   · by_cases kK:j=i
     · subst kK
       rw [hi] at hj
       injection hj with hj
       subst hj
       unfold qD
       rcases hy with ⟨h1,h2⟩|⟨h1,rfl⟩
       · rw [if_pos h1,if_pos TM]
         exact⟨v,h2,H⟩
       · rw [if_neg (by simp [h1])]
         exact H
     · have:=H.1 j (Array.getElem?_eq_some_iff.1 hj).1
       simp [cd,kK,DK.1] at this
 | succ n ih=>
   intro L a A hc yU cX hr hy H
   refine⟨fun jp=>?_,fun hw j oj hj DK=>?_⟩
   · have:=jp i (Array.getElem?_eq_some_iff.1 hi).1
     rw [hr.1] at this
     cases this
   · by_cases kK:j=i
     · subst kK
       rw [hi] at hj
       injection hj with hj
       subst hj
       unfold qD
       rcases hy with ⟨h1,h2⟩|⟨h1,rfl⟩
       · rw [if_pos h1,if_pos TM]
         exact⟨v,h2,H⟩
       · rw [if_neg (by simp [h1])]
         exact H
     · have Vi:∀e∈oj.after,Region.binds .any e=true→e.on≠i:=fun e he hb Zh=>by
        have:=DK.2 e he hb
        rw [Zh,hr.1] at this
        cases this
       have Q0:=yU j oj hj kK DK.1 Vi
       obtain⟨g1,g2,g3⟩:=Oper.apart_spec Q0
       have h1:=H.2 hw j oj hj (DK.mono kK)
       refine(qD.Rf Q0 h1).mono fun u A' m1 m2 m3 m4 hk=>?_
       have zR:kL bE (eb a oj.dst u) o=kL bE a o:=EY g3
       have mg:∀A0,aq P A0 (ip (eb a oj.dst u)) o.op=aq P A0 (ip a) o.op:=fun A0=>zw (pN g3)
       have i8:=hc.set hj DK
       refine ih (cd L j) (eb a oj.dst u) A' i8 ?_ ?_ (hr.mono (Ne.symm kK)) ?_ (by rw [IK];exact hk)
       · intro q oq hq M8 Id DL
         refine yU q oq hq M8 ?_ DL
         unfold cd at Id
         split at Id
         · cases Id
         · exact Id
       · rcases cX with h|h|h
         · exact .inl h
         · refine .inr (.inl fun q oq hq M8 h3 Id=>h q oq hq M8 h3 ?_)
           unfold cd at Id
           split at Id
           · cases Id
           · exact Id
         · refine .inr (.inr ⟨fun q oq hq M8 h3 Id=>h.1 q oq hq M8 h3 ?_,fun Z1 hS hg=>by rw [mg];exact h.2 Z1 hS (by rw [←zR];exact hg)⟩)
           unfold cd at Id
           split at Id
           · cases Id
           · exact Id
       · rw [zR,mg]
         rcases hy with ⟨h2,h3⟩|h2
         · refine .inl ⟨h2,?_⟩
           rcases Nat.lt_or_ge (md j) 2 with H8|H8
           · rw [m1 (by omega)];exact h3
           · rcases Nat.lt_or_ge (md j) 3 with DM|DM
             · have eT:=m2 (by omega)
               exact NP (fun i o hi=>eT.qA hw hi) h3
             · rcases cX with h|h|h
               · rw [Hl h];exact h3
               · exfalso
                 have:=Bk qt ha hc hj DK (h j oj hj kK DM DK.1)
                 rw [hr.1] at this
                 cases this
               · cases TP:kL bE a oj with
                 | true=>
                   rcases Nat.lt_or_ge (md j) 4 with Ni|Ni
                   · exact h.2 A' (m3 (by omega) TP) h2
                   · exfalso
                     have:=Bk qt ha hc hj DK (h.1 j oj hj kK Ni DK.1)
                     rw [hr.1] at this
                     cases this
                 | false=>rw [m4 TP];exact h3
         · exact .inr h2
structure uZ where
 dst:Option Tmp
 op:Op
 guard:Option (Option Tmp×Bool)
 MW:Nat
def Tx (bE:Array Oper) (x:Nat×Nat):Option uZ:=(bE[x.1]?).map fun o=>⟨o.dst,o.op,lJ bE o.guard,x.2⟩
def cR (bE:Array Oper) (nC:List (Nat×Nat)):List uZ:=nC.filterMap (Tx bE)
def JG (P:Program) (A:AW) (r:Operand→Value) (op:Op) (k:Value→Prop):Prop:=
 match aq P A r op with
 | some v=>k v
 | none=>False
def bn (P:Program) (S:AW→Prop) (K:Fr→AW→Prop):List uZ→Fr→AW→Prop
 | [],a,A=>K a A
 | o::fR,a,A=>
   if sg a o.guard=true then
    match o.MW with
    | 0=>JG P A (ip a) o.op fun v=>bn P S K fR (eb a o.dst v) A
    | 1=>JG P A (ip a) o.op fun v=>(∀A',S A'→aq P A' (ip a) o.op=some v)∧bn P S K fR (eb a o.dst v) A
    | 2=>gz P o.op (ip a) A fun v A'=>A.le A'∧bn P S K fR (eb a o.dst v) A'
    | 3=>gz P o.op (ip a) A fun v A'=>S A'∧bn P S K fR (eb a o.dst v) A'
    | _=>gz P o.op (ip a) A fun v A'=>bn P S K fR (eb a o.dst v) A'
   else bn P S K fR (eb a o.dst undef) A
def CK (nC:List (Nat×Nat)) (j:Nat):Nat:=((nC.find? fun x=>x.1 == j).map (·.2)).getD 3
def sW (M:Nat) (i:Nat) (o:Oper):Bool:=!M.testBit i && o.after.all fun e=>!Region.binds .any e || M.testBit e.on
def OI (bE:Array Oper) (M:Nat) (i:Nat) (o:Oper):Bool:=(List.range bE.size).all fun j=>j == i || M.testBit j || match bE[j]? with
 | some oj=>oj.after.any (fun e=>Region.binds .any e && e.on == i) || o.apart bE oj
 | none=>true
def Nx (bE:Array Oper) (nu:List Nat) (nC:List (Nat×Nat)) (M i:Nat):Bool:=(List.range bE.size).all fun j=>j == i || M.testBit j || !(Nat.ble 3 (CK nC j)) || (nu.getD j 0).testBit i
def LP (bE:Array Oper) (nu:List Nat) (nC:List (Nat×Nat)) (M i:Nat):Bool:=(List.range bE.size).all fun j=>j == i || M.testBit j || !(Nat.ble 4 (CK nC j)) || (nu.getD j 0).testBit i
def Rh (bE:Array Oper) (M i:Nat):Bool:=(List.range bE.size).all fun j=>j == i || match bE[j]? with
 | some oj=>!sW M j oj
 | none=>true
def H1 (bE:Array Oper) (nu:List Nat) (nC:List (Nat×Nat)):Nat→List (Nat×Nat)→Bool
 | M,[]=>(List.range bE.size).all fun j=>M.testBit j
 | M,(i,m)::r=>(match bE[i]? with
  | none=>false
  | some o=>sW M i o && Nat.beq (CK nC i) m && (if Nat.ble m 1 then OI bE M i o && ((Nat.beq m 1 && LP bE nu nC M i) || rL o.op || Nx bE nu nC M i) else Rh bE M i)) && H1 bE nu nC (M ||| 2 ^ i) r
def IU (bE:Array Oper) (nC:List (Nat×Nat)):Bool:=jc bE && (let nu:=Qs bE.toList [];wV bE nu && (H1 bE nu nC 0 nC && nC.all fun x=>match bE[x.1]? with|some o=>Nat.ble x.2 1 == MN o.op|none=>false))
theorem j9 {M i:Nat} {o:Oper} {L:Nat→Bool} (hi:i<bE.size) (qt:jc bE=true) (ho:bE[i]? = some o) (hL:∀j,j<bE.size→L j=M.testBit j):sW M i o=true↔JD L i o:=by
 unfold sW JD
 rw [Bool.and_eq_true,Bool.not_eq_true',←hL i hi,Array.all_eq_true_iff_forall_mem]
 refine and_congr Iff.rfl (forall_congr' fun e=>forall_congr' fun he=>?_)
 simp only [Bool.or_eq_true,Bool.not_eq_true']
 constructor
 · rintro (h|h) hb
   · rw [h] at hb;cases hb
   · have dO:=jZ qt ho he hb
     rw [hL e.on (by omega)]
     exact h
 · intro h
   cases hb:Region.binds .any e
   · exact .inl rfl
   · have dO:=jZ qt ho he hb
     rw [←hL e.on (by omega)]
     exact .inr (h hb)
theorem uR (qt:jc bE=true) (ha:wV bE nu=true) {nC:List (Nat×Nat)}:∀(l:List (Nat×Nat)) (M:Nat) (L:Nat→Bool) (a:Fr) (A:AW),(∀j,j<bE.size→L j=M.testBit j)→lu bE L→
 H1 bE nu nC M l=true→bn P S K (cR bE l) a A→tx P bE S (CK nC) K l.length L a A
 | [],M,L,a,A,hL,hc,hg,h=>⟨fun j hj=>by rw [hL j hj];exact List.all_eq_true.1 hg j (List.mem_range.2 hj),h⟩
 | (i,m)::r,M,L,a,A,hL,hc,hg,h=>by
   unfold H1 at hg
   rw [Bool.and_eq_true] at hg
   obtain⟨vD,GR⟩:=hg
   cases hi:bE[i]? with
   | none=>rw [hi] at vD;cases vD
   | some o=>
     rw [hi] at vD
     simp only [Bool.and_eq_true] at vD
     obtain⟨⟨hr,TM⟩,vG⟩:=vD
     have DN:=(Array.getElem?_eq_some_iff.1 hi).1
     have Vk:CK nC i=m:=Nat.eq_of_beq_eq_true TM
     have Oo:JD L i o:=(j9 DN qt hi hL).1 hr
     have Zz:∀j,j<bE.size→cd L i j=(M ||| 2 ^ i).testBit j:=fun j hj=>by
      rw [Nat.testBit_or,Nat.testBit_two_pow,←hL j hj]
      unfold cd
      by_cases e:j=i
      · subst e;simp
      · have:¬i=j:=fun x=>e x.symm
        simp [e,this]
     have P1:=hc.set hi Oo
     have IH:∀a A,bn P S K (cR bE r) a A→tx P bE S (CK nC) K r.length (cd L i) a A:=fun a A h=>uR qt ha r (M ||| 2 ^ i) _ a A Zz P1 GR h
     have Vn:cR bE ((i,m)::r)=⟨o.dst,o.op,lJ bE o.guard,m⟩::cR bE r:=by simp [cR,Tx,hi]
     rw [Vn] at h
     unfold bn at h
     simp only [←HE] at h
     have RG:¬m≤1→∀j oj,bE[j]? = some oj→JD L j oj→j=i:=fun CS j oj hj DK=>by
      rw [if_neg (by simpa [Nat.ble_eq] using CS)] at vG
      have h1:=List.all_eq_true.1 vG j (List.mem_range.2 (Array.getElem?_eq_some_iff.1 hj).1)
      rw [hj] at h1
      simp only [Bool.or_eq_true,beq_iff_eq,Bool.not_eq_true'] at h1
      rcases h1 with h1|h1
      · exact h1
      · rw [(j9 (Array.getElem?_eq_some_iff.1 hj).1 qt hj hL).2 DK] at h1
        cases h1
     have RR:¬∀j,j<bE.size→L j=true:=fun jp=>by
      have:=jp i DN
      rw [Oo.1] at this
      cases this
     by_cases CS:m≤1
     · rw [if_pos (by simpa [Nat.ble_eq] using CS)] at vG
       simp only [Bool.and_eq_true] at vG
       obtain⟨qB,cX⟩:=vG
       have yU:∀j oj,bE[j]? = some oj→j≠i→L j=false→(∀e∈oj.after,Region.binds .any e=true→e.on≠i)→o.apart bE oj=true:=fun j oj hj kK LH DL=>by
        have xE:=(Array.getElem?_eq_some_iff.1 hj).1
        have h1:=List.all_eq_true.1 qB j (List.mem_range.2 xE)
        rw [hj,←hL j xE,LH] at h1
        simp only [Bool.or_eq_true,beq_iff_eq,Bool.false_eq_true,or_false] at h1
        rcases h1 with h1|h1|h1
        · exact absurd h1 kK
        · exfalso
          rw [Array.any_eq_true] at h1
          obtain⟨q,hq,h2⟩:=h1
          simp only [Bool.and_eq_true,beq_iff_eq] at h2
          exact DL _ (Array.getElem_mem hq) h2.1 h2.2
        · exact h1
       have bS:∀v,((kL bE a o=true∧aq P A (ip a) o.op=some v)∨(kL bE a o=false∧v=undef))→(m=1→kL bE a o=true→∀A',S A'→aq P A' (ip a) o.op=some v)→
        bn P S K (cR bE r) (eb a o.dst v) A→tx P bE S (CK nC) K (r.length+1) L a A:=by
        intro v hy hS hk
        refine zK qt ha hi (by omega) r.length L a A hc yU ?_ Oo hy (IH _ _ hk)
        simp only [Bool.or_eq_true] at cX
        rcases cX with (h1|h1)|h1
        · rw [Bool.and_eq_true] at h1
          refine .inr (.inr ⟨fun j oj hj kK h3 LH=>?_,fun A' uy zR=>hS (Nat.eq_of_beq_eq_true h1.1) zR A' uy⟩)
          have xE:=(Array.getElem?_eq_some_iff.1 hj).1
          have h2:=List.all_eq_true.1 h1.2 j (List.mem_range.2 xE)
          rw [←hL j xE,LH] at h2
          have CW:Nat.ble 4 (CK nC j)=true:=Nat.ble_eq_true_of_le h3
          rw [CW] at h2
          simpa [kK] using h2
        · exact .inl h1
        · refine .inr (.inl fun j oj hj kK h3 LH=>?_)
          have xE:=(Array.getElem?_eq_some_iff.1 hj).1
          have h2:=List.all_eq_true.1 h1 j (List.mem_range.2 xE)
          rw [←hL j xE,LH] at h2
          have CW:Nat.ble 3 (CK nC j)=true:=Nat.ble_eq_true_of_le h3
          rw [CW] at h2
          simpa [kK] using h2
       split at h
       · rename_i zR
         have:m=0∨m=1:=by omega
         rcases this with rfl|rfl
         · simp only [JG] at h
           split at h
           · rename_i v hv
             exact bS v (.inl ⟨zR,hv⟩) (fun e=>by omega) h
           · exact h.elim
         · simp only [JG] at h
           split at h
           · rename_i v hv
             exact bS v (.inl ⟨zR,hv⟩) (fun _ _=>h.1) h.2
           · exact h.elim
       · rename_i zR
         have Lz:kL bE a o=false:=by simpa using zR
         exact bS undef (.inr ⟨Lz,rfl⟩) (fun _ e=>by rw [Lz] at e;cases e) h
     · refine⟨fun jp=>absurd jp RR,fun hw j oj hj DK=>?_⟩
       have kK:=RG CS j oj hj DK
       subst kK
       rw [hi] at hj
       injection hj with hj
       subst hj
       unfold qD
       split at h
       · rename_i zR
         rw [if_pos zR,if_neg (by omega),Vk]
         by_cases h2:m=2
         · subst h2
           exact h.mono fun v A' hh=>⟨by rw [if_pos rfl];exact hh.1,IH _ _ hh.2⟩
         · have:∃q,m=q+3:=⟨m-3,by omega⟩
           obtain⟨q,rfl⟩:=this
           cases q with
           | zero=>exact h.mono fun v A' hh=>⟨by rw [if_neg h2];exact fun _=>hh.1,IH _ _ hh.2⟩
           | succ q=>exact h.mono fun v A' hh=>⟨by rw [if_neg h2];exact fun e=>by omega,IH _ _ hh⟩
       · rename_i zR
         rw [if_neg zR]
         exact IH _ _ h
end
theorem L8 {P:Program} {n:Nat} {Q:Exit→Fr→AW→Prop} {a:Fr} {A:AW} {id:Nat} {bE:Array Oper} (S:AW→Prop) (nC:List (Nat×Nat)) (hm:P.follows .mixedOrders=true) (hB:IU bE nC=true)
 (h:∀K:Fr→AW→Prop,(∀a A,Q .normal a A→K a A)→bn P S K (cR bE nC) a A):eg P n (.region id bE true) Q a A:=by
 simp only [IU,Bool.and_eq_true] at hB
 exact wO hm hB.1 (uR hB.1 hB.2.1 nC 0 _ a A (fun j _=>by simp) (fun k o _ hk=>by cases hk) hB.2.2.1 (h _ fun _ _ h=>h))
theorem Gr {P:Program} {S:AW→Prop} {K:Fr→AW→Prop} {o:uZ} {fR:List uZ} {a:Fr} {A:AW}
 (h:∀R:Fr→AW→Prop,(∀a A,bn P S K fR a A→R a A)→
  if sg a o.guard=true then
   match o.MW with
   | 0=>JG P A (ip a) o.op fun v=>R (eb a o.dst v) A
   | 1=>JG P A (ip a) o.op fun v=>(∀A',S A'→aq P A' (ip a) o.op=some v)∧R (eb a o.dst v) A
   | 2=>gz P o.op (ip a) A fun v A'=>A.le A'∧R (eb a o.dst v) A'
   | 3=>gz P o.op (ip a) A fun v A'=>S A'∧R (eb a o.dst v) A'
   | _=>gz P o.op (ip a) A fun v A'=>R (eb a o.dst v) A'
  else R (eb a o.dst undef) A):bn P S K (o::fR) a A:=h _ fun _ _ h=>h
attribute [simp] JG
end Go.Stx
namespace Go.Stx
open Go
variable [Gl]
set_option linter.unusedSectionVars false
set_option linter.unusedVariables false
def bY (val:Nat→Value) (i:Nat) (v:Value):Nat→Value:=fun j=>if j=i then v else val j
def H0 (bE:Array Oper):Bool:=jc bE && (List.range bE.size).all fun i=>match bE[i]? with
 | some o=>o.guard.isNone && (List.range bE.size).all fun j=>j == i || match bE[j]?,o.dst with
   | some oj,some d=>!(oj.dst == some d)
   | _,_=>true
 | none=>false
theorem yI {bE:Array Oper} (h:H0 bE=true):jc bE=true∧(∀(i:Nat) (o:Oper),bE[i]? = some o→o.guard=none)∧
 ∀(i j:Nat) (o oj:Oper) (d:Tmp),bE[i]? = some o→bE[j]? = some oj→i≠j→o.dst=some d→oj.dst≠some d:=by
 simp only [H0,Bool.and_eq_true] at h
 refine⟨h.1,fun i o ho=>?_,fun i j o oj d ho W5 iX hd Zl=>?_⟩
 · have:=List.all_eq_true.1 h.2 i (List.mem_range.2 (Array.getElem?_eq_some_iff.1 ho).1)
   rw [ho] at this
   simp only [Bool.and_eq_true] at this
   simpa using this.1
 · have:=List.all_eq_true.1 h.2 i (List.mem_range.2 (Array.getElem?_eq_some_iff.1 ho).1)
   rw [ho] at this
   simp only [Bool.and_eq_true] at this
   have h2:=List.all_eq_true.1 this.2 j (List.mem_range.2 (Array.getElem?_eq_some_iff.1 W5).1)
   rw [W5,hd] at h2
   simp only [Bool.or_eq_true,beq_iff_eq,Bool.not_eq_true'] at h2
   rcases h2 with h2|h2
   · exact iX h2.symm
   · rw [Zl] at h2
     simp at h2
theorem NG {P:Program} {n:Nat} {Q:Exit→Fr→AW→Prop} {a0:Fr} {A0:AW} {id:Nat} {bE:Array Oper} (hm:P.follows .mixedOrders=true) (hB:H0 bE=true)
 (G:(Nat→Bool)→(Nat→Value)→HP) (φ:Nat→(Nat→Value)→Prop)
 (hG:∀(S:Nat→Bool) (i:Nat) (val:Nat→Value) (v:Value),lu bE S→S i=false→G S (bY val i v)=G S val)
 (hφ:∀(S:Nat→Bool) (i j:Nat) (val:Nat→Value) (v:Value),lu bE S→S i=false→S j=true→φ j val→φ j (bY val i v))
 (h0:∀val,bz A0 (G (fun _=>false) val))
 (uq:∀(i:Nat) (o:Oper),bE[i]? = some o→∀(S:Nat→Bool) (val:Nat→Value) (a:Fr) (A:AW),S i=false→(∀e∈o.after,Region.binds .any e=true→S e.on=true)→lu bE S→(∀j,S j=true→φ j val)→A.Wf→bz A (G S val)→
  (∀(j:Nat) (oj:Oper) (d:Tmp),bE[j]? = some oj→oj.dst=some d→S j=true→a d=val j)→(∀d:Tmp,(bE.toList.all fun o=>!(o.dst == some d))=true→a d=a0 d)→
  gz P o.op (ip a) A fun v A'=>φ i (bY val i v)∧bz A' (G (cd S i) (bY val i v)))
 (pm:∀(S:Nat→Bool) (val:Nat→Value) (a:Fr) (A:AW),(∀i,i<bE.size→S i=true)→(∀j,S j=true→φ j val)→A.Wf→bz A (G S val)→
  (∀(j:Nat) (oj:Oper) (d:Tmp),bE[j]? = some oj→oj.dst=some d→S j=true→a d=val j)→(∀d:Tmp,(bE.toList.all fun o=>!(o.dst == some d))=true→a d=a0 d)→Q .normal a A) :
 eg P n (.region id bE true) Q a0 A0:=by
 obtain⟨qt,TQ,Zk⟩:=yI hB
 intro ko m w ca hs hf
 have Fz:A0.Wf:=hs.DJ
 refine Io hm qt (fun S a A=>(A.Wf→lu bE S∧∃val,(∀j,S j=true→φ j val)∧bz A (G S val)∧(∀(j:Nat) (oj:Oper) (d:Tmp),bE[j]? = some oj→oj.dst=some d→S j=true→a d=val j)∧
  (∀d:Tmp,(bE.toList.all fun o=>!(o.dst == some d))=true→a d=a0 d)∧((∀i,i<bE.size→S i=true)→Q .normal a A))) ?_ ?_ ?_ ko m w ca hs hf
 · intro hw
   refine⟨?_,fun _=>undef,?_,h0 _,?_,?_,fun jp=>?_⟩
   · intro k o _ h;cases h
   · intro j h;cases h
   · intro j oj d _ _ h;cases h
   · intro d _;rfl
   · refine pm (fun _=>false) (fun _=>undef) a0 A0 jp ?_ Fz (h0 _) ?_ ?_
     · intro j h;cases h
     · intro j oj d _ _ h;cases h
     · intro d _;rfl
 · intro S a A i o hw hJ ho ot iq
   obtain⟨i8,val,h1,h2,h3,h4,_⟩:=hJ hw
   have VK:=i8.set ho ⟨ot,iq⟩
   have cX:=uq i o ho S val a A ot iq i8 h1 hw h2 h3 h4
   unfold JI
   have hg:kL bE a o=true:=by simp [kL,TQ i o ho]
   rw [if_pos hg]
   refine cX.mono fun v A' ⟨h5,h6⟩ km=>?_
   have hp:∀j,cd S i j=true→φ j (bY val i v):=fun j hj=>by
    by_cases e:j=i
    · subst e;exact h5
    · have:S j=true:=by simpa [cd,e] using hj
      exact hφ S i j val v i8 ot this (h1 j this)
   have qB:∀j oj d,bE[j]? = some oj→oj.dst=some d→cd S i j=true→eb a o.dst v d=bY val i v j:=fun j oj d hj hd Zy=>by
    by_cases e:j=i
    · subst e
      rw [ho] at hj
      injection hj with hj
      subst hj
      rw [hd]
      simp [eb,BW,bY]
    · have VT:S j=true:=by simpa [cd,e] using Zy
      have iX:o.dst≠some d:=fun x=>Zk i j o oj d ho hj (Ne.symm e) x hd
      have:eb a o.dst v d=a d:=by
       cases hod:o.dst with
       | none=>rfl
       | some q=>
         have:d≠q:=fun x=>iX (by rw [hod,x])
         simp [eb,BW,this]
      rw [this,h3 j oj d hj hd VT]
      simp [bY,e]
   have I7:∀d:Tmp,(bE.toList.all fun o=>!(o.dst == some d))=true→eb a o.dst v d=a0 d:=fun d hd=>by
    have iX:o.dst≠some d:=fun x=>by
     have:=List.all_eq_true.1 hd o (Array.mem_toList_iff.2 (Array.mem_of_getElem? ho))
     rw [x] at this
     simp at this
    have:eb a o.dst v d=a d:=by
     cases hod:o.dst with
     | none=>rfl
     | some q=>
       have:d≠q:=fun x=>iX (by rw [hod,x])
       simp [eb,BW,this]
    rw [this]
    exact h4 d hd
   exact⟨VK,bY val i v,hp,h6,qB,I7,fun jp=>pm _ _ _ _ jp hp km h6 qB I7⟩
 · intro S a A hw hJ jp
   obtain⟨_,val,_,_,_,_,h⟩:=hJ hw
   exact h jp
def sE (bE:Array Oper) (k j:Nat):Bool:=match bE[k]? with
 | some o=>o.after.toList.any fun e=>Region.binds .any e && e.on == j
 | none=>false
def Qh (bE:Array Oper) (j d:Nat):Bool:=match bE[j]? with
 | some o=>o.dst == some d
 | none=>false
def O5 (bE:Array Oper) (d:Nat):Bool:=bE.toList.all fun o=>!(o.dst == some d)
def jR (bE:Array Oper) (i:Nat):Op:=match bE[i]? with
 | some o=>o.op
 | none=>.alloc 0
structure OP (bE:Array Oper) (φ:Nat→(Nat→Value)→Prop) (a0:Fr) (S:Nat→Bool) (val:Nat→Value) (a:Fr):Prop where
 Ha:∀k j,sE bE k j=true→S k=true→S j=true
 nJ:∀j,S j=true→φ j val
 jJ:∀j d,Qh bE j d=true→S j=true→a d=val j
 eo:∀d,O5 bE d=true→a d=a0 d
theorem C2 {bE:Array Oper} {S:Nat→Bool} (hc:lu bE S) (k j:Nat) (h:sE bE k j=true) (hk:S k=true):S j=true:=by
 unfold sE at h
 split at h
 · rename_i o ho
   obtain⟨e,he,h2⟩:=List.any_eq_true.1 h
   simp only [Bool.and_eq_true,beq_iff_eq] at h2
   rw [←h2.2]
   exact hc k o ho hk e (Array.mem_toList_iff.1 he) h2.1
 · cases h
theorem L7 {P:Program} {n:Nat} {Q:Exit→Fr→AW→Prop} {a0:Fr} {A0:AW} {id:Nat} {bE:Array Oper} (hm:P.follows .mixedOrders=true) (hB:H0 bE=true)
 (G:(Nat→Bool)→(Nat→Value)→HP) (φ:Nat→(Nat→Value)→Prop)
 (hG:∀(S:Nat→Bool) (i:Nat) (val:Nat→Value) (v:Value),(∀k j,sE bE k j=true→S k=true→S j=true)→S i=false→G S (bY val i v)=G S val)
 (hφ:∀(S:Nat→Bool) (i j:Nat) (val:Nat→Value) (v:Value),(∀k j,sE bE k j=true→S k=true→S j=true)→S i=false→S j=true→φ j val→φ j (bY val i v))
 (h0:∀val,bz A0 (G (fun _=>false) val))
 (uq:∀(i:Nat),i<bE.size→∀(S:Nat→Bool) (val:Nat→Value) (a:Fr) (A:AW),S i=false→(∀j,sE bE i j=true→S j=true)→OP bE φ a0 S val a→A.Wf→bz A (G S val)→
  gz P (jR bE i) (ip a) A fun v A'=>φ i (bY val i v)∧bz A' (G (cd S i) (bY val i v)))
 (pm:∀(S:Nat→Bool) (val:Nat→Value) (a:Fr) (A:AW),(∀i,i<bE.size→S i=true)→OP bE φ a0 S val a→A.Wf→bz A (G S val)→Q .normal a A) :
 eg P n (.region id bE true) Q a0 A0:=by
 have N6:∀{S:Nat→Bool} {val:Nat→Value} {a:Fr},(∀(j:Nat) (oj:Oper) (d:Tmp),bE[j]? = some oj→oj.dst=some d→S j=true→a d=val j)→∀j d,Qh bE j d=true→S j=true→a d=val j:=by
  intro S val a h j d hd hj
  unfold Qh at hd
  split at hd
  · rename_i o ho
    exact h j o d ho (by simpa using hd) hj
  · cases hd
 refine NG hm hB G φ (fun S i val v hc=>hG S i val v (C2 hc)) (fun S i j val v hc=>hφ S i j val v (C2 hc)) h0 ?_ ?_
 · intro i o ho S val a A hi iq hc hp hw hs hf Mz
   have mg:jR bE i=o.op:=by unfold jR;rw [ho]
   have I9:∀j,sE bE i j=true→S j=true:=fun j hj=>by
    unfold sE at hj
    rw [ho] at hj
    obtain⟨e,he,h2⟩:=List.any_eq_true.1 hj
    simp only [Bool.and_eq_true,beq_iff_eq] at h2
    rw [←h2.2]
    exact iq e (Array.mem_toList_iff.1 he) h2.1
   have dO:i<bE.size:=(Array.getElem?_eq_some_iff.1 ho).1
   have key:=uq i dO S val a A hi I9 ⟨C2 hc,hp,N6 hf,Mz⟩ hw hs
   rw [mg] at key
   exact key
 · intro S val a A jp hp hw hs hf Mz
   refine pm S val a A jp ⟨?_,hp,N6 hf,Mz⟩ hw hs
   intro k j h hk
   unfold sE at h
   split at h
   · rename_i o ho
     obtain⟨e,he,h2⟩:=List.any_eq_true.1 h
     simp only [Bool.and_eq_true,beq_iff_eq] at h2
     have dO:=jZ (yI hB).1 ho (Array.mem_toList_iff.1 he) h2.1
     have hk':=(Array.getElem?_eq_some_iff.1 ho).1
     exact jp j (by omega)
   · cases h
end Go.Stx
namespace Go.Stx
open Go
variable [Gl]
set_option linter.unusedSectionVars false
set_option linter.unusedVariables false
def Rw (bE:Array Oper) (o:Oper):uZ:=⟨o.dst,o.op,lJ bE o.guard,3⟩
def df (bE:Array Oper):List uZ:=bE.toList.map (Rw bE)
theorem oE {P:Program} {bE:Array Oper} {K:Fr→AW→Prop}:∀(l:List Oper) (a:Fr) (A:AW),bn P (fun _=>True) K (l.map (Rw bE)) a A→Hw P bE K l a A
 | [],a,A,h=>h
 | o::fR,a,A,h=>by
   simp only [List.map_cons,bn,Rw] at h
   simp only [Hw,HE]
   split
   · rename_i hg
     rw [if_pos hg] at h
     exact h.mono fun v A' hh=>oE fR _ _ hh.2
   · rename_i hg
     rw [if_neg hg] at h
     exact oE fR _ _ h
section
variable {P:Program} {n:Nat} {Q:Exit→Fr→AW→Prop} {a:Fr} {A:AW} {id:Nat}
theorem wn {bE:Array Oper} (h:∀K:Fr→AW→Prop,(∀a A,Q .normal a A→K a A)→bn P (fun _=>True) K (df bE) a A):eg P n (.region id bE false) Q a A:=
 Hh (oE _ _ _ (h _ fun _ _ h=>h))
theorem wl {bE:Array Oper} (hm:P.follows .mixedOrders=true) (nC:List (Nat×Nat)) (hB:IU bE nC=true)
 (h:∀K:Fr→AW→Prop,(∀a A,Q .normal a A→K a A)→bn P (fun _=>True) K (cR bE nC) a A):eg P n (.region id bE true) Q a A:=L8 _ nC hm hB h
theorem O2 {bE:Array Oper} (S:AW→Prop) (hm:P.follows .mixedOrders=true) (nC:List (Nat×Nat)) (hB:IU bE nC=true)
 (h:∀K:Fr→AW→Prop,(∀a A,Q .normal a A→K a A)→bn P S K (cR bE nC) a A):eg P n (.region id bE true) Q a A:=L8 S nC hm hB h
end
theorem jx {P:Program} {S:AW→Prop} {K:Fr→AW→Prop} {o:uZ} {fR:List uZ} {a:Fr} {A:AW}
 (h:∀R:Fr→AW→Prop,(∀a A,bn P S K fR a A→R a A)→
  if sg a o.guard=true then
   match o.MW with
   | 0=>JG P A (ip a) o.op fun v=>R (eb a o.dst v) A
   | 1=>JG P A (ip a) o.op fun v=>(∀A',S A'→aq P A' (ip a) o.op=some v)∧R (eb a o.dst v) A
   | 2=>gz P o.op (ip a) A fun v A'=>A.le A'∧R (eb a o.dst v) A'
   | 3=>gz P o.op (ip a) A fun v A'=>S A'∧R (eb a o.dst v) A'
   | _=>gz P o.op (ip a) A fun v A'=>R (eb a o.dst v) A'
  else R (eb a o.dst undef) A):bn P S K (o::fR) a A:=Gr h
theorem WN {P:Program} {S:AW→Prop} {K:Fr→AW→Prop} {a:Fr} {A:AW} (h:K a A):bn P S K [] a A:=h
theorem lr {A:AW} {p:Prop} (h:p):A.le A∧p:=⟨AW.le.refl A,h⟩
theorem la {A:AW} {o:dK} {p:Prop} (h:p):A.le (A.alloc o)∧p:=⟨AW.le.alloc A o,h⟩
theorem wb {P:Program} {n:Nat} {Q:Exit→Fr→AW→Prop} {a:Fr} {A:AW} {id:Nat} {c:Code} (h:eg P n c (dN id Q) a A):eg P n (.block id c) Q a A:=Jz h
theorem wq {P:Program} {n:Nat} {Q:Exit→Fr→AW→Prop} {a:Fr} {A:AW} {x y:Code} (h:eg P n x (bH (eg P n y Q) Q) a A):eg P n (.seq x y) Q a A:=dI h
theorem wr {P:Program} {n:Nat} {Q:Exit→Fr→AW→Prop} {a:Fr} {A:AW} (h:Q .ret a A):eg P n .ret Q a A:=Im h
theorem wk {P:Program} {n:Nat} {Q:Exit→Fr→AW→Prop} {a:Fr} {A:AW} (h:Q .normal a A):eg P n .skip Q a A:=L5 h
theorem we {P:Program} {n:Nat} {Q:Exit→Fr→AW→Prop} {a:Fr} {A:AW} {id:Nat} (h:Q (.exit id) a A):eg P n (.exit id) Q a A:=L9 h
theorem wc {P:Program} {n:Nat} {Q:Exit→Fr→AW→Prop} {a:Fr} {A:AW} {c:Operand} {x y:Code} {b:Bool} (hc:ip a c=.bool b) (h1:b=true→eg P n x Q a A) (h2:b=false→eg P n y Q a A) :
 eg P n (.cond c x y) Q a A:=Ma hc h1 h2
theorem ws {P:Program} {n:Nat} {c:Code} {Q:Exit→Fr→AW→Prop} {a:Fr} {A:AW} {k:Nat} (h:eg P n c (bH (aV P n c Q k) Q) a A):aV P n c Q (k+1) a A:=h
theorem ib {c:Prop} [Decidable c] {p q:Prop} (h1:c→p) (h2:¬c→q):if c then p else q:=Ll h1 h2
theorem wS:(∀bE:Array Oper,df bE=bE.toList.map (Rw bE))∧(∀(bE:Array Oper) (o:Oper),Rw bE o=⟨o.dst,o.op,lJ bE o.guard,3⟩)∧
 (∀(bE:Array Oper) (l:List (Nat×Nat)),cR bE l=l.filterMap (Tx bE))∧(∀(bE:Array Oper) (x:Nat×Nat),Tx bE x=(bE[x.1]?).map fun o=>⟨o.dst,o.op,lJ bE o.guard,x.2⟩)∧
 (∀(bE:Array Oper) (g:Option (Nat×Bool)),lJ bE g=g.map fun x=>((bE[x.1]?).bind (·.dst),x.2))∧
 (∀(f:Oper→uZ) (a:Oper) (l:List Oper),List.map f (a::l)=f a::List.map f l)∧(∀f:Oper→uZ,List.map f []=[])∧
 (∀(f:Nat×Nat→Option uZ) (a:Nat×Nat) (l:List (Nat×Nat)),List.filterMap f (a::l)=match f a with|none=>List.filterMap f l|some b=>b::List.filterMap f l)∧(∀f:Nat×Nat→Option uZ,List.filterMap f []=[])∧
 (∀f:Oper→uZ,Option.map f none=none)∧(∀(f:Oper→uZ) (a:Oper),Option.map f (some a)=some (f a))∧
 (∀f:Nat×Bool→Option Tmp×Bool,Option.map f none=none)∧(∀(f:Nat×Bool→Option Tmp×Bool) (a:Nat×Bool),Option.map f (some a)=some (f a))∧
 (∀(l:List Oper) (i:Nat),l.toArray[i]? = l[i]?)∧(∀(a:Oper) (l:List Oper),(a::l)[0]? = some a)∧(∀(a:Oper) (l:List Oper) (i:Nat),(a::l)[i+1]? = l[i]?)∧
 (∀(a:Oper) (f:Oper→Option Tmp),(some a).bind f=f a):=by
 refine⟨fun _=>rfl,fun _ _=>rfl,fun _ _=>rfl,fun _ _=>rfl,fun _ _=>rfl,fun _ _ _=>rfl,fun _=>rfl,fun f a l=>?_,fun _=>rfl,fun _=>rfl,fun _ _=>rfl,fun _=>rfl,fun _ _=>rfl,fun l i=>?_,fun _ _=>rfl,fun _ _ _=>rfl,fun _ _=>rfl⟩
 · rw [List.filterMap_cons];cases f a<;>rfl
 · simp
attribute [simp] AW.gi AW.dX Value.oneCell'
end Go.Stx
namespace Go.Stx
open Go
variable [Gl]
set_option linter.unusedSectionVars false
set_option linter.unusedVariables false
inductive rx where
 | nil
 | bh (i:Nat) (t:rx)
 | sc (i:Nat) (t:rx) (j:Nat) (t':rx)
inductive sM where
 | nil
 | bh (o:uZ) (t:sM)
 | sc (o:uZ) (t:sM) (o':uZ) (t':sM)
def sQ (bE:Array Oper) (md:List Nat) (i:Nat):uZ:=match bE[i]? with
 | some o=>⟨o.dst,o.op,lJ bE o.guard,md.getD i 3⟩
 | none=>⟨none,.alloc 0,none,3⟩
def cg (bE:Array Oper) (md:List Nat):rx→sM
 | .nil=>.nil
 | .bh i t=>.bh (sQ bE md i) (cg bE md t)
 | .sc i t j t'=>.sc (sQ bE md i) (cg bE md t) (sQ bE md j) (cg bE md t')
def lW (P:Program) (S:AW→Prop) (o:uZ) (a:Fr) (A:AW) (R:Fr→AW→Prop):Prop:=
 if sg a o.guard=true then
  match o.MW with
  | 0=>JG P A (ip a) o.op fun v=>R (eb a o.dst v) A
  | 1=>JG P A (ip a) o.op fun v=>(∀A',S A'→aq P A' (ip a) o.op=some v)∧R (eb a o.dst v) A
  | 2=>gz P o.op (ip a) A fun v A'=>A.le A'∧R (eb a o.dst v) A'
  | 3=>gz P o.op (ip a) A fun v A'=>S A'∧R (eb a o.dst v) A'
  | _=>gz P o.op (ip a) A fun v A'=>R (eb a o.dst v) A'
 else R (eb a o.dst undef) A
def TW (P:Program) (S:AW→Prop) (K:Fr→AW→Prop):sM→Fr→AW→Prop
 | .nil,a,A=>K a A
 | .bh o t,a,A=>lW P S o a A (TW P S K t)
 | .sc o t o' t',a,A=>lW P S o a A (TW P S K t)∧lW P S o' a A (TW P S K t')
section
variable {P:Program} {bE:Array Oper} {S:AW→Prop} {K:Fr→AW→Prop} {nu:List Nat}
def Km (bE:Array Oper) (nu md:List Nat) (M i:Nat):Bool:=(List.range bE.size).all fun j=>j == i || M.testBit j || !(Nat.ble 3 (md.getD j 3)) || (nu.getD j 0).testBit i
def IC (bE:Array Oper) (nu md:List Nat) (M i:Nat):Bool:=(List.range bE.size).all fun j=>j == i || M.testBit j || !(Nat.ble 4 (md.getD j 3)) || (nu.getD j 0).testBit i
def Oa (bE:Array Oper) (M i j:Nat):Bool:=(List.range bE.size).all fun k=>k == i || k == j || match bE[k]? with
 | some o=>!sW M k o
 | none=>true
def Ij (bE:Array Oper) (md:List Nat) (M i:Nat):Bool:=match bE[i]? with
 | some o=>sW M i o && !(Nat.ble (md.getD i 3) 1)
 | none=>false
def sO (bE:Array Oper) (nu md:List Nat):Nat→rx→Bool
 | M,.nil=>(List.range bE.size).all fun j=>M.testBit j
 | M,.bh i t=>(match bE[i]? with
  | none=>false
  | some o=>sW M i o && (if Nat.ble (md.getD i 3) 1 then OI bE M i o && ((Nat.beq (md.getD i 3) 1 && IC bE nu md M i) || rL o.op || Km bE nu md M i) else Oa bE M i i)) && sO bE nu md (M ||| 2 ^ i) t
 | M,.sc i t j t'=>Ij bE md M i && Ij bE md M j && Oa bE M i j && sO bE nu md (M ||| 2 ^ i) t && sO bE nu md (M ||| 2 ^ j) t'
def Kg (bE:Array Oper) (md:List Nat) (t:rx):Bool:=jc bE && (let nu:=Qs bE.toList [];wV bE nu && sO bE nu md 0 t)
def depth:rx→Nat
 | .nil=>0
 | .bh _ t=>depth t+1
 | .sc _ t _ t'=>max (depth t) (depth t')+1
theorem BP {md:Nat→Nat}:∀{n:Nat} {L:Nat→Bool} {a:Fr} {A:AW},tx P bE S md K n L a A→tx P bE S md K (n+1) L a A
 | 0,L,a,A,h=>⟨fun _=>h.2,fun _ i o ho hr=>by have:=h.1 i (Array.getElem?_eq_some_iff.1 ho).1;rw [hr.1] at this;cases this⟩
 | n+1,L,a,A,h=>⟨h.1,fun hw i o ho hr=>(h.2 hw i o ho hr).mono fun v A' _ _ _ _ hk=>BP hk⟩
theorem Is {md:Nat→Nat} {n m:Nat} (YZ:n≤m) {L:Nat→Bool} {a:Fr} {A:AW} (h:tx P bE S md K n L a A):tx P bE S md K m L a A:=by
 induction YZ with
 | refl=>exact h
 | step _ ih=>exact BP ih
theorem tf {md:List Nat} {i:Nat} {o:Oper} (hi:bE[i]? = some o) (hm:¬md.getD i 3≤1) {a:Fr} {A:AW} {R:Fr→AW→Prop} (h:lW P S (sQ bE md i) a A R):qD P bE S (fun j=>md.getD j 3) i o a A R:=by
 simp only [lW,sQ,hi,←HE] at h
 unfold qD
 split
 · rename_i hg
   rw [if_pos hg] at h
   by_cases h2:md.getD i 3=2
   · rw [h2] at h
     exact h.mono fun v A' hh=>⟨by rw [if_pos h2];exact hh.1,hh.2⟩
   · have:∃q,md.getD i 3=q+3:=⟨md.getD i 3-3,by omega⟩
     obtain⟨q,hq⟩:=this
     rw [hq] at h
     cases q with
     | zero=>exact h.mono fun v A' hh=>⟨by rw [if_neg h2];exact fun _=>hh.1,hh.2⟩
     | succ q=>exact h.mono fun v A' hh=>⟨by rw [if_neg h2];exact fun e=>by(have e':md.getD i 3=3:=e);omega,hh⟩
 · rename_i hg
   rw [if_neg hg] at h
   exact h
theorem u9 {L:Nat→Bool} {M i:Nat} (hL:∀j,j<bE.size→L j=M.testBit j):∀j,j<bE.size→cd L i j=(M ||| 2 ^ i).testBit j:=fun j hj=>by
 rw [Nat.testBit_or,Nat.testBit_two_pow,←hL j hj]
 unfold cd
 by_cases e:j=i
 · subst e;simp
 · have:¬i=j:=fun x=>e x.symm
   simp [e,this]
theorem mJ (qt:jc bE=true) (ha:wV bE nu=true) {md:List Nat}:∀(t:rx) (M:Nat) (L:Nat→Bool) (a:Fr) (A:AW),(∀j,j<bE.size→L j=M.testBit j)→lu bE L→
 sO bE nu md M t=true→TW P S K (cg bE md t) a A→tx P bE S (fun j=>md.getD j 3) K (depth t) L a A
 | .nil,M,L,a,A,hL,hc,hg,h=>⟨fun j hj=>by rw [hL j hj];exact List.all_eq_true.1 hg j (List.mem_range.2 hj),h⟩
 | .sc i t j t',M,L,a,A,hL,hc,hg,h=>by
   simp only [sO,Bool.and_eq_true] at hg
   obtain⟨⟨⟨⟨Zj,Zi⟩,YU⟩,Nk⟩,TP⟩:=hg
   have XA:∀{k:Nat},Ij bE md M k=true→∃o,bE[k]? = some o∧JD L k o∧¬md.getD k 3≤1:=fun {k} hk=>by
    unfold Ij at hk
    cases ho:bE[k]? with
    | none=>rw [ho] at hk;cases hk
    | some o=>
      rw [ho] at hk
      simp only [Bool.and_eq_true,Bool.not_eq_true'] at hk
      refine⟨o,rfl,(j9 (Array.getElem?_eq_some_iff.1 ho).1 qt ho hL).1 hk.1,fun eT=>?_⟩
      rw [Nat.ble_eq_true_of_le eT] at hk
      exact absurd hk.2 (by simp)
   obtain⟨oi,hi,CP,Mv⟩:=XA Zj
   obtain⟨oj,hj,DK,oR⟩:=XA Zi
   refine⟨fun jp=>?_,fun hw k ok hk YJ=>?_⟩
   · have:=jp i (Array.getElem?_eq_some_iff.1 hi).1
     rw [CP.1] at this
     cases this
   · have Vq:k=i∨k=j:=by
      have h1:=List.all_eq_true.1 YU k (List.mem_range.2 (Array.getElem?_eq_some_iff.1 hk).1)
      rw [hk] at h1
      simp only [Bool.or_eq_true,beq_iff_eq,Bool.not_eq_true'] at h1
      rcases h1 with (h1|h1)|h1
      · exact .inl h1
      · exact .inr h1
      · rw [(j9 (Array.getElem?_eq_some_iff.1 hk).1 qt hk hL).2 YJ] at h1
        cases h1
     rcases Vq with e|e
     · subst e
       rw [hi] at hk
       injection hk with hk
       subst hk
       exact(tf hi Mv h.1).mono fun v A' _ _ _ _ hh=>Is (Nat.le_max_left _ _) (mJ qt ha t _ _ _ A' (u9 hL) (hc.set hi CP) Nk hh)
     · subst e
       rw [hj] at hk
       injection hk with hk
       subst hk
       exact(tf hj oR h.2).mono fun v A' _ _ _ _ hh=>Is (Nat.le_max_right _ _) (mJ qt ha t' _ _ _ A' (u9 hL) (hc.set hj DK) TP hh)
 | .bh i t,M,L,a,A,hL,hc,hg,h=>by
   unfold sO at hg
   rw [Bool.and_eq_true] at hg
   obtain⟨vD,GR⟩:=hg
   cases hi:bE[i]? with
   | none=>rw [hi] at vD;cases vD
   | some o=>
     rw [hi] at vD
     simp only [Bool.and_eq_true] at vD
     obtain⟨hr,vG⟩:=vD
     have DN:=(Array.getElem?_eq_some_iff.1 hi).1
     have Oo:JD L i o:=(j9 DN qt hi hL).1 hr
     have P1:=hc.set hi Oo
     have IH:∀a A,TW P S K (cg bE md t) a A→tx P bE S (fun j=>md.getD j 3) K (depth t) (cd L i) a A:=fun a A h=>mJ qt ha t (M ||| 2 ^ i) _ a A (u9 hL) P1 GR h
     by_cases CS:md.getD i 3≤1
     · rw [if_pos (by simpa [Nat.ble_eq] using CS)] at vG
       simp only [Bool.and_eq_true] at vG
       obtain⟨qB,cX⟩:=vG
       have yU:∀j oj,bE[j]? = some oj→j≠i→L j=false→(∀e∈oj.after,Region.binds .any e=true→e.on≠i)→o.apart bE oj=true:=fun j oj hj kK LH DL=>by
        have xE:=(Array.getElem?_eq_some_iff.1 hj).1
        have h1:=List.all_eq_true.1 qB j (List.mem_range.2 xE)
        rw [hj,←hL j xE,LH] at h1
        simp only [Bool.or_eq_true,beq_iff_eq,Bool.false_eq_true,or_false] at h1
        rcases h1 with h1|h1|h1
        · exact absurd h1 kK
        · exfalso
          rw [Array.any_eq_true] at h1
          obtain⟨q,hq,h2⟩:=h1
          simp only [Bool.and_eq_true,beq_iff_eq] at h2
          exact DL _ (Array.getElem_mem hq) h2.1 h2.2
        · exact h1
       have bS:∀v,((kL bE a o=true∧aq P A (ip a) o.op=some v)∨(kL bE a o=false∧v=undef))→(md.getD i 3=1→kL bE a o=true→∀A',S A'→aq P A' (ip a) o.op=some v)→
        TW P S K (cg bE md t) (eb a o.dst v) A→tx P bE S (fun j=>md.getD j 3) K (depth t+1) L a A:=by
        intro v hy hS hk
        refine zK (md:=fun j=>md.getD j 3) qt ha hi CS (depth t) L a A hc yU ?_ Oo hy (IH _ _ hk)
        simp only [Bool.or_eq_true] at cX
        rcases cX with (h1|h1)|h1
        · rw [Bool.and_eq_true] at h1
          refine .inr (.inr ⟨fun j oj hj kK h3 LH=>?_,fun A' uy zR=>hS (Nat.eq_of_beq_eq_true h1.1) zR A' uy⟩)
          have xE:=(Array.getElem?_eq_some_iff.1 hj).1
          have h2:=List.all_eq_true.1 h1.2 j (List.mem_range.2 xE)
          rw [←hL j xE,LH] at h2
          have CW:Nat.ble 4 (md.getD j 3)=true:=Nat.ble_eq_true_of_le h3
          rw [CW] at h2
          simpa [kK] using h2
        · exact .inl h1
        · refine .inr (.inl fun j oj hj kK h3 LH=>?_)
          have xE:=(Array.getElem?_eq_some_iff.1 hj).1
          have h2:=List.all_eq_true.1 h1 j (List.mem_range.2 xE)
          rw [←hL j xE,LH] at h2
          have CW:Nat.ble 3 (md.getD j 3)=true:=Nat.ble_eq_true_of_le h3
          rw [CW] at h2
          simpa [kK] using h2
       have h':lW P S (sQ bE md i) a A (TW P S K (cg bE md t)):=h
       simp only [lW,sQ,hi,←HE] at h'
       split at h'
       · rename_i zR
         have:md.getD i 3=0∨md.getD i 3=1:=by omega
         rcases this with e|e
         · rw [e] at h'
           simp only [JG] at h'
           split at h'
           · rename_i v hv
             exact bS v (.inl ⟨zR,hv⟩) (fun e'=>by omega) h'
           · exact h'.elim
         · rw [e] at h'
           simp only [JG] at h'
           split at h'
           · rename_i v hv
             exact bS v (.inl ⟨zR,hv⟩) (fun _ _=>h'.1) h'.2
           · exact h'.elim
       · rename_i zR
         have Lz:kL bE a o=false:=by simpa using zR
         exact bS undef (.inr ⟨Lz,rfl⟩) (fun _ e=>by rw [Lz] at e;cases e) h'
     · rw [if_neg (by simpa [Nat.ble_eq] using CS)] at vG
       refine⟨fun jp=>?_,fun hw j oj hj DK=>?_⟩
       · have:=jp i DN
         rw [Oo.1] at this
         cases this
       · have kK:j=i:=by
          have h1:=List.all_eq_true.1 vG j (List.mem_range.2 (Array.getElem?_eq_some_iff.1 hj).1)
          rw [hj] at h1
          simp only [Bool.or_eq_true,beq_iff_eq,Bool.not_eq_true'] at h1
          rcases h1 with (h1|h1)|h1
          · exact h1
          · exact h1
          · rw [(j9 (Array.getElem?_eq_some_iff.1 hj).1 qt hj hL).2 DK] at h1
            cases h1
         subst kK
         rw [hi] at hj
         injection hj with hj
         subst hj
         exact(tf hi CS h).mono fun v A' _ _ _ _ hh=>IH _ _ hh
end
theorem wt {P:Program} {n:Nat} {Q:Exit→Fr→AW→Prop} {a:Fr} {A:AW} {id:Nat} {bE:Array Oper} (S:AW→Prop) (hm:P.follows .mixedOrders=true) (md:List Nat) (t:rx) (hB:Kg bE md t=true)
 (h:∀K:Fr→AW→Prop,(∀a A,Q .normal a A→K a A)→TW P S K (cg bE md t) a A):eg P n (.region id bE true) Q a A:=by
 simp only [Kg,Bool.and_eq_true] at hB
 exact wO hm hB.1 (mJ hB.1 hB.2.1 t 0 _ a A (fun j _=>by simp) (fun k o _ hk=>by cases hk) hB.2.2 (h _ fun _ _ h=>h))
theorem N3 {P:Program} {S:AW→Prop} {K:Fr→AW→Prop} {o:uZ} {t:sM} {a:Fr} {A:AW} (h:∀R:Fr→AW→Prop,(∀a A,TW P S K t a A→R a A)→lW P S o a A R):TW P S K (.bh o t) a A:=h _ fun _ _ h=>h
theorem MJ {P:Program} {S:AW→Prop} {K:Fr→AW→Prop} {o o':uZ} {t t':sM} {a:Fr} {A:AW} (h:∀R:Fr→AW→Prop,(∀a A,TW P S K t a A→R a A)→lW P S o a A R)
 (h':∀R:Fr→AW→Prop,(∀a A,TW P S K t' a A→R a A)→lW P S o' a A R):TW P S K (.sc o t o' t') a A:=⟨h _ fun _ _ h=>h,h' _ fun _ _ h=>h⟩
theorem N1 {P:Program} {S:AW→Prop} {K:Fr→AW→Prop} {a:Fr} {A:AW} (h:K a A):TW P S K .nil a A:=h
attribute [simp] lW
end Go.Stx
namespace Go.Stx
open Go
variable [Gl]
set_option linter.unusedSectionVars false
set_option linter.unusedVariables false
end Go.Stx
namespace Go.Stx
open Go
variable [Gl]
set_option linter.unusedSectionVars false
set_option linter.unusedVariables false
inductive It where
 | at (i:Nat) (o:dK)
 | h (P:HP)
def It.hp:It→HP
 | .at i o=>pt i o
 | .h P=>P
def aR:List It→HP
 | []=>eG
 | x::L=>x.hp*aR L
def ak (A:AW) (L:List It):Prop:=bz A (aR L)
theorem eZ:∀(L K:List It),aR (L++K)=aR L*aR K
 | [],K=>by show aR K=eG*aR K;rw [hQ]
 | x::L,K=>by show x.hp*aR (L++K)=x.hp*aR L*aR K;rw [eZ L K,HP.cl]
def Ei:List It→Nat→Option (It×List It)
 | [],_=>none
 | x::L,0=>some (x,L)
 | x::L,k+1=>(Ei L k).map fun y=>(y.1,x::y.2)
theorem wz:∀{L:List It} {k:Nat} {x:It} {K:List It},Ei L k=some (x,K)→aR L=x.hp*aR K
 | [],_,_,_,h=>by cases h
 | y::L,0,x,K,h=>by injection h with h;injection h with h1 h2;subst h1;subst h2;rfl
 | y::L,k+1,x,K,h=>by
   simp only [Ei,Option.map_eq_some_iff] at h
   obtain⟨⟨z,M⟩,h1,h2⟩:=h
   injection h2 with h2 h3
   subst h2;subst h3
   show y.hp*aR L=_
   rw [wz h1]
   show y.hp*(z.hp*aR M)=z.hp*(y.hp*aR M)
   ac_rfl
theorem ak.bh {A:AW} {L K:List It} {x:It} (h:ak A L) (k:Nat) (e:Ei L k=some (x,K)):bz A (x.hp*aR K):=by
 unfold ak at h
 rwa [wz e] at h
theorem ak.g {A:AW} {L K:List It} {i:Nat} {o:dK} (h:ak A L) (k:Nat) (e:Ei L k=some (.at i o,K)):A.bR i=some o:=bz.bR (h.bh k e)
theorem ak.le {A A':AW} {L:List It} (h:ak A L) (hw:A.Wf) (hl:A.le A'):ak A' L:=bz.le h hw hl
theorem ak.alloc {A:AW} {L:List It} (h:ak A L) (hw:A.Wf) (o:dK):ak (A.alloc o) (.at A.next o::L):=bz.alloc h hw o
theorem ak.mk {A:AW} {F:HP} (h:bz A F):ak A [.h F]:=by
 show bz A (F*eG)
 rw [dg];exact h
def bg (A:AW):List It→Prop
 | []=>True
 | .at i o::L=>A.bR i=some o∧bg A L
 | .h _::L=>bg A L
def bB (A:AW):List It→Prop
 | []=>True
 | .at i _::L=>((i=A.next)=False∧(A.next=i)=False∧(∀k,(i=A.next+k)=False)∧∀k,(A.next+k=i)=False)∧bB A L
 | .h _::L=>bB A L
def eA (i:Nat):List It→Prop
 | []=>True
 | .at j _::L=>((i=j)=False∧(j=i)=False)∧eA i L
 | .h _::L=>eA i L
def cj:List It→Prop
 | []=>True
 | .at i _::L=>eA i L∧cj L
 | .h _::L=>cj L
theorem ak.tail {A:AW} {x:It} {L:List It} (h:ak A (x::L)):ak A L:=bz.right h
theorem ak.GU {A:AW}:∀{L:List It},ak A L→bg A L
 | [],_=>trivial
 | .at i o::L,h=>⟨bz.bR h,ak.GU h.tail⟩
 | .h P::L,h=>ak.GU (L:=L) (ak.tail (x:=.h P) h)
theorem ak.pO {A:AW} (hw:A.Wf):∀{L:List It},ak A L→bB A L
 | [],_=>trivial
 | .at i o::L,h=>by
   have:=hw.lt (bz.bR h)
   exact⟨⟨eq_false (by omega),eq_false (by omega),fun k=>eq_false (by omega),fun k=>eq_false (by omega)⟩,ak.pO hw h.tail⟩
 | .h P::L,h=>ak.pO hw (L:=L) (ak.tail (x:=.h P) h)
theorem ak.Gp {A:AW} {i:Nat} {o:dK}:∀{L:List It},ak A (.at i o::L)→eA i L
 | [],_=>trivial
 | .at j p::L,h=>by
   have iX:i≠j:=bz.ne h
   refine⟨⟨eq_false iX,eq_false (Ne.symm iX)⟩,ak.Gp (A:=A) (L:=L) (o:=o) ?_⟩
   have h1:bz A (pt i o*(pt j p*aR L)):=h
   exact bz.right (h1.dH (by ac_rfl:_=pt j p*(pt i o*aR L)))
 | .h P::L,h=>by
   have h1:bz A (pt i o*(P*aR L)):=h
   exact ak.Gp (A:=A) (L:=L) (o:=o) (bz.right (h1.dH (by ac_rfl:_=P*(pt i o*aR L))))
theorem ak.UE {A:AW}:∀{L:List It},ak A L→cj L
 | [],_=>trivial
 | .at i o::L,h=>⟨ak.Gp h,ak.UE h.tail⟩
 | .h P::L,h=>ak.UE (L:=L) (ak.tail (x:=.h P) h)
theorem ak.eu {A:AW} {L:List It} (h:ak A L) (hw:A.Wf):bg A L∧bB A L∧cj L:=⟨h.GU,h.pO hw,h.UE⟩
def aY (P:Program) (f:FuncId) (args:List Value) (nG:List It) (φ:Value→Prop) (post:Value→List It):Prop:=
 ∀(A:AW) (F:HP),A.Wf→ak A (nG++[.h F])→aC P f args A fun v A'=>φ v∧ak A' (post v++[.h F])
theorem aY.m8 {P:Program} {f:FuncId} {args:List Value} {nG:List It} {φ:Value→Prop} {post:Value→List It} {p:HP} {q:Value→HP} (h:mw P f args p q) (hp:aR nG=p) (hq:∀v,q v=zQ (φ v)*aR (post v)) :
 aY P f args nG φ post:=by
 intro A F hw hS
 refine(h A F hw (by unfold ak at hS;rw [eZ,hp] at hS;have h3:bz A (p*(F*eG)):=hS;rwa [dg] at h3)).mono ?_
 intro v A' hs
 rw [hq,HP.cl,bz.pr] at hs
 refine⟨hs.1,?_⟩
 unfold ak
 rw [eZ]
 show bz A' (aR (post v)*(F*eG))
 rw [dg]
 exact hs.2
section
set_option linter.unusedVariables false
set_option linter.unusedSimpArgs false
set_option maxRecDepth 20000
set_option linter.unusedSectionVars false
def Od (l:List (Nat×Nat)):Prop:=True
theorem od (l:List (Nat×Nat)):Od l:=trivial
structure Ts (S:AW→Prop) (md:List Nat) (t:rx):Prop
structure Os (S:AW→Prop) (l:List (Nat×Nat)):Prop
class MC (G:Prop) (H:outParam Prop):Prop where f:H→G
section
variable [Gl] {P:Program} {n:Nat} {Q:Exit→Fr→AW→Prop} {a:Fr} {A:AW} {id k:Nat} {c x y:Code} {S:AW→Prop} {K X:Fr→AW→Prop} {o:dK} {p:Prop}
instance:MC (eg P n (.block id c) Q a A) (eg P n c (dN id Q) a A):=⟨wb⟩
instance:MC (eg P n (.seq x y) Q a A) (eg P n x (bH (eg P n y Q) Q) a A):=⟨wq⟩
instance:MC (eg P n .ret Q a A) (Q .ret a A):=⟨wr⟩
instance:MC (eg P n .skip Q a A) (Q .normal a A):=⟨wk⟩
instance:MC (eg P n (.exit id) Q a A) (Q (.exit id) a A):=⟨we⟩
instance:MC (aV P n c Q (k+1) a A) (eg P n c (bH (aV P n c Q k) Q) a A):=⟨ws⟩
instance:MC (bn P S K [] a A) (K a A):=⟨WN⟩
instance:MC (A.le A∧p) p:=⟨lr⟩
instance:MC (A.le (A.alloc o)∧p) p:=⟨la⟩
theorem oQ {bE:Array Oper} {nC:List (Nat×Nat)} (q:Od nC) (hm:P.follows .mixedOrders=true) (hB:IU bE nC=true)
 (h:∀K:Fr→AW→Prop,(∀a A,Q .normal a A→K a A)→bn P (fun _=>True) K (cR bE nC) a A):eg P n (.region id bE true) Q a A:=wl hm nC hB h
theorem DG {bE:Array Oper} {md:List Nat} {t:rx} (q:Ts S md t) (hm:P.follows .mixedOrders=true) (hB:Kg bE md t=true)
 (h:∀K:Fr→AW→Prop,(∀a A,Q .normal a A→K a A)→TW P S K (cg bE md t) a A):eg P n (.region id bE true) Q a A:=wt S hm md t hB h
theorem DI {bE:Array Oper} {nC:List (Nat×Nat)} (q:Os S nC) (hm:P.follows .mixedOrders=true) (hB:IU bE nC=true)
 (h:∀K:Fr→AW→Prop,(∀a A,Q .normal a A→K a A)→bn P S K (cR bE nC) a A):eg P n (.region id bE true) Q a A:=O2 S hm nC hB h
theorem SM {bE:Array Oper} (h:eg P n (.region id bE true) Q a A):eg P n (.region id bE true) Q a A:=h
theorem We {f:FuncId} {args:List Value} {k:Value→AW→Prop} (h:aC P f args A k):aC P f args A k:=h
end
theorem Yr [Gl] {P:Program} {S:AW→Prop} {K:Fr→AW→Prop} {d ar ty r m} {fR:List uZ} {a:Fr} {A:AW} (h:bn P S K (⟨d,.call ⟨.builtin .append,ar,ty⟩,r,m⟩::fR) a A):bn P S K (⟨d,.call ⟨.builtin .append,ar,ty⟩,r,m⟩::fR) a A:=h
theorem gR {A:AW} {i:Nat} {o:Option dK} (h:A.bR i=o):A.bR i=o:=h
theorem X2 [Gl] {P:Program} {S:AW→Prop} {K:Fr→AW→Prop} {t:sM} {a:Fr} {A:AW} (h:TW P S K t a A):TW P S K t a A:=h
theorem nx {G H:Prop} [i:MC G H] (h:H):G:=i.f h
structure Tg (n:Nat) (p:Prop):Prop where h:p
structure Kp (p:Prop):Prop where h:p
inductive Df:Prop→Prop where
 | T:Df True
 | C {p q:Prop}:Df p→Df q→Df (p∧q)
 | A {p:Prop}:Df p
theorem J1 {a1:Prop} (x1:a1):a1∧True:=⟨x1,trivial⟩
theorem J2 {a1 a2:Prop} (x1:a1) (x2:a2):a1∧a2∧True:=⟨x1,x2,trivial⟩
theorem J3 {a1 a2 a3:Prop} (x1:a1) (x2:a2) (x3:a3):a1∧a2∧a3∧True:=⟨x1,x2,x3,trivial⟩
theorem J4 {a1 a2 a3 a4:Prop} (x1:a1) (x2:a2) (x3:a3) (x4:a4):a1∧a2∧a3∧a4∧True:=⟨x1,x2,x3,x4,trivial⟩
theorem J5 {a1 a2 a3 a4 a5:Prop} (x1:a1) (x2:a2) (x3:a3) (x4:a4) (x5:a5):a1∧a2∧a3∧a4∧a5∧True:=⟨x1,x2,x3,x4,x5,trivial⟩
theorem J6 {a1 a2 a3 a4 a5 a6:Prop} (x1:a1) (x2:a2) (x3:a3) (x4:a4) (x5:a5) (x6:a6):a1∧a2∧a3∧a4∧a5∧a6∧True:=⟨x1,x2,x3,x4,x5,x6,trivial⟩
theorem J7 {a1 a2 a3 a4 a5 a6 a7:Prop} (x1:a1) (x2:a2) (x3:a3) (x4:a4) (x5:a5) (x6:a6) (x7:a7):a1∧a2∧a3∧a4∧a5∧a6∧a7∧True:=⟨x1,x2,x3,x4,x5,x6,x7,trivial⟩
theorem J8 {a1 a2 a3 a4 a5 a6 a7 a8:Prop} (x1:a1) (x2:a2) (x3:a3) (x4:a4) (x5:a5) (x6:a6) (x7:a7) (x8:a8):a1∧a2∧a3∧a4∧a5∧a6∧a7∧a8∧True:=⟨x1,x2,x3,x4,x5,x6,x7,x8,trivial⟩
theorem J9 {a1 a2 a3 a4 a5 a6 a7 a8 a9:Prop} (x1:a1) (x2:a2) (x3:a3) (x4:a4) (x5:a5) (x6:a6) (x7:a7) (x8:a8) (x9:a9):a1∧a2∧a3∧a4∧a5∧a6∧a7∧a8∧a9∧True:=⟨x1,x2,x3,x4,x5,x6,x7,x8,x9,trivial⟩
theorem w8 {a1 a2 a3 a4 a5 a6 a7 a8 a9 sL:Prop} (x1:a1) (x2:a2) (x3:a3) (x4:a4) (x5:a5) (x6:a6) (x7:a7) (x8:a8) (x9:a9) (zT:sL):a1∧a2∧a3∧a4∧a5∧a6∧a7∧a8∧a9∧sL∧True:=⟨x1,x2,x3,x4,x5,x6,x7,x8,x9,zT,trivial⟩
theorem Ix {a1 a2 a3 a4 a5 a6 a7 a8 a9 sL uS:Prop} (x1:a1) (x2:a2) (x3:a3) (x4:a4) (x5:a5) (x6:a6) (x7:a7) (x8:a8) (x9:a9) (zT:sL) (BT:uS):a1∧a2∧a3∧a4∧a5∧a6∧a7∧a8∧a9∧sL∧uS∧True:=⟨x1,x2,x3,x4,x5,x6,x7,x8,x9,zT,BT,trivial⟩
theorem AT {a1 a2 a3 a4 a5 a6 a7 a8 a9 sL uS w7:Prop} (x1:a1) (x2:a2) (x3:a3) (x4:a4) (x5:a5) (x6:a6) (x7:a7) (x8:a8) (x9:a9) (zT:sL) (BT:uS) (DS:w7):a1∧a2∧a3∧a4∧a5∧a6∧a7∧a8∧a9∧sL∧uS∧w7∧True:=⟨x1,x2,x3,x4,x5,x6,x7,x8,x9,zT,BT,DS,trivial⟩
theorem rQ {a1 a2 a3 a4 a5 a6 a7 a8 a9 sL uS w7 zL:Prop} (x1:a1) (x2:a2) (x3:a3) (x4:a4) (x5:a5) (x6:a6) (x7:a7) (x8:a8) (x9:a9) (zT:sL) (BT:uS) (DS:w7) (FG:zL):a1∧a2∧a3∧a4∧a5∧a6∧a7∧a8∧a9∧sL∧uS∧w7∧zL∧True:=⟨x1,x2,x3,x4,x5,x6,x7,x8,x9,zT,BT,DS,FG,trivial⟩
theorem Dz {a1 a2 a3 a4 a5 a6 a7 a8 a9 sL uS w7 zL BQ:Prop} (x1:a1) (x2:a2) (x3:a3) (x4:a4) (x5:a5) (x6:a6) (x7:a7) (x8:a8) (x9:a9) (zT:sL) (BT:uS) (DS:w7) (FG:zL) (Iy:BQ):a1∧a2∧a3∧a4∧a5∧a6∧a7∧a8∧a9∧sL∧uS∧w7∧zL∧BQ∧True:=⟨x1,x2,x3,x4,x5,x6,x7,x8,x9,zT,BT,DS,FG,Iy,trivial⟩
theorem JX {a1 a2 a3 a4 a5 a6 a7 a8 a9 sL uS w7 zL BQ Fq:Prop} (x1:a1) (x2:a2) (x3:a3) (x4:a4) (x5:a5) (x6:a6) (x7:a7) (x8:a8) (x9:a9) (zT:sL) (BT:uS) (DS:w7) (FG:zL) (Iy:BQ) (JZ:Fq):a1∧a2∧a3∧a4∧a5∧a6∧a7∧a8∧a9∧sL∧uS∧w7∧zL∧BQ∧Fq∧True:=⟨x1,x2,x3,x4,x5,x6,x7,x8,x9,zT,BT,DS,FG,Iy,JZ,trivial⟩
theorem XI {a1 a2 a3 a4 a5 a6 a7 a8 a9 sL uS w7 zL BQ Fq Iu:Prop} (x1:a1) (x2:a2) (x3:a3) (x4:a4) (x5:a5) (x6:a6) (x7:a7) (x8:a8) (x9:a9) (zT:sL) (BT:uS) (DS:w7) (FG:zL) (Iy:BQ) (JZ:Fq) (MF:Iu):a1∧a2∧a3∧a4∧a5∧a6∧a7∧a8∧a9∧sL∧uS∧w7∧zL∧BQ∧Fq∧Iu∧True:=⟨x1,x2,x3,x4,x5,x6,x7,x8,x9,zT,BT,DS,FG,Iy,JZ,MF,trivial⟩
theorem Wg {a1 a2 a3 a4 a5 a6 a7 a8 a9 sL uS w7 zL BQ Fq Iu Ml:Prop} (x1:a1) (x2:a2) (x3:a3) (x4:a4) (x5:a5) (x6:a6) (x7:a7) (x8:a8) (x9:a9) (zT:sL) (BT:uS) (DS:w7) (FG:zL) (Iy:BQ) (JZ:Fq) (MF:Iu) (O1:Ml):a1∧a2∧a3∧a4∧a5∧a6∧a7∧a8∧a9∧sL∧uS∧w7∧zL∧BQ∧Fq∧Iu∧Ml∧True:=⟨x1,x2,x3,x4,x5,x6,x7,x8,x9,zT,BT,DS,FG,Iy,JZ,MF,O1,trivial⟩
theorem Z0 {a1 a2 a3 a4 a5 a6 a7 a8 a9 sL uS w7 zL BQ Fq Iu Ml ON:Prop} (x1:a1) (x2:a2) (x3:a3) (x4:a4) (x5:a5) (x6:a6) (x7:a7) (x8:a8) (x9:a9) (zT:sL) (BT:uS) (DS:w7) (FG:zL) (Iy:BQ) (JZ:Fq) (MF:Iu) (O1:Ml) (Rd:ON):a1∧a2∧a3∧a4∧a5∧a6∧a7∧a8∧a9∧sL∧uS∧w7∧zL∧BQ∧Fq∧Iu∧Ml∧ON∧True:=⟨x1,x2,x3,x4,x5,x6,x7,x8,x9,zT,BT,DS,FG,Iy,JZ,MF,O1,Rd,trivial⟩
theorem ZZ {a1 a2 a3 a4 a5 a6 a7 a8 a9 sL uS w7 zL BQ Fq Iu Ml ON SD:Prop} (x1:a1) (x2:a2) (x3:a3) (x4:a4) (x5:a5) (x6:a6) (x7:a7) (x8:a8) (x9:a9) (zT:sL) (BT:uS) (DS:w7) (FG:zL) (Iy:BQ) (JZ:Fq) (MF:Iu) (O1:Ml) (Rd:ON) (Ua:SD):a1∧a2∧a3∧a4∧a5∧a6∧a7∧a8∧a9∧sL∧uS∧w7∧zL∧BQ∧Fq∧Iu∧Ml∧ON∧SD∧True:=⟨x1,x2,x3,x4,x5,x6,x7,x8,x9,zT,BT,DS,FG,Iy,JZ,MF,O1,Rd,Ua,trivial⟩
theorem XH {a1 a2 a3 a4 a5 a6 a7 a8 a9 sL uS w7 zL BQ Fq Iu Ml ON SD XG:Prop} (x1:a1) (x2:a2) (x3:a3) (x4:a4) (x5:a5) (x6:a6) (x7:a7) (x8:a8) (x9:a9) (zT:sL) (BT:uS) (DS:w7) (FG:zL) (Iy:BQ) (JZ:Fq) (MF:Iu) (O1:Ml) (Rd:ON) (Ua:SD) (XZ:XG):a1∧a2∧a3∧a4∧a5∧a6∧a7∧a8∧a9∧sL∧uS∧w7∧zL∧BQ∧Fq∧Iu∧Ml∧ON∧SD∧XG∧True:=⟨x1,x2,x3,x4,x5,x6,x7,x8,x9,zT,BT,DS,FG,Iy,JZ,MF,O1,Rd,Ua,XZ,trivial⟩
theorem W {G H C X:Prop} (c:C) (x:X) (k:H) (s:(∀(zc:C) (zx:X) (zk:Kp H),G)∧Df H:=by
 constructor
 · unhygienic intros
   (try have z1:=zc.1);(try have z2:=zc.2.1);(try have z3:=zc.2.2.1);(try have z4:=zc.2.2.2.1);(try have z5:=zc.2.2.2.2.1);(try have z6:=zc.2.2.2.2.2.1);(try have z7:=zc.2.2.2.2.2.2.1);(try have z8:=zc.2.2.2.2.2.2.2.1);(try have z9:=zc.2.2.2.2.2.2.2.2.1);(try have pz:=zc.2.2.2.2.2.2.2.2.2.1);(try have py:=zc.2.2.2.2.2.2.2.2.2.2.1);(try have px:=zc.2.2.2.2.2.2.2.2.2.2.2.1)
   repeat' (first
   | (refine jx fun R hR=>?_;(first|simp [aw,az,zx,hq]|simp [aw,az,zx]);try simp (disch:=omega) only [if_pos,if_neg,aw,az])
   | (refine hR _ _ ?_;clear hR R)|(refine hK _ _ ?_;clear hK K)|refine nx ?_
   | refine wn fun K hK=>?_
   | simp only [wS]
   | (refine SM ?_;first|refine oQ z1 Tryz.mx (by decide +kernel) fun K hK=>?_|refine oQ z2 Tryz.mx (by decide +kernel) fun K hK=>?_|refine oQ z3 Tryz.mx (by decide +kernel) fun K hK=>?_|refine oQ z4 Tryz.mx (by decide +kernel) fun K hK=>?_|refine oQ z5 Tryz.mx (by decide +kernel) fun K hK=>?_|refine oQ z6 Tryz.mx (by decide +kernel) fun K hK=>?_|refine oQ z7 Tryz.mx (by decide +kernel) fun K hK=>?_|refine oQ z8 Tryz.mx (by decide +kernel) fun K hK=>?_|refine oQ z9 Tryz.mx (by decide +kernel) fun K hK=>?_|refine oQ pz Tryz.mx (by decide +kernel) fun K hK=>?_|refine oQ py Tryz.mx (by decide +kernel) fun K hK=>?_|refine oQ px Tryz.mx (by decide +kernel) fun K hK=>?_)
   | (refine We ?_;first
     | (apply aY.cA;(·(first|apply z1|apply z2|apply z3|apply z4|apply z5|apply z6|apply z7|apply z8|apply z9|apply pz|apply py|apply px)<;>first|assumption|(simp [hq];done)|(refine gR ?_;simp [hq];rfl)|(simp [hq,zx];done)|omega|decide);(·exact wA);(·exact sA);(·first|exact pA|exact kA);(first|rintro _ zA rfl hS hw zn|rintro zn zA zn hS hw zn);have hS:=lA hS;(try (have hq:=jD hS hw)))
     | (apply bT;(·(first|apply z1|apply z2|apply z3|apply z4|apply z5|apply z6|apply z7|apply z8|apply z9|apply pz|apply py|apply px)<;>first|assumption|(simp [hq];done)|(refine gR ?_;simp [hq];rfl)|(simp [hq,zx];done)|omega|decide);(first|rintro _ _ ⟨rfl,rfl⟩ zn zn|rintro _ _ ⟨⟨zn,rfl⟩,rfl⟩ zn zn))
     | ((first|apply @Tg.h 10 _ z1|apply @Tg.h 10 _ z2|apply @Tg.h 10 _ z3|apply @Tg.h 10 _ z4|apply @Tg.h 10 _ z5|apply @Tg.h 10 _ z6|apply @Tg.h 10 _ z7);(·exact wA);(·exact sA);(·first|exact pA|exact kA);)
     | ((first|apply @Tg.h 11 _ z1|apply @Tg.h 11 _ z2|apply @Tg.h 11 _ z3|apply @Tg.h 11 _ z4|apply @Tg.h 11 _ z5|apply @Tg.h 11 _ z6|apply @Tg.h 11 _ z7);(·exact wA);(·exact sA);(·first|exact pA|exact kA);(·first|omega|(simp;omega)|(simp [hq];done));((first|rintro zn zn zA hS hw zn|rintro zn zA hS hw zn|rintro zn zA hS hw);(try refine⟨zn,?_⟩);(try (have hS:=lA hS));have hq:=jD hS hw))
     | ((first|apply @Tg.h 12 _ z1|apply @Tg.h 12 _ z2|apply @Tg.h 12 _ z3|apply @Tg.h 12 _ z4|apply @Tg.h 12 _ z5|apply @Tg.h 12 _ z6|apply @Tg.h 12 _ z7);(·exact wA);(·exact sA);(·first|exact pA|exact kA);(·first|exact pA|exact kA);(·first|omega|(simp;omega)|(simp [hq];done));(·first|omega|(simp;omega)|(simp [hq];done));((first|rintro zn zn zA hS hw zn|rintro zn zA hS hw zn|rintro zn zA hS hw);(try refine⟨zn,?_⟩);(try (have hS:=lA hS));have hq:=jD hS hw))
     | ((first|apply @Tg.h 14 _ z1|apply @Tg.h 14 _ z2|apply @Tg.h 14 _ z3|apply @Tg.h 14 _ z4|apply @Tg.h 14 _ z5|apply @Tg.h 14 _ z6|apply @Tg.h 14 _ z7);(·exact wA);(·exact sA);(·first|exact pA|exact kA);(·first|omega|(simp;omega)|(simp [hq];done));)
     | ((first|apply @Tg.h 15 _ z1|apply @Tg.h 15 _ z2|apply @Tg.h 15 _ z3|apply @Tg.h 15 _ z4|apply @Tg.h 15 _ z5|apply @Tg.h 15 _ z6|apply @Tg.h 15 _ z7);(·exact wA);(·exact sA);(·first|exact pA|exact kA);((first|rintro zn zn zA hS hw zn|rintro zn zA hS hw zn|rintro zn zA hS hw);(try refine⟨zn,?_⟩);(try (have hS:=lA hS));have hq:=jD hS hw))
     | ((first|apply @Tg.h 17 _ z1|apply @Tg.h 17 _ z2|apply @Tg.h 17 _ z3|apply @Tg.h 17 _ z4|apply @Tg.h 17 _ z5|apply @Tg.h 17 _ z6|apply @Tg.h 17 _ z7);(·exact wA);(·exact sA);(·first|exact pA|exact kA);((rintro zn zn zA hS hw);(try (have hS:=lA hS));have hq:=jD hS hw))
     | ((first|apply @Tg.h 18 _ z1|apply @Tg.h 18 _ z2|apply @Tg.h 18 _ z3|apply @Tg.h 18 _ z4|apply @Tg.h 18 _ z5|apply @Tg.h 18 _ z6|apply @Tg.h 18 _ z7);(·exact wA);(·exact sA);(·first|exact pA|exact kA);(·first|omega|(simp;omega)|(simp [hq];done));((rintro zn zn zn zA hS hw);(try (have hS:=lA hS));have hq:=jD hS hw))
     | ((first|apply @Tg.h 19 _ z1|apply @Tg.h 19 _ z2|apply @Tg.h 19 _ z3|apply @Tg.h 19 _ z4|apply @Tg.h 19 _ z5|apply @Tg.h 19 _ z6|apply @Tg.h 19 _ z7);(·exact wA);(·exact sA);((first|rintro zn zn zA hS hw zn|rintro zn zA hS hw zn|rintro zn zA hS hw);(try refine⟨zn,?_⟩);(try (have hS:=lA hS));have hq:=jD hS hw))
     | (apply ct.cA;(·first|apply @Tg.h 32 _ z1|apply @Tg.h 32 _ z2|apply @Tg.h 32 _ z3|apply @Tg.h 32 _ z4|apply @Tg.h 32 _ z5|apply @Tg.h 32 _ z6|apply @Tg.h 32 _ z7);(·exact wA);(·exact sA);(·first|exact pA|exact kA);(first|rintro xw _ zA rfl hS hw zn|rintro xw zn zA zn hS hw zn);(try (have hS:=lA hS));(try (have hq:=jD hS hw)))
     )
   | refine wb ?_|refine wr ?_|refine wk ?_|refine we ?_|refine ws ?_|refine wq ?_
   | (refine wc rfl (fun hc=>?_) (fun hc=>?_)<;>(try simp at hc)<;>(try omega))
   | (refine ib (fun hc=>?_) (fun hc=>?_)<;>(try omega)<;>(try simp (disch:=omega) only [if_pos,if_neg]))
   | ((repeat (first|clear zc|clear zx|clear z1|clear z2|clear z3|clear z4|clear z5|clear z6|clear z7|clear z8|clear z9|clear pz|clear py|clear px));(try revert hq);(repeat clear hq);(try revert hS);(repeat clear hS);(try revert hw);(repeat clear hw);(repeat (first|revert hc|revert zn|revert zA|revert xw|revert K|revert hK|revert R|revert hR));first|with_reducible refine zk.h.1|with_reducible refine zk.h.2.1|with_reducible refine zk.h.2.2.1|with_reducible refine zk.h.2.2.2.1|with_reducible refine zk.h.2.2.2.2.1|with_reducible refine zk.h.2.2.2.2.2.1|with_reducible refine zk.h.2.2.2.2.2.2.1|with_reducible refine zk.h.2.2.2.2.2.2.2.1|with_reducible refine zk.h.2.2.2.2.2.2.2.2.1|with_reducible refine zk.h.2.2.2.2.2.2.2.2.2.1|with_reducible refine zk.h.2.2.2.2.2.2.2.2.2.2.1|with_reducible refine zk.h.2.2.2.2.2.2.2.2.2.2.2.1|with_reducible refine zk.h.2.2.2.2.2.2.2.2.2.2.2.2.1|with_reducible refine zk.h.2.2.2.2.2.2.2.2.2.2.2.2.2.1|with_reducible refine zk.h.2.2.2.2.2.2.2.2.2.2.2.2.2.2.1|with_reducible refine zk.h.2.2.2.2.2.2.2.2.2.2.2.2.2.2.2.1))
 · repeat' (first|exact .T|apply Df.C|exact .A)):G:=s.1 c x ⟨k⟩
theorem Wp {G H C X:Prop} (c:C) (x:X) (k:H) (s:(∀(zc:C) (zx:X) (zk:Kp H),G)∧Df H:=by
 constructor
 · unhygienic intros
   (try have z1:=zc.1);(try have z2:=zc.2.1);(try have z3:=zc.2.2.1);(try have z4:=zc.2.2.2.1);(try have z5:=zc.2.2.2.2.1);(try have z6:=zc.2.2.2.2.2.1);(try have z7:=zc.2.2.2.2.2.2.1);(try have z8:=zc.2.2.2.2.2.2.2.1);(try have z9:=zc.2.2.2.2.2.2.2.2.1);(try have pz:=zc.2.2.2.2.2.2.2.2.2.1);(try have py:=zc.2.2.2.2.2.2.2.2.2.2.1);(try have px:=zc.2.2.2.2.2.2.2.2.2.2.2.1)
   repeat' (first
   | (refine jx fun R hR=>?_;(first|simp [aw,az,zx,hq]|simp [aw,az,zx]);try simp (disch:=omega) only [if_pos,if_neg,aw,az])
   | (refine hR _ _ ?_;clear hR R)|(refine hK _ _ ?_;clear hK K)|refine nx ?_
   | refine wn fun K hK=>?_
   | simp only [wS]
   | (refine SM ?_;first|refine oQ z1 Tryz.mx (by decide +kernel) fun K hK=>?_|refine oQ z2 Tryz.mx (by decide +kernel) fun K hK=>?_|refine oQ z3 Tryz.mx (by decide +kernel) fun K hK=>?_|refine oQ z4 Tryz.mx (by decide +kernel) fun K hK=>?_|refine oQ z5 Tryz.mx (by decide +kernel) fun K hK=>?_|refine oQ z6 Tryz.mx (by decide +kernel) fun K hK=>?_|refine oQ z7 Tryz.mx (by decide +kernel) fun K hK=>?_|refine oQ z8 Tryz.mx (by decide +kernel) fun K hK=>?_|refine oQ z9 Tryz.mx (by decide +kernel) fun K hK=>?_|refine oQ pz Tryz.mx (by decide +kernel) fun K hK=>?_|refine oQ py Tryz.mx (by decide +kernel) fun K hK=>?_|refine oQ px Tryz.mx (by decide +kernel) fun K hK=>?_)
   | (refine We ?_;first
     | (apply aY.cA;(·(first|apply z1|apply z2|apply z3|apply z4|apply z5|apply z6|apply z7|apply z8|apply z9|apply pz|apply py|apply px)<;>first|assumption|(simp [hq];done)|(refine gR ?_;simp [hq];rfl)|(simp [hq,zx];done)|omega|decide);(·exact wA);(·exact sA);(·first|exact pP|exact kP);(first|rintro _ zA rfl hS hw zn|rintro zn zA zn hS hw zn);have hS:=lA hS;(try (have hq:=jD hS hw)))
     | (apply bT;(·(first|apply z1|apply z2|apply z3|apply z4|apply z5|apply z6|apply z7|apply z8|apply z9|apply pz|apply py|apply px)<;>first|assumption|(simp [hq];done)|(refine gR ?_;simp [hq];rfl)|(simp [hq,zx];done)|omega|decide);(first|rintro _ _ ⟨rfl,rfl⟩ zn zn|rintro _ _ ⟨⟨zn,rfl⟩,rfl⟩ zn zn))
     | ((first|apply @Tg.h 10 _ z1|apply @Tg.h 10 _ z2|apply @Tg.h 10 _ z3|apply @Tg.h 10 _ z4|apply @Tg.h 10 _ z5|apply @Tg.h 10 _ z6|apply @Tg.h 10 _ z7);(·exact wA);(·exact sA);(·first|exact pP|exact kP);)
     | ((first|apply @Tg.h 11 _ z1|apply @Tg.h 11 _ z2|apply @Tg.h 11 _ z3|apply @Tg.h 11 _ z4|apply @Tg.h 11 _ z5|apply @Tg.h 11 _ z6|apply @Tg.h 11 _ z7);(·exact wA);(·exact sA);(·first|exact pP|exact kP);(·first|omega|(simp;omega)|(simp [hq];done));((first|rintro zn zn zA hS hw zn|rintro zn zA hS hw zn|rintro zn zA hS hw);(try refine⟨zn,?_⟩);(try (have hS:=lA hS));have hq:=jD hS hw))
     | ((first|apply @Tg.h 12 _ z1|apply @Tg.h 12 _ z2|apply @Tg.h 12 _ z3|apply @Tg.h 12 _ z4|apply @Tg.h 12 _ z5|apply @Tg.h 12 _ z6|apply @Tg.h 12 _ z7);(·exact wA);(·exact sA);(·first|exact pP|exact kP);(·first|exact pP|exact kP);(·first|omega|(simp;omega)|(simp [hq];done));(·first|omega|(simp;omega)|(simp [hq];done));((first|rintro zn zn zA hS hw zn|rintro zn zA hS hw zn|rintro zn zA hS hw);(try refine⟨zn,?_⟩);(try (have hS:=lA hS));have hq:=jD hS hw))
     | ((first|apply @Tg.h 14 _ z1|apply @Tg.h 14 _ z2|apply @Tg.h 14 _ z3|apply @Tg.h 14 _ z4|apply @Tg.h 14 _ z5|apply @Tg.h 14 _ z6|apply @Tg.h 14 _ z7);(·exact wA);(·exact sA);(·first|exact pP|exact kP);(·first|omega|(simp;omega)|(simp [hq];done));)
     | ((first|apply @Tg.h 15 _ z1|apply @Tg.h 15 _ z2|apply @Tg.h 15 _ z3|apply @Tg.h 15 _ z4|apply @Tg.h 15 _ z5|apply @Tg.h 15 _ z6|apply @Tg.h 15 _ z7);(·exact wA);(·exact sA);(·first|exact pP|exact kP);((first|rintro zn zn zA hS hw zn|rintro zn zA hS hw zn|rintro zn zA hS hw);(try refine⟨zn,?_⟩);(try (have hS:=lA hS));have hq:=jD hS hw))
     | ((first|apply @Tg.h 17 _ z1|apply @Tg.h 17 _ z2|apply @Tg.h 17 _ z3|apply @Tg.h 17 _ z4|apply @Tg.h 17 _ z5|apply @Tg.h 17 _ z6|apply @Tg.h 17 _ z7);(·exact wA);(·exact sA);(·first|exact pP|exact kP);((rintro zn zn zA hS hw);(try (have hS:=lA hS));have hq:=jD hS hw))
     | ((first|apply @Tg.h 18 _ z1|apply @Tg.h 18 _ z2|apply @Tg.h 18 _ z3|apply @Tg.h 18 _ z4|apply @Tg.h 18 _ z5|apply @Tg.h 18 _ z6|apply @Tg.h 18 _ z7);(·exact wA);(·exact sA);(·first|exact pP|exact kP);(·first|omega|(simp;omega)|(simp [hq];done));((rintro zn zn zn zA hS hw);(try (have hS:=lA hS));have hq:=jD hS hw))
     | ((first|apply @Tg.h 19 _ z1|apply @Tg.h 19 _ z2|apply @Tg.h 19 _ z3|apply @Tg.h 19 _ z4|apply @Tg.h 19 _ z5|apply @Tg.h 19 _ z6|apply @Tg.h 19 _ z7);(·exact wA);(·exact sA);((first|rintro zn zn zA hS hw zn|rintro zn zA hS hw zn|rintro zn zA hS hw);(try refine⟨zn,?_⟩);(try (have hS:=lA hS));have hq:=jD hS hw))
     | (apply aY.qz;(·first|apply @Tg.h 20 _ z1|apply @Tg.h 20 _ z2|apply @Tg.h 20 _ z3|apply @Tg.h 20 _ z4|apply @Tg.h 20 _ z5|apply @Tg.h 20 _ z6|apply @Tg.h 20 _ z7);(·exact wA);(·exact sA);(·exact fP);(·first|exact pP|exact kP);(first|rintro _ zA rfl hS hw zn|rintro zn zA zn hS hw zn);have hS:=lA hS;(try (have hq:=jD hS hw));all_goals(try (first|exact 0|exact undef)))
     | (apply aY.Ke;(·first|apply @Tg.h 21 _ z1|apply @Tg.h 21 _ z2|apply @Tg.h 21 _ z3|apply @Tg.h 21 _ z4|apply @Tg.h 21 _ z5|apply @Tg.h 21 _ z6|apply @Tg.h 21 _ z7);(·exact wA);(·exact sA);(·exact fP);(·first|exact pP|exact kP);(first|rintro _ zA rfl hS hw zn|rintro zn zA zn hS hw zn);have hS:=lA hS;(try (have hq:=jD hS hw));all_goals(try (first|exact 0|exact undef)))
     | (apply aY.Re;(·first|apply @Tg.h 22 _ z1|apply @Tg.h 22 _ z2|apply @Tg.h 22 _ z3|apply @Tg.h 22 _ z4|apply @Tg.h 22 _ z5|apply @Tg.h 22 _ z6|apply @Tg.h 22 _ z7);(·exact wA);(·exact sA);(·exact fP);(·first|exact pP|exact kP);(first|rintro _ zA rfl hS hw zn|rintro zn zA zn hS hw zn);have hS:=lA hS;(try (have hq:=jD hS hw));all_goals(try (first|exact 0|exact undef)))
     | ((first|apply @Tg.h 31 _ z1|apply @Tg.h 31 _ z2|apply @Tg.h 31 _ z3|apply @Tg.h 31 _ z4|apply @Tg.h 31 _ z5|apply @Tg.h 31 _ z6|apply @Tg.h 31 _ z7);(·exact wA);(·exact sA);(·exact fP);((first|rintro zn zn zA hS hw|rintro zn zA hS hw);(try dsimp only [bx,AW.bq,af,ag] at hS);have hq:=W1 hS hw);all_goals(try (first|exact 0|exact undef)))
     | (apply wN;(·first|apply @Tg.h 30 _ z1|apply @Tg.h 30 _ z2|apply @Tg.h 30 _ z3|apply @Tg.h 30 _ z4|apply @Tg.h 30 _ z5|apply @Tg.h 30 _ z6|apply @Tg.h 30 _ z7);(·exact wA);(·exact sA);(·exact fP);all_goals(try (first|exact 0|exact undef)))
     | (apply ct.cA;(·first|apply @Tg.h 32 _ z1|apply @Tg.h 32 _ z2|apply @Tg.h 32 _ z3|apply @Tg.h 32 _ z4|apply @Tg.h 32 _ z5|apply @Tg.h 32 _ z6|apply @Tg.h 32 _ z7);(·exact wA);(·exact sA);(·first|exact pP|exact kP);(first|rintro xw _ zA rfl hS hw zn|rintro xw zn zA zn hS hw zn);(try (have hS:=lA hS));(try (have hq:=jD hS hw)))
     )
   | refine wb ?_|refine wr ?_|refine wk ?_|refine we ?_|refine ws ?_|refine wq ?_
   | (refine wc rfl (fun hc=>?_) (fun hc=>?_)<;>(try simp at hc)<;>(try omega)<;>(try (simp [h2] at hc;done))<;>(try (simp [h3] at hc;done))<;>(try (simp [h4] at hc;done)))
   | (refine ib (fun hc=>?_) (fun hc=>?_)<;>(try omega)<;>(try simp (disch:=omega) only [if_pos,if_neg]))
   | ((repeat (first|clear zc|clear zx|clear z1|clear z2|clear z3|clear z4|clear z5|clear z6|clear z7|clear z8|clear z9|clear pz|clear py|clear px));(try revert hq);(repeat clear hq);(try revert hS);(repeat clear hS);(try revert hw);(repeat clear hw);(repeat (first|revert hc|revert zn|revert zA|revert xw|revert K|revert hK|revert R|revert hR));first|with_reducible refine zk.h.1|with_reducible refine zk.h.2.1|with_reducible refine zk.h.2.2.1|with_reducible refine zk.h.2.2.2.1|with_reducible refine zk.h.2.2.2.2.1|with_reducible refine zk.h.2.2.2.2.2.1|with_reducible refine zk.h.2.2.2.2.2.2.1|with_reducible refine zk.h.2.2.2.2.2.2.2.1|with_reducible refine zk.h.2.2.2.2.2.2.2.2.1|with_reducible refine zk.h.2.2.2.2.2.2.2.2.2.1|with_reducible refine zk.h.2.2.2.2.2.2.2.2.2.2.1|with_reducible refine zk.h.2.2.2.2.2.2.2.2.2.2.2.1|with_reducible refine zk.h.2.2.2.2.2.2.2.2.2.2.2.2.1|with_reducible refine zk.h.2.2.2.2.2.2.2.2.2.2.2.2.2.1|with_reducible refine zk.h.2.2.2.2.2.2.2.2.2.2.2.2.2.2.1|with_reducible refine zk.h.2.2.2.2.2.2.2.2.2.2.2.2.2.2.2.1))
 · repeat' (first|exact .T|apply Df.C|exact .A)):G:=s.1 c x ⟨k⟩
theorem Wu {G H C X:Prop} (c:C) (x:X) (k:H) (s:(∀(zc:C) (zx:X) (zk:Kp H),G)∧Df H:=by
 constructor
 · unhygienic intros
   (try have z1:=zc.1);(try have z2:=zc.2.1);(try have z3:=zc.2.2.1);(try have z4:=zc.2.2.2.1);(try have z5:=zc.2.2.2.2.1);(try have z6:=zc.2.2.2.2.2.1);(try have z7:=zc.2.2.2.2.2.2.1);(try have z8:=zc.2.2.2.2.2.2.2.1);(try have z9:=zc.2.2.2.2.2.2.2.2.1);(try have pz:=zc.2.2.2.2.2.2.2.2.2.1);(try have py:=zc.2.2.2.2.2.2.2.2.2.2.1);(try have px:=zc.2.2.2.2.2.2.2.2.2.2.2.1);(try have O0:=zc.2.2.2.2.2.2.2.2.2.2.2.2.1);(try have OZ:=zc.2.2.2.2.2.2.2.2.2.2.2.2.2.1);(try have OY:=zc.2.2.2.2.2.2.2.2.2.2.2.2.2.2.1);(try have OX:=zc.2.2.2.2.2.2.2.2.2.2.2.2.2.2.2.1);(try have OW:=zc.2.2.2.2.2.2.2.2.2.2.2.2.2.2.2.2.1);(try have OV:=zc.2.2.2.2.2.2.2.2.2.2.2.2.2.2.2.2.2.1)
   repeat' (first
   | (refine Yr ?_;first|with_reducible apply @Tg.h 33 _ z1|with_reducible apply @Tg.h 33 _ z2|with_reducible apply @Tg.h 33 _ z3|with_reducible apply @Tg.h 33 _ z4|with_reducible apply @Tg.h 33 _ z5|with_reducible apply @Tg.h 33 _ z6|with_reducible apply @Tg.h 33 _ z7|with_reducible apply @Tg.h 33 _ z8|with_reducible apply @Tg.h 33 _ z9|with_reducible apply @Tg.h 33 _ pz|with_reducible apply @Tg.h 33 _ py|with_reducible apply @Tg.h 33 _ px|with_reducible apply @Tg.h 33 _ O0|with_reducible apply @Tg.h 33 _ OZ|with_reducible apply @Tg.h 33 _ OY|with_reducible apply @Tg.h 33 _ OX|with_reducible apply @Tg.h 33 _ OW|with_reducible apply @Tg.h 33 _ OV;(·first|(simp;done)|(simp;rfl));(·first|(simp;done)|(simp;rfl));(·exact wA);(·exact sA);(·first|exact pP|exact kP|exact pA|exact kA);(·first|exact AW.cW _ _|((repeat' (first|apply ap.z|apply ap.s));done)|(simp [hq];(repeat' (first|rfl|refine⟨rfl,?_⟩));done)|(simp;done)|(simp;rfl)|(simp [hq];done)|(simp [hq];rfl));(·first|omega|(simp;omega));(·intro _ _;trivial);rintro zn zn zA hS hw zn;(try have hS:=lA hS);have hq:=jD hS hw)
   | (with_reducible apply Tw;(·first|(simp;done)|(simp;rfl));(·first|(simp;done)|(simp;rfl));(·exact wA);(·exact sA);(·first|exact pP|exact kP|exact pA|exact kA);(·first|(simp;done)|(simp;rfl)|(simp [hq];done)|(simp [hq];rfl));(·first|omega|(simp;omega));(·intro _ _;trivial);rintro zn zn zA hS hw zn;(try have hS:=lA hS);have hq:=jD hS hw)
   | (with_reducible apply WO;(·first|(simp;done)|(simp;rfl));(·first|(simp;done)|(simp;rfl));(·exact wA);(·exact sA);(·first|exact pP|exact kP|exact pA|exact kA);(·first|(simp;done)|(simp;rfl)|(simp [hq];done)|(simp [hq];rfl));(·first|omega|(simp;omega));(·intro _ _;trivial);rintro zn zn zA hS hw zn;(try have hS:=lA hS);have hq:=jD hS hw)
   | (with_reducible apply Wx;(·first|(simp;done)|(simp;rfl));(·first|(simp;done)|(simp;rfl));(·exact wA);(·exact sA);(·first|exact pP|exact kP|exact pA|exact kA);(·first|(simp;done)|(simp;rfl)|(simp [hq];done)|(simp [hq];rfl));(·first|omega|(simp;omega));(·intro _ _;trivial);rintro zn zn zA hS hw zn;(try have hS:=lA hS);have hq:=jD hS hw)
   | (with_reducible apply Ww;(·first|(simp;done)|(simp;rfl));(·first|(simp;done)|(simp;rfl));(·exact wA);(·exact sA);(·first|exact pP|exact kP|exact pA|exact kA);(·first|(simp;done)|(simp;rfl)|(simp [hq];done)|(simp [hq];rfl));(·first|omega|(simp;omega));(·intro _ _;trivial);rintro zn zn zA hS hw zn;(try have hS:=lA hS);have hq:=jD hS hw)
   | (refine N3 fun R hR=>?_;(first|simp [aw,az,zx,hq]|simp [aw,az,zx]);try simp (disch:=omega) only [if_pos,if_neg,aw,az])
   | (refine MJ (fun R hR=>?_) (fun R hR=>?_)<;>(first|(with_reducible apply WQ;(·first|(simp;done)|(simp;rfl));(·first|(simp;done)|(simp;rfl));(·exact wA);(·exact sA);(·first|exact pP|exact kP|exact pA|exact kA);(·first|(simp;done)|(simp;rfl)|(simp [hq];done)|(simp [hq];rfl));(·first|omega|(simp;omega));(·intro _ _;trivial);rintro zn zn zA hS hw zn;(try have hS:=lA hS);have hq:=jD hS hw)|(with_reducible apply WP;(·first|(simp;done)|(simp;rfl));(·first|(simp;done)|(simp;rfl));(·exact wA);(·exact sA);(·first|exact pP|exact kP|exact pA|exact kA);(·first|(simp;done)|(simp;rfl)|(simp [hq];done)|(simp [hq];rfl));(·first|omega|(simp;omega));(·intro _ _;trivial);rintro zn zn zA hS hw zn;(try have hS:=lA hS);have hq:=jD hS hw)|((first|simp [aw,az,zx,hq]|simp [aw,az,zx]);try simp (disch:=omega) only [if_pos,if_neg,aw,az])))
   | refine N1 ?_
   | (refine SM ?_;first|refine DG z1 Tryz.mx (by decide +kernel) fun K hK=>?_|refine DI z1 Tryz.mx (by decide +kernel) fun K hK=>?_|refine DG z2 Tryz.mx (by decide +kernel) fun K hK=>?_|refine DI z2 Tryz.mx (by decide +kernel) fun K hK=>?_|refine DG z3 Tryz.mx (by decide +kernel) fun K hK=>?_|refine DI z3 Tryz.mx (by decide +kernel) fun K hK=>?_|refine DG z4 Tryz.mx (by decide +kernel) fun K hK=>?_|refine DI z4 Tryz.mx (by decide +kernel) fun K hK=>?_|refine DG z5 Tryz.mx (by decide +kernel) fun K hK=>?_|refine DI z5 Tryz.mx (by decide +kernel) fun K hK=>?_|refine DG z6 Tryz.mx (by decide +kernel) fun K hK=>?_|refine DI z6 Tryz.mx (by decide +kernel) fun K hK=>?_|refine DG z7 Tryz.mx (by decide +kernel) fun K hK=>?_|refine DI z7 Tryz.mx (by decide +kernel) fun K hK=>?_|refine DG z8 Tryz.mx (by decide +kernel) fun K hK=>?_|refine DI z8 Tryz.mx (by decide +kernel) fun K hK=>?_|refine DG z9 Tryz.mx (by decide +kernel) fun K hK=>?_|refine DI z9 Tryz.mx (by decide +kernel) fun K hK=>?_|refine DG pz Tryz.mx (by decide +kernel) fun K hK=>?_|refine DI pz Tryz.mx (by decide +kernel) fun K hK=>?_|refine DG py Tryz.mx (by decide +kernel) fun K hK=>?_|refine DI py Tryz.mx (by decide +kernel) fun K hK=>?_|refine DG px Tryz.mx (by decide +kernel) fun K hK=>?_|refine DI px Tryz.mx (by decide +kernel) fun K hK=>?_|refine DG O0 Tryz.mx (by decide +kernel) fun K hK=>?_|refine DI O0 Tryz.mx (by decide +kernel) fun K hK=>?_|refine DG OZ Tryz.mx (by decide +kernel) fun K hK=>?_|refine DI OZ Tryz.mx (by decide +kernel) fun K hK=>?_|refine DG OY Tryz.mx (by decide +kernel) fun K hK=>?_|refine DI OY Tryz.mx (by decide +kernel) fun K hK=>?_|refine DG OX Tryz.mx (by decide +kernel) fun K hK=>?_|refine DI OX Tryz.mx (by decide +kernel) fun K hK=>?_|refine DG OW Tryz.mx (by decide +kernel) fun K hK=>?_|refine DI OW Tryz.mx (by decide +kernel) fun K hK=>?_|refine DG OV Tryz.mx (by decide +kernel) fun K hK=>?_|refine DI OV Tryz.mx (by decide +kernel) fun K hK=>?_)
   | (refine X2 ?_;simp only [cg,sQ,lJ,Option.map_none,Option.map_some,List.getElem?_toArray,List.getElem?_cons_zero,List.getElem?_cons_succ,List.getD_cons_zero,List.getD_cons_succ,Option.bind_some])
   | (refine ⟨by simp [hq],?_⟩)|(refine ⟨⟨by simp [hq],by simp [hq],by simp [hq]⟩,?_⟩)|(refine ⟨fun A' uy=>by simp [AW.aa,uy],?_⟩)|(refine ⟨fun A' uy=>by rw [uy]<;>rfl,?_⟩)|(refine ⟨fun A' g1 g2 g3=>by simp [AW.aa,g1,g2,g3],?_⟩)|(refine ⟨fun A' x g1 g2 g3=>by simp [AW.aa,g1,g2,g3],?_⟩)
   | (refine jx fun R hR=>?_;(first|simp [aw,az,zx,hq]|simp [aw,az,zx]);try simp (disch:=omega) only [if_pos,if_neg,aw,az])
   | (refine hR _ _ ?_;clear hR R)|(refine hK _ _ ?_;clear hK K)|refine nx ?_
   | refine wn fun K hK=>?_
   | simp only [wS]
   | (refine SM ?_;first|refine oQ z1 Tryz.mx (by decide +kernel) fun K hK=>?_|refine oQ z2 Tryz.mx (by decide +kernel) fun K hK=>?_|refine oQ z3 Tryz.mx (by decide +kernel) fun K hK=>?_|refine oQ z4 Tryz.mx (by decide +kernel) fun K hK=>?_|refine oQ z5 Tryz.mx (by decide +kernel) fun K hK=>?_|refine oQ z6 Tryz.mx (by decide +kernel) fun K hK=>?_|refine oQ z7 Tryz.mx (by decide +kernel) fun K hK=>?_|refine oQ z8 Tryz.mx (by decide +kernel) fun K hK=>?_|refine oQ z9 Tryz.mx (by decide +kernel) fun K hK=>?_|refine oQ pz Tryz.mx (by decide +kernel) fun K hK=>?_|refine oQ py Tryz.mx (by decide +kernel) fun K hK=>?_|refine oQ px Tryz.mx (by decide +kernel) fun K hK=>?_|refine oQ O0 Tryz.mx (by decide +kernel) fun K hK=>?_|refine oQ OZ Tryz.mx (by decide +kernel) fun K hK=>?_|refine oQ OY Tryz.mx (by decide +kernel) fun K hK=>?_|refine oQ OX Tryz.mx (by decide +kernel) fun K hK=>?_|refine oQ OW Tryz.mx (by decide +kernel) fun K hK=>?_|refine oQ OV Tryz.mx (by decide +kernel) fun K hK=>?_)
   | (refine We ?_;first
     | (apply aY.cA;(·(first|apply z1|apply z2|apply z3|apply z4|apply z5|apply z6|apply z7|apply z8|apply z9|apply pz|apply py|apply px|apply O0|apply OZ|apply OY|apply OX|apply OW|apply OV)<;>first|assumption|(simp [hq];done)|(refine gR ?_;simp [hq];rfl)|(simp [hq,zx];done)|omega|decide);(·exact wA);(·exact sA);(·first|exact pP|exact kP|exact pA|exact kA);(first|rintro _ zA rfl hS hw zn|rintro zn zA zn hS hw zn);have hS:=lA hS;(try (have hq:=jD hS hw)))
     | (apply bT;(·(first|apply z1|apply z2|apply z3|apply z4|apply z5|apply z6|apply z7|apply z8|apply z9|apply pz|apply py|apply px|apply O0|apply OZ|apply OY|apply OX|apply OW|apply OV)<;>first|assumption|(simp [hq];done)|(refine gR ?_;simp [hq];rfl)|(simp [hq,zx];done)|omega|decide);(first|rintro _ _ ⟨rfl,rfl⟩ zn zn|rintro _ _ ⟨⟨zn,rfl⟩,rfl⟩ zn zn))
     | ((first|apply @Tg.h 10 _ z1|apply @Tg.h 10 _ z2|apply @Tg.h 10 _ z3|apply @Tg.h 10 _ z4|apply @Tg.h 10 _ z5|apply @Tg.h 10 _ z6|apply @Tg.h 10 _ z7|apply @Tg.h 10 _ z8|apply @Tg.h 10 _ z9|apply @Tg.h 10 _ pz|apply @Tg.h 10 _ py|apply @Tg.h 10 _ px);(·exact wA);(·exact sA);(·first|exact pP|exact kP|exact pA|exact kA);)
     | ((first|apply @Tg.h 11 _ z1|apply @Tg.h 11 _ z2|apply @Tg.h 11 _ z3|apply @Tg.h 11 _ z4|apply @Tg.h 11 _ z5|apply @Tg.h 11 _ z6|apply @Tg.h 11 _ z7|apply @Tg.h 11 _ z8|apply @Tg.h 11 _ z9|apply @Tg.h 11 _ pz|apply @Tg.h 11 _ py|apply @Tg.h 11 _ px);(·exact wA);(·exact sA);(·first|exact pP|exact kP|exact pA|exact kA);(·first|omega|(simp;omega)|(simp [hq];done));((first|rintro zn zn zA hS hw zn|rintro zn zA hS hw zn|rintro zn zA hS hw);(try refine⟨zn,?_⟩);(try (have hS:=lA hS));have hq:=jD hS hw))
     | ((first|apply @Tg.h 12 _ z1|apply @Tg.h 12 _ z2|apply @Tg.h 12 _ z3|apply @Tg.h 12 _ z4|apply @Tg.h 12 _ z5|apply @Tg.h 12 _ z6|apply @Tg.h 12 _ z7|apply @Tg.h 12 _ z8|apply @Tg.h 12 _ z9|apply @Tg.h 12 _ pz|apply @Tg.h 12 _ py|apply @Tg.h 12 _ px);(·exact wA);(·exact sA);(·first|exact pP|exact kP|exact pA|exact kA);(·first|exact pP|exact kP|exact pA|exact kA);(·first|omega|(simp;omega)|(simp [hq];done));(·first|omega|(simp;omega)|(simp [hq];done));((first|rintro zn zn zA hS hw zn|rintro zn zA hS hw zn|rintro zn zA hS hw);(try refine⟨zn,?_⟩);(try (have hS:=lA hS));have hq:=jD hS hw))
     | ((first|apply @Tg.h 14 _ z1|apply @Tg.h 14 _ z2|apply @Tg.h 14 _ z3|apply @Tg.h 14 _ z4|apply @Tg.h 14 _ z5|apply @Tg.h 14 _ z6|apply @Tg.h 14 _ z7|apply @Tg.h 14 _ z8|apply @Tg.h 14 _ z9|apply @Tg.h 14 _ pz|apply @Tg.h 14 _ py|apply @Tg.h 14 _ px);(·exact wA);(·exact sA);(·first|exact pP|exact kP|exact pA|exact kA);(·first|omega|(simp;omega)|(simp [hq];done));)
     | ((first|apply @Tg.h 15 _ z1|apply @Tg.h 15 _ z2|apply @Tg.h 15 _ z3|apply @Tg.h 15 _ z4|apply @Tg.h 15 _ z5|apply @Tg.h 15 _ z6|apply @Tg.h 15 _ z7|apply @Tg.h 15 _ z8|apply @Tg.h 15 _ z9|apply @Tg.h 15 _ pz|apply @Tg.h 15 _ py|apply @Tg.h 15 _ px);(·exact wA);(·exact sA);(·first|exact pP|exact kP|exact pA|exact kA);((first|rintro zn zn zA hS hw zn|rintro zn zA hS hw zn|rintro zn zA hS hw);(try refine⟨zn,?_⟩);(try (have hS:=lA hS));have hq:=jD hS hw))
     | ((first|apply @Tg.h 17 _ z1|apply @Tg.h 17 _ z2|apply @Tg.h 17 _ z3|apply @Tg.h 17 _ z4|apply @Tg.h 17 _ z5|apply @Tg.h 17 _ z6|apply @Tg.h 17 _ z7|apply @Tg.h 17 _ z8|apply @Tg.h 17 _ z9|apply @Tg.h 17 _ pz|apply @Tg.h 17 _ py|apply @Tg.h 17 _ px);(·exact wA);(·exact sA);(·first|exact pP|exact kP|exact pA|exact kA);((rintro zn zn zA hS hw);(try (have hS:=lA hS));have hq:=jD hS hw))
     | ((first|apply @Tg.h 18 _ z1|apply @Tg.h 18 _ z2|apply @Tg.h 18 _ z3|apply @Tg.h 18 _ z4|apply @Tg.h 18 _ z5|apply @Tg.h 18 _ z6|apply @Tg.h 18 _ z7|apply @Tg.h 18 _ z8|apply @Tg.h 18 _ z9|apply @Tg.h 18 _ pz|apply @Tg.h 18 _ py|apply @Tg.h 18 _ px);(·exact wA);(·exact sA);(·first|exact pP|exact kP|exact pA|exact kA);(·first|omega|(simp;omega)|(simp [hq];done));((rintro zn zn zn zA hS hw);(try (have hS:=lA hS));have hq:=jD hS hw))
     | ((first|apply @Tg.h 19 _ z1|apply @Tg.h 19 _ z2|apply @Tg.h 19 _ z3|apply @Tg.h 19 _ z4|apply @Tg.h 19 _ z5|apply @Tg.h 19 _ z6|apply @Tg.h 19 _ z7|apply @Tg.h 19 _ z8|apply @Tg.h 19 _ z9|apply @Tg.h 19 _ pz|apply @Tg.h 19 _ py|apply @Tg.h 19 _ px);(·exact wA);(·exact sA);((first|rintro zn zn zA hS hw zn|rintro zn zA hS hw zn|rintro zn zA hS hw);(try refine⟨zn,?_⟩);(try (have hS:=lA hS));have hq:=jD hS hw))
     | (apply aY.qz;(·first|apply @Tg.h 20 _ z1|apply @Tg.h 20 _ z2|apply @Tg.h 20 _ z3|apply @Tg.h 20 _ z4|apply @Tg.h 20 _ z5|apply @Tg.h 20 _ z6|apply @Tg.h 20 _ z7|apply @Tg.h 20 _ z8|apply @Tg.h 20 _ z9|apply @Tg.h 20 _ pz|apply @Tg.h 20 _ py|apply @Tg.h 20 _ px);(·exact wA);(·exact sA);(·exact fP);(·first|exact pP|exact kP|exact pA|exact kA);(first|rintro _ zA rfl hS hw zn|rintro zn zA zn hS hw zn);have hS:=lA hS;(try (have hq:=jD hS hw));all_goals(try (first|exact 0|exact undef)))
     | (apply aY.Ke;(·first|apply @Tg.h 21 _ z1|apply @Tg.h 21 _ z2|apply @Tg.h 21 _ z3|apply @Tg.h 21 _ z4|apply @Tg.h 21 _ z5|apply @Tg.h 21 _ z6|apply @Tg.h 21 _ z7|apply @Tg.h 21 _ z8|apply @Tg.h 21 _ z9|apply @Tg.h 21 _ pz|apply @Tg.h 21 _ py|apply @Tg.h 21 _ px);(·exact wA);(·exact sA);(·exact fP);(·first|exact pP|exact kP|exact pA|exact kA);(first|rintro _ zA rfl hS hw zn|rintro zn zA zn hS hw zn);have hS:=lA hS;(try (have hq:=jD hS hw));all_goals(try (first|exact 0|exact undef)))
     | (apply aY.Re;(·first|apply @Tg.h 22 _ z1|apply @Tg.h 22 _ z2|apply @Tg.h 22 _ z3|apply @Tg.h 22 _ z4|apply @Tg.h 22 _ z5|apply @Tg.h 22 _ z6|apply @Tg.h 22 _ z7|apply @Tg.h 22 _ z8|apply @Tg.h 22 _ z9|apply @Tg.h 22 _ pz|apply @Tg.h 22 _ py|apply @Tg.h 22 _ px);(·exact wA);(·exact sA);(·exact fP);(·first|exact pP|exact kP|exact pA|exact kA);(first|rintro _ zA rfl hS hw zn|rintro zn zA zn hS hw zn);have hS:=lA hS;(try (have hq:=jD hS hw));all_goals(try (first|exact 0|exact undef)))
     | ((first|apply @Tg.h 31 _ z1|apply @Tg.h 31 _ z2|apply @Tg.h 31 _ z3|apply @Tg.h 31 _ z4|apply @Tg.h 31 _ z5|apply @Tg.h 31 _ z6|apply @Tg.h 31 _ z7|apply @Tg.h 31 _ z8|apply @Tg.h 31 _ z9|apply @Tg.h 31 _ pz|apply @Tg.h 31 _ py|apply @Tg.h 31 _ px);(·exact wA);(·exact sA);(·exact fP);((first|rintro zn zn zA hS hw|rintro zn zA hS hw);(try dsimp only [bx,AW.bq,af,ag] at hS);have hq:=W1 hS hw);all_goals(try (first|exact 0|exact undef)))
     | (apply wN;(·first|apply @Tg.h 30 _ z1|apply @Tg.h 30 _ z2|apply @Tg.h 30 _ z3|apply @Tg.h 30 _ z4|apply @Tg.h 30 _ z5|apply @Tg.h 30 _ z6|apply @Tg.h 30 _ z7|apply @Tg.h 30 _ z8|apply @Tg.h 30 _ z9|apply @Tg.h 30 _ pz|apply @Tg.h 30 _ py|apply @Tg.h 30 _ px);(·exact wA);(·exact sA);(·exact fP);all_goals(try (first|exact 0|exact undef)))
     | (apply ct.cA;(·first|apply @Tg.h 32 _ z1|apply @Tg.h 32 _ z2|apply @Tg.h 32 _ z3|apply @Tg.h 32 _ z4|apply @Tg.h 32 _ z5|apply @Tg.h 32 _ z6|apply @Tg.h 32 _ z7|apply @Tg.h 32 _ z8|apply @Tg.h 32 _ z9|apply @Tg.h 32 _ pz|apply @Tg.h 32 _ py|apply @Tg.h 32 _ px);(·exact wA);(·exact sA);(·first|exact pP|exact kP|exact pA|exact kA);(first|rintro xw _ zA rfl hS hw zn|rintro xw zn zA zn hS hw zn);(try (have hS:=lA hS));(try (have hq:=jD hS hw)))
     | ((first|apply ct.cA (@Tg.h 36 _ z1 _)|apply ct.cA (@Tg.h 36 _ z2 _)|apply ct.cA (@Tg.h 36 _ z3 _)|apply ct.cA (@Tg.h 36 _ z4 _)|apply ct.cA (@Tg.h 36 _ z5 _)|apply ct.cA (@Tg.h 36 _ z6 _)|apply ct.cA (@Tg.h 36 _ z7 _)|apply ct.cA (@Tg.h 36 _ z8 _)|apply ct.cA (@Tg.h 36 _ z9 _)|apply ct.cA (@Tg.h 36 _ pz _)|apply ct.cA (@Tg.h 36 _ py _)|apply ct.cA (@Tg.h 36 _ px _)|apply ct.cA (@Tg.h 36 _ z1 _ _ _ _ _ _)|apply ct.cA (@Tg.h 36 _ z2 _ _ _ _ _ _)|apply ct.cA (@Tg.h 36 _ z3 _ _ _ _ _ _)|apply ct.cA (@Tg.h 36 _ z4 _ _ _ _ _ _)|apply ct.cA (@Tg.h 36 _ z5 _ _ _ _ _ _)|apply ct.cA (@Tg.h 36 _ z6 _ _ _ _ _ _)|apply ct.cA (@Tg.h 36 _ z7 _ _ _ _ _ _)|apply ct.cA (@Tg.h 36 _ z8 _ _ _ _ _ _)|apply ct.cA (@Tg.h 36 _ z9 _ _ _ _ _ _)|apply ct.cA (@Tg.h 36 _ pz _ _ _ _ _ _)|apply ct.cA (@Tg.h 36 _ py _ _ _ _ _ _)|apply ct.cA (@Tg.h 36 _ px _ _ _ _ _ _)|apply ct.cA (@Tg.h 36 _ z1 _ _ _ _ _ _ _ _ _)|apply ct.cA (@Tg.h 36 _ z2 _ _ _ _ _ _ _ _ _)|apply ct.cA (@Tg.h 36 _ z3 _ _ _ _ _ _ _ _ _)|apply ct.cA (@Tg.h 36 _ z4 _ _ _ _ _ _ _ _ _)|apply ct.cA (@Tg.h 36 _ z5 _ _ _ _ _ _ _ _ _)|apply ct.cA (@Tg.h 36 _ z6 _ _ _ _ _ _ _ _ _)|apply ct.cA (@Tg.h 36 _ z7 _ _ _ _ _ _ _ _ _)|apply ct.cA (@Tg.h 36 _ z8 _ _ _ _ _ _ _ _ _)|apply ct.cA (@Tg.h 36 _ z9 _ _ _ _ _ _ _ _ _)|apply ct.cA (@Tg.h 36 _ pz _ _ _ _ _ _ _ _ _)|apply ct.cA (@Tg.h 36 _ py _ _ _ _ _ _ _ _ _)|apply ct.cA (@Tg.h 36 _ px _ _ _ _ _ _ _ _ _)|apply ct.cA (@Tg.h 36 _ z1 _ _ _ _ _ _ _ _ _ _)|apply ct.cA (@Tg.h 36 _ z2 _ _ _ _ _ _ _ _ _ _)|apply ct.cA (@Tg.h 36 _ z3 _ _ _ _ _ _ _ _ _ _)|apply ct.cA (@Tg.h 36 _ z4 _ _ _ _ _ _ _ _ _ _)|apply ct.cA (@Tg.h 36 _ z5 _ _ _ _ _ _ _ _ _ _)|apply ct.cA (@Tg.h 36 _ z6 _ _ _ _ _ _ _ _ _ _)|apply ct.cA (@Tg.h 36 _ z7 _ _ _ _ _ _ _ _ _ _)|apply ct.cA (@Tg.h 36 _ z8 _ _ _ _ _ _ _ _ _ _)|apply ct.cA (@Tg.h 36 _ z9 _ _ _ _ _ _ _ _ _ _)|apply ct.cA (@Tg.h 36 _ pz _ _ _ _ _ _ _ _ _ _)|apply ct.cA (@Tg.h 36 _ py _ _ _ _ _ _ _ _ _ _)|apply ct.cA (@Tg.h 36 _ px _ _ _ _ _ _ _ _ _ _));(·exact wA);(·exact sA);(·first|exact pP|exact kP|exact pA|exact kA);(first|rintro xw _ zA rfl hS hw zn|rintro xw zn zA zn hS hw zn);(try (have hS:=lA hS));(try (have hq:=jD hS hw)))
     | ((first|apply aY.cA (@Tg.h 37 _ z1 _)|apply aY.cA (@Tg.h 37 _ z2 _)|apply aY.cA (@Tg.h 37 _ z3 _)|apply aY.cA (@Tg.h 37 _ z4 _)|apply aY.cA (@Tg.h 37 _ z5 _)|apply aY.cA (@Tg.h 37 _ z6 _)|apply aY.cA (@Tg.h 37 _ z7 _)|apply aY.cA (@Tg.h 37 _ z8 _)|apply aY.cA (@Tg.h 37 _ z9 _)|apply aY.cA (@Tg.h 37 _ pz _)|apply aY.cA (@Tg.h 37 _ py _)|apply aY.cA (@Tg.h 37 _ px _)|apply aY.cA (@Tg.h 37 _ z1 _ _ _ _ _ _)|apply aY.cA (@Tg.h 37 _ z2 _ _ _ _ _ _)|apply aY.cA (@Tg.h 37 _ z3 _ _ _ _ _ _)|apply aY.cA (@Tg.h 37 _ z4 _ _ _ _ _ _)|apply aY.cA (@Tg.h 37 _ z5 _ _ _ _ _ _)|apply aY.cA (@Tg.h 37 _ z6 _ _ _ _ _ _)|apply aY.cA (@Tg.h 37 _ z7 _ _ _ _ _ _)|apply aY.cA (@Tg.h 37 _ z8 _ _ _ _ _ _)|apply aY.cA (@Tg.h 37 _ z9 _ _ _ _ _ _)|apply aY.cA (@Tg.h 37 _ pz _ _ _ _ _ _)|apply aY.cA (@Tg.h 37 _ py _ _ _ _ _ _)|apply aY.cA (@Tg.h 37 _ px _ _ _ _ _ _)|apply aY.cA (@Tg.h 37 _ z1 _ _ _ _ _ _ _ _ _)|apply aY.cA (@Tg.h 37 _ z2 _ _ _ _ _ _ _ _ _)|apply aY.cA (@Tg.h 37 _ z3 _ _ _ _ _ _ _ _ _)|apply aY.cA (@Tg.h 37 _ z4 _ _ _ _ _ _ _ _ _)|apply aY.cA (@Tg.h 37 _ z5 _ _ _ _ _ _ _ _ _)|apply aY.cA (@Tg.h 37 _ z6 _ _ _ _ _ _ _ _ _)|apply aY.cA (@Tg.h 37 _ z7 _ _ _ _ _ _ _ _ _)|apply aY.cA (@Tg.h 37 _ z8 _ _ _ _ _ _ _ _ _)|apply aY.cA (@Tg.h 37 _ z9 _ _ _ _ _ _ _ _ _)|apply aY.cA (@Tg.h 37 _ pz _ _ _ _ _ _ _ _ _)|apply aY.cA (@Tg.h 37 _ py _ _ _ _ _ _ _ _ _)|apply aY.cA (@Tg.h 37 _ px _ _ _ _ _ _ _ _ _));(·exact wA);(·exact sA);(·first|exact pP|exact kP|exact pA|exact kA);(first|rintro _ zA rfl hS hw zn|rintro zn zA zn hS hw zn);have hS:=lA hS;(try (have hq:=jD hS hw)))
     | (apply aY.O4;(·first|apply @Tg.h 34 _ z1|apply @Tg.h 34 _ z2|apply @Tg.h 34 _ z3|apply @Tg.h 34 _ z4|apply @Tg.h 34 _ z5|apply @Tg.h 34 _ z6|apply @Tg.h 34 _ z7|apply @Tg.h 34 _ z8|apply @Tg.h 34 _ z9|apply @Tg.h 34 _ pz|apply @Tg.h 34 _ py|apply @Tg.h 34 _ px);(·exact wA);(·exact sA);(·exact fT);(·first|exact pP|exact kP|exact pA|exact kA);(first|rintro _ zA rfl hS hw zn|rintro zn zA zn hS hw zn);(try (have hS:=lA hS));(try (have hq:=jD hS hw));all_goals(try (first|exact 0|exact undef)))
     | (apply ct.O4;(·first|apply @Tg.h 35 _ z1|apply @Tg.h 35 _ z2|apply @Tg.h 35 _ z3|apply @Tg.h 35 _ z4|apply @Tg.h 35 _ z5|apply @Tg.h 35 _ z6|apply @Tg.h 35 _ z7|apply @Tg.h 35 _ z8|apply @Tg.h 35 _ z9|apply @Tg.h 35 _ pz|apply @Tg.h 35 _ py|apply @Tg.h 35 _ px);(·exact wA);(·exact sA);(·exact fT);(·first|exact pP|exact kP|exact pA|exact kA);(first|rintro xw _ zA rfl hS hw zn|rintro xw zn zA zn hS hw zn);(try (have hS:=lA hS));(try (have hq:=jD hS hw));all_goals(try (first|exact 0|exact undef)))
     )
   | refine wb ?_|refine wr ?_|refine wk ?_|refine we ?_|refine ws ?_|refine wq ?_
   | (refine wc rfl (fun hc=>?_) (fun hc=>?_)<;>(try simp at hc)<;>(try omega)<;>(try (simp [h2] at hc;done))<;>(try (simp [h3] at hc;done))<;>(try (simp [h4] at hc;done)))
   | (refine ib (fun hc=>?_) (fun hc=>?_)<;>(try omega)<;>(try simp (disch:=omega) only [if_pos,if_neg]))
   | ((repeat (first|clear zc|clear zx|clear z1|clear z2|clear z3|clear z4|clear z5|clear z6|clear z7|clear z8|clear z9|clear pz|clear py|clear px|clear O0|clear OZ|clear OY|clear OX|clear OW|clear OV));(try revert hq);(repeat clear hq);(try revert hS);(repeat clear hS);(try revert hw);(repeat clear hw);(repeat (first|revert hc|revert zn|revert zA|revert xw|revert K|revert hK|revert R|revert hR));first|with_reducible refine zk.h.1|with_reducible refine zk.h.2.1|with_reducible refine zk.h.2.2.1|with_reducible refine zk.h.2.2.2.1|with_reducible refine zk.h.2.2.2.2.1|with_reducible refine zk.h.2.2.2.2.2.1|with_reducible refine zk.h.2.2.2.2.2.2.1|with_reducible refine zk.h.2.2.2.2.2.2.2.1|with_reducible refine zk.h.2.2.2.2.2.2.2.2.1|with_reducible refine zk.h.2.2.2.2.2.2.2.2.2.1|with_reducible refine zk.h.2.2.2.2.2.2.2.2.2.2.1|with_reducible refine zk.h.2.2.2.2.2.2.2.2.2.2.2.1|with_reducible refine zk.h.2.2.2.2.2.2.2.2.2.2.2.2.1|with_reducible refine zk.h.2.2.2.2.2.2.2.2.2.2.2.2.2.1|with_reducible refine zk.h.2.2.2.2.2.2.2.2.2.2.2.2.2.2.1|with_reducible refine zk.h.2.2.2.2.2.2.2.2.2.2.2.2.2.2.2.1))
 · repeat' (first|exact .T|apply Df.C|exact .A)):G:=s.1 c x ⟨k⟩
end
end Go.Stx
