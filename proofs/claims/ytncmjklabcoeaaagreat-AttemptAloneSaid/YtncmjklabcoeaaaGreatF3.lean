/-
 Contracts over the abstract memory: slices, assertions, maps, regions that draw their order.
-/
import Derived.Test.YtncmjklabcoeaaaGreatF2
import Derived.Sort.Grow
import Derived.Orders
set_option linter.unusedVariables false
set_option linter.unusedSimpArgs false
set_option maxRecDepth 20000
set_option maxHeartbeats 4000000
namespace Go.Stx
open Go
def mO (B:Nat) (A:AW) (size:Nat) (v:Value) (n:Nat) (cs:List Value):Prop:=
 (v=.slice none 0 0∧n=0∧cs=[]) ∨
 ∃p c dh,v=.slice (some p) n c∧n≤c∧p.spot=none∧B≤p.block∧A.cy p.block=some (.cells dh true size)∧p.off+n*size≤dh.length∧cs=(dh.drop p.off).take (n*size)
theorem mO.is {B:Nat} {A:AW} {size:Nat} {v:Value} {n:Nat} {cs:List Value} (h:mO B A size v n cs):mQ A size v n cs:=by
 rcases h with ⟨h1,h2,h3⟩|⟨p,c,dh,h1,h2,_,_,h3,h4,h5⟩
 · exact .inl ⟨⟨none,h1⟩,h2,h3⟩
 · exact .inr ⟨p,c,dh,true,size,h1,h2,h3,rfl,h4,h5⟩
theorem mO.nil (B:Nat) (A:AW) (size:Nat):mO B A size (.slice none 0 0) 0 []:=.inl ⟨rfl,rfl,rfl⟩
theorem mO.le {B:Nat} {A A':AW} (hl:A.le A') (hw:A.Wf) {size:Nat} {v:Value} {n:Nat} {cs:List Value} (h:mO B A size v n cs):mO B A' size v n cs:=by
 rcases h with h|⟨p,c,dh,h1,h2,hs,h3,h4,h5⟩
 · exact .inl h
 · exact .inr ⟨p,c,dh,h1,h2,hs,h3,hl.iU hw h4,h5⟩
def C0:Value→Option Nat
 | .slice (some p) _ _=>some p.block
 | _=>none
theorem mO.length {B:Nat} {A:AW} {size:Nat} {v:Value} {n:Nat} {cs:List Value} (h:mO B A size v n cs):cs.length=n*size:=h.is.length
theorem Ah {A:AW} {size:Nat} {x:Value} {m:Nat} {EH:List Value} (h:jb A size x=some (m,EH)):EH.length=m*size:=by
 unfold jb at h
 split at h
 · simp only [Option.some.injEq,Prod.mk.injEq] at h
   obtain⟨rfl,rfl⟩:=h
   simp
 · split at h
   · simp only [Option.some.injEq,Prod.mk.injEq] at h
     obtain⟨rfl,rfl⟩:=h
     simp
   · split at h
     · split at h
       · simp only [Option.some.injEq,Prod.mk.injEq] at h
         obtain⟨rfl,rfl⟩:=h
         simp
         omega
       · cases h
     · cases h
 · cases h
theorem xg {P:Program} {A:AW} {t e:TypeId} {i:TypeInfo} {z:Value} {B:Nat} {v x:Value} {n m size:Nat} {cs EH:List Value}
 (hu:P.underlying t=some (.slice e)) (hi:P.info? e=some i) (hz:i.zero=some z) (iq:i.size=size) (rb:z.cells.size=size) (h0:0<size)
 (kD:mO B A size v n cs) (mI:jb A size x=some (m,EH)) (qg:EH.all Value.oneCell'=true) (xz:n+m≤140737488355328) (hb:(n+m)*i.bytes≤140737488355328)
 (hB:B≤A.next) (hw:A.Wf) :
 ∃v' A',iH P A t t v x=some (v',A')∧mO B A' size v' (n+m) (cs++EH)∧(∀A0:AW,A0.next≤B→A0.le A→A0.le A')∧A'.Wf∧A.next≤A'.next∧
  (∀j,j<A.next→C0 v≠some j→A'.cy j=A.cy j)∧(v'=v∨C0 v'=some A.next):=by
 subst iq
 have cU:=kD.length
 have Mv:=Ah mI
 by_cases hm:m=0
 · subst hm
   have Nx:EH=[]:=List.eq_nil_of_length_eq_zero (by omega)
   subst Nx
   have holds:∃b,iG A i.size v=some (b,n,cs):=by
    rcases kD with ⟨rfl,rfl,rfl⟩|⟨p,c,dh,rfl,hc,zB,_,hg,eG,rfl⟩
    · exact⟨none,rfl⟩
    · exact⟨some p,by simp [iG,zB,hg,eG]⟩
   obtain⟨b,XJ⟩:=holds
   refine⟨v,A,?_,by simpa using kD,fun A0 _ h=>h,hw,Nat.le_refl _,fun j _ _=>rfl,.inl rfl⟩
   simp [iH,hu,hi,hz,rb,h0,mI,XJ]
 · rcases kD with ⟨rfl,rfl,rfl⟩|⟨p,c,dh,rfl,hc,zB,Zu,hg,eG,rfl⟩
   · refine⟨.slice (some ⟨A.next,0,none⟩) (0+m) (0+m),A.alloc (.cells EH true i.size),?_,?_,fun A0 _ h=>h.trans (AW.le.alloc A _),hw.alloc _,by simp,fun j hj _=>AW.jS _ _ (by omega),.inr rfl⟩
     · have xA:(0+m)*i.bytes≤140737488355328:=hb
       have UI:0+m≤140737488355328:=xz
       simp only [iH,hu,hi,hz,mI,iG]
       rw [if_pos ⟨rb,h0,trivial⟩,if_neg hm,if_pos ⟨UI,xA,qg⟩]
       simp
     · refine .inr ⟨⟨A.next,0,none⟩,0+m,EH,rfl,Nat.le_refl _,rfl,hB,AW.gO _ _,by simp;omega,?_⟩
       simp only [zo,List.drop_zero,Nat.zero_add]
       rw [List.take_of_length_le (by omega)]
   · have dQ:=hw.lt hg
     refine⟨.slice (some ⟨A.next,0,none⟩) (n+m) (n+m),(A.set p.block none).alloc (.cells ((dh.drop p.off).take (n*i.size)++EH) true i.size),?_,?_,?_,(hw.set none dQ).alloc _,by simp,?_,.inr rfl⟩
     · simp only [iH,hu,hi,hz,mI,iG,hg]
       have F3:¬(p.spot.isSome=true∧c=0∧n=0):=by simp [zB]
       rw [if_pos ⟨rb,h0,trivial⟩,if_neg F3,if_pos ⟨trivial,eG⟩]
       simp only
       rw [if_neg hm,if_pos ⟨xz,hb,qg⟩]
     · refine .inr ⟨⟨A.next,0,none⟩,n+m,(dh.drop p.off).take (n*i.size)++EH,rfl,Nat.le_refl _,rfl,hB,?_,?_,?_⟩
       · have:=AW.gO (A.set p.block none) (.cells ((dh.drop p.off).take (n*i.size)++EH) true i.size)
         simpa using this
       · have:((dh.drop p.off).take (n*i.size)++EH).length=(n+m)*i.size:=by
          rw [List.length_append,cU,Mv,Nat.add_mul]
         show 0+(n+m)*i.size≤_
         omega
       · have:((dh.drop p.off).take (n*i.size)++EH).length=(n+m)*i.size:=by
          rw [List.length_append,cU,Mv,Nat.add_mul]
         exact(List.take_of_length_le (Nat.le_of_eq this)).symm
     · intro A0 hA0 hl
       exact(hl.set (by omega) none).trans (AW.le.alloc _ _)
     · intro j hj ke
       rw [AW.jS _ _ (by simp;omega),AW.cX (fun e=>ke (by simp [C0,e]))]
theorem mQ.nH {A:AW} {size:Nat} {v:Value} {n:Nat} {cs:List Value} (h:mQ A size v n cs):jb A size v=some (n,cs):=by
 rcases h with ⟨⟨o,rfl⟩,rfl,rfl⟩|⟨p,c,dh,own,u,rfl,hc,hg,_,eG,rfl⟩
 · cases o<;>simp [jb]
 · by_cases h0:n=0
   · subst h0;simp [jb]
   · simp [jb,h0,AW.KJ hg,eG]
def dk (B:Nat) (A:AW) (k:IntKind) (v:Value) (l:List Int):Prop:=mO B A 1 v l.length (l.map (Value.int k))
theorem dk.is {B:Nat} {A:AW} {k:IntKind} {v:Value} {l:List Int} (h:dk B A k v l):cF A k v l:=mO.is h
theorem dk.nil (B:Nat) (A:AW) (k:IntKind):dk B A k (.slice none 0 0) []:=mO.nil B A 1
theorem dk.le {B:Nat} {A A':AW} (hl:A.le A') (hw:A.Wf) {k:IntKind} {v:Value} {l:List Int} (h:dk B A k v l):dk B A' k v l:=mO.le hl hw h
theorem qQ {P:Program} {A:AW} {t e:TypeId} {i:TypeInfo} {z:Value} {B:Nat} {v:Value} {k:IntKind} {l:List Int} (y:Int)
 (hu:P.underlying t=some (.slice e)) (hi:P.info? e=some i) (hz:i.zero=some z) (iq:i.size=1) (rb:z.cells.size=1)
 (kD:dk B A k v l) (cU:l.length<2 ^ 40) (BH:i.bytes≤8) (hB:B≤A.next) (hw:A.Wf) :
 ∃v' A',iH P (A.alloc (.cells [.int k y] true 1)) t t v (.slice (some ⟨A.next,0,none⟩) 1 1)=some (v',A')∧dk B A' k v' (l++[y])∧
  (∀A0:AW,A0.next≤B→A0.le A→A0.le A')∧A'.Wf∧A.next≤A'.next:=by
 have RA:=dk.le (AW.le.alloc A (.cells [.int k y] true 1)) hw kD
 have mI:jb (A.alloc (.cells [.int k y] true 1)) 1 (.slice (some ⟨A.next,0,none⟩) 1 1)=some (1,[.int k y]):=by
  simp [jb,AW.dh]
 have hb:(l.length+1)*i.bytes≤140737488355328:=by
  have:=Nat.mul_le_mul_left (l.length+1) BH
  omega
 obtain⟨v',A',h1,h2,h3,h4,h5,_⟩:=xg (P:=P) (t:=t) hu hi hz iq rb (by omega) RA mI rfl (by omega) hb (by simp;omega) (hw.alloc _)
 refine⟨v',A',h1,?_,fun A0 ha hl=>h3 A0 ha (hl.trans (AW.le.alloc A _)),h4,by simp at h5;omega⟩
 unfold dk
 simpa using h2
theorem w6 {P:Program} {A:AW} {t e:TypeId} {i:TypeInfo} {z:Value} {B:Nat} {v x:Value} {k:IntKind} {l l2:List Int}
 (hu:P.underlying t=some (.slice e)) (hi:P.info? e=some i) (hz:i.zero=some z) (iq:i.size=1) (rb:z.cells.size=1)
 (kD:dk B A k v l) (hx:cF A k x l2) (cU:l.length+l2.length<2 ^ 40) (BH:i.bytes≤8) (hB:B≤A.next) (hw:A.Wf) :
 ∃v' A',iH P A t t v x=some (v',A')∧dk B A' k v' (l++l2)∧(∀A0:AW,A0.next≤B→A0.le A→A0.le A')∧A'.Wf∧A.next≤A'.next:=by
 have hb:(l.length+l2.length)*i.bytes≤140737488355328:=by
  have:=Nat.mul_le_mul_left (l.length+l2.length) BH
  omega
 obtain⟨v',A',h1,h2,h3,h4,h5,_⟩:=xg (P:=P) (t:=t) hu hi hz iq rb (by omega) kD hx.nH (by simp [Value.oneCell']) (by omega) hb hB hw
 refine⟨v',A',h1,?_,h3,h4,h5⟩
 unfold dk
 simpa using h2
open Go
def AW.empty:AW:=⟨0,fun _=>none⟩
def Mp.empty:Mp:=fun _=>none
def AW.NoOwn (A:AW):Prop:=∀i o,A.cy i=some o→o.own=false
theorem Sim.empty (w:World):Sim Mp.empty AW.empty w:=⟨fun i o h=>(by cases h),fun i j o o' p p' h=>(by cases h),fun _ _=>rfl,fun _ _=>rfl⟩
theorem AW.NoOwn.empty:AW.empty.NoOwn:=fun i o h=>by cases h
theorem AW.Wf.empty:AW.empty.Wf:=fun _ _=>rfl
theorem Sim.NP {m:Mp} {A:AW} {w:World} (hs:Sim m A w) (xJ:A.NoOwn) (cs:List Value) (p:Pl) {iX:Array Value} {e:TypeId} {fr:Nat×Nat}
 (hb:w.heap[p.block]? = some (.cells iX e fr)) (tO:iX.size=p.ud)
 (rX:∀(k:Nat) (v:Value),cs[k]? = some v→∃v',iX[p.base+k]? = some v'∧cz m v v') :
 Sim (m.ext A.next p) (A.alloc (.cells cs false p.unit)) w∧(A.alloc (.cells cs false p.unit)).NoOwn:=by
 have eG:=hs.DD p
 have sX:∀{j},j≠A.next→(m.ext A.next p) j=m j:=fun {j} h=>by simp [Mp.ext,h]
 have r8:∀{j},j≠A.next→(A.alloc (.cells cs false p.unit)).cy j=A.cy j:=fun {j} h=>by simp [AW.alloc,h]
 have zj:(m.ext A.next p) A.next=some p:=by simp [Mp.ext]
 have JP:(A.alloc (.cells cs false p.unit)).cy A.next=some (.cells cs false p.unit):=by simp [AW.alloc]
 have Nw:(A.alloc (.cells cs false p.unit)).NoOwn:=by
  intro i o hi
  by_cases hn:i=A.next
  · subst hn;rw [JP] at hi;injection hi with hi;subst hi;rfl
  · rw [r8 hn] at hi;exact xJ i o hi
 refine⟨⟨?_,?_,?_,?_⟩,Nw⟩
 · intro j o hj
   by_cases hn:j=A.next
   · subst hn
     rw [JP] at hj
     injection hj with hj
     subst hj
     exact⟨p,zj,iX,e,fr,hb,fun h=>(by cases h),rfl,tO,fun k v hv=>(by obtain⟨v',h1,h2⟩:=rX k v hv;exact⟨v',h1,h2.mono eG⟩)⟩
   · rw [r8 hn] at hj
     obtain⟨p',h1,h2⟩:=hs.Cg j o hj
     exact⟨p',by rw [sX hn];exact h1,h2.mono eG⟩
 · intro i j o o' p1 p2 hi HN
   have:=Nw i o hi
   rw [HN] at this
   cases this
 · intro i hi
   have:i≠A.next:=by simp at hi;omega
   rw [sX this]
   exact hs.rg i (by simp at hi;omega)
 · intro i hi
   have:i≠A.next:=by simp at hi;omega
   rw [r8 this]
   exact hs.EI i (by simp at hi;omega)
open Go
theorem qy:∀(l cs:List Value) (off j:Nat),off+l.length≤cs.length→(fG cs off l)[j]? = if off≤j∧j<off+l.length then l[j-off]? else cs[j]?
 | [],cs,off,j,_=>by
   simp [fG]
   omega
 | v::l,cs,off,j,h=>by
   simp only [List.length_cons] at h
   rw [fG,qy l _ (off+1) j (by simp;omega)]
   by_cases h1:off+1≤j∧j<off+1+l.length
   · rw [if_pos h1,if_pos (by simp;omega)]
     rw [show j-off=(j-(off+1))+1 by omega,List.getElem?_cons_succ]
   · rw [if_neg h1]
     by_cases h2:off=j
     · subst h2
       rw [if_pos (by simp),List.getElem?_set_self (by omega)]
       simp
     · rw [if_neg (by simp;omega),List.getElem?_set_ne h2]
theorem Bw (w:World) (b:Nat) (f:Array Value→Array Value) {iX:Array Value} {e:TypeId} {fr:Nat×Nat} (h:w.heap[b]? = some (.cells iX e fr)) :
 (Go.Sort.mapBlock w b f).heap[b]? = some (.cells (f iX) e fr):=by
 simp [Go.Sort.mapBlock,Array.getElem?_modify,h,Go.Sort.onCells]
theorem zm (w:World) (b j:Nat) (f:Array Value→Array Value) (h:j≠b):(Go.Sort.mapBlock w b f).heap[j]? = w.heap[j]?:=by
 simp [Go.Sort.mapBlock,Array.getElem?_modify,Ne.symm h]
theorem Hq {m:Mp} {A:AW} {w:World} (hs:Sim m A w) {i off:Nat} {q:Pl} {dh:List Value} {k:IntKind} (d:List Int)
 (hg:A.cy i=some (.cells dh true 1)) (hm:m i=some q) (lm:off+d.length≤dh.length) :
 jr m A w m (A.set i (some (.cells (fG dh off (d.map (Value.int k))) true 1))) (Go.Sort.putRow (Value.int k) w q.block (q.base+off) d.toArray):=by
 obtain⟨p',JJ,iX,e',fr,hw,tS,hu,tO,vU⟩:=hs.Cg _ _ hg
 rw [hm] at JJ
 injection JJ with JJ
 subst JJ
 obtain rfl:=tS rfl
 refine jr.set hs hg hm hu (by simp [Go.Sort.putRow,Go.Sort.mapBlock]) rfl rfl rfl (Bw w q.block _ hw) (by simpa [Go.Sort.putCells] using tO) (fun j hj=>zm w _ _ _ hj) ?_
 intro j v hv
 rw [qy _ _ _ _ (by simpa using lm)] at hv
 simp only [List.length_map] at hv
 by_cases hj:off≤j∧j<off+d.length
 · rw [if_pos hj,List.getElem?_map,List.getElem?_eq_getElem (by omega)] at hv
   injection hv with hv
   subst hv
   obtain⟨v0,h0,_⟩:=vU j dh[j] (List.getElem?_eq_getElem (by omega))
   refine⟨.int k d[j-off],?_,.int _ _⟩
   have dQ:=(Array.getElem?_eq_some_iff.1 h0).1
   simp only [Go.Sort.putCells,Array.getElem?_mapIdx,h0,Option.map_some,List.size_toArray]
   rw [if_pos (by omega)]
   have e1:q.base+j-(q.base+off)=j-off:=by omega
   rw [e1,getElem!_pos d.toArray (j-off) (by simp;omega)]
   simp
 · rw [if_neg hj] at hv
   obtain⟨v0,h0,h1⟩:=vU j v hv
   refine⟨v0,?_,h1⟩
   simp only [Go.Sort.putCells,Array.getElem?_mapIdx,h0,Option.map_some,List.size_toArray]
   rw [if_neg (by omega)]
theorem jr.ahead {m:Mp} {A:AW} {w:World} (h:Sim m A w) (n:Nat):jr m A w m A (Go.Sort.ahead w n):=
 ⟨Mp.le_refl m,h.Dr rfl,Nat.le_refl _,rfl,rfl,rfl,Nat.le_refl _,fun _ _ _=>rfl,fun _ h=>.inl h⟩
theorem jr.Gh {m:Mp} {A:AW} {w:World} (h:Sim m A w) (os:Array Obj):jr m A w m A (Go.Sort.grow w os):=by
 have dH:∀b,b<w.heap.size→(Go.Sort.grow w os).heap[b]? = w.heap[b]?:=fun b hb=>by
  show (w.heap++os)[b]? = _
  rw [Array.getElem?_append_left hb]
 exact⟨Mp.le_refl m,Kx.C1 dH h,Nat.le_refl _,rfl,rfl,rfl,by simp [Go.Sort.grow],fun b hb _=>dH b hb,fun _ h=>.inl h⟩
theorem Ip {P:Program} {f:FuncId} (dz:jN P f=true) {n c:Nat} {A:AW} {p:Addr} {k:IntKind} {l d:List Int} {dh:List Value} {rv:Value} {ret:Addr→Nat→Value}
 (hn:n=l.length) (h0:0<l.length) (hc:n≤c) (hg:A.cy p.block=some (.cells dh true 1)) (lm:p.off+n≤dh.length) (hl:l.map (Value.int k)=(dh.drop p.off).take n) (hd:d.length=l.length)
 (Pv:∀m a' iB,wj m p a' iB→c≤iB→cz m rv (ret a' iB))
 (LK:∀gi off dA w,Go.Sort.Holds (Value.int k) w gi off l.toArray→gi<w.heap.size→l.length≤dA→Calls P f #[.slice (some ⟨gi,off,none⟩) l.length dA] w fun e w'=>
  e=.returned (ret ⟨gi,off,none⟩ dA)∧∃n os,w'=Go.Sort.grow (Go.Sort.putRow (Value.int k) (Go.Sort.ahead w n) gi off d.toArray) os) :
 aH P f [.slice (some p) n c] A fun u A'=>u=rv∧A'=A.set p.block (some (.cells (fG dh p.off (d.map (Value.int k))) true 1)):=by
 subst hn
 refine⟨dz,fun m w jy hs IP=>?_⟩
 obtain⟨v',t',e1,hv,ht⟩:=IP.oD
 have e2:=ht.sN
 subst e2
 have ec:jy = #[v']:=by apply Array.ext';exact e1
 subst ec
 cases hv with
 | slice hh h1 h2=>
   rename_i a' iB
   have Ms:wj m p a' iB:=by
    rcases hh with hh|hh
    · exact hh
    · omega
   have T0:=Ms
   obtain⟨g1,g2,q,g3,g4,g5,g6⟩:=Ms
   obtain⟨p',JJ,iX,e',fr,hw,tS,hu,tO,vU⟩:=hs.Cg _ _ hg
   rw [g3] at JJ
   injection JJ with JJ
   subst JJ
   obtain rfl:=tS rfl
   have ea:a'=⟨q.block,q.base+p.off,none⟩:=by rw [Ao a' g2,g4,g5]
   subst ea
   have hH:Go.Sort.Holds (Value.int k) w q.block (q.base+p.off) l.toArray:=by
    intro j hj
    have i9:j<l.length:=by simpa using hj
    have eH:dh[p.off+j]? = some (.int k l[j]):=by
     have:(l.map (Value.int k))[j]? = some (.int k l[j]):=by rw [List.getElem?_map,List.getElem?_eq_getElem i9];rfl
     rw [hl,List.getElem?_take_of_lt i9,List.getElem?_drop] at this
     exact this
    obtain⟨v0,h3,h4⟩:=vU _ _ eH
    cases h4
    rw [getElem!_pos l.toArray j hj]
    simp only [World.cell?,World.frozen?,hw]
    rw [Nat.add_assoc]
    simp [h3]
   refine(LK q.block (q.base+p.off) iB w hH (Array.getElem?_eq_some_iff.1 hw).1 (by omega)).mono ?_
   rintro e w' ⟨rfl,n,os,rfl⟩
   refine⟨rv,_,m,A.set p.block (some (.cells (fG dh p.off (d.map (Value.int k))) true 1)),rfl,?_,Pv m _ iB T0 h2,rfl,rfl⟩
   have Sj:=jr.ahead hs n
   have HZ:=Hq (k:=k) Sj.C1 d hg g3 (off:=p.off) (by omega)
   exact(Sj.trans HZ).trans (jr.Gh HZ.C1 os)
theorem aH.empty {P:Program} {f:FuncId} (dz:jN P f=true) {o:Option Addr} {c:Nat} {A:AW} {rv:Value} {ret:Option Addr→Nat→Value}
 (Pv:∀m o' c',cz m (.slice o 0 c) (.slice o' 0 c')→cz m rv (ret o' c'))
 (LK:∀o' c' w,Calls P f #[.slice o' 0 c'] w fun e w'=>e=.returned (ret o' c')∧w'=w) :
 aH P f [.slice o 0 c] A fun u A'=>u=rv∧A=A':=by
 refine⟨dz,fun m w jy hs IP=>?_⟩
 obtain⟨v',t',e1,hv,ht⟩:=IP.oD
 have e2:=ht.sN
 subst e2
 have ec:jy = #[v']:=by apply Array.ext';exact e1
 subst ec
 have Mr:∃o' c',v'=.slice o' 0 c':=by
  cases hv<;>exact⟨_,_,rfl⟩
 obtain⟨o',c',rfl⟩:=Mr
 refine(LK o' c' w).mono ?_
 rintro e w' ⟨rfl,rfl⟩
 exact⟨rv,_,m,A,rfl,jr.refl hs,Pv m _ _ hv,rfl,rfl⟩
theorem dk.cL {B:Nat} {A:AW} {k:IntKind} {v:Value} {l:List Int} (h:dk B A k v l) :
 (∃o c,v=.slice o 0 c∧l=[]∧0≤c)∨∃p c dh,v=.slice (some p) l.length c∧0<l.length∧l.length≤c∧p.spot=none∧B≤p.block∧A.cy p.block=some (.cells dh true 1)∧
  p.off+l.length≤dh.length∧l.map (Value.int k)=(dh.drop p.off).take l.length:=by
 rcases h with ⟨h1,h2,h3⟩|⟨p,c,dh,h1,h2,hs,hB,h3,h4,h5⟩
 · exact .inl ⟨none,0,h1,List.eq_nil_of_length_eq_zero h2,Nat.le_refl _⟩
 · by_cases h0:l.length=0
   · rw [h0] at h1
     exact .inl ⟨some p,c,h1,List.eq_nil_of_length_eq_zero h0,Nat.zero_le _⟩
   · exact .inr ⟨p,c,dh,h1,by omega,h2,hs,hB,h3,by simpa using h4,by simpa using h5⟩
theorem y4 {B:Nat} {A:AW} {k:IntKind} {p:Addr} {c n:Nat} {dh:List Value} (d z:List Int) (hw:A.Wf) (hB:B≤p.block) (hs:p.spot=none) (hg:A.cy p.block=some (.cells dh true 1))
 (lm:p.off+(d++z).length≤dh.length) (hc:d.length≤c) (hn:n=d.length) :
 dk B (A.set p.block (some (.cells (fG dh p.off ((d++z).map (Value.int k))) true 1))) k (.slice (some p) n c) d:=by
 subst hn
 refine .inr ⟨p,c,_,rfl,hc,hs,hB,AW.fv,?_,?_⟩
 · rw [xu]
   simp at lm
   omega
 · apply List.ext_getElem?
   intro j
   by_cases hj:j<d.length
   · rw [List.getElem?_take_of_lt (by omega),List.getElem?_drop,qy _ _ _ _ (by simpa using lm),if_pos (by simp;omega)]
     rw [show p.off+j-p.off=j by omega,List.map_append,List.getElem?_append_left (by simpa using hj)]
   · rw [List.getElem?_eq_none (by simp;omega),List.getElem?_eq_none (by simp;omega)]
theorem dk.store {P:Program} {B:Nat} {A:AW} {k:IntKind} {v:Value} {l:List Int} {t:TypeId} {i:TypeInfo} (h:dk B A k v l) (hi:P.info? t=some i) (hs:i.size=1)
 {j:Nat} (hj:j<l.length):∃p c,v=.slice (some p) l.length c∧∀y,∃A',af P A t ⟨p.block,p.off+j,none⟩ (.int k y)=some A'∧dk B A' k v (l.set j y)∧
  (∀A0:AW,A0.next≤B→A0.le A→A0.le A')∧(A.Wf→A'.Wf)∧A'.next=A.next:=by
 rcases h.cL with ⟨o,c,rfl,rfl,_⟩|⟨p,c,dh,rfl,h0,hc,zB,hB,hg,lm,pO⟩
 · simp at hj
 · refine⟨p,c,rfl,fun y=>⟨A.set p.block (some (.cells (dh.set (p.off+j) (.int k y)) true 1)),?_,?_,fun A0 hA0 eG=>eG.set (by omega) _,fun hw=>hw.set _ (hw.lt hg),rfl⟩⟩
   · have h1:p.off+j+1≤dh.length:=by omega
     simp [af,hg,hi,hs,h1,Value.oneCell',fG,Value.cells]
   · refine .inr ⟨p,c,_,by simp,by simpa using hc,zB,hB,AW.fv,by simpa using lm,?_⟩
     apply List.ext_getElem?
     intro q
     have hq:=congrArg (fun x=>x[q]?) pO
     simp only [List.length_set,Nat.mul_one]
     by_cases e:j=q
     · subst e
       rw [List.getElem?_map,List.getElem?_set_self hj,List.getElem?_take_of_lt hj,List.getElem?_drop,List.getElem?_set_self (by omega)]
       rfl
     · rw [List.getElem?_map,List.getElem?_set_ne e]
       simp only [List.getElem?_map] at hq
       rw [hq,List.getElem?_take,List.getElem?_take]
       split
       · rw [List.getElem?_drop,List.getElem?_drop,List.getElem?_set_ne (by omega)]
       · rfl
open Go
def j9 (ct:Array Oper):Bool:=(List.range ct.size).all fun i=>match ct[i]? with
 | some o=>o.after.toList.all fun e=>!Region.binds .any e || Nat.ble (e.on+1) i
 | none=>true
theorem k8 {ct:Array Oper} (rf:j9 ct=true) {i:Nat} {o:Oper} (ho:ct[i]? = some o) {e:Edge} (he:e∈o.after) (hb:Region.binds .any e=true):e.on<i:=by
 have ha:=List.all_eq_true.1 rf i (List.mem_range.2 (Array.getElem?_eq_some_iff.1 ho).1)
 rw [ho] at ha
 have h2:=List.all_eq_true.1 ha e (Array.mem_toList_iff.2 he)
 rw [hb] at h2
 have h3:e.on+1≤i:=by simpa [Nat.ble_eq] using h2
 omega
def Kf (P:Program) (ct:Array Oper) (o:Oper) (a:Fr) (A:AW) (k:Fr→AW→Prop):Prop:=
 if lT ct a o=true then iC P o.op (ki a) A (fun v A'=>k (fl a o.dst v) A') else k (fl a o.dst undef) A
theorem Ca {md:Region.Mode} {ct:Array Oper} {kC:Array Bool} {i:Nat} (h:i∈Region.ready md ct kC) :
 ∃o,ct[i]? = some o∧kC.getD i true=false∧∀e∈o.after,Region.binds md e=true→kC.getD e.on false=true:=by
 simp only [Region.ready,List.mem_filter,List.mem_range,Bool.and_eq_true,Bool.not_eq_true'] at h
 obtain⟨hi,h1,h2⟩:=h
 refine⟨ct[i],Array.getElem?_eq_getElem hi,h1,fun e he hb=>?_⟩
 rw [Array.getElem?_eq_getElem hi] at h2
 simp only [Option.map_some,Option.getD_some] at h2
 have:=Array.all_eq_true_iff_forall_mem.1 h2 e he
 simpa [hb] using this
theorem tY {ct:Array Oper} (rf:j9 ct=true) {kC:Array Bool} (rq:kC.size=ct.size) (hr:Region.ready .any ct kC=[]) :
 ∀n i,i<n→i<ct.size→kC.getD i false=true
 | 0,i,h,_=>by omega
 | n+1,i,h,hi=>by
   by_cases tm:i<n
   · exact tY rf rq hr n i tm hi
   · by_cases hl:kC.getD i false=true
     · exact hl
     · exfalso
       have PL:i<kC.size:=by omega
       have JI:i∈Region.ready .any ct kC:=by
        simp only [Region.ready,List.mem_filter,List.mem_range,Bool.and_eq_true,Bool.not_eq_true']
        refine⟨hi,?_,?_⟩
        · rw [Array.getD_eq_getD_getElem?,Array.getElem?_eq_getElem PL] at hl ⊢
          simpa using hl
        · rw [Array.getElem?_eq_getElem hi]
          simp only [Option.map_some,Option.getD_some]
          refine Array.all_eq_true_iff_forall_mem.2 fun e he=>?_
          cases hb:Region.binds .any e with
          | false=>simp
          | true=>
            have dQ:=k8 rf (Array.getElem?_eq_getElem hi) he hb
            have:=tY rf rq hr n e.on (by omega) (by omega)
            simp [this]
       rw [hr] at JI
       cases JI
theorem I3 {P:Program} {n:Nat} {Q:Exit→Fr→AW→Prop} {a:Fr} {A:AW} {id:Nat} {ct:Array Oper} (hm:P.follows .mixedOrders=true) (rf:j9 ct=true)
 (J:(Nat→Bool)→Fr→AW→Prop) (h0:J (fun _=>false) a A)
 (uR:∀S a A i o,A.Wf→J S a A→ct[i]? = some o→S i=false→(∀e∈o.after,Region.binds .any e=true→S e.on=true)→Kf P ct o a A (J fun j=>if j=i then true else S j))
 (xy:∀S a A,A.Wf→J S a A→(∀i,i<ct.size→S i=true)→Q .normal a A):fj P n (.region id ct true) Q a A:=by
 intro iK m w ca hs hf
 have zE:ct.all (ot n)=true:=iK
 refine wp_region_any hm ?_
 have key:∀(fuel:Nat) (kC:Array Bool) (S:Nat→Bool) (a':Fr) (A':AW) (m':Mp) (w':World) (vA:Act),kC.size=ct.size→(∀i,i<ct.size→kC.getD i false=S i)→
  (List.range ct.size).countP (fun i=>!S i)≤fuel→J S a' A'→jr m A w m' A' w'→pK m' n a' vA→
  wpAny P .any ct (fun e vA w'=>∃m' a' A',jr m A w m' A' w'∧pK m' n a' vA∧Q e a' A') fuel kC vA w':=by
  intro fuel
  induction fuel with
  | zero=>
    intro kC S a' A' m' w' vA rq hS R1 hJ NF tS
    have kE:∀i,i<ct.size→S i=true:=by
     intro i hi
     have:=List.countP_eq_zero.1 (Nat.le_zero.1 R1) i (List.mem_range.2 hi)
     simpa using this
    refine⟨?_,m',a',A',NF,tS,xy S a' A' NF.C1.EI hJ kE⟩
    rw [List.eq_nil_iff_forall_not_mem]
    intro i hi
    obtain⟨o,ho,hl,_⟩:=Ca hi
    have xx:=(Array.getElem?_eq_some_iff.1 ho).1
    have:=hS i xx
    rw [kE i xx] at this
    rw [Array.getD_eq_getD_getElem?,Array.getElem?_eq_getElem (by omega)] at this hl
    simp only [Option.getD_some] at this hl
    rw [this] at hl
    cases hl
  | succ fuel ih=>
    intro kC S a' A' m' w' vA rq hS R1 hJ NF tS
    refine⟨fun hr=>⟨m',a',A',NF,tS,xy S a' A' NF.C1.EI hJ fun i hi=>?_⟩,fun i hi=>?_⟩
    · rw [←hS i hi]
      exact tY rf rq hr (i+1) i (by omega) hi
    · obtain⟨o,ho,hl,iY⟩:=Ca hi
      have xx:=(Array.getElem?_eq_some_iff.1 ho).1
      have po:S i=false:=by
       rw [←hS i xx]
       rw [Array.getD_eq_getD_getElem?,Array.getElem?_eq_getElem (by omega)] at hl ⊢
       simpa using hl
      have RU:∀e∈o.after,Region.binds .any e=true→S e.on=true:=by
       intro e he hb
       have h1:=iY e he hb
       have dQ:=k8 rf ho he hb
       rw [←hS e.on (by omega)]
       exact h1
      have dn:=uR S a' A' i o NF.C1.EI hJ ho po RU
      have Uc:=Array.all_eq_true_iff_forall_mem.1 zE o (Array.mem_of_getElem? ho)
      have OK:(List.range ct.size).countP (fun j=>!(if j=i then true else S j))≤fuel:=by
       have e1:(List.range ct.size).countP (fun j=>!(if j=i then true else S j))+1≤(List.range ct.size).countP (fun j=>!S j):=by
        have JI:i∈List.range ct.size:=List.mem_range.2 xx
        have TK:∀l:List Nat,i∈l→l.countP (fun j=>!(if j=i then true else S j))+1≤l.countP (fun j=>!S j):=by
         intro l
         have mono:∀l:List Nat,l.countP (fun j=>!(if j=i then true else S j))≤l.countP (fun j=>!S j):=fun l=>by
          refine List.countP_mono_left fun x _ hx=>?_
          by_cases e:x=i
          · simp [e] at hx
          · simpa [e] using hx
         induction l with
         | nil=>intro h;cases h
         | cons x l ihl=>
           intro hx
           rw [List.countP_cons,List.countP_cons]
           by_cases e:x=i
           · subst e
             have:=mono l
             simp [po]
             simpa using this
           · have Pm:i∈l:=by
              rcases List.mem_cons.1 hx with h|h
              · exact absurd h.symm e
              · exact h
             have:=ihl Pm
             simp only [e,if_false]
             omega
        exact TK _ JI
       omega
      have oG:∀j,j<ct.size→(kC.setIfInBounds i true).getD j false=if j=i then true else S j:=by
       intro j hj
       by_cases e:j=i
       · subst e
         rw [if_pos rfl,Array.getD_eq_getD_getElem?,Array.getElem?_setIfInBounds_self_of_lt (by omega)]
         rfl
       · rw [if_neg e,←hS j hj,Array.getD_eq_getD_getElem?,Array.getD_eq_getD_getElem?,Array.getElem?_setIfInBounds_ne (by omega)]
      unfold Kf at dn
      unfold wpOp
      rw [ho]
      simp only
      rw [Cq tS zE o]
      split at dn
      · rename_i hg
        rw [if_pos hg]
        refine .inl (wu NF.C1 tS Uc dn ?_)
        intro v A2 m2 w2 Sp hk HZ Kr
        exact ih _ _ _ A2 m2 w2 Sp (by simpa using rq) oG OK hk (NF.trans HZ) Kr
      · rename_i hg
        rw [if_neg hg]
        simp only [ot,Bool.and_eq_true] at Uc
        have hd:∀j,o.dst=some j→j<n:=fun j e=>by have:=Uc.2;rw [e] at this;simpa using this
        exact ih _ _ _ A' m' w' _ (by simpa using rq) oG OK dn NF (tS.put hd (cz.undef m'))
 refine key ct.size _ (fun _=>false) a A m { w with drawn:=w.drawn+1 } ca (by simp) (fun i hi=>by simp [Array.getD_eq_getD_getElem?,hi]) ?_ h0 (jr.drew hs) hf
 exact Nat.le_trans (List.countP_le_length) (by simp)
open Go
abbrev Hp:=Nat→Option ef
def Hp.dj (h k:Hp):Prop:=∀i,h i=none∨k i=none
def Hp.un (h k:Hp):Hp:=fun i=>match h i with|some o=>some o|none=>k i
theorem Hp.I0 {h k:Hp} (d:Hp.dj h k):Hp.dj k h:=fun i=>(d i).symm
theorem Hp.Ij {h k:Hp} (d:Hp.dj h k):Hp.un h k=Hp.un k h:=by
 funext i
 simp only [Hp.un]
 rcases d i with e|e
 · rw [e];cases k i<;>rfl
 · rw [e];cases h i<;>rfl
theorem Hp.EX (h k l:Hp):Hp.un (Hp.un h k) l=Hp.un h (Hp.un k l):=by
 funext i
 simp only [Hp.un]
 cases h i<;>rfl
theorem Hp.sz {h k:Hp} {i:Nat}:Hp.un h k i=none↔h i=none∧k i=none:=by
 simp only [Hp.un]
 cases h i<;>simp
structure HP where
 holds:Hp→Prop
@[ext] theorem HP.ext' {P Q:HP} (h:∀x,P.holds x↔Q.holds x):P=Q:=by
 obtain⟨p⟩:=P
 obtain⟨q⟩:=Q
 congr
 funext x
 exact propext (h x)
def HP.O1 (P Q:HP):HP:=⟨fun h=>∃h1 h2,Hp.dj h1 h2∧h=Hp.un h1 h2∧P.holds h1∧Q.holds h2⟩
instance:Mul HP:=⟨HP.O1⟩
theorem tC {P Q:HP} {h:Hp}:(P*Q).holds h↔∃h1 h2,Hp.dj h1 h2∧h=Hp.un h1 h2∧P.holds h1∧Q.holds h2:=Iff.rfl
theorem HP.mul_comm (P Q:HP):P*Q=Q*P:=by
 ext h
 simp only [tC]
 constructor
 · rintro ⟨a,b,d,rfl,p,q⟩;exact⟨b,a,Hp.I0 d,Hp.Ij d,q,p⟩
 · rintro ⟨a,b,d,rfl,p,q⟩;exact⟨b,a,Hp.I0 d,Hp.Ij d,q,p⟩
theorem HP.cq (P Q R:HP):P*Q*R=P*(Q*R):=by
 ext h
 simp only [tC]
 constructor
 · rintro ⟨_,c,d,rfl,⟨a,b,d1,rfl,p,q⟩,r⟩
   refine⟨a,Hp.un b c,fun i=>?_,Hp.EX _ _ _,p,b,c,fun i=>?_,rfl,q,r⟩
   · rcases d i with e|e
     · exact .inl (Hp.sz.1 e).1
     · rcases d1 i with e1|e1
       · exact .inl e1
       · exact .inr (Hp.sz.2 ⟨e1,e⟩)
   · rcases d i with e|e
     · exact .inl (Hp.sz.1 e).2
     · exact .inr e
 · rintro ⟨a,_,d,rfl,p,b,c,d1,rfl,q,r⟩
   refine⟨Hp.un a b,c,fun i=>?_,(Hp.EX _ _ _).symm,⟨a,b,fun i=>?_,rfl,p,q⟩,r⟩
   · rcases d1 i with e|e
     · rcases d i with e1|e1
       · exact .inl (Hp.sz.2 ⟨e1,e⟩)
       · exact .inr (Hp.sz.1 e1).2
     · exact .inr e
   · rcases d i with e1|e1
     · exact .inl e1
     · exact .inr (Hp.sz.1 e1).1
instance:Std.Associative (α:=HP) (·* ·):=⟨HP.cq⟩
instance:Std.Commutative (α:=HP) (·* ·):=⟨HP.mul_comm⟩
def fa:HP:=⟨fun h=>h=fun _=>none⟩
def rc (p:Prop):HP:=⟨fun h=>p∧h=fun _=>none⟩
def rt {α:Type} (P:α→HP):HP:=⟨fun h=>∃x,(P x).holds h⟩
def pt (i:Nat) (o:ef):HP:=⟨fun h=>h=fun j=>if j=i then some o else none⟩
def LJ (h0:Hp):HP:=⟨fun h=>h=h0⟩
theorem IM {p:Prop} {P:HP} {h:Hp}:(rc p*P).holds h↔p∧P.holds h:=by
 simp only [tC]
 constructor
 · rintro ⟨a,b,d,rfl,⟨hp,rfl⟩,q⟩;exact⟨hp,q⟩
 · rintro ⟨hp,q⟩;exact⟨_,h,fun _=>.inl rfl,rfl,⟨hp,rfl⟩,q⟩
theorem NE {α:Type} {P:α→HP} {Q:HP}:rt P*Q=rt fun x=>P x*Q:=by
 ext h
 constructor
 · rintro ⟨a,b,d,rfl,⟨x,p⟩,q⟩;exact⟨x,a,b,d,rfl,p,q⟩
 · rintro ⟨x,a,b,d,rfl,p,q⟩;exact⟨a,b,d,rfl,⟨x,p⟩,q⟩
theorem iS (P:HP):fa*P=P:=by
 ext h
 constructor
 · rintro ⟨a,b,d,rfl,rfl,q⟩;exact q
 · intro q;exact⟨_,h,fun _=>.inl rfl,rfl,rfl,q⟩
theorem dx (P:HP):P*fa=P:=by rw [HP.mul_comm,iS]
def bK (A:AW) (P:HP):Prop:=∃h,P.holds h∧∀i o,h i=some o→A.cy i=some o
def Kc (P Q:HP):Prop:=∀h,P.holds h→Q.holds h
theorem Kc.refl (P:HP):Kc P P:=fun _ h=>h
theorem Kc.O1 {P P' Q Q':HP} (h:Kc P P') (k:Kc Q Q'):Kc (P*Q) (P'*Q'):=fun _ ⟨a,b,d,e,p,q⟩=>⟨a,b,d,e,h a p,k b q⟩
theorem Kc.left {P P':HP} (Q:HP) (h:Kc P P'):Kc (P*Q) (P'*Q):=Kc.O1 h (Kc.refl Q)
theorem bK.br {A:AW} {P Q:HP} (h:bK A P) (e:Kc P Q):bK A Q:=⟨h.choose,e _ h.choose_spec.1,h.choose_spec.2⟩
theorem bK.UX {A:AW} {P Q F:HP} (h:bK A (P*F)) (e:Kc P Q):bK A (Q*F):=h.br (e.left F)
theorem bK.dp {A:AW} {P Q:HP} (h:bK A P) (e:P=Q):bK A Q:=e▸h
theorem bK.right {A:AW} {P Q:HP} (h:bK A (P*Q)):bK A Q:=by
 obtain⟨_,⟨a,b,d,rfl,p,q⟩,hs⟩:=h
 refine⟨b,q,fun i o hi=>hs i o ?_⟩
 simp only [Hp.un]
 rcases d i with e|e
 · rw [e];exact hi
 · rw [e] at hi;cases hi
theorem bK.left {A:AW} {P Q:HP} (h:bK A (P*Q)):bK A P:=(h.dp (HP.mul_comm P Q)).right
theorem bK.YC (A:AW):bK A fa:=⟨_,rfl,fun i o h=>by cases h⟩
theorem bK.ex {α:Type} {A:AW} {P:α→HP} {F:HP}:bK A (rt P*F)↔∃x,bK A (P x*F):=by
 rw [NE]
 constructor
 · rintro ⟨h,⟨x,p⟩,hs⟩;exact⟨x,h,p,hs⟩
 · rintro ⟨x,h,p,hs⟩;exact⟨h,⟨x,p⟩,hs⟩
theorem bK.pr {A:AW} {p:Prop} {F:HP}:bK A (rc p*F)↔p∧bK A F:=by
 constructor
 · rintro ⟨h,hh,hs⟩;rw [IM] at hh;exact⟨hh.1,h,hh.2,hs⟩
 · rintro ⟨hp,h,hh,hs⟩;exact⟨h,IM.2 ⟨hp,hh⟩,hs⟩
theorem bK.Fv {A A':AW} {P:HP} (h:bK A P) (e:∀i o,A.cy i=some o→A'.cy i=some o):bK A' P:=
 ⟨h.choose,h.choose_spec.1,fun i o hi=>e i o (h.choose_spec.2 i o hi)⟩
theorem bK.le {A A':AW} {P:HP} (h:bK A P) (hw:A.Wf) (hl:A.le A'):bK A' P:=h.Fv fun i o hi=>hl.iU hw hi
theorem bK.cy {A:AW} {i:Nat} {o:ef} {F:HP} (h:bK A (pt i o*F)):A.cy i=some o:=by
 obtain⟨_,⟨a,b,d,rfl,rfl,q⟩,hs⟩:=h
 exact hs i o (by simp [Hp.un])
theorem bK.ne {A:AW} {i j:Nat} {o o':ef} {F:HP} (h:bK A (pt i o*(pt j o'*F))):i≠j:=by
 obtain⟨_,⟨a,_,d,rfl,rfl,b,c,d1,rfl,rfl,q⟩,hs⟩:=h
 rintro rfl
 rcases d i with e|e
 · simp at e
 · simp [Hp.un] at e
theorem bK.tX {A A':AW} {i:Nat} {o:ef} {F:HP} (h:bK A (pt i o*F)) (e:∀j o',j≠i→A.cy j=some o'→A'.cy j=some o'):bK A' F:=by
 obtain⟨_,⟨a,b,d,rfl,rfl,q⟩,hs⟩:=h
 refine⟨b,q,fun j o' hj=>?_⟩
 have jW:j≠i:=by
  rintro rfl
  rcases d j with e|e
  · simp at e
  · rw [e] at hj;cases hj
 refine e j o' jW (hs j o' ?_)
 simp [Hp.un,jW,hj]
theorem bK.cons {A:AW} {i:Nat} {o:ef} {F:HP} (hg:A.cy i=some o) (h:bK (A.set i none) F):bK A (pt i o*F):=by
 obtain⟨b,q,hs⟩:=h
 have hb:b i=none:=by
  cases P3:b i with
  | none=>rfl
  | some x=>have:=hs i x P3;simp at this
 refine⟨_,⟨_,b,fun j=>?_,rfl,rfl,q⟩,fun j o' hj=>?_⟩
 · by_cases e:j=i
   · subst e;exact .inr hb
   · exact .inl (by simp [e])
 · by_cases e:j=i
   · subst e;simp [Hp.un] at hj;rw [hg,hj]
   · simp [Hp.un,e] at hj
     have:=hs j o' hj
     rwa [AW.cX e] at this
theorem bK.set {A:AW} {i:Nat} {o:ef} {F:HP} (h:bK A (pt i o*F)) (o':ef):bK (A.set i (some o')) (pt i o'*F):=by
 refine bK.cons AW.fv (h.tX fun j x hj hx=>?_)
 rw [AW.cX hj,AW.cX hj]
 exact hx
theorem bK.HG {A:AW} {i:Nat} {o:ef} {F:HP} (h:bK A (pt i o*F)):bK (A.set i none) F:=
 h.tX fun j x hj hx=>by rw [AW.cX hj];exact hx
theorem bK.alloc {A:AW} {F:HP} (h:bK A F) (hw:A.Wf) (o:ef):bK (A.alloc o) (pt A.next o*F):=by
 refine bK.cons (AW.gO A o) (h.Fv fun j x hx=>?_)
 have:=hw.lt hx
 rw [AW.cX (by omega),AW.jS _ _ (by omega)]
 exact hx
theorem bK.iU {A:AW} {F:HP} (h:bK A F) (hw:A.Wf) (o:ef):bK (A.alloc o) F:=(h.alloc hw o).right
theorem bK.Om {A:AW} {i j:Nat} {o o':ef} {P F:HP} (h:bK A (pt i o*(P*(pt j o'*F)))):i≠j:=
 bK.ne (h.dp (by ac_rfl:pt i o*(P*(pt j o'*F))=pt i o*(pt j o'*(P*F))))
theorem AW.fZ (A:AW) (o:ef) (i:Nat):(A.alloc o).cy i=if i=A.next then some o else A.cy i:=rfl
theorem AW.dW (A:AW) (o:Option ef) (i j:Nat):(A.set i o).cy j=if j=i then o else A.cy j:=rfl
theorem AW.aa (A:AW) (i:Nat):A.dh i=match A.cy i with|some (.cells cs _ _)=>some cs|_=>none:=rfl
theorem AW.Wf.dH {A:AW} (hw:A.Wf) {i:Nat} {o:ef} (hg:A.cy i=some o):(i=A.next)=False∧∀k,(i=A.next+k)=False:=by
 have:=hw.lt hg
 exact⟨eq_false (by omega),fun k=>eq_false (by omega)⟩
theorem bK.post {A:AW} {p:Prop} {Q F:HP} (hp:p) (h:bK A (Q*F)):bK A (rc p*Q*F):=by
 rw [HP.cq,bK.pr];exact⟨hp,h⟩
theorem bK.jT {A:AW} {p:Prop} {Q F:HP} (h:bK A (rc p*Q*F)):p∧bK A (Q*F):=by
 rw [HP.cq,bK.pr] at h;exact h
theorem bK.MQ {A A':AW} {b:Nat} {o o':ef} {F:HP} (h:bK A (pt b o*F)) (h1:A'.cy b=some o') (hk:∀j x,j≠b→A.cy j=some x→A'.cy j=some x):bK A' (pt b o'*F):=
 bK.cons h1 (h.tX fun j x hj hx=>by rw [AW.cX hj];exact hk j x hj hx)
theorem bK.Tj {A A':AW} {b c:Nat} {o o' p p':ef} {F:HP} (h:bK A (pt b o*(pt c p*F))) (h1:A'.cy b=some o') (h2:A'.cy c=some p')
 (hk:∀j x,j≠b→j≠c→A.cy j=some x→A'.cy j=some x):bK A' (pt b o'*(pt c p'*F)):=by
 have QI:=h.ne
 have e1:bK (A'.set b (some o)) (pt b o*(pt c p'*F)):=by
  have h':bK A (pt c p*(pt b o*F)):=h.dp (by ac_rfl)
  refine(bK.MQ h' (by rw [AW.cX (Ne.symm QI)];exact h2) fun j x hj hx=>?_).dp (by ac_rfl)
  by_cases e:j=b
  · subst e;rw [AW.fv];rw [h.cy] at hx;exact hx
  · rw [AW.cX e];exact hk j x e hj hx
 exact bK.MQ e1 h1 fun j x hj hx=>by rwa [AW.cX hj] at hx
theorem bK.QY {A A':AW} {b c d:Nat} {o o' p p' q q':ef} {F:HP} (h:bK A (pt b o*(pt c p*(pt d q*F)))) (h1:A'.cy b=some o') (h2:A'.cy c=some p') (h3:A'.cy d=some q')
 (hk:∀j x,j≠b→j≠c→j≠d→A.cy j=some x→A'.cy j=some x):bK A' (pt b o'*(pt c p'*(pt d q'*F))):=by
 have QI:=h.ne
 have V6:=h.Om
 have e1:bK (A'.set b (some o)) (pt b o*(pt c p'*(pt d q'*F))):=by
  have h':bK A (pt c p*(pt d q*(pt b o*F))):=h.dp (by ac_rfl)
  refine(bK.Tj h' (by rw [AW.cX (Ne.symm QI)];exact h2) (by rw [AW.cX (Ne.symm V6)];exact h3) fun j x hj Gc hx=>?_).dp (by ac_rfl)
  by_cases e:j=b
  · subst e;rw [AW.fv];rw [h.cy] at hx;exact hx
  · rw [AW.cX e];exact hk j x e hj Gc hx
 exact bK.MQ e1 h1 fun j x hj hx=>by rwa [AW.cX hj] at hx
theorem bK.Gp {A A':AW} {b c:Nat} {o o' p:ef} {F:HP} (h:bK A (pt b o*(pt c p*F))) (h1:A'.cy b=some o') (hk:∀j x,j≠b→j≠c→A.cy j=some x→A'.cy j=some x):bK A' (pt b o'*F):=by
 have QI:=h.ne
 have h':bK A (pt c p*(pt b o*F)):=h.dp (by ac_rfl)
 have e1:bK (A'.set b (some o)) (pt b o*F):=h'.tX fun j x hj hx=>by
  by_cases e:j=b
  · subst e;rw [AW.fv];rw [h.cy] at hx;exact hx
  · rw [AW.cX e];exact hk j x e hj hx
 exact bK.MQ e1 h1 fun j x hj hx=>by rwa [AW.cX hj] at hx
theorem bK.Ct {A A':AW} {b c d:Nat} {o o' p q:ef} {F:HP} (h:bK A (pt b o*(pt c p*(pt d q*F)))) (h1:A'.cy b=some o') (hk:∀j x,j≠b→j≠c→j≠d→A.cy j=some x→A'.cy j=some x):bK A' (pt b o'*F):=by
 have QI:=h.ne
 have V6:=h.Om
 have OL:=h.right.ne
 have e1:bK (A'.set c (some p)) (pt b o'*(pt c p*F)):=by
  refine(bK.Gp (b:=b) (c:=d) (o:=o) (p:=q) (F:=pt c p*F) (h.dp (by ac_rfl)) (by rw [AW.cX QI];exact h1) fun j x hj Gc hx=>?_)
  by_cases e:j=c
  · subst e;rw [AW.fv];rw [h.right.cy] at hx;exact hx
  · rw [AW.cX e];exact hk j x hj e Gc hx
 have e2:bK (A'.set c (some p)) (pt c p*(pt b o'*F)):=e1.dp (by ac_rfl)
 exact e2.tX fun j x hj hx=>by rwa [AW.cX hj] at hx
theorem bK.Sf {A A':AW} {c d:Nat} {p q:ef} {F:HP} (h:bK A (pt c p*(pt d q*F))) (hk:∀j x,j≠c→j≠d→A.cy j=some x→A'.cy j=some x):bK A' F:=by
 have OL:=h.ne
 have h':bK A (pt d q*(pt c p*F)):=h.dp (by ac_rfl)
 have e1:bK (A'.set c (some p)) (pt c p*F):=h'.tX fun j x hj hx=>by
  by_cases e:j=c
  · subst e;rw [AW.fv];rw [h.cy] at hx;exact hx
  · rw [AW.cX e];exact hk j x e hj hx
 exact e1.tX fun j x hj hx=>by rwa [AW.cX hj] at hx
theorem I2 {P:Program} {n:Nat} {c:Code} {Q:Exit→Fr→AW→Prop} {a:Fr} {A:AW} (J:AW→Prop) (hJ:J A) (h:∀A',J A'→fj P n c Q a A'):fj P n c Q a A:=h A hJ
def bB (P:Program) (n:Nat) (c:Code) (Q:Exit→Fr→AW→Prop):Nat→Fr→AW→Prop
 | 0,_,_=>False
 | k+1,a,A=>fj P n c (sx (bB P n c Q k) Q) a A
theorem bZ {P:Program} {n:Nat} {c:Code} {Q:Exit→Fr→AW→Prop} {a:Fr} {A:AW} (k:Nat) (h:bB P n c Q k a A):fj P n (.loop c) Q a A:=by
 refine ed (bB P n c Q) k h ?_
 intro k a A h
 cases k with
 | zero=>exact h.elim
 | succ k=>exact Gx h fun e a A hh=>by cases e<;>first|exact⟨k,Nat.lt_succ_self k,hh⟩|exact hh
def ka (P:Program) (f:FuncId) (args:List Value) (pd:HP) (post:Value→HP):Prop:=
 ∀(A:AW) (F:HP),A.Wf→bK A (pd*F)→aH P f args A fun v A'=>bK A' (post v*F)
theorem ka.use {P:Program} {f:FuncId} {args:List Value} {pd:HP} {post:Value→HP} (h:ka P f args pd post) {A:AW} {G F:HP} (hw:A.Wf) (hs:bK A G) (e:G=pd*F) {k:Value→AW→Prop}
 (hk:∀v A',bK A' (post v*F)→A'.Wf→A.next≤A'.next→k v A'):aH P f args A k:=
 bD (h A F hw (hs.dp e)) hk
open Go
def eg (n:Nat) (v:Value):Prop:=∀(m m':Mp) (x:Value),cz m v x→(∀i,i<n→m' i=m i)→cz m' v x
theorem eg.mj {n:Nat} {v:Value} (h:gf v=true):eg n v:=fun m m' x hx _=>by
 have:=hx.DT h
 subst this
 exact .mj h m'
theorem eg.uv {n:Nat}:eg n (.pointer none):=fun m m' x hx _=>by cases hx;constructor
theorem eg.lc {n a b:Nat}:eg n (.slice none a b):=fun m m' x hx _=>by cases hx;constructor
theorem eg.uO {n:Nat}:eg n (.map none):=fun m m' x hx _=>by cases hx;constructor
theorem eg.nilFunc {n:Nat}:eg n .nilFunc:=fun m m' x hx _=>by cases hx;constructor
theorem eg.nilIface {n:Nat}:eg n .nilIface:=fun m m' x hx _=>by cases hx;constructor
theorem eg.Dl {n:Nat} {a:Addr} (h:a.block<n):eg n (.pointer (some a)):=fun m m' x hx e=>by
 cases hx with
 | Dl h'=>
   obtain⟨h1,h2,p,h3,h4⟩:=h'
   exact .Dl ⟨h1,h2,p,by rw [e _ h];exact h3,h4⟩
theorem eg.map {n r:Nat} (h:r<n):eg n (.map (some r)):=fun m m' x hx e=>by
 cases hx with
 | map h'=>
   obtain⟨p,h3,h4⟩:=h'
   exact .map ⟨p,by rw [e _ h];exact h3,h4⟩
theorem eg.slice {n a b:Nat} {p:Addr} (h:p.block<n):eg n (.slice (some p) a b):=fun m m' x hx e=>by
 cases hx with
 | slice h' g1 g2=>
   refine .slice ?_ g1 g2
   rcases h' with ⟨h1,h2,q,h3,h4⟩|⟨h1,h2,h3⟩
   · exact .inl ⟨h1,h2,q,by rw [e _ h];exact h3,h4⟩
   · exact .inr ⟨h1,h2,h3.imp id fun k=>by rw [e _ h];exact k⟩
theorem eg.iface {n:Nat} {t:TypeId} {v:Value} (h:eg n v):eg n (.iface t v):=fun m m' x hx e=>by
 cases hx with
 | iface _ h'=>exact .iface t (h m m' _ h' e)
theorem eg.agg {n:Nat} {vs:Array Value} (h:∀v∈vs.toList,eg n v):eg n (.agg vs):=fun m m' x hx e=>by
 cases hx with
 | agg h1 h2=>exact .agg h1 fun i v v' e1 e2=>h v (Array.mem_toList_iff.2 (Array.mem_of_getElem? e1)) m m' v' (h2 i v v' e1 e2) e
theorem eg.tuple {n:Nat} {vs:Array Value} (h:∀v∈vs.toList,eg n v):eg n (.tuple vs):=fun m m' x hx e=>by
 cases hx with
 | tuple h1 h2=>exact .tuple h1 fun i v v' e1 e2=>h v (Array.mem_toList_iff.2 (Array.mem_of_getElem? e1)) m m' v' (h2 i v v' e1 e2) e
theorem eg.func {n:Nat} {fn:Fn} {xs ys:Array Value} (h:∀v∈xs.toList,eg n v) (k:∀v∈ys.toList,eg n v):eg n (.func fn xs ys):=fun m m' x hx e=>by
 cases hx with
 | func _ h1 h2 h3 h4=>
   exact .func fn h1 h2 (fun i v v' e1 e2=>h v (Array.mem_toList_iff.2 (Array.mem_of_getElem? e1)) m m' v' (h3 i v v' e1 e2) e)
    (fun i v v' e1 e2=>k v (Array.mem_toList_iff.2 (Array.mem_of_getElem? e1)) m m' v' (h4 i v v' e1 e2) e)
@[simp] theorem eg.int {n:Nat} {k:IntKind} {x:Int}:eg n (.int k x):=fun m m' x hx _=>by cases hx;constructor
@[simp] theorem eg.bool {n:Nat} {x:Bool}:eg n (.bool x):=fun m m' x hx _=>by cases hx;constructor
@[simp] theorem eg.string {n:Nat} {x:ByteArray}:eg n (.string x):=fun m m' x hx _=>by cases hx;constructor
attribute [simp] eg.uv eg.lc eg.uO eg.nilFunc eg.nilIface
theorem nR.yT {m m':Mp} {a a':Addr} (h:nR m a a') (e:∀p,m a.block=some p→m' a.block=some p):nR m' a a':=by
 obtain⟨h1,h2,p,h3,h4⟩:=h
 exact⟨h1,h2,p,e p h3,h4⟩
theorem wj.yT {m m':Mp} {a a':Addr} {c:Nat} (h:wj m a a' c) (e:∀p,m a.block=some p→m' a.block=some p):wj m' a a' c:=by
 obtain⟨h1,h2,p,h3,h4⟩:=h
 exact⟨h1,h2,p,e p h3,h4⟩
theorem cz.GY {m m1 m2:Mp} (QJ:∀i,m i≠none→m2 i=m1 i) {v x:Value} (h:cz m v x):∀y,cz m1 v y→cz m2 v y:=by
 have CZ:∀{i:Nat} {p:Pl},m i=some p→m2 i=m1 i:=fun h=>QJ _ (by rw [h];exact Option.some_ne_none _)
 induction h with
 | bool b=>intro y hy;cases hy;constructor
 | int k n=>intro y hy;cases hy;constructor
 | float k n=>intro y hy;cases hy;constructor
 | complex k x y=>intro y hy;cases hy;constructor
 | string s=>intro y hy;cases hy;constructor
 | uv=>intro y hy;cases hy;constructor
 | Dl h=>
   intro y hy
   obtain⟨_,_,p,hp,_⟩:=h
   cases hy with
   | Dl h'=>exact .Dl (h'.yT fun q hq=>by rw [CZ hp];exact hq)
 | lc=>intro y hy;cases hy;constructor
 | slice h h1 h2=>
   intro y hy
   cases hy with
   | slice h' OM h2'=>
     rename_i a _ _ _ _ _ _
     have key:m2 a.block=m1 a.block∨a.spot.isSome=true:=by
      rcases h with ⟨F4,_,p,hp,_⟩|⟨hl,_,zB|hb⟩
      · exact .inl (CZ hp)
      · exact .inr zB
      · exact .inl (QJ _ hb)
     rcases key with hb|zB
     · refine .slice ?_ OM h2'
       rcases h' with s|⟨e1,e2,e3⟩
       · exact .inl (s.yT fun q hq=>by rw [hb];exact hq)
       · exact .inr ⟨e1,e2,e3.imp id fun e=>by rw [hb];exact e⟩
     · refine .slice ?_ OM h2'
       rcases h' with s|⟨e1,e2,e3⟩
       · have:=s.1
         rw [this] at zB
         cases zB
       · exact .inr ⟨e1,e2,.inl zB⟩
 | uO=>intro y hy;cases hy;constructor
 | map h=>
   intro y hy
   obtain⟨p,hp,_⟩:=h
   cases hy with
   | map h'=>
     obtain⟨q,hq,e⟩:=h'
     exact .map ⟨q,by rw [CZ hp];exact hq,e⟩
 | Ab=>intro y hy;cases hy;constructor
 | func fn hx hy h1 h2 ih1 ih2=>
   intro y Ro
   rename_i x x' z z'
   cases Ro with
   | func _ kx ky g1 g2=>
     refine .func fn kx ky (fun i v v' e1 e2=>?_) (fun i v v' e1 e2=>?_)
     · have dQ:i<x'.size:=by rw [←hx];exact(Array.getElem?_eq_some_iff.1 e1).1
       exact ih1 i v _ e1 (Array.getElem?_eq_getElem dQ) v' (g1 i v v' e1 e2)
     · have dQ:i<z'.size:=by rw [←hy];exact(Array.getElem?_eq_some_iff.1 e1).1
       exact ih2 i v _ e1 (Array.getElem?_eq_getElem dQ) v' (g2 i v v' e1 e2)
 | nilFunc=>intro y hy;cases hy;constructor
 | iface t _ ih=>intro y hy;cases hy with|iface _ h'=>exact .iface t (ih _ h')
 | nilIface=>intro y hy;cases hy;constructor
 | agg hx _ ih=>
   intro y Ro
   rename_i x x' _
   cases Ro with
   | agg kx g1=>
     refine .agg kx (fun i v v' e1 e2=>?_)
     have dQ:i<x'.size:=by rw [←hx];exact(Array.getElem?_eq_some_iff.1 e1).1
     exact ih i v _ e1 (Array.getElem?_eq_getElem dQ) v' (g1 i v v' e1 e2)
 | tuple hx _ ih=>
   intro y Ro
   rename_i x x' _
   cases Ro with
   | tuple kx g1=>
     refine .tuple kx (fun i v v' e1 e2=>?_)
     have dQ:i<x'.size:=by rw [←hx];exact(Array.getElem?_eq_some_iff.1 e1).1
     exact ih i v _ e1 (Array.getElem?_eq_getElem dQ) v' (g1 i v v' e1 e2)
def Qm (n:Nat):ef→Prop
 | .cells cs _ _=>∀c∈cs,eg n c
 | .map es _=>∀e∈es,eg n e.1∧eg n e.2
theorem aH.gc {P:Program} {f:FuncId} {args:List Value} {A X:AW} {V:Value} (hX:X.next=A.next) (hV:eg A.next V)
 (hO:∀i o,X.cy i=some o→i<A.next∧(A.cy i=some o∨Qm A.next o))
 (h:aH P f args A fun v A'=>v=V∧∀i o,X.cy i=some o→A'.cy i=some o):aH P f args A fun v A'=>v=V∧X=A':=by
 refine⟨h.1,fun m w jy hs hl=>(h.2 m w jy hs hl).mono ?_⟩
 rintro e w' ⟨v,v',m',A',rfl,ev,hv,rfl,hg⟩
 let m2:Mp:=fun i=>if i<A.next then m' i else none
 have RJ:∀i,m i≠none→i<A.next:=fun i hi=>by
  rcases Nat.lt_or_ge i A.next with h|h
  · exact h
  · exact absurd (hs.rg i h) hi
 have h2:∀i,i<A.next→m2 i=m' i:=fun i hi=>if_pos hi
 have eG:Mp.le m m2:=fun i p hi=>by
  have:=RJ i (by rw [hi];exact Option.some_ne_none _)
  rw [h2 i this]
  exact ev.ext i p hi
 have NH:∀{u x:Value},eg A.next u→cz m' u x→cz m2 u x:=fun hb hr=>hb m' m2 _ hr h2
 have QJ:∀i,m i≠none→m2 i=m' i:=fun i hi=>h2 i (RJ i hi)
 refine⟨v,v',m2,X,rfl,⟨eG,⟨?_,?_,?_,?_⟩,by omega,ev.os,ev.tape,ev.output,ev.size,ev.fy,?_⟩,NH hV hv,rfl,rfl⟩
 · intro i o hi
   obtain⟨p,hp,hm⟩:=ev.C1.Cg i o (hg i o hi)
   obtain⟨dQ,uc⟩:=hO i o hi
   refine⟨p,by rw [h2 i dQ];exact hp,?_⟩
   rcases uc with hA|hB
   · obtain⟨p0,VN,VS⟩:=hs.Cg i o hA
     cases o with
     | cells cs own u=>
       obtain⟨iX,e1,fr,g1,g2,g3,g4,g5⟩:=hm
       obtain⟨_,_,_,_,_,_,_,k5⟩:=VS
       refine⟨iX,e1,fr,g1,g2,g3,g4,fun k u hu=>?_⟩
       obtain⟨y,hy,hr⟩:=g5 k u hu
       obtain⟨x,_,HL⟩:=k5 k u hu
       exact⟨y,hy,HL.GY QJ y hr⟩
     | map es own=>
       obtain⟨kg,ao,g1,g2,g3⟩:=hm
       obtain⟨Sk,_,_,k2,k3⟩:=VS
       refine⟨kg,ao,g1,g2,fun k x e hx he=>?_⟩
       have dQ:k<Sk.size:=by rw [←k2];exact(List.getElem?_eq_some_iff.1 hx).1
       have q:=k3 k x _ hx (Array.getElem?_eq_getElem dQ)
       have r:=g3 k x e hx he
       exact⟨q.1.GY QJ _ r.1,q.2.GY QJ _ r.2⟩
   · cases o with
     | cells cs own u=>
       obtain⟨iX,e1,fr,g1,g2,g3,g4,g5⟩:=hm
       refine⟨iX,e1,fr,g1,g2,g3,g4,fun k u hu=>?_⟩
       obtain⟨y,hy,hr⟩:=g5 k u hu
       exact⟨y,hy,NH (hB u (List.mem_of_getElem? hu)) hr⟩
     | map es own=>
       obtain⟨kg,ao,g1,g2,g3⟩:=hm
       refine⟨kg,ao,g1,g2,fun k x e hx he=>?_⟩
       have r:=g3 k x e hx he
       have b:=hB x (List.mem_of_getElem? hx)
       exact⟨NH b.1 r.1,NH b.2 r.2⟩
 · intro i j o o' p p' hi ho hj ke QB VM
   rw [h2 i (hO i o hi).1] at QB
   rw [h2 j (hO j o' hj).1] at VM
   exact ev.C1.inj i j o o' p p' (hg i o hi) ho (hg j o' hj) ke QB VM
 · intro i hi
   exact if_neg (by omega)
 · intro i hi
   cases hx:X.cy i with
   | none=>rfl
   | some o=>have:=(hO i o hx).1;omega
 · rintro b ⟨i,o,p,hi,ho,hp,hb⟩
   rw [h2 i (hO i o hi).1] at hp
   exact ev.grow b ⟨i,o,p,hg i o hi,ho,hp,hb⟩
theorem aH.GT {P:Program} {f:FuncId} {args:List Value} {A:AW} {V:Value} (hV:eg A.next V)
 (h:A.Wf→aH P f args A fun v A'=>v=V∧A.le A') (hc:jN P f=true):aH P f args A fun v A'=>v=V∧A=A':=by
 have key:A.Wf→aH P f args A fun v A'=>v=V∧A=A':=fun hw=>
  aH.gc rfl hV (fun i o hi=>⟨hw.lt hi,.inl hi⟩) ((h hw).mono fun v A' ⟨h1,h2⟩=>⟨h1,fun i o hi=>h2.iU hw hi⟩)
 exact⟨hc,fun m w jy hs hl=>(key hs.EI).2 m w jy hs hl⟩
open Go
def jo (size:Nat) (v:Value) (n:Nat) (cs:List Value):HP:=
 ⟨fun h=>(v=.slice none 0 0∧n=0∧cs=[]∧h=fun _=>none) ∨
  ∃b off c dh,v=.slice (some ⟨b,off,none⟩) n c∧n≤c∧off+n*size≤dh.length∧cs=(dh.drop off).take (n*size)∧
   h=fun j=>if j=b then some (.cells dh true size) else none⟩
def ar (k:IntKind) (v:Value) (l:List Int):HP:=jo 1 v l.length (l.map (Value.int k))
theorem jo.cases {A:AW} {size n:Nat} {v:Value} {cs:List Value} {F:HP} (h:bK A (jo size v n cs*F)) :
 (v=.slice none 0 0∧n=0∧cs=[]∧bK A F) ∨
 ∃b off c dh,v=.slice (some ⟨b,off,none⟩) n c∧n≤c∧off+n*size≤dh.length∧cs=(dh.drop off).take (n*size)∧bK A (pt b (.cells dh true size)*F):=by
 obtain⟨_,⟨a,b,d,rfl,p,q⟩,hs⟩:=h
 rcases p with ⟨h1,h2,h3,rfl⟩|⟨b',off,c,dh,h1,h2,h3,h4,rfl⟩
 · exact .inl ⟨h1,h2,h3,b,q,hs⟩
 · exact .inr ⟨b',off,c,dh,h1,h2,h3,h4,_,⟨_,b,d,rfl,rfl,q⟩,hs⟩
theorem jo.nil {A:AW} {size:Nat} {F:HP} (h:bK A F):bK A (jo size (.slice none 0 0) 0 []*F):=by
 obtain⟨x,p,hs⟩:=h
 exact⟨x,⟨_,x,fun _=>.inl rfl,rfl,.inl ⟨rfl,rfl,rfl,rfl⟩,p⟩,hs⟩
theorem jo.mk {A:AW} {size n b off c:Nat} {dh cs:List Value} {F:HP} (hc:n≤c) (h1:off+n*size≤dh.length) (h2:cs=(dh.drop off).take (n*size))
 (h:bK A (pt b (.cells dh true size)*F)):bK A (jo size (.slice (some ⟨b,off,none⟩) n c) n cs*F):=
 h.UX fun x hx=>.inr ⟨b,off,c,dh,rfl,hc,h1,h2,hx⟩
theorem jo.own {A:AW} {size n:Nat} {v:Value} {cs:List Value} {F:HP} (h:bK A (jo size v n cs*F)):mO 0 A size v n cs:=by
 rcases jo.cases h with ⟨rfl,rfl,rfl,_⟩|⟨b,off,c,dh,rfl,h1,h2,h3,h4⟩
 · exact .inl ⟨rfl,rfl,rfl⟩
 · exact .inr ⟨⟨b,off,none⟩,c,dh,rfl,h1,rfl,Nat.zero_le _,h4.cy,h2,h3⟩
theorem jo.is {A:AW} {size n:Nat} {v:Value} {cs:List Value} {F:HP} (h:bK A (jo size v n cs*F)):mQ A size v n cs:=(jo.own h).is
theorem ar.own {A:AW} {k:IntKind} {v:Value} {l:List Int} {F:HP} (h:bK A (ar k v l*F)):dk 0 A k v l:=jo.own h
theorem ar.is {A:AW} {k:IntKind} {v:Value} {l:List Int} {F:HP} (h:bK A (ar k v l*F)):cF A k v l:=jo.is h
theorem ar.nil {A:AW} {k:IntKind} {F:HP} (h:bK A F):bK A (ar k (.slice none 0 0) []*F):=jo.nil h
theorem ar.mk {A:AW} {k:IntKind} {b off c n:Nat} {dh:List Value} {l:List Int} {F:HP} (hn:n=l.length) (hc:l.length≤c) (h1:off+l.length≤dh.length) (h2:l.map (Value.int k)=(dh.drop off).take l.length)
 (h:bK A (pt b (.cells dh true 1)*F)):bK A (ar k (.slice (some ⟨b,off,none⟩) n c) l*F):=by
 subst hn
 exact jo.mk hc (by simpa using h1) (by simpa using h2) h
theorem jo.kZ {A A':AW} {size n:Nat} {v:Value} {cs:List Value} {F:HP} (h:bK A F) (hw:A.Wf) (hl:A.le A') (ho:mO A.next A' size v n cs):bK A' (jo size v n cs*F):=by
 rcases ho with ⟨rfl,rfl,rfl⟩|⟨p,c,dh,rfl,h1,hs,hB,hg,h2,h3⟩
 · exact jo.nil (h.le hw hl)
 · obtain⟨b,o,s⟩:=p
   simp only at hs hB hg h2 h3
   subst hs
   refine jo.mk h1 h2 h3 (bK.cons hg (h.Fv fun i o hi=>?_))
   have:=hw.lt hi
   rw [AW.cX (by omega)]
   exact hl.iU hw hi
theorem ar.kZ {A A':AW} {k:IntKind} {v:Value} {l:List Int} {F:HP} (h:bK A F) (hw:A.Wf) (hl:A.le A') (ho:dk A.next A' k v l):bK A' (ar k v l*F):=jo.kZ h hw hl ho
theorem ar.at {A:AW} {k:IntKind} {v:Value} {l:List Int} {F:HP} (h:bK A (ar k v l*F)) {j:Nat} (hj:j<l.length) :
 ∃b off c dh,v=.slice (some ⟨b,off,none⟩) l.length c∧l.length≤c∧A.cy b=some (.cells dh true 1)∧dh[off+j]? = some (.int k l[j])∧off+l.length≤dh.length∧
  ∀y,bK (A.set b (some (.cells (dh.set (off+j) (.int k y)) true 1))) (ar k v (l.set j y)*F):=by
 rcases jo.cases h with ⟨_,h0,_⟩|⟨b,off,c,dh,rfl,h1,h2,h3,h4⟩
 · omega
 · rw [Nat.mul_one] at h2 h3
   have dg:∀q,q<l.length→dh[off+q]? = (l.map (Value.int k))[q]?:=fun q hq=>by
    rw [h3,List.getElem?_take_of_lt hq,List.getElem?_drop]
   refine⟨b,off,c,dh,rfl,h1,h4.cy,by rw [dg j hj,List.getElem?_map,List.getElem?_eq_getElem hj];rfl,h2,fun y=>?_⟩
   have:=jo.mk (size:=1) (n:=l.length) (off:=off) (c:=c) (cs:=(l.set j y).map (Value.int k)) h1 (by simpa using h2) ?_ (h4.set (.cells (dh.set (off+j) (.int k y)) true 1))
   · unfold ar
     simpa using this
   · rw [Nat.mul_one]
     apply List.ext_getElem?
     intro q
     by_cases hq:q<l.length
     · rw [List.getElem?_take_of_lt hq,List.getElem?_drop,List.getElem?_map]
       by_cases e:j=q
       · subst e
         rw [List.getElem?_set_self hj,List.getElem?_set_self (by omega)];rfl
       · rw [List.getElem?_set_ne e,List.getElem?_set_ne (by omega),dg q hq,List.getElem?_map]
     · rw [List.getElem?_eq_none (by simp;omega),List.getElem?_eq_none (by simp;omega)]
theorem ar.append {P:Program} {A:AW} {t e:TypeId} {i:TypeInfo} {z:Value} {v:Value} {k:IntKind} {l:List Int} {F:HP} (y:Int)
 (hu:P.underlying t=some (.slice e)) (hi:P.info? e=some i) (hz:i.zero=some z) (iq:i.size=1) (rb:z.cells.size=1)
 (h:bK A (ar k v l*F)) (cU:l.length<2 ^ 40) (BH:i.bytes≤8) (hw:A.Wf) :
 ∃v' A',iH P (A.alloc (.cells [.int k y] true 1)) t t v (.slice (some ⟨A.next,0,none⟩) 1 1)=some (v',A')∧bK A' (ar k v' (l++[y])*F)∧A'.Wf∧A.next≤A'.next:=by
 have mI:jb (A.alloc (.cells [.int k y] true 1)) 1 (.slice (some ⟨A.next,0,none⟩) 1 1)=some (1,[.int k y]):=by
  simp [jb,AW.dh]
 have hb:(l.length+1)*i.bytes≤140737488355328:=by
  have:=Nat.mul_le_mul_left (l.length+1) BH
  omega
 have xz:l.length+1≤140737488355328:=by omega
 have qg:[Value.int k y].all Value.oneCell'=true:=rfl
 have Nz:(l++[y]).length=l.length+1:=by simp
 rcases jo.cases h with ⟨rfl,h0,h1,h2⟩|⟨b,off,c,dh,rfl,h1,h2,h3,h4⟩
 · have:l=[]:=List.eq_nil_of_length_eq_zero h0
   subst this
   refine⟨.slice (some ⟨A.next+1,0,none⟩) (0+1) (0+1),(A.alloc (.cells [.int k y] true 1)).alloc (.cells ([]++[.int k y]) true i.size),?_,?_,(hw.alloc _).alloc _,by simp;omega⟩
   · simp only [iH,hu,hi,hz,iq,mI,iG]
     rw [if_pos ⟨rb,by omega,trivial⟩,if_neg (by omega),if_pos ⟨xz,hb,qg⟩]
     simp
   · have:=(h2.iU hw (.cells [.int k y] true 1)).alloc (hw.alloc _) (.cells ([]++[.int k y]) true i.size)
     rw [iq] at this ⊢
     have h9:bK ((A.alloc (.cells [.int k y] true 1)).alloc (.cells ([]++[.int k y]) true 1)) (pt (A.next+1) (.cells [.int k y] true 1)*F):=this
     exact jo.mk (size:=1) (n:=1) (off:=0) (c:=1) (by simp) (by simp) (by simp) h9
 · have hg:=h4.cy
   have dQ:=hw.lt hg
   have EO:(A.alloc (.cells [.int k y] true 1)).cy b=some (.cells dh true 1):=by rw [AW.jS _ _ (by omega)];exact hg
   refine⟨.slice (some ⟨A.next+1,0,none⟩) (l.length+1) (l.length+1),((A.alloc (.cells [.int k y] true 1)).set b none).alloc (.cells ((dh.drop off).take (l.length*1)++[.int k y]) true i.size),?_,?_,
    ((hw.alloc _).set none (by simp;omega)).alloc _,by simp;omega⟩
   · simp only [iH,hu,hi,hz,iq,mI,iG,EO]
     rw [if_pos ⟨rb,by omega,trivial⟩,if_neg (by simp),if_pos ⟨trivial,h2⟩]
     simp only
     rw [if_neg (by omega),if_pos ⟨xz,hb,qg⟩]
     simp
   · have h5:=((h4.iU hw (.cells [.int k y] true 1)).HG).alloc ((hw.alloc (.cells [.int k y] true 1)).set none (by simp;omega)) (.cells ((dh.drop off).take (l.length*1)++[.int k y]) true i.size)
     rw [iq] at h5 ⊢
     unfold ar
     rw [Nz]
     refine jo.mk (Nat.le_refl _) ?_ ?_ (by simpa using h5)
     · simp at h2 ⊢;omega
     · rw [Nat.mul_one] at h2 h3
       simp only [Nat.mul_one,List.drop_zero]
       rw [←h3,List.take_of_length_le (by simp)]
       simp
theorem ar.N5 {P:Program} {A:AW} {t e:TypeId} {i:TypeInfo} {z:Value} {v:Value} {k:IntKind} {l:List Int} {F:HP} (y:Int) (n:Nat)
 (hu:P.underlying t=some (.slice e)) (hi:P.info? e=some i) (hz:i.zero=some z) (iq:i.size=1) (rb:z.cells.size=1)
 (hn:A.cy n=some (.cells [.int k y] true 1)) (h:bK A (ar k v l*F)) (cU:l.length<2 ^ 40) (BH:i.bytes≤8) (hw:A.Wf) :
 ∃v' A',iH P A t t v (.slice (some ⟨n,0,none⟩) 1 1)=some (v',A')∧bK A' (ar k v' (l++[y])*F)∧A'.Wf∧A.next≤A'.next:=by
 have mI:jb A 1 (.slice (some ⟨n,0,none⟩) 1 1)=some (1,[.int k y]):=by
  simp [jb,AW.dh,hn]
 have hb:(l.length+1)*i.bytes≤140737488355328:=by
  have:=Nat.mul_le_mul_left (l.length+1) BH
  omega
 have xz:l.length+1≤140737488355328:=by omega
 have qg:[Value.int k y].all Value.oneCell'=true:=rfl
 have Nz:(l++[y]).length=l.length+1:=by simp
 rcases jo.cases h with ⟨rfl,h0,h1,h2⟩|⟨b,off,c,dh,rfl,h1,h2,h3,h4⟩
 · have:l=[]:=List.eq_nil_of_length_eq_zero h0
   subst this
   refine⟨.slice (some ⟨A.next,0,none⟩) (0+1) (0+1),A.alloc (.cells ([]++[.int k y]) true i.size),?_,?_,hw.alloc _,by simp⟩
   · simp only [iH,hu,hi,hz,iq,mI,iG]
     rw [if_pos ⟨rb,by omega,trivial⟩,if_neg (by omega),if_pos ⟨xz,hb,qg⟩]
     try simp
   · have:=h2.alloc hw (.cells ([]++[.int k y]) true i.size)
     rw [iq] at this ⊢
     have h9:bK (A.alloc (.cells [.int k y] true 1)) (pt A.next (.cells [.int k y] true 1)*F):=this
     exact jo.mk (size:=1) (n:=1) (off:=0) (c:=1) (by simp) (by simp) (by simp) h9
 · have hg:=h4.cy
   have dQ:=hw.lt hg
   refine⟨.slice (some ⟨A.next,0,none⟩) (l.length+1) (l.length+1),(A.set b none).alloc (.cells ((dh.drop off).take (l.length*1)++[.int k y]) true i.size),?_,?_,
    (hw.set none dQ).alloc _,by simp⟩
   · simp only [iH,hu,hi,hz,iq,mI,iG,hg]
     rw [if_pos ⟨rb,by omega,trivial⟩,if_neg (by simp),if_pos ⟨trivial,h2⟩]
     simp only
     rw [if_neg (by omega),if_pos ⟨xz,hb,qg⟩]
     try simp
   · have h5:=(h4.HG).alloc (hw.set none dQ) (.cells ((dh.drop off).take (l.length*1)++[.int k y]) true i.size)
     rw [iq] at h5 ⊢
     unfold ar
     rw [Nz]
     refine jo.mk (Nat.le_refl _) ?_ ?_ (by simpa using h5)
     · simp at h2 ⊢;omega
     · rw [Nat.mul_one] at h2 h3
       simp only [Nat.mul_one,List.drop_zero]
       rw [←h3,List.take_of_length_le (by simp)]
       simp
theorem cF.Ku {A:AW} {k:IntKind} {o:Option Addr} {c n:Nat} {l:List Int} (h:cF A k (.slice o n c) l) {i:Nat} (hi:i<l.length) :
 ∃p dh own,o=some p∧A.cy p.block=some (.cells dh own 1)∧dh[p.off+i]? = some (.int k l[i]):=by
 rcases h.cases with ⟨h1,rfl⟩|⟨p,c,dh,own,h1,_,hg,_,hr⟩
 · simp at hi
 · injection h1 with h1 h2 h3
   exact⟨p,dh,own,h1,hg,hr i hi⟩
theorem ar.K9 {P:Program} {A:AW} {t e:TypeId} {i:TypeInfo} {k k1 k2:IntKind} {F:HP} (n:Nat)
 (hu:P.underlying t=some (.slice e)) (hi:P.info? e=some i) (hz:i.zero=some (.int k 0)) (iq:i.size=1) (BH:i.bytes≤8) (hn:n<2 ^ 40) (h:bK A F) (hw:A.Wf) :
 ∃v' A',ny P A t (.int k1 (n:Int)) (.int k2 (n:Int))=some (v',A')∧bK A' (ar k v' (List.replicate n 0)*F)∧A'.Wf∧A.le A':=by
 have hb:(n:Int)*i.bytes≤140737488355328:=by
  have:=Nat.mul_le_mul_left n BH
  have h2:((n*i.bytes:Nat):Int)≤((n*8:Nat):Int):=by exact_mod_cast this
  have h3:((n*i.bytes:Nat):Int)=(n:Int)*i.bytes:=by push_cast;rfl
  omega
 refine⟨.slice (some ⟨A.next,0,none⟩) n n,A.alloc (.cells (fh [.int k 0] n) true 1),?_,?_,hw.alloc _,AW.le.alloc _ _⟩
 · simp only [ny,hu,hi,hz,iq]
   rw [if_pos ⟨rfl,by omega,rfl,by omega,by omega,by omega,hb⟩]
   simp [Value.cells]
 · have cU:(fh [Value.int k 0] n).length=n:=by simp [iT]
   have pO:(List.replicate n (0:Int)).map (Value.int k)=fh [Value.int k 0] n:=by
    clear hb hn cU
    induction n with
    | zero=>rfl
    | succ n ih=>rw [List.replicate_succ,List.map_cons,ih];rfl
   refine ar.mk (by simp) (by simp) (by simp [cU]) ?_ (h.alloc hw _)
   rw [pO,List.drop_zero,List.take_of_length_le (by simp [cU])]
theorem ar.N4 {P:Program} {A:AW} {t u e:TypeId} {i:TypeInfo} {ku:IntKind} {v:Value} {k kq:IntKind} {l:List Int} {F:HP} (n:Nat)
 (hu:P.underlying t=some (.slice e)) (SR:P.underlying u=some (.int ku)) (hi:P.info? e=some i) (hz:i.zero=some (.int k 0)) (iq:i.size=1)
 (h:bK A (ar k v l*F)) (cU:l.length+n<2 ^ 40) (BH:i.bytes≤8) (hw:A.Wf) :
 ∃v' A',mM P A t u v (.int kq (n:Int))=some (v',A')∧bK A' (ar k v' (l++List.replicate n 0)*F)∧A'.Wf:=by
 have pO:(List.replicate n (0:Int)).map (Value.int k)=fh [Value.int k 0] n:=by
  clear cU
  induction n with
  | zero=>rfl
  | succ n ih=>rw [List.replicate_succ,List.map_cons,ih];rfl
 have TL:(fh [Value.int k 0] n).length=n:=by simp [iT]
 have hb:(l.length+n)*i.bytes≤140737488355328:=by
  have:=Nat.mul_le_mul_left (l.length+n) BH
  omega
 rcases jo.cases h with ⟨rfl,h0,h1,h2⟩|⟨b,off,c,dh,rfl,h1,h2,h3,h4⟩
 · have:l=[]:=List.eq_nil_of_length_eq_zero h0
   subst this
   by_cases hn:n=0
   · subst hn
     refine⟨.slice none 0 0,A,?_,by simpa using h,hw⟩
     simp only [mM,hu,SR,hi,hz,iq,iG]
     rw [if_pos ⟨rfl,by omega,rfl,by omega,by simp,by simp⟩]
     simp
   · refine⟨.slice (some ⟨A.next,0,none⟩) (0+n) (0+n),A.alloc (.cells ([]++fh [.int k 0] n) true 1),?_,?_,hw.alloc _⟩
     · simp only [mM,hu,SR,hi,hz,iq,iG,Int.toNat_natCast]
       rw [if_pos ⟨rfl,by omega,rfl,by omega,by simp at cU;omega,by simpa using hb⟩,if_neg hn]
       rfl
     · refine ar.mk (by simp) (by simp) (by simp [TL]) ?_ (h2.alloc hw _)
       rw [zo,zo,pO,List.drop_zero,List.take_of_length_le (by simp [TL])]
 · have hg:=h4.cy
   have dQ:=hw.lt hg
   by_cases hn:n=0
   · subst hn
     refine⟨.slice (some ⟨b,off,none⟩) l.length c,A,?_,by simpa using h,hw⟩
     simp only [mM,hu,SR,hi,hz,iq,iG,hg]
     rw [if_neg (by simp),if_pos ⟨trivial,h2⟩]
     simp only
     rw [if_pos ⟨rfl,by omega,rfl,by omega,by simp at cU ⊢;omega,by simpa using hb⟩]
     simp
   · refine⟨.slice (some ⟨A.next,0,none⟩) (l.length+n) (l.length+n),(A.set b none).alloc (.cells ((dh.drop off).take (l.length*1)++fh [.int k 0] n) true 1),?_,?_,(hw.set none dQ).alloc _⟩
     · simp only [mM,hu,SR,hi,hz,iq,iG,hg,Int.toNat_natCast]
       rw [if_neg (by simp),if_pos ⟨trivial,h2⟩]
       simp only
       rw [if_pos ⟨rfl,by omega,rfl,by omega,by omega,hb⟩,if_neg hn]
       rfl
     · have h5:=h4.HG.alloc (hw.set none dQ) (.cells ((dh.drop off).take (l.length*1)++fh [.int k 0] n) true 1)
       rw [Nat.mul_one] at h2 h3
       refine ar.mk (by simp) (by simp) ?_ ?_ (by simpa using h5)
       · simp [TL];omega
       · rw [List.drop_zero,←h3,←pO,←List.map_append,List.take_of_length_le (by simp)]
def j8 (f:Nat→HP):Nat→HP
 | 0=>fa
 | n+1=>j8 f n*f n
def pz (f:Nat→HP) (i:Nat) (Q:HP):Nat→HP:=fun j=>if j=i then Q else f j
theorem sr {f g:Nat→HP}:∀{n:Nat},(∀i,i<n→f i=g i)→j8 f n=j8 g n
 | 0,_=>rfl
 | n+1,h=>by
   unfold j8
   rw [sr (n:=n) (fun i hi=>h i (by omega)),h n (by omega)]
theorem tW (f:Nat→HP) {i:Nat}:∀{n:Nat},i<n→j8 f n=f i*j8 (pz f i fa) n
 | 0,h=>by omega
 | n+1,h=>by
   unfold j8
   by_cases e:i=n
   · subst e
     rw [sr (f:=pz f i fa) (g:=f) (n:=i) (fun j hj=>by simp [pz];omega)]
     simp only [pz,if_true,dx]
     exact HP.mul_comm _ _
   · have tm:i<n:=by omega
     rw [tW f tm]
     have:pz f i fa n=f n:=by simp [pz];omega
     rw [this,HP.cq]
theorem JU (f:Nat→HP) {i n:Nat} (hi:i<n) (Q:HP):j8 (pz f i Q) n=Q*j8 (pz f i fa) n:=by
 rw [tW _ hi]
 congr 1
 · simp [pz]
 · refine sr fun j _=>?_
   simp only [pz]
   split<;>rfl
theorem bK.pick {A:AW} {f:Nat→HP} {n i:Nat} {F:HP} (h:bK A (j8 f n*F)) (hi:i<n):bK A (f i*(j8 (pz f i fa) n*F)):=by
 rw [tW f hi,HP.cq] at h
 exact h
theorem bK.put {A:AW} {f:Nat→HP} {n i:Nat} {Q F:HP} (h:bK A (Q*(j8 (pz f i fa) n*F))) (hi:i<n):bK A (j8 (pz f i Q) n*F):=by
 rw [JU f hi,HP.cq]
 exact h
open Go
def lW (es:List (Int×Value)) (a:Int):Option Value:=(es.find? fun e=>e.1 == a).map (·.2)
def te (k:IntKind) (es:List (Int×Value)):List (Value×Value):=es.map fun e=>(.int k e.1,e.2)
def fX (k:IntKind) (r:Nat) (f:Int→Option Value):HP:=rt fun es:List (Int×Value)=>rc (∀a,lW es a=f a)*pt r (.map (te k es) true)
theorem lX {k0 k:IntKind} {a:Int}:∀(es:List (Int×Value)) (i:Nat),∃q,gx (.int k0) (.int k a) (te k es) i=some q∧q.map (·.2)=lW es a∧
 ∀j v,q=some (j,v)→∃j',j=i+j'∧j'<es.length∧∀v' b,lW (es.set j' (a,v')) b=if b=a then some v' else lW es b
 | [],i=>⟨none,rfl,rfl,fun j v h=>by cases h⟩
 | e::es,i=>by
   unfold te gx
   simp only [List.map_cons,E4]
   by_cases h:a=e.1
   · subst h
     refine⟨some (i,e.2),by simp,by simp [lW],?_⟩
     intro j v hj
     injection hj with hj
     injection hj with h1 h2
     subst h1
     refine⟨0,rfl,by simp,fun v' b=>?_⟩
     simp only [List.set_cons_zero,lW,List.find?_cons]
     by_cases hb:e.1=b
     · subst hb;simp
     · have xA:(e.1 == b)=false:=by simpa using hb
       simp [xA,Ne.symm hb]
   · have ke:(a == e.1)=false:=by simpa using h
     rw [ke]
     obtain⟨q,h1,h2,h3⟩:=lX (k0:=k0) (k:=k) (a:=a) es (i+1)
     refine⟨q,h1,?_,?_⟩
     · rw [h2]
       have:¬e.1=a:=fun x=>h x.symm
       simp [lW,this]
     · intro j v hj
       obtain⟨j',g1,g2,g3⟩:=h3 j v hj
       refine⟨j'+1,by omega,by simpa using g2,fun v' b=>?_⟩
       have:=g3 v' b
       simp only [List.set_cons_succ,lW,List.find?_cons] at this ⊢
       by_cases hb:e.1=b
       · subst hb
         have:¬e.1=a:=fun x=>h x.symm
         simp [this]
       · have xA:(e.1 == b)=false:=by simpa using hb
         rw [xA]
         simpa using this
theorem BM {es:List (Int×Value)} {a:Int} {v:Value} (h:lW es a=none) (b:Int):lW (es++[(a,v)]) b=if b=a then some v else lW es b:=by
 simp only [lW,List.find?_append,Option.map_eq_none_iff] at h ⊢
 by_cases hb:b=a
 · subst hb
   simp [h]
 · have:¬a=b:=fun x=>hb x.symm
   simp [hb,this]
theorem fX.cy {A:AW} {k:IntKind} {r:Nat} {f:Int→Option Value} {F:HP} (h:bK A (fX k r f*F)) :
 ∃es,A.cy r=some (.map (te k es) true)∧(∀a,lW es a=f a)∧bK A (pt r (.map (te k es) true)*F):=by
 unfold fX at h
 rw [bK.ex] at h
 obtain⟨es,h⟩:=h
 rw [HP.cq,bK.pr] at h
 exact⟨es,h.2.cy,h.1,h.2⟩
theorem fX.lookup {P:Program} {A:AW} {t kt e:TypeId} {k0 k:IntKind} {r:Nat} {f:Int→Option Value} {F:HP} (h:bK A (fX k r f*F)) (ht:P.underlying t=some (.map kt e)) (hk:P.underlying kt=some (.int k0)) (a:Int) (c:Bool) :
 qS P A t (.map (some r)) (.int k a) c=match f a with
  | some v=>some (if c then .tuple #[v,.bool true] else v)
  | none=>qo P e c:=by
 obtain⟨es,hg,hf,_⟩:=fX.cy h
 obtain⟨q,h1,h2,_⟩:=lX (k0:=k0) (k:=k) (a:=a) es 0
 simp only [qS,ht,hk,kI,if_true,hg,h1]
 rw [hf a] at h2
 rw [←h2]
 cases q with
 | none=>rfl
 | some q=>rfl
theorem fX.eA {A:AW} {k:IntKind} {r:Nat} {f:Int→Option Value} {F:HP} (h:bK A (fX k r f*F)) :
 ∃pY,A.cy r=some (.map pY true)∧(∀k0 a v,f a=some v→∃q,gx (.int k0) (.int k a) pY 0=some (some (q,v)))∧(∀k0 a,f a=none→gx (.int k0) (.int k a) pY 0=some none)∧
  bK A (pt r (.map pY true)*F)∧∀{A':AW} {F':HP},bK A' (pt r (.map pY true)*F')→bK A' (fX k r f*F'):=by
 obtain⟨es,hg,hf,hS⟩:=fX.cy h
 refine⟨_,hg,fun k0 a v hv=>?_,fun k0 a hv=>?_,hS,fun {A' F'} h'=>?_⟩
 · obtain⟨q,h1,h2,_⟩:=lX (k0:=k0) (k:=k) (a:=a) es 0
   rw [hf,hv] at h2
   cases q with
   | none=>cases h2
   | some q=>obtain⟨j,u⟩:=q;injection h2 with h2;simp only at h2;subst h2;exact⟨j,h1⟩
 · obtain⟨q,h1,h2,_⟩:=lX (k0:=k0) (k:=k) (a:=a) es 0
   rw [hf,hv] at h2
   cases q with
   | none=>exact h1
   | some q=>cases h2
 · unfold fX
   rw [bK.ex]
   refine⟨es,?_⟩
   rw [HP.cq,bK.pr]
   exact⟨hf,h'⟩
theorem fX.EH {A:AW} {k:IntKind} {F:HP} (h:bK A F) (hw:A.Wf):bK (A.alloc (.map [] true)) (fX k A.next (fun _=>none)*F):=by
 unfold fX
 rw [bK.ex]
 refine⟨[],?_⟩
 rw [HP.cq,bK.pr]
 exact⟨fun a=>rfl,h.alloc hw _⟩
def lw (f:Int→Option Value) (a:Int) (v:Value):Int→Option Value:=fun b=>if b=a then some v else f b
theorem fX.rB {P:Program} {A:AW} {t kt e:TypeId} {k0 k:IntKind} {r:Nat} {f:Int→Option Value} {F:HP} (h:bK A (fX k r f*F)) (ht:P.underlying t=some (.map kt e)) (hk:P.underlying kt=some (.int k0)) (a:Int) (v:Value) :
 ∃A',fU P A t (.map (some r)) (.int k a) v=some A'∧bK A' (fX k r (lw f a v)*F)∧(A.Wf→A'.Wf)∧A'.next=A.next∧∀j,j≠r→A'.cy j=A.cy j:=by
 obtain⟨es,hg,hf,hS⟩:=fX.cy h
 obtain⟨q,h1,h2,h3⟩:=lX (k0:=k0) (k:=k) (a:=a) es 0
 have cC:∀Tc:List (Int×Value),(∀b,lW Tc b=lw f a v b)→bK (A.set r (some (.map (te k Tc) true))) (fX k r (lw f a v)*F):=fun Tc he=>by
  unfold fX
  rw [bK.ex]
  refine⟨Tc,?_⟩
  rw [HP.cq,bK.pr]
  exact⟨he,hS.set _⟩
 cases q with
 | none=>
   refine⟨A.set r (some (.map (te k (es++[(a,v)])) true)),?_,cC _ fun b=>?_,fun hw=>hw.set _ (hw.lt hg),rfl,fun j hj=>AW.cX hj⟩
   · simp only [fU,ht,hk,hg,kI,if_true,h1]
     simp [te]
   · rw [BM (by rw [←h2];rfl)]
     simp only [lw,hf]
 | some q=>
   obtain⟨j,u⟩:=q
   obtain⟨j',g1,g2,g3⟩:=h3 j u rfl
   refine⟨A.set r (some (.map (te k (es.set j' (a,v))) true)),?_,cC _ fun b=>?_,fun hw=>hw.set _ (hw.lt hg),rfl,fun j hj=>AW.cX hj⟩
   · simp only [fU,ht,hk,hg,kI,if_true,h1]
     have:j=j':=by omega
     subst this
     simp [te,List.map_set]
   · rw [g3]
     simp only [lw,hf]
open Go
theorem vl {r r':Operand→Value} {ps:Array (Nat×Operand)} (h:∀x∈(ps.toList.map (·.2)).toArray,r x=r' x):pJ r ps=pJ r' ps:=by
 unfold pJ
 refine List.map_congr_left fun x hx=>?_
 rw [h x.2 (by simpa using ⟨x.1,by simpa using hx⟩)]
theorem tG {r r':Operand→Value} {x:Option Operand} (h:∀y∈x.toArray,r y=r' y):x.map r=x.map r':=by
 cases x with
 | none=>rfl
 | some y=>simp [h y (by simp)]
theorem Aj {r r':Operand→Value} {x:Array Operand} (h:∀y∈x,r y=r' y):x.map r=x.map r':=Array.map_congr_left h
theorem Af {P:Program} {A:AW} {r r':Operand→Value} {op:Op} (h:∀x∈op.operands,r x=r' x):aq P A r op=aq P A r' op:=by
 cases op<;>simp only [aq,Op.operands] at h ⊢
 case move x=>rw [h x (by simp)]
 case assign x=>rw [h x (by simp)]
 case pick c x y=>rw [h c (by simp),h x (by simp),h y (by simp)]
 case build t ps=>rw [vl h]
 case load t x=>rw [h x (by simp)]
 case nilCheck x=>rw [h x (by simp)]
 case binOp op t x y u=>rw [h x (by simp),h y (by simp)]
 case unOp op t x=>rw [h x (by simp)]
 case convert s d x=>rw [h x (by simp)]
 case makeInterface t x=>rw [h x (by simp)]
 case slice t x lo hi mx=>
  have e1:r x=r' x:=h x (by simp)
  have e2:lo.map r=lo.map r':=tG fun y hy=>h y (by simp [hy])
  have e3:hi.map r=hi.map r':=tG fun y hy=>h y (by simp [hy])
  cases mx with
  | none=>simp only [e1,e2,e3]
  | some q=>simp only [e1,e2,e3,h q (by simp)]
 case lookup t x ix c=>rw [h x (by simp),h ix (by simp)]
 case fieldAddr s x f=>rw [h x (by simp)]
 case field t x f=>rw [h x (by simp)]
 case indexAddr t x ix=>rw [h x (by simp),h ix (by simp)]
 case index t x ix=>rw [h x (by simp),h ix (by simp)]
 case extract t i=>rw [h t (by simp)]
 case makeFunc fn fs cs=>
  rw [Aj (r:=r) (r':=r') (x:=fs) fun y hy=>h y (by simp [hy]),Aj (r:=r) (r':=r') (x:=cs) fun y hy=>h y (by simp [hy])]
 case call c=>
  have hk:∀x∈c.args.toList,r x=r' x:=fun x hx=>h x (by simp only [Call.operands,Array.mem_append];exact .inr (Array.mem_toList_iff.1 hx))
  clear h
  generalize c.args.toList=l at hk ⊢
  generalize c.argTypes.toList=ts
  generalize c.callee=ce
  split<;>simp_all
theorem Mf {P:Program} {A:AW} {r r':Operand→Value} {op:Op} (h:∀x∈op.operands,r x=r' x):ae P A r op=ae P A r' op:=by
 cases op<;>simp only [ae,Op.operands] at h ⊢
 case box t x=>rw [h x (by simp)]
 case buildSlice t n ps=>rw [vl h]
 case store t x y=>rw [h x (by simp),h y (by simp)]
 case makeSlice t l c=>rw [h l (by simp),h c (by simp)]
 case makeMap t x=>rw [tG h]
 case mapUpdate t x k v=>rw [h x (by simp),h k (by simp),h v (by simp)]
 case insert t x k v=>rw [h x (by simp),h k (by simp),h v (by simp)]
 case call c=>
  have hk:∀x∈c.args.toList,r x=r' x:=fun x hx=>h x (by simp only [Call.operands,Array.mem_append];exact .inr (Array.mem_toList_iff.1 hx))
  clear h
  generalize c.args.toList=l at hk ⊢
  generalize c.argTypes.toList=ts
  generalize c.callee=ce
  split<;>simp_all
theorem Eh {P:Program} {A:AW} {r r':Operand→Value} {op:Op} {k:Value→AW→Prop} (h:∀x∈op.operands,r x=r' x):ua P op r A k=ua P op r' A k:=by
 cases op<;>try rfl
 case call c=>
  obtain⟨callee,args,ts⟩:=c
  cases callee with
  | value x=>
    have hx:r x=r' x:=h x (by simp [Op.operands,Call.operands])
    have ha:args.toList.map r=args.toList.map r':=List.map_congr_left fun y hy=>h y (by simp only [Op.operands,Call.operands,Array.mem_append];exact .inr (Array.mem_toList_iff.1 hy))
    simp only [ua,hx,ha]
  | invoke _ _=>rfl
  | builtin _=>rfl
theorem GJ {P:Program} {A:AW} {r r':Operand→Value} {op:Op} {k:Value→AW→Prop} (h:∀x∈op.operands,r x=r' x):iC P op r A k=iC P op r' A k:=by
 unfold iC
 rw [Af h,Mf h,Eh h]
theorem E8 {A A':AW} (hk:∀i o,A.cy i=some o→A'.cy i=some o) {i:Nat} {cs:List Value} (h:A.dh i=some cs):A'.dh i=some cs:=by
 unfold AW.dh at *
 split at h
 · rename_i hg
   rw [hk _ _ hg]
   exact h
 · cases h
theorem Ib {P:Program} {A A':AW} (hk:∀i o,A.cy i=some o→A'.cy i=some o) {t:TypeId} {p:Addr} {v:Value} (h:tx P A t p=some v):tx P A' t p=some v:=by
 unfold tx at *
 split at h
 · rename_i h1 h2;rw [E8 hk h1,h2];exact h
 · rename_i h1 h2;rw [E8 hk h1,h2];exact h
 · cases h
theorem N3 {P:Program} {A A':AW} (hk:∀i o,A.cy i=some o→A'.cy i=some o) {r:Operand→Value} {op:Op} {v:Value} (h:aq P A r op=some v):aq P A' r op=some v:=by
 cases op<;>simp only [aq] at h ⊢<;>try exact h
 case load t x=>
  split at h
  · rename_i p hp
    exact Ib hk h
  · cases h
 case slice t x lo hi mx=>
  cases mx with
  | some q=>exact h
  | none=>
    simp only at h ⊢
    unfold vX at *
    split at h
    · rename_i hu _ _
      split at h
      · rename_i e1
        split at h
        · rename_i e2
          split at h
          · rename_i e3
            exact h
          · rename_i e3
            split at h
            · rename_i q hq
              have key:∀{e:TypeId} {p:Addr} {l:Nat},eB P A e p l=some q→eB P A' e p l=some q:=by
               intro e p l hq
               unfold eB at hq ⊢
               split at hq
               · rename_i hl;rw [if_pos hl];exact hq
               · rename_i hl
                 rw [if_neg hl]
                 split at hq
                 · rename_i g1 g2
                   rw [g1,hk _ _ g2]
                   exact hq
                 · cases hq
              rw [key hq]
              exact h
            · cases h
          · cases h
        · cases h
      · cases h
    · exact h
    · cases h
 case lookup t x ix c=>
  unfold qS at h ⊢
  split at h<;>try(cases h;done)
  split at h<;>try(cases h;done)
  split at h<;>try(cases h;done)
  rename_i PG
  split at h<;>try(cases h;done)
  · simp_all
  · split at h<;>try(cases h;done)
    rename_i hg
    have EO:=hk _ _ hg
    simp_all
def sL:Op→Bool
 | .move _ | .assign _ | .pick _ _ _ | .build _ _ | .nilCheck _ | .binOp _ _ _ _ _ | .unOp _ _ _ | .convert _ _ _ | .makeInterface _ _ | .fieldAddr _ _ _ | .field _ _ _ | .indexAddr _ _ _ | .index _ _ _ | .extract _ _ | .makeFunc _ _ _=>true
 | .call c=>match c.callee with
   | .builtin .len | .builtin .min | .builtin .max=>true
   | _=>false
 | _=>false
def M0:Op→Bool
 | .load _ _ | .slice _ _ _ _ _ | .lookup _ _ _ _=>true
 | op=>sL op
theorem Ia {P:Program} {A A':AW} {r:Operand→Value} {op:Op} (hm:sL op=true):aq P A' r op=aq P A r op:=by
 cases op<;>first|rfl|(simp [sL] at hm;done)
open Go
section
variable {P:Program} {ct:Array Oper} {S:AW→Prop} {md:Nat→Nat} {K:Fr→AW→Prop} {oL:List Nat}
def rm (P:Program) (ct:Array Oper) (S:AW→Prop) (md:Nat→Nat) (i:Nat) (o:Oper) (a:Fr) (A:AW) (k:Fr→AW→Prop):Prop:=
 if lT ct a o=true then
  if md i≤1 then ∃v,aq P A (ki a) o.op=some v∧k (fl a o.dst v) A
  else iC P o.op (ki a) A fun v A'=>(if md i=2 then A.le A' else (md i=3→S A'))∧k (fl a o.dst v) A'
 else k (fl a o.dst undef) A
def Kb (L:Nat→Bool) (i:Nat) (o:Oper):Prop:=L i=false∧∀e∈o.after,Region.binds .any e=true→L e.on=true
def c8 (L:Nat→Bool) (i:Nat):Nat→Bool:=fun j=>if j=i then true else L j
def ub (P:Program) (ct:Array Oper) (S:AW→Prop) (md:Nat→Nat) (K:Fr→AW→Prop):Nat→(Nat→Bool)→Fr→AW→Prop
 | 0,L,a,A=>(∀i,i<ct.size→L i=true)∧K a A
 | n+1,L,a,A=>((∀i,i<ct.size→L i=true)→K a A)∧(A.Wf→∀i o,ct[i]? = some o→Kb L i o→rm P ct S md i o a A (ub P ct S md K n (c8 L i)))
theorem rm.mono {i:Nat} {o:Oper} {a:Fr} {A:AW} {k k':Fr→AW→Prop} (h:rm P ct S md i o a A k)
 (hk:∀v A',(md i≤1→A'=A)→(md i=2→A.le A')→(md i=3→lT ct a o=true→S A')→(lT ct a o=false→A'=A)→k (fl a o.dst v) A'→k' (fl a o.dst v) A'):rm P ct S md i o a A k':=by
 unfold rm at *
 split
 · rename_i hg
   rw [if_pos hg] at h
   split
   · rename_i hm
     rw [if_pos hm] at h
     obtain⟨v,h1,h2⟩:=h
     exact⟨v,h1,hk v A (fun _=>rfl) (fun e=>by omega) (fun e=>by omega) (fun _=>rfl) h2⟩
   · rename_i hm
     rw [if_neg hm] at h
     refine h.mono fun v A' ⟨h1,h2⟩=>⟨h1,hk v A' (fun e=>by omega) (fun e=>?_) (fun e _=>?_) (fun e=>?_) h2⟩
     · rwa [if_pos e] at h1
     · rw [if_neg (by omega)] at h1;exact h1 e
     · rw [e] at hg;cases hg
 · rename_i hg
   rw [if_neg hg] at h
   have EO:lT ct a o=false:=by simpa using hg
   exact hk undef A (fun _=>rfl) (fun _=>AW.le.refl A) (fun _ e=>by rw [e] at EO;cases EO) (fun _=>rfl) h
theorem rm.U4 {i:Nat} {o:Oper} {a:Fr} {A:AW} {k:Fr→AW→Prop} (h:rm P ct S md i o a A k):Kf P ct o a A k:=by
 unfold rm at h
 unfold Kf
 split
 · rename_i hg
   rw [if_pos hg] at h
   split at h
   · obtain⟨v,h1,h2⟩:=h
     simp only [iC,h1]
     exact h2
   · exact h.mono fun v A' hh=>hh.2
 · rename_i hg
   rw [if_neg hg] at h
   exact h
theorem wY {n:Nat} {Q:Exit→Fr→AW→Prop} {a:Fr} {A:AW} {id:Nat} (hm:P.follows .mixedOrders=true) (rf:j9 ct=true) {k:Nat}
 (h:ub P ct S md (Q .normal) k (fun _=>false) a A):fj P n (.region id ct true) Q a A:=by
 refine I3 hm rf (fun L a A=>∃k,ub P ct S md (Q .normal) k L a A) ⟨k,h⟩ ?_ ?_
 · rintro L a A i o hw ⟨k,hk⟩ ho hL iY
   cases k with
   | zero=>
     have:=hk.1 i (Array.getElem?_eq_some_iff.1 ho).1
     rw [hL] at this
     cases this
   | succ k=>
     have:=(hk.2 hw i o ho ⟨hL,iY⟩).U4
     unfold Kf at this ⊢
     split
     · rename_i hg
       rw [if_pos hg] at this
       exact this.mono fun v A' hh=>⟨k,hh⟩
     · rename_i hg
       rw [if_neg hg] at this
       exact⟨k,this⟩
 · rintro L a A _ ⟨k,hk⟩ kE
   cases k with
   | zero=>exact hk.2
   | succ k=>exact hk.1 kE
theorem NT {a:Fr} {d:Option Tmp} {v:Value} {x:Operand} (h:∀t,d=some t→x≠.tmp t):ki (fl a d v) x=ki a x:=by
 cases d with
 | none=>rfl
 | some t=>
   cases x with
   | tmp q=>
     have:q≠t:=fun e=>h t rfl (by rw [e])
     simp [fl,Ii,this]
   | _=>rfl
theorem Gg {a:Fr} {d:Option Tmp} {v:Value} {o:Oper} (h:∀t,d=some t→t∉o.looksAt ct):lT ct (fl a d v) o=lT ct a o:=by
 unfold lT
 cases hg:o.guard with
 | none=>rfl
 | some g=>
   obtain⟨j,w⟩:=g
   simp only
   cases hj:(ct[j]?).bind (·.dst) with
   | none=>rfl
   | some q=>
     simp only
     have ke:∀t,d=some t→q≠t:=fun t ht e=>h t ht (by simp [Oper.looksAt,hg,hj,e])
     have:fl a d v q=a q:=by
      cases d with
      | none=>rfl
      | some t=>simp [fl,Ii,ke t rfl]
     rw [this]
theorem qF {a:Fr} {d:Option Tmp} {v:Value} {o:Oper} (h:∀t,d=some t→t∉o.looksAt ct):∀x∈o.op.operands,ki (fl a d v) x=ki a x:=by
 intro x hx
 refine NT fun t ht e=>h t ht ?_
 subst e
 simp only [Oper.looksAt,List.mem_append,List.mem_filterMap]
 exact .inl ⟨.tmp t,Array.mem_toList_iff.2 hx,rfl⟩
theorem vJ {a:Fr} {d e:Option Tmp} {v u:Value} (h:∀t,d=some t→e≠some t):fl (fl a d v) e u=fl (fl a e u) d v:=by
 cases d with
 | none=>rfl
 | some t=>
   cases e with
   | none=>rfl
   | some q=>
     have:t≠q:=fun x=>h t rfl (by rw [x])
     funext j
     simp only [fl,Ii]
     by_cases h1:j=q
     · subst h1
       have:¬j=t:=fun x=>this x.symm
       simp [this]
     · simp [h1]
theorem rm.QZ {j:Nat} {oi oj:Oper} {a:Fr} {A:AW} {v:Value} {k:Fr→AW→Prop} (S4:oi.apart ct oj=true) (h:rm P ct S md j oj (fl a oi.dst v) A k) :
 rm P ct S md j oj a A fun a' A'=>k (fl a' oi.dst v) A':=by
 obtain⟨h1,h2,h3⟩:=Oper.apart_spec S4
 unfold rm at *
 rw [Gg h1] at h
 split
 · rename_i hg
   rw [if_pos hg] at h
   split
   · rename_i hm
     rw [if_pos hm,Af (qF h1)] at h
     obtain⟨u,h4,h5⟩:=h
     exact⟨u,h4,by show k (fl (fl a oj.dst u) oi.dst v) A;rw [←vJ h2];exact h5⟩
   · rename_i hm
     rw [if_neg hm,GJ (qF h1)] at h
     refine h.mono fun u A' ⟨h4,h5⟩=>⟨h4,by show k (fl (fl a oj.dst u) oi.dst v) A';rw [←vJ h2];exact h5⟩
 · rename_i hg
   rw [if_neg hg] at h
   rw [←vJ h2]
   exact h
def mv (ct:Array Oper) (L:Nat→Bool):Prop:=∀k o,ct[k]? = some o→L k=true→∀e∈o.after,Region.binds .any e=true→L e.on=true
def N6 (oL:List Nat) (m:Nat) (e:Edge):Nat:=if Region.binds .any e=true then (m ||| oL.getD e.on 0) ||| 2 ^ e.on else m
def Qj:List Oper→List Nat→List Nat
 | [],acc=>acc
 | o::r,acc=>Qj r (acc++[o.after.toList.foldl (N6 acc) 0])
def w9 (ct:Array Oper) (oL:List Nat):Bool:=(List.range ct.size).all fun i=>match ct[i]? with|some o=>oL.getD i 0 == o.after.toList.foldl (N6 oL) 0|none=>false
theorem GD {oL:List Nat} {q:Nat}:∀(l:List Edge) (m:Nat),(l.foldl (N6 oL) m).testBit q=true→m.testBit q=true∨∃e∈l,Region.binds .any e=true∧((oL.getD e.on 0).testBit q=true∨e.on=q)
 | [],m,h=>.inl h
 | e::l,m,h=>by
   rw [List.foldl_cons] at h
   rcases GD l _ h with h1|⟨e',h1,h2⟩
   · unfold N6 at h1
     split at h1
     · rename_i hb
       rw [Nat.testBit_or,Nat.testBit_or,Bool.or_eq_true,Bool.or_eq_true] at h1
       rcases h1 with (h1|h1)|h1
       · exact .inl h1
       · exact .inr ⟨e,by simp,hb,.inl h1⟩
       · rw [Nat.testBit_two_pow] at h1
         exact .inr ⟨e,by simp,hb,.inr (by simpa using h1)⟩
     · exact .inl h1
   · exact .inr ⟨e',by simp [h1],h2⟩
theorem GC (ha:w9 ct oL=true) {i q:Nat} {o:Oper} (ho:ct[i]? = some o) (h:(oL.getD i 0).testBit q=true) :
 ∃e∈o.after,Region.binds .any e=true∧((oL.getD e.on 0).testBit q=true∨e.on=q):=by
 have:=List.all_eq_true.1 ha i (List.mem_range.2 (Array.getElem?_eq_some_iff.1 ho).1)
 rw [ho] at this
 simp only [beq_iff_eq] at this
 rw [this] at h
 rcases GD _ _ h with h1|⟨e,h1,h2⟩
 · simp at h1
 · exact⟨e,Array.mem_toList_iff.1 h1,h2⟩
theorem zY (rf:j9 ct=true) (ha:w9 ct oL=true) {L:Nat→Bool} (hc:mv ct L) {q:Nat}:∀n k o,k<n→ct[k]? = some o→L k=true→(oL.getD k 0).testBit q=true→L q=true
 | 0,k,o,h,_,_,_=>by omega
 | n+1,k,o,hk,ho,hL,hb=>by
   obtain⟨e,he,DN,h1⟩:=GC ha ho hb
   have R7:=hc k o ho hL e he DN
   rcases h1 with h1|h1
   · have dQ:=k8 rf ho he DN
     have XZ:=(Array.getElem?_eq_some_iff.1 ho).1
     exact zY rf ha hc n e.on ct[e.on] (by omega) (Array.getElem?_eq_getElem (by omega)) R7 h1
   · rw [←h1];exact R7
theorem Cb (rf:j9 ct=true) (ha:w9 ct oL=true) {L:Nat→Bool} (hc:mv ct L) {j q:Nat} {o:Oper} (ho:ct[j]? = some o) (hr:Kb L j o) (hb:(oL.getD j 0).testBit q=true):L q=true:=by
 obtain⟨e,he,DN,h1⟩:=GC ha ho hb
 have R7:=hr.2 e he DN
 rcases h1 with h1|h1
 · have dQ:=k8 rf ho he DN
   have XZ:=(Array.getElem?_eq_some_iff.1 ho).1
   exact zY rf ha hc _ e.on ct[e.on] (Nat.lt_succ_self _) (Array.getElem?_eq_getElem (by omega)) R7 h1
 · rw [←h1];exact R7
theorem mv.set {L:Nat→Bool} (hc:mv ct L) {i:Nat} {o:Oper} (ho:ct[i]? = some o) (hr:Kb L i o):mv ct (c8 L i):=by
 intro k o' Nv hk e he hb
 unfold c8 at hk ⊢
 split
 · rfl
 · split at hk
   · rename_i e'
     subst e'
     rw [ho] at Nv
     injection Nv with Nv
     subst Nv
     exact hr.2 e he hb
   · exact hc k o' Nv hk e he hb
theorem Kb.mono {L:Nat→Bool} {i j:Nat} {o:Oper} (h:Kb L i o) (ke:i≠j):Kb (c8 L j) i o:=by
 refine⟨by simp [c8,ke,h.1],fun e he hb=>?_⟩
 unfold c8
 split
 · rfl
 · exact h.2 e he hb
theorem Jk (L:Nat→Bool) (i j:Nat):c8 (c8 L i) j=c8 (c8 L j) i:=by
 funext k
 simp only [c8]
 split<;>split<;>rfl
theorem Aq (rf:j9 ct=true) (ha:w9 ct oL=true) {i:Nat} {o:Oper} {v:Value} (hi:ct[i]? = some o) (SZ:md i≤1):∀(n:Nat) (L:Nat→Bool) (a:Fr) (A:AW),mv ct L→
 (∀j oj,ct[j]? = some oj→j≠i→L j=false→(∀e∈oj.after,Region.binds .any e=true→e.on≠i)→o.apart ct oj=true)→
 (sL o.op=true∨(∀j oj,ct[j]? = some oj→j≠i→3≤md j→L j=false→(oL.getD j 0).testBit i=true)∨((∀j oj,ct[j]? = some oj→j≠i→4≤md j→L j=false→(oL.getD j 0).testBit i=true)∧∀A',S A'→lT ct a o=true→aq P A' (ki a) o.op=some v))→
 Kb L i o→((lT ct a o=true∧aq P A (ki a) o.op=some v)∨(lT ct a o=false∧v=undef))→
 ub P ct S md K n (c8 L i) (fl a o.dst v) A→ub P ct S md K (n+1) L a A:=by
 intro n
 induction n with
 | zero=>
   intro L a A hc zH dn hr hy H
   refine⟨fun kE=>?_,fun hw j oj hj EK=>?_⟩
   · have:=kE i (Array.getElem?_eq_some_iff.1 hi).1
     rw [hr.1] at this
     cases this
   · by_cases jW:j=i
     · subst jW
       rw [hi] at hj
       injection hj with hj
       subst hj
       unfold rm
       rcases hy with ⟨h1,h2⟩|⟨h1,rfl⟩
       · rw [if_pos h1,if_pos SZ]
         exact⟨v,h2,H⟩
       · rw [if_neg (by simp [h1])]
         exact H
     · have:=H.1 j (Array.getElem?_eq_some_iff.1 hj).1
       simp [c8,jW,EK.1] at this
 | succ n ih=>
   intro L a A hc zH dn hr hy H
   refine⟨fun kE=>?_,fun hw j oj hj EK=>?_⟩
   · have:=kE i (Array.getElem?_eq_some_iff.1 hi).1
     rw [hr.1] at this
     cases this
   · by_cases jW:j=i
     · subst jW
       rw [hi] at hj
       injection hj with hj
       subst hj
       unfold rm
       rcases hy with ⟨h1,h2⟩|⟨h1,rfl⟩
       · rw [if_pos h1,if_pos SZ]
         exact⟨v,h2,H⟩
       · rw [if_neg (by simp [h1])]
         exact H
     · have Uf:∀e∈oj.after,Region.binds .any e=true→e.on≠i:=fun e he hb QG=>by
        have:=EK.2 e he hb
        rw [QG,hr.1] at this
        cases this
       have S4:=zH j oj hj jW EK.1 Uf
       obtain⟨g1,g2,g3⟩:=Oper.apart_spec S4
       have h1:=H.2 hw j oj hj (EK.mono jW)
       refine(rm.QZ S4 h1).mono fun u A' m1 m2 m3 m4 hk=>?_
       have xK:lT ct (fl a oj.dst u) o=lT ct a o:=Gg g3
       have Mu:∀A0,aq P A0 (ki (fl a oj.dst u)) o.op=aq P A0 (ki a) o.op:=fun A0=>Af (qF g3)
       have iz:=hc.set hj EK
       refine ih (c8 L j) (fl a oj.dst u) A' iz ?_ ?_ (hr.mono (Ne.symm jW)) ?_ (by rw [Jk];exact hk)
       · intro q oq hq Lv IV xJ
         refine zH q oq hq Lv ?_ xJ
         unfold c8 at IV
         split at IV
         · cases IV
         · exact IV
       · rcases dn with h|h|h
         · exact .inl h
         · refine .inr (.inl fun q oq hq Lv h3 IV=>h q oq hq Lv h3 ?_)
           unfold c8 at IV
           split at IV
           · cases IV
           · exact IV
         · refine .inr (.inr ⟨fun q oq hq Lv h3 IV=>h.1 q oq hq Lv h3 ?_,fun U7 hS hg=>by rw [Mu];exact h.2 U7 hS (by rw [←xK];exact hg)⟩)
           unfold c8 at IV
           split at IV
           · cases IV
           · exact IV
       · rw [xK,Mu]
         rcases hy with ⟨h2,h3⟩|h2
         · refine .inl ⟨h2,?_⟩
           rcases Nat.lt_or_ge (md j) 2 with vT|vT
           · rw [m1 (by omega)];exact h3
           · rcases Nat.lt_or_ge (md j) 3 with Gc|Gc
             · have eG:=m2 (by omega)
               exact N3 (fun i o hi=>eG.iU hw hi) h3
             · rcases dn with h|h|h
               · rw [Ia h];exact h3
               · exfalso
                 have:=Cb rf ha hc hj EK (h j oj hj jW Gc EK.1)
                 rw [hr.1] at this
                 cases this
               · cases S1:lT ct a oj with
                 | true=>
                   rcases Nat.lt_or_ge (md j) 4 with NA|NA
                   · exact h.2 A' (m3 (by omega) S1) h2
                   · exfalso
                     have:=Cb rf ha hc hj EK (h.1 j oj hj jW NA EK.1)
                     rw [hr.1] at this
                     cases this
                 | false=>rw [m4 S1];exact h3
         · exact .inr h2
structure xP where
 dst:Option Tmp
 op:Op
 guard:Option (Option Tmp×Bool)
 M5:Nat
def SM (ct:Array Oper) (x:Nat×Nat):Option xP:=(ct[x.1]?).map fun o=>⟨o.dst,o.op,jt ct o.guard,x.2⟩
def dK (ct:Array Oper) (l8:List (Nat×Nat)):List xP:=l8.filterMap (SM ct)
def Ke (P:Program) (A:AW) (r:Operand→Value) (op:Op) (k:Value→Prop):Prop:=
 match aq P A r op with
 | some v=>k v
 | none=>False
def cm (P:Program) (S:AW→Prop) (K:Fr→AW→Prop):List xP→Fr→AW→Prop
 | [],a,A=>K a A
 | o::jB,a,A=>
   if sg a o.guard=true then
    match o.M5 with
    | 0=>Ke P A (ki a) o.op fun v=>cm P S K jB (fl a o.dst v) A
    | 1=>Ke P A (ki a) o.op fun v=>(∀A',S A'→aq P A' (ki a) o.op=some v)∧cm P S K jB (fl a o.dst v) A
    | 2=>iC P o.op (ki a) A fun v A'=>A.le A'∧cm P S K jB (fl a o.dst v) A'
    | 3=>iC P o.op (ki a) A fun v A'=>S A'∧cm P S K jB (fl a o.dst v) A'
    | _=>iC P o.op (ki a) A fun v A'=>cm P S K jB (fl a o.dst v) A'
   else cm P S K jB (fl a o.dst undef) A
def DA (l8:List (Nat×Nat)) (j:Nat):Nat:=((l8.find? fun x=>x.1 == j).map (·.2)).getD 3
def tF (M:Nat) (i:Nat) (o:Oper):Bool:=!M.testBit i && o.after.all fun e=>!Region.binds .any e || M.testBit e.on
def ON (ct:Array Oper) (M:Nat) (i:Nat) (o:Oper):Bool:=(List.range ct.size).all fun j=>j == i || M.testBit j || match ct[j]? with
 | some oj=>oj.after.any (fun e=>Region.binds .any e && e.on == i) || o.apart ct oj
 | none=>true
def NQ (ct:Array Oper) (oL:List Nat) (l8:List (Nat×Nat)) (M i:Nat):Bool:=(List.range ct.size).all fun j=>j == i || M.testBit j || !(Nat.ble 3 (DA l8 j)) || (oL.getD j 0).testBit i
def LT (ct:Array Oper) (oL:List Nat) (l8:List (Nat×Nat)) (M i:Nat):Bool:=(List.range ct.size).all fun j=>j == i || M.testBit j || !(Nat.ble 4 (DA l8 j)) || (oL.getD j 0).testBit i
def Q3 (ct:Array Oper) (M i:Nat):Bool:=(List.range ct.size).all fun j=>j == i || match ct[j]? with
 | some oj=>!tF M j oj
 | none=>true
def ID (ct:Array Oper) (oL:List Nat) (l8:List (Nat×Nat)):Nat→List (Nat×Nat)→Bool
 | M,[]=>(List.range ct.size).all fun j=>M.testBit j
 | M,(i,m)::r=>(match ct[i]? with
  | none=>false
  | some o=>tF M i o && Nat.beq (DA l8 i) m && (if Nat.ble m 1 then ON ct M i o && ((Nat.beq m 1 && LT ct oL l8 M i) || sL o.op || NQ ct oL l8 M i) else Q3 ct M i)) && ID ct oL l8 (M ||| 2 ^ i) r
def JC (ct:Array Oper) (l8:List (Nat×Nat)):Bool:=j9 ct && (let oL:=Qj ct.toList [];w9 ct oL && (ID ct oL l8 0 l8 && l8.all fun x=>match ct[x.1]? with|some o=>Nat.ble x.2 1 == M0 o.op|none=>false))
theorem lf {M i:Nat} {o:Oper} {L:Nat→Bool} (hi:i<ct.size) (rf:j9 ct=true) (ho:ct[i]? = some o) (hL:∀j,j<ct.size→L j=M.testBit j):tF M i o=true↔Kb L i o:=by
 unfold tF Kb
 rw [Bool.and_eq_true,Bool.not_eq_true',←hL i hi,Array.all_eq_true_iff_forall_mem]
 refine and_congr Iff.rfl (forall_congr' fun e=>forall_congr' fun he=>?_)
 simp only [Bool.or_eq_true,Bool.not_eq_true']
 constructor
 · rintro (h|h) hb
   · rw [h] at hb;cases hb
   · have dQ:=k8 rf ho he hb
     rw [hL e.on (by omega)]
     exact h
 · intro h
   cases hb:Region.binds .any e
   · exact .inl rfl
   · have dQ:=k8 rf ho he hb
     rw [←hL e.on (by omega)]
     exact .inr (h hb)
theorem vt (rf:j9 ct=true) (ha:w9 ct oL=true) {l8:List (Nat×Nat)}:∀(l:List (Nat×Nat)) (M:Nat) (L:Nat→Bool) (a:Fr) (A:AW),(∀j,j<ct.size→L j=M.testBit j)→mv ct L→
 ID ct oL l8 M l=true→cm P S K (dK ct l) a A→ub P ct S (DA l8) K l.length L a A
 | [],M,L,a,A,hL,hc,hg,h=>⟨fun j hj=>by rw [hL j hj];exact List.all_eq_true.1 hg j (List.mem_range.2 hj),h⟩
 | (i,m)::r,M,L,a,A,hL,hc,hg,h=>by
   unfold ID at hg
   rw [Bool.and_eq_true] at hg
   obtain⟨tp,pM⟩:=hg
   cases hi:ct[i]? with
   | none=>rw [hi] at tp;cases tp
   | some o=>
     rw [hi] at tp
     simp only [Bool.and_eq_true] at tp
     obtain⟨⟨hr,SZ⟩,qj⟩:=tp
     have PL:=(Array.getElem?_eq_some_iff.1 hi).1
     have Uh:DA l8 i=m:=Nat.eq_of_beq_eq_true SZ
     have Mt:Kb L i o:=(lf PL rf hi hL).1 hr
     have Yr:∀j,j<ct.size→c8 L i j=(M ||| 2 ^ i).testBit j:=fun j hj=>by
      rw [Nat.testBit_or,Nat.testBit_two_pow,←hL j hj]
      unfold c8
      by_cases e:j=i
      · subst e;simp
      · have:¬i=j:=fun x=>e x.symm
        simp [e,this]
     have LL:=hc.set hi Mt
     have IH:∀a A,cm P S K (dK ct r) a A→ub P ct S (DA l8) K r.length (c8 L i) a A:=fun a A h=>vt rf ha r (M ||| 2 ^ i) _ a A Yr LL pM h
     have Ul:dK ct ((i,m)::r)=⟨o.dst,o.op,jt ct o.guard,m⟩::dK ct r:=by simp [dK,SM,hi]
     rw [Ul] at h
     unfold cm at h
     simp only [←Il] at h
     have Ru:¬m≤1→∀j oj,ct[j]? = some oj→Kb L j oj→j=i:=fun DK j oj hj EK=>by
      rw [if_neg (by simpa [Nat.ble_eq] using DK)] at qj
      have h1:=List.all_eq_true.1 qj j (List.mem_range.2 (Array.getElem?_eq_some_iff.1 hj).1)
      rw [hj] at h1
      simp only [Bool.or_eq_true,beq_iff_eq,Bool.not_eq_true'] at h1
      rcases h1 with h1|h1
      · exact h1
      · rw [(lf (Array.getElem?_eq_some_iff.1 hj).1 rf hj hL).2 EK] at h1
        cases h1
     have RF:¬∀j,j<ct.size→L j=true:=fun kE=>by
      have:=kE i PL
      rw [Mt.1] at this
      cases this
     by_cases DK:m≤1
     · rw [if_pos (by simpa [Nat.ble_eq] using DK)] at qj
       simp only [Bool.and_eq_true] at qj
       obtain⟨tS,dn⟩:=qj
       have zH:∀j oj,ct[j]? = some oj→j≠i→L j=false→(∀e∈oj.after,Region.binds .any e=true→e.on≠i)→o.apart ct oj=true:=fun j oj hj jW LN xJ=>by
        have vz:=(Array.getElem?_eq_some_iff.1 hj).1
        have h1:=List.all_eq_true.1 tS j (List.mem_range.2 vz)
        rw [hj,←hL j vz,LN] at h1
        simp only [Bool.or_eq_true,beq_iff_eq,Bool.false_eq_true,or_false] at h1
        rcases h1 with h1|h1|h1
        · exact absurd h1 jW
        · exfalso
          rw [Array.any_eq_true] at h1
          obtain⟨q,hq,h2⟩:=h1
          simp only [Bool.and_eq_true,beq_iff_eq] at h2
          exact xJ _ (Array.getElem_mem hq) h2.1 h2.2
        · exact h1
       have cC:∀v,((lT ct a o=true∧aq P A (ki a) o.op=some v)∨(lT ct a o=false∧v=undef))→(m=1→lT ct a o=true→∀A',S A'→aq P A' (ki a) o.op=some v)→
        cm P S K (dK ct r) (fl a o.dst v) A→ub P ct S (DA l8) K (r.length+1) L a A:=by
        intro v hy hS hk
        refine Aq rf ha hi (by omega) r.length L a A hc zH ?_ Mt hy (IH _ _ hk)
        simp only [Bool.or_eq_true] at dn
        rcases dn with (h1|h1)|h1
        · rw [Bool.and_eq_true] at h1
          refine .inr (.inr ⟨fun j oj hj jW h3 LN=>?_,fun A' kL xK=>hS (Nat.eq_of_beq_eq_true h1.1) xK A' kL⟩)
          have vz:=(Array.getElem?_eq_some_iff.1 hj).1
          have h2:=List.all_eq_true.1 h1.2 j (List.mem_range.2 vz)
          rw [←hL j vz,LN] at h2
          have NI:Nat.ble 4 (DA l8 j)=true:=Nat.ble_eq_true_of_le h3
          rw [NI] at h2
          simpa [jW] using h2
        · exact .inl h1
        · refine .inr (.inl fun j oj hj jW h3 LN=>?_)
          have vz:=(Array.getElem?_eq_some_iff.1 hj).1
          have h2:=List.all_eq_true.1 h1 j (List.mem_range.2 vz)
          rw [←hL j vz,LN] at h2
          have NI:Nat.ble 3 (DA l8 j)=true:=Nat.ble_eq_true_of_le h3
          rw [NI] at h2
          simpa [jW] using h2
       split at h
       · rename_i xK
         have:m=0∨m=1:=by omega
         rcases this with rfl|rfl
         · simp only [Ke] at h
           split at h
           · rename_i v hv
             exact cC v (.inl ⟨xK,hv⟩) (fun e=>by omega) h
           · exact h.elim
         · simp only [Ke] at h
           split at h
           · rename_i v hv
             exact cC v (.inl ⟨xK,hv⟩) (fun _ _=>h.1) h.2
           · exact h.elim
       · rename_i xK
         have LH:lT ct a o=false:=by simpa using xK
         exact cC undef (.inr ⟨LH,rfl⟩) (fun _ e=>by rw [LH] at e;cases e) h
     · refine⟨fun kE=>absurd kE RF,fun hw j oj hj EK=>?_⟩
       have jW:=Ru DK j oj hj EK
       subst jW
       rw [hi] at hj
       injection hj with hj
       subst hj
       unfold rm
       split at h
       · rename_i xK
         rw [if_pos xK,if_neg (by omega),Uh]
         by_cases h2:m=2
         · subst h2
           exact h.mono fun v A' hh=>⟨by rw [if_pos rfl];exact hh.1,IH _ _ hh.2⟩
         · have:∃q,m=q+3:=⟨m-3,by omega⟩
           obtain⟨q,rfl⟩:=this
           cases q with
           | zero=>exact h.mono fun v A' hh=>⟨by rw [if_neg h2];exact fun _=>hh.1,IH _ _ hh.2⟩
           | succ q=>exact h.mono fun v A' hh=>⟨by rw [if_neg h2];exact fun e=>by omega,IH _ _ hh⟩
       · rename_i xK
         rw [if_neg xK]
         exact IH _ _ h
end
theorem L3 {P:Program} {n:Nat} {Q:Exit→Fr→AW→Prop} {a:Fr} {A:AW} {id:Nat} {ct:Array Oper} (S:AW→Prop) (l8:List (Nat×Nat)) (hm:P.follows .mixedOrders=true) (hB:JC ct l8=true)
 (h:∀K:Fr→AW→Prop,(∀a A,Q .normal a A→K a A)→cm P S K (dK ct l8) a A):fj P n (.region id ct true) Q a A:=by
 simp only [JC,Bool.and_eq_true] at hB
 exact wY hm hB.1 (vt hB.1 hB.2.1 l8 0 _ a A (fun j _=>by simp) (fun k o _ hk=>by cases hk) hB.2.2.1 (h _ fun _ _ h=>h))
theorem Hz {P:Program} {S:AW→Prop} {K:Fr→AW→Prop} {o:xP} {jB:List xP} {a:Fr} {A:AW}
 (h:∀R:Fr→AW→Prop,(∀a A,cm P S K jB a A→R a A)→
  if sg a o.guard=true then
   match o.M5 with
   | 0=>Ke P A (ki a) o.op fun v=>R (fl a o.dst v) A
   | 1=>Ke P A (ki a) o.op fun v=>(∀A',S A'→aq P A' (ki a) o.op=some v)∧R (fl a o.dst v) A
   | 2=>iC P o.op (ki a) A fun v A'=>A.le A'∧R (fl a o.dst v) A'
   | 3=>iC P o.op (ki a) A fun v A'=>S A'∧R (fl a o.dst v) A'
   | _=>iC P o.op (ki a) A fun v A'=>R (fl a o.dst v) A'
  else R (fl a o.dst undef) A):cm P S K (o::jB) a A:=h _ fun _ _ h=>h
attribute [simp] Ke
open Go
def cQ (val:Nat→Value) (i:Nat) (v:Value):Nat→Value:=fun j=>if j=i then v else val j
def IC (ct:Array Oper):Bool:=j9 ct && (List.range ct.size).all fun i=>match ct[i]? with
 | some o=>o.guard.isNone && (List.range ct.size).all fun j=>j == i || match ct[j]?,o.dst with
   | some oj,some d=>!(oj.dst == some d)
   | _,_=>true
 | none=>false
theorem zl {ct:Array Oper} (h:IC ct=true):j9 ct=true∧(∀(i:Nat) (o:Oper),ct[i]? = some o→o.guard=none)∧
 ∀(i j:Nat) (o oj:Oper) (d:Tmp),ct[i]? = some o→ct[j]? = some oj→i≠j→o.dst=some d→oj.dst≠some d:=by
 simp only [IC,Bool.and_eq_true] at h
 refine⟨h.1,fun i o ho=>?_,fun i j o oj d ho VO ke hd Yd=>?_⟩
 · have:=List.all_eq_true.1 h.2 i (List.mem_range.2 (Array.getElem?_eq_some_iff.1 ho).1)
   rw [ho] at this
   simp only [Bool.and_eq_true] at this
   simpa using this.1
 · have:=List.all_eq_true.1 h.2 i (List.mem_range.2 (Array.getElem?_eq_some_iff.1 ho).1)
   rw [ho] at this
   simp only [Bool.and_eq_true] at this
   have h2:=List.all_eq_true.1 this.2 j (List.mem_range.2 (Array.getElem?_eq_some_iff.1 VO).1)
   rw [VO,hd] at h2
   simp only [Bool.or_eq_true,beq_iff_eq,Bool.not_eq_true'] at h2
   rcases h2 with h2|h2
   · exact ke h2.symm
   · rw [Yd] at h2
     simp at h2
theorem NY {P:Program} {n:Nat} {Q:Exit→Fr→AW→Prop} {a0:Fr} {A0:AW} {id:Nat} {ct:Array Oper} (hm:P.follows .mixedOrders=true) (hB:IC ct=true)
 (G:(Nat→Bool)→(Nat→Value)→HP) (φ:Nat→(Nat→Value)→Prop)
 (hG:∀(S:Nat→Bool) (i:Nat) (val:Nat→Value) (v:Value),mv ct S→S i=false→G S (cQ val i v)=G S val)
 (hφ:∀(S:Nat→Bool) (i j:Nat) (val:Nat→Value) (v:Value),mv ct S→S i=false→S j=true→φ j val→φ j (cQ val i v))
 (h0:∀val,bK A0 (G (fun _=>false) val))
 (uR:∀(i:Nat) (o:Oper),ct[i]? = some o→∀(S:Nat→Bool) (val:Nat→Value) (a:Fr) (A:AW),S i=false→(∀e∈o.after,Region.binds .any e=true→S e.on=true)→mv ct S→(∀j,S j=true→φ j val)→A.Wf→bK A (G S val)→
  (∀(j:Nat) (oj:Oper) (d:Tmp),ct[j]? = some oj→oj.dst=some d→S j=true→a d=val j)→(∀d:Tmp,(ct.toList.all fun o=>!(o.dst == some d))=true→a d=a0 d)→
  iC P o.op (ki a) A fun v A'=>φ i (cQ val i v)∧bK A' (G (c8 S i) (cQ val i v)))
 (xy:∀(S:Nat→Bool) (val:Nat→Value) (a:Fr) (A:AW),(∀i,i<ct.size→S i=true)→(∀j,S j=true→φ j val)→A.Wf→bK A (G S val)→
  (∀(j:Nat) (oj:Oper) (d:Tmp),ct[j]? = some oj→oj.dst=some d→S j=true→a d=val j)→(∀d:Tmp,(ct.toList.all fun o=>!(o.dst == some d))=true→a d=a0 d)→Q .normal a A) :
 fj P n (.region id ct true) Q a0 A0:=by
 obtain⟨rf,Mz,Yb⟩:=zl hB
 intro iK m w ca hs hf
 have Nf:A0.Wf:=hs.EI
 refine I3 hm rf (fun S a A=>(A.Wf→mv ct S∧∃val,(∀j,S j=true→φ j val)∧bK A (G S val)∧(∀(j:Nat) (oj:Oper) (d:Tmp),ct[j]? = some oj→oj.dst=some d→S j=true→a d=val j)∧
  (∀d:Tmp,(ct.toList.all fun o=>!(o.dst == some d))=true→a d=a0 d)∧((∀i,i<ct.size→S i=true)→Q .normal a A))) ?_ ?_ ?_ iK m w ca hs hf
 · intro hw
   refine⟨?_,fun _=>undef,?_,h0 _,?_,?_,fun kE=>?_⟩
   · intro k o _ h;cases h
   · intro j h;cases h
   · intro j oj d _ _ h;cases h
   · intro d _;rfl
   · refine xy (fun _=>false) (fun _=>undef) a0 A0 kE ?_ Nf (h0 _) ?_ ?_
     · intro j h;cases h
     · intro j oj d _ _ h;cases h
     · intro d _;rfl
 · intro S a A i o hw hJ ho po iY
   obtain⟨iz,val,h1,h2,h3,h4,_⟩:=hJ hw
   have UD:=iz.set ho ⟨po,iY⟩
   have dn:=uR i o ho S val a A po iY iz h1 hw h2 h3 h4
   unfold Kf
   have hg:lT ct a o=true:=by simp [lT,Mz i o ho]
   rw [if_pos hg]
   refine dn.mono fun v A' ⟨h5,h6⟩ gY=>?_
   have hp:∀j,c8 S i j=true→φ j (cQ val i v):=fun j hj=>by
    by_cases e:j=i
    · subst e;exact h5
    · have:S j=true:=by simpa [c8,e] using hj
      exact hφ S i j val v iz po this (h1 j this)
   have tS:∀j oj d,ct[j]? = some oj→oj.dst=some d→c8 S i j=true→fl a o.dst v d=cQ val i v j:=fun j oj d hj hd Yn=>by
    by_cases e:j=i
    · subst e
      rw [ho] at hj
      injection hj with hj
      subst hj
      rw [hd]
      simp [fl,Ii,cQ]
    · have UN:S j=true:=by simpa [c8,e] using Yn
      have ke:o.dst≠some d:=fun x=>Yb i j o oj d ho hj (Ne.symm e) x hd
      have:fl a o.dst v d=a d:=by
       cases hod:o.dst with
       | none=>rfl
       | some q=>
         have:d≠q:=fun x=>ke (by rw [hod,x])
         simp [fl,Ii,this]
      rw [this,h3 j oj d hj hd UN]
      simp [cQ,e]
   have PA:∀d:Tmp,(ct.toList.all fun o=>!(o.dst == some d))=true→fl a o.dst v d=a0 d:=fun d hd=>by
    have ke:o.dst≠some d:=fun x=>by
     have:=List.all_eq_true.1 hd o (Array.mem_toList_iff.2 (Array.mem_of_getElem? ho))
     rw [x] at this
     simp at this
    have:fl a o.dst v d=a d:=by
     cases hod:o.dst with
     | none=>rfl
     | some q=>
       have:d≠q:=fun x=>ke (by rw [hod,x])
       simp [fl,Ii,this]
    rw [this]
    exact h4 d hd
   exact⟨UD,cQ val i v,hp,h6,tS,PA,fun kE=>xy _ _ _ _ kE hp gY h6 tS PA⟩
 · intro S a A hw hJ kE
   obtain⟨_,val,_,_,_,_,h⟩:=hJ hw
   exact h kE
def tu (ct:Array Oper) (k j:Nat):Bool:=match ct[k]? with
 | some o=>o.after.toList.any fun e=>Region.binds .any e && e.on == j
 | none=>false
def P9 (ct:Array Oper) (j d:Nat):Bool:=match ct[j]? with
 | some o=>o.dst == some d
 | none=>false
def OZ (ct:Array Oper) (d:Nat):Bool:=ct.toList.all fun o=>!(o.dst == some d)
def kS (ct:Array Oper) (i:Nat):Op:=match ct[i]? with
 | some o=>o.op
 | none=>.alloc 0
structure OR (ct:Array Oper) (φ:Nat→(Nat→Value)→Prop) (a0:Fr) (S:Nat→Bool) (val:Nat→Value) (a:Fr):Prop where
 Qd:∀k j,tu ct k j=true→S k=true→S j=true
 oU:∀j,S j=true→φ j val
 lx:∀j d,P9 ct j d=true→S j=true→a d=val j
 dH:∀d,OZ ct d=true→a d=a0 d
theorem DU {ct:Array Oper} {S:Nat→Bool} (hc:mv ct S) (k j:Nat) (h:tu ct k j=true) (hk:S k=true):S j=true:=by
 unfold tu at h
 split at h
 · rename_i o ho
   obtain⟨e,he,h2⟩:=List.any_eq_true.1 h
   simp only [Bool.and_eq_true,beq_iff_eq] at h2
   rw [←h2.2]
   exact hc k o ho hk e (Array.mem_toList_iff.1 he) h2.1
 · cases h
theorem L2 {P:Program} {n:Nat} {Q:Exit→Fr→AW→Prop} {a0:Fr} {A0:AW} {id:Nat} {ct:Array Oper} (hm:P.follows .mixedOrders=true) (hB:IC ct=true)
 (G:(Nat→Bool)→(Nat→Value)→HP) (φ:Nat→(Nat→Value)→Prop)
 (hG:∀(S:Nat→Bool) (i:Nat) (val:Nat→Value) (v:Value),(∀k j,tu ct k j=true→S k=true→S j=true)→S i=false→G S (cQ val i v)=G S val)
 (hφ:∀(S:Nat→Bool) (i j:Nat) (val:Nat→Value) (v:Value),(∀k j,tu ct k j=true→S k=true→S j=true)→S i=false→S j=true→φ j val→φ j (cQ val i v))
 (h0:∀val,bK A0 (G (fun _=>false) val))
 (uR:∀(i:Nat),i<ct.size→∀(S:Nat→Bool) (val:Nat→Value) (a:Fr) (A:AW),S i=false→(∀j,tu ct i j=true→S j=true)→OR ct φ a0 S val a→A.Wf→bK A (G S val)→
  iC P (kS ct i) (ki a) A fun v A'=>φ i (cQ val i v)∧bK A' (G (c8 S i) (cQ val i v)))
 (xy:∀(S:Nat→Bool) (val:Nat→Value) (a:Fr) (A:AW),(∀i,i<ct.size→S i=true)→OR ct φ a0 S val a→A.Wf→bK A (G S val)→Q .normal a A) :
 fj P n (.region id ct true) Q a0 A0:=by
 have Of:∀{S:Nat→Bool} {val:Nat→Value} {a:Fr},(∀(j:Nat) (oj:Oper) (d:Tmp),ct[j]? = some oj→oj.dst=some d→S j=true→a d=val j)→∀j d,P9 ct j d=true→S j=true→a d=val j:=by
  intro S val a h j d hd hj
  unfold P9 at hd
  split at hd
  · rename_i o ho
    exact h j o d ho (by simpa using hd) hj
  · cases hd
 refine NY hm hB G φ (fun S i val v hc=>hG S i val v (DU hc)) (fun S i j val v hc=>hφ S i j val v (DU hc)) h0 ?_ ?_
 · intro i o ho S val a A hi iY hc hp hw hs hf MG
   have Mu:kS ct i=o.op:=by unfold kS;rw [ho]
   have JI:∀j,tu ct i j=true→S j=true:=fun j hj=>by
    unfold tu at hj
    rw [ho] at hj
    obtain⟨e,he,h2⟩:=List.any_eq_true.1 hj
    simp only [Bool.and_eq_true,beq_iff_eq] at h2
    rw [←h2.2]
    exact iY e (Array.mem_toList_iff.1 he) h2.1
   have dQ:i<ct.size:=(Array.getElem?_eq_some_iff.1 ho).1
   have key:=uR i dQ S val a A hi JI ⟨DU hc,hp,Of hf,MG⟩ hw hs
   rw [Mu] at key
   exact key
 · intro S val a A kE hp hw hs hf MG
   refine xy S val a A kE ⟨?_,hp,Of hf,MG⟩ hw hs
   intro k j h hk
   unfold tu at h
   split at h
   · rename_i o ho
     obtain⟨e,he,h2⟩:=List.any_eq_true.1 h
     simp only [Bool.and_eq_true,beq_iff_eq] at h2
     have dQ:=k8 (zl hB).1 ho (Array.mem_toList_iff.1 he) h2.1
     have Zp:=(Array.getElem?_eq_some_iff.1 ho).1
     exact kE j (by omega)
   · cases h
open Go
def Rg (ct:Array Oper) (o:Oper):xP:=⟨o.dst,o.op,jt ct o.guard,3⟩
def ei (ct:Array Oper):List xP:=ct.toList.map (Rg ct)
theorem pD {P:Program} {ct:Array Oper} {K:Fr→AW→Prop}:∀(l:List Oper) (a:Fr) (A:AW),cm P (fun _=>True) K (l.map (Rg ct)) a A→Ih P ct K l a A
 | [],a,A,h=>h
 | o::jB,a,A,h=>by
   simp only [List.map_cons,cm,Rg] at h
   simp only [Ih,Il]
   split
   · rename_i hg
     rw [if_pos hg] at h
     exact h.mono fun v A' hh=>pD jB _ _ hh.2
   · rename_i hg
     rw [if_neg hg] at h
     exact pD jB _ _ h
section
variable {P:Program} {n:Nat} {Q:Exit→Fr→AW→Prop} {a:Fr} {A:AW} {id:Nat}
theorem wn {ct:Array Oper} (h:∀K:Fr→AW→Prop,(∀a A,Q .normal a A→K a A)→cm P (fun _=>True) K (ei ct) a A):fj P n (.region id ct false) Q a A:=
 H8 (pD _ _ _ (h _ fun _ _ h=>h))
theorem wl {ct:Array Oper} (hm:P.follows .mixedOrders=true) (l8:List (Nat×Nat)) (hB:JC ct l8=true)
 (h:∀K:Fr→AW→Prop,(∀a A,Q .normal a A→K a A)→cm P (fun _=>True) K (dK ct l8) a A):fj P n (.region id ct true) Q a A:=L3 _ l8 hm hB h
theorem AC {ct:Array Oper} (S:AW→Prop) (hm:P.follows .mixedOrders=true) (l8:List (Nat×Nat)) (hB:JC ct l8=true)
 (h:∀K:Fr→AW→Prop,(∀a A,Q .normal a A→K a A)→cm P S K (dK ct l8) a A):fj P n (.region id ct true) Q a A:=L3 S l8 hm hB h
end
theorem il {P:Program} {S:AW→Prop} {K:Fr→AW→Prop} {o:xP} {jB:List xP} {a:Fr} {A:AW}
 (h:∀R:Fr→AW→Prop,(∀a A,cm P S K jB a A→R a A)→
  if sg a o.guard=true then
   match o.M5 with
   | 0=>Ke P A (ki a) o.op fun v=>R (fl a o.dst v) A
   | 1=>Ke P A (ki a) o.op fun v=>(∀A',S A'→aq P A' (ki a) o.op=some v)∧R (fl a o.dst v) A
   | 2=>iC P o.op (ki a) A fun v A'=>A.le A'∧R (fl a o.dst v) A'
   | 3=>iC P o.op (ki a) A fun v A'=>S A'∧R (fl a o.dst v) A'
   | _=>iC P o.op (ki a) A fun v A'=>R (fl a o.dst v) A'
  else R (fl a o.dst undef) A):cm P S K (o::jB) a A:=Hz h
theorem Vt {P:Program} {S:AW→Prop} {K:Fr→AW→Prop} {a:Fr} {A:AW} (h:K a A):cm P S K [] a A:=h
theorem lr {A:AW} {p:Prop} (h:p):A.le A∧p:=⟨AW.le.refl A,h⟩
theorem la {A:AW} {o:ef} {p:Prop} (h:p):A.le (A.alloc o)∧p:=⟨AW.le.alloc A o,h⟩
theorem wb {P:Program} {n:Nat} {Q:Exit→Fr→AW→Prop} {a:Fr} {A:AW} {id:Nat} {c:Code} (h:fj P n c (At id Q) a A):fj P n (.block id c) Q a A:=JV h
theorem wq {P:Program} {n:Nat} {Q:Exit→Fr→AW→Prop} {a:Fr} {A:AW} {x y:Code} (h:fj P n x (sx (fj P n y Q) Q) a A):fj P n (.seq x y) Q a A:=eW h
theorem wr {P:Program} {n:Nat} {Q:Exit→Fr→AW→Prop} {a:Fr} {A:AW} (h:Q .ret a A):fj P n .ret Q a A:=I1 h
theorem wk {P:Program} {n:Nat} {Q:Exit→Fr→AW→Prop} {a:Fr} {A:AW} (h:Q .normal a A):fj P n .skip Q a A:=L1 h
theorem we {P:Program} {n:Nat} {Q:Exit→Fr→AW→Prop} {a:Fr} {A:AW} {id:Nat} (h:Q (.exit id) a A):fj P n (.exit id) Q a A:=L5 h
theorem wc {P:Program} {n:Nat} {Q:Exit→Fr→AW→Prop} {a:Fr} {A:AW} {c:Operand} {x y:Code} {b:Bool} (hc:ki a c=.bool b) (h1:b=true→fj P n x Q a A) (h2:b=false→fj P n y Q a A) :
 fj P n (.cond c x y) Q a A:=L6 hc h1 h2
theorem ws {P:Program} {n:Nat} {c:Code} {Q:Exit→Fr→AW→Prop} {a:Fr} {A:AW} {k:Nat} (h:fj P n c (sx (bB P n c Q k) Q) a A):bB P n c Q (k+1) a A:=h
theorem ib {c:Prop} [Decidable c] {p q:Prop} (h1:c→p) (h2:¬c→q):if c then p else q:=Ll h1 h2
theorem wS:(∀ct:Array Oper,ei ct=ct.toList.map (Rg ct))∧(∀(ct:Array Oper) (o:Oper),Rg ct o=⟨o.dst,o.op,jt ct o.guard,3⟩)∧
 (∀(ct:Array Oper) (l:List (Nat×Nat)),dK ct l=l.filterMap (SM ct))∧(∀(ct:Array Oper) (x:Nat×Nat),SM ct x=(ct[x.1]?).map fun o=>⟨o.dst,o.op,jt ct o.guard,x.2⟩)∧
 (∀(ct:Array Oper) (g:Option (Nat×Bool)),jt ct g=g.map fun x=>((ct[x.1]?).bind (·.dst),x.2))∧
 (∀(f:Oper→xP) (a:Oper) (l:List Oper),List.map f (a::l)=f a::List.map f l)∧(∀f:Oper→xP,List.map f []=[])∧
 (∀(f:Nat×Nat→Option xP) (a:Nat×Nat) (l:List (Nat×Nat)),List.filterMap f (a::l)=match f a with|none=>List.filterMap f l|some b=>b::List.filterMap f l)∧(∀f:Nat×Nat→Option xP,List.filterMap f []=[])∧
 (∀f:Oper→xP,Option.map f none=none)∧(∀(f:Oper→xP) (a:Oper),Option.map f (some a)=some (f a))∧
 (∀f:Nat×Bool→Option Tmp×Bool,Option.map f none=none)∧(∀(f:Nat×Bool→Option Tmp×Bool) (a:Nat×Bool),Option.map f (some a)=some (f a))∧
 (∀(l:List Oper) (i:Nat),l.toArray[i]? = l[i]?)∧(∀(a:Oper) (l:List Oper),(a::l)[0]? = some a)∧(∀(a:Oper) (l:List Oper) (i:Nat),(a::l)[i+1]? = l[i]?)∧
 (∀(a:Oper) (f:Oper→Option Tmp),(some a).bind f=f a):=by
 refine⟨fun _=>rfl,fun _ _=>rfl,fun _ _=>rfl,fun _ _=>rfl,fun _ _=>rfl,fun _ _ _=>rfl,fun _=>rfl,fun f a l=>?_,fun _=>rfl,fun _=>rfl,fun _ _=>rfl,fun _=>rfl,fun _ _=>rfl,fun l i=>?_,fun _ _=>rfl,fun _ _ _=>rfl,fun _ _=>rfl⟩
 · rw [List.filterMap_cons];cases f a<;>rfl
 · simp
attribute [simp] AW.fZ AW.dW Value.oneCell'
open Go
inductive sw where
 | nil
 | bu (i:Nat) (t:sw)
 | sC (i:Nat) (t:sw) (j:Nat) (t':sw)
inductive vy where
 | nil
 | bu (o:xP) (t:vy)
 | sC (o:xP) (t:vy) (o':xP) (t':vy)
def nC (ct:Array Oper) (md:List Nat) (i:Nat):xP:=match ct[i]? with
 | some o=>⟨o.dst,o.op,jt ct o.guard,md.getD i 3⟩
 | none=>⟨none,.alloc 0,none,3⟩
def hN (ct:Array Oper) (md:List Nat):sw→vy
 | .nil=>.nil
 | .bu i t=>.bu (nC ct md i) (hN ct md t)
 | .sC i t j t'=>.sC (nC ct md i) (hN ct md t) (nC ct md j) (hN ct md t')
def mP (P:Program) (S:AW→Prop) (o:xP) (a:Fr) (A:AW) (R:Fr→AW→Prop):Prop:=
 if sg a o.guard=true then
  match o.M5 with
  | 0=>Ke P A (ki a) o.op fun v=>R (fl a o.dst v) A
  | 1=>Ke P A (ki a) o.op fun v=>(∀A',S A'→aq P A' (ki a) o.op=some v)∧R (fl a o.dst v) A
  | 2=>iC P o.op (ki a) A fun v A'=>A.le A'∧R (fl a o.dst v) A'
  | 3=>iC P o.op (ki a) A fun v A'=>S A'∧R (fl a o.dst v) A'
  | _=>iC P o.op (ki a) A fun v A'=>R (fl a o.dst v) A'
 else R (fl a o.dst undef) A
def TW (P:Program) (S:AW→Prop) (K:Fr→AW→Prop):vy→Fr→AW→Prop
 | .nil,a,A=>K a A
 | .bu o t,a,A=>mP P S o a A (TW P S K t)
 | .sC o t o' t',a,A=>mP P S o a A (TW P S K t)∧mP P S o' a A (TW P S K t')
section
variable {P:Program} {ct:Array Oper} {S:AW→Prop} {K:Fr→AW→Prop} {oL:List Nat}
def KD (ct:Array Oper) (oL md:List Nat) (M i:Nat):Bool:=(List.range ct.size).all fun j=>j == i || M.testBit j || !(Nat.ble 3 (md.getD j 3)) || (oL.getD j 0).testBit i
def Je (ct:Array Oper) (oL md:List Nat) (M i:Nat):Bool:=(List.range ct.size).all fun j=>j == i || M.testBit j || !(Nat.ble 4 (md.getD j 3)) || (oL.getD j 0).testBit i
def Ol (ct:Array Oper) (M i j:Nat):Bool:=(List.range ct.size).all fun k=>k == i || k == j || match ct[k]? with
 | some o=>!tF M k o
 | none=>true
def IY (ct:Array Oper) (md:List Nat) (M i:Nat):Bool:=match ct[i]? with
 | some o=>tF M i o && !(Nat.ble (md.getD i 3) 1)
 | none=>false
def tA (ct:Array Oper) (oL md:List Nat):Nat→sw→Bool
 | M,.nil=>(List.range ct.size).all fun j=>M.testBit j
 | M,.bu i t=>(match ct[i]? with
  | none=>false
  | some o=>tF M i o && (if Nat.ble (md.getD i 3) 1 then ON ct M i o && ((Nat.beq (md.getD i 3) 1 && Je ct oL md M i) || sL o.op || KD ct oL md M i) else Ol ct M i i)) && tA ct oL md (M ||| 2 ^ i) t
 | M,.sC i t j t'=>IY ct md M i && IY ct md M j && Ol ct M i j && tA ct oL md (M ||| 2 ^ i) t && tA ct oL md (M ||| 2 ^ j) t'
def KB (ct:Array Oper) (md:List Nat) (t:sw):Bool:=j9 ct && (let oL:=Qj ct.toList [];w9 ct oL && tA ct oL md 0 t)
def depth:sw→Nat
 | .nil=>0
 | .bu _ t=>depth t+1
 | .sC _ t _ t'=>max (depth t) (depth t')+1
theorem CC {md:Nat→Nat}:∀{n:Nat} {L:Nat→Bool} {a:Fr} {A:AW},ub P ct S md K n L a A→ub P ct S md K (n+1) L a A
 | 0,L,a,A,h=>⟨fun _=>h.2,fun _ i o ho hr=>by have:=h.1 i (Array.getElem?_eq_some_iff.1 ho).1;rw [hr.1] at this;cases this⟩
 | n+1,L,a,A,h=>⟨h.1,fun hw i o ho hr=>(h.2 hw i o ho hr).mono fun v A' _ _ _ _ hk=>CC hk⟩
theorem I9 {md:Nat→Nat} {n m:Nat} (XQ:n≤m) {L:Nat→Bool} {a:Fr} {A:AW} (h:ub P ct S md K n L a A):ub P ct S md K m L a A:=by
 induction XQ with
 | refl=>exact h
 | step _ ih=>exact CC ih
theorem tN {md:List Nat} {i:Nat} {o:Oper} (hi:ct[i]? = some o) (hm:¬md.getD i 3≤1) {a:Fr} {A:AW} {R:Fr→AW→Prop} (h:mP P S (nC ct md i) a A R):rm P ct S (fun j=>md.getD j 3) i o a A R:=by
 simp only [mP,nC,hi,←Il] at h
 unfold rm
 split
 · rename_i hg
   rw [if_pos hg] at h
   by_cases h2:md.getD i 3=2
   · rw [h2] at h
     exact h.mono fun v A' hh=>⟨by rw [if_pos h2];exact hh.1,hh.2⟩
   · have:∃q,md.getD i 3=q+3:=⟨md.getD i 3-3,by omega⟩
     obtain⟨q,hq⟩:=this
     rw [hq] at h
     cases q with
     | zero=>exact h.mono fun v A' hh=>⟨by rw [if_neg h2];exact fun _=>hh.1,hh.2⟩
     | succ q=>exact h.mono fun v A' hh=>⟨by rw [if_neg h2];exact fun e=>by(have e':md.getD i 3=3:=e);omega,hh⟩
 · rename_i hg
   rw [if_neg hg] at h
   exact h
theorem vE {L:Nat→Bool} {M i:Nat} (hL:∀j,j<ct.size→L j=M.testBit j):∀j,j<ct.size→c8 L i j=(M ||| 2 ^ i).testBit j:=fun j hj=>by
 rw [Nat.testBit_or,Nat.testBit_two_pow,←hL j hj]
 unfold c8
 by_cases e:j=i
 · subst e;simp
 · have:¬i=j:=fun x=>e x.symm
   simp [e,this]
theorem nP (rf:j9 ct=true) (ha:w9 ct oL=true) {md:List Nat}:∀(t:sw) (M:Nat) (L:Nat→Bool) (a:Fr) (A:AW),(∀j,j<ct.size→L j=M.testBit j)→mv ct L→
 tA ct oL md M t=true→TW P S K (hN ct md t) a A→ub P ct S (fun j=>md.getD j 3) K (depth t) L a A
 | .nil,M,L,a,A,hL,hc,hg,h=>⟨fun j hj=>by rw [hL j hj];exact List.all_eq_true.1 hg j (List.mem_range.2 hj),h⟩
 | .sC i t j t',M,L,a,A,hL,hc,hg,h=>by
   simp only [tA,Bool.and_eq_true] at hg
   obtain⟨⟨⟨⟨Ya,X9⟩,XI⟩,Ko⟩,S1⟩:=hg
   have Wq:∀{k:Nat},IY ct md M k=true→∃o,ct[k]? = some o∧Kb L k o∧¬md.getD k 3≤1:=fun {k} hk=>by
    unfold IY at hk
    cases ho:ct[k]? with
    | none=>rw [ho] at hk;cases hk
    | some o=>
      rw [ho] at hk
      simp only [Bool.and_eq_true,Bool.not_eq_true'] at hk
      refine⟨o,rfl,(lf (Array.getElem?_eq_some_iff.1 ho).1 rf ho hL).1 hk.1,fun eG=>?_⟩
      rw [Nat.ble_eq_true_of_le eG] at hk
      exact absurd hk.2 (by simp)
   obtain⟨oi,hi,SU,OE⟩:=Wq Ya
   obtain⟨oj,hj,EK,EN⟩:=Wq X9
   refine⟨fun kE=>?_,fun hw k ok hk T5=>?_⟩
   · have:=kE i (Array.getElem?_eq_some_iff.1 hi).1
     rw [SU.1] at this
     cases this
   · have Ur:k=i∨k=j:=by
      have h1:=List.all_eq_true.1 XI k (List.mem_range.2 (Array.getElem?_eq_some_iff.1 hk).1)
      rw [hk] at h1
      simp only [Bool.or_eq_true,beq_iff_eq,Bool.not_eq_true'] at h1
      rcases h1 with (h1|h1)|h1
      · exact .inl h1
      · exact .inr h1
      · rw [(lf (Array.getElem?_eq_some_iff.1 hk).1 rf hk hL).2 T5] at h1
        cases h1
     rcases Ur with e|e
     · subst e
       rw [hi] at hk
       injection hk with hk
       subst hk
       exact(tN hi OE h.1).mono fun v A' _ _ _ _ hh=>I9 (Nat.le_max_left _ _) (nP rf ha t _ _ _ A' (vE hL) (hc.set hi SU) Ko hh)
     · subst e
       rw [hj] at hk
       injection hk with hk
       subst hk
       exact(tN hj EN h.2).mono fun v A' _ _ _ _ hh=>I9 (Nat.le_max_right _ _) (nP rf ha t' _ _ _ A' (vE hL) (hc.set hj EK) S1 hh)
 | .bu i t,M,L,a,A,hL,hc,hg,h=>by
   unfold tA at hg
   rw [Bool.and_eq_true] at hg
   obtain⟨tp,pM⟩:=hg
   cases hi:ct[i]? with
   | none=>rw [hi] at tp;cases tp
   | some o=>
     rw [hi] at tp
     simp only [Bool.and_eq_true] at tp
     obtain⟨hr,qj⟩:=tp
     have PL:=(Array.getElem?_eq_some_iff.1 hi).1
     have Mt:Kb L i o:=(lf PL rf hi hL).1 hr
     have LL:=hc.set hi Mt
     have IH:∀a A,TW P S K (hN ct md t) a A→ub P ct S (fun j=>md.getD j 3) K (depth t) (c8 L i) a A:=fun a A h=>nP rf ha t (M ||| 2 ^ i) _ a A (vE hL) LL pM h
     by_cases DK:md.getD i 3≤1
     · rw [if_pos (by simpa [Nat.ble_eq] using DK)] at qj
       simp only [Bool.and_eq_true] at qj
       obtain⟨tS,dn⟩:=qj
       have zH:∀j oj,ct[j]? = some oj→j≠i→L j=false→(∀e∈oj.after,Region.binds .any e=true→e.on≠i)→o.apart ct oj=true:=fun j oj hj jW LN xJ=>by
        have vz:=(Array.getElem?_eq_some_iff.1 hj).1
        have h1:=List.all_eq_true.1 tS j (List.mem_range.2 vz)
        rw [hj,←hL j vz,LN] at h1
        simp only [Bool.or_eq_true,beq_iff_eq,Bool.false_eq_true,or_false] at h1
        rcases h1 with h1|h1|h1
        · exact absurd h1 jW
        · exfalso
          rw [Array.any_eq_true] at h1
          obtain⟨q,hq,h2⟩:=h1
          simp only [Bool.and_eq_true,beq_iff_eq] at h2
          exact xJ _ (Array.getElem_mem hq) h2.1 h2.2
        · exact h1
       have cC:∀v,((lT ct a o=true∧aq P A (ki a) o.op=some v)∨(lT ct a o=false∧v=undef))→(md.getD i 3=1→lT ct a o=true→∀A',S A'→aq P A' (ki a) o.op=some v)→
        TW P S K (hN ct md t) (fl a o.dst v) A→ub P ct S (fun j=>md.getD j 3) K (depth t+1) L a A:=by
        intro v hy hS hk
        refine Aq (md:=fun j=>md.getD j 3) rf ha hi DK (depth t) L a A hc zH ?_ Mt hy (IH _ _ hk)
        simp only [Bool.or_eq_true] at dn
        rcases dn with (h1|h1)|h1
        · rw [Bool.and_eq_true] at h1
          refine .inr (.inr ⟨fun j oj hj jW h3 LN=>?_,fun A' kL xK=>hS (Nat.eq_of_beq_eq_true h1.1) xK A' kL⟩)
          have vz:=(Array.getElem?_eq_some_iff.1 hj).1
          have h2:=List.all_eq_true.1 h1.2 j (List.mem_range.2 vz)
          rw [←hL j vz,LN] at h2
          have NI:Nat.ble 4 (md.getD j 3)=true:=Nat.ble_eq_true_of_le h3
          rw [NI] at h2
          simpa [jW] using h2
        · exact .inl h1
        · refine .inr (.inl fun j oj hj jW h3 LN=>?_)
          have vz:=(Array.getElem?_eq_some_iff.1 hj).1
          have h2:=List.all_eq_true.1 h1 j (List.mem_range.2 vz)
          rw [←hL j vz,LN] at h2
          have NI:Nat.ble 3 (md.getD j 3)=true:=Nat.ble_eq_true_of_le h3
          rw [NI] at h2
          simpa [jW] using h2
       have h':mP P S (nC ct md i) a A (TW P S K (hN ct md t)):=h
       simp only [mP,nC,hi,←Il] at h'
       split at h'
       · rename_i xK
         have:md.getD i 3=0∨md.getD i 3=1:=by omega
         rcases this with e|e
         · rw [e] at h'
           simp only [Ke] at h'
           split at h'
           · rename_i v hv
             exact cC v (.inl ⟨xK,hv⟩) (fun e'=>by omega) h'
           · exact h'.elim
         · rw [e] at h'
           simp only [Ke] at h'
           split at h'
           · rename_i v hv
             exact cC v (.inl ⟨xK,hv⟩) (fun _ _=>h'.1) h'.2
           · exact h'.elim
       · rename_i xK
         have LH:lT ct a o=false:=by simpa using xK
         exact cC undef (.inr ⟨LH,rfl⟩) (fun _ e=>by rw [LH] at e;cases e) h'
     · rw [if_neg (by simpa [Nat.ble_eq] using DK)] at qj
       refine⟨fun kE=>?_,fun hw j oj hj EK=>?_⟩
       · have:=kE i PL
         rw [Mt.1] at this
         cases this
       · have jW:j=i:=by
          have h1:=List.all_eq_true.1 qj j (List.mem_range.2 (Array.getElem?_eq_some_iff.1 hj).1)
          rw [hj] at h1
          simp only [Bool.or_eq_true,beq_iff_eq,Bool.not_eq_true'] at h1
          rcases h1 with (h1|h1)|h1
          · exact h1
          · exact h1
          · rw [(lf (Array.getElem?_eq_some_iff.1 hj).1 rf hj hL).2 EK] at h1
            cases h1
         subst jW
         rw [hi] at hj
         injection hj with hj
         subst hj
         exact(tN hi DK h).mono fun v A' _ _ _ _ hh=>IH _ _ hh
end
theorem wt {P:Program} {n:Nat} {Q:Exit→Fr→AW→Prop} {a:Fr} {A:AW} {id:Nat} {ct:Array Oper} (S:AW→Prop) (hm:P.follows .mixedOrders=true) (md:List Nat) (t:sw) (hB:KB ct md t=true)
 (h:∀K:Fr→AW→Prop,(∀a A,Q .normal a A→K a A)→TW P S K (hN ct md t) a A):fj P n (.region id ct true) Q a A:=by
 simp only [KB,Bool.and_eq_true] at hB
 exact wY hm hB.1 (nP hB.1 hB.2.1 t 0 _ a A (fun j _=>by simp) (fun k o _ hk=>by cases hk) hB.2.2 (h _ fun _ _ h=>h))
theorem EZ {P:Program} {S:AW→Prop} {K:Fr→AW→Prop} {o:xP} {t:vy} {a:Fr} {A:AW} (h:∀R:Fr→AW→Prop,(∀a A,TW P S K t a A→R a A)→mP P S o a A R):TW P S K (.bu o t) a A:=h _ fun _ _ h=>h
theorem EF {P:Program} {S:AW→Prop} {K:Fr→AW→Prop} {o o':xP} {t t':vy} {a:Fr} {A:AW} (h:∀R:Fr→AW→Prop,(∀a A,TW P S K t a A→R a A)→mP P S o a A R)
 (h':∀R:Fr→AW→Prop,(∀a A,TW P S K t' a A→R a A)→mP P S o' a A R):TW P S K (.sC o t o' t') a A:=⟨h _ fun _ _ h=>h,h' _ fun _ _ h=>h⟩
theorem EY {P:Program} {S:AW→Prop} {K:Fr→AW→Prop} {a:Fr} {A:AW} (h:K a A):TW P S K .nil a A:=h
attribute [simp] mP
open Go
def oP (A B:AW):Prop:=∀i o,A.cy i=some o→B.cy i=some o
theorem oP.refl (A:AW):oP A A:=fun _ _ h=>h
theorem oP.trans {A B C:AW} (h:oP A B) (k:oP B C):oP A C:=fun i o hi=>k i o (h i o hi)
theorem oP.Pd {A B:AW} {F:HP} (h:bK B (LJ A.cy*F)):oP A B:=by
 obtain⟨_,⟨a,b,d,rfl,rfl,q⟩,hs⟩:=h
 intro i o hi
 exact hs i o (by simp [Hp.un,hi])
theorem mQ.keeps {A B:AW} (hk:oP A B) {size:Nat} {v:Value} {n:Nat} {cs:List Value} (h:mQ A size v n cs):mQ B size v n cs:=by
 rcases h with h|⟨p,c,dh,own,u,h1,h2,h3,h4⟩
 · exact .inl h
 · exact .inr ⟨p,c,dh,own,u,h1,h2,hk _ _ h3,h4⟩
theorem cF.keeps {A B:AW} (hk:oP A B) {k:IntKind} {v:Value} {l:List Int} (h:cF A k v l):cF B k v l:=mQ.keeps hk h
def tZ (A:AW) (v:Value) (ls:List (List Int)):Prop:=∃us:List Value,mQ A 1 v ls.length us∧∀i (hi:i<ls.length),∃u,us[i]? = some u∧cF A .i64 u ls[i]
theorem tZ.keeps {A B:AW} (hk:oP A B) {v:Value} {ls:List (List Int)} (h:tZ A v ls):tZ B v ls:=by
 obtain⟨us,h1,h2⟩:=h
 exact⟨us,h1.keeps hk,fun i hi=>let ⟨u,h3,h4⟩:=h2 i hi;⟨u,h3,h4.keeps hk⟩⟩
theorem tZ.cL {A:AW} {v:Value} {ls:List (List Int)} (h:tZ A v ls):∃o c,v=.slice o ls.length c∧ls.length≤c:=by
 obtain⟨us,h1,_⟩:=h
 exact h1.cL
theorem tZ.at {A:AW} {o:Option Addr} {n c:Nat} {ls:List (List Int)} (h:tZ A (.slice o n c) ls) {i:Nat} (hi:i<ls.length) :
 ∃p dh own u,o=some p∧A.cy p.block=some (.cells dh own 1)∧dh[p.off+i]? = some u∧cF A .i64 u ls[i]:=by
 obtain⟨us,h1,h2⟩:=h
 obtain⟨u,h3,h4⟩:=h2 i hi
 rcases h1 with ⟨_,e,_⟩|⟨p,c',dh,own,q,e1,e2,e3,e4,e5,e6⟩
 · omega
 · injection e1 with e1 e7 e8
   subst e4
   refine⟨p,dh,own,u,e1,e3,?_,h4⟩
   rw [e6,Nat.mul_one,List.getElem?_take_of_lt hi,List.getElem?_drop] at h3
   exact h3
open Go
inductive It where
 | at (i:Nat) (o:ef)
 | h (P:HP)
def It.hp:It→HP
 | .at i o=>pt i o
 | .h P=>P
def bn:List It→HP
 | []=>fa
 | x::L=>x.hp*bn L
def an (A:AW) (L:List It):Prop:=bK A (bn L)
theorem fN:∀(L K:List It),bn (L++K)=bn L*bn K
 | [],K=>by show bn K=fa*bn K;rw [iS]
 | x::L,K=>by show x.hp*bn (L++K)=x.hp*bn L*bn K;rw [fN L K,HP.cq]
def pf:List It→Nat→Option (It×List It)
 | [],_=>none
 | x::L,0=>some (x,L)
 | x::L,k+1=>(pf L k).map fun y=>(y.1,x::y.2)
theorem rO:∀{L:List It} {k:Nat} {x:It} {K:List It},pf L k=some (x,K)→bn L=x.hp*bn K
 | [],_,_,_,h=>by cases h
 | y::L,0,x,K,h=>by injection h with h;injection h with h1 h2;subst h1;subst h2;rfl
 | y::L,k+1,x,K,h=>by
   simp only [pf,Option.map_eq_some_iff] at h
   obtain⟨⟨z,M⟩,h1,h2⟩:=h
   injection h2 with h2 h3
   subst h2;subst h3
   show y.hp*bn L=_
   rw [rO h1]
   show y.hp*(z.hp*bn M)=z.hp*(y.hp*bn M)
   ac_rfl
def OY (k:Nat) (j:Nat):Nat:=if j<k then j else j-1
def xE:List Nat→(Nat→Nat)→List It→Option (List It×List It)
 | [],_,L=>some ([],L)
 | k::ks,f,L=>match pf L (f k) with
   | some (x,K)=>(xE ks (fun j=>OY (f k) (f j)) K).map fun y=>(x::y.1,y.2)
   | none=>none
def Iu (L:List It) (ks:List Nat):Option (List It×List It):=xE ks (fun j=>j) L
theorem ti:∀{ks:List Nat} {f:Nat→Nat} {L J K:List It},xE ks f L=some (J,K)→bn L=bn J*bn K
 | [],f,L,J,K,h=>by
   injection h with h;injection h with h1 h2;subst h1;subst h2
   show bn L=fa*bn L
   rw [iS]
 | k::ks,f,L,J,K,h=>by
   unfold xE at h
   split at h
   · rename_i x M hp
     rw [Option.map_eq_some_iff] at h
     obtain⟨⟨J',K'⟩,h1,h2⟩:=h
     injection h2 with h2 h3
     subst h2;subst h3
     rw [rO hp,ti h1]
     show x.hp*(bn J'*bn K')=x.hp*bn J'*bn K'
     rw [HP.cq]
   · cases h
theorem rN {ks:List Nat} {L J K:List It} (h:Iu L ks=some (J,K)):bn L=bn J*bn K:=ti h
theorem an.pick {A:AW} {L J K:List It} (h:an A L) (ks:List Nat) (e:Iu L ks=some (J,K)):an A (J++K):=by
 unfold an at *
 rw [fN,←rN e]
 exact h
theorem an.only {A:AW} {L J K:List It} (h:an A L) (ks:List Nat) (e:Iu L ks=some (J,K)):an A J:=by
 unfold an at *
 rw [rN e] at h
 exact h.left
theorem an.bu {A:AW} {L K:List It} {x:It} (h:an A L) (k:Nat) (e:pf L k=some (x,K)):bK A (x.hp*bn K):=by
 unfold an at h
 rwa [rO e] at h
theorem an.g {A:AW} {L K:List It} {i:Nat} {o:ef} (h:an A L) (k:Nat) (e:pf L k=some (.at i o,K)):A.cy i=some o:=bK.cy (h.bu k e)
theorem an.keeps {A B:AW} {L K:List It} (h:an B L) (k:Nat) (e:pf L k=some (.h (LJ A.cy),K)):oP A B:=oP.Pd (h.bu k e)
theorem an.le {A A':AW} {L:List It} (h:an A L) (hw:A.Wf) (hl:A.le A'):an A' L:=bK.le h hw hl
theorem an.Fv {A A':AW} {L:List It} (h:an A L) (e:∀i o,A.cy i=some o→A'.cy i=some o):an A' L:=bK.Fv h e
theorem an.alloc {A:AW} {L:List It} (h:an A L) (hw:A.Wf) (o:ef):an (A.alloc o) (.at A.next o::L):=bK.alloc h hw o
theorem an.iU {A:AW} {L:List It} (h:an A L) (hw:A.Wf) (o:ef):an (A.alloc o) L:=bK.iU h hw o
def Im:List It→Nat→It→List It
 | [],_,_=>[]
 | _::L,0,y=>y::L
 | x::L,k+1,y=>x::Im L k y
theorem wz:∀{L:List It} {k:Nat} {x:It} {K:List It} (y:It),pf L k=some (x,K)→bn (Im L k y)=y.hp*bn K
 | [],_,_,_,_,h=>by cases h
 | z::L,0,x,K,y,h=>by injection h with h;injection h with h1 h2;subst h2;rfl
 | z::L,k+1,x,K,y,h=>by
   simp only [pf,Option.map_eq_some_iff] at h
   obtain⟨⟨u,M⟩,h1,h2⟩:=h
   injection h2 with h2 h3
   subst h2;subst h3
   show z.hp*bn (Im L k y)=_
   rw [wz y h1]
   show z.hp*(y.hp*bn M)=y.hp*(z.hp*bn M)
   ac_rfl
theorem an.set {A:AW} {L K:List It} {i:Nat} {o:ef} (h:an A L) (k:Nat) (e:pf L k=some (.at i o,K)) (o':ef):an (A.set i (some o')) (Im L k (.at i o')):=by
 unfold an
 rw [wz _ e]
 exact bK.set (h.bu k e) o'
theorem an.HG {A:AW} {L K:List It} {i:Nat} {o:ef} (h:an A L) (k:Nat) (e:pf L k=some (.at i o,K)):an (A.set i none) K:=bK.HG (h.bu k e)
theorem an.lt {A:AW} {L K:List It} {i:Nat} {o:ef} (h:an A L) (hw:A.Wf) (k:Nat) (e:pf L k=some (.at i o,K)):i<A.next:=hw.lt (h.g k e)
theorem an.unfold {A:AW} {L K J:List It} {P:HP} (h:an A L) (k:Nat) (e:pf L k=some (.h P,K)) (hP:P=bn J):an A (J++K):=by
 unfold an
 rw [fN,←hP]
 exact h.bu k e
theorem an.ex {α:Type} {A:AW} {L K:List It} {P:α→HP} (h:an A L) (k:Nat) (e:pf L k=some (.h (rt P),K)):∃x,an A (.h (P x)::K):=by
 have h1:=h.bu k e
 exact bK.ex.1 h1
theorem an.mk {A:AW} {F:HP} (h:bK A F):an A [.h F]:=by
 show bK A (F*fa)
 rw [dx];exact h
theorem an.un {A:AW} {F:HP} (h:an A [.h F]):bK A F:=by
 have:bK A (F*fa):=h
 rwa [dx] at this
def bp (A:AW):List It→Prop
 | []=>True
 | .at i o::L=>A.cy i=some o∧bp A L
 | .h _::L=>bp A L
def bY (A:AW):List It→Prop
 | []=>True
 | .at i _::L=>((i=A.next)=False∧(A.next=i)=False∧(∀k,(i=A.next+k)=False)∧∀k,(A.next+k=i)=False)∧bY A L
 | .h _::L=>bY A L
def eN (i:Nat):List It→Prop
 | []=>True
 | .at j _::L=>((i=j)=False∧(j=i)=False)∧eN i L
 | .h _::L=>eN i L
def cS:List It→Prop
 | []=>True
 | .at i _::L=>eN i L∧cS L
 | .h _::L=>cS L
theorem an.tail {A:AW} {x:It} {L:List It} (h:an A (x::L)):an A L:=bK.right h
theorem an.mZ {A:AW}:∀{L:List It},an A L→bp A L
 | [],_=>trivial
 | .at i o::L,h=>⟨bK.cy h,an.mZ h.tail⟩
 | .h P::L,h=>an.mZ (L:=L) (an.tail (x:=.h P) h)
theorem an.qG {A:AW} (hw:A.Wf):∀{L:List It},an A L→bY A L
 | [],_=>trivial
 | .at i o::L,h=>by
   have:=hw.lt (bK.cy h)
   exact⟨⟨eq_false (by omega),eq_false (by omega),fun k=>eq_false (by omega),fun k=>eq_false (by omega)⟩,an.qG hw h.tail⟩
 | .h P::L,h=>an.qG hw (L:=L) (an.tail (x:=.h P) h)
theorem an.Hx {A:AW} {i:Nat} {o:ef}:∀{L:List It},an A (.at i o::L)→eN i L
 | [],_=>trivial
 | .at j p::L,h=>by
   have ke:i≠j:=bK.ne h
   refine⟨⟨eq_false ke,eq_false (Ne.symm ke)⟩,an.Hx (A:=A) (L:=L) (o:=o) ?_⟩
   have h1:bK A (pt i o*(pt j p*bn L)):=h
   exact bK.right (h1.dp (by ac_rfl:_=pt j p*(pt i o*bn L)))
 | .h P::L,h=>by
   have h1:bK A (pt i o*(P*bn L)):=h
   exact an.Hx (A:=A) (L:=L) (o:=o) (bK.right (h1.dp (by ac_rfl:_=P*(pt i o*bn L))))
theorem an.Tz {A:AW}:∀{L:List It},an A L→cS L
 | [],_=>trivial
 | .at i o::L,h=>⟨an.Hx h,an.Tz h.tail⟩
 | .h P::L,h=>an.Tz (L:=L) (an.tail (x:=.h P) h)
theorem an.eA {A:AW} {L:List It} (h:an A L) (hw:A.Wf):bp A L∧bY A L∧cS L:=⟨h.mZ,h.qG hw,h.Tz⟩
def aP (P:Program) (f:FuncId) (args:List Value) (pd:List It) (φ:Value→Prop) (post:Value→List It):Prop:=
 ∀(A:AW) (F:HP),A.Wf→an A (pd++[.h F])→aH P f args A fun v A'=>φ v∧an A' (post v++[.h F])
theorem aP.use {P:Program} {f:FuncId} {args:List Value} {pd:List It} {φ:Value→Prop} {post:Value→List It} (h:aP P f args pd φ post) {A:AW} {L K:List It} (hw:A.Wf) (hS:an A L) (ks:List Nat) (e:Iu L ks=some (pd,K))
 {k:Value→AW→Prop} (hk:∀v A',φ v→an A' (post v++K)→A'.Wf→A.next≤A'.next→k v A'):aH P f args A k:=by
 have oG:an A (pd++[.h (bn K)]):=by
  unfold an at *
  rw [rN e] at hS
  rw [fN]
  show bK A (bn pd*(bn K*fa))
  rw [dx]
  exact hS
 refine bD (h A (bn K) hw oG) ?_
 rintro v A' ⟨h1,h2⟩ gY hn
 refine hk v A' h1 ?_ gY hn
 unfold an at *
 rw [fN] at h2 ⊢
 have h3:bK A' (bn (post v)*(bn K*fa)):=h2
 rwa [dx] at h3
theorem aP.jK {P:Program} {f:FuncId} {args:List Value} {pd:List It} {φ:Value→Prop} {post:Value→List It} {p:HP} {q:Value→HP} (h:ka P f args p q) (hp:bn pd=p) (hq:∀v,q v=rc (φ v)*bn (post v)) :
 aP P f args pd φ post:=by
 intro A F hw hS
 refine(h A F hw (by unfold an at hS;rw [fN,hp] at hS;have h3:bK A (p*(F*fa)):=hS;rwa [dx] at h3)).mono ?_
 intro v A' hs
 rw [hq,HP.cq,bK.pr] at hs
 refine⟨hs.1,?_⟩
 unfold an
 rw [fN]
 show bK A' (bn (post v)*(F*fa))
 rw [dx]
 exact hs.2
class MJ (G:Prop) (H:outParam Prop):Prop where f:H→G
section
variable {P:Program} {n:Nat} {Q:Exit→Fr→AW→Prop} {a:Fr} {A:AW} {id k:Nat} {c x y:Code} {S:AW→Prop} {K X:Fr→AW→Prop} {o:ef} {p:Prop}
instance:MJ (fj P n (.block id c) Q a A) (fj P n c (At id Q) a A):=⟨wb⟩
instance:MJ (fj P n (.seq x y) Q a A) (fj P n x (sx (fj P n y Q) Q) a A):=⟨wq⟩
instance:MJ (fj P n .ret Q a A) (Q .ret a A):=⟨wr⟩
instance:MJ (fj P n .skip Q a A) (Q .normal a A):=⟨wk⟩
instance:MJ (fj P n (.exit id) Q a A) (Q (.exit id) a A):=⟨we⟩
instance:MJ (bB P n c Q (k+1) a A) (fj P n c (sx (bB P n c Q k) Q) a A):=⟨ws⟩
instance:MJ (cm P S K [] a A) (K a A):=⟨Vt⟩
instance:MJ (A.le A∧p) p:=⟨lr⟩
instance:MJ (A.le (A.alloc o)∧p) p:=⟨la⟩
def Od (l:List (Nat×Nat)):Prop:=True
theorem od (l:List (Nat×Nat)):Od l:=trivial
theorem kh {ct:Array Oper} {l8:List (Nat×Nat)} (q:Od l8) (hm:P.follows .mixedOrders=true) (hB:JC ct l8=true)
 (h:∀K:Fr→AW→Prop,(∀a A,Q .normal a A→K a A)→cm P (fun _=>True) K (dK ct l8) a A):fj P n (.region id ct true) Q a A:=wl hm l8 hB h
structure Ts (S:AW→Prop) (md:List Nat) (t:sw):Prop
structure Os (S:AW→Prop) (l:List (Nat×Nat)):Prop
theorem rn {ct:Array Oper} {md:List Nat} {t:sw} (q:Ts S md t) (hm:P.follows .mixedOrders=true) (hB:KB ct md t=true)
 (h:∀K:Fr→AW→Prop,(∀a A,Q .normal a A→K a A)→TW P S K (hN ct md t) a A):fj P n (.region id ct true) Q a A:=wt S hm md t hB h
theorem rp {ct:Array Oper} {l8:List (Nat×Nat)} (q:Os S l8) (hm:P.follows .mixedOrders=true) (hB:JC ct l8=true)
 (h:∀K:Fr→AW→Prop,(∀a A,Q .normal a A→K a A)→cm P S K (dK ct l8) a A):fj P n (.region id ct true) Q a A:=AC S hm l8 hB h
theorem MO {ct:Array Oper} (h:fj P n (.region id ct true) Q a A):fj P n (.region id ct true) Q a A:=h
theorem QS {f:FuncId} {args:List Value} {k:Value→AW→Prop} (h:aH P f args A k):aH P f args A k:=h
end
theorem gR {A:AW} {i:Nat} {o:Option ef} (h:A.cy i=o):A.cy i=o:=h
theorem nx {G H:Prop} [i:MJ G H] (h:H):G:=i.f h
structure Tg (n:Nat) (p:Prop):Prop where h:p
structure Kp (p:Prop):Prop where h:p
inductive Df:Prop→Prop where
 | T:Df True
 | C {p q:Prop}:Df p→Df q→Df (p∧q)
 | A {p:Prop}:Df p
theorem J1 {a1:Prop} (x1:a1):a1∧True:=⟨x1,trivial⟩
theorem J2 {a1 a2:Prop} (x1:a1) (x2:a2):a1∧a2∧True:=⟨x1,x2,trivial⟩
theorem J3 {a1 a2 a3:Prop} (x1:a1) (x2:a2) (x3:a3):a1∧a2∧a3∧True:=⟨x1,x2,x3,trivial⟩
theorem J4 {a1 a2 a3 a4:Prop} (x1:a1) (x2:a2) (x3:a3) (x4:a4):a1∧a2∧a3∧a4∧True:=⟨x1,x2,x3,x4,trivial⟩
theorem J5 {a1 a2 a3 a4 a5:Prop} (x1:a1) (x2:a2) (x3:a3) (x4:a4) (x5:a5):a1∧a2∧a3∧a4∧a5∧True:=⟨x1,x2,x3,x4,x5,trivial⟩
theorem J6 {a1 a2 a3 a4 a5 a6:Prop} (x1:a1) (x2:a2) (x3:a3) (x4:a4) (x5:a5) (x6:a6):a1∧a2∧a3∧a4∧a5∧a6∧True:=⟨x1,x2,x3,x4,x5,x6,trivial⟩
theorem J7 {a1 a2 a3 a4 a5 a6 a7:Prop} (x1:a1) (x2:a2) (x3:a3) (x4:a4) (x5:a5) (x6:a6) (x7:a7):a1∧a2∧a3∧a4∧a5∧a6∧a7∧True:=⟨x1,x2,x3,x4,x5,x6,x7,trivial⟩
theorem J8 {a1 a2 a3 a4 a5 a6 a7 a8:Prop} (x1:a1) (x2:a2) (x3:a3) (x4:a4) (x5:a5) (x6:a6) (x7:a7) (x8:a8):a1∧a2∧a3∧a4∧a5∧a6∧a7∧a8∧True:=⟨x1,x2,x3,x4,x5,x6,x7,x8,trivial⟩
theorem J9 {a1 a2 a3 a4 a5 a6 a7 a8 a9:Prop} (x1:a1) (x2:a2) (x3:a3) (x4:a4) (x5:a5) (x6:a6) (x7:a7) (x8:a8) (x9:a9):a1∧a2∧a3∧a4∧a5∧a6∧a7∧a8∧a9∧True:=⟨x1,x2,x3,x4,x5,x6,x7,x8,x9,trivial⟩
theorem Kw {a1 a2 a3 a4 a5 a6 a7 a8 a9 Ja:Prop} (x1:a1) (x2:a2) (x3:a3) (x4:a4) (x5:a5) (x6:a6) (x7:a7) (x8:a8) (x9:a9) (CE:Ja):a1∧a2∧a3∧a4∧a5∧a6∧a7∧a8∧a9∧Ja∧True:=⟨x1,x2,x3,x4,x5,x6,x7,x8,x9,CE,trivial⟩
theorem MK {a1 a2 a3 a4 a5 a6 a7 a8 a9 Ja Mh:Prop} (x1:a1) (x2:a2) (x3:a3) (x4:a4) (x5:a5) (x6:a6) (x7:a7) (x8:a8) (x9:a9) (CE:Ja) (ER:Mh):a1∧a2∧a3∧a4∧a5∧a6∧a7∧a8∧a9∧Ja∧Mh∧True:=⟨x1,x2,x3,x4,x5,x6,x7,x8,x9,CE,ER,trivial⟩
theorem Ml {a1 a2 a3 a4 a5 a6 a7 a8 a9 Ja Mh OQ:Prop} (x1:a1) (x2:a2) (x3:a3) (x4:a4) (x5:a5) (x6:a6) (x7:a7) (x8:a8) (x9:a9) (CE:Ja) (ER:Mh) (GV:OQ):a1∧a2∧a3∧a4∧a5∧a6∧a7∧a8∧a9∧Ja∧Mh∧OQ∧True:=⟨x1,x2,x3,x4,x5,x6,x7,x8,x9,CE,ER,GV,trivial⟩
theorem Mk {a1 a2 a3 a4 a5 a6 a7 a8 a9 Ja Mh OQ Sr:Prop} (x1:a1) (x2:a2) (x3:a3) (x4:a4) (x5:a5) (x6:a6) (x7:a7) (x8:a8) (x9:a9) (CE:Ja) (ER:Mh) (GV:OQ) (Av:Sr):a1∧a2∧a3∧a4∧a5∧a6∧a7∧a8∧a9∧Ja∧Mh∧OQ∧Sr∧True:=⟨x1,x2,x3,x4,x5,x6,x7,x8,x9,CE,ER,GV,Av,trivial⟩
theorem pw {a1 a2 a3 a4 a5 a6 a7 a8 a9 Ja Mh OQ Sr Wv:Prop} (x1:a1) (x2:a2) (x3:a3) (x4:a4) (x5:a5) (x6:a6) (x7:a7) (x8:a8) (x9:a9) (CE:Ja) (ER:Mh) (GV:OQ) (Av:Sr) (BU:Wv):a1∧a2∧a3∧a4∧a5∧a6∧a7∧a8∧a9∧Ja∧Mh∧OQ∧Sr∧Wv∧True:=⟨x1,x2,x3,x4,x5,x6,x7,x8,x9,CE,ER,GV,Av,BU,trivial⟩
theorem W {G H C X:Prop} (c:C) (x:X) (k:H) (s:(∀(zc:C) (zx:X) (zk:Kp H),G)∧Df H:=by
 constructor
 · unhygienic intros
   (try have z1:=zc.1);(try have z2:=zc.2.1);(try have z3:=zc.2.2.1);(try have z4:=zc.2.2.2.1);(try have z5:=zc.2.2.2.2.1);(try have z6:=zc.2.2.2.2.2.1);(try have z7:=zc.2.2.2.2.2.2.1);(try have z8:=zc.2.2.2.2.2.2.2.1);(try have z9:=zc.2.2.2.2.2.2.2.2.1);(try have rz:=zc.2.2.2.2.2.2.2.2.2.1);(try have ry:=zc.2.2.2.2.2.2.2.2.2.2.1);(try have rx:=zc.2.2.2.2.2.2.2.2.2.2.2.1)
   repeat' (first
   | (refine il fun R hR=>?_;(first|simp [ak,au,zx,hq]|simp [ak,au,zx]);try simp (disch:=omega) only [if_pos,if_neg,ak,au])
   | (refine hR _ _ ?_;clear hR R)|(refine hK _ _ ?_;clear hK K)|refine nx ?_
   | refine wn fun K hK=>?_
   | simp only [wS]
   | (refine MO ?_;first|refine kh z1 Tryz.mx (by decide +kernel) fun K hK=>?_|refine kh z2 Tryz.mx (by decide +kernel) fun K hK=>?_|refine kh z3 Tryz.mx (by decide +kernel) fun K hK=>?_|refine kh z4 Tryz.mx (by decide +kernel) fun K hK=>?_|refine kh z5 Tryz.mx (by decide +kernel) fun K hK=>?_|refine kh z6 Tryz.mx (by decide +kernel) fun K hK=>?_|refine kh z7 Tryz.mx (by decide +kernel) fun K hK=>?_|refine kh z8 Tryz.mx (by decide +kernel) fun K hK=>?_|refine kh z9 Tryz.mx (by decide +kernel) fun K hK=>?_|refine kh rz Tryz.mx (by decide +kernel) fun K hK=>?_|refine kh ry Tryz.mx (by decide +kernel) fun K hK=>?_|refine kh rx Tryz.mx (by decide +kernel) fun K hK=>?_)
   | (refine QS ?_;first
     | (apply aP.el;(·(first|apply z1|apply z2|apply z3|apply z4|apply z5|apply z6|apply z7|apply z8|apply z9|apply rz|apply ry|apply rx)<;>first|assumption|(simp [hq];done)|(refine gR ?_;simp [hq];rfl)|(simp [hq,zx];done)|omega|decide);(·exact wA);(·exact sA);(·first|exact pA|exact kA);(first|rintro _ zA rfl hS hw zn|rintro zn zA zn hS hw zn);have hS:=lA hS;(try (have hq:=iE hS hw)))
     | (apply bD;(·(first|apply z1|apply z2|apply z3|apply z4|apply z5|apply z6|apply z7|apply z8|apply z9|apply rz|apply ry|apply rx)<;>first|assumption|(simp [hq];done)|(refine gR ?_;simp [hq];rfl)|(simp [hq,zx];done)|omega|decide);(first|rintro _ _ ⟨rfl,rfl⟩ zn zn|rintro _ _ ⟨⟨zn,rfl⟩,rfl⟩ zn zn))
     | ((first|apply @Tg.h 10 _ z1|apply @Tg.h 10 _ z2|apply @Tg.h 10 _ z3|apply @Tg.h 10 _ z4|apply @Tg.h 10 _ z5|apply @Tg.h 10 _ z6|apply @Tg.h 10 _ z7);(·exact wA);(·exact sA);(·first|exact pA|exact kA);)
     | ((first|apply @Tg.h 11 _ z1|apply @Tg.h 11 _ z2|apply @Tg.h 11 _ z3|apply @Tg.h 11 _ z4|apply @Tg.h 11 _ z5|apply @Tg.h 11 _ z6|apply @Tg.h 11 _ z7);(·exact wA);(·exact sA);(·first|exact pA|exact kA);(·first|omega|(simp;omega)|(simp [hq];done));((first|rintro zn zn zA hS hw zn|rintro zn zA hS hw zn|rintro zn zA hS hw);(try refine⟨zn,?_⟩);(try (have hS:=lA hS));have hq:=iE hS hw))
     | ((first|apply @Tg.h 12 _ z1|apply @Tg.h 12 _ z2|apply @Tg.h 12 _ z3|apply @Tg.h 12 _ z4|apply @Tg.h 12 _ z5|apply @Tg.h 12 _ z6|apply @Tg.h 12 _ z7);(·exact wA);(·exact sA);(·first|exact pA|exact kA);(·first|exact pA|exact kA);(·first|omega|(simp;omega)|(simp [hq];done));(·first|omega|(simp;omega)|(simp [hq];done));((first|rintro zn zn zA hS hw zn|rintro zn zA hS hw zn|rintro zn zA hS hw);(try refine⟨zn,?_⟩);(try (have hS:=lA hS));have hq:=iE hS hw))
     | ((first|apply @Tg.h 14 _ z1|apply @Tg.h 14 _ z2|apply @Tg.h 14 _ z3|apply @Tg.h 14 _ z4|apply @Tg.h 14 _ z5|apply @Tg.h 14 _ z6|apply @Tg.h 14 _ z7);(·exact wA);(·exact sA);(·first|exact pA|exact kA);(·first|omega|(simp;omega)|(simp [hq];done));)
     | ((first|apply @Tg.h 15 _ z1|apply @Tg.h 15 _ z2|apply @Tg.h 15 _ z3|apply @Tg.h 15 _ z4|apply @Tg.h 15 _ z5|apply @Tg.h 15 _ z6|apply @Tg.h 15 _ z7);(·exact wA);(·exact sA);(·first|exact pA|exact kA);((first|rintro zn zn zA hS hw zn|rintro zn zA hS hw zn|rintro zn zA hS hw);(try refine⟨zn,?_⟩);(try (have hS:=lA hS));have hq:=iE hS hw))
     | ((first|apply @Tg.h 17 _ z1|apply @Tg.h 17 _ z2|apply @Tg.h 17 _ z3|apply @Tg.h 17 _ z4|apply @Tg.h 17 _ z5|apply @Tg.h 17 _ z6|apply @Tg.h 17 _ z7);(·exact wA);(·exact sA);(·first|exact pA|exact kA);((rintro zn zn zA hS hw);(try (have hS:=lA hS));have hq:=iE hS hw))
     | ((first|apply @Tg.h 18 _ z1|apply @Tg.h 18 _ z2|apply @Tg.h 18 _ z3|apply @Tg.h 18 _ z4|apply @Tg.h 18 _ z5|apply @Tg.h 18 _ z6|apply @Tg.h 18 _ z7);(·exact wA);(·exact sA);(·first|exact pA|exact kA);(·first|omega|(simp;omega)|(simp [hq];done));((rintro zn zn zn zA hS hw);(try (have hS:=lA hS));have hq:=iE hS hw))
     | ((first|apply @Tg.h 19 _ z1|apply @Tg.h 19 _ z2|apply @Tg.h 19 _ z3|apply @Tg.h 19 _ z4|apply @Tg.h 19 _ z5|apply @Tg.h 19 _ z6|apply @Tg.h 19 _ z7);(·exact wA);(·exact sA);((first|rintro zn zn zA hS hw zn|rintro zn zA hS hw zn|rintro zn zA hS hw);(try refine⟨zn,?_⟩);(try (have hS:=lA hS));have hq:=iE hS hw))
     | (apply nA.el;(·first|apply @Tg.h 32 _ z1|apply @Tg.h 32 _ z2|apply @Tg.h 32 _ z3|apply @Tg.h 32 _ z4|apply @Tg.h 32 _ z5|apply @Tg.h 32 _ z6|apply @Tg.h 32 _ z7);(·exact wA);(·exact sA);(·first|exact pA|exact kA);(first|rintro xw _ zA rfl hS hw zn|rintro xw zn zA zn hS hw zn);(try (have hS:=lA hS));(try (have hq:=iE hS hw)))
     )
   | refine wb ?_|refine wr ?_|refine wk ?_|refine we ?_|refine ws ?_|refine wq ?_
   | (refine wc rfl (fun hc=>?_) (fun hc=>?_)<;>(try simp at hc)<;>(try omega))
   | (refine ib (fun hc=>?_) (fun hc=>?_)<;>(try omega)<;>(try simp (disch:=omega) only [if_pos,if_neg]))
   | ((repeat (first|clear zc|clear zx|clear z1|clear z2|clear z3|clear z4|clear z5|clear z6|clear z7|clear z8|clear z9|clear rz|clear ry|clear rx));(try revert hq);(repeat clear hq);(try revert hS);(repeat clear hS);(try revert hw);(repeat clear hw);(repeat (first|revert hc|revert zn|revert zA|revert xw|revert K|revert hK|revert R|revert hR));first|with_reducible refine zk.h.1|with_reducible refine zk.h.2.1|with_reducible refine zk.h.2.2.1|with_reducible refine zk.h.2.2.2.1|with_reducible refine zk.h.2.2.2.2.1|with_reducible refine zk.h.2.2.2.2.2.1|with_reducible refine zk.h.2.2.2.2.2.2.1|with_reducible refine zk.h.2.2.2.2.2.2.2.1|with_reducible refine zk.h.2.2.2.2.2.2.2.2.1|with_reducible refine zk.h.2.2.2.2.2.2.2.2.2.1|with_reducible refine zk.h.2.2.2.2.2.2.2.2.2.2.1|with_reducible refine zk.h.2.2.2.2.2.2.2.2.2.2.2.1|with_reducible refine zk.h.2.2.2.2.2.2.2.2.2.2.2.2.1|with_reducible refine zk.h.2.2.2.2.2.2.2.2.2.2.2.2.2.1|with_reducible refine zk.h.2.2.2.2.2.2.2.2.2.2.2.2.2.2.1|with_reducible refine zk.h.2.2.2.2.2.2.2.2.2.2.2.2.2.2.2.1))
 · repeat' (first|exact .T|apply Df.C|exact .A)):G:=s.1 c x ⟨k⟩
theorem Wp {G H C X:Prop} (c:C) (x:X) (k:H) (s:(∀(zc:C) (zx:X) (zk:Kp H),G)∧Df H:=by
 constructor
 · unhygienic intros
   (try have z1:=zc.1);(try have z2:=zc.2.1);(try have z3:=zc.2.2.1);(try have z4:=zc.2.2.2.1);(try have z5:=zc.2.2.2.2.1);(try have z6:=zc.2.2.2.2.2.1);(try have z7:=zc.2.2.2.2.2.2.1);(try have z8:=zc.2.2.2.2.2.2.2.1);(try have z9:=zc.2.2.2.2.2.2.2.2.1);(try have rz:=zc.2.2.2.2.2.2.2.2.2.1);(try have ry:=zc.2.2.2.2.2.2.2.2.2.2.1);(try have rx:=zc.2.2.2.2.2.2.2.2.2.2.2.1)
   repeat' (first
   | (refine il fun R hR=>?_;(first|simp [ak,au,zx,hq]|simp [ak,au,zx]);try simp (disch:=omega) only [if_pos,if_neg,ak,au])
   | (refine hR _ _ ?_;clear hR R)|(refine hK _ _ ?_;clear hK K)|refine nx ?_
   | refine wn fun K hK=>?_
   | simp only [wS]
   | (refine MO ?_;first|refine kh z1 Tryz.mx (by decide +kernel) fun K hK=>?_|refine kh z2 Tryz.mx (by decide +kernel) fun K hK=>?_|refine kh z3 Tryz.mx (by decide +kernel) fun K hK=>?_|refine kh z4 Tryz.mx (by decide +kernel) fun K hK=>?_|refine kh z5 Tryz.mx (by decide +kernel) fun K hK=>?_|refine kh z6 Tryz.mx (by decide +kernel) fun K hK=>?_|refine kh z7 Tryz.mx (by decide +kernel) fun K hK=>?_|refine kh z8 Tryz.mx (by decide +kernel) fun K hK=>?_|refine kh z9 Tryz.mx (by decide +kernel) fun K hK=>?_|refine kh rz Tryz.mx (by decide +kernel) fun K hK=>?_|refine kh ry Tryz.mx (by decide +kernel) fun K hK=>?_|refine kh rx Tryz.mx (by decide +kernel) fun K hK=>?_)
   | (refine QS ?_;first
     | (apply aP.el;(·(first|apply z1|apply z2|apply z3|apply z4|apply z5|apply z6|apply z7|apply z8|apply z9|apply rz|apply ry|apply rx)<;>first|assumption|(simp [hq];done)|(refine gR ?_;simp [hq];rfl)|(simp [hq,zx];done)|omega|decide);(·exact wA);(·exact sA);(·first|exact pP|exact kP);(first|rintro _ zA rfl hS hw zn|rintro zn zA zn hS hw zn);have hS:=lA hS;(try (have hq:=iE hS hw)))
     | (apply bD;(·(first|apply z1|apply z2|apply z3|apply z4|apply z5|apply z6|apply z7|apply z8|apply z9|apply rz|apply ry|apply rx)<;>first|assumption|(simp [hq];done)|(refine gR ?_;simp [hq];rfl)|(simp [hq,zx];done)|omega|decide);(first|rintro _ _ ⟨rfl,rfl⟩ zn zn|rintro _ _ ⟨⟨zn,rfl⟩,rfl⟩ zn zn))
     | ((first|apply @Tg.h 10 _ z1|apply @Tg.h 10 _ z2|apply @Tg.h 10 _ z3|apply @Tg.h 10 _ z4|apply @Tg.h 10 _ z5|apply @Tg.h 10 _ z6|apply @Tg.h 10 _ z7);(·exact wA);(·exact sA);(·first|exact pP|exact kP);)
     | ((first|apply @Tg.h 11 _ z1|apply @Tg.h 11 _ z2|apply @Tg.h 11 _ z3|apply @Tg.h 11 _ z4|apply @Tg.h 11 _ z5|apply @Tg.h 11 _ z6|apply @Tg.h 11 _ z7);(·exact wA);(·exact sA);(·first|exact pP|exact kP);(·first|omega|(simp;omega)|(simp [hq];done));((first|rintro zn zn zA hS hw zn|rintro zn zA hS hw zn|rintro zn zA hS hw);(try refine⟨zn,?_⟩);(try (have hS:=lA hS));have hq:=iE hS hw))
     | ((first|apply @Tg.h 12 _ z1|apply @Tg.h 12 _ z2|apply @Tg.h 12 _ z3|apply @Tg.h 12 _ z4|apply @Tg.h 12 _ z5|apply @Tg.h 12 _ z6|apply @Tg.h 12 _ z7);(·exact wA);(·exact sA);(·first|exact pP|exact kP);(·first|exact pP|exact kP);(·first|omega|(simp;omega)|(simp [hq];done));(·first|omega|(simp;omega)|(simp [hq];done));((first|rintro zn zn zA hS hw zn|rintro zn zA hS hw zn|rintro zn zA hS hw);(try refine⟨zn,?_⟩);(try (have hS:=lA hS));have hq:=iE hS hw))
     | ((first|apply @Tg.h 14 _ z1|apply @Tg.h 14 _ z2|apply @Tg.h 14 _ z3|apply @Tg.h 14 _ z4|apply @Tg.h 14 _ z5|apply @Tg.h 14 _ z6|apply @Tg.h 14 _ z7);(·exact wA);(·exact sA);(·first|exact pP|exact kP);(·first|omega|(simp;omega)|(simp [hq];done));)
     | ((first|apply @Tg.h 15 _ z1|apply @Tg.h 15 _ z2|apply @Tg.h 15 _ z3|apply @Tg.h 15 _ z4|apply @Tg.h 15 _ z5|apply @Tg.h 15 _ z6|apply @Tg.h 15 _ z7);(·exact wA);(·exact sA);(·first|exact pP|exact kP);((first|rintro zn zn zA hS hw zn|rintro zn zA hS hw zn|rintro zn zA hS hw);(try refine⟨zn,?_⟩);(try (have hS:=lA hS));have hq:=iE hS hw))
     | ((first|apply @Tg.h 17 _ z1|apply @Tg.h 17 _ z2|apply @Tg.h 17 _ z3|apply @Tg.h 17 _ z4|apply @Tg.h 17 _ z5|apply @Tg.h 17 _ z6|apply @Tg.h 17 _ z7);(·exact wA);(·exact sA);(·first|exact pP|exact kP);((rintro zn zn zA hS hw);(try (have hS:=lA hS));have hq:=iE hS hw))
     | ((first|apply @Tg.h 18 _ z1|apply @Tg.h 18 _ z2|apply @Tg.h 18 _ z3|apply @Tg.h 18 _ z4|apply @Tg.h 18 _ z5|apply @Tg.h 18 _ z6|apply @Tg.h 18 _ z7);(·exact wA);(·exact sA);(·first|exact pP|exact kP);(·first|omega|(simp;omega)|(simp [hq];done));((rintro zn zn zn zA hS hw);(try (have hS:=lA hS));have hq:=iE hS hw))
     | ((first|apply @Tg.h 19 _ z1|apply @Tg.h 19 _ z2|apply @Tg.h 19 _ z3|apply @Tg.h 19 _ z4|apply @Tg.h 19 _ z5|apply @Tg.h 19 _ z6|apply @Tg.h 19 _ z7);(·exact wA);(·exact sA);((first|rintro zn zn zA hS hw zn|rintro zn zA hS hw zn|rintro zn zA hS hw);(try refine⟨zn,?_⟩);(try (have hS:=lA hS));have hq:=iE hS hw))
     | (apply aP.Jb;(·first|apply @Tg.h 20 _ z1|apply @Tg.h 20 _ z2|apply @Tg.h 20 _ z3|apply @Tg.h 20 _ z4|apply @Tg.h 20 _ z5|apply @Tg.h 20 _ z6|apply @Tg.h 20 _ z7);(·exact wA);(·exact sA);(·exact fP);(·first|exact pP|exact kP);(first|rintro _ zA rfl hS hw zn|rintro zn zA zn hS hw zn);have hS:=lA hS;(try (have hq:=iE hS hw));all_goals(try (first|exact 0|exact undef)))
     | (apply aP.xU;(·first|apply @Tg.h 21 _ z1|apply @Tg.h 21 _ z2|apply @Tg.h 21 _ z3|apply @Tg.h 21 _ z4|apply @Tg.h 21 _ z5|apply @Tg.h 21 _ z6|apply @Tg.h 21 _ z7);(·exact wA);(·exact sA);(·exact fP);(·first|exact pP|exact kP);(first|rintro _ zA rfl hS hw zn|rintro zn zA zn hS hw zn);have hS:=lA hS;(try (have hq:=iE hS hw));all_goals(try (first|exact 0|exact undef)))
     | (apply aP.QX;(·first|apply @Tg.h 22 _ z1|apply @Tg.h 22 _ z2|apply @Tg.h 22 _ z3|apply @Tg.h 22 _ z4|apply @Tg.h 22 _ z5|apply @Tg.h 22 _ z6|apply @Tg.h 22 _ z7);(·exact wA);(·exact sA);(·exact fP);(·first|exact pP|exact kP);(first|rintro _ zA rfl hS hw zn|rintro zn zA zn hS hw zn);have hS:=lA hS;(try (have hq:=iE hS hw));all_goals(try (first|exact 0|exact undef)))
     | ((first|apply @Tg.h 31 _ z1|apply @Tg.h 31 _ z2|apply @Tg.h 31 _ z3|apply @Tg.h 31 _ z4|apply @Tg.h 31 _ z5|apply @Tg.h 31 _ z6|apply @Tg.h 31 _ z7);(·exact wA);(·exact sA);(·exact fP);((first|rintro zn zn zA hS hw|rintro zn zA hS hw);(try dsimp only [cg,AW.aZ,na,zo] at hS);have hq:=VI hS hw);all_goals(try (first|exact 0|exact undef)))
     | (apply wW;(·first|apply @Tg.h 30 _ z1|apply @Tg.h 30 _ z2|apply @Tg.h 30 _ z3|apply @Tg.h 30 _ z4|apply @Tg.h 30 _ z5|apply @Tg.h 30 _ z6|apply @Tg.h 30 _ z7);(·exact wA);(·exact sA);(·exact fP);all_goals(try (first|exact 0|exact undef)))
     | (apply nA.el;(·first|apply @Tg.h 32 _ z1|apply @Tg.h 32 _ z2|apply @Tg.h 32 _ z3|apply @Tg.h 32 _ z4|apply @Tg.h 32 _ z5|apply @Tg.h 32 _ z6|apply @Tg.h 32 _ z7);(·exact wA);(·exact sA);(·first|exact pP|exact kP);(first|rintro xw _ zA rfl hS hw zn|rintro xw zn zA zn hS hw zn);(try (have hS:=lA hS));(try (have hq:=iE hS hw)))
     )
   | refine wb ?_|refine wr ?_|refine wk ?_|refine we ?_|refine ws ?_|refine wq ?_
   | (refine wc rfl (fun hc=>?_) (fun hc=>?_)<;>(try simp at hc)<;>(try omega)<;>(try (simp [h2] at hc;done))<;>(try (simp [h3] at hc;done))<;>(try (simp [h4] at hc;done)))
   | (refine ib (fun hc=>?_) (fun hc=>?_)<;>(try omega)<;>(try simp (disch:=omega) only [if_pos,if_neg]))
   | ((repeat (first|clear zc|clear zx|clear z1|clear z2|clear z3|clear z4|clear z5|clear z6|clear z7|clear z8|clear z9|clear rz|clear ry|clear rx));(try revert hq);(repeat clear hq);(try revert hS);(repeat clear hS);(try revert hw);(repeat clear hw);(repeat (first|revert hc|revert zn|revert zA|revert xw|revert K|revert hK|revert R|revert hR));first|with_reducible refine zk.h.1|with_reducible refine zk.h.2.1|with_reducible refine zk.h.2.2.1|with_reducible refine zk.h.2.2.2.1|with_reducible refine zk.h.2.2.2.2.1|with_reducible refine zk.h.2.2.2.2.2.1|with_reducible refine zk.h.2.2.2.2.2.2.1|with_reducible refine zk.h.2.2.2.2.2.2.2.1|with_reducible refine zk.h.2.2.2.2.2.2.2.2.1|with_reducible refine zk.h.2.2.2.2.2.2.2.2.2.1|with_reducible refine zk.h.2.2.2.2.2.2.2.2.2.2.1|with_reducible refine zk.h.2.2.2.2.2.2.2.2.2.2.2.1|with_reducible refine zk.h.2.2.2.2.2.2.2.2.2.2.2.2.1|with_reducible refine zk.h.2.2.2.2.2.2.2.2.2.2.2.2.2.1|with_reducible refine zk.h.2.2.2.2.2.2.2.2.2.2.2.2.2.2.1|with_reducible refine zk.h.2.2.2.2.2.2.2.2.2.2.2.2.2.2.2.1))
 · repeat' (first|exact .T|apply Df.C|exact .A)):G:=s.1 c x ⟨k⟩
theorem Wr {G H C X:Prop} (c:C) (x:X) (k:H) (s:(∀(zc:C) (zx:X) (zk:Kp H),G)∧Df H:=by
 constructor
 · unhygienic intros
   (try have z1:=zc.1);(try have z2:=zc.2.1);(try have z3:=zc.2.2.1);(try have z4:=zc.2.2.2.1);(try have z5:=zc.2.2.2.2.1);(try have z6:=zc.2.2.2.2.2.1);(try have z7:=zc.2.2.2.2.2.2.1);(try have z8:=zc.2.2.2.2.2.2.2.1);(try have z9:=zc.2.2.2.2.2.2.2.2.1);(try have rz:=zc.2.2.2.2.2.2.2.2.2.1);(try have ry:=zc.2.2.2.2.2.2.2.2.2.2.1);(try have rx:=zc.2.2.2.2.2.2.2.2.2.2.2.1)
   repeat' (first
   | (refine il fun R hR=>?_;(first|simp [ak,au,zx,hq]|simp [ak,au,zx]);try simp (disch:=omega) only [if_pos,if_neg,ak,au])
   | (refine hR _ _ ?_;clear hR R)|(refine hK _ _ ?_;clear hK K)|refine nx ?_
   | refine wn fun K hK=>?_
   | simp only [wS]
   | (refine MO ?_;first|refine kh z1 Tryz.mx (by decide +kernel) fun K hK=>?_|refine kh z2 Tryz.mx (by decide +kernel) fun K hK=>?_|refine kh z3 Tryz.mx (by decide +kernel) fun K hK=>?_|refine kh z4 Tryz.mx (by decide +kernel) fun K hK=>?_|refine kh z5 Tryz.mx (by decide +kernel) fun K hK=>?_|refine kh z6 Tryz.mx (by decide +kernel) fun K hK=>?_|refine kh z7 Tryz.mx (by decide +kernel) fun K hK=>?_|refine kh z8 Tryz.mx (by decide +kernel) fun K hK=>?_|refine kh z9 Tryz.mx (by decide +kernel) fun K hK=>?_|refine kh rz Tryz.mx (by decide +kernel) fun K hK=>?_|refine kh ry Tryz.mx (by decide +kernel) fun K hK=>?_|refine kh rx Tryz.mx (by decide +kernel) fun K hK=>?_)
   | (refine QS ?_;first
     | (apply aP.el;(·(first|apply z1|apply z2|apply z3|apply z4|apply z5|apply z6|apply z7|apply z8|apply z9|apply rz|apply ry|apply rx)<;>first|assumption|(simp [hq];done)|(refine gR ?_;simp [hq];rfl)|(simp [hq,zx];done)|omega|decide);(·exact wA);(·exact sA);(·first|exact pR|exact kR);(first|rintro _ zA rfl hS hw zn|rintro zn zA zn hS hw zn);have hS:=lA hS;(try (have hq:=iE hS hw)))
     | (apply bD;(·(first|apply z1|apply z2|apply z3|apply z4|apply z5|apply z6|apply z7|apply z8|apply z9|apply rz|apply ry|apply rx)<;>first|assumption|(simp [hq];done)|(refine gR ?_;simp [hq];rfl)|(simp [hq,zx];done)|omega|decide);(first|rintro _ _ ⟨rfl,rfl⟩ zn zn|rintro _ _ ⟨⟨zn,rfl⟩,rfl⟩ zn zn))
     | ((first|apply @Tg.h 10 _ z1|apply @Tg.h 10 _ z2|apply @Tg.h 10 _ z3|apply @Tg.h 10 _ z4|apply @Tg.h 10 _ z5|apply @Tg.h 10 _ z6|apply @Tg.h 10 _ z7);(·exact wA);(·exact sA);(·first|exact pR|exact kR);)
     | ((first|apply @Tg.h 11 _ z1|apply @Tg.h 11 _ z2|apply @Tg.h 11 _ z3|apply @Tg.h 11 _ z4|apply @Tg.h 11 _ z5|apply @Tg.h 11 _ z6|apply @Tg.h 11 _ z7);(·exact wA);(·exact sA);(·first|exact pR|exact kR);(·first|omega|(simp;omega)|(simp [hq];done));((first|rintro zn zn zA hS hw zn|rintro zn zA hS hw zn|rintro zn zA hS hw);(try refine⟨zn,?_⟩);(try (have hS:=lA hS));have hq:=iE hS hw))
     | ((first|apply @Tg.h 12 _ z1|apply @Tg.h 12 _ z2|apply @Tg.h 12 _ z3|apply @Tg.h 12 _ z4|apply @Tg.h 12 _ z5|apply @Tg.h 12 _ z6|apply @Tg.h 12 _ z7);(·exact wA);(·exact sA);(·first|exact pR|exact kR);(·first|exact pR|exact kR);(·first|omega|(simp;omega)|(simp [hq];done));(·first|omega|(simp;omega)|(simp [hq];done));((first|rintro zn zn zA hS hw zn|rintro zn zA hS hw zn|rintro zn zA hS hw);(try refine⟨zn,?_⟩);(try (have hS:=lA hS));have hq:=iE hS hw))
     | ((first|apply @Tg.h 14 _ z1|apply @Tg.h 14 _ z2|apply @Tg.h 14 _ z3|apply @Tg.h 14 _ z4|apply @Tg.h 14 _ z5|apply @Tg.h 14 _ z6|apply @Tg.h 14 _ z7);(·exact wA);(·exact sA);(·first|exact pR|exact kR);(·first|omega|(simp;omega)|(simp [hq];done));)
     | ((first|apply @Tg.h 15 _ z1|apply @Tg.h 15 _ z2|apply @Tg.h 15 _ z3|apply @Tg.h 15 _ z4|apply @Tg.h 15 _ z5|apply @Tg.h 15 _ z6|apply @Tg.h 15 _ z7);(·exact wA);(·exact sA);(·first|exact pR|exact kR);((first|rintro zn zn zA hS hw zn|rintro zn zA hS hw zn|rintro zn zA hS hw);(try refine⟨zn,?_⟩);(try (have hS:=lA hS));have hq:=iE hS hw))
     | ((first|apply @Tg.h 17 _ z1|apply @Tg.h 17 _ z2|apply @Tg.h 17 _ z3|apply @Tg.h 17 _ z4|apply @Tg.h 17 _ z5|apply @Tg.h 17 _ z6|apply @Tg.h 17 _ z7);(·exact wA);(·exact sA);(·first|exact pR|exact kR);((rintro zn zn zA hS hw);(try (have hS:=lA hS));have hq:=iE hS hw))
     | ((first|apply @Tg.h 18 _ z1|apply @Tg.h 18 _ z2|apply @Tg.h 18 _ z3|apply @Tg.h 18 _ z4|apply @Tg.h 18 _ z5|apply @Tg.h 18 _ z6|apply @Tg.h 18 _ z7);(·exact wA);(·exact sA);(·first|exact pR|exact kR);(·first|omega|(simp;omega)|(simp [hq];done));((rintro zn zn zn zA hS hw);(try (have hS:=lA hS));have hq:=iE hS hw))
     | ((first|apply @Tg.h 19 _ z1|apply @Tg.h 19 _ z2|apply @Tg.h 19 _ z3|apply @Tg.h 19 _ z4|apply @Tg.h 19 _ z5|apply @Tg.h 19 _ z6|apply @Tg.h 19 _ z7);(·exact wA);(·exact sA);((first|rintro zn zn zA hS hw zn|rintro zn zA hS hw zn|rintro zn zA hS hw);(try refine⟨zn,?_⟩);(try (have hS:=lA hS));have hq:=iE hS hw))
     | (apply aP.Io;(·first|apply @Tg.h 24 _ z1|apply @Tg.h 24 _ z2|apply @Tg.h 24 _ z3|apply @Tg.h 24 _ z4|apply @Tg.h 24 _ z5|apply @Tg.h 24 _ z6|apply @Tg.h 24 _ z7);(·exact wA);(·exact sA);(·exact fR);(·first|exact pR|exact kR);(first|rintro _ zA rfl hS hw zn|rintro zn zA zn hS hw zn);(try (have hS:=lA hS));(try (have hq:=iE hS hw));all_goals(try (first|exact 0|exact undef)))
     | (apply aP.E6;(·first|apply @Tg.h 25 _ z1|apply @Tg.h 25 _ z2|apply @Tg.h 25 _ z3|apply @Tg.h 25 _ z4|apply @Tg.h 25 _ z5|apply @Tg.h 25 _ z6|apply @Tg.h 25 _ z7);(·exact wA);(·exact sA);(·exact fR);(·first|exact pR|exact kR);(first|rintro _ zA rfl hS hw zn|rintro zn zA zn hS hw zn);(try (have hS:=lA hS));(try (have hq:=iE hS hw));all_goals(try (first|exact 0|exact undef)))
     | (apply aP.Og;(·first|apply @Tg.h 26 _ z1|apply @Tg.h 26 _ z2|apply @Tg.h 26 _ z3|apply @Tg.h 26 _ z4|apply @Tg.h 26 _ z5|apply @Tg.h 26 _ z6|apply @Tg.h 26 _ z7);(·exact wA);(·exact sA);(·exact fR);(·first|exact pR|exact kR);(first|rintro _ zA rfl hS hw zn|rintro zn zA zn hS hw zn);(try (have hS:=lA hS));(try (have hq:=iE hS hw));all_goals(try (first|exact 0|exact undef)))
     | (apply nA.el;(·first|apply @Tg.h 32 _ z1|apply @Tg.h 32 _ z2|apply @Tg.h 32 _ z3|apply @Tg.h 32 _ z4|apply @Tg.h 32 _ z5|apply @Tg.h 32 _ z6|apply @Tg.h 32 _ z7);(·exact wA);(·exact sA);(·first|exact pR|exact kR);(first|rintro xw _ zA rfl hS hw zn|rintro xw zn zA zn hS hw zn);(try (have hS:=lA hS));(try (have hq:=iE hS hw)))
     )
   | refine wb ?_|refine wr ?_|refine wk ?_|refine we ?_|refine ws ?_|refine wq ?_
   | (refine wc rfl (fun hc=>?_) (fun hc=>?_)<;>(try simp at hc)<;>(try omega))
   | (refine ib (fun hc=>?_) (fun hc=>?_)<;>(try omega)<;>(try simp (disch:=omega) only [if_pos,if_neg]))
   | ((repeat (first|clear zc|clear zx|clear z1|clear z2|clear z3|clear z4|clear z5|clear z6|clear z7|clear z8|clear z9|clear rz|clear ry|clear rx));(try revert hq);(repeat clear hq);(try revert hS);(repeat clear hS);(try revert hw);(repeat clear hw);(repeat (first|revert hc|revert zn|revert zA|revert xw|revert K|revert hK|revert R|revert hR));first|with_reducible refine zk.h.1|with_reducible refine zk.h.2.1|with_reducible refine zk.h.2.2.1|with_reducible refine zk.h.2.2.2.1|with_reducible refine zk.h.2.2.2.2.1|with_reducible refine zk.h.2.2.2.2.2.1|with_reducible refine zk.h.2.2.2.2.2.2.1|with_reducible refine zk.h.2.2.2.2.2.2.2.1|with_reducible refine zk.h.2.2.2.2.2.2.2.2.1|with_reducible refine zk.h.2.2.2.2.2.2.2.2.2.1|with_reducible refine zk.h.2.2.2.2.2.2.2.2.2.2.1|with_reducible refine zk.h.2.2.2.2.2.2.2.2.2.2.2.1|with_reducible refine zk.h.2.2.2.2.2.2.2.2.2.2.2.2.1|with_reducible refine zk.h.2.2.2.2.2.2.2.2.2.2.2.2.2.1|with_reducible refine zk.h.2.2.2.2.2.2.2.2.2.2.2.2.2.2.1|with_reducible refine zk.h.2.2.2.2.2.2.2.2.2.2.2.2.2.2.2.1))
 · repeat' (first|exact .T|apply Df.C|exact .A)):G:=s.1 c x ⟨k⟩
theorem Wx {G H C X:Prop} (c:C) (x:X) (k:H) (s:(∀(zc:C) (zx:X) (zk:Kp H),G)∧Df H:=by
 constructor
 · unhygienic intros
   (try have z1:=zc.1);(try have z2:=zc.2.1);(try have z3:=zc.2.2.1);(try have z4:=zc.2.2.2.1);(try have z5:=zc.2.2.2.2.1);(try have z6:=zc.2.2.2.2.2.1);(try have z7:=zc.2.2.2.2.2.2.1);(try have z8:=zc.2.2.2.2.2.2.2.1);(try have z9:=zc.2.2.2.2.2.2.2.2.1);(try have rz:=zc.2.2.2.2.2.2.2.2.2.1);(try have ry:=zc.2.2.2.2.2.2.2.2.2.2.1);(try have rx:=zc.2.2.2.2.2.2.2.2.2.2.2.1)
   repeat' (first
   | (with_reducible apply Kj;(·first|(simp;done)|(simp;rfl));(·first|(simp;done)|(simp;rfl));(·exact wA);(·exact sA);(·first|exact pA|exact kA);(·first|(simp;done)|(simp;rfl)|(simp [hq];done)|(simp [hq];rfl));(·first|omega|(simp;omega));(·intro _ _;trivial);rintro zn zn zA hS hw zn;(try have hS:=lA hS);have hq:=iE hS hw)
   | (with_reducible apply SL;(·first|(simp;done)|(simp;rfl));(·first|(simp;done)|(simp;rfl));(·exact wA);(·exact sA);(·first|exact pA|exact kA);(·first|(simp;done)|(simp;rfl)|(simp [hq];done)|(simp [hq];rfl));(·first|omega|(simp;omega));(·intro _ _;trivial);rintro zn zn zA hS hw zn;(try have hS:=lA hS);have hq:=iE hS hw)
   | (with_reducible apply Sz;(·first|(simp;done)|(simp;rfl));(·first|(simp;done)|(simp;rfl));(·exact wA);(·exact sA);(·first|exact pA|exact kA);(·first|(simp;done)|(simp;rfl)|(simp [hq];done)|(simp [hq];rfl));(·first|omega|(simp;omega));(·intro _ _;trivial);rintro zn zn zA hS hw zn;(try have hS:=lA hS);have hq:=iE hS hw)
   | (with_reducible apply Sy;(·first|(simp;done)|(simp;rfl));(·first|(simp;done)|(simp;rfl));(·exact wA);(·exact sA);(·first|exact pA|exact kA);(·first|(simp;done)|(simp;rfl)|(simp [hq];done)|(simp [hq];rfl));(·first|omega|(simp;omega));(·intro _ _;trivial);rintro zn zn zA hS hw zn;(try have hS:=lA hS);have hq:=iE hS hw)
   | (refine EZ fun R hR=>?_;(first|simp [ak,au,zx,hq]|simp [ak,au,zx]);try simp (disch:=omega) only [if_pos,if_neg,ak,au])
   | (refine EF (fun R hR=>?_) (fun R hR=>?_)<;>(first|(with_reducible apply SO;(·first|(simp;done)|(simp;rfl));(·first|(simp;done)|(simp;rfl));(·exact wA);(·exact sA);(·first|exact pA|exact kA);(·first|(simp;done)|(simp;rfl)|(simp [hq];done)|(simp [hq];rfl));(·first|omega|(simp;omega));(·intro _ _;trivial);rintro zn zn zA hS hw zn;(try have hS:=lA hS);have hq:=iE hS hw)|(with_reducible apply SN;(·first|(simp;done)|(simp;rfl));(·first|(simp;done)|(simp;rfl));(·exact wA);(·exact sA);(·first|exact pA|exact kA);(·first|(simp;done)|(simp;rfl)|(simp [hq];done)|(simp [hq];rfl));(·first|omega|(simp;omega));(·intro _ _;trivial);rintro zn zn zA hS hw zn;(try have hS:=lA hS);have hq:=iE hS hw)|((first|simp [ak,au,zx,hq]|simp [ak,au,zx]);try simp (disch:=omega) only [if_pos,if_neg,ak,au])))
   | refine EY ?_
   | (refine MO ?_;first|refine rn z1 Tryz.mx (by decide +kernel) fun K hK=>?_|refine rp z1 Tryz.mx (by decide +kernel) fun K hK=>?_|refine rn z2 Tryz.mx (by decide +kernel) fun K hK=>?_|refine rp z2 Tryz.mx (by decide +kernel) fun K hK=>?_|refine rn z3 Tryz.mx (by decide +kernel) fun K hK=>?_|refine rp z3 Tryz.mx (by decide +kernel) fun K hK=>?_|refine rn z4 Tryz.mx (by decide +kernel) fun K hK=>?_|refine rp z4 Tryz.mx (by decide +kernel) fun K hK=>?_|refine rn z5 Tryz.mx (by decide +kernel) fun K hK=>?_|refine rp z5 Tryz.mx (by decide +kernel) fun K hK=>?_|refine rn z6 Tryz.mx (by decide +kernel) fun K hK=>?_|refine rp z6 Tryz.mx (by decide +kernel) fun K hK=>?_|refine rn z7 Tryz.mx (by decide +kernel) fun K hK=>?_|refine rp z7 Tryz.mx (by decide +kernel) fun K hK=>?_|refine rn z8 Tryz.mx (by decide +kernel) fun K hK=>?_|refine rp z8 Tryz.mx (by decide +kernel) fun K hK=>?_|refine rn z9 Tryz.mx (by decide +kernel) fun K hK=>?_|refine rp z9 Tryz.mx (by decide +kernel) fun K hK=>?_|refine rn rz Tryz.mx (by decide +kernel) fun K hK=>?_|refine rp rz Tryz.mx (by decide +kernel) fun K hK=>?_|refine rn ry Tryz.mx (by decide +kernel) fun K hK=>?_|refine rp ry Tryz.mx (by decide +kernel) fun K hK=>?_|refine rn rx Tryz.mx (by decide +kernel) fun K hK=>?_|refine rp rx Tryz.mx (by decide +kernel) fun K hK=>?_)
   | simp only [hN,nC,jt,Option.map_none,Option.map_some,List.getElem?_toArray,List.getElem?_cons_zero,List.getElem?_cons_succ,List.getD_cons_zero,List.getD_cons_succ,Option.bind_some]
   | (refine ⟨by simp [hq],?_⟩)|(refine ⟨⟨by simp [hq],by simp [hq],by simp [hq]⟩,?_⟩)|(refine ⟨fun A' kL=>by simp [AW.aa,kL],?_⟩)|(refine ⟨fun A' kL=>by rw [kL]<;>rfl,?_⟩)|(refine ⟨fun A' g1 g2 g3=>by simp [AW.aa,g1,g2,g3],?_⟩)|(refine ⟨fun A' x g1 g2 g3=>by simp [AW.aa,g1,g2,g3],?_⟩)
   | (refine il fun R hR=>?_;(first|simp [ak,au,zx,hq]|simp [ak,au,zx]);try simp (disch:=omega) only [if_pos,if_neg,ak,au])
   | (refine hR _ _ ?_;clear hR R)|(refine hK _ _ ?_;clear hK K)|refine nx ?_
   | refine wn fun K hK=>?_
   | simp only [wS]
   | (refine MO ?_;first|refine kh z1 Tryz.mx (by decide +kernel) fun K hK=>?_|refine kh z2 Tryz.mx (by decide +kernel) fun K hK=>?_|refine kh z3 Tryz.mx (by decide +kernel) fun K hK=>?_|refine kh z4 Tryz.mx (by decide +kernel) fun K hK=>?_|refine kh z5 Tryz.mx (by decide +kernel) fun K hK=>?_|refine kh z6 Tryz.mx (by decide +kernel) fun K hK=>?_|refine kh z7 Tryz.mx (by decide +kernel) fun K hK=>?_|refine kh z8 Tryz.mx (by decide +kernel) fun K hK=>?_|refine kh z9 Tryz.mx (by decide +kernel) fun K hK=>?_|refine kh rz Tryz.mx (by decide +kernel) fun K hK=>?_|refine kh ry Tryz.mx (by decide +kernel) fun K hK=>?_|refine kh rx Tryz.mx (by decide +kernel) fun K hK=>?_)
   | (refine QS ?_;first
     | (apply aP.el;(·(first|apply z1|apply z2|apply z3|apply z4|apply z5|apply z6|apply z7|apply z8|apply z9|apply rz|apply ry|apply rx)<;>first|assumption|(simp [hq];done)|(refine gR ?_;simp [hq];rfl)|(simp [hq,zx];done)|omega|decide);(·exact wA);(·exact sA);(·first|exact pA|exact kA);(first|rintro _ zA rfl hS hw zn|rintro zn zA zn hS hw zn);have hS:=lA hS;(try (have hq:=iE hS hw)))
     | (apply bD;(·(first|apply z1|apply z2|apply z3|apply z4|apply z5|apply z6|apply z7|apply z8|apply z9|apply rz|apply ry|apply rx)<;>first|assumption|(simp [hq];done)|(refine gR ?_;simp [hq];rfl)|(simp [hq,zx];done)|omega|decide);(first|rintro _ _ ⟨rfl,rfl⟩ zn zn|rintro _ _ ⟨⟨zn,rfl⟩,rfl⟩ zn zn))
     | ((first|apply @Tg.h 10 _ z1|apply @Tg.h 10 _ z2|apply @Tg.h 10 _ z3|apply @Tg.h 10 _ z4|apply @Tg.h 10 _ z5|apply @Tg.h 10 _ z6|apply @Tg.h 10 _ z7);(·exact wA);(·exact sA);(·first|exact pA|exact kA);)
     | ((first|apply @Tg.h 11 _ z1|apply @Tg.h 11 _ z2|apply @Tg.h 11 _ z3|apply @Tg.h 11 _ z4|apply @Tg.h 11 _ z5|apply @Tg.h 11 _ z6|apply @Tg.h 11 _ z7);(·exact wA);(·exact sA);(·first|exact pA|exact kA);(·first|omega|(simp;omega)|(simp [hq];done));((first|rintro zn zn zA hS hw zn|rintro zn zA hS hw zn|rintro zn zA hS hw);(try refine⟨zn,?_⟩);(try (have hS:=lA hS));have hq:=iE hS hw))
     | ((first|apply @Tg.h 12 _ z1|apply @Tg.h 12 _ z2|apply @Tg.h 12 _ z3|apply @Tg.h 12 _ z4|apply @Tg.h 12 _ z5|apply @Tg.h 12 _ z6|apply @Tg.h 12 _ z7);(·exact wA);(·exact sA);(·first|exact pA|exact kA);(·first|exact pA|exact kA);(·first|omega|(simp;omega)|(simp [hq];done));(·first|omega|(simp;omega)|(simp [hq];done));((first|rintro zn zn zA hS hw zn|rintro zn zA hS hw zn|rintro zn zA hS hw);(try refine⟨zn,?_⟩);(try (have hS:=lA hS));have hq:=iE hS hw))
     | ((first|apply @Tg.h 14 _ z1|apply @Tg.h 14 _ z2|apply @Tg.h 14 _ z3|apply @Tg.h 14 _ z4|apply @Tg.h 14 _ z5|apply @Tg.h 14 _ z6|apply @Tg.h 14 _ z7);(·exact wA);(·exact sA);(·first|exact pA|exact kA);(·first|omega|(simp;omega)|(simp [hq];done));)
     | ((first|apply @Tg.h 15 _ z1|apply @Tg.h 15 _ z2|apply @Tg.h 15 _ z3|apply @Tg.h 15 _ z4|apply @Tg.h 15 _ z5|apply @Tg.h 15 _ z6|apply @Tg.h 15 _ z7);(·exact wA);(·exact sA);(·first|exact pA|exact kA);((first|rintro zn zn zA hS hw zn|rintro zn zA hS hw zn|rintro zn zA hS hw);(try refine⟨zn,?_⟩);(try (have hS:=lA hS));have hq:=iE hS hw))
     | ((first|apply @Tg.h 17 _ z1|apply @Tg.h 17 _ z2|apply @Tg.h 17 _ z3|apply @Tg.h 17 _ z4|apply @Tg.h 17 _ z5|apply @Tg.h 17 _ z6|apply @Tg.h 17 _ z7);(·exact wA);(·exact sA);(·first|exact pA|exact kA);((rintro zn zn zA hS hw);(try (have hS:=lA hS));have hq:=iE hS hw))
     | ((first|apply @Tg.h 18 _ z1|apply @Tg.h 18 _ z2|apply @Tg.h 18 _ z3|apply @Tg.h 18 _ z4|apply @Tg.h 18 _ z5|apply @Tg.h 18 _ z6|apply @Tg.h 18 _ z7);(·exact wA);(·exact sA);(·first|exact pA|exact kA);(·first|omega|(simp;omega)|(simp [hq];done));((rintro zn zn zn zA hS hw);(try (have hS:=lA hS));have hq:=iE hS hw))
     | ((first|apply @Tg.h 19 _ z1|apply @Tg.h 19 _ z2|apply @Tg.h 19 _ z3|apply @Tg.h 19 _ z4|apply @Tg.h 19 _ z5|apply @Tg.h 19 _ z6|apply @Tg.h 19 _ z7);(·exact wA);(·exact sA);((first|rintro zn zn zA hS hw zn|rintro zn zA hS hw zn|rintro zn zA hS hw);(try refine⟨zn,?_⟩);(try (have hS:=lA hS));have hq:=iE hS hw))
     | (apply nA.el;(·first|apply @Tg.h 32 _ z1|apply @Tg.h 32 _ z2|apply @Tg.h 32 _ z3|apply @Tg.h 32 _ z4|apply @Tg.h 32 _ z5|apply @Tg.h 32 _ z6|apply @Tg.h 32 _ z7);(·exact wA);(·exact sA);(·first|exact pA|exact kA);(first|rintro xw _ zA rfl hS hw zn|rintro xw zn zA zn hS hw zn);(try (have hS:=lA hS));(try (have hq:=iE hS hw)))
     )
   | refine wb ?_|refine wr ?_|refine wk ?_|refine we ?_|refine ws ?_|refine wq ?_
   | (refine wc rfl (fun hc=>?_) (fun hc=>?_)<;>(try simp at hc)<;>(try omega))
   | (refine ib (fun hc=>?_) (fun hc=>?_)<;>(try omega)<;>(try simp (disch:=omega) only [if_pos,if_neg]))
   | ((repeat (first|clear zc|clear zx|clear z1|clear z2|clear z3|clear z4|clear z5|clear z6|clear z7|clear z8|clear z9|clear rz|clear ry|clear rx));(try revert hq);(repeat clear hq);(try revert hS);(repeat clear hS);(try revert hw);(repeat clear hw);(repeat (first|revert hc|revert zn|revert zA|revert xw|revert K|revert hK|revert R|revert hR));first|with_reducible refine zk.h.1|with_reducible refine zk.h.2.1|with_reducible refine zk.h.2.2.1|with_reducible refine zk.h.2.2.2.1|with_reducible refine zk.h.2.2.2.2.1|with_reducible refine zk.h.2.2.2.2.2.1|with_reducible refine zk.h.2.2.2.2.2.2.1|with_reducible refine zk.h.2.2.2.2.2.2.2.1|with_reducible refine zk.h.2.2.2.2.2.2.2.2.1|with_reducible refine zk.h.2.2.2.2.2.2.2.2.2.1|with_reducible refine zk.h.2.2.2.2.2.2.2.2.2.2.1|with_reducible refine zk.h.2.2.2.2.2.2.2.2.2.2.2.1|with_reducible refine zk.h.2.2.2.2.2.2.2.2.2.2.2.2.1|with_reducible refine zk.h.2.2.2.2.2.2.2.2.2.2.2.2.2.1|with_reducible refine zk.h.2.2.2.2.2.2.2.2.2.2.2.2.2.2.1|with_reducible refine zk.h.2.2.2.2.2.2.2.2.2.2.2.2.2.2.2.1))
 · repeat' (first|exact .T|apply Df.C|exact .A)):G:=s.1 c x ⟨k⟩
theorem Kv {G H C X:Prop} (c:C) (x:X) (k:H) (s:(∀(zc:C) (zx:X) (zk:Kp H),G)∧Df H:=by
 constructor
 · unhygienic intros
   (try have z1:=zc.1);(try have z2:=zc.2.1);(try have z3:=zc.2.2.1);(try have z4:=zc.2.2.2.1);(try have z5:=zc.2.2.2.2.1);(try have z6:=zc.2.2.2.2.2.1);(try have z7:=zc.2.2.2.2.2.2.1);(try have z8:=zc.2.2.2.2.2.2.2.1);(try have z9:=zc.2.2.2.2.2.2.2.2.1);(try have rz:=zc.2.2.2.2.2.2.2.2.2.1);(try have ry:=zc.2.2.2.2.2.2.2.2.2.2.1);(try have rx:=zc.2.2.2.2.2.2.2.2.2.2.2.1)
   repeat' (first
   | (with_reducible apply Kj;(·first|(simp;done)|(simp;rfl));(·first|(simp;done)|(simp;rfl));(·exact wA);(·exact sA);(·first|exact pP|exact kP);(·first|(simp;done)|(simp;rfl)|(simp [hq];done)|(simp [hq];rfl));(·first|omega|(simp;omega));(·intro _ _;trivial);rintro zn zn zA hS hw zn;(try have hS:=lA hS);have hq:=iE hS hw)
   | (with_reducible apply SL;(·first|(simp;done)|(simp;rfl));(·first|(simp;done)|(simp;rfl));(·exact wA);(·exact sA);(·first|exact pP|exact kP);(·first|(simp;done)|(simp;rfl)|(simp [hq];done)|(simp [hq];rfl));(·first|omega|(simp;omega));(·intro _ _;trivial);rintro zn zn zA hS hw zn;(try have hS:=lA hS);have hq:=iE hS hw)
   | (with_reducible apply Sz;(·first|(simp;done)|(simp;rfl));(·first|(simp;done)|(simp;rfl));(·exact wA);(·exact sA);(·first|exact pP|exact kP);(·first|(simp;done)|(simp;rfl)|(simp [hq];done)|(simp [hq];rfl));(·first|omega|(simp;omega));(·intro _ _;trivial);rintro zn zn zA hS hw zn;(try have hS:=lA hS);have hq:=iE hS hw)
   | (with_reducible apply Sy;(·first|(simp;done)|(simp;rfl));(·first|(simp;done)|(simp;rfl));(·exact wA);(·exact sA);(·first|exact pP|exact kP);(·first|(simp;done)|(simp;rfl)|(simp [hq];done)|(simp [hq];rfl));(·first|omega|(simp;omega));(·intro _ _;trivial);rintro zn zn zA hS hw zn;(try have hS:=lA hS);have hq:=iE hS hw)
   | (refine EZ fun R hR=>?_;(first|simp [ak,au,zx,hq]|simp [ak,au,zx]);try simp (disch:=omega) only [if_pos,if_neg,ak,au])
   | (refine EF (fun R hR=>?_) (fun R hR=>?_)<;>(first|(with_reducible apply SO;(·first|(simp;done)|(simp;rfl));(·first|(simp;done)|(simp;rfl));(·exact wA);(·exact sA);(·first|exact pP|exact kP);(·first|(simp;done)|(simp;rfl)|(simp [hq];done)|(simp [hq];rfl));(·first|omega|(simp;omega));(·intro _ _;trivial);rintro zn zn zA hS hw zn;(try have hS:=lA hS);have hq:=iE hS hw)|(with_reducible apply SN;(·first|(simp;done)|(simp;rfl));(·first|(simp;done)|(simp;rfl));(·exact wA);(·exact sA);(·first|exact pP|exact kP);(·first|(simp;done)|(simp;rfl)|(simp [hq];done)|(simp [hq];rfl));(·first|omega|(simp;omega));(·intro _ _;trivial);rintro zn zn zA hS hw zn;(try have hS:=lA hS);have hq:=iE hS hw)|((first|simp [ak,au,zx,hq]|simp [ak,au,zx]);try simp (disch:=omega) only [if_pos,if_neg,ak,au])))
   | refine EY ?_
   | (refine MO ?_;first|refine rn z1 Tryz.mx (by decide +kernel) fun K hK=>?_|refine rp z1 Tryz.mx (by decide +kernel) fun K hK=>?_|refine rn z2 Tryz.mx (by decide +kernel) fun K hK=>?_|refine rp z2 Tryz.mx (by decide +kernel) fun K hK=>?_|refine rn z3 Tryz.mx (by decide +kernel) fun K hK=>?_|refine rp z3 Tryz.mx (by decide +kernel) fun K hK=>?_|refine rn z4 Tryz.mx (by decide +kernel) fun K hK=>?_|refine rp z4 Tryz.mx (by decide +kernel) fun K hK=>?_|refine rn z5 Tryz.mx (by decide +kernel) fun K hK=>?_|refine rp z5 Tryz.mx (by decide +kernel) fun K hK=>?_|refine rn z6 Tryz.mx (by decide +kernel) fun K hK=>?_|refine rp z6 Tryz.mx (by decide +kernel) fun K hK=>?_|refine rn z7 Tryz.mx (by decide +kernel) fun K hK=>?_|refine rp z7 Tryz.mx (by decide +kernel) fun K hK=>?_|refine rn z8 Tryz.mx (by decide +kernel) fun K hK=>?_|refine rp z8 Tryz.mx (by decide +kernel) fun K hK=>?_|refine rn z9 Tryz.mx (by decide +kernel) fun K hK=>?_|refine rp z9 Tryz.mx (by decide +kernel) fun K hK=>?_|refine rn rz Tryz.mx (by decide +kernel) fun K hK=>?_|refine rp rz Tryz.mx (by decide +kernel) fun K hK=>?_|refine rn ry Tryz.mx (by decide +kernel) fun K hK=>?_|refine rp ry Tryz.mx (by decide +kernel) fun K hK=>?_|refine rn rx Tryz.mx (by decide +kernel) fun K hK=>?_|refine rp rx Tryz.mx (by decide +kernel) fun K hK=>?_)
   | simp only [hN,nC,jt,Option.map_none,Option.map_some,List.getElem?_toArray,List.getElem?_cons_zero,List.getElem?_cons_succ,List.getD_cons_zero,List.getD_cons_succ,Option.bind_some]
   | (refine ⟨by simp [hq],?_⟩)|(refine ⟨⟨by simp [hq],by simp [hq],by simp [hq]⟩,?_⟩)|(refine ⟨fun A' kL=>by simp [AW.aa,kL],?_⟩)|(refine ⟨fun A' kL=>by rw [kL]<;>rfl,?_⟩)|(refine ⟨fun A' g1 g2 g3=>by simp [AW.aa,g1,g2,g3],?_⟩)|(refine ⟨fun A' x g1 g2 g3=>by simp [AW.aa,g1,g2,g3],?_⟩)
   | (refine il fun R hR=>?_;(first|simp [ak,au,zx,hq]|simp [ak,au,zx]);try simp (disch:=omega) only [if_pos,if_neg,ak,au])
   | (refine hR _ _ ?_;clear hR R)|(refine hK _ _ ?_;clear hK K)|refine nx ?_
   | refine wn fun K hK=>?_
   | simp only [wS]
   | (refine MO ?_;first|refine kh z1 Tryz.mx (by decide +kernel) fun K hK=>?_|refine kh z2 Tryz.mx (by decide +kernel) fun K hK=>?_|refine kh z3 Tryz.mx (by decide +kernel) fun K hK=>?_|refine kh z4 Tryz.mx (by decide +kernel) fun K hK=>?_|refine kh z5 Tryz.mx (by decide +kernel) fun K hK=>?_|refine kh z6 Tryz.mx (by decide +kernel) fun K hK=>?_|refine kh z7 Tryz.mx (by decide +kernel) fun K hK=>?_|refine kh z8 Tryz.mx (by decide +kernel) fun K hK=>?_|refine kh z9 Tryz.mx (by decide +kernel) fun K hK=>?_|refine kh rz Tryz.mx (by decide +kernel) fun K hK=>?_|refine kh ry Tryz.mx (by decide +kernel) fun K hK=>?_|refine kh rx Tryz.mx (by decide +kernel) fun K hK=>?_)
   | (refine QS ?_;first
     | (apply aP.el;(·(first|apply z1|apply z2|apply z3|apply z4|apply z5|apply z6|apply z7|apply z8|apply z9|apply rz|apply ry|apply rx)<;>first|assumption|(simp [hq];done)|(refine gR ?_;simp [hq];rfl)|(simp [hq,zx];done)|omega|decide);(·exact wA);(·exact sA);(·first|exact pP|exact kP);(first|rintro _ zA rfl hS hw zn|rintro zn zA zn hS hw zn);have hS:=lA hS;(try (have hq:=iE hS hw)))
     | (apply bD;(·(first|apply z1|apply z2|apply z3|apply z4|apply z5|apply z6|apply z7|apply z8|apply z9|apply rz|apply ry|apply rx)<;>first|assumption|(simp [hq];done)|(refine gR ?_;simp [hq];rfl)|(simp [hq,zx];done)|omega|decide);(first|rintro _ _ ⟨rfl,rfl⟩ zn zn|rintro _ _ ⟨⟨zn,rfl⟩,rfl⟩ zn zn))
     | ((first|apply @Tg.h 10 _ z1|apply @Tg.h 10 _ z2|apply @Tg.h 10 _ z3|apply @Tg.h 10 _ z4|apply @Tg.h 10 _ z5|apply @Tg.h 10 _ z6|apply @Tg.h 10 _ z7);(·exact wA);(·exact sA);(·first|exact pP|exact kP);)
     | ((first|apply @Tg.h 11 _ z1|apply @Tg.h 11 _ z2|apply @Tg.h 11 _ z3|apply @Tg.h 11 _ z4|apply @Tg.h 11 _ z5|apply @Tg.h 11 _ z6|apply @Tg.h 11 _ z7);(·exact wA);(·exact sA);(·first|exact pP|exact kP);(·first|omega|(simp;omega)|(simp [hq];done));((first|rintro zn zn zA hS hw zn|rintro zn zA hS hw zn|rintro zn zA hS hw);(try refine⟨zn,?_⟩);(try (have hS:=lA hS));have hq:=iE hS hw))
     | ((first|apply @Tg.h 12 _ z1|apply @Tg.h 12 _ z2|apply @Tg.h 12 _ z3|apply @Tg.h 12 _ z4|apply @Tg.h 12 _ z5|apply @Tg.h 12 _ z6|apply @Tg.h 12 _ z7);(·exact wA);(·exact sA);(·first|exact pP|exact kP);(·first|exact pP|exact kP);(·first|omega|(simp;omega)|(simp [hq];done));(·first|omega|(simp;omega)|(simp [hq];done));((first|rintro zn zn zA hS hw zn|rintro zn zA hS hw zn|rintro zn zA hS hw);(try refine⟨zn,?_⟩);(try (have hS:=lA hS));have hq:=iE hS hw))
     | ((first|apply @Tg.h 14 _ z1|apply @Tg.h 14 _ z2|apply @Tg.h 14 _ z3|apply @Tg.h 14 _ z4|apply @Tg.h 14 _ z5|apply @Tg.h 14 _ z6|apply @Tg.h 14 _ z7);(·exact wA);(·exact sA);(·first|exact pP|exact kP);(·first|omega|(simp;omega)|(simp [hq];done));)
     | ((first|apply @Tg.h 15 _ z1|apply @Tg.h 15 _ z2|apply @Tg.h 15 _ z3|apply @Tg.h 15 _ z4|apply @Tg.h 15 _ z5|apply @Tg.h 15 _ z6|apply @Tg.h 15 _ z7);(·exact wA);(·exact sA);(·first|exact pP|exact kP);((first|rintro zn zn zA hS hw zn|rintro zn zA hS hw zn|rintro zn zA hS hw);(try refine⟨zn,?_⟩);(try (have hS:=lA hS));have hq:=iE hS hw))
     | ((first|apply @Tg.h 17 _ z1|apply @Tg.h 17 _ z2|apply @Tg.h 17 _ z3|apply @Tg.h 17 _ z4|apply @Tg.h 17 _ z5|apply @Tg.h 17 _ z6|apply @Tg.h 17 _ z7);(·exact wA);(·exact sA);(·first|exact pP|exact kP);((rintro zn zn zA hS hw);(try (have hS:=lA hS));have hq:=iE hS hw))
     | ((first|apply @Tg.h 18 _ z1|apply @Tg.h 18 _ z2|apply @Tg.h 18 _ z3|apply @Tg.h 18 _ z4|apply @Tg.h 18 _ z5|apply @Tg.h 18 _ z6|apply @Tg.h 18 _ z7);(·exact wA);(·exact sA);(·first|exact pP|exact kP);(·first|omega|(simp;omega)|(simp [hq];done));((rintro zn zn zn zA hS hw);(try (have hS:=lA hS));have hq:=iE hS hw))
     | ((first|apply @Tg.h 19 _ z1|apply @Tg.h 19 _ z2|apply @Tg.h 19 _ z3|apply @Tg.h 19 _ z4|apply @Tg.h 19 _ z5|apply @Tg.h 19 _ z6|apply @Tg.h 19 _ z7);(·exact wA);(·exact sA);((first|rintro zn zn zA hS hw zn|rintro zn zA hS hw zn|rintro zn zA hS hw);(try refine⟨zn,?_⟩);(try (have hS:=lA hS));have hq:=iE hS hw))
     | (apply aP.Jb;(·first|apply @Tg.h 20 _ z1|apply @Tg.h 20 _ z2|apply @Tg.h 20 _ z3|apply @Tg.h 20 _ z4|apply @Tg.h 20 _ z5|apply @Tg.h 20 _ z6|apply @Tg.h 20 _ z7);(·exact wA);(·exact sA);(·exact fP);(·first|exact pP|exact kP);(first|rintro _ zA rfl hS hw zn|rintro zn zA zn hS hw zn);have hS:=lA hS;(try (have hq:=iE hS hw));all_goals(try (first|exact 0|exact undef)))
     | (apply aP.xU;(·first|apply @Tg.h 21 _ z1|apply @Tg.h 21 _ z2|apply @Tg.h 21 _ z3|apply @Tg.h 21 _ z4|apply @Tg.h 21 _ z5|apply @Tg.h 21 _ z6|apply @Tg.h 21 _ z7);(·exact wA);(·exact sA);(·exact fP);(·first|exact pP|exact kP);(first|rintro _ zA rfl hS hw zn|rintro zn zA zn hS hw zn);have hS:=lA hS;(try (have hq:=iE hS hw));all_goals(try (first|exact 0|exact undef)))
     | (apply aP.QX;(·first|apply @Tg.h 22 _ z1|apply @Tg.h 22 _ z2|apply @Tg.h 22 _ z3|apply @Tg.h 22 _ z4|apply @Tg.h 22 _ z5|apply @Tg.h 22 _ z6|apply @Tg.h 22 _ z7);(·exact wA);(·exact sA);(·exact fP);(·first|exact pP|exact kP);(first|rintro _ zA rfl hS hw zn|rintro zn zA zn hS hw zn);have hS:=lA hS;(try (have hq:=iE hS hw));all_goals(try (first|exact 0|exact undef)))
     | ((first|apply @Tg.h 31 _ z1|apply @Tg.h 31 _ z2|apply @Tg.h 31 _ z3|apply @Tg.h 31 _ z4|apply @Tg.h 31 _ z5|apply @Tg.h 31 _ z6|apply @Tg.h 31 _ z7);(·exact wA);(·exact sA);(·exact fP);((first|rintro zn zn zA hS hw|rintro zn zA hS hw);(try dsimp only [cg,AW.aZ,na,zo] at hS);have hq:=VI hS hw);all_goals(try (first|exact 0|exact undef)))
     | (apply wW;(·first|apply @Tg.h 30 _ z1|apply @Tg.h 30 _ z2|apply @Tg.h 30 _ z3|apply @Tg.h 30 _ z4|apply @Tg.h 30 _ z5|apply @Tg.h 30 _ z6|apply @Tg.h 30 _ z7);(·exact wA);(·exact sA);(·exact fP);all_goals(try (first|exact 0|exact undef)))
     | (apply nA.el;(·first|apply @Tg.h 32 _ z1|apply @Tg.h 32 _ z2|apply @Tg.h 32 _ z3|apply @Tg.h 32 _ z4|apply @Tg.h 32 _ z5|apply @Tg.h 32 _ z6|apply @Tg.h 32 _ z7);(·exact wA);(·exact sA);(·first|exact pP|exact kP);(first|rintro xw _ zA rfl hS hw zn|rintro xw zn zA zn hS hw zn);(try (have hS:=lA hS));(try (have hq:=iE hS hw)))
     )
   | refine wb ?_|refine wr ?_|refine wk ?_|refine we ?_|refine ws ?_|refine wq ?_
   | (refine wc rfl (fun hc=>?_) (fun hc=>?_)<;>(try simp at hc)<;>(try omega)<;>(try (simp [h2] at hc;done))<;>(try (simp [h3] at hc;done))<;>(try (simp [h4] at hc;done)))
   | (refine ib (fun hc=>?_) (fun hc=>?_)<;>(try omega)<;>(try simp (disch:=omega) only [if_pos,if_neg]))
   | ((repeat (first|clear zc|clear zx|clear z1|clear z2|clear z3|clear z4|clear z5|clear z6|clear z7|clear z8|clear z9|clear rz|clear ry|clear rx));(try revert hq);(repeat clear hq);(try revert hS);(repeat clear hS);(try revert hw);(repeat clear hw);(repeat (first|revert hc|revert zn|revert zA|revert xw|revert K|revert hK|revert R|revert hR));first|with_reducible refine zk.h.1|with_reducible refine zk.h.2.1|with_reducible refine zk.h.2.2.1|with_reducible refine zk.h.2.2.2.1|with_reducible refine zk.h.2.2.2.2.1|with_reducible refine zk.h.2.2.2.2.2.1|with_reducible refine zk.h.2.2.2.2.2.2.1|with_reducible refine zk.h.2.2.2.2.2.2.2.1|with_reducible refine zk.h.2.2.2.2.2.2.2.2.1|with_reducible refine zk.h.2.2.2.2.2.2.2.2.2.1|with_reducible refine zk.h.2.2.2.2.2.2.2.2.2.2.1|with_reducible refine zk.h.2.2.2.2.2.2.2.2.2.2.2.1|with_reducible refine zk.h.2.2.2.2.2.2.2.2.2.2.2.2.1|with_reducible refine zk.h.2.2.2.2.2.2.2.2.2.2.2.2.2.1|with_reducible refine zk.h.2.2.2.2.2.2.2.2.2.2.2.2.2.2.1|with_reducible refine zk.h.2.2.2.2.2.2.2.2.2.2.2.2.2.2.2.1))
 · repeat' (first|exact .T|apply Df.C|exact .A)):G:=s.1 c x ⟨k⟩
theorem Qk {G H C X:Prop} (c:C) (x:X) (k:H) (s:(∀(zc:C) (zx:X) (zk:Kp H),G)∧Df H:=by
 constructor
 · unhygienic intros
   (try have z1:=zc.1);(try have z2:=zc.2.1);(try have z3:=zc.2.2.1);(try have z4:=zc.2.2.2.1);(try have z5:=zc.2.2.2.2.1);(try have z6:=zc.2.2.2.2.2.1);(try have z7:=zc.2.2.2.2.2.2.1);(try have z8:=zc.2.2.2.2.2.2.2.1);(try have z9:=zc.2.2.2.2.2.2.2.2.1);(try have rz:=zc.2.2.2.2.2.2.2.2.2.1);(try have ry:=zc.2.2.2.2.2.2.2.2.2.2.1);(try have rx:=zc.2.2.2.2.2.2.2.2.2.2.2.1)
   repeat' (first
   | (with_reducible apply Kj;(·first|(simp;done)|(simp;rfl));(·first|(simp;done)|(simp;rfl));(·exact wA);(·exact sA);(·first|exact pR|exact kR);(·first|(simp;done)|(simp;rfl)|(simp [hq];done)|(simp [hq];rfl));(·first|omega|(simp;omega));(·intro _ _;trivial);rintro zn zn zA hS hw zn;(try have hS:=lA hS);have hq:=iE hS hw)
   | (with_reducible apply SL;(·first|(simp;done)|(simp;rfl));(·first|(simp;done)|(simp;rfl));(·exact wA);(·exact sA);(·first|exact pR|exact kR);(·first|(simp;done)|(simp;rfl)|(simp [hq];done)|(simp [hq];rfl));(·first|omega|(simp;omega));(·intro _ _;trivial);rintro zn zn zA hS hw zn;(try have hS:=lA hS);have hq:=iE hS hw)
   | (with_reducible apply Sz;(·first|(simp;done)|(simp;rfl));(·first|(simp;done)|(simp;rfl));(·exact wA);(·exact sA);(·first|exact pR|exact kR);(·first|(simp;done)|(simp;rfl)|(simp [hq];done)|(simp [hq];rfl));(·first|omega|(simp;omega));(·intro _ _;trivial);rintro zn zn zA hS hw zn;(try have hS:=lA hS);have hq:=iE hS hw)
   | (with_reducible apply Sy;(·first|(simp;done)|(simp;rfl));(·first|(simp;done)|(simp;rfl));(·exact wA);(·exact sA);(·first|exact pR|exact kR);(·first|(simp;done)|(simp;rfl)|(simp [hq];done)|(simp [hq];rfl));(·first|omega|(simp;omega));(·intro _ _;trivial);rintro zn zn zA hS hw zn;(try have hS:=lA hS);have hq:=iE hS hw)
   | (refine EZ fun R hR=>?_;(first|simp [ak,au,zx,hq]|simp [ak,au,zx]);try simp (disch:=omega) only [if_pos,if_neg,ak,au])
   | (refine EF (fun R hR=>?_) (fun R hR=>?_)<;>(first|(with_reducible apply SO;(·first|(simp;done)|(simp;rfl));(·first|(simp;done)|(simp;rfl));(·exact wA);(·exact sA);(·first|exact pR|exact kR);(·first|(simp;done)|(simp;rfl)|(simp [hq];done)|(simp [hq];rfl));(·first|omega|(simp;omega));(·intro _ _;trivial);rintro zn zn zA hS hw zn;(try have hS:=lA hS);have hq:=iE hS hw)|(with_reducible apply SN;(·first|(simp;done)|(simp;rfl));(·first|(simp;done)|(simp;rfl));(·exact wA);(·exact sA);(·first|exact pR|exact kR);(·first|(simp;done)|(simp;rfl)|(simp [hq];done)|(simp [hq];rfl));(·first|omega|(simp;omega));(·intro _ _;trivial);rintro zn zn zA hS hw zn;(try have hS:=lA hS);have hq:=iE hS hw)|((first|simp [ak,au,zx,hq]|simp [ak,au,zx]);try simp (disch:=omega) only [if_pos,if_neg,ak,au])))
   | refine EY ?_
   | (refine MO ?_;first|refine rn z1 Tryz.mx (by decide +kernel) fun K hK=>?_|refine rp z1 Tryz.mx (by decide +kernel) fun K hK=>?_|refine rn z2 Tryz.mx (by decide +kernel) fun K hK=>?_|refine rp z2 Tryz.mx (by decide +kernel) fun K hK=>?_|refine rn z3 Tryz.mx (by decide +kernel) fun K hK=>?_|refine rp z3 Tryz.mx (by decide +kernel) fun K hK=>?_|refine rn z4 Tryz.mx (by decide +kernel) fun K hK=>?_|refine rp z4 Tryz.mx (by decide +kernel) fun K hK=>?_|refine rn z5 Tryz.mx (by decide +kernel) fun K hK=>?_|refine rp z5 Tryz.mx (by decide +kernel) fun K hK=>?_|refine rn z6 Tryz.mx (by decide +kernel) fun K hK=>?_|refine rp z6 Tryz.mx (by decide +kernel) fun K hK=>?_|refine rn z7 Tryz.mx (by decide +kernel) fun K hK=>?_|refine rp z7 Tryz.mx (by decide +kernel) fun K hK=>?_|refine rn z8 Tryz.mx (by decide +kernel) fun K hK=>?_|refine rp z8 Tryz.mx (by decide +kernel) fun K hK=>?_|refine rn z9 Tryz.mx (by decide +kernel) fun K hK=>?_|refine rp z9 Tryz.mx (by decide +kernel) fun K hK=>?_|refine rn rz Tryz.mx (by decide +kernel) fun K hK=>?_|refine rp rz Tryz.mx (by decide +kernel) fun K hK=>?_|refine rn ry Tryz.mx (by decide +kernel) fun K hK=>?_|refine rp ry Tryz.mx (by decide +kernel) fun K hK=>?_|refine rn rx Tryz.mx (by decide +kernel) fun K hK=>?_|refine rp rx Tryz.mx (by decide +kernel) fun K hK=>?_)
   | simp only [hN,nC,jt,Option.map_none,Option.map_some,List.getElem?_toArray,List.getElem?_cons_zero,List.getElem?_cons_succ,List.getD_cons_zero,List.getD_cons_succ,Option.bind_some]
   | (refine ⟨by simp [hq],?_⟩)|(refine ⟨⟨by simp [hq],by simp [hq],by simp [hq]⟩,?_⟩)|(refine ⟨fun A' kL=>by simp [AW.aa,kL],?_⟩)|(refine ⟨fun A' kL=>by rw [kL]<;>rfl,?_⟩)|(refine ⟨fun A' g1 g2 g3=>by simp [AW.aa,g1,g2,g3],?_⟩)|(refine ⟨fun A' x g1 g2 g3=>by simp [AW.aa,g1,g2,g3],?_⟩)
   | (refine il fun R hR=>?_;(first|simp [ak,au,zx,hq]|simp [ak,au,zx]);try simp (disch:=omega) only [if_pos,if_neg,ak,au])
   | (refine hR _ _ ?_;clear hR R)|(refine hK _ _ ?_;clear hK K)|refine nx ?_
   | refine wn fun K hK=>?_
   | simp only [wS]
   | (refine MO ?_;first|refine kh z1 Tryz.mx (by decide +kernel) fun K hK=>?_|refine kh z2 Tryz.mx (by decide +kernel) fun K hK=>?_|refine kh z3 Tryz.mx (by decide +kernel) fun K hK=>?_|refine kh z4 Tryz.mx (by decide +kernel) fun K hK=>?_|refine kh z5 Tryz.mx (by decide +kernel) fun K hK=>?_|refine kh z6 Tryz.mx (by decide +kernel) fun K hK=>?_|refine kh z7 Tryz.mx (by decide +kernel) fun K hK=>?_|refine kh z8 Tryz.mx (by decide +kernel) fun K hK=>?_|refine kh z9 Tryz.mx (by decide +kernel) fun K hK=>?_|refine kh rz Tryz.mx (by decide +kernel) fun K hK=>?_|refine kh ry Tryz.mx (by decide +kernel) fun K hK=>?_|refine kh rx Tryz.mx (by decide +kernel) fun K hK=>?_)
   | (refine QS ?_;first
     | (apply aP.el;(·(first|apply z1|apply z2|apply z3|apply z4|apply z5|apply z6|apply z7|apply z8|apply z9|apply rz|apply ry|apply rx)<;>first|assumption|(simp [hq];done)|(refine gR ?_;simp [hq];rfl)|(simp [hq,zx];done)|omega|decide);(·exact wA);(·exact sA);(·first|exact pR|exact kR);(first|rintro _ zA rfl hS hw zn|rintro zn zA zn hS hw zn);have hS:=lA hS;(try (have hq:=iE hS hw)))
     | (apply bD;(·(first|apply z1|apply z2|apply z3|apply z4|apply z5|apply z6|apply z7|apply z8|apply z9|apply rz|apply ry|apply rx)<;>first|assumption|(simp [hq];done)|(refine gR ?_;simp [hq];rfl)|(simp [hq,zx];done)|omega|decide);(first|rintro _ _ ⟨rfl,rfl⟩ zn zn|rintro _ _ ⟨⟨zn,rfl⟩,rfl⟩ zn zn))
     | ((first|apply @Tg.h 10 _ z1|apply @Tg.h 10 _ z2|apply @Tg.h 10 _ z3|apply @Tg.h 10 _ z4|apply @Tg.h 10 _ z5|apply @Tg.h 10 _ z6|apply @Tg.h 10 _ z7);(·exact wA);(·exact sA);(·first|exact pR|exact kR);)
     | ((first|apply @Tg.h 11 _ z1|apply @Tg.h 11 _ z2|apply @Tg.h 11 _ z3|apply @Tg.h 11 _ z4|apply @Tg.h 11 _ z5|apply @Tg.h 11 _ z6|apply @Tg.h 11 _ z7);(·exact wA);(·exact sA);(·first|exact pR|exact kR);(·first|omega|(simp;omega)|(simp [hq];done));((first|rintro zn zn zA hS hw zn|rintro zn zA hS hw zn|rintro zn zA hS hw);(try refine⟨zn,?_⟩);(try (have hS:=lA hS));have hq:=iE hS hw))
     | ((first|apply @Tg.h 12 _ z1|apply @Tg.h 12 _ z2|apply @Tg.h 12 _ z3|apply @Tg.h 12 _ z4|apply @Tg.h 12 _ z5|apply @Tg.h 12 _ z6|apply @Tg.h 12 _ z7);(·exact wA);(·exact sA);(·first|exact pR|exact kR);(·first|exact pR|exact kR);(·first|omega|(simp;omega)|(simp [hq];done));(·first|omega|(simp;omega)|(simp [hq];done));((first|rintro zn zn zA hS hw zn|rintro zn zA hS hw zn|rintro zn zA hS hw);(try refine⟨zn,?_⟩);(try (have hS:=lA hS));have hq:=iE hS hw))
     | ((first|apply @Tg.h 14 _ z1|apply @Tg.h 14 _ z2|apply @Tg.h 14 _ z3|apply @Tg.h 14 _ z4|apply @Tg.h 14 _ z5|apply @Tg.h 14 _ z6|apply @Tg.h 14 _ z7);(·exact wA);(·exact sA);(·first|exact pR|exact kR);(·first|omega|(simp;omega)|(simp [hq];done));)
     | ((first|apply @Tg.h 15 _ z1|apply @Tg.h 15 _ z2|apply @Tg.h 15 _ z3|apply @Tg.h 15 _ z4|apply @Tg.h 15 _ z5|apply @Tg.h 15 _ z6|apply @Tg.h 15 _ z7);(·exact wA);(·exact sA);(·first|exact pR|exact kR);((first|rintro zn zn zA hS hw zn|rintro zn zA hS hw zn|rintro zn zA hS hw);(try refine⟨zn,?_⟩);(try (have hS:=lA hS));have hq:=iE hS hw))
     | ((first|apply @Tg.h 17 _ z1|apply @Tg.h 17 _ z2|apply @Tg.h 17 _ z3|apply @Tg.h 17 _ z4|apply @Tg.h 17 _ z5|apply @Tg.h 17 _ z6|apply @Tg.h 17 _ z7);(·exact wA);(·exact sA);(·first|exact pR|exact kR);((rintro zn zn zA hS hw);(try (have hS:=lA hS));have hq:=iE hS hw))
     | ((first|apply @Tg.h 18 _ z1|apply @Tg.h 18 _ z2|apply @Tg.h 18 _ z3|apply @Tg.h 18 _ z4|apply @Tg.h 18 _ z5|apply @Tg.h 18 _ z6|apply @Tg.h 18 _ z7);(·exact wA);(·exact sA);(·first|exact pR|exact kR);(·first|omega|(simp;omega)|(simp [hq];done));((rintro zn zn zn zA hS hw);(try (have hS:=lA hS));have hq:=iE hS hw))
     | ((first|apply @Tg.h 19 _ z1|apply @Tg.h 19 _ z2|apply @Tg.h 19 _ z3|apply @Tg.h 19 _ z4|apply @Tg.h 19 _ z5|apply @Tg.h 19 _ z6|apply @Tg.h 19 _ z7);(·exact wA);(·exact sA);((first|rintro zn zn zA hS hw zn|rintro zn zA hS hw zn|rintro zn zA hS hw);(try refine⟨zn,?_⟩);(try (have hS:=lA hS));have hq:=iE hS hw))
     | (apply aP.Io;(·first|apply @Tg.h 24 _ z1|apply @Tg.h 24 _ z2|apply @Tg.h 24 _ z3|apply @Tg.h 24 _ z4|apply @Tg.h 24 _ z5|apply @Tg.h 24 _ z6|apply @Tg.h 24 _ z7);(·exact wA);(·exact sA);(·exact fR);(·first|exact pR|exact kR);(first|rintro _ zA rfl hS hw zn|rintro zn zA zn hS hw zn);(try (have hS:=lA hS));(try (have hq:=iE hS hw));all_goals(try (first|exact 0|exact undef)))
     | (apply aP.E6;(·first|apply @Tg.h 25 _ z1|apply @Tg.h 25 _ z2|apply @Tg.h 25 _ z3|apply @Tg.h 25 _ z4|apply @Tg.h 25 _ z5|apply @Tg.h 25 _ z6|apply @Tg.h 25 _ z7);(·exact wA);(·exact sA);(·exact fR);(·first|exact pR|exact kR);(first|rintro _ zA rfl hS hw zn|rintro zn zA zn hS hw zn);(try (have hS:=lA hS));(try (have hq:=iE hS hw));all_goals(try (first|exact 0|exact undef)))
     | (apply aP.Og;(·first|apply @Tg.h 26 _ z1|apply @Tg.h 26 _ z2|apply @Tg.h 26 _ z3|apply @Tg.h 26 _ z4|apply @Tg.h 26 _ z5|apply @Tg.h 26 _ z6|apply @Tg.h 26 _ z7);(·exact wA);(·exact sA);(·exact fR);(·first|exact pR|exact kR);(first|rintro _ zA rfl hS hw zn|rintro zn zA zn hS hw zn);(try (have hS:=lA hS));(try (have hq:=iE hS hw));all_goals(try (first|exact 0|exact undef)))
     | (apply nA.el;(·first|apply @Tg.h 32 _ z1|apply @Tg.h 32 _ z2|apply @Tg.h 32 _ z3|apply @Tg.h 32 _ z4|apply @Tg.h 32 _ z5|apply @Tg.h 32 _ z6|apply @Tg.h 32 _ z7);(·exact wA);(·exact sA);(·first|exact pR|exact kR);(first|rintro xw _ zA rfl hS hw zn|rintro xw zn zA zn hS hw zn);(try (have hS:=lA hS));(try (have hq:=iE hS hw)))
     )
   | refine wb ?_|refine wr ?_|refine wk ?_|refine we ?_|refine ws ?_|refine wq ?_
   | (refine wc rfl (fun hc=>?_) (fun hc=>?_)<;>(try simp at hc)<;>(try omega))
   | (refine ib (fun hc=>?_) (fun hc=>?_)<;>(try omega)<;>(try simp (disch:=omega) only [if_pos,if_neg]))
   | ((repeat (first|clear zc|clear zx|clear z1|clear z2|clear z3|clear z4|clear z5|clear z6|clear z7|clear z8|clear z9|clear rz|clear ry|clear rx));(try revert hq);(repeat clear hq);(try revert hS);(repeat clear hS);(try revert hw);(repeat clear hw);(repeat (first|revert hc|revert zn|revert zA|revert xw|revert K|revert hK|revert R|revert hR));first|with_reducible refine zk.h.1|with_reducible refine zk.h.2.1|with_reducible refine zk.h.2.2.1|with_reducible refine zk.h.2.2.2.1|with_reducible refine zk.h.2.2.2.2.1|with_reducible refine zk.h.2.2.2.2.2.1|with_reducible refine zk.h.2.2.2.2.2.2.1|with_reducible refine zk.h.2.2.2.2.2.2.2.1|with_reducible refine zk.h.2.2.2.2.2.2.2.2.1|with_reducible refine zk.h.2.2.2.2.2.2.2.2.2.1|with_reducible refine zk.h.2.2.2.2.2.2.2.2.2.2.1|with_reducible refine zk.h.2.2.2.2.2.2.2.2.2.2.2.1|with_reducible refine zk.h.2.2.2.2.2.2.2.2.2.2.2.2.1|with_reducible refine zk.h.2.2.2.2.2.2.2.2.2.2.2.2.2.1|with_reducible refine zk.h.2.2.2.2.2.2.2.2.2.2.2.2.2.2.1|with_reducible refine zk.h.2.2.2.2.2.2.2.2.2.2.2.2.2.2.2.1))
 · repeat' (first|exact .T|apply Df.C|exact .A)):G:=s.1 c x ⟨k⟩
end Go.Stx
