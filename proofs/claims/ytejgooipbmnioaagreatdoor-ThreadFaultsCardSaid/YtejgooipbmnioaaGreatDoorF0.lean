/-
 The abstract memory, its operations, and the walk over it.
-/
import Derived.WalkKit
import Derived.MapKept
import Derived.Lib.AppendZerosOnto
import Derived.ChangeKeysEq
import Derived.Laws.StructEq
import Derived.Laws.Cover3
import Derived.Laws.BytesArg
import Derived.Deep.LoopGhost
import Derived.Deep.Quiet
namespace Go.Stx
theorem af {α:Type _} {a:α} {as bs:List α}:(a::as)++bs=a::(as++bs):=rfl
theorem ag {α:Type _} {as:List α}:[]++as=as:=rfl
open Go
structure Pl where
 block:Nat
 base:Nat
 unit:Nat
 wi:Nat
abbrev Mp:=Nat→Option Pl
def mM (m:Mp) (a a':Addr):Prop:=
 a.spot=none∧a'.spot=none∧∃p,m a.block=some p∧a'.block=p.block∧a'.off=p.base+a.off
def wa (m:Mp) (a a':Addr) (gt:Nat):Prop:=
 a.spot=none∧a'.spot=none∧∃p,m a.block=some p∧a'.block=p.block∧a'.off=p.base+a.off∧a'.off+gt*p.unit≤p.wi
theorem wa.Md {m:Mp} {a a':Addr} {c:Nat} (h:wa m a a' c):mM m a a':=by
 obtain⟨h1,h2,p,h3,h4,h5,_⟩:=h
 exact⟨h1,h2,p,h3,h4,h5⟩
inductive bG (m:Mp):Value→Value→Prop
 | bool (b:Bool):bG m (.bool b) (.bool b)
 | int (k:IntKind) (n:Int):bG m (.int k n) (.int k n)
 | float (k:FloatKind) (n:Nat):bG m (.float k n) (.float k n)
 | complex (k:FloatKind) (x y:Nat):bG m (.complex k x y) (.complex k x y)
 | string (s:ByteArray):bG m (.string s) (.string s)
 | tP:bG m (.pointer none) (.pointer none)
 | Ef {a a':Addr} (h:mM m a a'):bG m (.pointer (some a)) (.pointer (some a'))
 | lg:bG m (.slice none 0 0) (.slice none 0 0)
 | slice {a a':Addr} {len ew gt:Nat} (h:wa m a a' gt∨(len=0∧gt=0∧(a.spot.isSome=true∨m a.block≠none))) (h1:len≤ew) (h2:ew≤gt) :
  bG m (.slice (some a) len ew) (.slice (some a') len gt)
 | ui:bG m (.map none) (.map none)
 | map {r r':Nat} (h:∃p,m r=some p∧p.block=r'):bG m (.map (some r)) (.map (some r'))
 | zp:bG m (.chan none) (.chan none)
 | func (fn:Fn) {x x' y y':Array Value} (hx:x.size=x'.size) (hy:y.size=y'.size)
  (h1:∀(i:Nat) (v v':Value),x[i]? = some v→x'[i]? = some v'→bG m v v')
  (h2:∀(i:Nat) (v v':Value),y[i]? = some v→y'[i]? = some v'→bG m v v') :
  bG m (.func fn x y) (.func fn x' y')
 | nilFunc:bG m .nilFunc .nilFunc
 | iface (t:TypeId) {v v':Value} (h:bG m v v'):bG m (.iface t v) (.iface t v')
 | nilIface:bG m .nilIface .nilIface
 | agg {x x':Array Value} (hx:x.size=x'.size)
  (h1:∀(i:Nat) (v v':Value),x[i]? = some v→x'[i]? = some v'→bG m v v'):bG m (.agg x) (.agg x')
 | tuple {x x':Array Value} (hx:x.size=x'.size)
  (h1:∀(i:Nat) (v v':Value),x[i]? = some v→x'[i]? = some v'→bG m v v'):bG m (.tuple x) (.tuple x')
def Mp.le (m m':Mp):Prop:=∀i x,m i=some x→m' i=some x
theorem Mp.le_refl (m:Mp):Mp.le m m:=fun _ _ h=>h
theorem Mp.le_trans {a b c:Mp} (h:Mp.le a b) (k:Mp.le b c):Mp.le a c:=fun i x e=>k i x (h i x e)
theorem Mp.M3 {m m':Mp} (hm:Mp.le m m') {i:Nat} (h:m i≠none):m' i≠none:=fun e=>by
 cases hi:m i with
 | none=>exact h hi
 | some p=>rw [hm i p hi] at e;cases e
theorem mM.mono {m m':Mp} (hm:Mp.le m m') {a a':Addr} (h:mM m a a'):mM m' a a':=by
 obtain⟨h1,h2,p,h3,h4⟩:=h
 exact⟨h1,h2,p,hm _ _ h3,h4⟩
theorem wa.mono {m m':Mp} (hm:Mp.le m m') {a a':Addr} {c:Nat} (h:wa m a a' c):wa m' a a' c:=by
 obtain⟨h1,h2,p,h3,h4⟩:=h
 exact⟨h1,h2,p,hm _ _ h3,h4⟩
theorem bG.mono {m m':Mp} (hm:Mp.le m m') {v v':Value} (h:bG m v v'):bG m' v v':=by
 induction h with
 | bool b=>exact .bool b
 | int k n=>exact .int k n
 | float k n=>exact .float k n
 | complex k x y=>exact .complex k x y
 | string s=>exact .string s
 | tP=>exact .tP
 | Ef h=>exact .Ef (h.mono hm)
 | lg=>exact .lg
 | slice h h1 h2=>exact .slice (h.imp (fun x=>x.mono hm) fun⟨e1,e2,e3⟩=>⟨e1,e2,e3.imp id (Mp.M3 hm)⟩) h1 h2
 | ui=>exact .ui
 | map h=>obtain⟨p,h1,h2⟩:=h;exact .map ⟨p,hm _ _ h1,h2⟩
 | zp=>exact .zp
 | func fn hx hy _ _ ih1 ih2=>exact .func fn hx hy ih1 ih2
 | nilFunc=>exact .nilFunc
 | iface t _ ih=>exact .iface t ih
 | nilIface=>exact .nilIface
 | agg hx _ ih=>exact .agg hx ih
 | tuple hx _ ih=>exact .tuple hx ih
def gu (m:Mp) (l l':List Value):Prop:=l.length=l'.length∧∀(i:Nat) (v v':Value),l[i]? = some v→l'[i]? = some v'→bG m v v'
theorem gu.nil {m:Mp}:gu m [] []:=⟨rfl,fun i v v' h=>by simp at h⟩
theorem gu.cons {m:Mp} {v v':Value} {l l':List Value} (h:bG m v v') (t:gu m l l'):gu m (v::l) (v'::l'):=by
 refine⟨by simp [t.1],fun i x x' h1 h2=>?_⟩
 cases i with
 | zero=>simp at h1 h2;subst h1;subst h2;exact h
 | succ i=>simp at h1 h2;exact t.2 i x x' h1 h2
theorem gu.append {m:Mp} {a a' b b':List Value} (h:gu m a a') (k:gu m b b'):gu m (a++b) (a'++b'):=by
 refine⟨by simp [h.1,k.1],fun i v v' h1 h2=>?_⟩
 rw [List.getElem?_append] at h1 h2
 rw [←h.1] at h2
 by_cases hi:i<a.length
 · rw [if_pos hi] at h1 h2;exact h.2 i v v' h1 h2
 · rw [if_neg hi] at h1 h2;exact k.2 _ v v' h1 h2
theorem gu.bR {m:Mp} {l l':List Value} (h:gu m l l') {i:Nat} {v:Value} (hi:l[i]? = some v):∃v',l'[i]? = some v'∧bG m v v':=by
 have dO:i<l'.length:=by rw [←h.1];exact(List.getElem?_eq_some_iff.1 hi).1
 exact⟨l'[i],List.getElem?_eq_getElem dO,h.2 i v _ hi (List.getElem?_eq_getElem dO)⟩
theorem gu.kI {m:Mp} {v:Value} {l l':List Value} (h:gu m (v::l) l'):∃v' t',l'=v'::t'∧bG m v v'∧gu m l t':=by
 cases l' with
 | nil=>have:=h.1;simp at this
 | cons v' t'=>
   refine⟨v',t',rfl,h.2 0 v v' rfl rfl,⟨by have:=h.1;simpa using this,fun i x x' h1 h2=>h.2 (i+1) x x' (by simpa using h1) (by simpa using h2)⟩⟩
theorem gu.oh {m:Mp} {l':List Value} (h:gu m [] l'):l'=[]:=by
 exact List.eq_nil_of_length_eq_zero h.1.symm
inductive dK where
 | cells (cs:List Value) (own:Bool) (unit:Nat)
 | map (es:List (Value×Value)) (own:Bool)
structure AW where
 next:Nat
 bR:Nat→Option dK
def AW.set (A:AW) (i:Nat) (o:Option dK):AW:={ A with bR:=fun j=>if j=i then o else A.bR j }
def AW.alloc (A:AW) (o:dK):AW:={ next:=A.next+1,bR:=fun j=>if j=A.next then some o else A.bR j }
def dK.own:dK→Bool
 | .cells _ o _=>o
 | .map _ o=>o
def kV (m:Mp) (w:World) (p:Pl):dK→Prop
 | .cells cs own unit=>∃iB e fr,w.heap[p.block]? = some (.cells iB e fr)∧(own=true→fr=(0,0))∧unit=p.unit∧iB.size=p.wi∧
  ∀(k:Nat) (v:Value),cs[k]? = some v→∃v',iB[p.base+k]? = some v'∧bG m v v'
 | .map Xy _=>∃jd ax es,Xy.Perm es∧w.heap[p.block]? = some (.map jd ax)∧es.length=jd.size∧
  ∀(k:Nat) (x:Value×Value) (e:MapEntry),es[k]? = some x→jd[k]? = some e→bG m x.1 e.key∧bG m x.2 e.val
theorem kV.heap {m:Mp} {w w':World} {p:Pl} {o:dK} (h:kV m w p o) (e:w'.heap[p.block]? = w.heap[p.block]?):kV m w' p o:=by
 cases o with
 | cells cs own unit=>
   obtain⟨iB,e',fr,h3,h4⟩:=h
   exact⟨iB,e',fr,by rw [e];exact h3,h4⟩
 | map es own=>
   obtain⟨jd,ax,tm,hp,h3,h4⟩:=h
   exact⟨jd,ax,tm,hp,by rw [e];exact h3,h4⟩
theorem kV.mono {m m':Mp} {w:World} {p:Pl} {o:dK} (hm:Mp.le m m') (h:kV m w p o):kV m' w p o:=by
 cases o with
 | cells cs own unit=>
   obtain⟨iB,e',fr,h3,h4,h5,h6,h7⟩:=h
   refine⟨iB,e',fr,h3,h4,h5,h6,fun k v hv=>?_⟩
   obtain⟨v',h8,h9⟩:=h7 k v hv
   exact⟨v',h8,h9.mono hm⟩
 | map es own=>
   obtain⟨jd,ax,tm,hp,h3,h4,h5⟩:=h
   exact⟨jd,ax,tm,hp,h3,h4,fun k x e a b=>⟨(h5 k x e a b).1.mono hm,(h5 k x e a b).2.mono hm⟩⟩
theorem kV.lt {m:Mp} {w:World} {p:Pl} {o:dK} (h:kV m w p o):p.block<w.heap.size:=by
 cases o with
 | cells cs own unit=>
   obtain⟨iB,e',fr,h3,_⟩:=h
   exact(Array.getElem?_eq_some_iff.1 h3).1
 | map es own=>
   obtain⟨jd,ax,tm,_,h3,_⟩:=h
   exact(Array.getElem?_eq_some_iff.1 h3).1
class Gl where
 B:Nat→Option Obj
 ok:Nat→Bool:=fun _=>false
 N:Nat:=0
 lt:∀g,ok g=true→g<N:=by simp
variable [Gl]
set_option linter.unusedSectionVars false
def GT (g:Nat):Nat:=match Gl.B g with|some (.cells iB _ _)=>iB.size|_=>0
def Fv (m:Mp):Prop:=∀g,Gl.ok g=true→m g=some ⟨g,0,1,GT g⟩
theorem Fv.mono {m m':Mp} (hm:Mp.le m m') (h:Fv m):Fv m':=fun g hg=>hm _ _ (h g hg)
structure jv (m:Mp) (A:AW) (w:World):Prop where
 Bq:∀i o,A.bR i=some o→∃p,m i=some p∧kV m w p o
 inj:∀i j o o' p p',A.bR i=some o→o.own=true→A.bR j=some o'→i≠j→m i=some p→m j=some p'→p.block≠p'.block
 pn:∀i,A.next≤i→m i=none
 DJ:∀i,A.next≤i→A.bR i=none
 laid:∀b x,Gl.B b=some x→w.heap[b]? = some x
 uj:∀i o p,A.bR i=some o→o.own=true→m i=some p→Gl.B p.block=none
 rY:Fv m
def Mo (m:Mp) (A:AW) (b:Nat):Prop:=∃i o p,A.bR i=some o∧o.own=true∧m i=some p∧p.block=b
def Iv (m:Mp) (A:AW) (b:Nat):Prop:=∃i o p,A.bR i=some o∧m i=some p∧p.block=b
structure iG (m:Mp) (A:AW) (w:World) (m':Mp) (A':AW) (w':World):Prop where
 ext:Mp.le m m'
 zO:jv m' A' w'
 next:A.next≤A'.next
 os:w'.os=w.os
 tape:w'.tape=w.tape
 output:w'.output=w.output
 size:w.heap.size≤w'.heap.size
 qq:∀b,b<w.heap.size→¬Mo m A b→w'.heap[b]? = w.heap[b]?
 grow:∀b,Mo m' A' b→Mo m A b∨w.heap.size≤b
 qA:∀i,i<A.next→m' i=m i
 MG:∀b,Iv m' A' b→Iv m A b∨w.heap.size≤b∨Gl.B b≠none
theorem iG.refl {m:Mp} {A:AW} {w:World} (h:jv m A w):iG m A w m A w:=
 ⟨Mp.le_refl m,h,Nat.le_refl _,rfl,rfl,rfl,Nat.le_refl _,fun _ _ _=>rfl,fun _ h=>.inl h,fun _ _=>rfl,fun _ h=>.inl h⟩
theorem iG.trans {m m1 m2:Mp} {A A1 A2:AW} {w w1 w2:World} (h:iG m A w m1 A1 w1) (k:iG m1 A1 w1 m2 A2 w2):iG m A w m2 A2 w2:=by
 refine⟨Mp.le_trans h.ext k.ext,k.zO,Nat.le_trans h.next k.next,k.os.trans h.os,k.tape.trans h.tape,k.output.trans h.output,Nat.le_trans h.size k.size,?_,?_,fun i hi=>(k.qA i (Nat.lt_of_lt_of_le hi h.next)).trans (h.qA i hi),?_⟩
 · intro b hb ho
   rw [k.qq b (Nat.lt_of_lt_of_le hb h.size) (fun hx=>?_),h.qq b hb ho]
   rcases h.grow b hx with h1|h1
   · exact ho h1
   · omega
 · intro b hb
   rcases k.grow b hb with h1|h1
   · exact h.grow b h1
   · exact .inr (Nat.le_trans h.size h1)
 · intro b hb
   rcases k.MG b hb with h1|h1|h1
   · exact h.MG b h1
   · exact .inr (.inl (Nat.le_trans h.size h1))
   · exact .inr (.inr h1)
theorem jv.CB {m:Mp} {A:AW} {w w':World} (h:jv m A w) (e:w'.heap=w.heap):jv m A w':=by
 refine⟨fun i o hi=>?_,h.inj,h.pn,h.DJ,fun b x hb=>by rw [e];exact h.laid b x hb,h.uj,h.rY⟩
 obtain⟨p,h1,h2⟩:=h.Bq i o hi
 exact⟨p,h1,h2.heap (by rw [e])⟩
theorem iG.drew {m:Mp} {A:AW} {w:World} (h:jv m A w):iG m A w m A w.drew:=
 ⟨Mp.le_refl m,h.CB rfl,Nat.le_refl _,rfl,rfl,rfl,Nat.le_refl _,fun _ _ _=>rfl,fun _ h=>.inl h,fun _ _=>rfl,fun _ h=>.inl h⟩
end Go.Stx
namespace Go.Stx
open Go
variable [Gl]
set_option linter.unusedSectionVars false
set_option linter.unusedVariables false
theorem nz (a:Addr) (n:Nat) (h:a.spot=none):a.add n=⟨a.block,a.off+n,none⟩:=by
 obtain⟨b,o,s⟩:=a
 simp only at h
 subst h
 unfold Addr.add
 split
 · rename_i h0;subst h0;rfl
 · rfl
theorem uO (a:Addr) (h:a.spot=none):a=⟨a.block,a.off,none⟩:=by
 obtain⟨b,o,s⟩:=a
 simp only at h
 subst h
 rfl
theorem bG.tS {m:Mp} {v v':Value} (h:bG m v v'):v'.oneCell'=v.oneCell':=by cases h<;>rfl
theorem bG.cells {m:Mp} {v v':Value} (h:bG m v v'):gu m v.cells.toList v'.cells.toList:=by
 have h0:=h
 cases h with
 | agg hx h1=>exact⟨by simpa [Value.cells] using hx,fun i x x' a b=>h1 i x x' (by simpa [Value.cells] using a) (by simpa [Value.cells] using b)⟩
 | _=>exact .cons h0 .nil
def AW.cK (A:AW) (i:Nat):Option (List Value):=
 match A.bR i with
 | some (.cells cs _ _)=>some cs
 | _=>none
theorem uI {m:Mp} {A:AW} {w:World} (hs:jv m A w) {a a':Addr} (ha:mM m a a') {cs:List Value} (hr:A.cK a.block=some cs) {k:Nat} {v:Value}
 (hv:cs[a.off+k]? = some v):∃v',w.cell? (a'.add k)=some v'∧bG m v v':=by
 obtain⟨h1,h2,p,h3,hb,h4⟩:=ha
 unfold AW.cK at hr
 split at hr
 · rename_i oK own unit hg
   simp only [Option.some.injEq] at hr
   subst hr
   obtain⟨p',h5,iB,e,fr,h6,_,_,_,h7⟩:=hs.Bq _ _ hg
   rw [h3] at h5
   simp only [Option.some.injEq] at h5
   subst h5
   obtain⟨v',h8,h9⟩:=h7 _ _ hv
   refine⟨v',?_,h9⟩
   rw [nz _ _ h2]
   simp only [World.cell?,hb,h6,Option.isSome_none,Bool.false_eq_true,if_false]
   rw [h4,Nat.add_assoc]
   exact h8
 · simp at hr
theorem K7 {P:Program} {m:Mp} {A:AW} {w:World} (hs:jv m A w) {a a':Addr} (ha:mM m a a') {cs:List Value} (hr:A.cK a.block=some cs) {v:Value}
 (hv:cs[a.off]? = some v):∃v',(load a').run P w=.ok v' w∧bG m v v':=by
 obtain⟨v',h1,h2⟩:=uI hs ha hr (k:=0) (by simpa using hv)
 refine⟨v',?_,h2⟩
 have e:a'.add 0=a':=by unfold Addr.add;simp
 rw [e] at h1
 rw [run_load,h1]
theorem Aw {P:Program} {m:Mp} {A:AW} {w:World} (hs:jv m A w) {a a':Addr} (ha:mM m a a') {cs:List Value} (hr:A.cK a.block=some cs) (n:Nat)
 (hn:a.off+n≤cs.length):∃l',(loadCells a' n).run P w=.ok l'.toArray w∧gu m ((cs.drop a.off).take n) l':=by
 have h:∀j,j<n→∃v',w.cell? (a'.add j)=some v'∧bG m (cs.getD (a.off+j) undef) v':=fun j hj=>
  uI hs ha hr (by rw [List.getD_eq_getElem?_getD,List.getElem?_eq_getElem (by omega)];rfl)
 let f:Nat→Value:=fun j=>(w.cell? (a'.add j)).getD undef
 have hf:∀j,j<n→w.cell? (a'.add j)=some (f j):=fun j hj=>by
  obtain⟨v',h1,_⟩:=h j hj
  simp [f,h1]
 refine⟨(List.range n).map f,run_loadCells w a' n f hf,?_,?_⟩
 · simp;omega
 · intro i v v' h1 h2
   have hi:i<n:=by
    have:=(List.getElem?_eq_some_iff.1 h2).1
    simpa using this
   obtain⟨v1,h3,h4⟩:=h i hi
   have e1:cs.getD (a.off+i) undef=v:=by
    rw [List.getElem?_take_of_lt hi,List.getElem?_drop] at h1
    rw [List.getD_eq_getElem?_getD,h1];rfl
   have e2:v'=v1:=by
    simp [hi,f,h3] at h2
    exact h2.symm
   rw [e1] at h4
   rw [e2]
   exact h4
def eI (cs:List Value) (off:Nat):List Value→List Value
 | []=>cs
 | v::vs=>eI (cs.set off v) (off+1) vs
theorem xh (vs:List Value):∀(cs:List Value) (off:Nat),(eI cs off vs).length=cs.length:=by
 induction vs with
 | nil=>intro cs off;rfl
 | cons v vs ih=>intro cs off;simp [eI,ih]
theorem AW.el {A:AW} {i:Nat} {o:Option dK}:(A.set i o).bR i=o:=by simp [AW.set]
theorem AW.bV {A:AW} {i j:Nat} {o:Option dK} (h:j≠i):(A.set i o).bR j=A.bR j:=by simp [AW.set,h]
theorem AW.HF {A:AW} {i:Nat} {o o':Option dK}:(A.set i o).set i o'=A.set i o':=by
 unfold AW.set
 congr 1
 funext j
 dsimp only
 split<;>rfl
theorem AW.Kr {A:AW} {i:Nat} {o:Option dK} (h:A.bR i=o):A.set i o=A:=by
 obtain⟨n,g⟩:=A
 unfold AW.set
 simp only at h ⊢
 congr 1
 funext j
 split
 · rename_i e;rw [e,h]
 · rfl
theorem iG.qN {m:Mp} {A:AW} {w w':World} (hs:jv m A w) {i:Nat} {p:Pl} {o0 o1:dK}
 (hg:A.bR i=some o0) (Fz:o0.own=true) (iV:o1.own=true) (hm:m i=some p)
 (qF:w'.heap.size=w.heap.size) (Nd:w'.os=w.os) (ht:w'.tape=w.tape) (ho:w'.output=w.output)
 (hb:kV m w' p o1) (p9:∀j,j≠p.block→w'.heap[j]? = w.heap[j]?) :
 iG m A w m (A.set i (some o1)) w':=by
 refine⟨Mp.le_refl m,⟨?_,?_,hs.pn,?_,?_,?_,hs.rY⟩,Nat.le_refl _,Nd,ht,ho,by omega,?_,?_,fun _ _=>rfl,?_⟩
 rotate_left 3
 · intro b x sy
   rw [p9 b (fun e=>by have:=hs.uj i o0 p hg Fz hm;rw [←e,sy] at this;cases this)]
   exact hs.laid b x sy
 · intro j o p' hj wH oR
   by_cases kK:j=i
   · subst kK
     exact hs.uj j o0 p' hg Fz oR
   · rw [AW.bV kK] at hj
     exact hs.uj j o p' hj wH oR
 rotate_left 3
 · intro j o hj
   by_cases kK:j=i
   · subst kK
     rw [AW.el] at hj
     simp only [Option.some.injEq] at hj
     subst hj
     exact⟨p,hm,hb⟩
   · rw [AW.bV kK] at hj
     obtain⟨p',h1,h2⟩:=hs.Bq j o hj
     have iX:p'.block≠p.block:=fun e'=>hs.inj i j _ o p p' hg Fz hj (Ne.symm kK) hm h1 e'.symm
     exact⟨p',h1,h2.heap (p9 _ iX)⟩
 · intro j j' o o' p1 p2 hj wH vC iX CS Vm
   by_cases kK:j=i
   · subst kK
     rw [AW.bV (Ne.symm iX)] at vC
     exact hs.inj j j' _ o' p1 p2 hg Fz vC iX CS Vm
   · rw [AW.bV kK] at hj
     by_cases hj'i:j'=i
     · subst hj'i
       exact hs.inj j j' o _ p1 p2 hj wH hg iX CS Vm
     · rw [AW.bV hj'i] at vC
       exact hs.inj j j' o o' p1 p2 hj wH vC iX CS Vm
 · intro j hj
   have kK:j≠i:=fun e=>by
    subst e
    rw [hs.DJ j hj] at hg
    cases hg
   rw [AW.bV kK]
   exact hs.DJ j hj
 · intro b' _ Nf
   refine p9 b' (fun e'=>Nf ?_)
   subst e'
   exact⟨i,_,p,hg,Fz,hm,rfl⟩
 · rintro b' ⟨j,o,p',hj,wH,oR,sy⟩
   by_cases kK:j=i
   · subst kK
     exact .inl ⟨j,_,p',hg,Fz,oR,sy⟩
   · rw [AW.bV kK] at hj
     exact .inl ⟨j,o,p',hj,wH,oR,sy⟩
 · rintro b' ⟨j,o,p',hj,oR,sy⟩
   by_cases kK:j=i
   · subst kK
     exact .inl ⟨j,_,p',hg,oR,sy⟩
   · rw [AW.bV kK] at hj
     exact .inl ⟨j,o,p',hj,oR,sy⟩
theorem iG.set {m:Mp} {A:AW} {w w':World} (hs:jv m A w) {i:Nat} {p:Pl} {cs oK:List Value} {unit:Nat} {zh:Array Value} {e:TypeId}
 (hg:A.bR i=some (.cells cs true unit)) (hm:m i=some p) (hu:unit=p.unit)
 (qF:w'.heap.size=w.heap.size) (Nd:w'.os=w.os) (ht:w'.tape=w.tape) (ho:w'.output=w.output)
 (hb:w'.heap[p.block]? = some (.cells zh e (0,0))) (vB:zh.size=p.wi) (p9:∀j,j≠p.block→w'.heap[j]? = w.heap[j]?)
 (tg:∀(k:Nat) (v:Value),oK[k]? = some v→∃v',zh[p.base+k]? = some v'∧bG m v v') :
 iG m A w m (A.set i (some (.cells oK true unit))) w':=
 iG.qN hs hg rfl rfl hm qF Nd ht ho ⟨zh,e,(0,0),hb,fun _=>rfl,hu,vB,tg⟩ p9
theorem FR {P:Program} {m:Mp} {A:AW} {w:World} (hs:jv m A w) {i k unit:Nat} {p:Pl} {cs:List Value} (hg:A.bR i=some (.cells cs true unit))
 (hm:m i=some p) (hk:k<cs.length) {v v':Value} (hv:bG m v v') (h1:v.oneCell'=true) :
 ∃w',(store ⟨p.block,p.base+k,none⟩ v').run P w=.ok () w'∧iG m A w m (A.set i (some (.cells (cs.set k v) true unit))) w':=by
 obtain⟨p1,h2,iB,e,fr,h3,h4,hu,vB,h5⟩:=hs.Bq i _ hg
 rw [hm] at h2
 simp only [Option.some.injEq] at h2
 subst h2
 have qB:=h4 rfl
 subst qB
 obtain⟨u,h6,_⟩:=h5 k cs[k] (List.getElem?_eq_getElem hk)
 have dO:p.base+k<iB.size:=(Array.getElem?_eq_some_iff.1 h6).1
 have bA:w.cell? ⟨p.block,p.base+k,none⟩=some u:=by simp [World.cell?,h3,h6]
 have hfz:w.frozen? ⟨p.block,p.base+k,none⟩=false:=by simp [World.frozen?,h3]
 refine⟨w.setCell ⟨p.block,p.base+k,none⟩ v',?_,?_⟩
 · rw [run_store P w _ _ _ (by rw [hv.tS];exact h1),bA]
   simp [hfz]
 · refine iG.set hs (zh:=iB.setIfInBounds (p.base+k) v') (e:=e) hg hm hu (by simp) rfl rfl rfl ?_ (by simpa using vB) ?_ ?_
   · simp only [World.setCell,Array.getElem?_modify,h3]
     simp
   · intro j hj
     simp only [World.setCell,Array.getElem?_modify]
     rw [if_neg (by omega)]
   · intro j x hx
     by_cases hjk:k=j
     · subst hjk
       rw [List.getElem?_set_self hk] at hx
       simp only [Option.some.injEq] at hx
       subst hx
       exact⟨v',by simp [dO],hv⟩
     · rw [List.getElem?_set_ne hjk] at hx
       obtain⟨x',h7,h8⟩:=h5 j x hx
       exact⟨x',by rw [Array.getElem?_setIfInBounds_ne (by omega)];exact h7,h8⟩
theorem mV {P:Program} {m:Mp} {i o unit:Nat} {p:Pl} (hm:m i=some p):∀(vs BV:List Value) (k:Nat) (cs:List Value) (A:AW) (w:World),
 jv m A w→A.bR i=some (.cells cs true unit)→gu m vs BV→(∀v∈vs,v.oneCell'=true)→o+k+vs.length≤cs.length→
 ∃w',(storeCells ⟨p.block,p.base+o,none⟩ BV k).run P w=.ok () w'∧iG m A w m (A.set i (some (.cells (eI cs (o+k) vs) true unit))) w'
 | [],BV,k,cs,A,w,hs,hg,hl,_,_=>by
   have e:=hl.oh
   subst e
   refine⟨w,rfl,?_⟩
   rw [eI,AW.Kr hg]
   exact iG.refl hs
 | v::vs,BV,k,cs,A,w,hs,hg,hl,h1,bW=>by
   obtain⟨v',t',rfl,hv,ht⟩:=hl.kI
   simp only [List.length_cons] at bW
   obtain⟨w1,RK,Sr⟩:=FR (P:=P) hs hg hm (k:=o+k) (by omega) hv (h1 v (by simp))
   obtain⟨w2,YM,G5⟩:=mV (P:=P) (o:=o) hm vs t' (k+1) (cs.set (o+k) v) _ w1 Sr.zO AW.el ht (fun x hx=>h1 x (by simp [hx]))
    (by simp;omega)
   refine⟨w2,?_,?_⟩
   · have ea:(⟨p.block,p.base+o,none⟩:Addr).add k=⟨p.block,p.base+(o+k),none⟩:=by rw [nz _ _ rfl];simp [Nat.add_assoc]
     simp only [storeCells,Sem.run_bind,ea,RK,Result.andThen_ok,YM]
   · have:=Sr.trans G5
     rw [AW.HF] at this
     rw [eI,show o+k+1=o+(k+1) by omega]
     exact this
theorem uv (w:World) (o:Obj) (i:Nat) (h:i<w.heap.size):(w.alloc o).heap[i]? = w.heap[i]?:=by
 show (w.heap.push o)[i]? = _
 rw [Array.getElem?_push,if_neg (by omega)]
theorem uw (w:World) (o:Obj):(w.alloc o).heap[w.heap.size]? = some o:=by
 show (w.heap.push o)[w.heap.size]? = _
 simp
def Mp.ext (m:Mp) (i:Nat) (x:Pl):Mp:=fun j=>if j=i then some x else m j
theorem jv.Lj {m:Mp} {A:AW} {w:World} (hs:jv m A w) (x:Pl):Mp.le m (m.ext A.next x):=by
 intro i y h
 unfold Mp.ext
 split
 · rename_i e
   rw [e,hs.pn A.next (Nat.le_refl _)] at h
   cases h
 · exact h
theorem jv.iD {m:Mp} {A:AW} {w:World} (hs:jv m A w) {j:Nat} {o:dK} {p:Pl} (h:A.bR j=some o) (hm:m j=some p):p.block<w.heap.size:=by
 obtain⟨p1,h1,h2⟩:=hs.Bq j o h
 rw [hm] at h1
 simp only [Option.some.injEq] at h1
 subst h1
 exact h2.lt
theorem iG.LM {m:Mp} {A:AW} {w w':World} (hs:jv m A w) (o1:dK) (p:Pl)
 (Nd:w'.os=w.os) (ht:w'.tape=w.tape) (ho:w'.output=w.output) (qF:w.heap.size≤w'.heap.size)
 (Ls:∀b,b<w.heap.size→w'.heap[b]? = w.heap[b]?) (hp:w.heap.size≤p.block) (hb:kV m w' p o1) :
 iG m A w (m.ext A.next p) (A.alloc o1) w':=by
 have eT:=hs.Lj p
 have eo:∀{j o},A.bR j=some o→j≠A.next:=fun {j o} h e=>by
  subst e
  rw [hs.DJ _ (Nat.le_refl _)] at h
  cases h
 have pW:∀{j},j≠A.next→(m.ext A.next p) j=m j:=fun {j} h=>by simp [Mp.ext,h]
 have qY:∀{j},j≠A.next→(A.alloc o1).bR j=A.bR j:=fun {j} h=>by simp [AW.alloc,h]
 have vz:(m.ext A.next p) A.next=some p:=by simp [Mp.ext]
 have P6:(A.alloc o1).bR A.next=some o1:=by simp [AW.alloc]
 refine⟨eT,⟨?_,?_,?_,?_,?_,?_,hs.rY.mono eT⟩,by simp [AW.alloc],Nd,ht,ho,qF,fun b hb _=>Ls b hb,?_,fun i hi=>pW (by omega),?_⟩
 rotate_left 4
 · intro b x sy
   have h1:=hs.laid b x sy
   rw [Ls b (Array.getElem?_eq_some_iff.1 h1).1];exact h1
 · intro j o p' hj wH oR
   by_cases hn:j=A.next
   · subst hn
     rw [vz] at oR
     simp only [Option.some.injEq] at oR
     subst oR
     cases hB:Gl.B p.block with
     | none=>rfl
     | some x=>have h1:=(Array.getElem?_eq_some_iff.1 (hs.laid _ x hB)).1;omega
   · rw [qY hn] at hj
     rw [pW hn] at oR
     exact hs.uj j o p' hj wH oR
 rotate_left 2
 · intro j o hj
   by_cases hn:j=A.next
   · subst hn
     rw [P6] at hj
     simp only [Option.some.injEq] at hj
     subst hj
     exact⟨p,vz,hb.mono eT⟩
   · rw [qY hn] at hj
     obtain⟨p',h1,h2⟩:=hs.Bq j o hj
     have dO:=hs.iD hj h1
     exact⟨p',by rw [pW hn];exact h1,(h2.heap (Ls _ dO)).mono eT⟩
 · intro i j o o' p1 p2 hi wH hj iX Mv oR
   by_cases ti:i=A.next
   · subst ti
     rw [vz] at Mv
     simp only [Option.some.injEq] at Mv
     subst Mv
     rw [qY (Ne.symm iX)] at hj
     rw [pW (Ne.symm iX)] at oR
     have:=hs.iD hj oR
     omega
   · rw [qY ti] at hi
     rw [pW ti] at Mv
     by_cases hjn:j=A.next
     · subst hjn
       rw [vz] at oR
       simp only [Option.some.injEq] at oR
       subst oR
       have:=hs.iD hi Mv
       omega
     · rw [qY hjn] at hj
       rw [pW hjn] at oR
       exact hs.inj i j o o' p1 p2 hi wH hj iX Mv oR
 · intro i hi
   have:i≠A.next:=by simp [AW.alloc] at hi;omega
   rw [pW this]
   exact hs.pn i (by simp [AW.alloc] at hi;omega)
 · intro i hi
   have:i≠A.next:=by simp [AW.alloc] at hi;omega
   rw [qY this]
   exact hs.DJ i (by simp [AW.alloc] at hi;omega)
 · rintro b ⟨i,o,p',hi,wH,hm,hb⟩
   by_cases hn:i=A.next
   · subst hn
     rw [vz] at hm
     simp only [Option.some.injEq] at hm
     subst hm
     exact .inr (by omega)
   · rw [qY hn] at hi
     rw [pW hn] at hm
     exact .inl ⟨i,o,p',hi,wH,hm,hb⟩
 · rintro b ⟨i,o,p',hi,hm,hb⟩
   by_cases hn:i=A.next
   · subst hn
     rw [vz] at hm
     simp only [Option.some.injEq] at hm
     subst hm
     exact .inr (.inl (by omega))
   · rw [qY hn] at hi
     rw [pW hn] at hm
     exact .inl ⟨i,o,p',hi,hm,hb⟩
theorem iG.pn {m:Mp} {A:AW} {w w':World} (hs:jv m A w) (cs:List Value) (own:Bool) (p:Pl) {iB:Array Value} {e:TypeId} (unit:Nat)
 (Nd:w'.os=w.os) (ht:w'.tape=w.tape) (ho:w'.output=w.output) (qF:w.heap.size≤w'.heap.size)
 (Ls:∀b,b<w.heap.size→w'.heap[b]? = w.heap[b]?) (hp:w.heap.size≤p.block) (hu:unit=p.unit)
 (hb:w'.heap[p.block]? = some (.cells iB e (0,0))) (vB:iB.size=p.wi)
 (tg:∀(k:Nat) (v:Value),cs[k]? = some v→∃v',iB[p.base+k]? = some v'∧bG m v v') :
 iG m A w (m.ext A.next p) (A.alloc (.cells cs own unit)) w':=
 iG.LM hs _ p Nd ht ho qF Ls hp ⟨iB,e,(0,0),hb,fun _=>rfl,hu,vB,tg⟩
theorem iG.alloc {m:Mp} {A:AW} {w:World} (hs:jv m A w) (cs:List Value) (iB:Array Value) (e:TypeId) (unit:Nat)
 (tg:∀(k:Nat) (v:Value),cs[k]? = some v→∃v',iB[k]? = some v'∧bG m v v') :
 iG m A w (m.ext A.next ⟨w.heap.size,0,unit,iB.size⟩) (A.alloc (.cells cs true unit)) (w.alloc (.cells iB e)):=
 iG.pn hs cs true ⟨w.heap.size,0,unit,iB.size⟩ unit rfl rfl rfl (by simp) (fun b hb=>uv w _ b hb) (Nat.le_refl _) rfl
  (uw w _) rfl (by simpa using tg)
theorem mM.kh (m:Mp) (i:Nat) (p:Pl) (o:Nat):mM (m.ext i p) ⟨i,o,none⟩ ⟨p.block,p.base+o,none⟩:=⟨rfl,rfl,p,by simp [Mp.ext],rfl,rfl⟩
end Go.Stx
namespace Go.Stx
open Go
variable [Gl]
set_option linter.unusedSectionVars false
theorem iG.GB {m:Mp} {A:AW} {w:World} (hs:jv m A w) (i:Nat):iG m A w m (A.set i none) w:=by
 have key:∀{j o},(A.set i none).bR j=some o→A.bR j=some o:=fun {j o} h=>by
  by_cases hj:j=i
  · subst hj;rw [AW.el] at h;cases h
  · rwa [AW.bV hj] at h
 refine⟨Mp.le_refl m,⟨fun j o h=>hs.Bq j o (key h),fun a b o o' p p' h1 h2 h3 h4 h5 h6=>hs.inj a b o o' p p' (key h1) h2 (key h3) h4 h5 h6,hs.pn,?_,hs.laid,fun a o p h1 h2 h3=>hs.uj a o p (key h1) h2 h3,hs.rY⟩,
  Nat.le_refl _,rfl,rfl,rfl,Nat.le_refl _,fun _ _ _=>rfl,?_,fun _ _=>rfl,?_⟩
 · intro j hj
   by_cases kK:j=i
   · subst kK;exact AW.el
   · rw [AW.bV kK];exact hs.DJ j hj
 · rintro b ⟨j,o,p,h1,h2,h3,h4⟩
   exact .inl ⟨j,o,p,key h1,h2,h3,h4⟩
 · rintro b ⟨j,o,p,h1,h2,h3⟩
   exact .inl ⟨j,o,p,key h1,h2,h3⟩
theorem iG.SC {m:Mp} {A:AW} {w w':World} (hs:jv m A w) {i:Nat} {p p':Pl} {cs oK:List Value} {unit:Nat} {zh:Array Value} {e:TypeId}
 (hg:A.bR i=some (.cells cs true unit)) (hm:m i=some p) (AD:p'.block=p.block) (hu:unit=p'.unit)
 (qF:w'.heap.size=w.heap.size) (Nd:w'.os=w.os) (ht:w'.tape=w.tape) (ho:w'.output=w.output)
 (hb:w'.heap[p.block]? = some (.cells zh e (0,0))) (vB:zh.size=p'.wi) (p9:∀j,j≠p.block→w'.heap[j]? = w.heap[j]?)
 (tg:∀(k:Nat) (v:Value),oK[k]? = some v→∃v',zh[p'.base+k]? = some v'∧bG m v v') :
 iG m A w (m.ext A.next p') ((A.set i none).alloc (.cells oK true unit)) w':=by
 have eT:=hs.Lj p'
 have eo:∀{j o},A.bR j=some o→j≠A.next:=fun {j o} h e=>by
  subst e
  rw [hs.DJ _ (Nat.le_refl _)] at h
  cases h
 have pW:∀{j},j≠A.next→(m.ext A.next p') j=m j:=fun {j} h=>by simp [Mp.ext,h]
 have vz:(m.ext A.next p') A.next=some p':=by simp [Mp.ext]
 have P6:((A.set i none).alloc (.cells oK true unit)).bR A.next=some (.cells oK true unit):=by simp [AW.alloc,AW.set]
 have qY:∀{j o},j≠A.next→((A.set i none).alloc (.cells oK true unit)).bR j=some o→A.bR j=some o∧j≠i:=fun {j o} h1 h2=>by
  have e:((A.set i none).alloc (.cells oK true unit)).bR j=(A.set i none).bR j:=by
   exact if_neg h1
  rw [e] at h2
  by_cases kK:j=i
  · subst kK;rw [AW.el] at h2;cases h2
  · rw [AW.bV kK] at h2;exact⟨h2,kK⟩
 refine⟨eT,⟨?_,?_,?_,?_,?_,?_,hs.rY.mono eT⟩,by simp [AW.alloc,AW.set],Nd,ht,ho,by omega,?_,?_,fun j hj=>pW (by omega),?_⟩
 rotate_left 4
 · intro b x sy
   rw [p9 b (fun e=>by have:=hs.uj i _ p hg rfl hm;rw [←e,sy] at this;cases this)]
   exact hs.laid b x sy
 · intro j o q hj wH oR
   by_cases hn:j=A.next
   · subst hn
     rw [vz] at oR
     simp only [Option.some.injEq] at oR
     subst oR
     rw [AD]
     exact hs.uj i _ p hg rfl hm
   · rw [pW hn] at oR
     exact hs.uj j o q (qY hn hj).1 wH oR
 rotate_left 3
 · intro j o hj
   by_cases hn:j=A.next
   · subst hn
     rw [P6] at hj
     simp only [Option.some.injEq] at hj
     subst hj
     refine⟨p',vz,zh,e,(0,0),by rw [AD];exact hb,fun _=>rfl,hu,vB,fun k v hv=>?_⟩
     obtain⟨v',h1,h2⟩:=tg k v hv
     exact⟨v',h1,h2.mono eT⟩
   · obtain⟨vC,kK⟩:=qY hn hj
     obtain⟨q,h1,h2⟩:=hs.Bq j o vC
     have iX:q.block≠p.block:=fun e'=>hs.inj i j _ o p q hg rfl vC (Ne.symm kK) hm h1 e'.symm
     exact⟨q,by rw [pW hn];exact h1,(h2.heap (p9 _ iX)).mono eT⟩
 · intro a b o o' p1 p2 ha wH sy iX QT PH
   by_cases Ns:a=A.next
   · subst Ns
     rw [vz] at QT
     simp only [Option.some.injEq] at QT
     subst QT
     obtain⟨JS,LE⟩:=qY (Ne.symm iX) sy
     rw [pW (Ne.symm iX)] at PH
     rw [AD]
     exact hs.inj i b _ o' p p2 hg rfl JS (Ne.symm LE) hm PH
   · obtain⟨Xl,Zw⟩:=qY Ns ha
     rw [pW Ns] at QT
     by_cases Np:b=A.next
     · subst Np
       rw [vz] at PH
       simp only [Option.some.injEq] at PH
       subst PH
       rw [AD]
       exact hs.inj a i o _ p1 p Xl wH hg Zw QT hm
     · obtain⟨JS,_⟩:=qY Np sy
       rw [pW Np] at PH
       exact hs.inj a b o o' p1 p2 Xl wH JS iX QT PH
 · intro j hj
   have:j≠A.next:=by simp [AW.alloc,AW.set] at hj;omega
   rw [pW this]
   exact hs.pn j (by simp [AW.alloc,AW.set] at hj;omega)
 · intro j hj
   have h0:A.next+1≤j:=by simpa [AW.alloc,AW.set] using hj
   have h1:j≠A.next:=by omega
   cases hx:((A.set i none).alloc (.cells oK true unit)).bR j with
   | none=>rfl
   | some o=>
     have:=(qY h1 hx).1
     rw [hs.DJ j (by omega)] at this
     cases this
 · intro b' _ Nf
   refine p9 b' (fun e'=>Nf ?_)
   subst e'
   exact⟨i,_,p,hg,rfl,hm,rfl⟩
 · rintro b ⟨j,o,q,hj,wH,oR,Sd⟩
   by_cases hn:j=A.next
   · subst hn
     rw [vz] at oR
     simp only [Option.some.injEq] at oR
     subst oR
     exact .inl ⟨i,_,p,hg,rfl,hm,by rw [←AD];exact Sd⟩
   · obtain⟨vC,_⟩:=qY hn hj
     rw [pW hn] at oR
     exact .inl ⟨j,o,q,vC,wH,oR,Sd⟩
 · rintro b ⟨j,o,q,hj,oR,Sd⟩
   by_cases hn:j=A.next
   · subst hn
     rw [vz] at oR
     simp only [Option.some.injEq] at oR
     subst oR
     exact .inl ⟨i,_,p,hg,hm,by rw [←AD];exact Sd⟩
   · obtain⟨vC,_⟩:=qY hn hj
     rw [pW hn] at oR
     exact .inl ⟨j,o,q,vC,oR,Sd⟩
theorem sd (cs:List Value) (o n:Nat) (j:Nat) (v:Value) (h:((cs.drop o).take n)[j]? = some v):cs[o+j]? = some v∧j<n:=by
 rw [List.getElem?_take] at h
 split at h
 · rename_i hj
   rw [List.getElem?_drop] at h
   exact⟨h,hj⟩
 · cases h
theorem tI {m:Mp} {A:AW} {w:World} (hs:jv m A w) {a a':Addr} (ha:mM m a a') {cs:List Value} (hr:A.cK a.block=some cs) (n:Nat) (hn:a.off+n≤cs.length) :
 ∃l',l'.length=n∧gu m ((cs.drop a.off).take n) l'∧∀(j:Nat) (v:Value),l'[j]? = some v→w.cell? (a'.add j)=some v:=by
 have h:∀j,j<n→∃v',w.cell? (a'.add j)=some v'∧bG m (cs.getD (a.off+j) undef) v':=fun j hj=>
  uI hs ha hr (by rw [List.getD_eq_getElem?_getD,List.getElem?_eq_getElem (by omega)];rfl)
 refine⟨(List.range n).map fun j=>(w.cell? (a'.add j)).getD undef,by simp,⟨by simp;omega,?_⟩,?_⟩
 · intro i v v' h1 h2
   obtain⟨h3,hi⟩:=sd _ _ _ _ _ h1
   obtain⟨v1,h4,h5⟩:=h i hi
   rw [List.getD_eq_getElem?_getD,h3] at h5
   simp [hi,h4] at h2
   subst h2
   exact h5
 · intro j v hv
   have hj:j<n:=by
    have:=(List.getElem?_eq_some_iff.1 hv).1
    simpa using this
   obtain⟨v1,h4,_⟩:=h j hj
   simp [hj,h4] at hv
   subst hv
   exact h4
def hY (A:AW) (size:Nat) (x:Value):Option (Nat×List Value):=
 match x with
 | .slice none 0 0=>some (0,[])
 | .slice (some b) n _=>
   if n=0 then some (0,[]) else
   match A.cK b.block with
   | some cs=>if b.off+n*size≤cs.length then some (n,(cs.drop b.off).take (n*size)) else none
   | none=>none
 | _=>none
def fB (A:AW) (size:Nat) (s:Value):Option (Option Addr×Nat×List Value):=
 match s with
 | .slice none 0 0=>some (none,0,[])
 | .slice (some a) n c=>
   if a.spot.isSome∧c=0∧n=0 then some (none,0,[]) else
   match A.bR a.block with
   | some (.cells cs true unit)=>if unit=size∧a.off+n*size≤cs.length then some (some a,n,(cs.drop a.off).take (n*size)) else none
   | _=>none
 | _=>none
def fC (P:Program) (A:AW) (t u:TypeId) (s x:Value):Option (Value×AW):=
 match P.underlying t with
 | some (.slice e)=>
   match P.info? e with
   | some i=>
     match i.zero with
     | some z=>
       if z.cells.size=i.size∧0<i.size∧t=u then
        match hY A i.size x,fB A i.size s with
        | some (n,lj),some (base,k,pO)=>
          if n=0 then some (s,A)
          else if k+n≤140737488355328∧(k+n)*i.bytes≤140737488355328∧lj.all Value.oneCell' then
           some (.slice (some ⟨A.next,0,none⟩) (k+n) (k+n),
            ((match base with|some a=>A.set a.block none|none=>A)).alloc (.cells (pO++lj) true i.size))
          else none
        | _,_=>none
       else none
     | none=>none
   | none=>none
 | _=>none
theorem xf {P:Program} (w:World) (t ty e:TypeId) (i:TypeInfo) (ht:P.underlying t=some (.slice e)) (hi:P.info? e=some i)
 (base:Option Addr) (n c:Nat) (hc:n≤c) (xb:Option Addr) (xc:Nat) :
 (Builtin.append_ #[t,t] ty #[.slice base n c,.slice xb 0 xc]).run P w=.ok (.slice base n c) w:=by
 cases base<;>cases xb<;>simp [Builtin.append_,run_underlying ht,sizeOf,typeInfo,hi,Builtin.lenOf,hc,Builtin.firstCells,loadCells,loadCellsFrom,storeCells]
theorem Dg {m:Mp} {A:AW} {w:World} (hs:jv m A w) {size n:Nat} {x x':Value} {lj:List Value} (h:hY A size x=some (n,lj)) (hx:bG m x x') :
 (n=0∧∃xb xc,x'=.slice xb 0 xc) ∨
 (∃a c l',x'=.slice (some a) n c∧l'.length=n*size∧gu m lj l'∧∀(j:Nat) (v:Value),l'[j]? = some v→w.cell? (a.add j)=some v):=by
 unfold hY at h
 split at h
 · simp only [Option.some.injEq,Prod.mk.injEq] at h
   obtain⟨rfl,rfl⟩:=h
   cases hx
   exact .inl ⟨rfl,_,_,rfl⟩
 · rename_i b k c
   split at h
   · rename_i h0
     simp only [Option.some.injEq,Prod.mk.injEq] at h
     obtain⟨rfl,rfl⟩:=h
     subst h0
     cases hx
     exact .inl ⟨rfl,_,_,rfl⟩
   · rename_i h0
     split at h
     · rename_i cs hr
       split at h
       · rename_i eT
         simp only [Option.some.injEq,Prod.mk.injEq] at h
         obtain⟨rfl,rfl⟩:=h
         cases hx with
         | slice hh h1 h2=>
           rename_i a' gt
           have ha:mM m b a':=by
            rcases hh with hh|hh
            · exact hh.Md
            · exact absurd hh.1 h0
           obtain⟨l',e1,e2,e3⟩:=tI hs ha hr (k*size) eT
           exact .inr ⟨a',gt,l',rfl,e1,e2,e3⟩
       · cases h
     · cases h
 · cases h
theorem gu.bh {m:Mp} {l l':List Value} (h:gu m l l') (h1:∀v∈l,v.oneCell'=true):∀v∈l',v.oneCell'=true:=by
 intro v hv
 obtain⟨i,hi⟩:=List.getElem?_of_mem hv
 have dO:=(List.getElem?_eq_some_iff.1 hi).1
 rw [←h.1] at dO
 have e:=List.getElem?_eq_getElem dO
 rw [(h.2 i _ v e hi).tS]
 exact h1 _ (List.getElem_mem dO)
theorem sV {P:Program} (w:World) (t ty e:TypeId) (i:TypeInfo) (ht:P.underlying t=some (.slice e)) (hi:P.info? e=some i)
 (g o gS ma:Nat) (iB:Array Value) (e':TypeId) (hg:w.heap[g]? = some (.cells iB e' (0,0)))
 (a:Addr) (m c:Nat) (lj:List Value) (hl:lj.length=m*i.size) (jH:∀j u,lj[j]? = some u→w.cell? (a.add j)=some u) (h1:∀u∈lj,u.oneCell'=true)
 (yR:gS+m≤ma) (ng:o+gS*i.size+lj.length≤iB.size) :
 (Builtin.append_ #[t,t] ty #[.slice (some ⟨g,o,none⟩) gS ma,.slice (some a) m c]).run P w =
  .ok (.slice (some ⟨g,o,none⟩) (gS+m) ma) (w.setRow g (iB.toList.take (o+gS*i.size)++lj++iB.toList.drop (o+gS*i.size+lj.length)).toArray):=by
 have hf:=run_firstCells_some (P:=P) w i.size m a m c lj hl jH
 have cX:=run_storeCells_at P g (o+gS*i.size) e' lj 0 iB w hg (by simpa using ng) h1
 simp only [Nat.add_zero] at cX
 have ea:(⟨g,o,none⟩:Addr).add (gS*i.size)=⟨g,o+gS*i.size,none⟩:=nz _ _ rfl
 simp [Builtin.append_,run_underlying ht,sizeOf,typeInfo,hi,Builtin.lenOf,yR,hf,ea,cX]
theorem wT {P:Program} {m:Mp} {A:AW} {w:World} (hs:jv m A w) {ty e:TypeId} {i:TypeInfo} {z:Value} {ts:Array TypeId} {X:Value} {s s':Value} {n k:Nat} {lj l' pO:List Value} {base:Option Addr}
 (mr:z.cells.size=i.size)
 (BA:¬n=0) (JS:k+n≤140737488355328) (jX:(k+n)*i.bytes≤140737488355328) (lQ:∀v∈lj,v.oneCell'=true) (hl:l'.length=n*i.size) (H7:gu m lj l')
 (ho:fB A i.size s=some (base,k,pO)) (GJ:bG m s s')
 (Wh:∀k',k'=0→k=0→(Builtin.append_ ts ty #[.slice none 0 0,X]).run P w=.ok (.slice (some ⟨w.heap.size,0,none⟩) n (grownCap w n 0 e)) (w.drew.alloc (.cells (l'.toArray++Builtin.zeroCells z.cells (grownCap w n 0 e-n)) e)))
 (OQ:∀(b:Addr) (gS ma:Nat) (pO:List Value),gS=k→pO.length=gS*i.size→(∀(j:Nat) (v:Value),pO[j]? = some v→w.cell? (b.add j)=some v)→ma<gS+n→
  (Builtin.append_ ts ty #[.slice (some b) gS ma,X]).run P w=.ok (.slice (some ⟨w.heap.size,0,none⟩) (gS+n) (grownCap w (gS+n) ma e))
   (w.drew.alloc (.cells (pO.toArray++l'.toArray++Builtin.zeroCells z.cells (grownCap w (gS+n) ma e-(gS+n))) e)))
 (SK:∀(g o gS ma:Nat) (iB:Array Value) (e':TypeId),w.heap[g]? = some (.cells iB e' (0,0))→gS+n≤ma→o+gS*i.size+l'.length≤iB.size→
  (Builtin.append_ ts ty #[.slice (some ⟨g,o,none⟩) gS ma,X]).run P w=.ok (.slice (some ⟨g,o,none⟩) (gS+n) ma)
   (w.setRow g (iB.toList.take (o+gS*i.size)++l'++iB.toList.drop (o+gS*i.size+l'.length)).toArray)) :
 ∃v' w' m',(Builtin.append_ ts ty #[s',X]).run P w=.ok v' w'∧
  iG m A w m' ((match base with|some a=>A.set a.block none|none=>A).alloc (.cells (pO++lj) true i.size)) w'∧bG m' (.slice (some ⟨A.next,0,none⟩) (k+n) (k+n)) v':=by
 have Ot:=H7.bh lQ
 have EZ:∀(eo:Nat) (A0:AW) (FB:jv m A0 w) (BA:A0.next=A.next) (lo:List Value) (rM:gu m pO lo) (bW:lo.length=k*i.size),
  iG m A0 w (m.ext A.next ⟨w.heap.size,0,i.size,(lo.toArray++l'.toArray++Builtin.zeroCells z.cells (grownCap w (k+n) eo e-(k+n))).size⟩)
   (A0.alloc (.cells (pO++lj) true i.size)) (w.drew.alloc (.cells (lo.toArray++l'.toArray++Builtin.zeroCells z.cells (grownCap w (k+n) eo e-(k+n))) e))∧
   bG (m.ext A.next ⟨w.heap.size,0,i.size,(lo.toArray++l'.toArray++Builtin.zeroCells z.cells (grownCap w (k+n) eo e-(k+n))).size⟩)
    (.slice (some ⟨A.next,0,none⟩) (k+n) (k+n)) (.slice (some ⟨w.heap.size,0,none⟩) (k+n) (grownCap w (k+n) eo e)):=by
  intro eo A0 FB Vg lo rM bW
  have PR:=grownCap_ge w (k+n) eo e
  constructor
  · have M6:jv m A0 w.drew:=FB.CB rfl
    have ev:=iG.alloc M6 (pO++lj) (lo.toArray++l'.toArray++Builtin.zeroCells z.cells (grownCap w (k+n) eo e-(k+n))) e i.size (fun j v hv=>by
     obtain⟨v',h1,h2⟩:=(rM.append H7).bR hv
     refine⟨v',?_,h2⟩
     have dO:=(List.getElem?_eq_some_iff.1 h1).1
     rw [Array.getElem?_append_left (by simpa using dO)]
     simpa using h1)
    rw [Vg] at ev
    exact(iG.drew FB).trans ev
  · refine .slice (.inl ⟨rfl,rfl,⟨w.heap.size,0,i.size,(lo.toArray++l'.toArray++Builtin.zeroCells z.cells (grownCap w (k+n) eo e-(k+n))).size⟩,if_pos rfl,rfl,rfl,?_⟩) (Nat.le_refl _) PR
    simp only [Array.size_append,List.size_toArray,size_zeroCells,bW,hl,mr,←Nat.add_mul]
    rw [show k+n+(grownCap w (k+n) eo e-(k+n))=grownCap w (k+n) eo e by omega]
    omega
 unfold fB at ho
 split at ho
 ·
  simp only [Option.some.injEq,Prod.mk.injEq] at ho
  obtain⟨rfl,rfl,rfl⟩:=ho
  cases GJ
  have hr:=Wh 0 rfl rfl
  obtain⟨g1,g2⟩:=EZ 0 A hs rfl [] gu.nil (by simp)
  simp only [Nat.zero_add,ag,Array.empty_append] at g1 g2 ⊢
  exact⟨_,_,_,hr,g1,g2⟩
 · rename_i sa k0 c0
   split at ho
   ·
    rename_i H2
    obtain⟨TA,RC,UY⟩:=H2
    subst RC;subst UY
    simp only [Option.some.injEq,Prod.mk.injEq] at ho
    obtain⟨rfl,rfl,rfl⟩:=ho
    cases GJ with
    | slice hh h1 h2=>
      rename_i a' gt
      have CU:gt=0:=by
       rcases hh with hh|hh
       · have h9:=hh.1
         rw [h9] at TA
         cases TA
       · exact hh.2.1
      subst CU
      have hr:=OQ a' 0 0 [] rfl (by simp) (fun j u h=>by simp at h) (by omega)
      obtain⟨g1,g2⟩:=EZ 0 A hs rfl [] gu.nil (by simp)
      simp only [Nat.zero_add,ag,Array.empty_append] at g1 g2 hr ⊢
      exact⟨_,_,_,hr,g1,g2⟩
   split at ho<;>try(cases ho;done)
   rename_i cs unit hg
   split at ho<;>try(cases ho;done)
   rename_i DO
   obtain⟨rfl,ng⟩:=DO
   simp only [Option.some.injEq,Prod.mk.injEq] at ho
   obtain⟨rfl,rfl,rfl⟩:=ho
   cases GJ with
   | slice hh h1 h2=>
     rename_i a' gt
     have dG:A.cK sa.block=some cs:=by unfold AW.cK;rw [hg]
     have holds:∃lo,lo.length=k0*i.size∧gu m ((cs.drop sa.off).take (k0*i.size)) lo∧∀(j:Nat) (v:Value),lo[j]? = some v→w.cell? (a'.add j)=some v:=by
      rcases hh with hh|⟨rfl,_⟩
      · exact tI hs hh.Md dG (k0*i.size) ng
      · exact⟨[],by simp,by simp [gu.nil],by simp⟩
     obtain⟨lo,PJ,RV,RU⟩:=holds
     by_cases yR:k0+n≤gt
     ·
      have R3:wa m sa a' gt:=by
       rcases hh with hh|⟨_,Zs⟩
       · exact hh
       · omega
      obtain⟨CO,EP,p,hm,AD,W4,Vb⟩:=R3
      obtain⟨p',Ja,iB,e',fr,hw,qB,W2,vB,vH⟩:=hs.Bq _ _ hg
      rw [hm] at Ja
      simp only [Option.some.injEq] at Ja
      subst Ja
      obtain rfl:=qB rfl
      obtain⟨sb,so,ss⟩:=a'
      simp only at AD W4 Vb EP
      subst EP
      have R4:so+k0*i.size+l'.length≤iB.size:=by
       rw [vB,hl,Nat.add_assoc,←Nat.add_mul]
       have:=Nat.mul_le_mul_right i.size yR
       rw [←W2] at Vb
       omega
      have km:w.heap[sb]? = some (.cells iB e' (0,0)):=by rw [AD];exact hw
      have hr:=SK sb so k0 gt iB e' km yR R4
      have R9:(iB.toList.take (so+k0*i.size)++l'++iB.toList.drop (so+k0*i.size+l'.length)).length=iB.size:=by
       simp only [List.length_append,List.length_take,List.length_drop,Array.length_toList]
       omega
      refine⟨_,_,m.ext A.next ⟨p.block,so,i.size,p.wi⟩,hr,?_,?_⟩
      · refine iG.SC hs (p':=⟨p.block,so,i.size,p.wi⟩) (e:=e') hg hm rfl rfl (by simp) rfl rfl rfl
         (zh:=(iB.toList.take (so+k0*i.size)++l'++iB.toList.drop (so+k0*i.size+l'.length)).toArray) ?_ ?_ ?_ ?_
        · rw [←AD];exact setRow_heap w sb iB _ e' _ km
        · simpa [vB] using R9
        · intro j hj
          exact setRow_other w sb j _ (by rw [AD];exact hj)
        · intro j v hv
          rw [List.getElem?_append] at hv
          simp only [List.length_take,List.length_drop] at hv
          have e1:min (k0*i.size) (cs.length-sa.off)=k0*i.size:=by omega
          rw [e1] at hv
          by_cases hj:j<k0*i.size
          · rw [if_pos hj] at hv
            obtain⟨h3,_⟩:=sd _ _ _ _ _ hv
            obtain⟨v',h4,h5⟩:=vH _ _ h3
            refine⟨v',?_,h5⟩
            have dO:=(Array.getElem?_eq_some_iff.1 h4).1
            simp only [List.getElem?_toArray,List.append_assoc]
            rw [List.getElem?_append_left (by simp;omega),List.getElem?_take_of_lt (by omega),Array.getElem?_toList,W4,Nat.add_assoc]
            exact h4
          · rw [if_neg hj] at hv
            obtain⟨v',h4,h5⟩:=H7.bR hv
            refine⟨v',?_,h5⟩
            have dO:=(List.getElem?_eq_some_iff.1 h4).1
            simp only [List.getElem?_toArray,List.append_assoc]
            have e2:(iB.toList.take (so+k0*i.size)).length=so+k0*i.size:=by simp;omega
            rw [List.getElem?_append_right (by omega),e2,List.getElem?_append_left (by omega)]
            rw [show so+j-(so+k0*i.size)=j-k0*i.size by omega]
            exact h4
      · refine .slice (.inl ⟨rfl,rfl,⟨p.block,so,i.size,p.wi⟩,by simp [Mp.ext],AD,rfl,?_⟩) (Nat.le_refl _) yR
        simpa [W2] using Vb
     ·
      have hr:=OQ a' k0 gt lo rfl PJ RU (by omega)
      have ek:=iG.GB hs sa.block
      obtain⟨g1,g2⟩:=EZ gt (A.set sa.block none) ek.zO rfl lo RV PJ
      exact⟨_,_,_,hr,ek.trans g1,g2⟩
 · cases ho
theorem Dd {P:Program} {m:Mp} {A A1:AW} {w:World} (hs:jv m A w) {t u ty:TypeId} {s x s' x' v:Value} (h:fC P A t u s x=some (v,A1))
 (GJ:bG m s s') (U0:bG m x x') :
 ∃v' w' m',(Builtin.append_ #[t,u] ty #[s',x']).run P w=.ok v' w'∧iG m A w m' A1 w'∧bG m' v v':=by
 unfold fC at h
 split at h<;>try(cases h;done)
 rename_i e hu
 split at h<;>try(cases h;done)
 rename_i i hi
 split at h<;>try(cases h;done)
 rename_i z hz
 split at h<;>try(cases h;done)
 rename_i ux
 obtain⟨mr,qF,rfl⟩:=ux
 split at h<;>try(cases h;done)
 rename_i n lj base k pO hn ho
 have jH:=Dg hs hn U0
 by_cases BA:n=0
 ·
  subst BA
  rw [if_pos rfl] at h
  simp only [Option.some.injEq,Prod.mk.injEq] at h
  obtain⟨rfl,rfl⟩:=h
  have H2:∃xb xc,x'=.slice xb 0 xc:=by
   rcases jH with ⟨_,h1⟩|⟨a,c,l',h1,_⟩
   · exact h1
   · exact⟨_,_,h1⟩
  obtain⟨xb,xc,rfl⟩:=H2
  have FB:∃b' n' c',s'=.slice b' n' c'∧n'≤c':=by
   unfold fB at ho
   split at ho
   · cases GJ;exact⟨_,_,_,rfl,Nat.le_refl _⟩
   · cases GJ with
     | slice _ h1 h2=>exact⟨_,_,_,rfl,Nat.le_trans h1 h2⟩
   · cases ho
  obtain⟨b',n',c',rfl,eT⟩:=FB
  exact⟨_,w,m,xf w t ty e i hu hi b' n' c' eT xb xc,iG.refl hs,GJ⟩
 · rw [if_neg BA] at h
   split at h
   case isFalse=>cases h
   rename_i hb
   obtain⟨JS,jX,CW⟩:=hb
   simp only [Option.some.injEq,Prod.mk.injEq] at h
   obtain⟨rfl,rfl⟩:=h
   rcases jH with ⟨h0,_⟩|⟨a,c,l',rfl,hl,H7,Nh⟩
   · exact absurd h0 BA
   have lQ:∀v∈lj,v.oneCell'=true:=by simpa using CW
   have Ot:=H7.bh lQ
   refine wT hs (e:=e) (i:=i) (z:=z) mr BA JS jX lQ hl H7 ho GJ
    (fun _ _ hk=>run_append_nil (P:=P) w t ty e i z hu hi hz a n c l' hl Nh (by omega) (by omega) (by subst hk;simp only [Nat.zero_add] at jX;omega))
    (fun b gS ma lo hk h1 h2 h3=>run_append_grow (P:=P) w t ty e i z hu hi hz b gS ma lo h1 h2 a n c l' hl Nh h3 (by omega) (growslice_fits h3 (by subst hk;exact jX)))
    (fun g o gS ma iB e' h1 h2 h3=>sV (P:=P) w t ty e i hu hi g o gS ma iB e' h1 a n c l' hl Nh Ot h2 h3)
end Go.Stx
namespace Go.Stx
open Go
variable [Gl]
set_option linter.unusedSectionVars false
def xp (op:BinOp) (k:IntKind) (x y:Int):Option Value:=
 match op with
 | .add=>some (.int k (k.wrap (x+y)))
 | .sub=>some (.int k (k.wrap (x-y)))
 | .mul=>some (.int k (k.wrap (x*y)))
 | .quo=>if y=0 then none else some (.int k (k.wrap (x.tdiv y)))
 | .rem=>if y=0 then none else some (.int k (x.tmod y))
 | .eql=>some (.bool (decide (x=y)))
 | .neq=>some (.bool (!decide (x=y)))
 | .lss=>some (.bool (decide (x<y)))
 | .leq=>some (.bool (decide (x≤y)))
 | .gtr=>some (.bool (decide (y<x)))
 | .geq=>some (.bool (decide (y≤x)))
 | .and=>some (.int k (k.wrap (BitVec.ofInt k.bits x &&& BitVec.ofInt k.bits y).toNat))
 | .or=>some (.int k (k.wrap (BitVec.ofInt k.bits x ||| BitVec.ofInt k.bits y).toNat))
 | .xor=>some (.int k (k.wrap (BitVec.ofInt k.bits x ^^^ BitVec.ofInt k.bits y).toNat))
 | .andNot=>some (.int k (k.wrap (BitVec.ofInt k.bits x &&& ~~~BitVec.ofInt k.bits y).toNat))
 | _=>none
def mj (op:BinOp) (k:IntKind) (x y:Int):Option Value:=
 if y<0 then none else
 match op with
 | .shl=>some (.int k (k.wrap (x*2 ^ (min y.toNat k.bits))))
 | .shr=>some (.int k (x.fdiv (2 ^ (min y.toNat k.bits))))
 | _=>none
def CM:BinOp→Bool
 | .shl | .shr=>true
 | _=>false
def NW (P:Program) (op:BinOp) (t:TypeId) (x y:Value):Option Value:=
 match x,y with
 | .int k a,.int k' b=>if CM op then mj op k a b else if k=k' then xp op k a b else none
 | .string a,.string b=>
   match op with
   | .eql=>some (.bool (a.toList == b.toList))
   | .neq=>some (.bool (!(a.toList == b.toList)))
   | .add=>if a.size+b.size≤9223372036854775807 then some (.string (a++b)) else none
   | _=>none
 | .bool a,.bool b=>
   match op,P.underlying t with
   | .eql,some .bool=>some (.bool (a == b))
   | .neq,some .bool=>some (.bool (!(a == b)))
   | _,_=>none
 | .pointer a,.pointer b=>
   if a.isSome && b.isSome then none else
   match op,P.underlying t with
   | .eql,some (.pointer _)=>some (.bool (a.isNone && b.isNone))
   | .neq,some (.pointer _)=>some (.bool (!(a.isNone && b.isNone)))
   | _,_=>none
 | _,_=>none
theorem Ks {P:Program} {op:BinOp} {k:IntKind} {a b:Int} {t:TypeId} {v:Value} (h0:CM op=false) (h:xp op k a b=some v) (w:World) :
 (binOp op t (.int k a) (.int k b)).run P w=.ok v w:=by
 cases op
 case add=>injection h with h;subst h;simp [binOp,Op.intArith]
 case sub=>injection h with h;subst h;simp [binOp,Op.intArith]
 case mul=>injection h with h;subst h;simp [binOp,Op.intArith]
 case quo=>
  by_cases hb:b=0
  · simp [xp,hb] at h
  · simp [xp,hb] at h;subst h;simp [binOp,Op.intDiv,hb]
 case rem=>
  by_cases hb:b=0
  · simp [xp,hb] at h
  · simp [xp,hb] at h;subst h;simp [binOp,Op.intDiv,hb]
 case and=>injection h with h;subst h;simp [binOp,Op.intBits]
 case or=>injection h with h;subst h;simp [binOp,Op.intBits]
 case xor=>injection h with h;subst h;simp [binOp,Op.intBits]
 case andNot=>injection h with h;subst h;simp [binOp,Op.intBits]
 case shl=>cases h0
 case shr=>cases h0
 case eql=>injection h with h;subst h;simp [binOp,Op.intCmp];rfl
 case neq=>injection h with h;subst h;simp [binOp,Op.intCmp];rfl
 case lss=>injection h with h;subst h;simp [binOp,Op.intCmp]
 case leq=>injection h with h;subst h;simp [binOp,Op.intCmp]
 case gtr=>injection h with h;subst h;simp [binOp,Op.intCmp]
 case geq=>injection h with h;subst h;simp [binOp,Op.intCmp]
theorem F3 {P:Program} {op:BinOp} {k k':IntKind} {a b:Int} {t:TypeId} {v:Value} (h:mj op k a b=some v) (w:World) :
 (binOp op t (.int k a) (.int k' b)).run P w=.ok v w:=by
 by_cases hb:b<0
 · simp [mj,hb] at h
 · cases op
   case shl=>simp [mj,hb] at h;subst h;simp [binOp,Op.shift,hb]
   case shr=>simp [mj,hb] at h;subst h;simp [binOp,Op.shift,hb]
   all_goals simp [mj] at h
theorem Fp {op:BinOp} {k:IntKind} {a b:Int} {v:Value} (h:xp op k a b=some v) (m:Mp):bG m v v:=by
 cases op
 case quo=>
  by_cases hb:b=0
  · simp [xp,hb] at h
  · simp [xp,hb] at h;subst h;constructor
 case rem=>
  by_cases hb:b=0
  · simp [xp,hb] at h
  · simp [xp,hb] at h;subst h;constructor
 case shl=>cases h
 case shr=>cases h
 all_goals(injection h with h;subst h;constructor)
theorem AN {op:BinOp} {k:IntKind} {a b:Int} {v:Value} (h:mj op k a b=some v) (m:Mp):bG m v v:=by
 by_cases hb:b<0
 · simp [mj,hb] at h
 · cases op
   case shl=>simp [mj,hb] at h;subst h;constructor
   case shr=>simp [mj,hb] at h;subst h;constructor
   all_goals simp [mj] at h
theorem oW {P:Program} {t:TypeId} (d:Nat) (a b:Bool) (hu:P.underlying t=some .bool) (w:World) :
 (Op.equalIn (d+1) t (.bool a) (.bool b)).run P w=.ok (a == b) w:=by
 simp [Op.equalIn,run_underlying hu]
theorem ir {P:Program} {t e:TypeId} (d:Nat) (b:Option Addr) (hu:P.underlying t=some (.pointer e)) (w:World) :
 (Op.equalIn (d+1) t (.pointer none) (.pointer b)).run P w=.ok b.isNone w:=by
 simp [Op.equalIn,run_underlying hu]
theorem mn {P:Program} {t e:TypeId} (d:Nat) (a:Addr) (hu:P.underlying t=some (.pointer e)) (w:World) :
 (Op.equalIn (d+1) t (.pointer (some a)) (.pointer none)).run P w=.ok false w:=by
 simp [Op.equalIn,run_underlying hu]
theorem fi {P:Program} {t:TypeId} {x y:Value} {r:Bool} {w:World} (h:(Op.equalIn (9999+1) t x y).run P w=.ok r w):(Op.equal t x y).run P w=.ok r w:=h
theorem xe {P:Program} (op:BinOp) (t:TypeId) (xo yo:Operand) (k k':IntKind) (a b:Int) (w:World) :
 (eqGuard op t xo yo (.int k a) (.int k' b)).run P w=.ok () w:=by
 cases op<;>simp [eqGuard]
theorem Ht {P:Program} {op:BinOp} {t:TypeId} {x y v:Value} (h:NW P op t x y=some v) {m:Mp} {x' y':Value} (hx:bG m x x') (hy:bG m y y') (xo yo:Operand) (w:World) :
 (do eqGuard op t xo yo x' y';binOp op t x' y':Sem Value).run P w=.ok v w∧bG m v v:=by
 unfold NW at h
 split at h
 ·
  cases hx;cases hy
  rw [Sem.run_bind,xe,Result.andThen_ok]
  split at h
  · exact⟨F3 h w,AN h m⟩
  · rename_i hs
    split at h
    · rename_i hk
      subst hk
      exact⟨Ks (by simpa using hs) h w,Fp h m⟩
    · cases h
 ·
  cases hx;cases hy
  cases op
  case eql=>injection h with h;subst h;exact⟨by simp [eqGuard,binOp,Op.stringOp],by constructor⟩
  case neq=>injection h with h;subst h;exact⟨by simp [eqGuard,binOp,Op.stringOp],by constructor⟩
  case add=>
   rename_i a b
   replace h:(if a.size+b.size≤9223372036854775807 then some (Value.string (a++b)) else none)=some v:=h
   by_cases eT:a.size+b.size≤9223372036854775807
   · rw [if_pos eT] at h
     injection h with h;subst h
     refine⟨?_,by constructor⟩
     have:¬(((a.size+b.size:Nat):Int)>IntKind.i64.max):=by
      have e:IntKind.i64.max=9223372036854775807:=rfl
      rw [e];omega
     simp only [eqGuard,binOp,Op.stringOp,if_neg this]
     rfl
   · rw [if_neg eT] at h;cases h
  all_goals cases h
 ·
  cases hx;cases hy
  split at h
  · rename_i hu;injection h with h;subst h;exact⟨by simp [eqGuard,binOp,fi (oW _ _ _ hu w)],by constructor⟩
  · rename_i hu;injection h with h;subst h;exact⟨by simp [eqGuard,binOp,fi (oW _ _ _ hu w)],by constructor⟩
  · cases h
 ·
  rename_i a b
  cases a with
  | none=>
    cases hx
    cases b with
    | none=>
      cases hy
      simp only [Option.isSome_none,Bool.false_eq_true,if_false,Bool.and_self] at h
      split at h
      · rename_i hu;injection h with h;subst h;exact⟨by simp [eqGuard,binOp,fi (ir _ _ hu w)],by constructor⟩
      · rename_i hu;injection h with h;subst h;exact⟨by simp [eqGuard,binOp,fi (ir _ _ hu w)],by constructor⟩
      · cases h
    | some b=>
      cases hy
      simp only [Option.isSome_none,Bool.false_and,Bool.false_eq_true,if_false] at h
      split at h
      · rename_i hu;injection h with h;subst h;exact⟨by simp [eqGuard,binOp,fi (ir _ _ hu w)],by constructor⟩
      · rename_i hu;injection h with h;subst h;exact⟨by simp [eqGuard,binOp,fi (ir _ _ hu w)],by constructor⟩
      · cases h
  | some a=>
    cases b with
    | some b=>simp at h
    | none=>
      cases hx
      cases hy
      simp only [Option.isSome_none,Bool.and_false,Bool.false_eq_true,if_false] at h
      split at h
      · rename_i hu;injection h with h;subst h;exact⟨by simp [eqGuard,binOp,fi (mn _ _ hu w)],by constructor⟩
      · rename_i hu;injection h with h;subst h;exact⟨by simp [eqGuard,binOp,fi (mn _ _ hu w)],by constructor⟩
      · cases h
 · cases h
def T8 (op:UnOp) (x:Value):Option Value:=
 match op,x with
 | .not,.bool b=>some (.bool !b)
 | .neg,.int k n=>some (.int k (k.wrap (0-n)))
 | .xor,.int k n=>some (.int k (k.wrap (BitVec.ofInt k.bits (if k.signed then -1 else k.max) ^^^ BitVec.ofInt k.bits n).toNat))
 | _,_=>none
theorem BL {P:Program} {op:UnOp} {x v:Value} (h:T8 op x=some v) {m:Mp} {x':Value} (hx:bG m x x') (w:World) :
 (Op.unary op x').run P w=.ok v w∧bG m v v:=by
 unfold T8 at h
 split at h
 · injection h with h;subst h;cases hx;exact⟨by simp [Op.unary],by constructor⟩
 · injection h with h;subst h;cases hx;exact⟨by simp [Op.unary,Op.intArith],by constructor⟩
 · injection h with h;subst h;cases hx;exact⟨by simp [Op.unary,Op.intBits],by constructor⟩
 · cases h
def Iq (P:Program) (Tt dst:TypeId) (x:Value):Option Value:=
 match P.underlying Tt,P.underlying dst,x with
 | some _,some (.int k),.int _ n=>some (.int k (k.wrap n))
 | some _,some .string,.string s=>some (.string s)
 | _,_,_=>none
theorem wX {P:Program} {Tt dst:TypeId} {x v:Value} (h:Iq P Tt dst x=some v) {m:Mp} {x':Value} (hx:bG m x x') (w:World) :
 (convert Tt dst x').run P w=.ok v w∧bG m v v:=by
 unfold Iq at h
 split at h
 · rename_i h1 h2;injection h with h;subst h;cases hx;exact⟨by simp [convert,run_underlying h1,run_underlying h2,Conv.intToInt],by constructor⟩
 · rename_i h1 h2;injection h with h;subst h;cases hx;exact⟨by simp [convert,run_underlying h1,run_underlying h2],by constructor⟩
 · cases h
end Go.Stx
namespace Go.Stx
open Go
variable [Gl]
set_option linter.unusedSectionVars false
def yO (P:Program) (t:TypeId):Option Bool:=
 match P.underlying t with
 | some (.struct _)=>some true
 | some (.array _ _)=>some true
 | some _=>some false
 | none=>none
theorem mN {P:Program} {t:TypeId} {b:Bool} (h:yO P t=some b) (w:World):(isAgg t).run P w=.ok b w:=by
 unfold yO at h
 cases hu:P.underlying t with
 | none=>simp [hu] at h
 | some d=>
   rw [hu] at h
   simp only [isAgg,Sem.run_bind,run_underlying hu,Result.andThen_ok]
   cases d<;>simp only [Option.some.injEq] at h<;>subst h<;>rfl
theorem fh {P:Program} {t:TypeId} {i:TypeInfo} (h:P.info? t=some i) (w:World):(sizeOf t).run P w=.ok i.size w:=by
 simp [sizeOf,typeInfo,h]
def sJ (P:Program) (A:AW) (t:TypeId) (p:Addr):Option Value:=
 match A.cK p.block,yO P t with
 | some cs,some false=>cs[p.off]?
 | some cs,some true=>
   match P.info? t with
   | some i=>if p.off+i.size≤cs.length then some (.agg ((cs.drop p.off).take i.size).toArray) else none
   | none=>none
 | _,_=>none
theorem bG.nR {m:Mp} {l l':List Value} (h:gu m l l'):bG m (.agg l.toArray) (.agg l'.toArray):=
 .agg (by simpa using h.1) fun i v v' a b=>h.2 i v v' (by simpa using a) (by simpa using b)
theorem Fo {P:Program} {m:Mp} {A:AW} {w:World} (hs:jv m A w) {t:TypeId} {p p':Addr} {v:Value} (h:sJ P A t p=some v) (hp:mM m p p') :
 ∃v',(loadVar t p').run P w=.ok v' w∧bG m v v':=by
 unfold sJ at h
 split at h
 · rename_i cs hr ha
   obtain⟨v',h1,h2⟩:=K7 (P:=P) hs hp hr h
   exact⟨v',by simp only [loadVar,Sem.run_bind,mN ha,Result.andThen_ok,Bool.false_eq_true,if_false,h1],h2⟩
 · rename_i cs hr ha
   split at h
   · rename_i i hi
     split at h
     · rename_i eT
       injection h with h
       subst h
       obtain⟨l',h1,h2⟩:=Aw (P:=P) hs hp hr i.size eT
       refine⟨.agg l'.toArray,?_,.nR h2⟩
       simp only [loadVar,Sem.run_bind,mN ha,Result.andThen_ok,if_true,fh hi,h1,Sem.run_pure]
     · cases h
   · cases h
 · cases h
def ah (P:Program) (A:AW) (t:TypeId) (p:Addr) (v:Value):Option AW:=
 match A.bR p.block,P.info? t with
 | some (.cells cs true unit),some i=>
   if v.cells.size=i.size∧p.off+i.size≤cs.length∧v.cells.toList.all Value.oneCell' then
    some (A.set p.block (some (.cells (eI cs p.off v.cells.toList) true unit)))
   else none
 | _,_=>none
theorem Db {P:Program} {m:Mp} {A A1:AW} {w:World} (hs:jv m A w) {t:TypeId} {p p':Addr} {v v':Value} (h:ah P A t p v=some A1) (hp:mM m p p') (hv:bG m v v') :
 ∃w',(storeVar t p' v').run P w=.ok () w'∧iG m A w m A1 w':=by
 unfold ah at h
 split at h
 · rename_i cs unit i hg hi
   split at h
   · rename_i hc
     obtain⟨h1,h2,h3⟩:=hc
     injection h with h
     subst h
     obtain⟨CO,EP,q,hm,hb,ho⟩:=hp
     have i8:=hv.cells
     obtain⟨w',hr,ev⟩:=mV (P:=P) (o:=p.off) hm v.cells.toList v'.cells.toList 0 cs A w hs hg i8 (fun x hx=>List.all_eq_true.1 h3 x hx) (by simp;omega)
     refine⟨w',?_,by simpa using ev⟩
     have qF:v'.cells.size=i.size:=by have:=i8.1;simp at this;omega
     have ea:p'=⟨q.block,q.base+p.off,none⟩:=by rw [uO p' EP,hb,ho]
     subst ea
     simp only [storeVar,Sem.run_bind,fh hi,Result.andThen_ok,qF,ne_eq,not_true_eq_false,if_false,hr]
   · cases h
 · cases h
theorem pV {P:Program} {m:Mp} {A:AW} {w:World} (hs:jv m A w) (e:TypeId) (unit:Nat) {l:List Value} {iB:Array Value} (hl:gu m l iB.toList) :
 ∃w' m',(newRow e iB).run P w=.ok ⟨w.heap.size,0,none⟩ w'∧iG m A w m' (A.alloc (.cells l true unit)) w'∧m'=m.ext A.next ⟨w.heap.size,0,unit,iB.size⟩:=by
 refine⟨w.alloc (.cells iB e),_,?_,iG.alloc hs l iB e unit (fun k v hv=>?_),rfl⟩
 · simp only [newRow,Sem.run_bind,run_newObj,Result.andThen_ok,Sem.run_pure];rfl
 · obtain⟨v',h1,h2⟩:=hl.bR hv
   exact⟨v',by simpa using h1,h2⟩
def Mk (A:AW) (v:Value):Value×AW:=(.pointer (some ⟨A.next,0,none⟩),A.alloc (.cells v.cells.toList true 1))
theorem zJ {P:Program} {m:Mp} {A:AW} {w:World} (hs:jv m A w) (e:TypeId) {v v':Value} (hv:bG m v v') :
 ∃p' w' m',(Instr.box e v').run P w=.ok p' w'∧iG m A w m' (Mk A v).2 w'∧bG m' (Mk A v).1 p':=by
 obtain⟨w',m',h1,h2,h3⟩:=pV (P:=P) hs e 1 hv.cells
 refine⟨.pointer (some ⟨w.heap.size,0,none⟩),w',m',?_,h2,?_⟩
 · simp only [Instr.box,newVar,Sem.run_bind,h1,Result.andThen_ok,Sem.run_pure]
 · rw [h3]
   exact .Ef (mM.kh m A.next ⟨w.heap.size,0,1,_⟩ 0)
def qj (P:Program) (s:TypeId) (x:Value) (f:Nat):Option Value:=
 match P.underlying s,x with
 | some (.struct fs),.pointer (some p)=>
   match fs[f]? with
   | some fd=>
     match P.info? fd.type with
     | some i=>if i.size=0 then none else some (.pointer (some ⟨p.block,p.off+fd.offset,none⟩))
     | none=>none
   | none=>none
 | _,_=>none
theorem mM.Ph {m:Mp} {a a':Addr} (h:mM m a a') (n:Nat):mM m ⟨a.block,a.off+n,none⟩ (a'.add n):=by
 obtain⟨h1,h2,p,h3,h4,h5⟩:=h
 rw [nz _ _ h2]
 exact⟨rfl,rfl,p,h3,h4,by simp only [h5,Nat.add_assoc]⟩
theorem vV {P:Program} {m:Mp} {s:TypeId} {x x' v:Value} {f:Nat} (h:qj P s x f=some v) (hx:bG m x x') :
 ∃v',bG m v v'∧∀w,(Instr.fieldAt s x' f).run P w=.ok v' w:=by
 unfold qj at h
 split at h
 · rename_i fs p hu
   cases hx with
   | Ef ha=>
     rename_i p'
     split at h
     · rename_i fd hf
       split at h
       · rename_i i hi
         split at h
         · cases h
         · rename_i h0
           injection h with h
           subst h
           refine⟨.pointer (some (p'.add fd.offset)),.Ef (ha.Ph _),fun w=>?_⟩
           simp [Instr.fieldAt,run_underlying hu,hf,Instr.sureAddr,fieldPlace,fh hi,h0]
       · cases h
     · cases h
 · cases h
def apart (P:Program) (t:TypeId) (cs:Array Value) (off:Nat):Option Value:=
 match yO P t with
 | some false=>cs[off]?
 | some true=>
   match P.info? t with
   | some i=>some (.agg (cs.extract off (off+i.size)))
   | none=>none
 | none=>none
theorem kg {P:Program} {m:Mp} {t:TypeId} {cs oK:Array Value} {off:Nat} {v:Value} (h:apart P t cs off=some v) (hc:bG m (.agg cs) (.agg oK)) :
 ∃v',bG m v v'∧∀w,(part t oK off).run P w=.ok v' w:=by
 cases hc with
 | agg hx h1=>
   unfold apart at h
   split at h
   · rename_i ha
     have dO:off<oK.size:=by rw [←hx];exact(Array.getElem?_eq_some_iff.1 h).1
     have e:=Array.getElem?_eq_getElem dO
     refine⟨oK[off],h1 off v _ h e,fun w=>?_⟩
     simp only [part,Sem.run_bind,mN ha,Result.andThen_ok,Bool.false_eq_true,if_false]
     rw [e]
     rfl
   · rename_i ha
     split at h
     · rename_i i hi
       injection h with h
       subst h
       refine⟨.agg (oK.extract off (off+i.size)),.agg (by simp [hx]) ?_,fun w=>?_⟩
       · intro j v v' h2 h3
         rw [Array.getElem?_extract] at h2 h3
         split at h2
         · rename_i hj
           rw [if_pos (by rw [←hx];exact hj)] at h3
           exact h1 _ v v' h2 h3
         · cases h2
       · simp only [part,Sem.run_bind,mN ha,Result.andThen_ok,if_true,fh hi,Sem.run_pure]
     · cases h
   · cases h
def Dk (P:Program) (t:TypeId) (x:Value) (f:Nat):Option Value:=
 match P.underlying t,x with
 | some (.struct fs),.agg cs=>
   match fs[f]? with
   | some fd=>apart P fd.type cs fd.offset
   | none=>none
 | _,_=>none
theorem Dj {P:Program} {m:Mp} {t:TypeId} {x x' v:Value} {f:Nat} (h:Dk P t x f=some v) (hx:bG m x x') :
 ∃v',bG m v v'∧∀w,(Instr.field t x' f).run P w=.ok v' w:=by
 unfold Dk at h
 split at h
 · rename_i fs cs hu
   split at h
   · rename_i fd hf
     have H2:=hx
     cases hx with
     | agg qF h1=>
       obtain⟨v',h3,h2⟩:=kg (P:=P) h H2
       refine⟨v',h3,fun w=>?_⟩
       simp only [Instr.field,Sem.run_bind,run_underlying hu,Result.andThen_ok,hf,asAgg,Sem.run_pure,h2]
   · cases h
 · cases h
def qi (P:Program) (t:TypeId) (x ix:Value):Option Value:=
 match P.underlying t,x,ix with
 | some (.slice e),.slice (some p) len _,.int _ n=>
   match P.info? e with
   | some i=>if 0≤n∧n<len then some (.pointer (some ⟨p.block,p.off+n.toNat*i.size,none⟩)) else none
   | none=>none
 | some (.array len e),.pointer (some p),.int _ n=>
   match P.info? e with
   | some i=>if 0≤n∧n<len then some (.pointer (some ⟨p.block,p.off+n.toNat*i.size,none⟩)) else none
   | none=>none
 | _,_,_=>none
theorem vU {P:Program} {m:Mp} {t:TypeId} {x x' y y' v:Value} (h:qi P t x y=some v) (hx:bG m x x') (hy:bG m y y') :
 ∃v',bG m v v'∧∀w,(Instr.indexAt t x' y').run P w=.ok v' w:=by
 unfold qi at h
 split at h
 · rename_i e p len ew k n hu
   cases hy
   split at h
   · rename_i i hi
     split at h
     · rename_i hb
       injection h with h
       subst h
       cases hx with
       | slice hh h1 h2=>
         rename_i p' gt
         have ha:mM m p p':=by
          rcases hh with hh|hh
          · exact hh.Md
          · omega
         refine⟨.pointer (some (p'.add (n.toNat*i.size))),.Ef (ha.Ph _),fun w=>?_⟩
         simp [Instr.indexAt,run_underlying hu,asIntOf,fh hi,hb.1,hb.2]
     · cases h
   · cases h
 · rename_i len e p k n hu
   cases hy
   split at h
   · rename_i i hi
     split at h
     · rename_i hb
       injection h with h
       subst h
       cases hx with
       | Ef ha=>
         rename_i p'
         refine⟨.pointer (some (p'.add (n.toNat*i.size))),.Ef (ha.Ph _),fun w=>?_⟩
         simp [Instr.indexAt,run_underlying hu,asIntOf,fh hi,hb.1,hb.2,Instr.sureAddr]
     · cases h
   · cases h
 · cases h
def Di (P:Program) (t:TypeId) (x ix:Value):Option Value:=
 match P.underlying t,x,ix with
 | some (.array len e),.agg cs,.int _ n=>
   match P.info? e with
   | some i=>if 0≤n∧n<len then apart P e cs (n.toNat*i.size) else none
   | none=>none
 | some .string,.string s,.int _ n=>
   if 0≤n then
    match s[n.toNat]? with
    | some b=>some (.int .u8 b.toNat)
    | none=>none
   else none
 | _,_,_=>none
theorem Dh {P:Program} {m:Mp} {t:TypeId} {x x' y y' v:Value} (h:Di P t x y=some v) (hx:bG m x x') (hy:bG m y y') :
 ∃v',bG m v v'∧∀w,(Instr.index t x' y').run P w=.ok v' w:=by
 unfold Di at h
 split at h
 · rename_i len e cs k n hu
   cases hy
   split at h
   · rename_i i hi
     split at h
     · rename_i hb
       have H2:=hx
       cases hx with
       | agg qF h1=>
         obtain⟨v',h3,h2⟩:=kg (P:=P) h H2
         exact⟨v',h3,fun w=>by simp [Instr.index,run_underlying hu,asIntOf,fh hi,hb.1,hb.2,h2]⟩
     · cases h
   · cases h
 · rename_i s k n hu
   cases hx;cases hy
   split at h
   · rename_i h0
     split at h
     · rename_i b hb
       injection h with h
       subst h
       exact⟨.int .u8 b.toNat,by constructor,fun w=>by simp [Instr.index,run_underlying hu,asIntOf,h0,hb]⟩
     · cases h
   · cases h
 · cases h
def nA (v:Option Value) (d k9:Nat):Option Nat:=
 match v with
 | none=>some d
 | some (.int _ n)=>if 0≤n∧n≤k9 then some n.toNat else none
 | some _=>none
def d8 (P:Program) (A:AW) (e:TypeId) (p:Addr) (l:Nat):Option Addr:=
 if l=0 then some p else
 match P.info? e,A.bR p.block with
 | some i,some (.cells _ _ unit)=>if unit=i.size then some ⟨p.block,p.off+l*i.size,none⟩ else none
 | _,_=>none
def tu (P:Program) (A:AW) (t:TypeId) (x:Value) (lo hi mx:Option Value):Option Value:=
 match P.underlying t,x,mx with
 | some (.slice e),.slice a len ew,none=>
   match nA hi len ew with
   | some h=>
     match nA lo 0 h with
     | some l=>
       match P.info? e,a with
       | some _,none=>some (.slice none (h-l) (ew-l))
       | some _,some p=>
         match d8 P A e p l with
         | some q=>some (.slice (some q) (h-l) (ew-l))
         | none=>none
       | none,_=>none
     | none=>none
   | none=>none
 | some .string,.string s,none=>
   match nA hi s.size s.size with
   | some h=>
     match nA lo 0 h with
     | some l=>some (.string (s.extract l h))
     | none=>none
   | none=>none
 | _,_,_=>none
end Go.Stx
namespace Go.Stx
open Go
variable [Gl]
set_option linter.unusedSectionVars false
def r8 (m:Mp):Option Value→Option Value→Prop
 | none,none=>True
 | some v,some v'=>bG m v v'
 | _,_=>False
theorem iv {P:Program} {w:World} {k:IntKind} {n:Int} {y:Nat} {ay:BoundsCode} (h0:0≤n) (h1:n≤y) :
 (Instr.sliceBound (.int k n) y ay).run P w=.ok n.toNat w:=by
 simp [Instr.sliceBound,asIntOf,h0,h1]
theorem w5 {m:Mp} {v v':Option Value} {d k9 h:Nat} (hb:nA v d k9=some h) (hv:r8 m v v') :
 (v'=none∧h=d)∨∃k n,v'=some (.int k n)∧0≤n∧n≤k9∧h=n.toNat:=by
 unfold nA at hb
 split at hb
 · injection hb with hb
   cases v' with
   | none=>exact .inl ⟨rfl,hb.symm⟩
   | some _=>exact hv.elim
 · rename_i k n
   split at hb
   · rename_i hc
     injection hb with hb
     cases v' with
     | none=>exact hv.elim
     | some _=>cases hv;exact .inr ⟨k,n,rfl,hc.1,hc.2,hb.symm⟩
   · cases hb
 · cases hb
theorem mc {P:Program} {m:Mp} {lo hi M1 uV:Option Value} {len ew gt h l:Nat} (Yt:Bool) (hh:nA hi len ew=some h) (hl:nA lo 0 h=some l)
 (hc:ew≤gt) (rM:r8 m lo M1) (OB:r8 m hi uV) (w:World):(Instr.sliceBounds Yt len gt M1 uV none).run P w=.ok (l,h,gt) w:=by
 rcases w5 hh OB with ⟨rfl,rfl⟩|⟨k,n,rfl,h0,h1,rfl⟩<;>rcases w5 hl rM with ⟨rfl,rfl⟩|⟨k',n',rfl,Mz,P5,rfl⟩
 · simp [Instr.sliceBounds]
 · simp [Instr.sliceBounds,iv Mz P5]
 · have h2:n≤(gt:Int):=by omega
   simp [Instr.sliceBounds,iv h0 h2]
 · have h2:n≤(gt:Int):=by omega
   simp [Instr.sliceBounds,iv h0 h2,iv Mz P5]
theorem BO {v:Option Value} {d k9 h:Nat} (hb:nA v d k9=some h):h=d∨h≤k9:=by
 unfold nA at hb
 split at hb
 · injection hb with hb;exact .inl hb.symm
 · split at hb
   · rename_i hc;injection hb with hb;exact .inr (by omega)
   · cases hb
 · cases hb
theorem Dc {P:Program} {m:Mp} {A:AW} {w:World} (hs:jv m A w) {t:TypeId} {x x' v:Value} {lo hi mx M1 uV Oe:Option Value} (h:tu P A t x lo hi mx=some v)
 (hx:bG m x x') (rM:r8 m lo M1) (OB:r8 m hi uV) (TK:r8 m mx Oe):∃v',bG m v v'∧∀w',(Instr.sliceAt t x' M1 uV Oe).run P w'=.ok v' w':=by
 unfold tu at h
 split at h
 · rename_i e a len ew hu
   cases Oe with
   | some _=>exact TK.elim
   | none=>
   split at h
   · rename_i hh Sw
     split at h
     · rename_i l Sv
       have hlh:l=0∨l≤hh:=BO Sv
       have hhc:hh=len∨hh≤ew:=BO Sw
       split at h
       · rename_i i hi
         injection h with h
         subst h
         cases hx
         have hr:=mc (P:=P) (m:=m) true Sw Sv (Nat.le_refl 0) rM OB
         have h1:hh=0:=by omega
         have h2:l=0:=by omega
         subst h1;subst h2
         refine⟨.slice none 0 0,.lg,fun w'=>?_⟩
         simp [Instr.sliceAt,Instr.slice,run_underlying hu,hr,fh hi]
       · rename_i i p hi
         split at h
         · rename_i q hq
           injection h with h
           subst h
           cases hx with
           | slice xC h1 h2=>
             rename_i p' gt
             have hr:=mc (P:=P) (m:=m) true Sw Sv h2 rM OB
             refine⟨.slice (some (if gt=l then p' else p'.add (l*i.size))) (hh-l) (gt-l),?_,fun w'=>?_⟩
             rotate_left
             · simp only [Instr.sliceAt,Sem.run_bind,run_underlying hu,Result.andThen_ok,Instr.slice,hr,fh hi,Sem.run_pure,Option.map_some]
               split<;>rfl
             · refine .slice ?_ (by omega) (by omega)
               by_cases i8:gt=l
               · refine .inr ⟨by omega,by omega,?_⟩
                 unfold d8 at hq
                 split at hq
                 · injection hq with hq
                   subst hq
                   rcases xC with ⟨_,_,pl,g3,_⟩|⟨_,_,g⟩
                   · exact .inr (by rw [g3];exact Option.some_ne_none _)
                   · exact g
                 · split at hq
                   · rename_i hg
                     split at hq
                     · injection hq with hq
                       subst hq
                       obtain⟨pl,g7,_⟩:=hs.Bq _ _ hg
                       exact .inr (by simp only;rw [g7];exact Option.some_ne_none _)
                     · cases hq
                   · cases hq
               · rw [if_neg i8]
                 have U5:wa m p p' gt:=by
                  rcases xC with xC|xC
                  · exact xC
                  · omega
                 obtain⟨g1,g2,pl,g3,g4,g5,g6⟩:=U5
                 unfold d8 at hq
                 split at hq
                 · rename_i Ox
                   subst Ox
                   injection hq with hq
                   subst hq
                   rw [Nat.zero_mul,show p'.add 0=p' by unfold Addr.add;simp]
                   exact .inl ⟨g1,g2,pl,g3,g4,g5,by simpa using g6⟩
                 · rename_i Ox
                   split at hq
                   · rename_i i' cs own unit uV hg
                     rw [hi] at uV
                     injection uV with uV
                     subst uV
                     split at hq
                     · rename_i QP
                       injection hq with hq
                       subst hq
                       obtain⟨pl',g7,iB,e',fr,g8,_,g9,_⟩:=hs.Bq _ _ hg
                       rw [g3] at g7
                       injection g7 with g7
                       subst g7
                       rw [nz _ _ g2]
                       refine .inl ⟨rfl,rfl,pl,g3,g4,by simp only [g5,Nat.add_assoc],?_⟩
                       rw [←g9,QP] at g6 ⊢
                       simp only
                       have:l*i.size+(gt-l)*i.size=gt*i.size:=by
                        rw [←Nat.add_mul];congr 1;omega
                       omega
                     · cases hq
                   · cases hq
         · cases h
       · cases h
     · cases h
   · cases h
 · rename_i s hu
   cases Oe with
   | some _=>exact TK.elim
   | none=>
   cases hx
   split at h
   · rename_i hh Sw
     split at h
     · rename_i l Sv
       injection h with h
       subst h
       have hr:=mc (P:=P) (m:=m) false Sw Sv (Nat.le_refl _) rM OB
       refine⟨.string (s.extract l hh),.string _,fun w'=>?_⟩
       simp [Instr.sliceAt,Instr.slice,run_underlying hu,hr]
     · cases h
   · cases h
 · cases h
def xM (P:Program) (t:TypeId) (x:Value) (lo hi:Option Value) (mx:Value):Option Value:=
 match P.underlying t,x,lo,hi,mx with
 | some (.slice e),.slice a _ _,none,some (.int _ h),.int _ q=>
   match P.info? e with
   | some _=>if h=0∧q=0 then some (match a with|none=>.slice none 0 0|some _=>.slice (some ⟨0,0,some 0⟩) 0 0) else none
   | none=>none
 | _,_,_,_,_=>none
theorem AM {P:Program} {m:Mp} {t:TypeId} {x x' v mx Oe:Value} {lo hi M1 uV:Option Value} (h:xM P t x lo hi mx=some v)
 (hx:bG m x x') (rM:r8 m lo M1) (OB:r8 m hi uV) (TK:bG m mx Oe):∃v',bG m v v'∧∀w',(Instr.sliceAt t x' M1 uV (some Oe)).run P w'=.ok v' w':=by
 unfold xM at h
 split at h<;>try(cases h;done)
 rename_i e a len ew k h0 k' q hu
 split at h<;>try(cases h;done)
 rename_i i Xc
 split at h<;>try(cases h;done)
 rename_i hc
 obtain⟨rfl,rfl⟩:=hc
 injection h with h
 subst h
 cases M1 with
 | some _=>exact rM.elim
 | none=>
 cases uV with
 | none=>exact OB.elim
 | some hv=>
 have Vt:bG m (.int k 0) hv:=OB
 cases Vt
 cases TK
 have hb:∀(gt:Nat) (w':World),(Instr.sliceBounds true len gt none (some (.int k 0)) (some (.int k' 0))).run P w'=.ok (0,0,0) w':=fun gt w'=>by
  simp [Instr.sliceBounds,iv (P:=P) (w:=w') (k:=k') (n:=0) (y:=gt) (ay:=.slice3Acap) (by omega) (by omega),
   iv (P:=P) (w:=w') (k:=k) (n:=0) (y:=0) (ay:=.slice3B) (by omega) (by omega)]
 cases a with
 | none=>
   cases hx
   exact⟨.slice none 0 0,.lg,fun w'=>by simp [Instr.sliceAt,Instr.slice,run_underlying hu,hb,fh Xc]⟩
 | some a=>
   cases hx with
   | slice hh h1 h2=>
     rename_i a' gt
     exact⟨.slice (some a') 0 0,.slice (.inr ⟨rfl,rfl,.inl rfl⟩) (Nat.le_refl _) (Nat.le_refl _),fun w'=>by simp [Instr.sliceAt,Instr.slice,run_underlying hu,hb,fh Xc]⟩
def Fj (size:Nat):List (Nat×Value)→List Value→Option (List Value)
 | [],cs=>some cs
 | (i,v)::fR,cs=>if v.cells.size=size∧i*size+size≤cs.length then Fj size fR (eI cs (i*size) v.cells.toList) else none
def ep (z:List Value):Nat→List Value
 | 0=>[]
 | n+1=>z++ep z n
theorem uA (l:List Value):∀(cs:Array Value) (off k:Nat),off+k+l.length≤cs.size→
 ((l.zipIdx k).foldl (fun cs (c,j)=>cs.setIfInBounds (off+j) c) cs).toList=eI cs.toList (off+k) l:=by
 induction l with
 | nil=>intro cs off k _;rfl
 | cons v l ih=>
   intro cs off k h
   simp only [List.zipIdx_cons,List.foldl_cons,eI]
   rw [ih _ off (k+1) (by simp at h ⊢;omega)]
   simp [Nat.add_assoc]
theorem pF {m:Mp}:∀(l l':List Value) (off:Nat) (cs oK:List Value),gu m cs oK→gu m l l'→off+l.length≤cs.length→
 gu m (eI cs off l) (eI oK off l')
 | [],l',off,cs,oK,h,hl,_=>by
   have e:=hl.oh
   subst e
   exact h
 | v::l,l',off,cs,oK,h,hl,eT=>by
   obtain⟨v',t',rfl,hv,ht⟩:=hl.kI
   simp only [List.length_cons] at eT
   refine pF l t' (off+1) _ _ ⟨by simp [h.1],fun i x x' h1 h2=>?_⟩ ht (by simp;omega)
   by_cases hi:off=i
   · subst hi
     rw [List.getElem?_set_self (by omega)] at h1
     rw [List.getElem?_set_self (by rw [←h.1];omega)] at h2
     injection h1 with h1
     injection h2 with h2
     subst h1;subst h2
     exact hv
   · rw [List.getElem?_set_ne hi] at h1 h2
     exact h.2 i x x' h1 h2
theorem wQ {m:Mp} {size:Nat}:∀(iO fI:List (Nat×Value)) (cs r:List Value) (oK:Array Value),Fj size iO cs=some r→gu m cs oK.toList→
 iO.length=fI.length→(∀(k:Nat) (p p':Nat×Value),iO[k]? = some p→fI[k]? = some p'→p.1=p'.1∧bG m p.2 p'.2)→
 ∃r',Instr.fill (fun i=>some (i*size,size)) oK fI=some r'∧gu m r r'.toList
 | [],fI,cs,r,oK,h,hc,hl,_=>by
   cases fI with
   | cons _ _=>simp at hl
   | nil=>
     injection h with h
     subst h
     exact⟨oK,rfl,hc⟩
 | (i,v)::fR,fI,cs,r,oK,h,hc,hl,hp=>by
   cases fI with
   | nil=>simp at hl
   | cons p' rest'=>
     obtain⟨i',v'⟩:=p'
     obtain⟨h1,h2⟩:=hp 0 _ _ rfl rfl
     simp only at h1 h2
     subst h1
     unfold Fj at h
     split at h
     · rename_i ux
       obtain⟨hz,eT⟩:=ux
       have i8:=h2.cells
       have UW:v'.cells.size=size:=by have:=i8.1;simp at this;omega
       have qF:oK.size=cs.length:=by have:=hc.1;simp at this;omega
       have LA:=uA v'.cells.toList oK (i*size) 0 (by simp;omega)
       obtain⟨r',h3,h4⟩:=wQ fR rest' _ r (v'.cells.zipIdx.foldl (fun cs (c,j)=>cs.setIfInBounds (i*size+j) c) oK) h (by
        rw [←Array.foldl_toList,Array.toList_zipIdx,LA]
        exact pF _ _ _ _ _ hc i8 (by simp;omega)) (by simpa using hl) (fun k p p' a b=>hp (k+1) p p' (by simpa using a) (by simpa using b))
       refine⟨r',?_,h4⟩
       simp only [Instr.fill,UW,ne_eq,not_true_eq_false,decide_false,Bool.false_or,qF,decide_eq_true_eq]
       rw [if_neg (by omega)]
       exact h3
     · cases h
theorem ic (z:List Value) (n:Nat):(ep z n).length=n*z.length:=by
 induction n with
 | zero=>simp [ep]
 | succ n ih=>simp [ep,ih,Nat.add_mul];omega
theorem Hg (z:List Value) (n j:Nat) (h:j<n*z.length):(ep z n)[j]? = z[j % z.length]?:=by
 induction n generalizing j with
 | zero=>simp at h
 | succ n ih=>
   simp only [ep]
   by_cases hj:j<z.length
   · rw [List.getElem?_append_left hj,Nat.mod_eq_of_lt hj]
   · rw [List.getElem?_append_right (by omega),ih _ (by simp [Nat.add_mul] at h;omega)]
     rw [Nat.mod_eq_sub_mod (by omega:z.length≤j)]
theorem ou (z:Array Value) (n:Nat) (h:0<z.size):((Array.range (n*z.size)).map (fun j=>z[j % z.size]!)).toList=ep z.toList n:=by
 apply List.ext_getElem?
 intro j
 by_cases hj:j<n*z.size
 · rw [Hg _ _ _ (by simpa using hj)]
   have hm:j % z.size<z.size:=Nat.mod_lt _ h
   simp [hj,hm]
 · rw [List.getElem?_eq_none (by simp;omega),List.getElem?_eq_none (by rw [ic];simp;omega)]
def eJ:Value→Bool
 | .bool _ | .int _ _ | .float _ _ | .complex _ _ _ | .string _ | .pointer none | .slice none 0 0 | .map none | .chan none | .nilFunc | .nilIface=>true
 | _=>false
def rO:Value→Bool
 | .agg cs=>cs.all eJ
 | .tuple cs=>cs.all eJ
 | v=>eJ v
theorem bG.li {v:Value} (h:eJ v=true) (m:Mp):bG m v v:=by
 unfold eJ at h
 split at h<;>first|(cases h;done)|constructor
theorem bG.rD {v:Value} (h:rO v=true) (m:Mp):bG m v v:=by
 unfold rO at h
 split at h
 · refine .agg rfl fun i v v' h1 h2=>?_
   rw [h1] at h2
   injection h2 with h2
   subst h2
   exact .li (Array.all_eq_true_iff_forall_mem.1 h _ (Array.mem_of_getElem? h1)) m
 · refine .tuple rfl fun i v v' h1 h2=>?_
   rw [h1] at h2
   injection h2 with h2
   subst h2
   exact .li (Array.all_eq_true_iff_forall_mem.1 h _ (Array.mem_of_getElem? h1)) m
 · exact .li h m
theorem gu.lh {l:List Value} (h:l.all eJ=true) (m:Mp):gu m l l:=
 ⟨rfl,fun i v v' h1 h2=>by
  rw [h1] at h2
  injection h2 with h2
  subst h2
  exact .li (List.all_eq_true.1 h _ (List.mem_of_getElem? h1)) m⟩
theorem lH {z:List Value} (h:z.all eJ=true) (n:Nat):(ep z n).all eJ=true:=by
 induction n with
 | zero=>rfl
 | succ n ih=>simp only [ep,List.all_append,h,ih,Bool.and_self]
def ox (P:Program) (A:AW) (t:TypeId) (len:Nat) (iO:List (Nat×Value)):Option (Value×AW):=
 match P.underlying t with
 | some (.slice e)=>
   match P.info? e with
   | some i=>
     match i.zero with
     | some z=>
       if z.cells.size=i.size∧0<i.size∧len*i.size≤2 ^ 24∧z.cells.toList.all eJ then
        match Fj i.size iO (ep z.cells.toList len) with
        | some cs=>some (.slice (some ⟨A.next,0,none⟩) len len,A.alloc (.cells cs true i.size))
        | none=>none
       else none
     | none=>none
   | none=>none
 | _=>none
theorem BG (size:Nat):∀(iO:List (Nat×Value)) (cs r:Array Value),Instr.fill (fun i=>some (i*size,size)) cs iO=some r→r.size=cs.size
 | [],cs,r,h=>by injection h with h;subst h;rfl
 | (i,v)::fR,cs,r,h=>by
   unfold Instr.fill at h
   simp only at h
   split at h
   · cases h
   · rw [BG size fR _ r h]
     have:∀(l:List (Value×Nat)) (cs:Array Value),(l.foldl (fun cs (c,j)=>cs.setIfInBounds (i*size+j) c) cs).size=cs.size:=by
      intro l
      induction l with
      | nil=>intro cs;rfl
      | cons x l ih=>intro cs;simp [List.foldl_cons,ih]
     rw [←Array.foldl_toList]
     exact this _ _
theorem uQ {P:Program} {m:Mp} {A A1:AW} {w:World} (hs:jv m A w) {t:TypeId} {len:Nat} {iO:List (Nat×Value)} {fI:Array (Nat×Value)} {v:Value}
 (h:ox P A t len iO=some (v,A1)) (hl:iO.length=fI.size)
 (hp:∀(k:Nat) (p p':Nat×Value),iO[k]? = some p→fI[k]? = some p'→p.1=p'.1∧bG m p.2 p'.2) :
 ∃v' w' m',(Instr.buildSlice t len fI).run P w=.ok v' w'∧iG m A w m' A1 w'∧bG m' v v':=by
 unfold ox at h
 split at h<;>try(cases h;done)
 rename_i e hu
 split at h<;>try(cases h;done)
 rename_i i hi
 split at h<;>try(cases h;done)
 rename_i z hz
 split at h<;>try(cases h;done)
 rename_i hc
 obtain⟨mr,h0,h24,gh⟩:=hc
 split at h<;>try(cases h;done)
 rename_i cs RN
 simp only [Option.some.injEq,Prod.mk.injEq] at h
 obtain⟨rfl,rfl⟩:=h
 have Lm:=ou z.cells len (by omega)
 rw [mr] at Lm
 obtain⟨r',h1,h2⟩:=wQ (m:=m) iO fI.toList _ cs ((Array.range (len*i.size)).map (fun j=>z.cells[j % i.size]!)) RN
  (by rw [Lm];exact .lh (lH gh len) m) (by simpa using hl) (fun k p p' a b=>hp k p p' a (by simpa using b))
 have JO:r'.size=len*i.size:=by rw [BG _ _ _ _ h1];simp
 obtain⟨w',m',h3,h4,h5⟩:=pV (P:=P) hs e i.size h2
 refine⟨.slice (some ⟨w.heap.size,0,none⟩) len len,w',m',?_,h4,?_⟩
 · simp only [Instr.buildSlice,Sem.run_bind,run_underlying hu,Result.andThen_ok,fh hi]
   rw [if_neg (by omega)]
   by_cases Ox:len*i.size=0
   · rw [if_pos Ox]
     have PT:((Array.range (len*i.size)).map fun j=>(#[]:Array Value)[j % (#[]:Array Value).size]!)=(Array.range (len*i.size)).map (fun j=>z.cells[j % i.size]!):=by
      simp [Ox]
     simp only [Sem.run_bind,Sem.run_pure,Result.andThen_ok,PT,h1,h3]
   · rw [if_neg Ox]
     have IZ:(zeroValue e).run P w=.ok z w:=by simp [zeroValue,typeInfo,hi,hz]
     simp only [Sem.run_bind,Sem.run_pure,Result.andThen_ok,IZ,mr,h1,h3]
 · refine .slice (.inl ⟨rfl,rfl,⟨w.heap.size,0,i.size,r'.size⟩,by rw [h5];simp [Mp.ext],rfl,rfl,?_⟩) (Nat.le_refl _) (Nat.le_refl _)
   show 0+len*i.size≤r'.size
   omega
end Go.Stx
namespace Go.Stx
open Go
variable [Gl]
set_option linter.unusedSectionVars false
theorem Bf {P:Program} {w:World} {k:IntKind} {n:Int}:(asInt (.int k n)).run P w=.ok n w:=by simp [asInt,asIntOf]
theorem aw {x:Int} (h0:-9223372036854775808≤x) (h1:x≤9223372036854775807):IntKind.i64.wrap x=x:=by
 simp only [IntKind.wrap,IntKind.bits,IntKind.signed,Bool.true_and]
 split
 · rename_i h;have:=of_decide_eq_true h;omega
 · rename_i h;have:=of_decide_eq_false (eq_false_of_ne_true h);omega
theorem az {x:Int} (h0:0≤x) (h1:x<18446744073709551616):IntKind.u64.wrap x=x:=by
 simp only [IntKind.wrap,IntKind.bits,IntKind.signed,Bool.false_and,Bool.false_eq_true,if_false]
 omega
def mv (P:Program) (A:AW) (t:TypeId) (l c:Value):Option (Value×AW):=
 match P.underlying t,l,c with
 | some (.slice e),.int _ l,.int _ c=>
   match P.info? e with
   | some i=>
     match i.zero with
     | some z=>
       if z.cells.size=i.size∧0<i.size∧z.cells.toList.all eJ∧0≤l∧l≤c∧c≤140737488355328∧c*i.bytes≤140737488355328 then
        some (.slice (some ⟨A.next,0,none⟩) l.toNat c.toNat,A.alloc (.cells (ep z.cells.toList c.toNat) true i.size))
       else none
     | none=>none
   | none=>none
 | _,_,_=>none
theorem Fm {P:Program} {m:Mp} {A A1:AW} {w:World} (hs:jv m A w) {t:TypeId} {l c l' c' v:Value} (h:mv P A t l c=some (v,A1)) (hl:bG m l l') (hc:bG m c c') :
 ∃v' w' m',(Instr.makeSlice t l' c').run P w=.ok v' w'∧iG m A w m' A1 w'∧bG m' v v':=by
 unfold mv at h
 split at h<;>try(cases h;done)
 rename_i e k n k' q hu
 cases hl;cases hc
 split at h<;>try(cases h;done)
 rename_i i hi
 split at h<;>try(cases h;done)
 rename_i z hz
 split at h<;>try(cases h;done)
 rename_i ux
 obtain⟨mr,h0,gh,BA,hnq,hq,YN⟩:=ux
 simp only [Option.some.injEq,Prod.mk.injEq] at h
 obtain⟨rfl,rfl⟩:=h
 have Lm:=ou z.cells q.toNat (by omega)
 rw [mr] at Lm
 obtain⟨w',m',h3,h4,h5⟩:=pV (P:=P) hs e i.size (iB:=(Array.range (q.toNat*i.size)).map (fun j=>z.cells[j % i.size]!)) (by rw [Lm];exact .lh (lH gh q.toNat) m)
 have iV:IntKind.i64.wrap n=n:=aw (by omega) (by omega)
 have kl:IntKind.i64.wrap q=q:=aw (by omega) (by omega)
 refine⟨.slice (some ⟨w.heap.size,0,none⟩) n.toNat q.toNat,w',m',?_,h4,?_⟩
 · have YD:(typeInfo e).run P w=.ok i w:=by simp [typeInfo,hi]
   have hb:(i.bytes:Int)*q≤140737488355328:=by rw [Int.mul_comm];exact YN
   have c1:(decide (q<0) || decide ((i.bytes:Int)*q>2 ^ 48))=false:=by
    simp only [Bool.or_eq_false_iff,decide_eq_false_iff_not]
    constructor<;>omega
   simp only [Instr.makeSlice,Sem.run_bind,run_underlying hu,Result.andThen_ok,Bf,YD,iV,kl,c1]
   rw [if_neg (by simp;omega)]
   simp only [Sem.run_bind,run_askRoom,Result.andThen_ok,fh hi]
   by_cases hn:q.toNat*i.size=0
   · rw [if_pos hn]
     have PT:((Array.range (q.toNat*i.size)).map fun j=>(#[]:Array Value)[j % (#[]:Array Value).size]!)=(Array.range (q.toNat*i.size)).map (fun j=>z.cells[j % i.size]!):=by
      simp [hn]
     simp only [Sem.run_bind,Sem.run_pure,Result.andThen_ok,PT,h3]
   · rw [if_neg hn]
     have IZ:(zeroValue e).run P w=.ok z w:=by simp [zeroValue,typeInfo,hi,hz]
     simp only [Sem.run_bind,Sem.run_pure,Result.andThen_ok,IZ,mr,h3]
 · refine .slice (.inl ⟨rfl,rfl,⟨w.heap.size,0,i.size,((Array.range (q.toNat*i.size)).map (fun j=>z.cells[j % i.size]!)).size⟩,by rw [h5];simp [Mp.ext],rfl,rfl,?_⟩) (by omega) (Nat.le_refl _)
   show 0+q.toNat*i.size≤((Array.range (q.toNat*i.size)).map (fun j=>z.cells[j % i.size]!)).size
   simp
def Dx (P:Program) (A:AW) (t:TypeId):Option (Value×AW):=
 match P.info? t with
 | some i=>
   match i.zero with
   | some z=>if rO z then some (Mk A z) else none
   | none=>none
 | none=>none
theorem Dw {P:Program} {m:Mp} {A A1:AW} {w:World} (hs:jv m A w) {t:TypeId} {v:Value} (h:Dx P A t=some (v,A1)) :
 ∃v' w' m',(Instr.alloc t true (.tuple #[])).run P w=.ok v' w'∧iG m A w m' A1 w'∧bG m' v v':=by
 unfold Dx at h
 split at h<;>try(cases h;done)
 rename_i i hi
 split at h<;>try(cases h;done)
 rename_i z hz
 split at h<;>try(cases h;done)
 rename_i hg
 injection h with h
 obtain⟨p',w',m',h1,h2,h3⟩:=zJ (P:=P) hs t (bG.rD hg m)
 rw [h] at h2 h3
 refine⟨p',w',m',?_,h2,h3⟩
 have IZ:(zeroValue t).run P w=.ok z w:=by simp [zeroValue,typeInfo,hi,hz]
 simp only [Instr.alloc,Sem.run_bind,IZ,Result.andThen_ok]
 exact h1
def vQ (Eh:Nat→Option (Nat×Nat)):List (Nat×Value)→List Value→Option (List Value)
 | [],cs=>some cs
 | (i,v)::fR,cs=>
   match Eh i with
   | some (off,size)=>if v.cells.size=size∧off+size≤cs.length then vQ Eh fR (eI cs off v.cells.toList) else none
   | none=>none
theorem qf {m:Mp} {Eh:Nat→Option (Nat×Nat)}:∀(iO fI:List (Nat×Value)) (cs r:List Value) (oK:Array Value),vQ Eh iO cs=some r→gu m cs oK.toList→
 iO.length=fI.length→(∀(k:Nat) (p p':Nat×Value),iO[k]? = some p→fI[k]? = some p'→p.1=p'.1∧bG m p.2 p'.2)→
 ∃r',Instr.fill Eh oK fI=some r'∧gu m r r'.toList
 | [],fI,cs,r,oK,h,hc,hl,_=>by
   cases fI with
   | cons _ _=>simp at hl
   | nil=>
     injection h with h
     subst h
     exact⟨oK,rfl,hc⟩
 | (i,v)::fR,fI,cs,r,oK,h,hc,hl,hp=>by
   cases fI with
   | nil=>simp at hl
   | cons p' rest'=>
     obtain⟨i',v'⟩:=p'
     obtain⟨h1,h2⟩:=hp 0 _ _ rfl rfl
     simp only at h1 h2
     subst h1
     unfold vQ at h
     split at h
     · rename_i off size qG
       split at h
       · rename_i ux
         obtain⟨hz,eT⟩:=ux
         have i8:=h2.cells
         have UW:v'.cells.size=size:=by have:=i8.1;simp at this;omega
         have qF:oK.size=cs.length:=by have:=hc.1;simp at this;omega
         have LA:=uA v'.cells.toList oK off 0 (by simp;omega)
         obtain⟨r',h3,h4⟩:=qf fR rest' _ r (v'.cells.zipIdx.foldl (fun cs (c,j)=>cs.setIfInBounds (off+j) c) oK) h (by
          rw [←Array.foldl_toList,Array.toList_zipIdx,LA]
          exact pF _ _ _ _ _ hc i8 (by simp;omega)) (by simpa using hl) (fun k p p' a b=>hp (k+1) p p' (by simpa using a) (by simpa using b))
         refine⟨r',?_,h4⟩
         simp only [Instr.fill,qG,UW,ne_eq,not_true_eq_false,decide_false,Bool.false_or,qF,decide_eq_true_eq]
         rw [if_neg (by omega)]
         exact h3
       · cases h
     · cases h
def uJ (P:Program) (fs:List Field):Option (List (Nat×Nat)):=
 match fs with
 | []=>some []
 | f::r=>
   match P.info? f.type,uJ P r with
   | some i,some l=>some ((f.offset,i.size)::l)
   | _,_=>none
theorem wU {P:Program} {w:World}:∀(fs:List Field) (l:List (Nat×Nat)),uJ P fs=some l→
 (fs.mapM fun f=>(do pure (f.offset,←sizeOf f.type):Sem (Nat×Nat))).run P w=.ok l w
 | [],l,h=>by injection h with h;subst h;rfl
 | f::r,l,h=>by
   unfold uJ at h
   split at h
   · rename_i i l' hi hl
     injection h with h
     subst h
     simp only [List.mapM_cons,Sem.run_bind,fh hi,Result.andThen_ok,Sem.run_pure,wU r l' hl]
   · cases h
theorem qO {P:Program} {w w':World} {α β:Type} (f:α→Sem β) (l:Array α) (r:List β) (h:(l.toList.mapM f).run P w=.ok r w') :
 (l.mapM f).run P w=.ok r.toArray w':=by
 rw [Array.mapM_eq_mapM_toList]
 simp only [Sem.run_map,h,Result.andThen_ok]
def Dv (P:Program) (t:TypeId) (iO:List (Nat×Value)):Option Value:=
 match P.info? t with
 | some i=>
   match i.zero with
   | some z=>
     if z.cells.toList.all eJ then
      match P.underlying t with
      | some (.struct fs)=>
        match uJ P fs.toList with
        | some l=>
          match vQ (fun k=>l[k]?) iO z.cells.toList with
          | some cs=>some (.agg cs.toArray)
          | none=>none
        | none=>none
      | some (.array _ e)=>
        match P.info? e with
        | some ie=>
          match vQ (fun k=>some (k*ie.size,ie.size)) iO z.cells.toList with
          | some cs=>some (.agg cs.toArray)
          | none=>none
        | none=>none
      | _=>none
     else none
   | none=>none
 | none=>none
theorem Du {P:Program} {m:Mp} {t:TypeId} {iO:List (Nat×Value)} {fI:Array (Nat×Value)} {v:Value}
 (h:Dv P t iO=some v) (hl:iO.length=fI.size)
 (hp:∀(k:Nat) (p p':Nat×Value),iO[k]? = some p→fI[k]? = some p'→p.1=p'.1∧bG m p.2 p'.2) :
 ∃v',bG m v v'∧∀w,(Instr.build t fI).run P w=.ok v' w:=by
 unfold Dv at h
 split at h<;>try(cases h;done)
 rename_i i hi
 split at h<;>try(cases h;done)
 rename_i z hz
 split at h<;>try(cases h;done)
 rename_i gh
 have IZ:∀w,(zeroValue t).run P w=.ok z w:=fun w=>by simp [zeroValue,typeInfo,hi,hz]
 split at h<;>try(cases h;done)
 · rename_i fs hu
   split at h<;>try(cases h;done)
   rename_i l qG
   split at h<;>try(cases h;done)
   rename_i cs vE
   injection h with h
   subst h
   obtain⟨r',h1,h2⟩:=qf (m:=m) iO fI.toList _ cs z.cells vE (.lh gh m) (by simpa using hl) (fun k p p' a b=>hp k p p' a (by simpa using b))
   refine⟨.agg r',?_,fun w=>?_⟩
   · have:=bG.nR h2
     simpa using this
   · have hm:=qO _ fs l (wU (w:=w) fs.toList l qG)
     simp only [Instr.build,Sem.run_bind,IZ,Result.andThen_ok,run_underlying hu,hm]
     have e:(fun (x:Nat)=>l.toArray[x]?)=fun(k:Nat)=>l[k]?:=by funext k;simp
     rw [e,h1]
     rfl
 · rename_i n e hu
   split at h<;>try(cases h;done)
   rename_i ie GQ
   split at h<;>try(cases h;done)
   rename_i cs vE
   injection h with h
   subst h
   obtain⟨r',h1,h2⟩:=qf (m:=m) iO fI.toList _ cs z.cells vE (.lh gh m) (by simpa using hl) (fun k p p' a b=>hp k p p' a (by simpa using b))
   refine⟨.agg r',?_,fun w=>?_⟩
   · have:=bG.nR h2
     simpa using this
   · simp only [Instr.build,Sem.run_bind,IZ,Result.andThen_ok,run_underlying hu,fh GQ,h1,Sem.run_pure]
def kT (P:Program) (t:TypeId) (x:Value):Option Value:=
 match P.underlying t,x with
 | some .string,.string s=>some (.int .i64 s.size)
 | some (.slice _),.slice _ n _=>some (.int .i64 n)
 | some (.array n _),_=>some (.int .i64 n)
 | _,_=>none
theorem Hq {P:Program} {m:Mp} {t ty:TypeId} {x x' v:Value} (h:kT P t x=some v) (hx:bG m x x') :
 bG m v v∧∀w,(Builtin.len_ #[t] ty #[x']).run P w=.ok v w:=by
 unfold kT at h
 split at h
 · rename_i s hu;injection h with h;subst h;cases hx
   exact⟨by constructor,fun w=>by simp [Builtin.len_,run_underlying hu,goInt]⟩
 · rename_i e a n c hu;injection h with h;subst h
   cases hx<;>exact⟨by constructor,fun w=>by simp [Builtin.len_,run_underlying hu,goInt]⟩
 · rename_i n e hu;injection h with h;subst h
   exact⟨by constructor,fun w=>by simp [Builtin.len_,run_underlying hu,goInt]⟩
 · cases h
def Mf (mx:Bool):List Value→Option Value
 | [.int k a,.int k' b]=>if k=k' then some (.int k (if mx then (if a<b then b else a) else (if b<a then b else a))) else none
 | _=>none
theorem zB {P:Program} {m:Mp} {ts:Array TypeId} {ty:TypeId} {mx:Bool} {l:List Value} {l':Array Value} {v:Value} (h:Mf mx l=some v) (hl:gu m l l'.toList) :
 bG m v v∧∀w,((if mx then Builtin.max_ ts ty l' else Builtin.min_ ts ty l')).run P w=.ok v w:=by
 unfold Mf at h
 split at h
 · rename_i k a k' b
   obtain⟨x',t',e1,h1,h2⟩:=hl.kI
   obtain⟨y',t'',e2,h3,h4⟩:=h2.kI
   have e3:=h4.oh
   cases h1;cases h3
   subst e3;subst e2
   have Y8:l' = #[.int k a,.int k' b]:=by apply Array.ext';exact e1
   subst Y8
   split at h
   · injection h with h
     subst h
     cases mx
     · exact⟨by constructor,fun w=>by simp [Builtin.min_,Builtin.min2]⟩
     · refine⟨by constructor,fun w=>?_⟩
       simp [Builtin.max_,Builtin.max2]
   · cases h
 · cases h
def qh (P:Program) (t:TypeId) (x:Value):Option Value:=
 match P.underlying t with
 | some (.interface _)=>none
 | some _=>some (.iface t x)
 | none=>none
theorem vR {P:Program} {m:Mp} {t:TypeId} {x x' v:Value} (h:qh P t x=some v) (hx:bG m x x') :
 ∃v',bG m v v'∧∀w,(Instr.makeInterface t x').run P w=.ok v' w:=by
 unfold qh at h
 cases hu:P.underlying t with
 | none=>simp [hu] at h
 | some d=>
   rw [hu] at h
   cases d<;>simp only [Option.some.injEq] at h<;>(try (cases h;done))<;>subst h <;>
    exact⟨.iface t x',.iface t hx,fun w=>by simp [Instr.makeInterface,run_underlying hu]⟩
end Go.Stx
namespace Go.Stx
open Go
variable [Gl]
set_option linter.unusedSectionVars false
open Go.MapKept (run_findKey)
def kc:TypeDesc→Bool
 | .int _=>true
 | .string=>true
 | _=>false
def lP (d:TypeDesc) (k:Value):List (Value×Value)→Bool
 | []=>true
 | e::es=>
   match Instr.sameNow d k e.1 with
   | some false=>lP d k es
   | _=>false
def d6 (d:TypeDesc) (k:Value):List (Value×Value)→Nat→Option (Option (Nat×Value))
 | [],_=>some none
 | e::es,i=>
   match Instr.sameNow d k e.1 with
   | some true=>match lP d k es with|true=>some (some (i,e.2))|false=>none
   | some false=>d6 d k es (i+1)
   | none=>none
theorem pT {d:TypeDesc} {k:Value}:∀{es:List (Value×Value)},lP d k es=true↔∀x∈es,Instr.sameNow d k x.1=some false
 | []=>by simp [lP]
 | e::es=>by
   unfold lP
   split
   · rename_i h
     rw [pT]
     simp [h]
   · rename_i h
     simp only [Bool.false_eq_true,false_iff]
     intro hx
     exact h (hx e (by simp))
theorem oN {d:TypeDesc} {k:Value}:∀{es:List (Value×Value)} {n:Nat},d6 d k es n=some none↔∀x∈es,Instr.sameNow d k x.1=some false
 | [],n=>by simp [d6]
 | e::es,n=>by
   unfold d6
   split
   · rename_i h
     constructor
     · intro h1;split at h1<;>cases h1
     · intro h1;have:=h1 e (by simp);rw [h] at this;cases this
   · rename_i h
     rw [oN]
     simp [h]
   · rename_i h
     constructor
     · intro h1;cases h1
     · intro h1;have:=h1 e (by simp);rw [h] at this;cases this
theorem lI {d:TypeDesc} {k v:Value}:∀{es:List (Value×Value)} {n m:Nat},d6 d k es n=some (some (m,v)) ↔
 ∃l x r,es=l++x::r∧m=n+l.length∧x.2=v∧Instr.sameNow d k x.1=some true∧∀y∈l++r,Instr.sameNow d k y.1=some false
 | [],n,m=>by
   constructor
   · intro h;cases h
   · rintro ⟨l,x,r,h,_⟩;cases l<;>cases h
 | e::es,n,m=>by
   unfold d6
   constructor
   · intro h
     split at h
     · rename_i h1
       split at h
       · rename_i h2
         simp only [Option.some.injEq,Prod.mk.injEq] at h
         exact⟨[],e,es,rfl,by simp [h.1],h.2,h1,pT.1 h2⟩
       · cases h
     · rename_i h1
       obtain⟨l,x,r,rfl,rfl,h3,h4,h5⟩:=lI.1 h
       refine⟨e::l,x,r,rfl,by simp;omega,h3,h4,fun y hy=>?_⟩
       simp only [af,List.mem_cons] at hy
       rcases hy with rfl|hy
       · exact h1
       · exact h5 y hy
     · cases h
   · rintro ⟨l,x,r,h,rfl,h3,h4,h5⟩
     cases l with
     | nil=>
       simp only [ag,List.cons.injEq] at h
       obtain⟨rfl,rfl⟩:=h
       rw [h4]
       simp only
       rw [pT.2 (by simpa using h5)]
       simp [h3]
     | cons y l=>
       simp only [af,List.cons.injEq] at h
       obtain⟨rfl,rfl⟩:=h
       rw [h5 e (by simp)]
       simp only
       rw [lI]
       exact⟨l,x,r,rfl,by simp;omega,h3,h4,fun z hz=>h5 z (by simp only [af,List.mem_cons];exact .inr hz)⟩
theorem ny {d:TypeDesc} {k:Value} {es tm:List (Value×Value)} (hp:es.Perm tm) (h:d6 d k es 0=some none):d6 d k tm 0=some none:=
 oN.2 fun x hx=>oN.1 h x (hp.mem_iff.2 hx)
theorem sK {d:TypeDesc} {k v:Value} {es tm:List (Value×Value)} (hp:es.Perm tm) {i:Nat} (h:d6 d k es 0=some (some (i,v))) :
 ∃i',d6 d k tm 0=some (some (i',v))∧∀y,(es.set i y).Perm (tm.set i' y):=by
 obtain⟨l,x,r,rfl,rfl,h3,h4,h5⟩:=lI.1 h
 obtain⟨l',r',rfl⟩:=List.append_of_mem (hp.mem_iff.1 (show x∈l++x::r by simp))
 have JQ:(l++r).Perm (l'++r'):=(List.perm_middle.symm.trans (hp.trans List.perm_middle)).cons_inv
 refine⟨0+l'.length,lI.2 ⟨l',x,r',rfl,rfl,h3,h4,fun y hy=>h5 y (JQ.mem_iff.2 hy)⟩,fun y=>?_⟩
 have e1:∀(a b:List (Value×Value)),(a++x::b).set (0+a.length) y=a++y::b:=fun a b=>by simp
 rw [e1,e1]
 exact List.perm_middle.trans ((JQ.cons y).trans List.perm_middle.symm)
theorem wv {m:Mp} {d:TypeDesc} {a a' b b':Value} {r:Bool} (h:Instr.sameNow d a b=some r) (ha:bG m a a') (hb:bG m b b'):Instr.sameNow d a' b'=some r:=by
 unfold Instr.sameNow at h
 split at h
 · cases ha;cases hb;exact h
 · cases ha;cases hb;exact h
 · cases ha;cases hb;exact h
 · cases h
theorem Cq {d:TypeDesc} {a b:Value} (h:Instr.sameNow d a b=some true):Instr.sameBits 10000 b a=true:=by
 unfold Instr.sameNow at h
 split at h
 · rename_i k x k' y
   split at h
   · rename_i e
     subst e
     simp only [Option.some.injEq,beq_iff_eq] at h
     subst h
     simp [Instr.sameBits]
   · cases h
 · rename_i x y
   simp only [Option.some.injEq] at h
   have e:x.data=y.data:=eq_of_beq (show (x.data == y.data)=true from h)
   show (y.data == x.data)=true
   rw [e]
   exact beq_self_eq_true _
 · simp only [Option.some.injEq] at h
   have:=LawfulBEq.eq_of_beq h
   subst this
   simp [Instr.sameBits]
 · cases h
theorem jT {m:Mp} {d:TypeDesc} {k k':Value} (hk:bG m k k'):∀(es:List (Value×Value)) (jd:List MapEntry) (i:Nat) (r:Option (Nat×Value)),
 es.length=jd.length→(∀(j:Nat) (x:Value×Value) (e:MapEntry),es[j]? = some x→jd[j]? = some e→bG m x.1 e.key∧bG m x.2 e.val)→
 d6 d k es i=some r→∃r',Instr.findNow d k' jd i=some r'∧
  ((r=none∧r'=none)∨∃j v v' e,r=some (i+j,v)∧r'=some (i+j,v')∧bG m v v'∧jd[j]? = some e∧Instr.sameNow d k' e.key=some true)
 | [],jd,i,r,hl,_,h=>by
   cases jd with
   | cons _ _=>simp at hl
   | nil=>injection h with h;subst h;exact⟨none,rfl,.inl ⟨rfl,rfl⟩⟩
 | x::es,jd,i,r,hl,hr,h=>by
   cases jd with
   | nil=>simp at hl
   | cons e jd=>
     obtain⟨h1,h2⟩:=hr 0 x e rfl rfl
     unfold d6 at h
     split at h
     · rename_i hs
       split at h<;>try(cases h;done)
       injection h with h
       subst h
       have QQ:=wv hs hk h1
       exact⟨some (i,e.val),by simp [Instr.findNow,QQ],.inr ⟨0,x.2,e.val,e,rfl,rfl,h2,rfl,QQ⟩⟩
     · rename_i hs
       have QQ:=wv hs hk h1
       obtain⟨r',h3,h4⟩:=jT hk es jd (i+1) r (by simpa using hl) (fun j y f a b=>hr (j+1) y f (by simpa using a) (by simpa using b)) h
       refine⟨r',by simp [Instr.findNow,QQ,h3],?_⟩
       rcases h4 with h4|⟨j,v,v',e',h5,h6,h7,h8,h9⟩
       · exact .inl h4
       · refine .inr ⟨j+1,v,v',e',?_,?_,h7,by simpa using h8,h9⟩
         · rw [h5,show i+1+j=i+(j+1) by omega]
         · rw [h6,show i+1+j=i+(j+1) by omega]
     · cases h
theorem Al {P:Program} {w:World} {kt:TypeId} {d:TypeDesc} {k:Value} (hd:P.underlying kt=some d) (hk:kc d=true) (e:Bool) (n:Nat) :
 (Instr.checkKey e (n+1) kt k).run P w=.ok () w:=by
 have:d=.string∨∃i,d=.int i:=by
  unfold kc at hk
  split at hk
  · exact .inr ⟨_,rfl⟩
  · exact .inl rfl
  · cases hk
 unfold Instr.checkKey
 rw [Sem.run_bind,run_underlying hd]
 rcases this with rfl|⟨i,rfl⟩<;>rfl
theorem jQ {P:Program} {w:World} {kt:TypeId} {d:TypeDesc} {k:Value} (hd:P.underlying kt=some d) (hk:kc d=true) (e:Bool) :
 (Instr.checkKey e 10000 kt k).run P w=.ok () w:=Al hd hk e 9999
def rn (P:Program) (e:TypeId) (uH:Bool):Option Value:=
 match P.info? e with
 | some i=>
   match i.zero with
   | some z=>if rO z then (if uH then (if eJ z then some (.tuple #[z,.bool false]) else none) else some z) else none
   | none=>none
 | none=>none
def uM (P:Program) (A:AW) (t:TypeId) (x ix:Value) (uH:Bool):Option Value:=
 match P.underlying t with
 | some (.map kt e)=>
   match P.underlying kt with
   | some d=>
     if kc d then
      match x with
      | .map none=>rn P e uH
      | .map (some r)=>
        match A.bR r with
        | some (.map es _)=>
          match d6 d ix es 0 with
          | some (some (_,v))=>some (if uH then .tuple #[v,.bool true] else v)
          | some none=>rn P e uH
          | none=>none
        | _=>none
      | _=>none
     else none
   | none=>none
 | _=>none
theorem sH {P:Program} {e:TypeId} {c:Bool} {v:Value} (h:rn P e c=some v) (m:Mp) :
 bG m v v∧∃z,v=(if c then .tuple #[z,.bool false] else z)∧∀w,(zeroValue e).run P w=.ok z w:=by
 unfold rn at h
 split at h<;>try(cases h;done)
 rename_i i hi
 split at h<;>try(cases h;done)
 rename_i z hz
 split at h<;>try(cases h;done)
 rename_i hg
 have IZ:∀w,(zeroValue e).run P w=.ok z w:=fun w=>by simp [zeroValue,typeInfo,hi,hz]
 cases c
 · simp only [Bool.false_eq_true,if_false,Option.some.injEq] at h
   subst h
   exact⟨.rD hg m,z,rfl,IZ⟩
 · simp only [if_true] at h
   split at h<;>try(cases h;done)
   rename_i hs
   injection h with h
   subst h
   exact⟨.rD (v:=.tuple #[z,.bool false]) (show (#[z,Value.bool false]:Array Value).all eJ=true by simp [hs];rfl) m,z,rfl,IZ⟩
theorem bG.Ux {m:Mp} {a a' b b':Value} (h:bG m a a') (k:bG m b b'):bG m (.tuple #[a,b]) (.tuple #[a',b']):=by
 refine .tuple rfl fun i v v' h1 h2=>?_
 match i with
 | 0=>simp at h1 h2;subst h1;subst h2;exact h
 | 1=>simp at h1 h2;subst h1;subst h2;exact k
 | i+2=>simp at h1
theorem AQ {P:Program} {m:Mp} {A:AW} {w:World} (hs:jv m A w) {t:TypeId} {x x' ix Ty v:Value} {c:Bool} (h:uM P A t x ix c=some v)
 (hx:bG m x x') (PN:bG m ix Ty):∃v',bG m v v'∧∀w',(∀b,b<w.heap.size→w'.heap[b]? = w.heap[b]?)→(Instr.lookup t x' Ty c).run P w'=.ok v' w':=by
 unfold uM at h
 split at h<;>try(cases h;done)
 rename_i kt e hu
 split at h<;>try(cases h;done)
 rename_i d hd
 split at h<;>try(cases h;done)
 rename_i PL
 split at h<;>try(cases h;done)
 · cases hx
   obtain⟨h1,z,rfl,h2⟩:=sH h m
   refine⟨_,h1,fun w' _=>?_⟩
   simp only [Instr.lookup,Sem.run_bind,run_underlying hu,Result.andThen_ok,Sem.run_pure,jQ hd PL,run_findKey hd (l:=(#[]:Array MapEntry).toList) (k:=Ty) (a:=none) (show Instr.findNow d Ty [] 0=some none from rfl),h2]
 · rename_i r
   split at h<;>try(cases h;done)
   rename_i es own hg
   obtain⟨p,hp,jd,ax,tm,QR,hh,hl,tg⟩:=hs.Bq _ _ hg
   cases hx with
   | map hx=>
     rename_i r'
     obtain⟨p',Nc,rfl⟩:=hx
     rw [hp] at Nc
     injection Nc with Nc
     subst Nc
     have hb:p.block<w.heap.size:=(Array.getElem?_eq_some_iff.1 hh).1
     split at h
     · rename_i i v0 Nm
       obtain⟨i',hf,_⟩:=sK QR Nm
       obtain⟨r',h3,h4⟩:=jT PN tm jd.toList 0 _ (by simpa using hl) (fun j y f a b=>tg j y f a (by simpa using b)) hf
       rcases h4 with ⟨h4,_⟩|⟨j,v1,v',e',h5,rfl,h7,_,_⟩
       · cases h4
       · injection h5 with h5
         injection h5 with h5 h6
         subst h6
         injection h with h
         subst h
         refine⟨if c then .tuple #[v',.bool true] else v',?_,fun w' he=>?_⟩
         · cases c
           · exact h7
           · exact .Ux h7 (.bool true)
         · have R3:w'.heap[p.block]? = some (.map jd ax):=by rw [he _ hb];exact hh
           simp only [Instr.lookup,Sem.run_bind,run_underlying hu,Result.andThen_ok,Sem.run_pure,Go.MapKept.run_getObj_map R3,jQ hd PL,run_findKey hd h3]
     · rename_i Nm
       have hf:=ny QR Nm
       obtain⟨r',h3,h4⟩:=jT PN tm jd.toList 0 _ (by simpa using hl) (fun j y f a b=>tg j y f a (by simpa using b)) hf
       rcases h4 with ⟨_,rfl⟩|⟨j,v1,v',e',h5,_⟩
       · obtain⟨h1,z,rfl,h2⟩:=sH h m
         refine⟨_,h1,fun w' he=>?_⟩
         have R3:w'.heap[p.block]? = some (.map jd ax):=by rw [he _ hb];exact hh
         simp only [Instr.lookup,Sem.run_bind,run_underlying hu,Result.andThen_ok,Sem.run_pure,Go.MapKept.run_getObj_map R3,jQ hd PL,run_findKey hd h3,h2]
       · cases h5
     · cases h
def uL (P:Program) (A:AW) (t:TypeId) (x:Option Value):Option (Value×AW):=
 match x with
 | none=>some (.map (some A.next),A.alloc (.map [] true))
 | some (.int _ _)=>
   match P.underlying t with
   | some (.map _ _)=>some (.map (some A.next),A.alloc (.map [] true))
   | _=>none
 | _=>none
theorem yF {m:Mp} {A:AW} {w:World} (hs:jv m A w) :
 iG m A w (m.ext A.next ⟨w.heap.size,0,0,0⟩) (A.alloc (.map [] true)) (w.alloc (.map #[] 0)):=
 iG.LM hs (.map [] true) ⟨w.heap.size,0,0,0⟩ rfl rfl rfl (by simp) (fun b hb=>uv w _ b hb) (Nat.le_refl _)
  ⟨#[],0,[],List.Perm.nil,uw w _,rfl,fun k x e h=>by simp at h⟩
theorem zD {P:Program} {m:Mp} {A A1:AW} {w:World} (hs:jv m A w) {t:TypeId} {x x':Option Value} {v:Value} (h:uL P A t x=some (v,A1)) (hx:r8 m x x') :
 ∃v' w' m',(Instr.makeMap t x').run P w=.ok v' w'∧iG m A w m' A1 w'∧bG m' v v':=by
 unfold uL at h
 split at h
 · cases x' with
   | some _=>exact hx.elim
   | none=>
     simp only [Option.some.injEq,Prod.mk.injEq] at h
     obtain⟨rfl,rfl⟩:=h
     refine⟨.map (some w.heap.size),_,_,?_,yF hs,.map ⟨⟨w.heap.size,0,0,0⟩,by simp [Mp.ext],rfl⟩⟩
     simp only [Instr.makeMap,Sem.run_bind,Sem.run_pure,Result.andThen_ok,run_newObj]
     rfl
 · rename_i k n
   cases x' with
   | none=>exact hx.elim
   | some x'=>
     split at h<;>try(cases h;done)
     rename_i kt e hu
     simp only [Option.some.injEq,Prod.mk.injEq] at h
     obtain⟨rfl,rfl⟩:=h
     have Py:bG m (.int k n) x':=hx
     cases Py
     refine⟨.map (some w.heap.size),_,_,?_,yF hs,.map ⟨⟨w.heap.size,0,0,0⟩,by simp [Mp.ext],rfl⟩⟩
     simp only [Instr.makeMap,Sem.run_bind,run_underlying hu,Result.andThen_ok,Bf,Sem.run_pure,run_newObj]
     rfl
 · cases h
def fk (P:Program) (A:AW) (t:TypeId) (x k v:Value):Option AW:=
 match P.underlying t,x with
 | some (.map kt _),.map (some r)=>
   match P.underlying kt,A.bR r with
   | some d,some (.map es true)=>
     if kc d then
      match d6 d k es 0 with
      | some (some (i,_))=>some (A.set r (some (.map (es.set i (k,v)) true)))
      | some none=>some (A.set r (some (.map (es++[(k,v)]) true)))
      | none=>none
     else none
   | _,_=>none
 | _,_=>none
theorem pw {P:Program} {m:Mp} {A A1:AW} {w:World} (hs:jv m A w) {t:TypeId} {x x' k k' v v':Value} (h:fk P A t x k v=some A1)
 (hx:bG m x x') (hk:bG m k k') (hv:bG m v v'):∃w',(Instr.mapUpdate t x' k' v').run P w=.ok () w'∧iG m A w m A1 w':=by
 unfold fk at h
 split at h<;>try(cases h;done)
 rename_i kt e r hu
 split at h<;>try(cases h;done)
 rename_i d es hd hg
 split at h<;>try(cases h;done)
 rename_i PL
 obtain⟨p,hp,jd,ax,tm,QR,hh,hl,tg⟩:=hs.Bq _ _ hg
 have hb:p.block<w.heap.size:=(Array.getElem?_eq_some_iff.1 hh).1
 cases hx with
 | map hx=>
   rename_i r'
   obtain⟨p',Nc,rfl⟩:=hx
   rw [hp] at Nc
   injection Nc with Nc
   subst Nc
   have N9:∀(o:Obj) (j:Nat),j≠p.block→(w.heap.setIfInBounds p.block o)[j]? = w.heap[j]?:=fun o j hj=>by rw [Array.getElem?_setIfInBounds_ne (by omega)]
   have Ri:∀(o:Obj),(w.heap.setIfInBounds p.block o)[p.block]? = some o:=fun o=>by simp [hb]
   split at h
   · rename_i i0 v0 Nm
     injection h with h
     subst h
     obtain⟨i,hf,jB⟩:=sK QR Nm
     obtain⟨r',h3,h4⟩:=jT hk tm jd.toList 0 _ (by simpa using hl) (fun j y f a b=>tg j y f a (by simpa using b)) hf
     rcases h4 with ⟨h4,_⟩|⟨j,v1,X1,e',h5,rfl,h7,h8,h9⟩
     · cases h4
     · injection h5 with h5
       injection h5 with h5 h6
       simp only [Nat.zero_add] at h5 h3
       subst h5
       have hi:i<jd.size:=by
        have:=(List.getElem?_eq_some_iff.1 h8).1
        simpa using this
       have Xr:jd[i]? = some e':=by simpa using h8
       have Vp:(Instr.keyThatStays (((jd[i]?).map (·.key)).getD k') k').run P w=.ok k' w:=by
        simp [Xr,Instr.keyThatStays,Cq h9]
       refine⟨{ w with heap:=w.heap.setIfInBounds p.block (.map (jd.modify i fun e=>{ e with key:=k',val:=v' }) ax) },?_,?_⟩
       · simp only [Instr.mapUpdate,Sem.run_bind,run_underlying hu,Result.andThen_ok,Go.MapKept.run_getObj_map hh,jQ hd PL,run_findKey hd h3,Vp,Go.MapKept.run_setObj_map _ hh]
       · refine iG.qN hs hg rfl rfl hp (by simp) rfl rfl rfl ⟨_,ax,tm.set i (k,v),jB _,Ri _,by simp [hl],fun j y f a b=>?_⟩ (N9 _)
         by_cases kK:i=j
         · subst kK
           rw [List.getElem?_set_self (by omega)] at a
           injection a with a
           subst a
           simp [Array.getElem?_modify,Xr] at b
           subst b
           exact⟨hk,hv⟩
         · rw [List.getElem?_set_ne kK] at a
           rw [Array.getElem?_modify,if_neg kK] at b
           exact tg j y f a b
   · rename_i Nm
     injection h with h
     subst h
     have hf:=ny QR Nm
     obtain⟨r',h3,h4⟩:=jT hk tm jd.toList 0 _ (by simpa using hl) (fun j y f a b=>tg j y f a (by simpa using b)) hf
     rcases h4 with ⟨_,rfl⟩|⟨j,v1,X1,e',h5,_⟩
     · refine⟨{ w with heap:=w.heap.setIfInBounds p.block (.map (jd.push { key:=k',val:=v',born:=ax }) (ax+1)) },?_,?_⟩
       · simp only [Instr.mapUpdate,Sem.run_bind,run_underlying hu,Result.andThen_ok,Go.MapKept.run_getObj_map hh,jQ hd PL,run_findKey hd h3,Go.MapKept.run_setObj_map _ hh]
       · refine iG.qN hs hg rfl rfl hp (by simp) rfl rfl rfl ⟨_,ax+1,tm++[(k,v)],QR.append_right _,Ri _,by simp [hl],fun j y f a b=>?_⟩ (N9 _)
         rw [List.getElem?_append] at a
         rw [Array.getElem?_push] at b
         by_cases hj:j<tm.length
         · rw [if_pos hj] at a
           rw [if_neg (by omega)] at b
           exact tg j y f a b
         · rw [if_neg hj] at a
           have vC:j=tm.length:=by
            have:=(List.getElem?_eq_some_iff.1 a).1
            simp at this
            omega
           subst vC
           rw [if_pos hl] at b
           simp at a b
           subst a;subst b
           exact⟨hk,hv⟩
     · cases h5
   · cases h
theorem eJ.tS {v:Value} (h:eJ v=true):v.oneCell'=true:=by
 unfold eJ at h
 split at h<;>first|rfl|(cases h;done)
def Dp (P:Program) (A:AW) (t:TypeId) (x:Value):Option AW:=
 match P.underlying t,x with
 | some (.slice _),.slice none 0 0=>some A
 | some (.slice e),.slice (some p) n _=>
   if n=0 then some A else
   match P.info? e,A.bR p.block with
   | some i,some (.cells cs true unit)=>
     match i.zero with
     | some z=>
       if z.cells.size=i.size∧0<i.size∧z.cells.toList.all eJ∧p.off+n*i.size≤cs.length then
        some (A.set p.block (some (.cells (eI cs p.off (ep z.cells.toList n)) true unit)))
       else none
     | none=>none
   | _,_=>none
 | _,_=>none
theorem Do {P:Program} {m:Mp} {A A1:AW} {w:World} (hs:jv m A w) {t ty:TypeId} {x x':Value} (h:Dp P A t x=some A1) (hx:bG m x x') :
 ∃w',(Builtin.clear_ #[t] ty #[x']).run P w=.ok undef w'∧iG m A w m A1 w':=by
 unfold Dp at h
 split at h<;>try(cases h;done)
 · rename_i e hu
   cases hx
   injection h with h
   subst h
   exact⟨w,by simp [Builtin.clear_,run_underlying hu,undef],iG.refl hs⟩
 · rename_i e p n c hu
   split at h
   · rename_i h0
     subst h0
     injection h with h
     subst h
     cases hx
     exact⟨w,by simp [Builtin.clear_,run_underlying hu,undef],iG.refl hs⟩
   · rename_i h0
     split at h<;>try(cases h;done)
     rename_i i cs unit hi hg
     split at h<;>try(cases h;done)
     rename_i z hz
     split at h<;>try(cases h;done)
     rename_i hc
     obtain⟨mr,GK,gh,ng⟩:=hc
     injection h with h
     subst h
     cases hx with
     | slice hh h1 h2=>
       rename_i p' gt
       have ha:mM m p p':=by
        rcases hh with hh|hh
        · exact hh.Md
        · omega
       obtain⟨CO,EP,q,hm,hb,ho⟩:=ha
       have Lm:=ou z.cells n (by omega)
       have jp:=lH gh n
       have bW:(ep z.cells.toList n).length=n*i.size:=by rw [ic];simp [mr]
       obtain⟨w',hr,ev⟩:=mV (P:=P) (o:=p.off) hm (ep z.cells.toList n) (ep z.cells.toList n) 0 cs A w hs hg (.lh jp m)
        (fun v hv=>eJ.tS (List.all_eq_true.1 jp v hv)) (by omega)
       have ea:p'=⟨q.block,q.base+p.off,none⟩:=by rw [uO p' EP,hb,ho]
       subst ea
       refine⟨w',?_,by simpa using ev⟩
       have IZ:(zeroValue e).run P w=.ok z w:=by simp [zeroValue,typeInfo,hi,hz]
       obtain⟨n,rfl⟩:=Nat.exists_eq_succ_of_ne_zero h0
       have UV:(Builtin.zeroCells z.cells (n+1)).toList=ep z.cells.toList (n+1):=Lm
       simp only [Builtin.clear_,List.getElem?_toArray,List.getElem?_cons_zero,Sem.run_bind,run_underlying hu,Result.andThen_ok,IZ,UV,hr,Sem.run_pure]
       rfl
def lT (P:Program) (A:AW) (t u:TypeId) (s x:Value):Option (Value×AW):=
 match P.underlying t,P.underlying u,x with
 | some (.slice e),some (.int _),.int _ q=>
   match P.info? e with
   | some i=>
     match i.zero with
     | some z=>
       match fB A i.size s with
       | some (base,k,pO)=>
         if z.cells.size=i.size∧0<i.size∧z.cells.toList.all eJ∧0≤q∧k+q.toNat≤140737488355328∧(k+q.toNat)*i.bytes≤140737488355328 then
          if q.toNat=0 then some (s,A)
          else some (.slice (some ⟨A.next,0,none⟩) (k+q.toNat) (k+q.toNat),((match base with|some a=>A.set a.block none|none=>A)).alloc (.cells (pO++ep z.cells.toList q.toNat) true i.size))
         else none
       | none=>none
     | none=>none
   | none=>none
 | _,_,_=>none
theorem ve {P:Program} (w:World) (t tn ty e:TypeId) (i:TypeInfo) (kn kq:IntKind) (ht:P.underlying t=some (.slice e)) (TD:P.underlying tn=some (.int kn)) (hi:P.info? e=some i)
 (base:Option Addr) (n c:Nat) (hc:n≤c):(Builtin.append_ #[t,tn] ty #[.slice base n c,.int kq 0]).run P w=.ok (.slice base n c) w:=by
 have hw:IntKind.i64.wrap (0:Int)=0:=rfl
 cases base<;>simp [Builtin.append_,run_underlying ht,run_underlying TD,sizeOf,typeInfo,hi,asInt,asIntOf,hw,hc,storeCells]
theorem vg {P:Program} (w:World) (t tn ty e:TypeId) (i:TypeInfo) (z:Value) (kn kq:IntKind) (ht:P.underlying t=some (.slice e)) (TD:P.underlying tn=some (.int kn)) (hi:P.info? e=some i) (hz:i.zero=some z)
 (g o gS ma m:Nat) (iB:Array Value) (e':TypeId) (hg:w.heap[g]? = some (.cells iB e' (0,0))) (h0:0<m) (hs:0<i.size) (h48:m*i.bytes≤281474976710656) (ZD:(m:Int)≤9223372036854775807)
 (h1:∀u∈(Builtin.zeroCells z.cells m).toList,u.oneCell'=true) (yR:gS+m≤ma) (ng:o+gS*i.size+(Builtin.zeroCells z.cells m).toList.length≤iB.size) :
 (Builtin.append_ #[t,tn] ty #[.slice (some ⟨g,o,none⟩) gS ma,.int kq m]).run P w =
  .ok (.slice (some ⟨g,o,none⟩) (gS+m) ma) (w.setRow g (iB.toList.take (o+gS*i.size)++(Builtin.zeroCells z.cells m).toList++iB.toList.drop (o+gS*i.size+(Builtin.zeroCells z.cells m).toList.length)).toArray):=by
 have hk:m≠0:=by omega
 have hw:IntKind.i64.wrap (m:Int)=m:=aw (by omega) ZD
 have V0:¬(281474976710656<(m:Int)*(i.bytes:Int)):=by
  rw [←Int.natCast_mul]
  omega
 have ES:¬((m:Int)<0):=by omega
 have TJ:¬(m*i.size=0):=Nat.mul_ne_zero hk (by omega)
 have cX:=run_storeCells_at P g (o+gS*i.size) e' (Builtin.zeroCells z.cells m).toList 0 iB w hg (by simpa using ng) h1
 simp only [Nat.add_zero] at cX
 have ea:(⟨g,o,none⟩:Addr).add (gS*i.size)=⟨g,o+gS*i.size,none⟩:=nz _ _ rfl
 simp [Builtin.append_,run_underlying ht,run_underlying TD,sizeOf,typeInfo,zeroValue,hi,hz,asInt,asIntOf,hw,ES,TJ,V0,yR,ea,cX]
theorem AO {P:Program} {m:Mp} {A A1:AW} {w:World} (hs:jv m A w) {t u ty:TypeId} {s x s' x' v:Value} (h:lT P A t u s x=some (v,A1))
 (GJ:bG m s s') (U0:bG m x x') :
 ∃v' w' m',(Builtin.append_ #[t,u] ty #[s',x']).run P w=.ok v' w'∧iG m A w m' A1 w'∧bG m' v v':=by
 unfold lT at h
 split at h<;>try(cases h;done)
 rename_i e kn kq q hu QP
 cases U0
 split at h<;>try(cases h;done)
 rename_i i hi
 split at h<;>try(cases h;done)
 rename_i z hz
 split at h<;>try(cases h;done)
 rename_i base k pO ho
 split at h<;>try(cases h;done)
 rename_i ux
 obtain⟨mr,qF,gh,I3,JS,jX⟩:=ux
 obtain⟨n,rfl⟩:=Int.eq_ofNat_of_zero_le I3
 simp only [Int.toNat_natCast] at h JS jX
 by_cases BA:n=0
 · subst BA
   rw [if_pos rfl] at h
   simp only [Option.some.injEq,Prod.mk.injEq] at h
   obtain⟨rfl,rfl⟩:=h
   have FB:∃b' n' c',s'=.slice b' n' c'∧n'≤c':=by
    unfold fB at ho
    split at ho
    · cases GJ;exact⟨_,_,_,rfl,Nat.le_refl _⟩
    · cases GJ with
      | slice _ h1 h2=>exact⟨_,_,_,rfl,Nat.le_trans h1 h2⟩
    · cases ho
   obtain⟨b',n',c',rfl,eT⟩:=FB
   exact⟨_,w,m,ve w t u ty e i kn kq hu QP hi b' n' c' eT,iG.refl hs,GJ⟩
 · rw [if_neg BA] at h
   simp only [Option.some.injEq,Prod.mk.injEq] at h
   obtain⟨rfl,rfl⟩:=h
   have Lm:(Builtin.zeroCells z.cells n).toList=ep z.cells.toList n:=ou z.cells n (by omega)
   have jp:=lH gh n
   have lQ:∀v∈ep z.cells.toList n,v.oneCell'=true:=fun v hv=>eJ.tS (List.all_eq_true.1 jp v hv)
   have xj:n*i.bytes≤140737488355328:=Nat.le_trans (Nat.mul_le_mul_right _ (Nat.le_add_left n k)) jX
   have hl:(Builtin.zeroCells z.cells n).toList.length=n*i.size:=by rw [Lm,ic];simp [mr]
   refine wT hs (ts:=#[t,u]) (X:=.int kq n) (l':=(Builtin.zeroCells z.cells n).toList) (e:=e) (i:=i) (z:=z) mr BA JS jX lQ hl (by rw [Lm];exact .lh jp m) ho GJ ?_ ?_ ?_
   · intro _ _ hk
     have:=Go.Lib.run_append_nil_zeros (P:=P) w t u ty e i z kq kn hu QP hi hz n (by omega) qF (by omega) (by omega)
     simpa using this
   · intro b gS ma lo hk h1 h2 h3
     have hf:=run_firstCells_some (P:=P) w.drew i.size gS b gS ma lo h1 (by simpa using h2)
     have:=Go.Lib.run_append_grow_zeros (P:=P) w t u ty e i z kq kn hu QP hi hz (some b) gS ma lo hf n (by omega) qF h3 (by omega) (by omega) (growslice_fits h3 (by subst hk;exact jX))
     simpa using this
   · intro g o gS ma iB e' h1 h2 h3
     exact vg w t u ty e i z kn kq hu QP hi hz g o gS ma n iB e' h1 (by omega) qF (by omega) (by omega) (by rw [Lm];exact lQ) h2 h3
end Go.Stx
namespace Go.Stx
open Go
variable [Gl]
set_option linter.unusedSectionVars false
def mQ (P:Program) (eq:TypeId→Value→Value→Option Bool) (xs ys:Array Value):List Field→Option Bool
 | []=>some true
 | f::r=>
   if f.name = "_" then mQ P eq xs ys r else
   match apart P f.type xs f.offset,apart P f.type ys f.offset with
   | some a,some b=>
     match eq f.type a b,mQ P eq xs ys r with
     | some p,some q=>some (p && q)
     | _,_=>none
   | _,_=>none
def rp (P:Program) (eq:Value→Value→Option Bool) (e:TypeId) (size:Nat) (xs ys:Array Value):List Nat→Option Bool
 | []=>some true
 | i::r=>
   match apart P e xs (i*size),apart P e ys (i*size) with
   | some a,some b=>
     match eq a b,rp P eq e size xs ys r with
     | some p,some q=>some (p && q)
     | _,_=>none
   | _,_=>none
def qk (P:Program):Nat→TypeId→Value→Value→Option Bool
 | 0,_,_,_=>none
 | d+1,t,x,y=>
   match P.underlying t,x,y with
   | some .bool,.bool a,.bool b=>some (a == b)
   | some (.int _),.int k a,.int k' b=>if k=k' then some (decide (a=b)) else none
   | some .string,.string a,.string b=>some (a.toList == b.toList)
   | some (.struct fs),.agg xs,.agg ys=>if P.stoodInHeld t then none else mQ P (qk P d) xs ys fs.toList
   | some (.array n e),.agg xs,.agg ys=>
     match P.info? e with
     | some i=>rp P (qk P d e) e i.size xs ys (List.range n)
     | none=>none
   | _,_,_=>none
theorem ni {P:Program} {m:Mp} {n d:Nat} (ih:∀(t:TypeId) (x y x' y':Value) (r:Bool),qk P n t x y=some r→bG m x x'→bG m y y'→∀w,(Op.equalIn d t x' y').run P w=.ok r w)
 {xs ys Rc Rb:Array Value} (hx:bG m (.agg xs) (.agg Rc)) (hy:bG m (.agg ys) (.agg Rb)) (w:World):∀(fs:List Field) (r:Bool),mQ P (qk P n) xs ys fs=some r→
 (Op.eqFields d Rc Rb fs).run P w=.ok r w
 | [],r,h=>by injection h with h;subst h;rfl
 | f::fs,r,h=>by
   unfold mQ at h
   split at h
   · rename_i hn
     simp only [Op.eqFields,hn,ne_eq,not_true_eq_false,if_false]
     exact ni ih hx hy w fs r h
   · rename_i hn
     split at h<;>try(cases h;done)
     rename_i a b ha hb
     split at h<;>try(cases h;done)
     rename_i p q hp hq
     injection h with h
     subst h
     obtain⟨a',h1,h2⟩:=kg (P:=P) ha hx
     obtain⟨b',h3,h4⟩:=kg (P:=P) hb hy
     have h5:=ih _ _ _ _ _ _ hp h1 h3 w
     have h6:=ni ih hx hy w fs q hq
     simp only [Op.eqFields,ne_eq,hn,not_false_eq_true,if_true,Sem.run_bind,h2,h4,h5,Result.andThen_ok]
     cases p
     · rfl
     · simp only [Bool.not_true,Bool.false_eq_true,if_false,h6,Bool.true_and]
theorem sC {P:Program} {m:Mp} {d size:Nat} {e:TypeId} {eq:Value→Value→Option Bool}
 (ih:∀(x y x' y':Value) (r:Bool),eq x y=some r→bG m x x'→bG m y y'→∀w,(Op.equalIn d e x' y').run P w=.ok r w)
 {xs ys Rc Rb:Array Value} (hx:bG m (.agg xs) (.agg Rc)) (hy:bG m (.agg ys) (.agg Rb)) (w:World):∀(is:List Nat) (r:Bool),rp P eq e size xs ys is=some r→
 (Op.eqItems d e size Rc Rb is).run P w=.ok r w
 | [],r,h=>by injection h with h;subst h;simp [Op.eqItems]
 | i::is,r,h=>by
   unfold rp at h
   split at h<;>try(cases h;done)
   rename_i a b ha hb
   split at h<;>try(cases h;done)
   rename_i p q hp hq
   injection h with h
   subst h
   obtain⟨a',h1,h2⟩:=kg (P:=P) ha hx
   obtain⟨b',h3,h4⟩:=kg (P:=P) hb hy
   have h5:=ih _ _ _ _ _ hp h1 h3 w
   have h6:=sC ih hx hy w is q hq
   simp only [Op.eqItems,Sem.run_bind,h2,h4,h5,Result.andThen_ok]
   cases p
   · simp
   · simp [h6]
theorem mI {P:Program} {m:Mp}:∀(n d:Nat) (t:TypeId) (x y x' y':Value) (r:Bool),n≤d→qk P n t x y=some r→bG m x x'→bG m y y'→
 ∀w,(Op.equalIn d t x' y').run P w=.ok r w
 | 0,d,t,x,y,x',y',r,_,h,_,_,w=>by cases h
 | n+1,0,t,x,y,x',y',r,hd,h,hx,hy,w=>by omega
 | n+1,d+1,t,x,y,x',y',r,hd,h,hx,hy,w=>by
   unfold qk at h
   split at h<;>try(cases h;done)
   · rename_i hu
     cases hx;cases hy
     injection h with h
     subst h
     simp [Op.equalIn,run_underlying hu]
   · rename_i hu
     cases hx;cases hy
     split at h<;>try(cases h;done)
     rename_i hk
     injection h with h
     subst h;subst hk
     simp [Op.equalIn,run_underlying hu]
     rfl
   · rename_i hu
     cases hx;cases hy
     injection h with h
     subst h
     exact run_equalIn_string w d t _ _ hu
   · rename_i fs xs ys hu
     split at h<;>try(cases h;done)
     rename_i hp
     have H2:=hx
     have QJ:=hy
     cases hx;cases hy
     have Xe:P.fieldsOf t=fs:=by simp [Program.fieldsOf,hu]
     rw [run_equalIn_struct w d t _ _ (by rw [Xe];exact hu) (by simpa using hp),Xe]
     exact ni (fun t x y x' y' r h1 h2 h3 w=>mI n d t x y x' y' r (by omega) h1 h2 h3 w) H2 QJ w _ _ h
   · rename_i k e xs ys hu
     split at h<;>try(cases h;done)
     rename_i i hi
     have H2:=hx
     have QJ:=hy
     cases hx;cases hy
     rw [run_equalIn_array w d _ _ hu hi]
     have Zq:P.cellsOf e=i.size:=by simp [Program.cellsOf,hi]
     rw [Zq]
     exact sC (fun x y x' y' r h1 h2 h3 w=>mI n d e x y x' y' r (by omega) h1 h2 h3 w) H2 QJ w _ _ h
theorem mW {P:Program} {t:TypeId} {x y:Array TypeId} {b:Bool} (d:Nat) (fn:Fn) (p q:Array Value) (hu:P.underlying t=some (.func x y b)) (w:World) :
 (Op.equalIn (d+1) t (.func fn p q) .nilFunc).run P w=.ok false w:=by
 simp [Op.equalIn,run_underlying hu]
theorem mo {P:Program} {t:TypeId} {x y:Array TypeId} {b:Bool} (d:Nat) (hu:P.underlying t=some (.func x y b)) (w:World) :
 (Op.equalIn (d+1) t .nilFunc .nilFunc).run P w=.ok true w:=by
 simp [Op.equalIn,run_underlying hu]
def Ir (P:Program) (op:BinOp) (t:TypeId) (x y:Value):Option Value:=
 match x,y with
 | .agg xs,.agg ys=>
   if P.eqGuardType P.depth t then none else
   match op with
   | .eql=>(qk P 8 t (.agg xs) (.agg ys)).map .bool
   | .neq=>(qk P 8 t (.agg xs) (.agg ys)).map fun b=>.bool (!b)
   | _=>none
 | .slice a _ _,.slice none 0 0=>
   match op,P.underlying t with
   | .eql,some (.slice _)=>some (.bool a.isNone)
   | .neq,some (.slice _)=>some (.bool (!a.isNone))
   | _,_=>none
 | .map a,.map none=>
   match op,P.underlying t with
   | .eql,some (.map _ _)=>some (.bool a.isNone)
   | .neq,some (.map _ _)=>some (.bool (!a.isNone))
   | _,_=>none
 | .func _ _ _,.nilFunc=>
   match op,P.underlying t with
   | .eql,some (.func _ _ _)=>some (.bool false)
   | .neq,some (.func _ _ _)=>some (.bool true)
   | _,_=>none
 | .nilFunc,.nilFunc=>
   match op,P.underlying t with
   | .eql,some (.func _ _ _)=>some (.bool true)
   | .neq,some (.func _ _ _)=>some (.bool false)
   | _,_=>none
 | x,y=>NW P op t x y
theorem w6 {P:Program} {op:BinOp} {t:TypeId} {x y v:Value} (h:Ir P op t x y=some v) {m:Mp} {x' y':Value} (hx:bG m x x') (hy:bG m y y') (xo yo:Operand) (w:World) :
 (do eqGuard op t xo yo x' y';binOp op t x' y':Sem Value).run P w=.ok v w∧bG m v v:=by
 unfold Ir at h
 split at h
 · rename_i xs ys
   split at h<;>try(cases h;done)
   rename_i hg
   have H2:=hx
   have QJ:=hy
   cases hx;cases hy
   have H9:P.eqGuardType P.depth t=false:=by simpa using hg
   rw [Sem.run_bind,run_eqGuard_agg w op t xo yo _ _ H9,Result.andThen_ok]
   cases op<;>simp only at h<;>(try (cases h;done))
   · obtain⟨r,h1,rfl⟩:=Option.map_eq_some_iff.1 h
     exact⟨by rw [run_eql_struct,mI 8 10000 t _ _ _ _ r (by omega) h1 H2 QJ w];rfl,by constructor⟩
   · obtain⟨r,h1,rfl⟩:=Option.map_eq_some_iff.1 h
     exact⟨by rw [run_neq_struct,mI 8 10000 t _ _ _ _ r (by omega) h1 H2 QJ w];rfl,by constructor⟩
 · rename_i a n c
   have key:∀(a':Option Addr) (n' c':Nat) (e:TypeId),P.underlying t=some (.slice e)→(Op.equal t (.slice a' n' c') (.slice none 0 0)).run P w=.ok a'.isNone w:=fun a' n' c' e hu=>run_equal_slice_nil w t e a' n' c' hu
   have Py:∃a' n' c',x'=.slice a' n' c'∧a'.isNone=a.isNone:=by
    cases hx<;>exact⟨_,_,_,rfl,rfl⟩
   obtain⟨a',n',c',rfl,ha⟩:=Py
   cases hy
   split at h
   · rename_i hu;injection h with h;subst h;exact⟨by simp [eqGuard,binOp,key _ _ _ _ hu,ha],by constructor⟩
   · rename_i hu;injection h with h;subst h;exact⟨by simp [eqGuard,binOp,key _ _ _ _ hu,ha],by constructor⟩
   · cases h
 · rename_i a
   have key:∀(a':Option Nat) (k e:TypeId),P.underlying t=some (.map k e)→(Op.equal t (.map a') (.map none)).run P w=.ok a'.isNone w:=fun a' k e hu=>run_equal_map_nil w t k e a' hu
   have Py:∃a',x'=.map a'∧a'.isNone=a.isNone:=by
    cases hx<;>exact⟨_,rfl,rfl⟩
   obtain⟨a',rfl,ha⟩:=Py
   cases hy
   split at h
   · rename_i hu;injection h with h;subst h;exact⟨by simp [eqGuard,binOp,key _ _ _ hu,ha],by constructor⟩
   · rename_i hu;injection h with h;subst h;exact⟨by simp [eqGuard,binOp,key _ _ _ hu,ha],by constructor⟩
   · cases h
 · cases hy
   cases hx
   split at h
   · rename_i hu;injection h with h;subst h;exact⟨by simp [eqGuard,binOp,fi (mW _ _ _ _ hu w)],by constructor⟩
   · rename_i hu;injection h with h;subst h;exact⟨by simp [eqGuard,binOp,fi (mW _ _ _ _ hu w)],by constructor⟩
   · cases h
 · cases hy
   cases hx
   split at h
   · rename_i hu;injection h with h;subst h;exact⟨by simp [eqGuard,binOp,fi (mo _ hu w)],by constructor⟩
   · rename_i hu;injection h with h;subst h;exact⟨by simp [eqGuard,binOp,fi (mo _ hu w)],by constructor⟩
   · cases h
 · exact Ht h hx hy xo yo w
end Go.Stx
namespace Go.Stx
open Go
variable [Gl]
set_option linter.unusedSectionVars false
abbrev Fr:=Nat→Value
def BW (a:Fr) (i:Nat) (v:Value):Fr:=fun j=>if j=i then v else a j
def eb (a:Fr) (d:Option Tmp) (v:Value):Fr:=
 match d with
 | some i=>BW a i v
 | none=>a
def ip (a:Fr):Operand→Value
 | .tmp t=>a t
 | .const v=>v
 | .global g=>.pointer (some ⟨g,0,none⟩)
 | .func f=>.func (.func f) #[] #[]
def JY (w w':World):Prop:=∀b,b<w.heap.size→w'.heap[b]? = w.heap[b]?
theorem JY.refl (w:World):JY w w:=fun _ _=>rfl
theorem JY.cell {w w':World} (h:JY w w') {a:Addr} {v:Value} (hc:w.cell? a=some v):w'.cell? a=some v:=by
 have hb:=World.block_lt_of_cell? w a hc
 rw [World.cell?_of_block (h _ hb)]
 exact hc
theorem JY.zO {m:Mp} {A:AW} {w w':World} (h:JY w w') (hs:jv m A w):jv m A w':=by
 refine⟨fun i o hi=>?_,hs.inj,hs.pn,hs.DJ,fun b x hb=>?_,hs.uj,hs.rY⟩
 rotate_left
 · have h1:=hs.laid b x hb
   rw [h b (Array.getElem?_eq_some_iff.1 h1).1];exact h1
 obtain⟨p,h1,h2⟩:=hs.Bq i o hi
 have hb:=hs.iD hi h1
 exact⟨p,h1,h2.heap (h _ hb)⟩
theorem JB {P:Program} {m:Mp} {A:AW} {w:World} (hs:jv m A w) {t:TypeId} {p p':Addr} {v:Value} (h:sJ P A t p=some v) (hp:mM m p p') :
 ∃v',bG m v v'∧∀w',JY w w'→(loadVar t p').run P w'=.ok v' w':=by
 unfold sJ at h
 split at h
 · rename_i cs hr ha
   obtain⟨v',h1,h2⟩:=uI hs hp hr (k:=0) (by simpa using h)
   have e:p'.add 0=p':=by unfold Addr.add;simp
   rw [e] at h1
   refine⟨v',h2,fun w' hx=>?_⟩
   simp only [loadVar,Sem.run_bind,mN ha,Result.andThen_ok,Bool.false_eq_true,if_false,run_load,hx.cell h1]
 · rename_i cs hr ha
   split at h
   · rename_i i hi
     split at h
     · rename_i eT
       injection h with h
       subst h
       obtain⟨l',hl,h1,h2⟩:=tI hs hp hr i.size eT
       refine⟨.agg l'.toArray,.nR h1,fun w' hx=>?_⟩
       have h3:=run_loadCells_list (P:=P) w' p' l' (fun j v hv=>hx.cell (h2 j v hv))
       rw [hl] at h3
       simp only [loadVar,Sem.run_bind,mN ha,Result.andThen_ok,if_true,fh hi,h3,Sem.run_pure]
     · cases h
   · cases h
 · cases h
def Hr (P:Program) (op:BinOp) (t:TypeId) (x:Value):Option Value:=
 match P.underlying t,op,x with
 | some (.interface _),.eql,.nilIface=>some (.bool true)
 | some (.interface _),.neq,.nilIface=>some (.bool false)
 | some (.interface _),.eql,.iface _ _=>some (.bool false)
 | some (.interface _),.neq,.iface _ _=>some (.bool true)
 | _,_,_=>none
theorem k6 {P:Program} {t:TypeId} {ms:Array (String×TypeId)} (d:Nat) (hu:P.underlying t=some (.interface ms)) (w:World) :
 (Op.equalIn (d+1) t .nilIface .nilIface).run P w=.ok true w:=by simp [Op.equalIn,run_underlying hu]
theorem k7 {P:Program} {t u:TypeId} {v:Value} {ms:Array (String×TypeId)} (d:Nat) (hu:P.underlying t=some (.interface ms)) (w:World) :
 (Op.equalIn (d+1) t (.iface u v) .nilIface).run P w=.ok false w:=by simp [Op.equalIn,run_underlying hu]
theorem uN {P:Program} {m:Mp} {op:BinOp} {t:TypeId} {x x' v:Value} (h:Hr P op t x=some v) (hx:bG m x x') (xo:Operand) (w:World) :
 (do eqGuard op t xo (.const .nilIface) x' .nilIface;binOp op t x' .nilIface:Sem Value).run P w=.ok v w∧bG m v v:=by
 unfold Hr at h
 split at h
 · rename_i hu;injection h with h;subst h;cases hx
   exact⟨by rw [eqGuard_nil_constR];simp [binOp,fi (k6 _ hu w)],by constructor⟩
 · rename_i hu;injection h with h;subst h;cases hx
   exact⟨by rw [eqGuard_nil_constR];simp [binOp,fi (k6 _ hu w)],by constructor⟩
 · rename_i hu;injection h with h;subst h;cases hx
   exact⟨by simp [eqGuard,binOp,fi (k7 _ hu w)],by constructor⟩
 · rename_i hu;injection h with h;subst h;cases hx
   exact⟨by simp [eqGuard,binOp,fi (k7 _ hu w)],by constructor⟩
 · cases h
def NJ:List Value→Option (List Int)
 | []=>some []
 | .int .u8 n::l=>(NJ l).map (n::·)
 | _::_=>none
theorem NI (l:List Value):∀(xs:List Int),NJ l=some xs→l=xs.map (Value.int .u8):=by
 induction l with
 | nil=>intro xs h;injection h with h;subst h;rfl
 | cons v l ih=>
   intro xs h
   unfold NJ at h
   split at h
   · rename_i e;cases e
   · rename_i n l' e
     injection e with e1 e2
     subst e1;subst e2
     obtain⟨ys,h1,rfl⟩:=Option.map_eq_some_iff.1 h
     rw [ih ys h1];rfl
   · cases h
def Dt (P:Program) (A:AW) (s d:TypeId) (x:Value):Option Value:=
 match P.underlying s,P.underlying d,x with
 | some (.slice e),some .string,.slice (some p) n _=>
   match P.underlying e,A.cK p.block with
   | some (.int .u8),some cK=>
     if p.off+n≤cK.length then
      match NJ ((cK.drop p.off).take n) with
      | some xs=>some (.string (strOfNums xs))
      | none=>none
     else none
   | _,_=>none
 | _,_,_=>none
theorem Ds {P:Program} {m:Mp} {A:AW} {w:World} (hs:jv m A w) {s d:TypeId} {x x' v:Value} (h:Dt P A s d x=some v) (hx:bG m x x') :
 ∃v',bG m v v'∧∀w',JY w w'→(convert s d x').run P w'=.ok v' w':=by
 unfold Dt at h
 split at h
 · rename_i e p n c FB FF
   split at h
   · rename_i cK he dG
     split at h
     · rename_i eT
       split at h
       · rename_i xs Yw
         injection h with h;subst h
         have e1:=NI _ _ Yw
         have bW:xs.length=n:=by
          have:=congrArg List.length e1
          simp at this;omega
         cases hx with
         | slice hr h1 h2=>
           rename_i a' gt
           refine⟨_,by constructor,fun w' hw=>?_⟩
           rcases hr with hr|⟨rfl,rfl,_⟩
           · obtain⟨l',h3,h4,h5⟩:=tI hs hr.Md dG n eT
             have ha:=uO a' hr.2.1
             rw [ha]
             refine run_convert_bytes_arg w' s e FB he a'.block a'.off n gt xs bW (fun i hi=>?_) d FF
             have hv:=h4.2 i (.int .u8 (xs.getD i 0)) (l'[i]'(by omega)) (by rw [e1];simp [List.getD,List.getElem?_eq_getElem (show i<xs.length by omega)]) (List.getElem?_eq_getElem (by omega))
             have h6:=h5 i _ (List.getElem?_eq_getElem (by omega))
             rw [nz _ _ hr.2.1] at h6
             generalize l'[i]=z at hv h6
             cases hv
             exact hw.cell h6
           · have:xs=[]:=List.eq_nil_of_length_eq_zero (by omega)
             subst this
             have ha:(convert s d (.slice (some a') 0 0)).run P w'=.ok (.string (strOfNums [])) w':=by
              rw [run_convert_bytes_string w' s d e _ 0 0 FB he FF,run_bytesToString w' _ 0 0 [] rfl]
              rfl
             exact ha
       · cases h
     · cases h
   · cases h
 · cases h
def oM (r:Operand→Value) (ps:Array (Nat×Operand)):List (Nat×Value):=ps.toList.map fun x=>(x.1,r x.2)
def aq (P:Program) (A:AW) (r:Operand→Value):Op→Option Value
 | .move x=>some (r x)
 | .assign x=>some (r x)
 | .pick c x y=>
   match r c with
   | .bool b=>some (if b then r x else r y)
   | _=>none
 | .build t ps=>Dv P t (oM r ps)
 | .load t x=>
   match r x with
   | .pointer (some p)=>sJ P A t p
   | _=>none
 | .nilCheck x=>
   match r x with
   | .pointer (some p)=>some (.pointer (some p))
   | _=>none
 | .binOp op t x y _=>
   match y,r y with
   | .const .nilIface,.nilIface=>Hr P op t (r x)
   | _,_=>Ir P op t (r x) (r y)
 | .unOp op _ x=>T8 op (r x)
 | .convert s d x=>
   match Iq P s d (r x) with
   | some v=>some v
   | none=>Dt P A s d (r x)
 | .makeInterface t x=>qh P t (r x)
 | .slice t x lo hi mx=>
   match mx with
   | none=>tu P A t (r x) (lo.map r) (hi.map r) none
   | some q=>xM P t (r x) (lo.map r) (hi.map r) (r q)
 | .lookup t x ix c=>uM P A t (r x) (r ix) c
 | .fieldAddr s x f=>qj P s (r x) f
 | .field t x f=>Dk P t (r x) f
 | .indexAddr t x ix=>qi P t (r x) (r ix)
 | .index t x ix=>Di P t (r x) (r ix)
 | .extract t i=>
   match r t with
   | .tuple vs=>vs[i]?
   | _=>none
 | .makeFunc fn fs cs=>some (.func fn (fs.map r) (cs.map r))
 | .call c=>
   match c.callee,c.args.toList,c.argTypes.toList with
   | .builtin .len,[x],[t]=>kT P t (r x)
   | .builtin .min,[x,y],_=>Mf false [r x,r y]
   | .builtin .max,[x,y],_=>Mf true [r x,r y]
   | _,_,_=>none
 | _=>none
theorem r8.map {m:Mp} {r r':Operand→Value} (x:Option Operand) (h:∀y,x=some y→bG m (r y) (r' y)):r8 m (x.map r) (x.map r'):=by
 cases x with
 | none=>trivial
 | some y=>exact h y rfl
theorem NN {α:Type} {a:Array α} {x y:α} (h:a.toList=[x,y]):a = #[x,y]:=by
 apply Array.ext'
 exact h
theorem NO {α:Type} {a:Array α} {x:α} (h:a.toList=[x]):a = #[x]:=by
 apply Array.ext'
 exact h
theorem Me {P:Program} {m:Mp} {A:AW} {w:World} (hs:jv m A w) {o:Oper} {r r':Operand→Value} {v:Value} (hr:∀x∈o.op.operands,bG m (r x) (r' x))
 (h:aq P A r o.op=some v):∃v',bG m v v'∧∀w',JY w w'→(execOp r' o).run P w'=.ok (.value v') w':=by
 obtain⟨dst,op,ty,Ro,after,guard⟩:=o
 have pi:∀{s:Sem Value} {v':Value} {w':World},s.run P w'=.ok v' w'→(do pure (.value (←s)):Sem Next).run P w'=.ok (.value v') w':=fun {s v' w'} e=>by
  simp only [Sem.run_bind,e,Result.andThen_ok,Sem.run_pure]
 cases op<;>simp only [aq] at h<;>(try (cases h;done))
 case move x=>
  injection h with h;subst h
  exact⟨r' x,hr x (by simp [Op.operands]),fun w' _=>by simp [execOp]⟩
 case assign x=>
  injection h with h;subst h
  exact⟨r' x,hr x (by simp [Op.operands]),fun w' _=>by simp [execOp]⟩
 case pick c x y=>
  have hc:=hr c (by simp [Op.operands])
  split at h
  · rename_i b hb
    rw [hb] at hc
    injection h with h;subst h
    generalize sy:r' c=c' at hc
    cases hc
    refine⟨if b then r' x else r' y,?_,fun w' _=>by simp [execOp,sy,asBool]⟩
    cases b
    · exact hr y (by simp [Op.operands])
    · exact hr x (by simp [Op.operands])
  · cases h
 case build t ps=>
  obtain⟨v',h1,h2⟩:=Du (P:=P) (m:=m) (fI:=ps.map fun(i,x)=>(i,r' x)) h (by simp [oM]) (fun k p p' h1 h2=>by
   simp only [oM,List.getElem?_map,Array.getElem?_toList,Option.map_eq_some_iff,Array.getElem?_map] at h1 h2
   obtain⟨q,h3,rfl⟩:=h1
   obtain⟨q',h4,rfl⟩:=h2
   rw [h3] at h4
   injection h4 with h4
   subst h4
   exact⟨rfl,hr q.2 (by simp only [Op.operands,List.mem_toArray,List.mem_map];exact⟨q,Array.mem_toList_iff.2 (Array.mem_of_getElem? h3),rfl⟩)⟩)
  exact⟨v',h1,fun w' _=>pi (h2 w')⟩
 case load t x=>
  have hx:=hr x (by simp [Op.operands])
  split at h
  · rename_i p hp
    rw [hp] at hx
    generalize sy:r' x=x' at hx
    cases hx with
    | Ef ha=>
      obtain⟨v',h1,h2⟩:=JB (P:=P) hs h ha
      exact⟨v',h1,fun w' hw=>by simp [execOp,sy,Instr.loadAt,Instr.sureAddr,h2 w' hw]⟩
  · cases h
 case nilCheck x=>
  have hx:=hr x (by simp [Op.operands])
  split at h
  · rename_i p hp
    rw [hp] at hx
    generalize sy:r' x=x' at hx
    injection h with h;subst h
    cases hx with
    | Ef ha=>exact⟨_,.Ef ha,fun w' hw=>by simp [execOp,sy]⟩
  · cases h
 case binOp op t x y ty'=>
  have hx:=hr x (by simp [Op.operands])
  have hy:=hr y (by simp [Op.operands])
  split at h
  · rename_i e
    rw [e] at hy
    have Pw:r' (.const .nilIface)=.nilIface:=by generalize r' (.const .nilIface)=z at hy;cases hy;rfl
    exact⟨v,(uN h hx x w).2,fun w' _=>pi (by rw [Pw];exact(uN h hx x w').1)⟩
  · exact⟨v,(w6 h hx hy x x w).2,fun w' _=>pi (w6 h hx hy x _ w').1⟩
 case unOp op t x=>
  have hx:=hr x (by simp [Op.operands])
  exact⟨v,(BL (P:=P) h hx w).2,fun w' _=>pi (BL h hx w').1⟩
 case convert s d x=>
  have hx:=hr x (by simp [Op.operands])
  split at h
  · rename_i v0 h0
    injection h with h;subst h
    exact⟨v0,(wX h0 hx w).2,fun w' _=>pi (wX h0 hx w').1⟩
  · obtain⟨v',h1,h2⟩:=Ds hs h hx
    exact⟨v',h1,fun w' hw=>pi (h2 w' hw)⟩
 case makeInterface t x=>
  obtain⟨v',h1,h2⟩:=vR h (hr x (by simp [Op.operands]))
  exact⟨v',h1,fun w' _=>pi (h2 w')⟩
 case slice t x lo hi mx=>
  cases mx with
  | none=>
    obtain⟨v',h1,h2⟩:=Dc hs (Oe:=none) h (hr x (by simp [Op.operands])) (r8.map (r':=r') lo fun y e=>hr y (by simp [Op.operands,e])) (r8.map (r':=r') hi fun y e=>hr y (by simp [Op.operands,e])) trivial
    exact⟨v',h1,fun w' _=>pi (h2 w')⟩
  | some q=>
    obtain⟨v',h1,h2⟩:=AM h (hr x (by simp [Op.operands])) (r8.map (r':=r') lo fun y e=>hr y (by simp [Op.operands,e])) (r8.map (r':=r') hi fun y e=>hr y (by simp [Op.operands,e])) (hr q (by simp [Op.operands]))
    exact⟨v',h1,fun w' _=>pi (h2 w')⟩
 case lookup t x ix c=>
  obtain⟨v',h1,h2⟩:=AQ (P:=P) hs h (hr x (by simp [Op.operands])) (hr ix (by simp [Op.operands]))
  exact⟨v',h1,fun w' hw=>pi (h2 w' hw)⟩
 case fieldAddr s x f=>
  obtain⟨v',h1,h2⟩:=vV h (hr x (by simp [Op.operands]))
  exact⟨v',h1,fun w' _=>pi (h2 w')⟩
 case field t x f=>
  obtain⟨v',h1,h2⟩:=Dj h (hr x (by simp [Op.operands]))
  exact⟨v',h1,fun w' _=>pi (h2 w')⟩
 case indexAddr t x ix=>
  obtain⟨v',h1,h2⟩:=vU h (hr x (by simp [Op.operands])) (hr ix (by simp [Op.operands]))
  exact⟨v',h1,fun w' _=>pi (h2 w')⟩
 case index t x ix=>
  obtain⟨v',h1,h2⟩:=Dh h (hr x (by simp [Op.operands])) (hr ix (by simp [Op.operands]))
  exact⟨v',h1,fun w' _=>pi (h2 w')⟩
 case extract t i=>
  have hx:=hr t (by simp [Op.operands])
  split at h
  · rename_i vs hp
    rw [hp] at hx
    generalize sy:r' t=x' at hx
    cases hx with
    | tuple qF h1=>
      rename_i BV
      have dO:i<BV.size:=by rw [←qF];exact(Array.getElem?_eq_some_iff.1 h).1
      have e:=Array.getElem?_eq_getElem dO
      exact⟨BV[i],h1 i v _ h e,fun w' _=>by simp [execOp,sy,Instr.extract,e]⟩
  · cases h
 case makeFunc fn fs cs=>
  injection h with h;subst h
  refine⟨.func fn (fs.map r') (cs.map r'),?_,fun w' _=>by simp [execOp,Instr.makeFunc]⟩
  refine .func fn (by simp) (by simp) (fun i v v' h1 h2=>?_) (fun i v v' h1 h2=>?_)
  · simp only [Array.getElem?_map,Option.map_eq_some_iff] at h1 h2
    obtain⟨q,h3,rfl⟩:=h1
    obtain⟨q',h4,rfl⟩:=h2
    rw [h3] at h4
    injection h4 with h4
    subst h4
    exact hr q (by simp only [Op.operands,Array.mem_append];exact .inl (Array.mem_of_getElem? h3))
  · simp only [Array.getElem?_map,Option.map_eq_some_iff] at h1 h2
    obtain⟨q,h3,rfl⟩:=h1
    obtain⟨q',h4,rfl⟩:=h2
    rw [h3] at h4
    injection h4 with h4
    subst h4
    exact hr q (by simp only [Op.operands,Array.mem_append];exact .inr (Array.mem_of_getElem? h3))
 case call c=>
  obtain⟨callee,args,argTypes⟩:=c
  split at h
  · rename_i x t h1 h2 h3
    simp only at h1 h2 h3
    subst h1
    have e2:=NO h2
    have e3:=NO h3
    subst e2;subst e3
    have hx:=hr x (by simp [Op.operands,Call.operands])
    have hl:=Hq (P:=P) (ty:=ty) h hx
    refine⟨v,hl.1,fun w' _=>?_⟩
    have:=hl.2 w'
    simp [execOp,resolve,invoke,builtin,this]
  · rename_i x y h1 h2
    simp only at h1 h2
    subst h1
    have e2:=NN h2
    subst e2
    have hx:=hr x (by simp [Op.operands,Call.operands])
    have hy:=hr y (by simp [Op.operands,Call.operands])
    have hl:=zB (P:=P) (ts:=argTypes) (ty:=ty) (l':=#[r' x,r' y]) h (.cons hx (.cons hy .nil))
    refine⟨v,hl.1,fun w' _=>?_⟩
    have:=hl.2 w'
    simp only [Bool.false_eq_true,if_false] at this
    simp [execOp,resolve,invoke,builtin,this]
  · rename_i x y h1 h2
    simp only at h1 h2
    subst h1
    have e2:=NN h2
    subst e2
    have hx:=hr x (by simp [Op.operands,Call.operands])
    have hy:=hr y (by simp [Op.operands,Call.operands])
    have hl:=zB (P:=P) (ts:=argTypes) (ty:=ty) (l':=#[r' x,r' y]) h (.cons hx (.cons hy .nil))
    refine⟨v,hl.1,fun w' _=>?_⟩
    have:=hl.2 w'
    simp only [if_true] at this
    simp [execOp,resolve,invoke,builtin,this]
  · cases h
def ae (P:Program) (A:AW) (r:Operand→Value):Op→Option (Value×AW)
 | .alloc t=>Dx P A t
 | .box _ x=>some (Mk A (r x))
 | .buildSlice t len ps=>ox P A t len (oM r ps)
 | .store t x y=>
   match r x with
   | .pointer (some p)=>
     match ah P A t p (r y) with
     | some A1=>some (undef,A1)
     | none=>none
   | _=>none
 | .makeSlice t l c=>mv P A t (r l) (r c)
 | .makeMap t x=>uL P A t (x.map r)
 | .mapUpdate t x k v=>
   match fk P A t (r x) (r k) (r v) with
   | some A1=>some (undef,A1)
   | none=>none
 | .insert t x k v=>
   match fk P A t (r x) (r k) (r v) with
   | some A1=>some (undef,A1)
   | none=>none
 | .call c=>
   match c.callee,c.args.toList,c.argTypes.toList with
   | .builtin .append,[s,x],[t,u]=>if t=u then fC P A t u (r s) (r x) else lT P A t u (r s) (r x)
   | .builtin .clear,[x],[t]=>
     match Dp P A t (r x) with
     | some A1=>some (undef,A1)
     | none=>none
   | _,_,_=>none
 | _=>none
def SE (P:Program) (r':Operand→Value) (o:Oper) (w w':World) (v':Value):Prop:=
 (execOp r' o).run P w=.ok (.value v') w'∨((execOp r' o).run P w=.ok .skip w'∧v'=undef)
theorem Mh {P:Program} {m:Mp} {A A1:AW} {w:World} (hs:jv m A w) {o:Oper} {r r':Operand→Value} {v:Value} (hr:∀x∈o.op.operands,bG m (r x) (r' x))
 (h:ae P A r o.op=some (v,A1)):∃v' w' m',SE P r' o w w' v'∧iG m A w m' A1 w'∧bG m' v v':=by
 obtain⟨dst,op,ty,Ro,after,guard⟩:=o
 have pi:∀{s:Sem Value} {v':Value} {w w':World},s.run P w=.ok v' w'→(do pure (.value (←s)):Sem Next).run P w=.ok (.value v') w':=fun {s v' w w'} e=>by
  simp only [Sem.run_bind,e,Result.andThen_ok,Sem.run_pure]
 cases op<;>simp only [ae] at h<;>(try (cases h;done))
 case alloc t=>
  obtain⟨v',w',m',h1,h2,h3⟩:=Dw hs h
  exact⟨v',w',m',.inl (pi h1),h2,h3⟩
 case box t x=>
  injection h with h
  obtain⟨v',w',m',h1,h2,h3⟩:=zJ (P:=P) hs t (hr x (by simp [Op.operands]))
  rw [h] at h2 h3
  exact⟨v',w',m',.inl (pi h1),h2,h3⟩
 case buildSlice t len ps=>
  obtain⟨v',w',m',h1,h2,h3⟩:=uQ (P:=P) (m:=m) hs (fI:=ps.map fun(i,x)=>(i,r' x)) h (by simp [oM]) (fun k p p' h1 h2=>by
   simp only [oM,List.getElem?_map,Array.getElem?_toList,Option.map_eq_some_iff,Array.getElem?_map] at h1 h2
   obtain⟨q,h3,rfl⟩:=h1
   obtain⟨q',h4,rfl⟩:=h2
   rw [h3] at h4
   injection h4 with h4
   subst h4
   exact⟨rfl,hr q.2 (by simp only [Op.operands,List.mem_toArray,List.mem_map];exact⟨q,Array.mem_toList_iff.2 (Array.mem_of_getElem? h3),rfl⟩)⟩)
  exact⟨v',w',m',.inl (pi h1),h2,h3⟩
 case store t x y=>
  have hx:=hr x (by simp [Op.operands])
  split at h
  · rename_i p hp
    rw [hp] at hx
    generalize sy:r' x=x' at hx
    cases hx with
    | Ef ha=>
      rename_i p'
      split at h
      · rename_i A2 cX
        simp only [Option.some.injEq,Prod.mk.injEq] at h
        obtain⟨rfl,rfl⟩:=h
        obtain⟨w',h1,h2⟩:=Db (P:=P) hs cX ha (hr y (by simp [Op.operands]))
        refine⟨undef,w',m,.inr ⟨?_,rfl⟩,h2,.tuple rfl (fun i v v' h=>by simp at h)⟩
        simp only [execOp,Instr.storeAt,sy,Instr.sureAddr,Sem.run_bind,Sem.run_pure,Result.andThen_ok,h1]
      · cases h
  · cases h
 case makeSlice t l c=>
  obtain⟨v',w',m',h1,h2,h3⟩:=Fm hs h (hr l (by simp [Op.operands])) (hr c (by simp [Op.operands]))
  exact⟨v',w',m',.inl (pi h1),h2,h3⟩
 case makeMap t x=>
  obtain⟨v',w',m',h1,h2,h3⟩:=zD (P:=P) hs h (r8.map (r':=r') x fun y e=>hr y (by simp [Op.operands,e]))
  exact⟨v',w',m',.inl (pi h1),h2,h3⟩
 case mapUpdate t x k y=>
  split at h
  · rename_i A2 cX
    simp only [Option.some.injEq,Prod.mk.injEq] at h
    obtain⟨rfl,rfl⟩:=h
    obtain⟨w',h1,h2⟩:=pw (P:=P) hs cX (hr x (by simp [Op.operands])) (hr k (by simp [Op.operands])) (hr y (by simp [Op.operands]))
    refine⟨undef,w',m,.inr ⟨?_,rfl⟩,h2,.tuple rfl (fun i v v' h=>by simp at h)⟩
    simp only [execOp,Sem.run_bind,Sem.run_pure,Result.andThen_ok,h1]
  · cases h
 case insert t x k y=>
  split at h
  · rename_i A2 cX
    simp only [Option.some.injEq,Prod.mk.injEq] at h
    obtain⟨rfl,rfl⟩:=h
    obtain⟨w',h1,h2⟩:=pw (P:=P) hs cX (hr x (by simp [Op.operands])) (hr k (by simp [Op.operands])) (hr y (by simp [Op.operands]))
    refine⟨undef,w',m,.inr ⟨?_,rfl⟩,h2,.tuple rfl (fun i v v' h=>by simp at h)⟩
    simp only [execOp,Sem.run_bind,Sem.run_pure,Result.andThen_ok,h1]
  · cases h
 case call c=>
  obtain⟨callee,args,argTypes⟩:=c
  split at h
  rotate_left
  · rename_i x t h1 h2 h3
    simp only at h1 h2 h3
    subst h1
    have e2:=NO h2
    have e3:=NO h3
    subst e2;subst e3
    split at h<;>try(cases h;done)
    rename_i A2 cX
    simp only [Option.some.injEq,Prod.mk.injEq] at h
    obtain⟨rfl,rfl⟩:=h
    obtain⟨w',h1,h2⟩:=Do (P:=P) (ty:=ty) hs cX (hr x (by simp [Op.operands,Call.operands]))
    refine⟨undef,w',m,.inl ?_,h2,.tuple rfl (fun i v v' h=>by simp at h)⟩
    simp [execOp,resolve,invoke,builtin,h1]
  rotate_left
  · rename_i s x t u h1 h2 h3
    simp only at h1 h2 h3
    subst h1
    have e2:=NN h2
    have e3:=NN h3
    subst e2;subst e3
    have WZ:=hr s (by simp [Op.operands,Call.operands])
    have QK:=hr x (by simp [Op.operands,Call.operands])
    split at h
    · obtain⟨v',w',m',h1,h2,h3⟩:=Dd (P:=P) (ty:=ty) hs h WZ QK
      refine⟨v',w',m',.inl ?_,h2,h3⟩
      simp [execOp,resolve,invoke,builtin,h1]
    · obtain⟨v',w',m',h1,h2,h3⟩:=AO (P:=P) (ty:=ty) hs h WZ QK
      refine⟨v',w',m',.inl ?_,h2,h3⟩
      simp [execOp,resolve,invoke,builtin,h1]
  · cases h
end Go.Stx
namespace Go.Stx
open Go
variable [Gl]
set_option linter.unusedSectionVars false
set_option linter.unusedVariables false
structure oP (m:Mp) (n:Nat) (a:Fr) (ca:Act):Prop where
 size:ca.tmps.size=n
 defers:ca.defers=[]
 QE:∀i,i<n→bG m (a i) (ca.tmps.getD i undef)
 rY:Fv m
theorem oP.mono {m m':Mp} (hm:Mp.le m m') {n:Nat} {a:Fr} {ca:Act} (h:oP m n a ca):oP m' n a ca:=⟨h.size,h.defers,fun i hi=>(h.QE i hi).mono hm,h.rY.mono hm⟩
theorem bG.undef (m:Mp):bG m undef undef:=.tuple rfl fun i v v' h=>by simp at h
def sY (n:Nat):Operand→Bool
 | .tmp t=>decide (t<n)
 | .const v=>rO v
 | .global g=>Gl.ok g
 | .func _=>true
def kz (n:Nat) (o:Oper):Bool:=
 o.op.operands.all (sY n) && (match o.dst with|some d=>decide (d<n)|none=>true)
def jr (n:Nat):Code→Bool
 | .region _ bE _=>bE.all (kz n)
 | .seq a b=>jr n a && jr n b
 | .cond c a b=>sY n c && jr n a && jr n b
 | .block _ b=>jr n b
 | .loop b=>jr n b
 | .skip=>true
 | .exit _=>true
 | .ret=>true
 | _=>false
theorem oP.eval {m:Mp} {n:Nat} {a:Fr} {ca:Act} (h:oP m n a ca) {x:Operand} (hx:sY n x=true):bG m (ip a x) (ca.eval x):=by
 cases x with
 | tmp t=>exact h.QE t (by simpa [sY] using hx)
 | const v=>exact bG.rD (v:=v) (by simpa [sY] using hx) m
 | global g=>
   exact .Ef ⟨rfl,rfl,_,h.rY g hx,rfl,(Nat.zero_add 0).symm⟩
 | func f=>exact .func _ rfl rfl (fun i v v' h=>by simp at h) (fun i v v' h=>by simp at h)
theorem oP.put {m:Mp} {n:Nat} {a:Fr} {ca:Act} (h:oP m n a ca) {d:Option Tmp} (hd:∀i,d=some i→i<n) {v v':Value} (hv:bG m v v') :
 oP m n (eb a d v) (ca.put d v'):=by
 cases d with
 | none=>exact h
 | some i=>
   refine⟨by simp [Act.put,h.size],by simp [Act.put,h.defers],fun j hj=>?_,h.rY⟩
   have hi:=hd i rfl
   simp only [eb,BW,Act.put]
   by_cases e:j=i
   · subst e
     rw [if_pos rfl]
     simp [Array.getD_eq_getD_getElem?,h.size,hi]
     exact hv
   · rw [if_neg e]
     have:=h.QE j hj
     rw [Array.getD_eq_getD_getElem?] at this ⊢
     rw [Array.getElem?_setIfInBounds_ne (by omega)]
     exact this
def iP (P:Program) (f:FuncId):Bool:=
 match P.funcs[f]? with
 | some fn=>!(fn.name == "runtime.NumGoroutine") && fn.body.isSome
 | none=>false
def aC (P:Program) (f:FuncId) (args:List Value) (A:AW) (R:Value→AW→Prop):Prop:=
 iP P f=true∧∀(m:Mp) (w:World) (fE:Array Value),jv m A w→gu m args fE.toList→
  Calls P f fE w fun e w'=>∃v v' m' A',e=.returned v'∧iG m A w m' A' w'∧bG m' v v'∧R v A'
theorem aC.mono {P:Program} {f:FuncId} {args:List Value} {A:AW} {R R':Value→AW→Prop} (h:aC P f args A R) (hR:∀v A',R v A'→R' v A'):aC P f args A R':=
 ⟨h.1,fun m w fE hs hl=>(h.2 m w fE hs hl).mono fun _ _ ⟨v,v',m',A',h1,h2,h3,h4⟩=>⟨v,v',m',A',h1,h2,h3,hR _ _ h4⟩⟩
def tw (P:Program) (op:Op) (r:Operand→Value) (A:AW) (k:Value→AW→Prop):Prop:=
 match op with
 | .call c=>
   match c.callee with
   | .value x=>
     match r x with
     | .func (.func f) fs cs=>aC P f (fs.toList++c.args.toList.map r++cs.toList) A k
     | _=>False
   | _=>False
 | _=>False
def gz (P:Program) (op:Op) (r:Operand→Value) (A:AW) (k:Value→AW→Prop):Prop:=
 match aq P A r op with
 | some v=>k v A
 | none=>
   match ae P A r op with
   | some (v,A1)=>k v A1
   | none=>tw P op r A k
theorem Cr {P:Program} {f:FuncId} {args:Array Value} (h:iP P f=true) (w:World):(callFunc f args).run P w=.ok (.enter f args) w:=by
 unfold iP at h
 cases hf:P.funcs[f]? with
 | none=>rw [hf] at h;cases h
 | some fn=>
   rw [hf] at h
   simp only [Bool.and_eq_true,Bool.not_eq_true'] at h
   obtain⟨h1,h2⟩:=h
   cases hb:fn.body with
   | none=>rw [hb] at h2;cases h2
   | some c=>
     have P5:¬fn.name = "runtime.NumGoroutine":=by simpa using h1
     simp [callFunc,hf,P5,hb]
theorem wg {P:Program} {m:Mp} {A:AW} {w:World} (hs:jv m A w) {o:Oper} {n:Nat} {a:Fr} {ca:Act} (hf:oP m n a ca) (ho:kz n o=true)
 {k:Value→AW→Prop} (h:gz P o.op (ip a) A k) {K:Act→World→Prop} {Q:Exit→Act→World→Prop}
 (hK:∀v A' m' w' uY,k v A'→iG m A w m' A' w'→oP m' n (eb a o.dst v) uY→K uY w'):o.wp P ca w K Q:=by
 simp only [kz,Bool.and_eq_true] at ho
 obtain⟨TI,PG⟩:=ho
 have hd:∀i,o.dst=some i→i<n:=fun i e=>by rw [e] at PG;simpa using PG
 have hr:∀x∈o.op.operands,bG m (ip a x) (ca.eval x):=fun x hx=>hf.eval (Array.all_eq_true_iff_forall_mem.1 TI x hx)
 unfold gz at h
 split at h
 · rename_i v hv
   obtain⟨v',h1,h2⟩:=Me hs hr hv
   unfold Oper.wp
   rw [h2 w (JY.refl w)]
   exact hK v A m w _ h (iG.refl hs) (hf.put hd h1)
 · split at h
   · rename_i v A1 hv
     obtain⟨v',w',m',h1,h2,h3⟩:=Mh hs hr hv
     unfold Oper.wp
     rcases h1 with h1|⟨h1,rfl⟩
     · rw [h1]
       exact hK v A1 m' w' _ h h2 ((hf.mono h2.ext).put hd h3)
     · rw [h1]
       exact hK v A1 m' w' _ h h2 ((hf.mono h2.ext).put hd h3)
   · unfold tw at h
     split at h
     · rename_i c hc
       split at h
       · rename_i x hx
         split at h
         · rename_i f fs cs Zf
           obtain⟨cL,h⟩:=h
           have QK:=hr x (by rw [hc];simp [Op.operands,Call.operands,hx])
           rw [Zf] at QK
           generalize hg:ca.eval x=x' at QK
           cases QK with
           | func _ TA RC UY hx4=>
             rename_i Xw oK
             have M7:(execOp ca.eval o).run P w=.ok (.enter f (Xw++c.args.map ca.eval++oK)) w:=by
              obtain⟨dst,op,ty,Ro,after,guard⟩:=o
              simp only at hc
              subst hc
              obtain⟨callee,args,argTypes⟩:=c
              simp only at hx
              subst hx
              simp only [execOp,resolve,hg,Deferred.ofValue,invoke,Sem.run_bind,Sem.run_pure,Result.andThen_ok,Cr cL]
             unfold Oper.wp
             rw [M7,Oper.upon_enter]
             have hargs:gu m (fs.toList++c.args.toList.map (ip a)++cs.toList) (Xw++c.args.map ca.eval++oK).toList:=by
              simp only [Array.toList_append,Array.toList_map]
              refine(gu.append (gu.append ⟨by simpa using TA,fun i v v' h1 h2=>UY i v v' (by simpa using h1) (by simpa using h2)⟩ ⟨by simp,fun i v v' h1 h2=>?_⟩) ⟨by simpa using RC,fun i v v' h1 h2=>hx4 i v v' (by simpa using h1) (by simpa using h2)⟩)
              simp only [List.getElem?_map,Option.map_eq_some_iff] at h1 h2
              obtain⟨q,h3,rfl⟩:=h1
              obtain⟨q',h4,rfl⟩:=h2
              rw [h3] at h4
              injection h4 with h4
              subst h4
              refine hr q ?_
              rw [hc]
              simp only [Op.operands,Call.operands,Array.mem_append]
              exact .inr (Array.mem_toList_iff.1 (List.mem_of_getElem? h3))
             refine(h m w _ hs hargs).mono ?_
             rintro e w' ⟨v,v',m',A',rfl,ev,hv,hk⟩
             exact hK v A' m' w' _ hk ev ((hf.mono ev.ext).put hd hv)
         · exact h.elim
       · exact h.elim
     · exact h.elim
def kL (bE:Array Oper) (a:Fr) (o:Oper):Bool:=
 match o.guard with
 | none=>true
 | some (j,Kc)=>
   match (bE[j]?).bind (·.dst) with
   | some d=>
     match a d with
     | .bool b=>b == Kc
     | _=>false
   | none=>false
theorem BE {m:Mp} {n:Nat} {a:Fr} {ca:Act} (hf:oP m n a ca) {bE:Array Oper} (yS:bE.all (kz n)=true) (o:Oper) :
 Region.wanted o (yielded bE ca.tmps)=kL bE a o:=by
 unfold Region.wanted kL
 cases o.guard with
 | none=>rfl
 | some g=>
   obtain⟨j,Kc⟩:=g
   simp only [yielded]
   cases hj:bE[j]? with
   | none=>simp
   | some oj=>
     simp only [Option.bind_some]
     cases hd:oj.dst with
     | none=>simp
     | some d=>
       simp only [Option.bind_some]
       have ko:=Array.all_eq_true_iff_forall_mem.1 yS oj (Array.mem_of_getElem? hj)
       simp only [kz,hd,Bool.and_eq_true,decide_eq_true_eq] at ko
       have dO:d<ca.tmps.size:=by rw [hf.size];exact ko.2
       have hv:=hf.QE d ko.2
       rw [Array.getD_eq_getD_getElem?,Array.getElem?_eq_getElem dO,Option.getD_some] at hv
       rw [Array.getElem?_eq_getElem dO]
       generalize a d=x at hv ⊢
       generalize ca.tmps[d]=y at hv ⊢
       cases hv<;>simp
def Hw (P:Program) (bE:Array Oper) (K:Fr→AW→Prop):List Oper→Fr→AW→Prop
 | [],a,A=>K a A
 | o::fR,a,A=>
   if kL bE a o=true then gz P o.op (ip a) A (fun v A'=>Hw P bE K fR (eb a o.dst v) A')
   else Hw P bE K fR (eb a o.dst undef) A
theorem mR {P:Program} {bE:Array Oper} {n:Nat} (yS:bE.all (kz n)=true) {K:Fr→AW→Prop} {Q:Exit→Act→World→Prop}:∀(l:List Oper) (a:Fr) (A:AW) (m:Mp) (w:World) (ca:Act),
 (∀o∈l,kz n o=true)→Hw P bE K l a A→jv m A w→oP m n a ca→
 (∀a' A' m' w' uY,K a' A'→iG m A w m' A' w'→oP m' n a' uY→Q .normal uY w')→wpList P bE Q l ca w
 | [],a,A,m,w,ca,_,h,hs,hf,hK=>hK a A m w ca h (iG.refl hs) hf
 | o::fR,a,A,m,w,ca,hl,h,hs,hf,hK=>by
   unfold Hw at h
   unfold wpList
   rw [BE hf yS o]
   split at h
   · rename_i hg
     rw [if_pos hg]
     refine .inl (wg hs hf (hl o (by simp)) h ?_)
     intro v A' m' w' uY hk ev yV
     exact mR yS fR _ _ m' w' uY (fun x hx=>hl x (by simp [hx])) hk ev.zO yV (fun a2 A2 m2 w2 Sy h1 h2 h3=>hK a2 A2 m2 w2 Sy h1 (ev.trans h2) h3)
   · rename_i hg
     rw [if_neg hg]
     have ho:=hl o (by simp)
     simp only [kz,Bool.and_eq_true] at ho
     have hd:∀i,o.dst=some i→i<n:=fun i e=>by have:=ho.2;rw [e] at this;simpa using this
     exact mR yS fR _ _ m w _ (fun x hx=>hl x (by simp [hx])) h hs (hf.put hd (bG.undef m)) hK
def eg (P:Program) (n:Nat) (c:Code) (Q:Exit→Fr→AW→Prop) (a:Fr) (A:AW):Prop:=
 jr n c=true→∀(m:Mp) (w:World) (ca:Act),jv m A w→oP m n a ca→
  c.wp P (fun e uY w'=>∃m' a' A',iG m A w m' A' w'∧oP m' n a' uY∧Q e a' A') ca w
section
variable {P:Program} {n:Nat} {Q:Exit→Fr→AW→Prop} {a:Fr} {A:AW}
theorem L6 {c:Code} {Q':Exit→Fr→AW→Prop} (h:eg P n c Q a A) (hq:∀e a A,Q e a A→Q' e a A):eg P n c Q' a A:=
 fun ko m w ca hs hf=>wp_mono (h ko m w ca hs hf) fun e uY w' ⟨m',a',A',h1,h2,h3⟩=>⟨m',a',A',h1,h2,hq _ _ _ h3⟩
theorem Hh {id:Nat} {bE:Array Oper} (h:Hw P bE (Q .normal) bE.toList a A):eg P n (.region id bE false) Q a A:=by
 intro ko m w ca hs hf
 have yS:bE.all (kz n)=true:=ko
 refine wp_region_list (mR yS _ _ _ m w ca (fun o ho=>Array.all_eq_true_iff_forall_mem.1 yS o (Array.mem_toList_iff.1 ho)) h hs hf ?_)
 intro a' A' m' w' uY hk ev yV
 exact⟨m',a',A',ev,yV,hk⟩
theorem L5 (h:Q .normal a A):eg P n .skip Q a A:=fun _ m w ca hs hf=>wp_skip ⟨m,a,A,iG.refl hs,hf,h⟩
theorem L9 {id:Nat} (h:Q (.exit id) a A):eg P n (.exit id) Q a A:=fun _ m w ca hs hf=>wp_exit ⟨m,a,A,iG.refl hs,hf,h⟩
theorem Im (h:Q .ret a A):eg P n .ret Q a A:=fun _ m w ca hs hf=>wp_ret ⟨m,a,A,iG.refl hs,hf,h⟩
def bH (next:Fr→AW→Prop) (Q:Exit→Fr→AW→Prop):Exit→Fr→AW→Prop
 | .normal,a,A=>next a A
 | e,a,A=>Q e a A
theorem dI {x y:Code} (h:eg P n x (bH (eg P n y Q) Q) a A):eg P n (.seq x y) Q a A:=by
 intro ko m w ca hs hf
 simp only [jr,Bool.and_eq_true] at ko
 refine wp_seq (wp_mono (h ko.1 m w ca hs hf) ?_)
 rintro e uY w' ⟨m',a',A',ev,yV,hq⟩
 cases e with
 | normal=>
   refine wp_mono (hq ko.2 m' w' uY ev.zO yV) ?_
   rintro e Sy w2 ⟨m2,a2,A2,G5,FE,Va⟩
   exact⟨m2,a2,A2,ev.trans G5,FE,Va⟩
 | exit id=>exact⟨m',a',A',ev,yV,hq⟩
 | goto l=>exact⟨m',a',A',ev,yV,hq⟩
 | ret=>exact⟨m',a',A',ev,yV,hq⟩
 | panic ch=>exact⟨m',a',A',ev,yV,hq⟩
 | outgrown=>exact⟨m',a',A',ev,yV,hq⟩
theorem Ma {c:Operand} {x y:Code} {b:Bool} (hc:ip a c=.bool b) (h1:b=true→eg P n x Q a A) (h2:b=false→eg P n y Q a A):eg P n (.cond c x y) Q a A:=by
 intro ko m w ca hs hf
 simp only [jr,Bool.and_eq_true] at ko
 have hv:=hf.eval ko.1.1
 rw [hc] at hv
 generalize hg:ca.eval c=x' at hv
 cases hv
 exact wp_cond_split hg (fun e=>h1 e ko.1.2 m w ca hs hf) (fun e=>h2 e ko.2 m w ca hs hf)
def dN (id:Nat) (Q:Exit→Fr→AW→Prop):Exit→Fr→AW→Prop
 | .exit id',a,A=>if id'=id then Q .normal a A else Q (.exit id') a A
 | e,a,A=>Q e a A
theorem Jz {id:Nat} {c:Code} (h:eg P n c (dN id Q) a A):eg P n (.block id c) Q a A:=by
 intro ko m w ca hs hf
 refine wp_block (wp_mono (h ko m w ca hs hf) ?_)
 rintro e uY w' ⟨m',a',A',ev,yV,hq⟩
 cases e with
 | exit id'=>
   simp only [Exit.inBlock]
   simp only [dN] at hq
   split
   · rename_i e;rw [if_pos e] at hq;exact⟨m',a',A',ev,yV,hq⟩
   · rename_i e;rw [if_neg e] at hq;exact⟨m',a',A',ev,yV,hq⟩
 | normal=>exact⟨m',a',A',ev,yV,hq⟩
 | goto l=>exact⟨m',a',A',ev,yV,hq⟩
 | ret=>exact⟨m',a',A',ev,yV,hq⟩
 | panic ch=>exact⟨m',a',A',ev,yV,hq⟩
 | outgrown=>exact⟨m',a',A',ev,yV,hq⟩
theorem eS {c:Code} (I:Nat→Fr→AW→Prop) (n₀:Nat) (h₀:I n₀ a A)
 (Rj:∀k a A,I k a A→eg P n c (bH (fun a' A'=>∃k',k'<k∧I k' a' A') Q) a A):eg P n (.loop c) Q a A:=by
 intro ko m w ca hs hf
 refine wp_loop_ghost (fun k uY w'=>∃m' a' A',iG m A w m' A' w'∧oP m' n a' uY∧I k a' A') n₀ ⟨m,a,A,iG.refl hs,hf,h₀⟩ ?_
 rintro k uY w' ⟨m',a',A',ev,yV,hI⟩
 refine wp_mono (Rj k a' A' hI ko m' w' uY ev.zO yV) ?_
 rintro e Sy w2 ⟨m2,a2,A2,G5,FE,hq⟩
 cases e with
 | normal=>
   obtain⟨k',dO,ZA⟩:=hq
   exact⟨k',dO,m2,a2,A2,ev.trans G5,FE,ZA⟩
 | exit id=>exact⟨m2,a2,A2,ev.trans G5,FE,hq⟩
 | goto l=>exact⟨m2,a2,A2,ev.trans G5,FE,hq⟩
 | ret=>exact⟨m2,a2,A2,ev.trans G5,FE,hq⟩
 | panic ch=>exact⟨m2,a2,A2,ev.trans G5,FE,hq⟩
 | outgrown=>exact⟨m2,a2,A2,ev.trans G5,FE,hq⟩
end
def bM (P:Program) (a:Fr) (A:AW):ResultVar→Option Value
 | .tmp t=>some (a t)
 | .cell p t=>
   match a p with
   | .pointer (some q)=>sJ P A t q
   | _=>none
def bI (P:Program) (a:Fr) (A:AW):List ResultVar→Option (List Value)
 | []=>some []
 | r::rs=>
   match bM P a A r,bI P a A rs with
   | some v,some vs=>some (v::vs)
   | _,_=>none
def cH (P:Program) (a:Fr) (A:AW) (rs:List ResultVar):Option Value:=
 match bI P a A rs with
 | some [v]=>some v
 | some vs=>some (.tuple vs.toArray)
 | none=>none
def Bg (n:Nat):ResultVar→Bool
 | .tmp t=>decide (t<n)
 | .cell p _=>decide (p<n)
def Cu (tmps:Array Value):ResultVar→Sem Value
 | .tmp t=>pure (tmps.getD t undef)
 | .cell a t=>do loadVar t (←asAddr (tmps.getD a undef))
theorem F6 (fn:Func) (tmps:Array Value) :
 results fn tmps=(fn.results.mapM (Cu tmps) >>= fun vs=>pure (if h:vs.size=1 then vs[0] else .tuple vs):Sem Value):=by
 unfold results
 congr 2
theorem Fi {P:Program} {m:Mp} {A:AW} {w:World} (hs:jv m A w) {n:Nat} {a:Fr} {ca:Act} (hf:oP m n a ca) {r:ResultVar} (ko:Bg n r=true) {v:Value} (h:bM P a A r=some v) :
 ∃v',bG m v v'∧(Cu ca.tmps r).run P w=.ok v' w:=by
 cases r with
 | tmp t=>
   injection h with h
   subst h
   exact⟨_,hf.QE t (by simpa [Bg] using ko),rfl⟩
 | cell p t=>
   simp only [bM] at h
   split at h
   · rename_i q hq
     have hv:=hf.QE p (by simpa [Bg] using ko)
     rw [hq] at hv
     generalize hg:ca.tmps.getD p undef=x' at hv
     cases hv with
     | Ef ha=>
       obtain⟨v',h1,h2⟩:=Fo (P:=P) hs h ha
       refine⟨v',h2,?_⟩
       simp only [Cu,hg,asAddr,Sem.run_bind,Sem.run_pure,Result.andThen_ok,h1]
   · cases h
theorem wP {P:Program} {m:Mp} {A:AW} {w:World} (hs:jv m A w) {n:Nat} {a:Fr} {ca:Act} (hf:oP m n a ca):∀(rs:List ResultVar) (vs:List Value),rs.all (Bg n)=true→
 bI P a A rs=some vs→∃BV,gu m vs BV∧(rs.mapM (Cu ca.tmps)).run P w=.ok BV w
 | [],vs,_,h=>by injection h with h;subst h;exact⟨[],.nil,rfl⟩
 | r::rs,vs,ko,h=>by
   unfold bI at h
   simp only [List.all_cons,Bool.and_eq_true] at ko
   split at h
   · rename_i v vs1 hv GJ
     injection h with h
     subst h
     obtain⟨v',h1,h2⟩:=Fi (P:=P) hs hf ko.1 hv
     obtain⟨BV,h3,h4⟩:=wP hs hf rs vs1 ko.2 GJ
     refine⟨v'::BV,.cons h1 h3,?_⟩
     simp only [List.mapM_cons,Sem.run_bind,h2,Result.andThen_ok,h4,Sem.run_pure]
   · cases h
theorem Hk {P:Program} {m:Mp} {A:AW} {w:World} (hs:jv m A w) {fn:Func} {n:Nat} {a:Fr} {ca:Act} (hf:oP m n a ca) (ko:fn.results.toList.all (Bg n)=true) {v:Value}
 (h:cH P a A fn.results.toList=some v):∃v',bG m v v'∧(results fn ca.tmps).run P w=.ok v' w:=by
 unfold cH at h
 cases hl:bI P a A fn.results.toList with
 | none=>rw [hl] at h;cases h
 | some vs=>
   obtain⟨BV,h1,h2⟩:=wP (P:=P) hs hf _ _ ko hl
   have h3:=qO (P:=P) _ fn.results BV h2
   rw [hl] at h
   have M7:∀(x:Value),(if h:BV.toArray.size=1 then BV.toArray[0] else .tuple BV.toArray)=x→(results fn ca.tmps).run P w=.ok x w:=fun x e=>by
    rw [F6,Sem.run_bind,h3]
    simp only [Result.andThen_ok,Sem.run_pure,e]
   split at h
   · rename_i u hu
     injection hu with hu
     injection h with h
     subst hu;subst h
     obtain⟨v',t',rfl,hv,ht⟩:=h1.kI
     have:=ht.oh
     subst this
     exact⟨v',hv,M7 v' (by simp)⟩
   · rename_i us iX hu
     injection hu with hu
     injection h with h
     subst hu;subst h
     refine⟨.tuple BV.toArray,.tuple (by simpa using h1.1) (fun i x x' e1 e2=>h1.2 i x x' (by simpa using e1) (by simpa using e2)),M7 _ ?_⟩
     rw [dif_neg]
     intro e
     have e1:BV.length=1:=by simpa using e
     rw [←h1.1] at e1
     obtain⟨x,rfl⟩:=List.length_eq_one_iff.1 e1
     exact iX x rfl
   · rename_i hu;cases hu
def Bw (args:List Value):Fr:=fun i=>args.getD i undef
def GZ (fn:Func) (Rx:Nat):Bool:=
 decide (Rx≤fn.ntmps) && !(fn.name == "runtime.NumGoroutine") && fn.results.toList.all (Bg fn.ntmps) && (match fn.body with|some c=>jr fn.ntmps c|none=>false)
def bO (P:Program) (fn:Func) (R:Value→AW→Prop):Exit→Fr→AW→Prop
 | .normal,a,A=>∃v,cH P a A fn.results.toList=some v∧R v A
 | .ret,a,A=>∃v,cH P a A fn.results.toList=some v∧R v A
 | _,_,_=>False
theorem Dr {P:Program} {f:FuncId} {fn:Func} {c:Code} {args:List Value} {A:AW} {R:Value→AW→Prop} (hf:P.funcs[f]? = some fn) (hb:fn.body=some c) (ko:GZ fn args.length=true)
 (h:eg P fn.ntmps c (bO P fn R) (Bw args) A):aC P f args A R:=by
 simp only [GZ,hb,Bool.and_eq_true,decide_eq_true_eq,Bool.not_eq_true'] at ko
 obtain⟨⟨⟨h1,h2⟩,h3⟩,h4⟩:=ko
 refine⟨by simp [iP,hf,h2,hb],fun m w fE hs hl=>?_⟩
 refine calls_of_wp hf hb (wp_mono (h h4 m w _ hs ?_) ?_)
 · have qF:fE.size=args.length:=by have:=hl.1;simp at this;omega
   refine⟨by simp [qF];omega,rfl,fun i hi=>?_,hs.rY⟩
   simp only [Bw,List.getD_eq_getElem?_getD,Array.getD_eq_getD_getElem?]
   by_cases dO:i<args.length
   · have e1:=List.getElem?_eq_getElem dO
     have PI:i<fE.size:=by omega
     have e2:fE.toList[i]? = some fE[i]:=by simp [PI]
     rw [e1,Array.getElem?_append_left PI,Array.getElem?_eq_getElem PI]
     exact hl.2 i _ _ e1 e2
   · rw [List.getElem?_eq_none (by omega),Array.getElem?_append_right (by omega)]
     simp only [Option.getD_none]
     rw [Array.getElem?_replicate]
     split
     · exact bG.undef m
     · exact bG.undef m
 · rintro e uY w' ⟨m',a',A',ev,yV,hq⟩
   have bS:∀(hx:∃v,cH P a' A' fn.results.toList=some v∧R v A'),uY.defers=[]∧∃v,(results fn uY.tmps).run P w'=.ok v w'∧
    ∃v0 v' m' A',Ending.returned v=.returned v'∧iG m A w m' A' w'∧bG m' v0 v'∧R v0 A':=by
    rintro ⟨v,hv,hR⟩
    obtain⟨v',h5,h6⟩:=Hk ev.zO yV h3 hv
    exact⟨yV.defers,v',h6,v,v',m',A',rfl,ev,h5,hR⟩
   cases e with
   | normal=>exact bS hq
   | ret=>exact bS hq
   | exit id=>exact hq.elim
   | goto l=>exact hq.elim
   | panic ch=>exact hq.elim
   | outgrown=>exact hq.elim
theorem jv.Pp {m:Mp} {A:AW} {w:World} (hs:jv m A w) {g:Nat} {cs:List Value} {iB:Array Value} {e:TypeId} {fr:Nat×Nat} (hg:Gl.ok g=true) (hB:Gl.B g=some (.cells iB e fr))
 (hc:∀(k:Nat) (v:Value),cs[k]? = some v→iB[k]? = some v∧eJ v=true):jv m (A.set g (some (.cells cs false 1))) w∧∀i o p,A.bR i=some o→o.own=true→m i=some p→i≠g:=by
 have QS:=hs.rY g hg
 have iX:∀i o p,A.bR i=some o→o.own=true→m i=some p→i≠g:=fun i o p hi ho hm e=>by
  subst e
  rw [QS] at hm
  injection hm with hm
  have:=hs.uj i o _ hi ho QS
  rw [hB] at this
  cases this
 have dO:g<A.next:=by
  rcases Nat.lt_or_ge g A.next with h|h
  · exact h
  · rw [hs.pn g h] at QS;cases QS
 have eo:∀{i o},(A.set g (some (.cells cs false 1))).bR i=some o→i≠g→A.bR i=some o:=fun {i o} h hi=>by rwa [AW.bV hi] at h
 have kh:∀{i o},(A.set g (some (.cells cs false 1))).bR i=some o→o.own=true→i≠g:=fun {i o} h ho e=>by
  subst e
  rw [AW.el] at h
  injection h with h
  subst h
  cases ho
 refine⟨⟨?_,?_,hs.pn,?_,hs.laid,?_,hs.rY⟩,iX⟩
 · intro i o hi
   by_cases e1:i=g
   · subst e1
     rw [AW.el] at hi
     injection hi with hi
     subst hi
     refine⟨_,QS,iB,e,fr,hs.laid _ _ hB,fun h=>(by cases h),rfl,by simp [GT,hB],fun k v hv=>?_⟩
     obtain⟨h1,h2⟩:=hc k v hv
     exact⟨v,by rw [Nat.zero_add];exact h1,.li h2 m⟩
   · exact hs.Bq i o (eo hi e1)
 · intro i j o o' p p' hi ho hj Vs Na Oq
   have uV:=eo hi (kh hi ho)
   by_cases e1:j=g
   · subst e1
     rw [QS] at Oq
     injection Oq with Oq
     subst Oq
     intro e2
     have:=hs.uj i o p uV ho Na
     rw [e2] at this
     rw [hB] at this
     cases this
   · exact hs.inj i j o o' p p' uV ho (eo hj e1) Vs Na Oq
 · intro i hi
   have ti:A.next≤i:=hi
   rw [AW.bV (by omega)]
   exact hs.DJ i ti
 · intro i o p hi ho hm
   exact hs.uj i o p (eo hi (kh hi ho)) ho hm
theorem aC.Pp {P:Program} {f:FuncId} {args:List Value} {A:AW} {g:Nat} {cs:List Value} {iB:Array Value} {e:TypeId} {fr:Nat×Nat} (hg:Gl.ok g=true) (hB:Gl.B g=some (.cells iB e fr))
 (hc:∀(k:Nat) (v:Value),cs[k]? = some v→iB[k]? = some v∧eJ v=true) {R:Value→AW→Prop} (h:aC P f args (A.set g (some (.cells cs false 1))) R):aC P f args A R:=by
 refine⟨h.1,fun m w fE hs hl=>?_⟩
 obtain⟨QQ,iX⟩:=hs.Pp hg hB hc
 have own:∀b,Mo m (A.set g (some (.cells cs false 1))) b↔Mo m A b:=fun b=>by
  constructor
  · rintro ⟨i,o,p,hi,ho,hm,hb⟩
    by_cases e1:i=g
    · subst e1
      rw [AW.el] at hi
      injection hi with hi
      subst hi
      cases ho
    · rw [AW.bV e1] at hi
      exact⟨i,o,p,hi,ho,hm,hb⟩
  · rintro ⟨i,o,p,hi,ho,hm,hb⟩
    exact⟨i,o,p,by rw [AW.bV (iX i o p hi ho hm)];exact hi,ho,hm,hb⟩
 have RF:∀b,Iv m (A.set g (some (.cells cs false 1))) b→Iv m A b∨Gl.B b≠none:=by
  rintro b ⟨i,o,p,hi,hm,hb⟩
  by_cases e1:i=g
  · subst e1
    rw [hs.rY i hg] at hm
    injection hm with hm
    subst hm
    exact .inr (by rw [←hb];show Gl.B i≠none;rw [hB];exact Option.some_ne_none _)
  · rw [AW.bV e1] at hi
    exact .inl ⟨i,o,p,hi,hm,hb⟩
 refine(h.2 m w fE QQ hl).mono ?_
 rintro e' w' ⟨v,v',m',A',rfl,ev,hv,hR⟩
 exact⟨v,v',m',A',rfl,⟨ev.ext,ev.zO,ev.next,ev.os,ev.tape,ev.output,ev.size,fun b hb ho=>ev.qq b hb (fun h=>ho ((own b).1 h)),fun b hb=>(ev.grow b hb).imp (own b).1 id,ev.qA,fun b hb=>match ev.MG b hb with | .inl h1=>(RF b h1).imp id .inr | .inr h1=>.inr h1⟩,hv,hR⟩
end Go.Stx
namespace Go.Stx
open Go
variable [Gl]
set_option linter.unusedSectionVars false
set_option linter.unusedVariables false
def dK.ro:dK→dK
 | .cells cs _ u=>.cells cs false u
 | .map es _=>.map es false
theorem dK.F5 (o:dK):o.ro.own=false:=by cases o<;>rfl
theorem kV.ro {m:Mp} {w:World} {p:Pl} {o:dK} (h:kV m w p o):kV m w p o.ro:=by
 cases o with
 | cells cs own u=>
   obtain⟨iB,e,fr,h2,h3,h4⟩:=h
   exact⟨iB,e,fr,h2,fun h=>(by cases h),h4⟩
 | map es own=>exact h
def AW.ro (A:AW):AW:={ A with bR:=fun i=>(A.bR i).map dK.ro }
theorem AW.Ct {A:AW} {i:Nat} {o:dK} (h:A.ro.bR i=some o):∃o',A.bR i=some o'∧o=o'.ro:=by
 simp only [AW.ro,Option.map_eq_some_iff] at h
 obtain⟨o',h1,h2⟩:=h
 exact⟨o',h1,h2.symm⟩
theorem jv.ro {m:Mp} {A:AW} {w:World} (hs:jv m A w):jv m A.ro w:=by
 refine⟨fun i o hi=>?_,fun i j o o' p p' hi ho=>?_,hs.pn,fun i hi=>?_,hs.laid,fun i o p hi ho=>?_,hs.rY⟩
 · obtain⟨o',hg,rfl⟩:=AW.Ct hi
   obtain⟨p,h1,h2⟩:=hs.Bq _ _ hg
   exact⟨p,h1,h2.ro⟩
 · obtain⟨o',hg,rfl⟩:=AW.Ct hi
   rw [dK.F5] at ho
   cases ho
 · simp [AW.ro,hs.DJ i hi]
 · obtain⟨o',hg,rfl⟩:=AW.Ct hi
   rw [dK.F5] at ho
   cases ho
structure NY (w w':World):Prop where
 ext:JY w w'
 os:w'.os=w.os
 tape:w'.tape=w.tape
 output:w'.output=w.output
 size:w.heap.size≤w'.heap.size
theorem NY.Xx {m:Mp} {A:AW} {w w':World} (hs:jv m A w) (h:NY w w'):iG m A w m A w':=
 ⟨Mp.le_refl m,h.ext.zO hs,Nat.le_refl _,h.os,h.tape,h.output,h.size,fun b hb _=>h.ext b hb,fun _ h=>.inl h,fun _ _=>rfl,fun _ h=>.inl h⟩
def rz (P:Program) (f:FuncId) (args:List Value) (A:AW) (v:Value):Prop:=
 iP P f=true∧eJ v=true∧∀(m:Mp) (w:World) (fE:Array Value),jv m A w→gu m args fE.toList→Calls P f fE w fun e w'=>e=.returned v∧NY w w'
theorem bG.mF {m:Mp} {v v':Value} (hv:eJ v=true) (h:bG m v v'):v'=v:=by
 cases h<;>first|rfl|(simp [eJ] at hv;done)
theorem rz.MS {P:Program} {f:FuncId} {args:List Value} {A:AW} {v:Value} (hv:eJ v=true) (h:aC P f args A.ro fun v' _=>v'=v):rz P f args A v:=by
 refine⟨h.1,hv,fun m w fE hs hl=>(h.2 m w fE hs.ro hl).mono ?_⟩
 rintro e w' ⟨u,u',m',A',rfl,ev,hr,rfl⟩
 have:=hr.mF hv
 subst this
 refine⟨rfl,⟨fun b hb=>ev.qq b hb ?_,ev.os,ev.tape,ev.output,ev.size⟩⟩
 rintro ⟨i,o,p,hi,wH,_⟩
 obtain⟨o',_,rfl⟩:=AW.Ct hi
 rw [dK.F5] at wH
 cases wH
theorem rz.call {P:Program} {f:FuncId} {args:List Value} {A:AW} {v:Value} (h:rz P f args A v) {R:Value→AW→Prop} (hR:R v A):aC P f args A R:=by
 refine⟨h.1,fun m w fE hs hl=>(h.2.2 m w fE hs hl).mono ?_⟩
 rintro e w' ⟨rfl,hk⟩
 exact⟨v,v,m,A,rfl,hk.Xx hs,.li h.2.1 m,hR⟩
def Mr (P:Program) (op:Op) (r:Operand→Value) (A:AW) (k:Value→Prop):Prop:=
 match op with
 | .call c=>
   match c.callee with
   | .value x=>
     match r x with
     | .func (.func f) fs cs=>∃v,rz P f (fs.toList++c.args.toList.map r++cs.toList) A v∧k v
     | _=>False
   | _=>False
 | _=>False
def QA (P:Program) (op:Op) (r:Operand→Value) (A:AW) (k:Value→Prop):Prop:=
 match aq P A r op with
 | some v=>k v
 | none=>Mr P op r A k
end Go.Stx
namespace Go.Stx
open Go
variable [Gl]
set_option linter.unusedSectionVars false
set_option linter.unusedVariables false
@[simp] theorem QB (a:Fr) (i j:Nat) (v:Value):BW a i v j=if j=i then v else a j:=rfl
@[simp] theorem Pt (v:Value) (l:List Value):Bw (v::l) 0=v:=rfl
@[simp] theorem Pu (v:Value) (l:List Value) (i:Nat):Bw (v::l) (i+1)=Bw l i:=rfl
@[simp] theorem QF (a:Fr) (i:Nat) (v:Value):eb a (some i) v=BW a i v:=rfl
@[simp] theorem QG (a:Fr) (v:Value):eb a none v=a:=rfl
@[simp] theorem T3 (a:Fr) (t:Nat):ip a (.tmp t)=a t:=rfl
@[simp] theorem Q6 (a:Fr) (v:Value):ip a (.const v)=v:=rfl
@[simp] theorem Sq (a:Fr) (f:FuncId):ip a (.func f)=.func (.func f) #[] #[]:=rfl
@[simp] theorem Q8 (k:IntKind) (n:Int):(Value.int k n).cells = #[.int k n]:=rfl
@[simp] theorem Qp (b:Bool):(Value.bool b).cells = #[.bool b]:=rfl
@[simp] theorem NF (s:ByteArray):(Value.string s).cells = #[.string s]:=rfl
@[simp] theorem MA (a:Option Addr):(Value.pointer a).cells = #[.pointer a]:=rfl
@[simp] theorem OK (a:Option Addr) (n c:Nat):(Value.slice a n c).cells = #[.slice a n c]:=rfl
@[simp] theorem Q7 (r:Option Nat):(Value.map r).cells = #[.map r]:=rfl
@[simp] theorem Qo (fn:Fn) (x y:Array Value):(Value.func fn x y).cells = #[.func fn x y]:=rfl
@[simp] theorem MB:Value.nilFunc.cells = #[.nilFunc]:=rfl
@[simp] theorem L3:Value.nilIface.cells = #[.nilIface]:=rfl
@[simp] theorem OL (t:TypeId) (v:Value):(Value.iface t v).cells = #[.iface t v]:=rfl
@[simp] theorem Q9 (cs:Array Value):(Value.agg cs).cells=cs:=rfl
attribute [simp] eI Fj ep oM ox Dx Dv vQ uJ eJ rO
attribute [simp] kT qi Di yO sJ Dk qj apart tu nA mv Mk Mf qh
attribute [simp] Ir xM uM uL fk d6 rn kc Dp qk mQ rp
attribute [simp] gz QA aq ae bH dN bO cH bI bM NW xp CM T8 Iq
@[simp] theorem ww (k0 k:IntKind) (a b:Int):Instr.sameNow (.int k0) (.int k a) (.int k b)=some (a == b):=by simp [Instr.sameNow]
@[simp] theorem DD (K:Fr→AW→Prop) (Q:Exit→Fr→AW→Prop):bH K Q .normal=K:=rfl
structure SOp where
 dst:Option Tmp
 op:Op
 guard:Option (Option Tmp×Bool)
def lJ (bE:Array Oper) (g:Option (Nat×Bool)):Option (Option Tmp×Bool):=g.map fun x=>((bE[x.1]?).bind (·.dst),x.2)
def sg (a:Fr) (g:Option (Option Tmp×Bool)):Bool:=
 match g with
 | none=>true
 | some (some d,Kc)=>
   match a d with
   | .bool b=>b == Kc
   | _=>false
 | some (none,_)=>false
theorem HE (bE:Array Oper) (a:Fr) (o:Oper):kL bE a o=sg a (lJ bE o.guard):=by
 unfold kL sg lJ
 cases o.guard with
 | none=>rfl
 | some g=>
   obtain⟨j,Kc⟩:=g
   simp only [Option.map_some]
   cases (bE[j]?).bind (·.dst)<;>rfl
theorem gz.mono {P:Program} {op:Op} {r:Operand→Value} {A:AW} {k k':Value→AW→Prop} (h:∀v A',k v A'→k' v A') (hh:gz P op r A k):gz P op r A k':=by
 unfold gz at *
 split at hh
 · exact h _ _ hh
 · split at hh
   · exact h _ _ hh
   · unfold tw at *
     split at hh
     · split at hh
       · split at hh
         · exact hh.mono h
         · exact hh
       · exact hh
     · exact hh
attribute [simp] sg
theorem Ll {c:Prop} [Decidable c] {p q:Prop} (h1:c→p) (h2:¬c→q):if c then p else q:=by
 split
 · exact h1 ‹_›
 · exact h2 ‹_›
def AW.Wf (A:AW):Prop:=∀i,A.next≤i→A.bR i=none
theorem AW.Wf.lt {A:AW} (h:A.Wf) {i:Nat} {o:dK} (hg:A.bR i=some o):i<A.next:=by
 rcases Nat.lt_or_ge i A.next with h1|h1
 · exact h1
 · rw [h i h1] at hg;cases hg
@[simp] theorem AW.bq (A:AW) (o:dK):(A.alloc o).next=A.next+1:=rfl
@[simp] theorem AW.gW (A:AW) (i:Nat) (o:Option dK):(A.set i o).next=A.next:=rfl
@[simp] theorem AW.cW (A:AW) (o:dK):(A.alloc o).bR A.next=some o:=by simp [AW.alloc]
theorem AW.gx (A:AW) (o:dK) {i:Nat} (h:i≠A.next):(A.alloc o).bR i=A.bR i:=by simp [AW.alloc,h]
@[simp] theorem AW.Pa (A:AW) (i:Nat) (o:Option dK):(A.set i o).bR i=o:=AW.el
theorem AW.Cs {A:AW} {i:Nat} {cs:List Value} {own:Bool} {u:Nat} (h:A.bR i=some (.cells cs own u)):A.cK i=some cs:=by simp [AW.cK,h]
theorem AW.Wf.alloc {A:AW} (h:A.Wf) (o:dK):(A.alloc o).Wf:=fun i hi=>by
 simp only [AW.bq] at hi
 rw [AW.gx _ _ (by omega)]
 exact h i (by omega)
theorem AW.Wf.set {A:AW} (h:A.Wf) {i:Nat} (o:Option dK) (hi:i<A.next):(A.set i o).Wf:=fun j hj=>by
 simp only [AW.gW] at hj
 rw [AW.bV (by omega)]
 exact h j hj
structure AW.le (A A':AW):Prop where
 next:A.next≤A'.next
 bR:∀i,i<A.next→A'.bR i=A.bR i
theorem AW.le.refl (A:AW):A.le A:=⟨Nat.le_refl _,fun _ _=>rfl⟩
theorem AW.le.trans {A B C:AW} (h:A.le B) (k:B.le C):A.le C:=⟨Nat.le_trans h.next k.next,fun i hi=>(k.bR i (Nat.lt_of_lt_of_le hi h.next)).trans (h.bR i hi)⟩
theorem AW.le.alloc (A:AW) (o:dK):A.le (A.alloc o):=⟨by simp,fun i hi=>AW.gx _ _ (by omega)⟩
theorem AW.le.set {A B:AW} (h:A.le B) {i:Nat} (hi:A.next≤i) (o:Option dK):A.le (B.set i o):=
 ⟨h.next,fun j hj=>by rw [AW.bV (by omega)];exact h.bR j hj⟩
theorem AW.le.qA {A B:AW} (h:A.le B) (hw:A.Wf) {i:Nat} {o:dK} (hg:A.bR i=some o):B.bR i=some o:=by rw [h.bR i (hw.lt hg)];exact hg
theorem aC.wf {P:Program} {f:FuncId} {args:List Value} {A:AW} {R:Value→AW→Prop} (h:aC P f args A R):aC P f args A (fun v A'=>R v A'∧A'.Wf∧A.next≤A'.next):=
 ⟨h.1,fun m w fE hs hl=>(h.2 m w fE hs hl).mono fun _ _ ⟨v,v',m',A',h1,h2,h3,h4⟩=>⟨v,v',m',A',h1,h2,h3,h4,h2.zO.DJ,h2.next⟩⟩
theorem ab {P:Program} {f:FuncId} {fn:Func} {c:Code} {args:List Value} {A:AW} {R:Value→AW→Prop} (hf:P.funcs[f]? = some fn) (hb:fn.body=some c) (ko:GZ fn args.length=true)
 (h:A.Wf→eg P fn.ntmps c (bO P fn R) (Bw args) A):aC P f args A R:=by
 have cL:iP P f=true:=by
  simp only [GZ,hb,Bool.and_eq_true,decide_eq_true_eq,Bool.not_eq_true'] at ko
  simp [iP,hf,ko.1.1.2,hb]
 exact⟨cL,fun m w fE hs hl=>(Dr hf hb ko (h hs.DJ)).2 m w fE hs hl⟩
theorem bT {P:Program} {f:FuncId} {args:List Value} {A:AW} {R k:Value→AW→Prop} (h:aC P f args A R) (hk:∀v A',R v A'→A'.Wf→A.next≤A'.next→k v A'):aC P f args A k:=
 h.wf.mono fun v A' ⟨h1,h2,h3⟩=>hk v A' h1 h2 h3
@[congr] theorem OT {P:Program} {f:FuncId} {args Fh:List Value} {A:AW} {R:Value→AW→Prop} (h:args=Fh):aC P f args A R=aC P f Fh A R:=by rw [h]
@[congr] theorem OR {P:Program} {f:FuncId} {args Fh:List Value} {A:AW} {v:Value} (h:args=Fh):rz P f args A v=rz P f Fh A v:=by rw [h]
@[simp] theorem OU (P:Program) (x:Operand) (args:Array Operand) (ts:Array TypeId) (r:Operand→Value) (A:AW) (k:Value→AW→Prop) :
 tw P (.call ⟨.value x,args,ts⟩) r A k=match r x with
  | .func (.func f) fs cs=>aC P f (fs.toList++args.toList.map r++cs.toList) A k
  | _=>False:=rfl
@[simp] theorem OS (P:Program) (x:Operand) (args:Array Operand) (ts:Array TypeId) (r:Operand→Value) (A:AW) (k:Value→Prop) :
 Mr P (.call ⟨.value x,args,ts⟩) r A k=match r x with
  | .func (.func f) fs cs=>∃v,rz P f (fs.toList++args.toList.map r++cs.toList) A v∧k v
  | _=>False:=rfl
def iF (A:AW) (size:Nat) (v:Value) (n:Nat) (cs:List Value):Prop:=
 ((∃o,v=.slice o 0 0)∧n=0∧cs=[]) ∨
 ∃p c cK own u,v=.slice (some p) n c∧n≤c∧A.bR p.block=some (.cells cK own u)∧u=size∧p.off+n*size≤cK.length∧cs=(cK.drop p.off).take (n*size)
theorem iF.length {A:AW} {size:Nat} {v:Value} {n:Nat} {cs:List Value} (h:iF A size v n cs):cs.length=n*size:=by
 rcases h with ⟨_,rfl,rfl⟩|⟨p,c,cK,own,u,_,_,_,_,h1,rfl⟩
 · simp
 · simp;omega
theorem iF.le {A B:AW} (hl:A.le B) (hw:A.Wf) {size:Nat} {v:Value} {n:Nat} {cs:List Value} (h:iF A size v n cs):iF B size v n cs:=by
 rcases h with h|⟨p,c,cK,own,u,h1,h2,h3,h4⟩
 · exact .inl h
 · exact .inr ⟨p,c,cK,own,u,h1,h2,hl.qA hw h3,h4⟩
def dB (A:AW) (k:IntKind) (v:Value) (l:List Int):Prop:=iF A 1 v l.length (l.map (Value.int k))
theorem dB.le {A B:AW} (hl:A.le B) (hw:A.Wf) {k:IntKind} {v:Value} {l:List Int} (h:dB A k v l):dB B k v l:=iF.le hl hw h
theorem iF.dJ {A:AW} {size:Nat} {v:Value} {n:Nat} {cs:List Value} (h:iF A size v n cs):∃o c,v=.slice o n c∧n≤c:=by
 rcases h with ⟨⟨o,rfl⟩,rfl,_⟩|⟨p,c,_,_,_,rfl,h,_⟩
 · exact⟨_,_,rfl,Nat.le_refl _⟩
 · exact⟨_,_,rfl,h⟩
theorem dB.cases {A:AW} {k:IntKind} {v:Value} {l:List Int} (h:dB A k v l) :
 ((∃o,v=.slice o 0 0)∧l=[])∨∃p c cK own,v=.slice (some p) l.length c∧l.length≤c∧A.bR p.block=some (.cells cK own 1)∧p.off+l.length≤cK.length∧
   ∀j (hj:j<l.length),cK[p.off+j]? = some (.int k l[j]):=by
 rcases h with ⟨h1,h2,h3⟩|⟨p,c,cK,own,u,h1,h2,h3,h4,h5,h6⟩
 · exact .inl ⟨h1,List.eq_nil_of_length_eq_zero h2⟩
 · subst h4
   rw [Nat.mul_one] at h5 h6
   refine .inr ⟨p,c,cK,own,h1,h2,h3,h5,fun j hj=>?_⟩
   have h7:(l.map (Value.int k))[j]? = ((cK.drop p.off).take l.length)[j]?:=by rw [h6]
   rw [List.getElem?_map,List.getElem?_eq_getElem hj,List.getElem?_take_of_lt hj,List.getElem?_drop] at h7
   exact h7.symm
theorem dB.dJ {A:AW} {k:IntKind} {v:Value} {l:List Int} (h:dB A k v l):∃o c,v=.slice o l.length c∧l.length≤c:=iF.dJ h
theorem dB.at {A:AW} {k:IntKind} {o:Option Addr} {c n:Nat} {l:List Int} (h:dB A k (.slice o n c) l) {i:Nat} (hi:i<l.length) :
 ∃p cK,o=some p∧A.cK p.block=some cK∧cK[p.off+i]? = some (.int k l[i]):=by
 rcases h.cases with ⟨h1,rfl⟩|⟨p,c,cK,own,h1,_,hg,_,hr⟩
 · simp at hi
 · injection h1 with h1 h2 h3
   exact⟨p,cK,h1,AW.Cs hg,hr i hi⟩
end Go.Stx
