/-
 The abstract memory, its operations, and the walk over it.
-/
import Derived.WalkKit
import Derived.MapKept
import Derived.Lib.AppendZerosOnto
import Derived.ChangeKeysEq
import Derived.Laws.StructEq
import Derived.Laws.Cover3
import Derived.Laws.BytesArg
import Derived.Deep.LoopGhost
import Derived.Deep.Quiet
set_option linter.unusedVariables false
set_option linter.unusedSimpArgs false
set_option linter.unusedSectionVars false
namespace Go.Stx
theorem aa {α:Type _} {a:α} {as bs:List α}:(a::as)++bs=a::(as++bs):=rfl
theorem ag {α:Type _} {as:List α}:[]++as=as:=rfl
open Go
structure Pl where
 block:Nat
 base:Nat
 unit:Nat
 xE:Nat
abbrev Mp:=Nat->Option Pl
def pz (m:Mp) (a a':Addr):Prop:=
 a.spot=none/\a'.spot=none/\∃p,m a.block=some p/\a'.block=p.block/\a'.off=p.base+a.off
def Ai (m:Mp) (a a':Addr) (iD:Nat):Prop:=
 a.spot=none/\a'.spot=none/\∃p,m a.block=some p/\a'.block=p.block/\a'.off=p.base+a.off/\a'.off+iD*p.unit<=p.xE
theorem Ai.RB {m:Mp} {a a':Addr} {c:Nat} (h:Ai m a a' c):pz m a a':=by
 obtain⟨h1,h2,p,h3,h4,h5,_⟩:=h;exact⟨h1,h2,p,h3,h4,h5⟩
inductive bB (m:Mp):Value->Value->Prop
 | bool (b:Bool):bB m (.bool b) (.bool b)
 | int (k:IntKind) (n:Int):bB m (.int k n) (.int k n)
 | float (k:FloatKind) (n:Nat):bB m (.float k n) (.float k n)
 | complex (k:FloatKind) (x y:Nat):bB m (.complex k x y) (.complex k x y)
 | string (s:ByteArray):bB m (.string s) (.string s)
 | xM:bB m (.pointer none) (.pointer none)
 | Im {a a':Addr} (h:pz m a a'):bB m (.pointer (some a)) (.pointer (some a'))
 | li:bB m (.slice none 0 0) (.slice none 0 0)
 | slice {a a':Addr} {len ef iD:Nat} (h:Ai m a a' iD\/(len=0/\iD=0/\(a.spot.isSome=true\/m a.block≠none))) (h1:len<=ef) (h2:ef<=iD) :
  bB m (.slice (some a) len ef) (.slice (some a') len iD)
 | yd:bB m (.map none) (.map none)
 | map {r r':Nat} (h:∃p,m r=some p/\p.block=r'):bB m (.map (some r)) (.map (some r'))
 | Dx:bB m (.chan none) (.chan none)
 | func (fn:Fn) {x x' y y':Array Value} (hx:x.size=x'.size) (hy:y.size=y'.size)
  (h1:∀(i:Nat) (v v':Value),x[i]? = some v->x'[i]? = some v'->bB m v v')
  (h2:∀(i:Nat) (v v':Value),y[i]? = some v->y'[i]? = some v'->bB m v v') :
  bB m (.func fn x y) (.func fn x' y')
 | nilFunc:bB m .nilFunc .nilFunc
 | iface (t:TypeId) {v v':Value} (h:bB m v v'):bB m (.iface t v) (.iface t v')
 | nilIface:bB m .nilIface .nilIface
 | agg {x x':Array Value} (hx:x.size=x'.size)
  (h1:∀(i:Nat) (v v':Value),x[i]? = some v->x'[i]? = some v'->bB m v v'):bB m (.agg x) (.agg x')
 | tuple {x x':Array Value} (hx:x.size=x'.size)
  (h1:∀(i:Nat) (v v':Value),x[i]? = some v->x'[i]? = some v'->bB m v v'):bB m (.tuple x) (.tuple x')
def Mp.le (m m':Mp):Prop:=∀i x,m i=some x->m' i=some x
theorem Mp.le_refl (m:Mp):Mp.le m m:=λ_ _ h=>h
theorem Mp.le_trans {a b c:Mp} (h:Mp.le a b) (k:Mp.le b c):Mp.le a c:=λi x e=>k i x (h i x e)
theorem Mp.SJ {m m':Mp} (hm:Mp.le m m') {i:Nat} (h:m i≠none):m' i≠none:=λe=>by
 cases hi:m i with
 | none=>exact h hi
 | some p=>rw [hm i p hi] at e;cases e
theorem pz.mono {m m':Mp} (hm:Mp.le m m') {a a':Addr} (h:pz m a a'):pz m' a a':=by
 obtain⟨h1,h2,p,h3,h4⟩:=h;exact⟨h1,h2,p,hm _ _ h3,h4⟩
theorem Ai.mono {m m':Mp} (hm:Mp.le m m') {a a':Addr} {c:Nat} (h:Ai m a a' c):Ai m' a a' c:=by
 obtain⟨h1,h2,p,h3,h4⟩:=h;exact⟨h1,h2,p,hm _ _ h3,h4⟩
theorem bB.mono {m m':Mp} (hm:Mp.le m m') {v v':Value} (h:bB m v v'):bB m' v v':=by
 induction h with
 | bool b=>exact .bool b
 | int k n=>exact .int k n
 | float k n=>exact .float k n
 | complex k x y=>exact .complex k x y
 | string s=>exact .string s
 | xM=>exact .xM
 | Im h=>exact .Im (h.mono hm)
 | li=>exact .li
 | slice h h1 h2=>exact .slice (h.imp (λx=>x.mono hm) fun⟨e1,e2,e3⟩=>⟨e1,e2,e3.imp id (Mp.SJ hm)⟩) h1 h2
 | yd=>exact .yd
 | map h=>obtain⟨p,h1,h2⟩:=h;exact .map ⟨p,hm _ _ h1,h2⟩
 | Dx=>exact .Dx
 | func fn hx hy _ _ ih1 ih2=>exact .func fn hx hy ih1 ih2
 | nilFunc=>exact .nilFunc
 | iface t _ ih=>exact .iface t ih
 | nilIface=>exact .nilIface
 | agg hx _ ih=>exact .agg hx ih
 | tuple hx _ ih=>exact .tuple hx ih
def iu (m:Mp) (l l':List Value):Prop:=l.length=l'.length/\∀(i:Nat) (v v':Value),l[i]? = some v->l'[i]? = some v'->bB m v v'
theorem iu.nil {m:Mp}:iu m [] []:=⟨rfl,λi v v' h=>by simp at h⟩
theorem iu.cons {m:Mp} {v v':Value} {l l':List Value} (h:bB m v v') (t:iu m l l'):iu m (v::l) (v'::l'):=by
 refine⟨by simp [t.1],λi x x' h1 h2=>?_⟩;cases i with
 | zero=>simp at h1 h2;subst h1;subst h2;exact h
 | succ i=>simp at h1 h2;exact t.2 i x x' h1 h2
theorem iu.append {m:Mp} {a a' b b':List Value} (h:iu m a a') (k:iu m b b'):iu m (a++b) (a'++b'):=by
 refine⟨by simp [h.1,k.1],λi v v' h1 h2=>?_⟩;rw [List.getElem?_append] at h1 h2;rw [<-h.1] at h2;by_cases hi:i<a.length;rw [if_pos hi] at h1 h2;exact h.2 i v v' h1 h2;rw [if_neg hi] at h1 h2;exact k.2 _ v v' h1 h2
theorem iu.bg {m:Mp} {l l':List Value} (h:iu m l l') {i:Nat} {v:Value} (hi:l[i]? = some v):∃v',l'[i]? = some v'/\bB m v v':=by
 have bL:i<l'.length:=by rw [<-h.1];exact(List.getElem?_eq_some_iff.1 hi).1
 exact⟨l'[i],List.getElem?_eq_getElem bL,h.2 i v _ hi (List.getElem?_eq_getElem bL)⟩
theorem iu.lM {m:Mp} {v:Value} {l l':List Value} (h:iu m (v::l) l'):∃v' t',l'=v'::t'/\bB m v v'/\iu m l t':=by
 cases l' with
 | nil=>have:=h.1;simp at this
 | cons v' t'=>
   refine⟨v',t',rfl,h.2 0 v v' rfl rfl,⟨by have:=h.1;simpa using this,λi x x' h1 h2=>h.2 (i+1) x x' (by simpa using h1) (by simpa using h2)⟩⟩
theorem iu.pj {m:Mp} {l':List Value} (h:iu m [] l'):l'=[]:=by
 exact List.eq_nil_of_length_eq_zero h.1.symm
inductive dH where
 | cells (cs:List Value) (own:Bool) (unit:Nat)
 | map (es:List (Value×Value)) (own:Bool)
structure AW where
 next:Nat
 bg:Nat->Option dH
def AW.set (A:AW) (i:Nat) (o:Option dH):AW:={ A with bg:=λj=>if j=i then o else A.bg j }
def AW.alloc (A:AW) (o:dH):AW:={ next:=A.next+1,bg:=λj=>if j=A.next then some o else A.bg j }
def dH.own:dH->Bool
 | .cells _ o _=>o
 | .map _ o=>o
def m9 (m:Mp) (w:World) (p:Pl):dH->Prop
 | .cells cs own unit=>∃io e fr,w.heap[p.block]? = some (.cells io e fr)/\(own=true->fr=(0,0))/\unit=p.unit/\io.size=p.xE/\
  ∀(k:Nat) (v:Value),cs[k]? = some v->∃v',io[p.base+k]? = some v'/\bB m v v'
 | .map es0 _=>∃kM aw es,es0.Perm es/\w.heap[p.block]? = some (.map kM aw)/\es.length=kM.size/\
  ∀(k:Nat) (x:Value×Value) (e:MapEntry),es[k]? = some x->kM[k]? = some e->bB m x.1 e.key/\bB m x.2 e.val
theorem m9.heap {m:Mp} {w w':World} {p:Pl} {o:dH} (h:m9 m w p o) (e:w'.heap[p.block]? = w.heap[p.block]?):m9 m w' p o:=by
 cases o with
 | cells cs own unit=>
   obtain⟨io,e',fr,h3,h4⟩:=h;exact⟨io,e',fr,by rw [e];exact h3,h4⟩
 | map es own=>
   obtain⟨kM,aw,xn,hp,h3,h4⟩:=h;exact⟨kM,aw,xn,hp,by rw [e];exact h3,h4⟩
theorem m9.mono {m m':Mp} {w:World} {p:Pl} {o:dH} (hm:Mp.le m m') (h:m9 m w p o):m9 m' w p o:=by
 cases o with
 | cells cs own unit=>
   obtain⟨io,e',fr,h3,h4,h5,h6,h7⟩:=h;refine⟨io,e',fr,h3,h4,h5,h6,λk v hv=>?_⟩;obtain⟨v',h8,h9⟩:=h7 k v hv;exact⟨v',h8,h9.mono hm⟩
 | map es own=>
   obtain⟨kM,aw,xn,hp,h3,h4,h5⟩:=h;exact⟨kM,aw,xn,hp,h3,h4,λk x e a b=>⟨(h5 k x e a b).1.mono hm,(h5 k x e a b).2.mono hm⟩⟩
theorem m9.lt {m:Mp} {w:World} {p:Pl} {o:dH} (h:m9 m w p o):p.block<w.heap.size:=by
 cases o with
 | cells cs own unit=>
   obtain⟨io,e',fr,h3,_⟩:=h;exact(Array.getElem?_eq_some_iff.1 h3).1
 | map es own=>
   obtain⟨kM,aw,xn,_,h3,_⟩:=h;exact(Array.getElem?_eq_some_iff.1 h3).1
class Gl where
 B:Nat->Option Obj
 ok:Nat->Bool:=λ_=>false
 N:Nat:=0
 lt:∀g,ok g=true->g<N:=by simp
variable [Gl]
def Lz (g:Nat):Nat:=match Gl.B g with|some (.cells io _ _)=>io.size|_=>0
def JP (m:Mp):Prop:=∀g,Gl.ok g=true->m g=some ⟨g,0,1,Lz g⟩
theorem JP.mono {m m':Mp} (hm:Mp.le m m') (h:JP m):JP m':=λg hg=>hm _ _ (h g hg)
structure jM (m:Mp) (A:AW) (w:World):Prop where
 Ev:∀i o,A.bg i=some o->∃p,m i=some p/\m9 m w p o
 inj:∀i j o o' p p',A.bg i=some o->o.own=true->A.bg j=some o'->i≠j->m i=some p->m j=some p'->p.block≠p'.block
 qW:∀i,A.next<=i->m i=none
 xz:∀i,A.next<=i->A.bg i=none
 laid:∀b x,Gl.B b=some x->w.heap[b]? = some x
 yf:∀i o p,A.bg i=some o->o.own=true->m i=some p->Gl.B p.block=none
 uu:JP m
def RM (m:Mp) (A:AW) (b:Nat):Prop:=∃i o p,A.bg i=some o/\o.own=true/\m i=some p/\p.block=b
def Nd (m:Mp) (A:AW) (b:Nat):Prop:=∃i o p,A.bg i=some o/\m i=some p/\p.block=b
structure jN (m:Mp) (A:AW) (w:World) (m':Mp) (A':AW) (w':World):Prop where
 ext:Mp.le m m'
 DV:jM m' A' w'
 next:A.next<=A'.next
 os:w'.os=w.os
 tape:w'.tape=w.tape
 output:w'.output=w.output
 size:w.heap.size<=w'.heap.size
 tk:∀b,b<w.heap.size->¬RM m A b->w'.heap[b]? = w.heap[b]?
 grow:∀b,RM m' A' b->RM m A b\/w.heap.size<=b
 oK:∀i,i<A.next->m' i=m i
 Sf:∀b,Nd m' A' b->Nd m A b\/w.heap.size<=b\/Gl.B b≠none
theorem jN.refl {m:Mp} {A:AW} {w:World} (h:jM m A w):jN m A w m A w:=
 ⟨Mp.le_refl m,h,Nat.le_refl _,rfl,rfl,rfl,Nat.le_refl _,λ_ _ _=>rfl,λ_ h=>.inl h,λ_ _=>rfl,λ_ h=>.inl h⟩
theorem jN.trans {m m1 m2:Mp} {A A1 A2:AW} {w w1 w2:World} (h:jN m A w m1 A1 w1) (k:jN m1 A1 w1 m2 A2 w2):jN m A w m2 A2 w2:=by
 refine⟨Mp.le_trans h.ext k.ext,k.DV,Nat.le_trans h.next k.next,k.os.trans h.os,k.tape.trans h.tape,k.output.trans h.output,Nat.le_trans h.size k.size,?_,?_,λi hi=>(k.oK i (Nat.lt_of_lt_of_le hi h.next)).trans (h.oK i hi),?_⟩;intro b hb ho;rw [k.tk b (Nat.lt_of_lt_of_le hb h.size) (λhx=>?_),h.tk b hb ho];rcases h.grow b hx with h1|h1;exact ho h1;omega;intro b hb;rcases k.grow b hb with h1|h1;exact h.grow b h1;exact .inr (Nat.le_trans h.size h1);intro b hb;rcases k.Sf b hb with h1|h1|h1;exact h.Sf b h1;exact .inr (.inl (Nat.le_trans h.size h1));exact .inr (.inr h1)
theorem jM.GB {m:Mp} {A:AW} {w w':World} (h:jM m A w) (e:w'.heap=w.heap):jM m A w':=by
 refine⟨λi o hi=>?_,h.inj,h.qW,h.xz,λb x hb=>by rw [e];exact h.laid b x hb,h.yf,h.uu⟩;obtain⟨p,h1,h2⟩:=h.Ev i o hi;exact⟨p,h1,h2.heap (by rw [e])⟩
theorem jN.drew {m:Mp} {A:AW} {w:World} (h:jM m A w):jN m A w m A w.drew:=
 ⟨Mp.le_refl m,h.GB rfl,Nat.le_refl _,rfl,rfl,rfl,Nat.le_refl _,λ_ _ _=>rfl,λ_ h=>.inl h,λ_ _=>rfl,λ_ h=>.inl h⟩
end Go.Stx
namespace Go.Stx
open Go
variable [Gl]
theorem mX (a:Addr) (n:Nat) (h:a.spot=none):a.add n=⟨a.block,a.off+n,none⟩:=by
 obtain⟨b,o,s⟩:=a;simp only at h;subst h;unfold Addr.add;split;rename_i h0;subst h0;rfl;rfl
theorem yR (a:Addr) (h:a.spot=none):a=⟨a.block,a.off,none⟩:=by
 obtain⟨b,o,s⟩:=a;simp only at h;subst h;rfl
theorem bB.xR {m:Mp} {v v':Value} (h:bB m v v'):v'.oneCell'=v.oneCell':=by cases h<;>rfl
theorem bB.cells {m:Mp} {v v':Value} (h:bB m v v'):iu m v.cells.toList v'.cells.toList:=by
 have h0:=h;cases h with
 | agg hx h1=>exact⟨by simpa [Value.cells] using hx,λi x x' a b=>h1 i x x' (by simpa [Value.cells] using a) (by simpa [Value.cells] using b)⟩
 | _=>exact .cons h0 .nil
def AW.bP (A:AW) (i:Nat):Option (List Value):=
 match A.bg i with
 | some (.cells cs _ _)=>some cs
 | _=>none
theorem yH {m:Mp} {A:AW} {w:World} (hs:jM m A w) {a a':Addr} (ha:pz m a a') {cs:List Value} (hr:A.bP a.block=some cs) {k:Nat} {v:Value}
 (hv:cs[a.off+k]? = some v):∃v',w.cell? (a'.add k)=some v'/\bB m v v':=by
 obtain⟨h1,h2,p,h3,hb,h4⟩:=ha;unfold AW.bP at hr;split at hr;rename_i ru own unit hg;simp only [Option.some.injEq] at hr;subst hr;obtain⟨p',h5,io,e,fr,h6,_,_,_,h7⟩:=hs.Ev _ _ hg;rw [h3] at h5;simp only [Option.some.injEq] at h5;subst h5;obtain⟨v',h8,h9⟩:=h7 _ _ hv;refine⟨v',?_,h9⟩;rw [mX _ _ h2];simp only [World.cell?,hb,h6,Option.isSome_none,Bool.false_eq_true,if_false];rw [h4,Nat.add_assoc];exact h8;simp at hr
theorem Qe {P:Program} {m:Mp} {A:AW} {w:World} (hs:jM m A w) {a a':Addr} (ha:pz m a a') {cs:List Value} (hr:A.bP a.block=some cs) {v:Value}
 (hv:cs[a.off]? = some v):∃v',(load a').run P w=.ok v' w/\bB m v v':=by
 obtain⟨v',h1,h2⟩:=yH hs ha hr (k:=0) (by simpa using hv);refine⟨v',?_,h2⟩;have e:a'.add 0=a':=by unfold Addr.add;simp
 rw [e] at h1;rw [run_load,h1]
theorem ED {P:Program} {m:Mp} {A:AW} {w:World} (hs:jM m A w) {a a':Addr} (ha:pz m a a') {cs:List Value} (hr:A.bP a.block=some cs) (n:Nat)
 (hn:a.off+n<=cs.length):∃l',(loadCells a' n).run P w=.ok l'.toArray w/\iu m ((cs.drop a.off).take n) l':=by
 have h:∀j,j<n->∃v',w.cell? (a'.add j)=some v'/\bB m (cs.getD (a.off+j) undef) v':=λj hj=>
  yH hs ha hr (by rw [List.getD_eq_getElem?_getD,List.getElem?_eq_getElem (by omega)];rfl)
 let f:Nat->Value:=λj=>(w.cell? (a'.add j)).getD undef
 have hf:∀j,j<n->w.cell? (a'.add j)=some (f j):=λj hj=>by
  obtain⟨v',h1,_⟩:=h j hj;simp [f,h1]
 refine⟨(List.range n).map f,run_loadCells w a' n f hf,?_,?_⟩;simp;omega;intro i v v' h1 h2;have hi:i<n:=by
  have:=(List.getElem?_eq_some_iff.1 h2).1
  simpa using this
 obtain⟨v1,h3,h4⟩:=h i hi;have e1:cs.getD (a.off+i) undef=v:=by
  rw [List.getElem?_take_of_lt hi,List.getElem?_drop] at h1;rw [List.getD_eq_getElem?_getD,h1];rfl
 have e2:v'=v1:=by
  simp [hi,f,h3] at h2;exact h2.symm
 rw [e1] at h4;rw [e2];exact h4
def fh (cs:List Value) (off:Nat):List Value->List Value
 | []=>cs
 | v::vs=>fh (cs.set off v) (off+1) vs
theorem Bi (vs:List Value):∀(cs:List Value) (off:Nat),(fh cs off vs).length=cs.length:=by
 induction vs with
 | nil=>intro cs off;rfl
 | cons v vs ih=>intro cs off;simp [fh,ih]
theorem AW.cm {A:AW} {i:Nat} {o:Option dH}:(A.set i o).bg i=o:=by simp [AW.set]
theorem AW.aY {A:AW} {i j:Nat} {o:Option dH} (h:j≠i):(A.set i o).bg j=A.bg j:=by simp [AW.set,h]
theorem AW.set_set {A:AW} {i:Nat} {o o':Option dH}:(A.set i o).set i o'=A.set i o':=by
 unfold AW.set;congr 1;funext j;dsimp only;split<;>rfl
theorem AW.Pv {A:AW} {i:Nat} {o:Option dH} (h:A.bg i=o):A.set i o=A:=by
 obtain⟨n,g⟩:=A;unfold AW.set;simp only at h ⊢;congr 1;funext j;split;rename_i e;rw [e,h];rfl
theorem jN.tV {m:Mp} {A:AW} {w w':World} (hs:jM m A w) {i:Nat} {p:Pl} {o0 o1:dH}
 (hg:A.bg i=some o0) (I0:o0.own=true) (jg:o1.own=true) (hm:m i=some p)
 (tI:w'.heap.size=w.heap.size) (SV:w'.os=w.os) (ht:w'.tape=w.tape) (ho:w'.output=w.output)
 (hb:m9 m w' p o1) (sP:∀j,j≠p.block->w'.heap[j]? = w.heap[j]?) :
 jN m A w m (A.set i (some o1)) w':=by
 refine⟨Mp.le_refl m,⟨?_,?_,hs.qW,?_,?_,?_,hs.uu⟩,Nat.le_refl _,SV,ht,ho,by omega,?_,?_,λ_ _=>rfl,?_⟩
 rotate_left 3
 intro b x ur;rw [sP b (λe=>by have:=hs.yf i o0 p hg I0 hm;rw [<-e,ur] at this;cases this)];exact hs.laid b x ur;intro j o p' hj y6 rE;by_cases mM:j=i;subst mM;exact hs.yf j o0 p' hg I0 rE;rw [AW.aY mM] at hj;exact hs.yf j o p' hj y6 rE
 rotate_left 3
 intro j o hj;by_cases mM:j=i;subst mM;rw [AW.cm] at hj;simp only [Option.some.injEq] at hj;subst hj;exact⟨p,hm,hb⟩;rw [AW.aY mM] at hj;obtain⟨p',h1,h2⟩:=hs.Ev j o hj;have hU:p'.block≠p.block:=λe'=>hs.inj i j _ o p p' hg I0 hj (Ne.symm mM) hm h1 e'.symm;exact⟨p',h1,h2.heap (sP _ hU)⟩;intro j j' o o' p1 p2 hj y6 tm hU GQ YI;by_cases mM:j=i;subst mM;rw [AW.aY (Ne.symm hU)] at tm;exact hs.inj j j' _ o' p1 p2 hg I0 tm hU GQ YI;rw [AW.aY mM] at hj;by_cases hj'i:j'=i;subst hj'i;exact hs.inj j j' o _ p1 p2 hj y6 hg hU GQ YI;rw [AW.aY hj'i] at tm;exact hs.inj j j' o o' p1 p2 hj y6 tm hU GQ YI;intro j hj;have mM:j≠i:=λe=>by
  subst e;rw [hs.xz j hj] at hg;cases hg
 rw [AW.aY mM];exact hs.xz j hj;intro b' _ SW;refine sP b' (λe'=>SW ?_);subst e';exact⟨i,_,p,hg,I0,hm,rfl⟩;rintro b' ⟨j,o,p',hj,y6,rE,ur⟩;by_cases mM:j=i;subst mM;exact .inl ⟨j,_,p',hg,I0,rE,ur⟩;rw [AW.aY mM] at hj;exact .inl ⟨j,o,p',hj,y6,rE,ur⟩;rintro b' ⟨j,o,p',hj,rE,ur⟩;by_cases mM:j=i;subst mM;exact .inl ⟨j,_,p',hg,rE,ur⟩;rw [AW.aY mM] at hj;exact .inl ⟨j,o,p',hj,rE,ur⟩
theorem jN.set {m:Mp} {A:AW} {w w':World} (hs:jM m A w) {i:Nat} {p:Pl} {cs ru:List Value} {unit:Nat} {Dp:Array Value} {e:TypeId}
 (hg:A.bg i=some (.cells cs true unit)) (hm:m i=some p) (hu:unit=p.unit)
 (tI:w'.heap.size=w.heap.size) (SV:w'.os=w.os) (ht:w'.tape=w.tape) (ho:w'.output=w.output)
 (hb:w'.heap[p.block]? = some (.cells Dp e (0,0))) (xg:Dp.size=p.xE) (sP:∀j,j≠p.block->w'.heap[j]? = w.heap[j]?)
 (up:∀(k:Nat) (v:Value),ru[k]? = some v->∃v',Dp[p.base+k]? = some v'/\bB m v v') :
 jN m A w m (A.set i (some (.cells ru true unit))) w':=
 jN.tV hs hg rfl rfl hm tI SV ht ho ⟨Dp,e,(0,0),hb,λ_=>rfl,hu,xg,up⟩ sP
theorem Kb {P:Program} {m:Mp} {A:AW} {w:World} (hs:jM m A w) {i k unit:Nat} {p:Pl} {cs:List Value} (hg:A.bg i=some (.cells cs true unit))
 (hm:m i=some p) (hk:k<cs.length) {v v':Value} (hv:bB m v v') (h1:v.oneCell'=true) :
 ∃w',(store ⟨p.block,p.base+k,none⟩ v').run P w=.ok () w'/\jN m A w m (A.set i (some (.cells (cs.set k v) true unit))) w':=by
 obtain⟨p1,h2,io,e,fr,h3,h4,hu,xg,h5⟩:=hs.Ev i _ hg;rw [hm] at h2;simp only [Option.some.injEq] at h2;subst h2;have sd:=h4 rfl;subst sd;obtain⟨u,h6,_⟩:=h5 k cs[k] (List.getElem?_eq_getElem hk);have bL:p.base+k<io.size:=(Array.getElem?_eq_some_iff.1 h6).1;have hcell:w.cell? ⟨p.block,p.base+k,none⟩=some u:=by simp [World.cell?,h3,h6]
 have hfz:w.frozen? ⟨p.block,p.base+k,none⟩=false:=by simp [World.frozen?,h3]
 refine⟨w.setCell ⟨p.block,p.base+k,none⟩ v',?_,?_⟩;rw [run_store P w _ _ _ (by rw [hv.xR];exact h1),hcell];simp [hfz];refine jN.set hs (Dp:=io.setIfInBounds (p.base+k) v') (e:=e) hg hm hu (by simp) rfl rfl rfl ?_ (by simpa using xg) ?_ ?_;simp only [World.setCell,Array.getElem?_modify,h3];simp;intro j hj;simp only [World.setCell,Array.getElem?_modify];rw [if_neg (by omega)];intro j x hx;by_cases hjk:k=j;subst hjk;rw [List.getElem?_set_self hk] at hx;simp only [Option.some.injEq] at hx;subst hx;exact⟨v',by simp [bL],hv⟩;rw [List.getElem?_set_ne hjk] at hx;obtain⟨x',h7,h8⟩:=h5 j x hx;exact⟨x',by rw [Array.getElem?_setIfInBounds_ne (by omega)];exact h7,h8⟩
theorem pQ {P:Program} {m:Mp} {i o unit:Nat} {p:Pl} (hm:m i=some p):∀(vs Al:List Value) (k:Nat) (cs:List Value) (A:AW) (w:World),
 jM m A w->A.bg i=some (.cells cs true unit)->iu m vs Al->(∀v∈vs,v.oneCell'=true)->o+k+vs.length<=cs.length->
 ∃w',(storeCells ⟨p.block,p.base+o,none⟩ Al k).run P w=.ok () w'/\jN m A w m (A.set i (some (.cells (fh cs (o+k) vs) true unit))) w'
 | [],Al,k,cs,A,w,hs,hg,hl,_,_=>by
   have e:=hl.pj;subst e;refine⟨w,rfl,?_⟩;rw [fh,AW.Pv hg];exact jN.refl hs
 | v::vs,Al,k,cs,A,w,hs,hg,hl,h1,bG=>by
   obtain⟨v',t',rfl,hv,ht⟩:=hl.lM;simp only [List.length_cons] at bG;obtain⟨w1,CX,WF⟩:=Kb (P:=P) hs hg hm (k:=o+k) (by omega) hv (h1 v (by simp))
   obtain⟨w2,VT,LK⟩:=pQ (P:=P) (o:=o) hm vs t' (k+1) (cs.set (o+k) v) _ w1 WF.DV AW.cm ht (λx hx=>h1 x (by simp [hx]))
    (by simp;omega)
   refine⟨w2,?_,?_⟩;have ea:(⟨p.block,p.base+o,none⟩:Addr).add k=⟨p.block,p.base+(o+k),none⟩:=(by rw [mX _ _ rfl];simp [Nat.add_assoc]);simp only [storeCells,Sem.run_bind,ea,CX,Result.andThen_ok,VT];have:=WF.trans LK;rw [AW.set_set] at this;rw [fh,show o+k+1=o+(k+1) by omega];exact this
theorem yq (w:World) (o:Obj) (i:Nat) (h:i<w.heap.size):(w.alloc o).heap[i]? = w.heap[i]?:=by
 show (w.heap.push o)[i]? = _;rw [Array.getElem?_push,if_neg (by omega)]
theorem yr (w:World) (o:Obj):(w.alloc o).heap[w.heap.size]? = some o:=by
 show (w.heap.push o)[w.heap.size]? = _;simp
def Mp.ext (m:Mp) (i:Nat) (x:Pl):Mp:=λj=>if j=i then some x else m j
theorem jM.CJ {m:Mp} {A:AW} {w:World} (hs:jM m A w) (x:Pl):Mp.le m (m.ext A.next x):=by
 intro i y h;unfold Mp.ext;split;rename_i e;rw [e,hs.qW A.next (Nat.le_refl _)] at h;cases h;exact h
theorem jM.jK {m:Mp} {A:AW} {w:World} (hs:jM m A w) {j:Nat} {o:dH} {p:Pl} (h:A.bg j=some o) (hm:m j=some p):p.block<w.heap.size:=by
 obtain⟨p1,h1,h2⟩:=hs.Ev j o h;rw [hm] at h1;simp only [Option.some.injEq] at h1;subst h1;exact h2.lt
theorem jN.Q4 {m:Mp} {A:AW} {w w':World} (hs:jM m A w) (o1:dH) (p:Pl)
 (SV:w'.os=w.os) (ht:w'.tape=w.tape) (ho:w'.output=w.output) (tI:w.heap.size<=w'.heap.size)
 (Qr:∀b,b<w.heap.size->w'.heap[b]? = w.heap[b]?) (hp:w.heap.size<=p.block) (hb:m9 m w' p o1) :
 jN m A w (m.ext A.next p) (A.alloc o1) w':=by
 have eJ:=hs.CJ p;have fe:∀{j o},A.bg j=some o->j≠A.next:=λ{j o} h e=>by
  subst e;rw [hs.xz _ (Nat.le_refl _)] at h;cases h
 have qy:∀{j},j≠A.next->(m.ext A.next p) j=m j:=λ{j} h=>by simp [Mp.ext,h]
 have rp:∀{j},j≠A.next->(A.alloc o1).bg j=A.bg j:=λ{j} h=>by simp [AW.alloc,h]
 have xd:(m.ext A.next p) A.next=some p:=by simp [Mp.ext]
 have Oi:(A.alloc o1).bg A.next=some o1:=by simp [AW.alloc]
 refine⟨eJ,⟨?_,?_,?_,?_,?_,?_,hs.uu.mono eJ⟩,by simp [AW.alloc],SV,ht,ho,tI,λb hb _=>Qr b hb,?_,λi hi=>qy (by omega),?_⟩
 rotate_left 4
 intro b x ur;have h1:=hs.laid b x ur;rw [Qr b (Array.getElem?_eq_some_iff.1 h1).1];exact h1;intro j o p' hj y6 rE;by_cases hn:j=A.next
 . subst hn;rw [xd] at rE;simp only [Option.some.injEq] at rE;subst rE;cases hB:Gl.B p.block with
   | none=>rfl
   | some x=>have h1:=(Array.getElem?_eq_some_iff.1 (hs.laid _ x hB)).1;omega
 rw [rp hn] at hj;rw [qy hn] at rE;exact hs.yf j o p' hj y6 rE
 rotate_left 2
 intro j o hj;by_cases hn:j=A.next;subst hn;rw [Oi] at hj;simp only [Option.some.injEq] at hj;subst hj;exact⟨p,xd,hb.mono eJ⟩;rw [rp hn] at hj;obtain⟨p',h1,h2⟩:=hs.Ev j o hj;have bL:=hs.jK hj h1;exact⟨p',by rw [qy hn];exact h1,(h2.heap (Qr _ bL)).mono eJ⟩;intro i j o o' p1 p2 hi y6 hj hU zQ rE;by_cases vH:i=A.next;subst vH;rw [xd] at zQ;simp only [Option.some.injEq] at zQ;subst zQ;rw [rp (Ne.symm hU)] at hj;rw [qy (Ne.symm hU)] at rE;have:=hs.jK hj rE;omega;rw [rp vH] at hi;rw [qy vH] at zQ;by_cases Xp:j=A.next;subst Xp;rw [xd] at rE;simp only [Option.some.injEq] at rE;subst rE;have:=hs.jK hi zQ;omega;rw [rp Xp] at hj;rw [qy Xp] at rE;exact hs.inj i j o o' p1 p2 hi y6 hj hU zQ rE;intro i hi;have:i≠A.next:=by simp [AW.alloc] at hi;omega
 rw [qy this];exact hs.qW i (by simp [AW.alloc] at hi;omega);intro i hi;have:i≠A.next:=by simp [AW.alloc] at hi;omega
 rw [rp this];exact hs.xz i (by simp [AW.alloc] at hi;omega);rintro b ⟨i,o,p',hi,y6,hm,hb⟩;by_cases hn:i=A.next;subst hn;rw [xd] at hm;simp only [Option.some.injEq] at hm;subst hm;exact .inr (by omega);rw [rp hn] at hi;rw [qy hn] at hm;exact .inl ⟨i,o,p',hi,y6,hm,hb⟩;rintro b ⟨i,o,p',hi,hm,hb⟩;by_cases hn:i=A.next;subst hn;rw [xd] at hm;simp only [Option.some.injEq] at hm;subst hm;exact .inr (.inl (by omega));rw [rp hn] at hi;rw [qy hn] at hm;exact .inl ⟨i,o,p',hi,hm,hb⟩
theorem jN.qW {m:Mp} {A:AW} {w w':World} (hs:jM m A w) (cs:List Value) (own:Bool) (p:Pl) {io:Array Value} {e:TypeId} (unit:Nat)
 (SV:w'.os=w.os) (ht:w'.tape=w.tape) (ho:w'.output=w.output) (tI:w.heap.size<=w'.heap.size)
 (Qr:∀b,b<w.heap.size->w'.heap[b]? = w.heap[b]?) (hp:w.heap.size<=p.block) (hu:unit=p.unit)
 (hb:w'.heap[p.block]? = some (.cells io e (0,0))) (xg:io.size=p.xE)
 (up:∀(k:Nat) (v:Value),cs[k]? = some v->∃v',io[p.base+k]? = some v'/\bB m v v') :
 jN m A w (m.ext A.next p) (A.alloc (.cells cs own unit)) w':=
 jN.Q4 hs _ p SV ht ho tI Qr hp ⟨io,e,(0,0),hb,λ_=>rfl,hu,xg,up⟩
theorem jN.alloc {m:Mp} {A:AW} {w:World} (hs:jM m A w) (cs:List Value) (io:Array Value) (e:TypeId) (unit:Nat)
 (up:∀(k:Nat) (v:Value),cs[k]? = some v->∃v',io[k]? = some v'/\bB m v v') :
 jN m A w (m.ext A.next ⟨w.heap.size,0,unit,io.size⟩) (A.alloc (.cells cs true unit)) (w.alloc (.cells io e)):=
 jN.qW hs cs true ⟨w.heap.size,0,unit,io.size⟩ unit rfl rfl rfl (by simp) (λb hb=>yq w _ b hb) (Nat.le_refl _) rfl
  (yr w _) rfl (by simpa using up)
theorem pz.lK (m:Mp) (i:Nat) (p:Pl) (o:Nat):pz (m.ext i p) ⟨i,o,none⟩ ⟨p.block,p.base+o,none⟩:=⟨rfl,rfl,p,by simp [Mp.ext],rfl,rfl⟩
end Go.Stx
namespace Go.Stx
open Go
variable [Gl]
theorem jN.KW {m:Mp} {A:AW} {w:World} (hs:jM m A w) (i:Nat):jN m A w m (A.set i none) w:=by
 have key:∀{j o},(A.set i none).bg j=some o->A.bg j=some o:=λ{j o} h=>by
  by_cases hj:j=i;subst hj;rw [AW.cm] at h;cases h;rwa [AW.aY hj] at h
 refine⟨Mp.le_refl m,⟨λj o h=>hs.Ev j o (key h),λa b o o' p p' h1 h2 h3 h4 h5 h6=>hs.inj a b o o' p p' (key h1) h2 (key h3) h4 h5 h6,hs.qW,?_,hs.laid,λa o p h1 h2 h3=>hs.yf a o p (key h1) h2 h3,hs.uu⟩,
  Nat.le_refl _,rfl,rfl,rfl,Nat.le_refl _,λ_ _ _=>rfl,?_,λ_ _=>rfl,?_⟩
 intro j hj;by_cases mM:j=i;subst mM;exact AW.cm;rw [AW.aY mM];exact hs.xz j hj;rintro b ⟨j,o,p,h1,h2,h3,h4⟩;exact .inl ⟨j,o,p,key h1,h2,h3,h4⟩;rintro b ⟨j,o,p,h1,h2,h3⟩;exact .inl ⟨j,o,p,key h1,h2,h3⟩
theorem jN.ZE {m:Mp} {A:AW} {w w':World} (hs:jM m A w) {i:Nat} {p p':Pl} {cs ru:List Value} {unit:Nat} {Dp:Array Value} {e:TypeId}
 (hg:A.bg i=some (.cells cs true unit)) (hm:m i=some p) (EK:p'.block=p.block) (hu:unit=p'.unit)
 (tI:w'.heap.size=w.heap.size) (SV:w'.os=w.os) (ht:w'.tape=w.tape) (ho:w'.output=w.output)
 (hb:w'.heap[p.block]? = some (.cells Dp e (0,0))) (xg:Dp.size=p'.xE) (sP:∀j,j≠p.block->w'.heap[j]? = w.heap[j]?)
 (up:∀(k:Nat) (v:Value),ru[k]? = some v->∃v',Dp[p'.base+k]? = some v'/\bB m v v') :
 jN m A w (m.ext A.next p') ((A.set i none).alloc (.cells ru true unit)) w':=by
 have eJ:=hs.CJ p';have fe:∀{j o},A.bg j=some o->j≠A.next:=λ{j o} h e=>by
  subst e;rw [hs.xz _ (Nat.le_refl _)] at h;cases h
 have qy:∀{j},j≠A.next->(m.ext A.next p') j=m j:=λ{j} h=>by simp [Mp.ext,h]
 have xd:(m.ext A.next p') A.next=some p':=by simp [Mp.ext]
 have Oi:((A.set i none).alloc (.cells ru true unit)).bg A.next=some (.cells ru true unit):=by simp [AW.alloc,AW.set]
 have rp:∀{j o},j≠A.next->((A.set i none).alloc (.cells ru true unit)).bg j=some o->A.bg j=some o/\j≠i:=λ{j o} h1 h2=>by
  have e:((A.set i none).alloc (.cells ru true unit)).bg j=(A.set i none).bg j:=by
   exact if_neg h1
  rw [e] at h2;by_cases mM:j=i;subst mM;rw [AW.cm] at h2;cases h2;rw [AW.aY mM] at h2;exact⟨h2,mM⟩
 refine⟨eJ,⟨?_,?_,?_,?_,?_,?_,hs.uu.mono eJ⟩,by simp [AW.alloc,AW.set],SV,ht,ho,by omega,?_,?_,λj hj=>qy (by omega),?_⟩
 rotate_left 4
 intro b x ur;rw [sP b (λe=>by have:=hs.yf i _ p hg rfl hm;rw [<-e,ur] at this;cases this)];exact hs.laid b x ur;intro j o q hj y6 rE;by_cases hn:j=A.next;subst hn;rw [xd] at rE;simp only [Option.some.injEq] at rE;subst rE;rw [EK];exact hs.yf i _ p hg rfl hm;rw [qy hn] at rE;exact hs.yf j o q (rp hn hj).1 y6 rE
 rotate_left 3
 intro j o hj;by_cases hn:j=A.next;subst hn;rw [Oi] at hj;simp only [Option.some.injEq] at hj;subst hj;refine⟨p',xd,Dp,e,(0,0),by rw [EK];exact hb,λ_=>rfl,hu,xg,λk v hv=>?_⟩;obtain⟨v',h1,h2⟩:=up k v hv;exact⟨v',h1,h2.mono eJ⟩;obtain⟨tm,mM⟩:=rp hn hj;obtain⟨q,h1,h2⟩:=hs.Ev j o tm;have hU:q.block≠p.block:=λe'=>hs.inj i j _ o p q hg rfl tm (Ne.symm mM) hm h1 e'.symm;exact⟨q,by rw [qy hn];exact h1,(h2.heap (sP _ hU)).mono eJ⟩;intro a b o o' p1 p2 ha y6 ur hU Xl V3;by_cases Th:a=A.next;subst Th;rw [xd] at Xl;simp only [Option.some.injEq] at Xl;subst Xl;obtain⟨HR,vK⟩:=rp (Ne.symm hU) ur;rw [qy (Ne.symm hU)] at V3;rw [EK];exact hs.inj i b _ o' p p2 hg rfl HR (Ne.symm vK) hm V3;obtain⟨ha1,hai⟩:=rp Th ha;rw [qy Th] at Xl;by_cases QR:b=A.next;subst QR;rw [xd] at V3;simp only [Option.some.injEq] at V3;subst V3;rw [EK];exact hs.inj a i o _ p1 p ha1 y6 hg hai Xl hm;obtain⟨HR,_⟩:=rp QR ur;rw [qy QR] at V3
 exact hs.inj a b o o' p1 p2 ha1 y6 HR hU Xl V3;intro j hj;have:j≠A.next:=by simp [AW.alloc,AW.set] at hj;omega
 rw [qy this];exact hs.qW j (by simp [AW.alloc,AW.set] at hj;omega)
 . intro j hj;have h0:A.next+1<=j:=by simpa [AW.alloc,AW.set] using hj
   have h1:j≠A.next:=(by omega);cases hx:((A.set i none).alloc (.cells ru true unit)).bg j with
   | none=>rfl
   | some o=>
     have:=(rp h1 hx).1;rw [hs.xz j (by omega)] at this;cases this
 intro b' _ SW;refine sP b' (λe'=>SW ?_);subst e';exact⟨i,_,p,hg,rfl,hm,rfl⟩;rintro b ⟨j,o,q,hj,y6,rE,Y5⟩;by_cases hn:j=A.next;subst hn;rw [xd] at rE;simp only [Option.some.injEq] at rE;subst rE;exact .inl ⟨i,_,p,hg,rfl,hm,by rw [<-EK];exact Y5⟩;obtain⟨tm,_⟩:=rp hn hj;rw [qy hn] at rE;exact .inl ⟨j,o,q,tm,y6,rE,Y5⟩;rintro b ⟨j,o,q,hj,rE,Y5⟩;by_cases hn:j=A.next;subst hn;rw [xd] at rE;simp only [Option.some.injEq] at rE;subst rE;exact .inl ⟨i,_,p,hg,hm,by rw [<-EK];exact Y5⟩;obtain⟨tm,_⟩:=rp hn hj;rw [qy hn] at rE;exact .inl ⟨j,o,q,tm,rE,Y5⟩
theorem vR (cs:List Value) (o n:Nat) (j:Nat) (v:Value) (h:((cs.drop o).take n)[j]? = some v):cs[o+j]? = some v/\j<n:=by
 rw [List.getElem?_take] at h;split at h;rename_i hj;rw [List.getElem?_drop] at h;exact⟨h,hj⟩;cases h
theorem xH {m:Mp} {A:AW} {w:World} (hs:jM m A w) {a a':Addr} (ha:pz m a a') {cs:List Value} (hr:A.bP a.block=some cs) (n:Nat) (hn:a.off+n<=cs.length) :
 ∃l',l'.length=n/\iu m ((cs.drop a.off).take n) l'/\∀(j:Nat) (v:Value),l'[j]? = some v->w.cell? (a'.add j)=some v:=by
 have h:∀j,j<n->∃v',w.cell? (a'.add j)=some v'/\bB m (cs.getD (a.off+j) undef) v':=λj hj=>
  yH hs ha hr (by rw [List.getD_eq_getElem?_getD,List.getElem?_eq_getElem (by omega)];rfl)
 refine⟨(List.range n).map λj=>(w.cell? (a'.add j)).getD undef,by simp,⟨by simp;omega,?_⟩,?_⟩;intro i v v' h1 h2;obtain⟨h3,hi⟩:=vR _ _ _ _ _ h1;obtain⟨v1,h4,h5⟩:=h i hi;rw [List.getD_eq_getElem?_getD,h3] at h5;simp [hi,h4] at h2;subst h2;exact h5;intro j v hv;have hj:j<n:=by
  have:=(List.getElem?_eq_some_iff.1 hv).1
  simpa using this
 obtain⟨v1,h4,_⟩:=h j hj;simp [hj,h4] at hv;subst hv;exact h4
def fK (A:AW) (size:Nat) (x:Value):Option (Nat×List Value):=
 match x with
 | .slice none 0 0=>some (0,[])
 | .slice (some b) n _=>
   if n=0 then some (0,[]) else
   match A.bP b.block with
   | some cs=>if b.off+n*size<=cs.length then some (n,(cs.drop b.off).take (n*size)) else none
   | none=>none
 | _=>none
def gr (A:AW) (size:Nat) (s:Value):Option (Option Addr×Nat×List Value):=
 match s with
 | .slice none 0 0=>some (none,0,[])
 | .slice (some a) n c=>
   if a.spot.isSome/\c=0/\n=0 then some (none,0,[]) else
   match A.bg a.block with
   | some (.cells cs true unit)=>if unit=size/\a.off+n*size<=cs.length then some (some a,n,(cs.drop a.off).take (n*size)) else none
   | _=>none
 | _=>none
def eU (P:Program) (A:AW) (t u:TypeId) (s x:Value):Option (Value×AW):=
 match P.underlying t with
 | some (.slice e)=>
   match P.info? e with
   | some i=>
     match i.zero with
     | some z=>
       if z.cells.size=i.size/\0<i.size/\t=u then
        match fK A i.size x,gr A i.size s with
        | some (n,ng),some (base,k,sE)=>
          if n=0 then some (s,A)
          else if k+n<=140737488355328/\(k+n)*i.bytes<=140737488355328/\ng.all Value.oneCell' then
           some (.slice (some ⟨A.next,0,none⟩) (k+n) (k+n),
            ((match base with|some a=>A.set a.block none|none=>A)).alloc (.cells (sE++ng) true i.size))
          else none
        | _,_=>none
       else none
     | none=>none
   | none=>none
 | _=>none
theorem Bg {P:Program} (w:World) (t ty e:TypeId) (i:TypeInfo) (ht:P.underlying t=some (.slice e)) (hi:P.info? e=some i)
 (base:Option Addr) (n c:Nat) (hc:n<=c) (xb:Option Addr) (xc:Nat) :
 (Builtin.append_ #[t,t] ty #[.slice base n c,.slice xb 0 xc]).run P w=.ok (.slice base n c) w:=by
 cases base<;>cases xb<;>simp [Builtin.append_,run_underlying ht,sizeOf,typeInfo,hi,Builtin.lenOf,hc,Builtin.firstCells,loadCells,loadCellsFrom,storeCells]
theorem Hi {m:Mp} {A:AW} {w:World} (hs:jM m A w) {size n:Nat} {x x':Value} {ng:List Value} (h:fK A size x=some (n,ng)) (hx:bB m x x') :
 (n=0/\∃xb xc,x'=.slice xb 0 xc) \/
 (∃a c l',x'=.slice (some a) n c/\l'.length=n*size/\iu m ng l'/\∀(j:Nat) (v:Value),l'[j]? = some v->w.cell? (a.add j)=some v):=by
 unfold fK at h;split at h;simp only [Option.some.injEq,Prod.mk.injEq] at h;obtain⟨rfl,rfl⟩:=h;cases hx;exact .inl ⟨rfl,_,_,rfl⟩;rename_i b k c;split at h;rename_i h0;simp only [Option.some.injEq,Prod.mk.injEq] at h;obtain⟨rfl,rfl⟩:=h;subst h0;cases hx;exact .inl ⟨rfl,_,_,rfl⟩;rename_i h0;split at h;rename_i cs hr;split at h
 . rename_i eJ;simp only [Option.some.injEq,Prod.mk.injEq] at h;obtain⟨rfl,rfl⟩:=h;cases hx with
   | slice hh h1 h2=>
     rename_i a' iD;have ha:pz m b a':=by
      rcases hh with hh|hh;exact hh.RB;exact absurd hh.1 h0
     obtain⟨l',e1,e2,e3⟩:=xH hs ha hr (k*size) eJ;exact .inr ⟨a',iD,l',rfl,e1,e2,e3⟩
 cases h;cases h;cases h
theorem iu.aD {m:Mp} {l l':List Value} (h:iu m l l') (h1:∀v∈l,v.oneCell'=true):∀v∈l',v.oneCell'=true:=by
 intro v hv;obtain⟨i,hi⟩:=List.getElem?_of_mem hv;have bL:=(List.getElem?_eq_some_iff.1 hi).1;rw [<-h.1] at bL;have e:=List.getElem?_eq_getElem bL;rw [(h.2 i _ v e hi).xR];exact h1 _ (List.getElem_mem bL)
theorem wP {P:Program} (w:World) (t ty e:TypeId) (i:TypeInfo) (ht:P.underlying t=some (.slice e)) (hi:P.info? e=some i)
 (g o iX oH:Nat) (io:Array Value) (e':TypeId) (hg:w.heap[g]? = some (.cells io e' (0,0)))
 (a:Addr) (m c:Nat) (ng:List Value) (hl:ng.length=m*i.size) (iF:∀j u,ng[j]? = some u->w.cell? (a.add j)=some u) (h1:∀u∈ng,u.oneCell'=true)
 (CW:iX+m<=oH) (qf:o+iX*i.size+ng.length<=io.size) :
 (Builtin.append_ #[t,t] ty #[.slice (some ⟨g,o,none⟩) iX oH,.slice (some a) m c]).run P w =
  .ok (.slice (some ⟨g,o,none⟩) (iX+m) oH) (w.setRow g (io.toList.take (o+iX*i.size)++ng++io.toList.drop (o+iX*i.size+ng.length)).toArray):=by
 have hf:=run_firstCells_some (P:=P) w i.size m a m c ng hl iF;have dv:=run_storeCells_at P g (o+iX*i.size) e' ng 0 io w hg (by simpa using qf) h1;simp only [Nat.add_zero] at dv;have ea:(⟨g,o,none⟩:Addr).add (iX*i.size)=⟨g,o+iX*i.size,none⟩:=mX _ _ rfl;simp [Builtin.append_,run_underlying ht,sizeOf,typeInfo,hi,Builtin.lenOf,CW,hf,ea,dv]
theorem AS {P:Program} {m:Mp} {A:AW} {w:World} (hs:jM m A w) {ty e:TypeId} {i:TypeInfo} {z:Value} {ts:Array TypeId} {X:Value} {s s':Value} {n k:Nat} {ng l' sE:List Value} {base:Option Addr}
 (nA:z.cells.size=i.size)
 (DX:¬n=0) (HR:k+n<=140737488355328) (k7:(k+n)*i.bytes<=140737488355328) (lN:∀v∈ng,v.oneCell'=true) (hl:l'.length=n*i.size) (Lo:iu m ng l')
 (ho:gr A i.size s=some (base,k,sE)) (Lf:bB m s s')
 (Hnil:∀k',k'=0->k=0->(Builtin.append_ ts ty #[.slice none 0 0,X]).run P w=.ok (.slice (some ⟨w.heap.size,0,none⟩) n (grownCap w n 0 e)) (w.drew.alloc (.cells (l'.toArray++Builtin.zeroCells z.cells (grownCap w n 0 e-n)) e)))
 (UY:∀(b:Addr) (iX oH:Nat) (sE:List Value),iX=k->sE.length=iX*i.size->(∀(j:Nat) (v:Value),sE[j]? = some v->w.cell? (b.add j)=some v)->oH<iX+n->
  (Builtin.append_ ts ty #[.slice (some b) iX oH,X]).run P w=.ok (.slice (some ⟨w.heap.size,0,none⟩) (iX+n) (grownCap w (iX+n) oH e))
   (w.drew.alloc (.cells (sE.toArray++l'.toArray++Builtin.zeroCells z.cells (grownCap w (iX+n) oH e-(iX+n))) e)))
 (ZM:∀(g o iX oH:Nat) (io:Array Value) (e':TypeId),w.heap[g]? = some (.cells io e' (0,0))->iX+n<=oH->o+iX*i.size+l'.length<=io.size->
  (Builtin.append_ ts ty #[.slice (some ⟨g,o,none⟩) iX oH,X]).run P w=.ok (.slice (some ⟨g,o,none⟩) (iX+n) oH)
   (w.setRow g (io.toList.take (o+iX*i.size)++l'++io.toList.drop (o+iX*i.size+l'.length)).toArray)) :
 ∃v' w' m',(Builtin.append_ ts ty #[s',X]).run P w=.ok v' w'/\
  jN m A w m' ((match base with|some a=>A.set a.block none|none=>A).alloc (.cells (sE++ng) true i.size)) w'/\bB m' (.slice (some ⟨A.next,0,none⟩) (k+n) (k+n)) v':=by
 have Ux:=Lo.aD lN
 have Jf:∀(fe:Nat) (A0:AW) (N0:jM m A0 w) (DX:A0.next=A.next) (lo:List Value) (u7:iu m sE lo) (bG:lo.length=k*i.size),
  jN m A0 w (m.ext A.next ⟨w.heap.size,0,i.size,(lo.toArray++l'.toArray++Builtin.zeroCells z.cells (grownCap w (k+n) fe e-(k+n))).size⟩)
   (A0.alloc (.cells (sE++ng) true i.size)) (w.drew.alloc (.cells (lo.toArray++l'.toArray++Builtin.zeroCells z.cells (grownCap w (k+n) fe e-(k+n))) e))/\
   bB (m.ext A.next ⟨w.heap.size,0,i.size,(lo.toArray++l'.toArray++Builtin.zeroCells z.cells (grownCap w (k+n) fe e-(k+n))).size⟩)
    (.slice (some ⟨A.next,0,none⟩) (k+n) (k+n)) (.slice (some ⟨w.heap.size,0,none⟩) (k+n) (grownCap w (k+n) fe e)):=by
  intro fe A0 N0 hnx lo u7 bG;have Wg:=grownCap_ge w (k+n) fe e;constructor;have NZ:jM m A0 w.drew:=N0.GB rfl;have ev:=jN.alloc NZ (sE++ng) (lo.toArray++l'.toArray++Builtin.zeroCells z.cells (grownCap w (k+n) fe e-(k+n))) e i.size (λj v hv=>by
   obtain⟨v',h1,h2⟩:=(u7.append Lo).bg hv;refine⟨v',?_,h2⟩;have bL:=(List.getElem?_eq_some_iff.1 h1).1;rw [Array.getElem?_append_left (by simpa using bL)]
   simpa using h1)
  rw [hnx] at ev;exact(jN.drew N0).trans ev;refine .slice (.inl ⟨rfl,rfl,⟨w.heap.size,0,i.size,(lo.toArray++l'.toArray++Builtin.zeroCells z.cells (grownCap w (k+n) fe e-(k+n))).size⟩,if_pos rfl,rfl,rfl,?_⟩) (Nat.le_refl _) Wg;simp only [Array.size_append,List.size_toArray,size_zeroCells,bG,hl,nA,<-Nat.add_mul];rw [show k+n+(grownCap w (k+n) fe e-(k+n))=grownCap w (k+n) fe e by omega];omega
 unfold gr at ho;split at ho
 .
  simp only [Option.some.injEq,Prod.mk.injEq] at ho;obtain⟨rfl,rfl,rfl⟩:=ho;cases Lf;have hr:=Hnil 0 rfl rfl;obtain⟨g1,g2⟩:=Jf 0 A hs rfl [] iu.nil (by simp);simp only [Nat.zero_add,ag,Array.empty_append] at g1 g2 ⊢;exact⟨_,_,_,hr,g1,g2⟩
 . rename_i sa k0 c0;split at ho
   .
    rename_i MF;obtain⟨hx1,Yo,hx3⟩:=MF;subst Yo;subst hx3;simp only [Option.some.injEq,Prod.mk.injEq] at ho;obtain⟨rfl,rfl,rfl⟩:=ho;cases Lf with
    | slice hh h1 h2=>
      rename_i a' iD;have GU:iD=0:=by
       rcases hh with hh|hh;have h9:=hh.1;rw [h9] at hx1;cases hx1;exact hh.2.1
      subst GU;have hr:=UY a' 0 0 [] rfl (by simp) (λj u h=>by simp at h) (by omega);obtain⟨g1,g2⟩:=Jf 0 A hs rfl [] iu.nil (by simp);simp only [Nat.zero_add,ag,Array.empty_append] at g1 g2 hr ⊢;exact⟨_,_,_,hr,g1,g2⟩
   split at ho<;>try(cases ho;done)
   rename_i cs unit hg;split at ho<;>try(cases ho;done)
   rename_i yu;obtain⟨rfl,qf⟩:=yu;simp only [Option.some.injEq,Prod.mk.injEq] at ho;obtain⟨rfl,rfl,rfl⟩:=ho;cases Lf with
   | slice hh h1 h2=>
     rename_i a' iD;have bI:A.bP sa.block=some cs:=(by unfold AW.bP;rw [hg]);have holds:∃lo,lo.length=k0*i.size/\iu m ((cs.drop sa.off).take (k0*i.size)) lo/\∀(j:Nat) (v:Value),lo[j]? = some v->w.cell? (a'.add j)=some v:=by
      rcases hh with hh|⟨rfl,_⟩;exact xH hs hh.RB bI (k0*i.size) qf;exact⟨[],by simp,by simp [iu.nil],by simp⟩
     obtain⟨lo,V6,YN,YM⟩:=holds;by_cases CW:k0+n<=iD
     .
      have YV:Ai m sa a' iD:=by
       rcases hh with hh|⟨_,Y4⟩;exact hh;omega
      obtain⟨xB,I1,p,hm,EK,hpo,hpt⟩:=YV;obtain⟨p',N7,io,e',fr,hw,sd,hpu,xg,xj⟩:=hs.Ev _ _ hg;rw [hm] at N7;simp only [Option.some.injEq] at N7;subst N7;obtain rfl:=sd rfl;obtain⟨sb,so,ss⟩:=a';simp only at EK hpo hpt I1;subst I1;have YX:so+k0*i.size+l'.length<=io.size:=by
       rw [xg,hl,Nat.add_assoc,<-Nat.add_mul];have:=Nat.mul_le_mul_right i.size CW;rw [<-hpu] at hpt;omega
      have i8:w.heap[sb]? = some (.cells io e' (0,0)):=(by rw [EK];exact hw);have hr:=ZM sb so k0 iD io e' i8 CW YX;have Y0:(io.toList.take (so+k0*i.size)++l'++io.toList.drop (so+k0*i.size+l'.length)).length=io.size:=by
       simp only [List.length_append,List.length_take,List.length_drop,Array.length_toList];omega
      refine⟨_,_,m.ext A.next ⟨p.block,so,i.size,p.xE⟩,hr,?_,?_⟩
      refine jN.ZE hs (p':=⟨p.block,so,i.size,p.xE⟩) (e:=e') hg hm rfl rfl (by simp) rfl rfl rfl
       (Dp:=(io.toList.take (so+k0*i.size)++l'++io.toList.drop (so+k0*i.size+l'.length)).toArray) ?_ ?_ ?_ ?_
      rw [<-EK];exact setRow_heap w sb io _ e' _ i8
      simpa [xg] using Y0
      intro j hj;exact setRow_other w sb j _ (by rw [EK];exact hj);intro j v hv;rw [List.getElem?_append] at hv;simp only [List.length_take,List.length_drop] at hv;have e1:min (k0*i.size) (cs.length-sa.off)=k0*i.size:=(by omega);rw [e1] at hv;by_cases hj:j<k0*i.size;rw [if_pos hj] at hv;obtain⟨h3,_⟩:=vR _ _ _ _ _ hv;obtain⟨v',h4,h5⟩:=xj _ _ h3;refine⟨v',?_,h5⟩;have bL:=(Array.getElem?_eq_some_iff.1 h4).1;simp only [List.getElem?_toArray,List.append_assoc];rw [List.getElem?_append_left (by simp;omega),List.getElem?_take_of_lt (by omega),Array.getElem?_toList,hpo,Nat.add_assoc];exact h4;rw [if_neg hj] at hv;obtain⟨v',h4,h5⟩:=Lo.bg hv;refine⟨v',?_,h5⟩;have bL:=(List.getElem?_eq_some_iff.1 h4).1;simp only [List.getElem?_toArray,List.append_assoc];have e2:(io.toList.take (so+k0*i.size)).length=so+k0*i.size:=(by simp;omega);rw [List.getElem?_append_right (by omega),e2,List.getElem?_append_left (by omega)]
      rw [show so+j-(so+k0*i.size)=j-k0*i.size by omega];exact h4;refine .slice (.inl ⟨rfl,rfl,⟨p.block,so,i.size,p.xE⟩,by simp [Mp.ext],EK,rfl,?_⟩) (Nat.le_refl _) CW
      simpa [hpu] using hpt
     .
      have hr:=UY a' k0 iD lo rfl V6 YM (by omega);have ek:=jN.KW hs sa.block;obtain⟨g1,g2⟩:=Jf iD (A.set sa.block none) ek.DV rfl lo YN V6;exact⟨_,_,_,hr,ek.trans g1,g2⟩
 cases ho
theorem Hg {P:Program} {m:Mp} {A A1:AW} {w:World} (hs:jM m A w) {t u ty:TypeId} {s x s' x' v:Value} (h:eU P A t u s x=some (v,A1))
 (Lf:bB m s s') (hvx:bB m x x') :
 ∃v' w' m',(Builtin.append_ #[t,u] ty #[s',x']).run P w=.ok v' w'/\jN m A w m' A1 w'/\bB m' v v':=by
 unfold eU at h;split at h<;>try(cases h;done)
 rename_i e hu;split at h<;>try(cases h;done)
 rename_i i hi;split at h<;>try(cases h;done)
 rename_i z hz;split at h<;>try(cases h;done)
 rename_i yt;obtain⟨nA,tI,rfl⟩:=yt;split at h<;>try(cases h;done)
 rename_i n ng base k sE hn ho;have iF:=Hi hs hn hvx;by_cases DX:n=0
 .
  subst DX;rw [if_pos rfl] at h;simp only [Option.some.injEq,Prod.mk.injEq] at h;obtain⟨rfl,rfl⟩:=h;have MF:∃xb xc,x'=.slice xb 0 xc:=by
   rcases iF with ⟨_,h1⟩|⟨a,c,l',h1,_⟩;exact h1;exact⟨_,_,h1⟩
  obtain⟨xb,xc,rfl⟩:=MF;have N0:∃b' n' c',s'=.slice b' n' c'/\n'<=c':=by
   unfold gr at ho;split at ho;cases Lf;exact⟨_,_,_,rfl,Nat.le_refl _⟩
   . cases Lf with
     | slice _ h1 h2=>exact⟨_,_,_,rfl,Nat.le_trans h1 h2⟩
   cases ho
  obtain⟨b',n',c',rfl,eJ⟩:=N0;exact⟨_,w,m,Bg w t ty e i hu hi b' n' c' eJ xb xc,jN.refl hs,Lf⟩
 rw [if_neg DX] at h;split at h
 case isFalse=>cases h
 rename_i hb;obtain⟨HR,k7,tL⟩:=hb;simp only [Option.some.injEq,Prod.mk.injEq] at h;obtain⟨rfl,rfl⟩:=h;rcases iF with ⟨h0,_⟩|⟨a,c,l',rfl,hl,Lo,N8⟩;exact absurd h0 DX;have lN:∀v∈ng,v.oneCell'=true:=by simpa using tL
 have Ux:=Lo.aD lN
 refine AS hs (e:=e) (i:=i) (z:=z) nA DX HR k7 lN hl Lo ho Lf
  (λ_ _ hk=>run_append_nil (P:=P) w t ty e i z hu hi hz a n c l' hl N8 (by omega) (by omega) (by subst hk;simp only [Nat.zero_add] at k7;omega))
  (λb iX oH lo hk h1 h2 h3=>run_append_grow (P:=P) w t ty e i z hu hi hz b iX oH lo h1 h2 a n c l' hl N8 h3 (by omega) (growslice_fits h3 (by subst hk;exact k7)))
  (λg o iX oH io e' h1 h2 h3=>wP (P:=P) w t ty e i hu hi g o iX oH io e' h1 a n c l' hl N8 Ux h2 h3)
end Go.Stx
namespace Go.Stx
open Go
variable [Gl]
def Br (op:BinOp) (k:IntKind) (x y:Int):Option Value:=
 match op with
 | .add=>some (.int k (k.wrap (x+y)))
 | .sub=>some (.int k (k.wrap (x-y)))
 | .mul=>some (.int k (k.wrap (x*y)))
 | .quo=>if y=0 then none else some (.int k (k.wrap (x.tdiv y)))
 | .rem=>if y=0 then none else some (.int k (x.tmod y))
 | .eql=>some (.bool (decide (x=y)))
 | .neq=>some (.bool (!decide (x=y)))
 | .lss=>some (.bool (decide (x<y)))
 | .leq=>some (.bool (decide (x<=y)))
 | .gtr=>some (.bool (decide (y<x)))
 | .geq=>some (.bool (decide (y<=x)))
 | .and=>some (.int k (k.wrap (BitVec.ofInt k.bits x &&& BitVec.ofInt k.bits y).toNat))
 | .or=>some (.int k (k.wrap (BitVec.ofInt k.bits x ||| BitVec.ofInt k.bits y).toNat))
 | .xor=>some (.int k (k.wrap (BitVec.ofInt k.bits x ^^^ BitVec.ofInt k.bits y).toNat))
 | .andNot=>some (.int k (k.wrap (BitVec.ofInt k.bits x &&& ~~~BitVec.ofInt k.bits y).toNat))
 | _=>none
def oN (op:BinOp) (k:IntKind) (x y:Int):Option Value:=
 if y<0 then none else
 match op with
 | .shl=>some (.int k (k.wrap (x*2 ^ (min y.toNat k.bits))))
 | .shr=>some (.int k (x.fdiv (2 ^ (min y.toNat k.bits))))
 | _=>none
def GK:BinOp->Bool
 | .shl | .shr=>true
 | _=>false
def TP (P:Program) (op:BinOp) (t:TypeId) (x y:Value):Option Value:=
 match x,y with
 | .int k a,.int k' b=>if GK op then oN op k a b else if k=k' then Br op k a b else none
 | .string a,.string b=>
   match op with
   | .eql=>some (.bool (a.toList == b.toList))
   | .neq=>some (.bool (!(a.toList == b.toList)))
   | .add=>if a.size+b.size<=9223372036854775807 then some (.string (a++b)) else none
   | _=>none
 | .bool a,.bool b=>
   match op,P.underlying t with
   | .eql,some .bool=>some (.bool (a == b))
   | .neq,some .bool=>some (.bool (!(a == b)))
   | _,_=>none
 | .pointer a,.pointer b=>
   if a.isSome && b.isSome then none else
   match op,P.underlying t with
   | .eql,some (.pointer _)=>some (.bool (a.isNone && b.isNone))
   | .neq,some (.pointer _)=>some (.bool (!(a.isNone && b.isNone)))
   | _,_=>none
 | _,_=>none
theorem Pz {P:Program} {op:BinOp} {k:IntKind} {a b:Int} {t:TypeId} {v:Value} (h0:GK op=false) (h:Br op k a b=some v) (w:World) :
 (binOp op t (.int k a) (.int k b)).run P w=.ok v w:=by
 cases op
 case add=>injection h with h;subst h;simp [binOp,Op.intArith]
 case sub=>injection h with h;subst h;simp [binOp,Op.intArith]
 case mul=>injection h with h;subst h;simp [binOp,Op.intArith]
 case quo=>
  by_cases hb:b=0;simp [Br,hb] at h;simp [Br,hb] at h;subst h;simp [binOp,Op.intDiv,hb]
 case rem=>
  by_cases hb:b=0;simp [Br,hb] at h;simp [Br,hb] at h;subst h;simp [binOp,Op.intDiv,hb]
 case and=>injection h with h;subst h;simp [binOp,Op.intBits]
 case or=>injection h with h;subst h;simp [binOp,Op.intBits]
 case xor=>injection h with h;subst h;simp [binOp,Op.intBits]
 case andNot=>injection h with h;subst h;simp [binOp,Op.intBits]
 case shl=>cases h0
 case shr=>cases h0
 case eql=>injection h with h;subst h;simp [binOp,Op.intCmp];rfl
 case neq=>injection h with h;subst h;simp [binOp,Op.intCmp];rfl
 case lss=>injection h with h;subst h;simp [binOp,Op.intCmp]
 case leq=>injection h with h;subst h;simp [binOp,Op.intCmp]
 case gtr=>injection h with h;subst h;simp [binOp,Op.intCmp]
 case geq=>injection h with h;subst h;simp [binOp,Op.intCmp]
theorem Kn {P:Program} {op:BinOp} {k k':IntKind} {a b:Int} {t:TypeId} {v:Value} (h:oN op k a b=some v) (w:World) :
 (binOp op t (.int k a) (.int k' b)).run P w=.ok v w:=by
 by_cases hb:b<0;simp [oN,hb] at h;cases op
 case shl=>simp [oN,hb] at h;subst h;simp [binOp,Op.shift,hb]
 case shr=>simp [oN,hb] at h;subst h;simp [binOp,Op.shift,hb]
 all_goals simp [oN] at h
theorem JI {op:BinOp} {k:IntKind} {a b:Int} {v:Value} (h:Br op k a b=some v) (m:Mp):bB m v v:=by
 cases op
 case quo=>
  by_cases hb:b=0;simp [Br,hb] at h;simp [Br,hb] at h;subst h;constructor
 case rem=>
  by_cases hb:b=0;simp [Br,hb] at h;simp [Br,hb] at h;subst h;constructor
 case shl=>cases h
 case shr=>cases h
 all_goals(injection h with h;subst h;constructor)
theorem EW {op:BinOp} {k:IntKind} {a b:Int} {v:Value} (h:oN op k a b=some v) (m:Mp):bB m v v:=by
 by_cases hb:b<0;simp [oN,hb] at h;cases op
 case shl=>simp [oN,hb] at h;subst h;constructor
 case shr=>simp [oN,hb] at h;subst h;constructor
 all_goals simp [oN] at h
theorem rK {P:Program} {t:TypeId} (d:Nat) (a b:Bool) (hu:P.underlying t=some .bool) (w:World) :
 (Op.equalIn (d+1) t (.bool a) (.bool b)).run P w=.ok (a == b) w:=by
 simp [Op.equalIn,run_underlying hu]
theorem jw {P:Program} {t e:TypeId} (d:Nat) (b:Option Addr) (hu:P.underlying t=some (.pointer e)) (w:World) :
 (Op.equalIn (d+1) t (.pointer none) (.pointer b)).run P w=.ok b.isNone w:=by
 simp [Op.equalIn,run_underlying hu]
theorem oQ {P:Program} {t e:TypeId} (d:Nat) (a:Addr) (hu:P.underlying t=some (.pointer e)) (w:World) :
 (Op.equalIn (d+1) t (.pointer (some a)) (.pointer none)).run P w=.ok false w:=by
 simp [Op.equalIn,run_underlying hu]
theorem fO {P:Program} {t:TypeId} {x y:Value} {r:Bool} {w:World} (h:(Op.equalIn (9999+1) t x y).run P w=.ok r w):(Op.equal t x y).run P w=.ok r w:=h
theorem Bf {P:Program} (op:BinOp) (t:TypeId) (xo yo:Operand) (k k':IntKind) (a b:Int) (w:World) :
 (eqGuard op t xo yo (.int k a) (.int k' b)).run P w=.ok () w:=by
 cases op<;>simp [eqGuard]
theorem L5 {P:Program} {op:BinOp} {t:TypeId} {x y v:Value} (h:TP P op t x y=some v) {m:Mp} {x' y':Value} (hx:bB m x x') (hy:bB m y y') (xo yo:Operand) (w:World) :
 (do eqGuard op t xo yo x' y';binOp op t x' y':Sem Value).run P w=.ok v w/\bB m v v:=by
 unfold TP at h;split at h
 .
  cases hx;cases hy;rw [Sem.run_bind,Bf,Result.andThen_ok];split at h;exact⟨Kn h w,EW h m⟩;rename_i hs;split at h;rename_i hk;subst hk;exact⟨Pz (by simpa using hs) h w,JI h m⟩;cases h
 .
  cases hx;cases hy;cases op
  case eql=>injection h with h;subst h;exact⟨by simp [eqGuard,binOp,Op.stringOp],by constructor⟩
  case neq=>injection h with h;subst h;exact⟨by simp [eqGuard,binOp,Op.stringOp],by constructor⟩
  case add=>
   rename_i a b;replace h:(if a.size+b.size<=9223372036854775807 then some (Value.string (a++b)) else none)=some v:=h;by_cases eJ:a.size+b.size<=9223372036854775807;rw [if_pos eJ] at h;injection h with h;subst h;refine⟨?_,by constructor⟩;have:¬(((a.size+b.size:Nat):Int)>IntKind.i64.max):=by
    have e:IntKind.i64.max=9223372036854775807:=rfl;rw [e];omega
   simp only [eqGuard,binOp,Op.stringOp,if_neg this];rfl;rw [if_neg eJ] at h;cases h
  all_goals cases h
 .
  cases hx;cases hy;split at h;rename_i hu;injection h with h;subst h;exact⟨by simp [eqGuard,binOp,fO (rK _ _ _ hu w)],by constructor⟩
  rename_i hu;injection h with h;subst h;exact⟨by simp [eqGuard,binOp,fO (rK _ _ _ hu w)],by constructor⟩
  cases h
 .
  rename_i a b;cases a with
  | none=>
    cases hx;cases b with
    | none=>
      cases hy;simp only [Option.isSome_none,Bool.false_eq_true,if_false,Bool.and_self] at h;split at h;rename_i hu;injection h with h;subst h;exact⟨by simp [eqGuard,binOp,fO (jw _ _ hu w)],by constructor⟩
      rename_i hu;injection h with h;subst h;exact⟨by simp [eqGuard,binOp,fO (jw _ _ hu w)],by constructor⟩
      cases h
    | some b=>
      cases hy;simp only [Option.isSome_none,Bool.false_and,Bool.false_eq_true,if_false] at h;split at h;rename_i hu;injection h with h;subst h;exact⟨by simp [eqGuard,binOp,fO (jw _ _ hu w)],by constructor⟩
      rename_i hu;injection h with h;subst h;exact⟨by simp [eqGuard,binOp,fO (jw _ _ hu w)],by constructor⟩
      cases h
  | some a=>
    cases b with
    | some b=>simp at h
    | none=>
      cases hx;cases hy;simp only [Option.isSome_none,Bool.and_false,Bool.false_eq_true,if_false] at h;split at h;rename_i hu;injection h with h;subst h;exact⟨by simp [eqGuard,binOp,fO (oQ _ _ hu w)],by constructor⟩
      rename_i hu;injection h with h;subst h;exact⟨by simp [eqGuard,binOp,fO (oQ _ _ hu w)],by constructor⟩
      cases h
 cases h
def aun (op:UnOp) (x:Value):Option Value:=
 match op,x with
 | .not,.bool b=>some (.bool !b)
 | .neg,.int k n=>some (.int k (k.wrap (0-n)))
 | .xor,.int k n=>some (.int k (k.wrap (BitVec.ofInt k.bits (if k.signed then -1 else k.max) ^^^ BitVec.ofInt k.bits n).toNat))
 | _,_=>none
theorem FQ {P:Program} {op:UnOp} {x v:Value} (h:aun op x=some v) {m:Mp} {x':Value} (hx:bB m x x') (w:World) :
 (Op.unary op x').run P w=.ok v w/\bB m v v:=by
 unfold aun at h;split at h;injection h with h;subst h;cases hx;exact⟨by simp [Op.unary],by constructor⟩;injection h with h;subst h;cases hx;exact⟨by simp [Op.unary,Op.intArith],by constructor⟩;injection h with h;subst h;cases hx;exact⟨by simp [Op.unary,Op.intBits],by constructor⟩;cases h
def M9 (P:Program) (src dst:TypeId) (x:Value):Option Value:=
 match P.underlying src,P.underlying dst,x with
 | some _,some (.int k),.int _ n=>some (.int k (k.wrap n))
 | some _,some .string,.string s=>some (.string s)
 | _,_,_=>none
theorem AX {P:Program} {src dst:TypeId} {x v:Value} (h:M9 P src dst x=some v) {m:Mp} {x':Value} (hx:bB m x x') (w:World) :
 (convert src dst x').run P w=.ok v w/\bB m v v:=by
 unfold M9 at h;split at h;rename_i h1 h2;injection h with h;subst h;cases hx;exact⟨by simp [convert,run_underlying h1,run_underlying h2,Conv.intToInt],by constructor⟩
 rename_i h1 h2;injection h with h;subst h;cases hx;exact⟨by simp [convert,run_underlying h1,run_underlying h2],by constructor⟩
 cases h
end Go.Stx
namespace Go.Stx
open Go
variable [Gl]
def CM (P:Program) (t:TypeId):Option Bool:=
 match P.underlying t with
 | some (.struct _)=>some true
 | some (.array _ _)=>some true
 | some _=>some false
 | none=>none
theorem pB {P:Program} {t:TypeId} {b:Bool} (h:CM P t=some b) (w:World):(isAgg t).run P w=.ok b w:=by
 unfold CM at h;cases hu:P.underlying t with
 | none=>simp [hu] at h
 | some d=>
   rw [hu] at h;simp only [isAgg,Sem.run_bind,run_underlying hu,Result.andThen_ok];cases d<;>simp only [Option.some.injEq] at h<;>subst h<;>rfl
theorem fN {P:Program} {t:TypeId} {i:TypeInfo} (h:P.info? t=some i) (w:World):(sizeOf t).run P w=.ok i.size w:=by
 simp [sizeOf,typeInfo,h]
def gX (P:Program) (A:AW) (t:TypeId) (p:Addr):Option Value:=
 match A.bP p.block,CM P t with
 | some cs,some false=>cs[p.off]?
 | some cs,some true=>
   match P.info? t with
   | some i=>if p.off+i.size<=cs.length then some (.agg ((cs.drop p.off).take i.size).toArray) else none
   | none=>none
 | _,_=>none
theorem bB.qI {m:Mp} {l l':List Value} (h:iu m l l'):bB m (.agg l.toArray) (.agg l'.toArray):=
 .agg (by simpa using h.1) λi v v' a b=>h.2 i v v' (by simpa using a) (by simpa using b)
theorem JH {P:Program} {m:Mp} {A:AW} {w:World} (hs:jM m A w) {t:TypeId} {p p':Addr} {v:Value} (h:gX P A t p=some v) (hp:pz m p p') :
 ∃v',(loadVar t p').run P w=.ok v' w/\bB m v v':=by
 unfold gX at h;split at h;rename_i cs hr ha;obtain⟨v',h1,h2⟩:=Qe (P:=P) hs hp hr h;exact⟨v',by simp only [loadVar,Sem.run_bind,pB ha,Result.andThen_ok,Bool.false_eq_true,if_false,h1],h2⟩;rename_i cs hr ha;split at h;rename_i i hi;split at h;rename_i eJ;injection h with h;subst h;obtain⟨l',h1,h2⟩:=ED (P:=P) hs hp hr i.size eJ;refine⟨.agg l'.toArray,?_,.qI h2⟩;simp only [loadVar,Sem.run_bind,pB ha,Result.andThen_ok,if_true,fN hi,h1,Sem.run_pure];cases h;cases h;cases h
def aB (P:Program) (A:AW) (t:TypeId) (p:Addr) (v:Value):Option AW:=
 match A.bg p.block,P.info? t with
 | some (.cells cs true unit),some i=>
   if v.cells.size=i.size/\p.off+i.size<=cs.length/\v.cells.toList.all Value.oneCell' then
    some (A.set p.block (some (.cells (fh cs p.off v.cells.toList) true unit)))
   else none
 | _,_=>none
theorem He {P:Program} {m:Mp} {A A1:AW} {w:World} (hs:jM m A w) {t:TypeId} {p p':Addr} {v v':Value} (h:aB P A t p v=some A1) (hp:pz m p p') (hv:bB m v v') :
 ∃w',(storeVar t p' v').run P w=.ok () w'/\jN m A w m A1 w':=by
 unfold aB at h;split at h;rename_i cs unit i hg hi;split at h;rename_i hc;obtain⟨h1,h2,h3⟩:=hc;injection h with h;subst h;obtain⟨xB,I1,q,hm,hb,ho⟩:=hp;have kv:=hv.cells;obtain⟨w',hr,ev⟩:=pQ (P:=P) (o:=p.off) hm v.cells.toList v'.cells.toList 0 cs A w hs hg kv (λx hx=>List.all_eq_true.1 h3 x hx) (by simp;omega);refine⟨w',?_,by simpa using ev⟩;have tI:v'.cells.size=i.size:=by have:=kv.1;simp at this;omega
 have ea:p'=⟨q.block,q.base+p.off,none⟩:=by rw [yR p' I1,hb,ho]
 subst ea;simp only [storeVar,Sem.run_bind,fN hi,Result.andThen_ok,tI,ne_eq,not_true_eq_false,if_false,hr];cases h;cases h
theorem sM {P:Program} {m:Mp} {A:AW} {w:World} (hs:jM m A w) (e:TypeId) (unit:Nat) {l:List Value} {io:Array Value} (hl:iu m l io.toList) :
 ∃w' m',(newRow e io).run P w=.ok ⟨w.heap.size,0,none⟩ w'/\jN m A w m' (A.alloc (.cells l true unit)) w'/\m'=m.ext A.next ⟨w.heap.size,0,unit,io.size⟩:=by
 refine⟨w.alloc (.cells io e),_,?_,jN.alloc hs l io e unit (λk v hv=>?_),rfl⟩;simp only [newRow,Sem.run_bind,run_newObj,Result.andThen_ok,Sem.run_pure];rfl;obtain⟨v',h1,h2⟩:=hl.bg hv;exact⟨v',by simpa using h1,h2⟩
def RJ (A:AW) (v:Value):Value×AW:=(.pointer (some ⟨A.next,0,none⟩),A.alloc (.cells v.cells.toList true 1))
theorem DO {P:Program} {m:Mp} {A:AW} {w:World} (hs:jM m A w) (e:TypeId) {v v':Value} (hv:bB m v v') :
 ∃p' w' m',(Instr.box e v').run P w=.ok p' w'/\jN m A w m' (RJ A v).2 w'/\bB m' (RJ A v).1 p':=by
 obtain⟨w',m',h1,h2,h3⟩:=sM (P:=P) hs e 1 hv.cells;refine⟨.pointer (some ⟨w.heap.size,0,none⟩),w',m',?_,h2,?_⟩;simp only [Instr.box,newVar,Sem.run_bind,h1,Result.andThen_ok,Sem.run_pure];rw [h3];exact .Im (pz.lK m A.next ⟨w.heap.size,0,1,_⟩ 0)
def s7 (P:Program) (s:TypeId) (x:Value) (f:Nat):Option Value:=
 match P.underlying s,x with
 | some (.struct fs),.pointer (some p)=>
   match fs[f]? with
   | some fd=>
     match P.info? fd.type with
     | some i=>if i.size=0 then none else some (.pointer (some ⟨p.block,p.off+fd.offset,none⟩))
     | none=>none
   | none=>none
 | _,_=>none
theorem pz.Vn {m:Mp} {a a':Addr} (h:pz m a a') (n:Nat):pz m ⟨a.block,a.off+n,none⟩ (a'.add n):=by
 obtain⟨h1,h2,p,h3,h4,h5⟩:=h;rw [mX _ _ h2];exact⟨rfl,rfl,p,h3,h4,by simp only [h5,Nat.add_assoc]⟩
theorem Ag {P:Program} {m:Mp} {s:TypeId} {x x' v:Value} {f:Nat} (h:s7 P s x f=some v) (hx:bB m x x') :
 ∃v',bB m v v'/\∀w,(Instr.fieldAt s x' f).run P w=.ok v' w:=by
 unfold s7 at h;split at h
 . rename_i fs p hu;cases hx with
   | Im ha=>
     rename_i p';split at h;rename_i fd hf;split at h;rename_i i hi;split at h;cases h;rename_i h0;injection h with h;subst h;refine⟨.pointer (some (p'.add fd.offset)),.Im (ha.Vn _),λw=>?_⟩;simp [Instr.fieldAt,run_underlying hu,hf,Instr.sureAddr,fieldPlace,fN hi,h0];cases h;cases h
 cases h
def apart (P:Program) (t:TypeId) (cs:Array Value) (off:Nat):Option Value:=
 match CM P t with
 | some false=>cs[off]?
 | some true=>
   match P.info? t with
   | some i=>some (.agg (cs.extract off (off+i.size)))
   | none=>none
 | none=>none
theorem mv {P:Program} {m:Mp} {t:TypeId} {cs ru:Array Value} {off:Nat} {v:Value} (h:apart P t cs off=some v) (hc:bB m (.agg cs) (.agg ru)) :
 ∃v',bB m v v'/\∀w,(part t ru off).run P w=.ok v' w:=by
 cases hc with
 | agg hx h1=>
   unfold apart at h;split at h;rename_i ha;have bL:off<ru.size:=(by rw [<-hx];exact(Array.getElem?_eq_some_iff.1 h).1);have e:=Array.getElem?_eq_getElem bL;refine⟨ru[off],h1 off v _ h e,λw=>?_⟩;simp only [part,Sem.run_bind,pB ha,Result.andThen_ok,Bool.false_eq_true,if_false];rw [e];rfl;rename_i ha;split at h;rename_i i hi;injection h with h;subst h;refine⟨.agg (ru.extract off (off+i.size)),.agg (by simp [hx]) ?_,λw=>?_⟩;intro j v v' h2 h3;rw [Array.getElem?_extract] at h2 h3;split at h2;rename_i hj;rw [if_pos (by rw [<-hx];exact hj)] at h3;exact h1 _ v v' h2 h3;cases h2;simp only [part,Sem.run_bind,pB ha,Result.andThen_ok,if_true,fN hi,Sem.run_pure];cases h;cases h
def Ho (P:Program) (t:TypeId) (x:Value) (f:Nat):Option Value:=
 match P.underlying t,x with
 | some (.struct fs),.agg cs=>
   match fs[f]? with
   | some fd=>apart P fd.type cs fd.offset
   | none=>none
 | _,_=>none
theorem Hn {P:Program} {m:Mp} {t:TypeId} {x x' v:Value} {f:Nat} (h:Ho P t x f=some v) (hx:bB m x x') :
 ∃v',bB m v v'/\∀w,(Instr.field t x' f).run P w=.ok v' w:=by
 unfold Ho at h;split at h;rename_i fs cs hu;split at h
 . rename_i fd hf;have MF:=hx;cases hx with
   | agg tI h1=>
     obtain⟨v',h3,h2⟩:=mv (P:=P) h MF;refine⟨v',h3,λw=>?_⟩;simp only [Instr.field,Sem.run_bind,run_underlying hu,Result.andThen_ok,hf,asAgg,Sem.run_pure,h2]
 cases h;cases h
def sZ (P:Program) (t:TypeId) (x ix:Value):Option Value:=
 match P.underlying t,x,ix with
 | some (.slice e),.slice (some p) len _,.int _ n=>
   match P.info? e with
   | some i=>if 0<=n/\n<len then some (.pointer (some ⟨p.block,p.off+n.toNat*i.size,none⟩)) else none
   | none=>none
 | some (.array len e),.pointer (some p),.int _ n=>
   match P.info? e with
   | some i=>if 0<=n/\n<len then some (.pointer (some ⟨p.block,p.off+n.toNat*i.size,none⟩)) else none
   | none=>none
 | _,_,_=>none
theorem Af {P:Program} {m:Mp} {t:TypeId} {x x' y y' v:Value} (h:sZ P t x y=some v) (hx:bB m x x') (hy:bB m y y') :
 ∃v',bB m v v'/\∀w,(Instr.indexAt t x' y').run P w=.ok v' w:=by
 unfold sZ at h;split at h;rename_i e p len ef k n hu;cases hy;split at h;rename_i i hi;split at h
 . rename_i hb;injection h with h;subst h;cases hx with
   | slice hh h1 h2=>
     rename_i p' iD;have ha:pz m p p':=by
      rcases hh with hh|hh;exact hh.RB;omega
     refine⟨.pointer (some (p'.add (n.toNat*i.size))),.Im (ha.Vn _),λw=>?_⟩;simp [Instr.indexAt,run_underlying hu,asIntOf,fN hi,hb.1,hb.2]
 cases h;cases h;rename_i len e p k n hu;cases hy;split at h;rename_i i hi;split at h
 . rename_i hb;injection h with h;subst h;cases hx with
   | Im ha=>
     rename_i p';refine⟨.pointer (some (p'.add (n.toNat*i.size))),.Im (ha.Vn _),λw=>?_⟩;simp [Instr.indexAt,run_underlying hu,asIntOf,fN hi,hb.1,hb.2,Instr.sureAddr]
 cases h;cases h;cases h
def Hm (P:Program) (t:TypeId) (x ix:Value):Option Value:=
 match P.underlying t,x,ix with
 | some (.array len e),.agg cs,.int _ n=>
   match P.info? e with
   | some i=>if 0<=n/\n<len then apart P e cs (n.toNat*i.size) else none
   | none=>none
 | some .string,.string s,.int _ n=>
   if 0<=n then
    match s[n.toNat]? with
    | some b=>some (.int .u8 b.toNat)
    | none=>none
   else none
 | _,_,_=>none
theorem Hl {P:Program} {m:Mp} {t:TypeId} {x x' y y' v:Value} (h:Hm P t x y=some v) (hx:bB m x x') (hy:bB m y y') :
 ∃v',bB m v v'/\∀w,(Instr.index t x' y').run P w=.ok v' w:=by
 unfold Hm at h;split at h;rename_i len e cs k n hu;cases hy;split at h;rename_i i hi;split at h
 . rename_i hb;have MF:=hx;cases hx with
   | agg tI h1=>
     obtain⟨v',h3,h2⟩:=mv (P:=P) h MF;exact⟨v',h3,λw=>by simp [Instr.index,run_underlying hu,asIntOf,fN hi,hb.1,hb.2,h2]⟩
 cases h;cases h;rename_i s k n hu;cases hx;cases hy;split at h;rename_i h0;split at h;rename_i b hb;injection h with h;subst h;exact⟨.int .u8 b.toNat,by constructor,λw=>by simp [Instr.index,run_underlying hu,asIntOf,h0,hb]⟩;cases h;cases h;cases h
def mZ (v:Option Value) (d nz:Nat):Option Nat:=
 match v with
 | none=>some d
 | some (.int _ n)=>if 0<=n/\n<=nz then some n.toNat else none
 | some _=>none
def eu (P:Program) (A:AW) (e:TypeId) (p:Addr) (l:Nat):Option Addr:=
 if l=0 then some p else
 match P.info? e,A.bg p.block with
 | some i,some (.cells _ _ unit)=>if unit=i.size then some ⟨p.block,p.off+l*i.size,none⟩ else none
 | _,_=>none
def mU (P:Program) (A:AW) (t:TypeId) (x:Value) (lo hi mx:Option Value):Option Value:=
 match P.underlying t,x,mx with
 | some (.slice e),.slice a len ef,none=>
   match mZ hi len ef with
   | some h=>
     match mZ lo 0 h with
     | some l=>
       match P.info? e,a with
       | some _,none=>some (.slice none (h-l) (ef-l))
       | some _,some p=>
         match eu P A e p l with
         | some q=>some (.slice (some q) (h-l) (ef-l))
         | none=>none
       | none,_=>none
     | none=>none
   | none=>none
 | some .string,.string s,none=>
   match mZ hi s.size s.size with
   | some h=>
     match mZ lo 0 h with
     | some l=>some (.string (s.extract l h))
     | none=>none
   | none=>none
 | _,_,_=>none
end Go.Stx
namespace Go.Stx
open Go
variable [Gl]
def vN (m:Mp):Option Value->Option Value->Prop
 | none,none=>True
 | some v,some v'=>bB m v v'
 | _,_=>False
theorem jz {P:Program} {w:World} {k:IntKind} {n:Int} {y:Nat} {az:BoundsCode} (h0:0<=n) (h1:n<=y) :
 (Instr.sliceBound (.int k n) y az).run P w=.ok n.toNat w:=by
 simp [Instr.sliceBound,asIntOf,h0,h1]
theorem A9 {m:Mp} {v v':Option Value} {d nz h:Nat} (hb:mZ v d nz=some h) (hv:vN m v v') :
 (v'=none/\h=d)\/∃k n,v'=some (.int k n)/\0<=n/\n<=nz/\h=n.toNat:=by
 unfold mZ at hb;split at hb
 . injection hb with hb;cases v' with
   | none=>exact .inl ⟨rfl,hb.symm⟩
   | some _=>exact hv.elim
 rename_i k n;split at hb
 . rename_i hc;injection hb with hb;cases v' with
   | none=>exact hv.elim
   | some _=>cases hv;exact .inr ⟨k,n,rfl,hc.1,hc.2,hb.symm⟩
 cases hb;cases hb
theorem oI {P:Program} {m:Mp} {lo hi SG y7:Option Value} {len ef iD h l:Nat} (isS:Bool) (hh:mZ hi len ef=some h) (hl:mZ lo 0 h=some l)
 (hc:ef<=iD) (u7:vN m lo SG) (UD:vN m hi y7) (w:World):(Instr.sliceBounds isS len iD SG y7 none).run P w=.ok (l,h,iD) w:=by
 rcases A9 hh UD with ⟨rfl,rfl⟩|⟨k,n,rfl,h0,h1,rfl⟩<;>rcases A9 hl u7 with ⟨rfl,rfl⟩|⟨k',n',rfl,R5,Wt,rfl⟩;simp [Instr.sliceBounds];simp [Instr.sliceBounds,jz R5 Wt];have h2:n<=(iD:Int):=by omega
 simp [Instr.sliceBounds,jz h0 h2];have h2:n<=(iD:Int):=by omega
 simp [Instr.sliceBounds,jz h0 h2,jz R5 Wt]
theorem FT {v:Option Value} {d nz h:Nat} (hb:mZ v d nz=some h):h=d\/h<=nz:=by
 unfold mZ at hb;split at hb;injection hb with hb;exact .inl hb.symm;split at hb;rename_i hc;injection hb with hb;exact .inr (by omega)
 cases hb;cases hb
theorem Hf {P:Program} {m:Mp} {A:AW} {w:World} (hs:jM m A w) {t:TypeId} {x x' v:Value} {lo hi mx SG y7 Ug:Option Value} (h:mU P A t x lo hi mx=some v)
 (hx:bB m x x') (u7:vN m lo SG) (UD:vN m hi y7) (V1:vN m mx Ug):∃v',bB m v v'/\∀w',(Instr.sliceAt t x' SG y7 Ug).run P w'=.ok v' w':=by
 unfold mU at h;split at h
 . rename_i e a len ef hu;cases Ug with
   | some _=>exact V1.elim
   | none=>
   split at h
   . rename_i hh Zy;split at h
     . rename_i l Zx;have hlh:l=0\/l<=hh:=FT Zx;have hhc:hh=len\/hh<=ef:=FT Zy;split at h;rename_i i hi;injection h with h;subst h;cases hx;have hr:=oI (P:=P) (m:=m) true Zy Zx (Nat.le_refl 0) u7 UD;have h1:hh=0:=(by omega);have h2:l=0:=(by omega);subst h1;subst h2;refine⟨.slice none 0 0,.li,λw'=>?_⟩;simp [Instr.sliceAt,Instr.slice,run_underlying hu,hr,fN hi]
       . rename_i i p hi;split at h
         . rename_i q hq;injection h with h;subst h;cases hx with
           | slice BD h1 h2=>
             rename_i p' iD;have hr:=oI (P:=P) (m:=m) true Zy Zx h2 u7 UD;refine⟨.slice (some (if iD=l then p' else p'.add (l*i.size))) (hh-l) (iD-l),?_,λw'=>?_⟩
             rotate_left
             simp only [Instr.sliceAt,Sem.run_bind,run_underlying hu,Result.andThen_ok,Instr.slice,hr,fN hi,Sem.run_pure,Option.map_some];split<;>rfl;refine .slice ?_ (by omega) (by omega);by_cases kv:iD=l;refine .inr ⟨by omega,by omega,?_⟩;unfold eu at hq;split at hq;injection hq with hq;subst hq;rcases BD with ⟨_,_,pl,g3,_⟩|⟨_,_,g⟩;exact .inr (by rw [g3];exact Option.some_ne_none _);exact g;split at hq;rename_i hg;split at hq;injection hq with hq;subst hq;obtain⟨pl,g7,_⟩:=hs.Ev _ _ hg;exact .inr (by simp only;rw [g7];exact Option.some_ne_none _);cases hq;cases hq;rw [if_neg kv];have hsr':Ai m p p' iD:=by
              rcases BD with BD|BD;exact BD;omega
             obtain⟨g1,g2,pl,g3,g4,g5,g6⟩:=hsr';unfold eu at hq;split at hq;rename_i R1;subst R1;injection hq with hq;subst hq;rw [Nat.zero_mul,show p'.add 0=p' by unfold Addr.add;simp];exact .inl ⟨g1,g2,pl,g3,g4,g5,by simpa using g6⟩;rename_i R1;split at hq;rename_i i' cs own unit y7 hg;rw [hi] at y7;injection y7 with y7;subst y7;split at hq;rename_i SN;injection hq with hq;subst hq;obtain⟨pl',g7,io,e',fr,g8,_,g9,_⟩:=hs.Ev _ _ hg;rw [g3] at g7;injection g7 with g7;subst g7;rw [mX _ _ g2];refine .inl ⟨rfl,rfl,pl,g3,g4,by simp only [g5,Nat.add_assoc],?_⟩;rw [<-g9,SN] at g6 ⊢;simp only;have:l*i.size+(iD-l)*i.size=iD*i.size:=by
              rw [<-Nat.add_mul];congr 1;omega
             omega;cases hq;cases hq
         cases h
       cases h
     cases h
   cases h
 . rename_i s hu;cases Ug with
   | some _=>exact V1.elim
   | none=>
   cases hx;split at h;rename_i hh Zy;split at h;rename_i l Zx;injection h with h;subst h;have hr:=oI (P:=P) (m:=m) false Zy Zx (Nat.le_refl _) u7 UD;refine⟨.string (s.extract l hh),.string _,λw'=>?_⟩;simp [Instr.sliceAt,Instr.slice,run_underlying hu,hr];cases h;cases h
 cases h
def BN (P:Program) (t:TypeId) (x:Value) (lo hi:Option Value) (mx:Value):Option Value:=
 match P.underlying t,x,lo,hi,mx with
 | some (.slice e),.slice a _ _,none,some (.int _ h),.int _ q=>
   match P.info? e with
   | some _=>if h=0/\q=0 then some (match a with|none=>.slice none 0 0|some _=>.slice (some ⟨0,0,some 0⟩) 0 0) else none
   | none=>none
 | _,_,_,_,_=>none
theorem EV {P:Program} {m:Mp} {t:TypeId} {x x' v mx Ug:Value} {lo hi SG y7:Option Value} (h:BN P t x lo hi mx=some v)
 (hx:bB m x x') (u7:vN m lo SG) (UD:vN m hi y7) (V1:bB m mx Ug):∃v',bB m v v'/\∀w',(Instr.sliceAt t x' SG y7 (some Ug)).run P w'=.ok v' w':=by
 unfold BN at h;split at h<;>try(cases h;done)
 rename_i e a len ef k h0 k' q hu;split at h<;>try(cases h;done)
 rename_i i hi0;split at h<;>try(cases h;done)
 rename_i hc;obtain⟨rfl,rfl⟩:=hc;injection h with h;subst h;cases SG with
 | some _=>exact u7.elim
 | none=>
 cases y7 with
 | none=>exact UD.elim
 | some hv=>
 have hhi':bB m (.int k 0) hv:=UD;cases hhi';cases V1;have hb:∀(iD:Nat) (w':World),(Instr.sliceBounds true len iD none (some (.int k 0)) (some (.int k' 0))).run P w'=.ok (0,0,0) w':=λiD w'=>by
  simp [Instr.sliceBounds,jz (P:=P) (w:=w') (k:=k') (n:=0) (y:=iD) (az:=.slice3Acap) (by omega) (by omega),
   jz (P:=P) (w:=w') (k:=k) (n:=0) (y:=0) (az:=.slice3B) (by omega) (by omega)]
 cases a with
 | none=>
   cases hx;exact⟨.slice none 0 0,.li,λw'=>by simp [Instr.sliceAt,Instr.slice,run_underlying hu,hb,fN hi0]⟩
 | some a=>
   cases hx with
   | slice hh h1 h2=>
     rename_i a' iD;exact⟨.slice (some a') 0 0,.slice (.inr ⟨rfl,rfl,.inl rfl⟩) (Nat.le_refl _) (Nat.le_refl _),λw'=>by simp [Instr.sliceAt,Instr.slice,run_underlying hu,hb,fN hi0]⟩
def JC (size:Nat):List (Nat×Value)->List Value->Option (List Value)
 | [],cs=>some cs
 | (i,v)::fu,cs=>if v.cells.size=size/\i*size+size<=cs.length then JC size fu (fh cs (i*size) v.cells.toList) else none
def ft (z:List Value):Nat->List Value
 | 0=>[]
 | n+1=>z++ft z n
theorem yz (l:List Value):∀(cs:Array Value) (off k:Nat),off+k+l.length<=cs.size->
 ((l.zipIdx k).foldl (λcs (c,j)=>cs.setIfInBounds (off+j) c) cs).toList=fh cs.toList (off+k) l:=by
 induction l with
 | nil=>intro cs off k _;rfl
 | cons v l ih=>
   intro cs off k h;simp only [List.zipIdx_cons,List.foldl_cons,fh];rw [ih _ off (k+1) (by simp at h ⊢;omega)];simp [Nat.add_assoc]
theorem sm {m:Mp}:∀(l l':List Value) (off:Nat) (cs ru:List Value),iu m cs ru->iu m l l'->off+l.length<=cs.length->
 iu m (fh cs off l) (fh ru off l')
 | [],l',off,cs,ru,h,hl,_=>by
   have e:=hl.pj;subst e;exact h
 | v::l,l',off,cs,ru,h,hl,eJ=>by
   obtain⟨v',t',rfl,hv,ht⟩:=hl.lM;simp only [List.length_cons] at eJ;refine sm l t' (off+1) _ _ ⟨by simp [h.1],λi x x' h1 h2=>?_⟩ ht (by simp;omega);by_cases hi:off=i;subst hi;rw [List.getElem?_set_self (by omega)] at h1;rw [List.getElem?_set_self (by rw [<-h.1];omega)] at h2;injection h1 with h1;injection h2 with h2;subst h1;subst h2;exact hv;rw [List.getElem?_set_ne hi] at h1 h2;exact h.2 i x x' h1 h2
theorem AQ {m:Mp} {size:Nat}:∀(kc gD:List (Nat×Value)) (cs r:List Value) (ru:Array Value),JC size kc cs=some r->iu m cs ru.toList->
 kc.length=gD.length->(∀(k:Nat) (p p':Nat×Value),kc[k]? = some p->gD[k]? = some p'->p.1=p'.1/\bB m p.2 p'.2)->
 ∃r',Instr.fill (λi=>some (i*size,size)) ru gD=some r'/\iu m r r'.toList
 | [],gD,cs,r,ru,h,hc,hl,_=>by
   cases gD with
   | cons _ _=>simp at hl
   | nil=>
     injection h with h;subst h;exact⟨ru,rfl,hc⟩
 | (i,v)::fu,gD,cs,r,ru,h,hc,hl,hp=>by
   cases gD with
   | nil=>simp at hl
   | cons p' rest'=>
     obtain⟨i',v'⟩:=p';obtain⟨h1,h2⟩:=hp 0 _ _ rfl rfl;simp only at h1 h2;subst h1;unfold JC at h;split at h;rename_i yt;obtain⟨hz,eJ⟩:=yt;have kv:=h2.cells;have hz':v'.cells.size=size:=by have:=kv.1;simp at this;omega
     have tI:ru.size=cs.length:=by have:=hc.1;simp at this;omega
     have QK:=yz v'.cells.toList ru (i*size) 0 (by simp;omega);obtain⟨r',h3,h4⟩:=AQ fu rest' _ r (v'.cells.zipIdx.foldl (λcs (c,j)=>cs.setIfInBounds (i*size+j) c) ru) h (by
      rw [<-Array.foldl_toList,Array.toList_zipIdx,QK];exact sm _ _ _ _ _ hc kv (by simp;omega)) (by simpa using hl) (λk p p' a b=>hp (k+1) p p' (by simpa using a) (by simpa using b))
     refine⟨r',?_,h4⟩;simp only [Instr.fill,hz',ne_eq,not_true_eq_false,decide_false,Bool.false_or,tI,decide_eq_true_eq];rw [if_neg (by omega)];exact h3;cases h
theorem jn (z:List Value) (n:Nat):(ft z n).length=n*z.length:=by
 induction n with
 | zero=>simp [ft]
 | succ n ih=>simp [ft,ih,Nat.add_mul];omega
theorem LU (z:List Value) (n j:Nat) (h:j<n*z.length):(ft z n)[j]? = z[j % z.length]?:=by
 induction n generalizing j with
 | zero=>simp at h
 | succ n ih=>
   simp only [ft];by_cases hj:j<z.length;rw [List.getElem?_append_left hj,Nat.mod_eq_of_lt hj];rw [List.getElem?_append_right (by omega),ih _ (by simp [Nat.add_mul] at h;omega)];rw [Nat.mod_eq_sub_mod (by omega:z.length<=j)]
theorem qX (z:Array Value) (n:Nat) (h:0<z.size):((Array.range (n*z.size)).map (λj=>z[j % z.size]!)).toList=ft z.toList n:=by
 apply List.ext_getElem?;intro j;by_cases hj:j<n*z.size;rw [LU _ _ _ (by simpa using hj)];have hm:j % z.size<z.size:=Nat.mod_lt _ h;simp [hj,hm];rw [List.getElem?_eq_none (by simp;omega),List.getElem?_eq_none (by rw [jn];simp;omega)]
def fl:Value->Bool
 | .bool _ | .int _ _ | .float _ _ | .complex _ _ _ | .string _ | .pointer none | .slice none 0 0 | .map none | .chan none | .nilFunc | .nilIface=>true
 | _=>false
def vg:Value->Bool
 | .agg cs=>cs.all fl
 | .tuple cs=>cs.all fl
 | v=>fl v
theorem bB.hY {v:Value} (h:fl v=true) (m:Mp):bB m v v:=by
 unfold fl at h;split at h<;>first|(cases h;done)|constructor
theorem bB.uW {v:Value} (h:vg v=true) (m:Mp):bB m v v:=by
 unfold vg at h;split at h;refine .agg rfl λi v v' h1 h2=>?_;rw [h1] at h2;injection h2 with h2;subst h2;exact .hY (Array.all_eq_true_iff_forall_mem.1 h _ (Array.mem_of_getElem? h1)) m;refine .tuple rfl λi v v' h1 h2=>?_;rw [h1] at h2;injection h2 with h2;subst h2;exact .hY (Array.all_eq_true_iff_forall_mem.1 h _ (Array.mem_of_getElem? h1)) m;exact .hY h m
theorem iu.nE {l:List Value} (h:l.all fl=true) (m:Mp):iu m l l:=
 ⟨rfl,λi v v' h1 h2=>by
  rw [h1] at h2;injection h2 with h2;subst h2;exact .hY (List.all_eq_true.1 h _ (List.mem_of_getElem? h1)) m⟩
theorem oc {z:List Value} (h:z.all fl=true) (n:Nat):(ft z n).all fl=true:=by
 induction n with
 | zero=>rfl
 | succ n ih=>simp only [ft,List.all_append,h,ih,Bool.and_self]
def qY (P:Program) (A:AW) (t:TypeId) (len:Nat) (kc:List (Nat×Value)):Option (Value×AW):=
 match P.underlying t with
 | some (.slice e)=>
   match P.info? e with
   | some i=>
     match i.zero with
     | some z=>
       if z.cells.size=i.size/\0<i.size/\len*i.size<=2 ^ 24/\z.cells.toList.all fl then
        match JC i.size kc (ft z.cells.toList len) with
        | some cs=>some (.slice (some ⟨A.next,0,none⟩) len len,A.alloc (.cells cs true i.size))
        | none=>none
       else none
     | none=>none
   | none=>none
 | _=>none
theorem FL (size:Nat):∀(kc:List (Nat×Value)) (cs r:Array Value),Instr.fill (λi=>some (i*size,size)) cs kc=some r->r.size=cs.size
 | [],cs,r,h=>by injection h with h;subst h;rfl
 | (i,v)::fu,cs,r,h=>by
   unfold Instr.fill at h;simp only at h;split at h;cases h;rw [FL size fu _ r h];have:∀(l:List (Value×Nat)) (cs:Array Value),(l.foldl (λcs (c,j)=>cs.setIfInBounds (i*size+j) c) cs).size=cs.size:=by
    intro l
    induction l with
    | nil=>intro cs;rfl
    | cons x l ih=>intro cs;simp [List.foldl_cons,ih]
   rw [<-Array.foldl_toList];exact this _ _
theorem yT {P:Program} {m:Mp} {A A1:AW} {w:World} (hs:jM m A w) {t:TypeId} {len:Nat} {kc:List (Nat×Value)} {gD:Array (Nat×Value)} {v:Value}
 (h:qY P A t len kc=some (v,A1)) (hl:kc.length=gD.size)
 (hp:∀(k:Nat) (p p':Nat×Value),kc[k]? = some p->gD[k]? = some p'->p.1=p'.1/\bB m p.2 p'.2) :
 ∃v' w' m',(Instr.buildSlice t len gD).run P w=.ok v' w'/\jN m A w m' A1 w'/\bB m' v v':=by
 unfold qY at h;split at h<;>try(cases h;done)
 rename_i e hu;split at h<;>try(cases h;done)
 rename_i i hi;split at h<;>try(cases h;done)
 rename_i z hz;split at h<;>try(cases h;done)
 rename_i hc;obtain⟨nA,h0,h24,gV⟩:=hc;split at h<;>try(cases h;done)
 rename_i cs Yz;simp only [Option.some.injEq,Prod.mk.injEq] at h;obtain⟨rfl,rfl⟩:=h;have Qk:=qX z.cells len (by omega);rw [nA] at Qk
 obtain⟨r',h1,h2⟩:=AQ (m:=m) kc gD.toList _ cs ((Array.range (len*i.size)).map (λj=>z.cells[j % i.size]!)) Yz
  (by rw [Qk];exact .nE (oc gV len) m) (by simpa using hl) (λk p p' a b=>hp k p p' a (by simpa using b))
 have OR:r'.size=len*i.size:=by rw [FL _ _ _ _ h1];simp
 obtain⟨w',m',h3,h4,h5⟩:=sM (P:=P) hs e i.size h2;refine⟨.slice (some ⟨w.heap.size,0,none⟩) len len,w',m',?_,h4,?_⟩;simp only [Instr.buildSlice,Sem.run_bind,run_underlying hu,Result.andThen_ok,fN hi];rw [if_neg (by omega)];by_cases R1:len*i.size=0;rw [if_pos R1];have Wi:((Array.range (len*i.size)).map λj=>(#[]:Array Value)[j % (#[]:Array Value).size]!)=(Array.range (len*i.size)).map (λj=>z.cells[j % i.size]!):=by
  simp [R1]
 simp only [Sem.run_bind,Sem.run_pure,Result.andThen_ok,Wi,h1,h3];rw [if_neg R1];have NY:(zeroValue e).run P w=.ok z w:=by simp [zeroValue,typeInfo,hi,hz]
 simp only [Sem.run_bind,Sem.run_pure,Result.andThen_ok,NY,nA,h1,h3];refine .slice (.inl ⟨rfl,rfl,⟨w.heap.size,0,i.size,r'.size⟩,by rw [h5];simp [Mp.ext],rfl,rfl,?_⟩) (Nat.le_refl _) (Nat.le_refl _);show 0+len*i.size<=r'.size;omega
end Go.Stx
namespace Go.Stx
open Go
variable [Gl]
theorem Fi {P:Program} {w:World} {k:IntKind} {n:Int}:(asInt (.int k n)).run P w=.ok n w:=by simp [asInt,asIntOf]
theorem ai {x:Int} (h0:-9223372036854775808<=x) (h1:x<=9223372036854775807):IntKind.i64.wrap x=x:=by
 simp only [IntKind.wrap,IntKind.bits,IntKind.signed,Bool.true_and];split;rename_i h;have:=of_decide_eq_true h;omega;rename_i h;have:=of_decide_eq_false (eq_false_of_ne_true h);omega
theorem ar {x:Int} (h0:0<=x) (h1:x<18446744073709551616):IntKind.u64.wrap x=x:=by
 simp only [IntKind.wrap,IntKind.bits,IntKind.signed,Bool.false_and,Bool.false_eq_true,if_false];omega
def oW (P:Program) (A:AW) (t:TypeId) (l c:Value):Option (Value×AW):=
 match P.underlying t,l,c with
 | some (.slice e),.int _ l,.int _ c=>
   match P.info? e with
   | some i=>
     match i.zero with
     | some z=>
       if z.cells.size=i.size/\0<i.size/\z.cells.toList.all fl/\0<=l/\l<=c/\c<=140737488355328/\c*i.bytes<=140737488355328 then
        some (.slice (some ⟨A.next,0,none⟩) l.toNat c.toNat,A.alloc (.cells (ft z.cells.toList c.toNat) true i.size))
       else none
     | none=>none
   | none=>none
 | _,_,_=>none
theorem JG {P:Program} {m:Mp} {A A1:AW} {w:World} (hs:jM m A w) {t:TypeId} {l c l' c' v:Value} (h:oW P A t l c=some (v,A1)) (hl:bB m l l') (hc:bB m c c') :
 ∃v' w' m',(Instr.makeSlice t l' c').run P w=.ok v' w'/\jN m A w m' A1 w'/\bB m' v v':=by
 unfold oW at h;split at h<;>try(cases h;done)
 rename_i e k n k' q hu;cases hl;cases hc;split at h<;>try(cases h;done)
 rename_i i hi;split at h<;>try(cases h;done)
 rename_i z hz;split at h<;>try(cases h;done)
 rename_i yt;obtain⟨nA,h0,gV,DX,hnq,hq,hqb⟩:=yt;simp only [Option.some.injEq,Prod.mk.injEq] at h;obtain⟨rfl,rfl⟩:=h;have Qk:=qX z.cells q.toNat (by omega);rw [nA] at Qk;obtain⟨w',m',h3,h4,h5⟩:=sM (P:=P) hs e i.size (io:=(Array.range (q.toNat*i.size)).map (λj=>z.cells[j % i.size]!)) (by rw [Qk];exact .nE (oc gV q.toNat) m);have jg:IntKind.i64.wrap n=n:=ai (by omega) (by omega);have jR:IntKind.i64.wrap q=q:=ai (by omega) (by omega);refine⟨.slice (some ⟨w.heap.size,0,none⟩) n.toNat q.toNat,w',m',?_,h4,?_⟩;have hty:(typeInfo e).run P w=.ok i w:=by simp [typeInfo,hi]
 have hb:(i.bytes:Int)*q<=140737488355328:=by rw [Int.mul_comm];exact hqb
 have c1:(decide (q<0) || decide ((i.bytes:Int)*q>2 ^ 48))=false:=by
  simp only [Bool.or_eq_false_iff,decide_eq_false_iff_not];constructor<;>omega
 simp only [Instr.makeSlice,Sem.run_bind,run_underlying hu,Result.andThen_ok,Fi,hty,jg,jR,c1];rw [if_neg (by simp;omega)];simp only [Sem.run_bind,run_askRoom,Result.andThen_ok,fN hi];by_cases hn:q.toNat*i.size=0;rw [if_pos hn];have Wi:((Array.range (q.toNat*i.size)).map λj=>(#[]:Array Value)[j % (#[]:Array Value).size]!)=(Array.range (q.toNat*i.size)).map (λj=>z.cells[j % i.size]!):=by
  simp [hn]
 simp only [Sem.run_bind,Sem.run_pure,Result.andThen_ok,Wi,h3];rw [if_neg hn];have NY:(zeroValue e).run P w=.ok z w:=by simp [zeroValue,typeInfo,hi,hz]
 simp only [Sem.run_bind,Sem.run_pure,Result.andThen_ok,NY,nA,h3];refine .slice (.inl ⟨rfl,rfl,⟨w.heap.size,0,i.size,((Array.range (q.toNat*i.size)).map (λj=>z.cells[j % i.size]!)).size⟩,by rw [h5];simp [Mp.ext],rfl,rfl,?_⟩) (by omega) (Nat.le_refl _);show 0+q.toNat*i.size<=((Array.range (q.toNat*i.size)).map (λj=>z.cells[j % i.size]!)).size;simp
def HC (P:Program) (A:AW) (t:TypeId):Option (Value×AW):=
 match P.info? t with
 | some i=>
   match i.zero with
   | some z=>if vg z then some (RJ A z) else none
   | none=>none
 | none=>none
theorem HB {P:Program} {m:Mp} {A A1:AW} {w:World} (hs:jM m A w) {t:TypeId} {v:Value} (h:HC P A t=some (v,A1)) :
 ∃v' w' m',(Instr.alloc t true (.tuple #[])).run P w=.ok v' w'/\jN m A w m' A1 w'/\bB m' v v':=by
 unfold HC at h;split at h<;>try(cases h;done)
 rename_i i hi;split at h<;>try(cases h;done)
 rename_i z hz;split at h<;>try(cases h;done)
 rename_i hg;injection h with h;obtain⟨p',w',m',h1,h2,h3⟩:=DO (P:=P) hs t (bB.uW hg m);rw [h] at h2 h3;refine⟨p',w',m',?_,h2,h3⟩;have NY:(zeroValue t).run P w=.ok z w:=by simp [zeroValue,typeInfo,hi,hz]
 simp only [Instr.alloc,Sem.run_bind,NY,Result.andThen_ok];exact h1
def Ab (Ip:Nat->Option (Nat×Nat)):List (Nat×Value)->List Value->Option (List Value)
 | [],cs=>some cs
 | (i,v)::fu,cs=>
   match Ip i with
   | some (off,size)=>if v.cells.size=size/\off+size<=cs.length then Ab Ip fu (fh cs off v.cells.toList) else none
   | none=>none
theorem sW {m:Mp} {Ip:Nat->Option (Nat×Nat)}:∀(kc gD:List (Nat×Value)) (cs r:List Value) (ru:Array Value),Ab Ip kc cs=some r->iu m cs ru.toList->
 kc.length=gD.length->(∀(k:Nat) (p p':Nat×Value),kc[k]? = some p->gD[k]? = some p'->p.1=p'.1/\bB m p.2 p'.2)->
 ∃r',Instr.fill Ip ru gD=some r'/\iu m r r'.toList
 | [],gD,cs,r,ru,h,hc,hl,_=>by
   cases gD with
   | cons _ _=>simp at hl
   | nil=>
     injection h with h;subst h;exact⟨ru,rfl,hc⟩
 | (i,v)::fu,gD,cs,r,ru,h,hc,hl,hp=>by
   cases gD with
   | nil=>simp at hl
   | cons p' rest'=>
     obtain⟨i',v'⟩:=p';obtain⟨h1,h2⟩:=hp 0 _ _ rfl rfl;simp only at h1 h2;subst h1;unfold Ab at h;split at h;rename_i off size nh;split at h;rename_i yt;obtain⟨hz,eJ⟩:=yt;have kv:=h2.cells;have hz':v'.cells.size=size:=by have:=kv.1;simp at this;omega
     have tI:ru.size=cs.length:=by have:=hc.1;simp at this;omega
     have QK:=yz v'.cells.toList ru off 0 (by simp;omega);obtain⟨r',h3,h4⟩:=sW fu rest' _ r (v'.cells.zipIdx.foldl (λcs (c,j)=>cs.setIfInBounds (off+j) c) ru) h (by
      rw [<-Array.foldl_toList,Array.toList_zipIdx,QK];exact sm _ _ _ _ _ hc kv (by simp;omega)) (by simpa using hl) (λk p p' a b=>hp (k+1) p p' (by simpa using a) (by simpa using b))
     refine⟨r',?_,h4⟩;simp only [Instr.fill,nh,hz',ne_eq,not_true_eq_false,decide_false,Bool.false_or,tI,decide_eq_true_eq];rw [if_neg (by omega)];exact h3;cases h;cases h
def yK (P:Program) (fs:List Field):Option (List (Nat×Nat)):=
 match fs with
 | []=>some []
 | f::r=>
   match P.info? f.type,yK P r with
   | some i,some l=>some ((f.offset,i.size)::l)
   | _,_=>none
theorem AT {P:Program} {w:World}:∀(fs:List Field) (l:List (Nat×Nat)),yK P fs=some l->
 (fs.mapM λf=>(do pure (f.offset,<-sizeOf f.type):Sem (Nat×Nat))).run P w=.ok l w
 | [],l,h=>by injection h with h;subst h;rfl
 | f::r,l,h=>by
   unfold yK at h;split at h;rename_i i l' hi hl;injection h with h;subst h;simp only [List.mapM_cons,Sem.run_bind,fN hi,Result.andThen_ok,Sem.run_pure,AT r l' hl];cases h
theorem tX {P:Program} {w w':World} {α β:Type} (f:α->Sem β) (l:Array α) (r:List β) (h:(l.toList.mapM f).run P w=.ok r w') :
 (l.mapM f).run P w=.ok r.toArray w':=by
 rw [Array.mapM_eq_mapM_toList];simp only [Sem.run_map,h,Result.andThen_ok]
def HA (P:Program) (t:TypeId) (kc:List (Nat×Value)):Option Value:=
 match P.info? t with
 | some i=>
   match i.zero with
   | some z=>
     if z.cells.toList.all fl then
      match P.underlying t with
      | some (.struct fs)=>
        match yK P fs.toList with
        | some l=>
          match Ab (λk=>l[k]?) kc z.cells.toList with
          | some cs=>some (.agg cs.toArray)
          | none=>none
        | none=>none
      | some (.array _ e)=>
        match P.info? e with
        | some ie=>
          match Ab (λk=>some (k*ie.size,ie.size)) kc z.cells.toList with
          | some cs=>some (.agg cs.toArray)
          | none=>none
        | none=>none
      | _=>none
     else none
   | none=>none
 | none=>none
theorem Hz {P:Program} {m:Mp} {t:TypeId} {kc:List (Nat×Value)} {gD:Array (Nat×Value)} {v:Value}
 (h:HA P t kc=some v) (hl:kc.length=gD.size)
 (hp:∀(k:Nat) (p p':Nat×Value),kc[k]? = some p->gD[k]? = some p'->p.1=p'.1/\bB m p.2 p'.2) :
 ∃v',bB m v v'/\∀w,(Instr.build t gD).run P w=.ok v' w:=by
 unfold HA at h;split at h<;>try(cases h;done)
 rename_i i hi;split at h<;>try(cases h;done)
 rename_i z hz;split at h<;>try(cases h;done)
 rename_i gV;have NY:∀w,(zeroValue t).run P w=.ok z w:=λw=>by simp [zeroValue,typeInfo,hi,hz]
 split at h<;>try(cases h;done)
 . rename_i fs hu;split at h<;>try(cases h;done)
   rename_i l nh;split at h<;>try(cases h;done)
   rename_i cs hcs;injection h with h;subst h;obtain⟨r',h1,h2⟩:=sW (m:=m) kc gD.toList _ cs z.cells hcs (.nE gV m) (by simpa using hl) (λk p p' a b=>hp k p p' a (by simpa using b));refine⟨.agg r',?_,λw=>?_⟩;have:=bB.qI h2
   simpa using this
   have hm:=tX _ fs l (AT (w:=w) fs.toList l nh);simp only [Instr.build,Sem.run_bind,NY,Result.andThen_ok,run_underlying hu,hm];have e:(λ(x:Nat)=>l.toArray[x]?)=fun(k:Nat)=>l[k]?:=by funext k;simp
   rw [e,h1];rfl
 rename_i n e hu;split at h<;>try(cases h;done)
 rename_i ie Ls;split at h<;>try(cases h;done)
 rename_i cs hcs;injection h with h;subst h;obtain⟨r',h1,h2⟩:=sW (m:=m) kc gD.toList _ cs z.cells hcs (.nE gV m) (by simpa using hl) (λk p p' a b=>hp k p p' a (by simpa using b));refine⟨.agg r',?_,λw=>?_⟩;have:=bB.qI h2
 simpa using this
 simp only [Instr.build,Sem.run_bind,NY,Result.andThen_ok,run_underlying hu,fN Ls,h1,Sem.run_pure]
def mW (P:Program) (t:TypeId) (x:Value):Option Value:=
 match P.underlying t,x with
 | some .string,.string s=>some (.int .i64 s.size)
 | some (.slice _),.slice _ n _=>some (.int .i64 n)
 | some (.array n _),_=>some (.int .i64 n)
 | _,_=>none
theorem L2 {P:Program} {m:Mp} {t ty:TypeId} {x x' v:Value} (h:mW P t x=some v) (hx:bB m x x') :
 bB m v v/\∀w,(Builtin.len_ #[t] ty #[x']).run P w=.ok v w:=by
 unfold mW at h;split at h;rename_i s hu;injection h with h;subst h;cases hx
 exact⟨by constructor,λw=>by simp [Builtin.len_,run_underlying hu,goInt]⟩;rename_i e a n c hu;injection h with h;subst h
 cases hx<;>exact⟨by constructor,λw=>by simp [Builtin.len_,run_underlying hu,goInt]⟩;rename_i n e hu;injection h with h;subst h
 exact⟨by constructor,λw=>by simp [Builtin.len_,run_underlying hu,goInt]⟩;cases h
def RE (mx:Bool):List Value->Option Value
 | [.int k a,.int k' b]=>if k=k' then some (.int k (if mx then (if a<b then b else a) else (if b<a then b else a))) else none
 | _=>none
theorem DG {P:Program} {m:Mp} {ts:Array TypeId} {ty:TypeId} {mx:Bool} {l:List Value} {l':Array Value} {v:Value} (h:RE mx l=some v) (hl:iu m l l'.toList) :
 bB m v v/\∀w,((if mx then Builtin.max_ ts ty l' else Builtin.min_ ts ty l')).run P w=.ok v w:=by
 unfold RE at h;split at h;rename_i k a k' b;obtain⟨x',t',e1,h1,h2⟩:=hl.lM;obtain⟨y',t'',e2,h3,h4⟩:=h2.lM;have e3:=h4.pj;cases h1;cases h3;subst e3;subst e2;have hl':l' = #[.int k a,.int k' b]:=by apply Array.ext';exact e1
 subst hl';split at h;injection h with h;subst h;cases mx;exact⟨by constructor,λw=>by simp [Builtin.min_,Builtin.min2]⟩;refine⟨by constructor,λw=>?_⟩;simp [Builtin.max_,Builtin.max2];cases h;cases h
def sY (P:Program) (t:TypeId) (x:Value):Option Value:=
 match P.underlying t with
 | some (.interface _)=>none
 | some _=>some (.iface t x)
 | none=>none
theorem Ac {P:Program} {m:Mp} {t:TypeId} {x x' v:Value} (h:sY P t x=some v) (hx:bB m x x') :
 ∃v',bB m v v'/\∀w,(Instr.makeInterface t x').run P w=.ok v' w:=by
 unfold sY at h;cases hu:P.underlying t with
 | none=>simp [hu] at h
 | some d=>
   rw [hu] at h
   cases d<;>simp only [Option.some.injEq] at h<;>(try (cases h;done))<;>subst h <;>
    exact⟨.iface t x',.iface t hx,λw=>by simp [Instr.makeInterface,run_underlying hu]⟩
end Go.Stx
namespace Go.Stx
open Go
variable [Gl]
open Go.MapKept (run_findKey)
def mq:TypeDesc->Bool
 | .int _=>true
 | .string=>true
 | _=>false
def oy (d:TypeDesc) (k:Value):List (Value×Value)->Bool
 | []=>true
 | e::es=>
   match Instr.sameNow d k e.1 with
   | some false=>oy d k es
   | _=>false
def eL (d:TypeDesc) (k:Value):List (Value×Value)->Nat->Option (Option (Nat×Value))
 | [],_=>some none
 | e::es,i=>
   match Instr.sameNow d k e.1 with
   | some true=>match oy d k es with|true=>some (some (i,e.2))|false=>none
   | some false=>eL d k es (i+1)
   | none=>none
theorem sK {d:TypeDesc} {k:Value}:∀{es:List (Value×Value)},oy d k es=true↔∀x∈es,Instr.sameNow d k x.1=some false
 | []=>by simp [oy]
 | e::es=>by
   unfold oy;split;rename_i h;rw [sK];simp [h];rename_i h;simp only [Bool.false_eq_true,false_iff];intro hx;exact h (hx e (by simp))
theorem rz {d:TypeDesc} {k:Value}:∀{es:List (Value×Value)} {n:Nat},eL d k es n=some none↔∀x∈es,Instr.sameNow d k x.1=some false
 | [],n=>by simp [eL]
 | e::es,n=>by
   unfold eL;split;rename_i h;constructor;intro h1;split at h1<;>cases h1;intro h1;have:=h1 e (by simp);rw [h] at this;cases this;rename_i h;rw [rz];simp [h];rename_i h;constructor;intro h1;cases h1;intro h1;have:=h1 e (by simp);rw [h] at this;cases this
theorem og {d:TypeDesc} {k v:Value}:∀{es:List (Value×Value)} {n m:Nat},eL d k es n=some (some (m,v)) ↔
 ∃l x r,es=l++x::r/\m=n+l.length/\x.2=v/\Instr.sameNow d k x.1=some true/\∀y∈l++r,Instr.sameNow d k y.1=some false
 | [],n,m=>by
   constructor;intro h;cases h;rintro ⟨l,x,r,h,_⟩;cases l<;>cases h
 | e::es,n,m=>by
   unfold eL;constructor;intro h;split at h;rename_i h1;split at h;rename_i h2;simp only [Option.some.injEq,Prod.mk.injEq] at h;exact⟨[],e,es,rfl,by simp [h.1],h.2,h1,sK.1 h2⟩;cases h;rename_i h1;obtain⟨l,x,r,rfl,rfl,h3,h4,h5⟩:=og.1 h;refine⟨e::l,x,r,rfl,by simp;omega,h3,h4,λy hy=>?_⟩;simp only [aa,List.mem_cons] at hy;rcases hy with rfl|hy;exact h1;exact h5 y hy;cases h;rintro ⟨l,x,r,h,rfl,h3,h4,h5⟩;cases l with
   | nil=>
     simp only [ag,List.cons.injEq] at h;obtain⟨rfl,rfl⟩:=h;rw [h4];simp only;rw [sK.2 (by simpa using h5)];simp [h3]
   | cons y l=>
     simp only [aa,List.cons.injEq] at h;obtain⟨rfl,rfl⟩:=h;rw [h5 e (by simp)];simp only;rw [og];exact⟨l,x,r,rfl,by simp;omega,h3,h4,λz hz=>h5 z (by simp only [aa,List.mem_cons];exact .inr hz)⟩
theorem qp {d:TypeDesc} {k:Value} {es xn:List (Value×Value)} (hp:es.Perm xn) (h:eL d k es 0=some none):eL d k xn 0=some none:=
 rz.2 λx hx=>rz.1 h x (hp.mem_iff.2 hx)
theorem wD {d:TypeDesc} {k v:Value} {es xn:List (Value×Value)} (hp:es.Perm xn) {i:Nat} (h:eL d k es 0=some (some (i,v))) :
 ∃i',eL d k xn 0=some (some (i',v))/\∀y,(es.set i y).Perm (xn.set i' y):=by
 obtain⟨l,x,r,rfl,rfl,h3,h4,h5⟩:=og.1 h;obtain⟨l',r',rfl⟩:=List.append_of_mem (hp.mem_iff.1 (show x∈l++x::r by simp));have Bm:(l++r).Perm (l'++r'):=(List.perm_middle.symm.trans (hp.trans List.perm_middle)).cons_inv;refine⟨0+l'.length,og.2 ⟨l',x,r',rfl,rfl,h3,h4,λy hy=>h5 y (Bm.mem_iff.2 hy)⟩,λy=>?_⟩;have e1:∀(a b:List (Value×Value)),(a++x::b).set (0+a.length) y=a++y::b:=λa b=>by simp
 rw [e1,e1];exact List.perm_middle.trans ((Bm.cons y).trans List.perm_middle.symm)
theorem At {m:Mp} {d:TypeDesc} {a a' b b':Value} {r:Bool} (h:Instr.sameNow d a b=some r) (ha:bB m a a') (hb:bB m b b'):Instr.sameNow d a' b'=some r:=by
 unfold Instr.sameNow at h;split at h;cases ha;cases hb;exact h;cases ha;cases hb;exact h;cases ha;cases hb;exact h;cases h
theorem Gq {d:TypeDesc} {a b:Value} (h:Instr.sameNow d a b=some true):Instr.sameBits 10000 b a=true:=by
 unfold Instr.sameNow at h;split at h;rename_i k x k' y;split at h;rename_i e;subst e;simp only [Option.some.injEq,beq_iff_eq] at h;subst h;simp [Instr.sameBits];cases h;rename_i x y;simp only [Option.some.injEq] at h;have e:x.data=y.data:=eq_of_beq (show (x.data == y.data)=true from h);show (y.data == x.data)=true;rw [e];exact beq_self_eq_true _;simp only [Option.some.injEq] at h;have:=LawfulBEq.eq_of_beq h;subst this;simp [Instr.sameBits];cases h
theorem lQ {m:Mp} {d:TypeDesc} {k k':Value} (hk:bB m k k'):∀(es:List (Value×Value)) (kM:List MapEntry) (i:Nat) (r:Option (Nat×Value)),
 es.length=kM.length->(∀(j:Nat) (x:Value×Value) (e:MapEntry),es[j]? = some x->kM[j]? = some e->bB m x.1 e.key/\bB m x.2 e.val)->
 eL d k es i=some r->∃r',Instr.findNow d k' kM i=some r'/\
  ((r=none/\r'=none)\/∃j v v' e,r=some (i+j,v)/\r'=some (i+j,v')/\bB m v v'/\kM[j]? = some e/\Instr.sameNow d k' e.key=some true)
 | [],kM,i,r,hl,_,h=>by
   cases kM with
   | cons _ _=>simp at hl
   | nil=>injection h with h;subst h;exact⟨none,rfl,.inl ⟨rfl,rfl⟩⟩
 | x::es,kM,i,r,hl,hr,h=>by
   cases kM with
   | nil=>simp at hl
   | cons e kM=>
     obtain⟨h1,h2⟩:=hr 0 x e rfl rfl;unfold eL at h;split at h
     . rename_i hs;split at h<;>try(cases h;done)
       injection h with h;subst h;have R0:=At hs hk h1;exact⟨some (i,e.val),by simp [Instr.findNow,R0],.inr ⟨0,x.2,e.val,e,rfl,rfl,h2,rfl,R0⟩⟩
     rename_i hs;have R0:=At hs hk h1;obtain⟨r',h3,h4⟩:=lQ hk es kM (i+1) r (by simpa using hl) (λj y f a b=>hr (j+1) y f (by simpa using a) (by simpa using b)) h;refine⟨r',by simp [Instr.findNow,R0,h3],?_⟩;rcases h4 with h4|⟨j,v,v',e',h5,h6,h7,h8,h9⟩;exact .inl h4;refine .inr ⟨j+1,v,v',e',?_,?_,h7,by simpa using h8,h9⟩;rw [h5,show i+1+j=i+(j+1) by omega];rw [h6,show i+1+j=i+(j+1) by omega];cases h
theorem En {P:Program} {w:World} {kt:TypeId} {d:TypeDesc} {k:Value} (hd:P.underlying kt=some d) (hk:mq d=true) (e:Bool) (n:Nat) :
 (Instr.checkKey e (n+1) kt k).run P w=.ok () w:=by
 have:d=.string\/∃i,d=.int i:=by
  unfold mq at hk;split at hk;exact .inr ⟨_,rfl⟩;exact .inl rfl;cases hk
 unfold Instr.checkKey;rw [Sem.run_bind,run_underlying hd];rcases this with rfl|⟨i,rfl⟩<;>rfl
theorem lH {P:Program} {w:World} {kt:TypeId} {d:TypeDesc} {k:Value} (hd:P.underlying kt=some d) (hk:mq d=true) (e:Bool) :
 (Instr.checkKey e 10000 kt k).run P w=.ok () w:=En hd hk e 9999
def uI (P:Program) (e:TypeId) (yG:Bool):Option Value:=
 match P.info? e with
 | some i=>
   match i.zero with
   | some z=>if vg z then (if yG then (if fl z then some (.tuple #[z,.bool false]) else none) else some z) else none
   | none=>none
 | none=>none
def yN (P:Program) (A:AW) (t:TypeId) (x ix:Value) (yG:Bool):Option Value:=
 match P.underlying t with
 | some (.map kt e)=>
   match P.underlying kt with
   | some d=>
     if mq d then
      match x with
      | .map none=>uI P e yG
      | .map (some r)=>
        match A.bg r with
        | some (.map es _)=>
          match eL d ix es 0 with
          | some (some (_,v))=>some (if yG then .tuple #[v,.bool true] else v)
          | some none=>uI P e yG
          | none=>none
        | _=>none
      | _=>none
     else none
   | none=>none
 | _=>none
theorem wC {P:Program} {e:TypeId} {c:Bool} {v:Value} (h:uI P e c=some v) (m:Mp) :
 bB m v v/\∃z,v=(if c then .tuple #[z,.bool false] else z)/\∀w,(zeroValue e).run P w=.ok z w:=by
 unfold uI at h;split at h<;>try(cases h;done)
 rename_i i hi;split at h<;>try(cases h;done)
 rename_i z hz;split at h<;>try(cases h;done)
 rename_i hg;have NY:∀w,(zeroValue e).run P w=.ok z w:=λw=>by simp [zeroValue,typeInfo,hi,hz]
 cases c;simp only [Bool.false_eq_true,if_false,Option.some.injEq] at h;subst h;exact⟨.uW hg m,z,rfl,NY⟩;simp only [if_true] at h;split at h<;>try(cases h;done)
 rename_i hs;injection h with h;subst h;exact⟨.uW (v:=.tuple #[z,.bool false]) (show (#[z,Value.bool false]:Array Value).all fl=true by simp [hs];rfl) m,z,rfl,NY⟩
theorem bB.pair {m:Mp} {a a' b b':Value} (h:bB m a a') (k:bB m b b'):bB m (.tuple #[a,b]) (.tuple #[a',b']):=by
 refine .tuple rfl λi v v' h1 h2=>?_
 match i with
 | 0=>simp at h1 h2;subst h1;subst h2;exact h
 | 1=>simp at h1 h2;subst h1;subst h2;exact k
 | i+2=>simp at h1
theorem E0 {P:Program} {m:Mp} {A:AW} {w:World} (hs:jM m A w) {t:TypeId} {x x' ix ix' v:Value} {c:Bool} (h:yN P A t x ix c=some v)
 (hx:bB m x x') (Wa:bB m ix ix'):∃v',bB m v v'/\∀w',(∀b,b<w.heap.size->w'.heap[b]? = w.heap[b]?)->(Instr.lookup t x' ix' c).run P w'=.ok v' w':=by
 unfold yN at h;split at h<;>try(cases h;done)
 rename_i kt e hu;split at h<;>try(cases h;done)
 rename_i d hd;split at h<;>try(cases h;done)
 rename_i wi;split at h<;>try(cases h;done)
 cases hx;obtain⟨h1,z,rfl,h2⟩:=wC h m;refine⟨_,h1,λw' _=>?_⟩;simp only [Instr.lookup,Sem.run_bind,run_underlying hu,Result.andThen_ok,Sem.run_pure,lH hd wi,run_findKey hd (l:=(#[]:Array MapEntry).toList) (k:=ix') (a:=none) (show Instr.findNow d ix' [] 0=some none from rfl),h2];rename_i r;split at h<;>try(cases h;done)
 rename_i es own hg;obtain⟨p,hp,kM,aw,xn,Xi,hh,hl,up⟩:=hs.Ev _ _ hg;cases hx with
 | map hx=>
   rename_i r';obtain⟨p',SU,rfl⟩:=hx;rw [hp] at SU;injection SU with SU;subst SU;have hb:p.block<w.heap.size:=(Array.getElem?_eq_some_iff.1 hh).1;split at h;rename_i i v0 Tb;obtain⟨i',hf,_⟩:=wD Xi Tb;obtain⟨r',h3,h4⟩:=lQ Wa xn kM.toList 0 _ (by simpa using hl) (λj y f a b=>up j y f a (by simpa using b)) hf;rcases h4 with ⟨h4,_⟩|⟨j,v1,v',e',h5,rfl,h7,_,_⟩;cases h4;injection h5 with h5;injection h5 with h5 h6;subst h6;injection h with h;subst h;refine⟨if c then .tuple #[v',.bool true] else v',?_,λw' he=>?_⟩;cases c;exact h7;exact .pair h7 (.bool true);have YV:w'.heap[p.block]? = some (.map kM aw):=(by rw [he _ hb];exact hh);simp only [Instr.lookup,Sem.run_bind,run_underlying hu,Result.andThen_ok,Sem.run_pure,Go.MapKept.run_getObj_map YV,lH hd wi,run_findKey hd h3];rename_i Tb;have hf:=qp Xi Tb;obtain⟨r',h3,h4⟩:=lQ Wa xn kM.toList 0 _ (by simpa using hl) (λj y f a b=>up j y f a (by simpa using b)) hf
   rcases h4 with ⟨_,rfl⟩|⟨j,v1,v',e',h5,_⟩;obtain⟨h1,z,rfl,h2⟩:=wC h m;refine⟨_,h1,λw' he=>?_⟩;have YV:w'.heap[p.block]? = some (.map kM aw):=(by rw [he _ hb];exact hh);simp only [Instr.lookup,Sem.run_bind,run_underlying hu,Result.andThen_ok,Sem.run_pure,Go.MapKept.run_getObj_map YV,lH hd wi,run_findKey hd h3,h2];cases h5;cases h
def yM (P:Program) (A:AW) (t:TypeId) (x:Option Value):Option (Value×AW):=
 match x with
 | none=>some (.map (some A.next),A.alloc (.map [] true))
 | some (.int _ _)=>
   match P.underlying t with
   | some (.map _ _)=>some (.map (some A.next),A.alloc (.map [] true))
   | _=>none
 | _=>none
theorem CB {m:Mp} {A:AW} {w:World} (hs:jM m A w) :
 jN m A w (m.ext A.next ⟨w.heap.size,0,0,0⟩) (A.alloc (.map [] true)) (w.alloc (.map #[] 0)):=
 jN.Q4 hs (.map [] true) ⟨w.heap.size,0,0,0⟩ rfl rfl rfl (by simp) (λb hb=>yq w _ b hb) (Nat.le_refl _)
  ⟨#[],0,[],List.Perm.nil,yr w _,rfl,λk x e h=>by simp at h⟩
theorem DI {P:Program} {m:Mp} {A A1:AW} {w:World} (hs:jM m A w) {t:TypeId} {x x':Option Value} {v:Value} (h:yM P A t x=some (v,A1)) (hx:vN m x x') :
 ∃v' w' m',(Instr.makeMap t x').run P w=.ok v' w'/\jN m A w m' A1 w'/\bB m' v v':=by
 unfold yM at h;split at h
 . cases x' with
   | some _=>exact hx.elim
   | none=>
     simp only [Option.some.injEq,Prod.mk.injEq] at h;obtain⟨rfl,rfl⟩:=h;refine⟨.map (some w.heap.size),_,_,?_,CB hs,.map ⟨⟨w.heap.size,0,0,0⟩,by simp [Mp.ext],rfl⟩⟩;simp only [Instr.makeMap,Sem.run_bind,Sem.run_pure,Result.andThen_ok,run_newObj];rfl
 . rename_i k n;cases x' with
   | none=>exact hx.elim
   | some x'=>
     split at h<;>try(cases h;done)
     rename_i kt e hu;simp only [Option.some.injEq,Prod.mk.injEq] at h;obtain⟨rfl,rfl⟩:=h;have VJ:bB m (.int k n) x':=hx;cases VJ;refine⟨.map (some w.heap.size),_,_,?_,CB hs,.map ⟨⟨w.heap.size,0,0,0⟩,by simp [Mp.ext],rfl⟩⟩;simp only [Instr.makeMap,Sem.run_bind,run_underlying hu,Result.andThen_ok,Fi,Sem.run_pure,run_newObj];rfl
 cases h
def fQ (P:Program) (A:AW) (t:TypeId) (x k v:Value):Option AW:=
 match P.underlying t,x with
 | some (.map kt _),.map (some r)=>
   match P.underlying kt,A.bg r with
   | some d,some (.map es true)=>
     if mq d then
      match eL d k es 0 with
      | some (some (i,_))=>some (A.set r (some (.map (es.set i (k,v)) true)))
      | some none=>some (A.set r (some (.map (es++[(k,v)]) true)))
      | none=>none
     else none
   | _,_=>none
 | _,_=>none
theorem rZ {P:Program} {m:Mp} {A A1:AW} {w:World} (hs:jM m A w) {t:TypeId} {x x' k k' v v':Value} (h:fQ P A t x k v=some A1)
 (hx:bB m x x') (hk:bB m k k') (hv:bB m v v'):∃w',(Instr.mapUpdate t x' k' v').run P w=.ok () w'/\jN m A w m A1 w':=by
 unfold fQ at h;split at h<;>try(cases h;done)
 rename_i kt e r hu;split at h<;>try(cases h;done)
 rename_i d es hd hg;split at h<;>try(cases h;done)
 rename_i wi;obtain⟨p,hp,kM,aw,xn,Xi,hh,hl,up⟩:=hs.Ev _ _ hg;have hb:p.block<w.heap.size:=(Array.getElem?_eq_some_iff.1 hh).1;cases hx with
 | map hx=>
   rename_i r';obtain⟨p',SU,rfl⟩:=hx;rw [hp] at SU;injection SU with SU;subst SU;have jO:∀(o:Obj) (j:Nat),j≠p.block->(w.heap.setIfInBounds p.block o)[j]? = w.heap[j]?:=λo j hj=>by rw [Array.getElem?_setIfInBounds_ne (by omega)]
   have XS:∀(o:Obj),(w.heap.setIfInBounds p.block o)[p.block]? = some o:=λo=>by simp [hb]
   split at h;rename_i i0 v0 Tb;injection h with h;subst h;obtain⟨i,hf,ke⟩:=wD Xi Tb;obtain⟨r',h3,h4⟩:=lQ hk xn kM.toList 0 _ (by simpa using hl) (λj y f a b=>up j y f a (by simpa using b)) hf;rcases h4 with ⟨h4,_⟩|⟨j,v1,v'',e',h5,rfl,h7,h8,h9⟩;cases h4;injection h5 with h5;injection h5 with h5 h6;simp only [Nat.zero_add] at h5 h3;subst h5;have hi:i<kM.size:=by
    have:=(List.getElem?_eq_some_iff.1 h8).1
    simpa using this
   have h8':kM[i]? = some e':=by simpa using h8
   have hkts:(Instr.keyThatStays (((kM[i]?).map (·.key)).getD k') k').run P w=.ok k' w:=by
    simp [h8',Instr.keyThatStays,Gq h9]
   refine⟨{ w with heap:=w.heap.setIfInBounds p.block (.map (kM.modify i λe=>{ e with key:=k',val:=v' }) aw) },?_,?_⟩;simp only [Instr.mapUpdate,Sem.run_bind,run_underlying hu,Result.andThen_ok,Go.MapKept.run_getObj_map hh,lH hd wi,run_findKey hd h3,hkts,Go.MapKept.run_setObj_map _ hh];refine jN.tV hs hg rfl rfl hp (by simp) rfl rfl rfl ⟨_,aw,xn.set i (k,v),ke _,XS _,by simp [hl],λj y f a b=>?_⟩ (jO _);by_cases mM:i=j;subst mM;rw [List.getElem?_set_self (by omega)] at a;injection a with a;subst a;simp [Array.getElem?_modify,h8'] at b;subst b;exact⟨hk,hv⟩;rw [List.getElem?_set_ne mM] at a;rw [Array.getElem?_modify,if_neg mM] at b;exact up j y f a b;rename_i Tb;injection h with h;subst h;have hf:=qp Xi Tb;obtain⟨r',h3,h4⟩:=lQ hk xn kM.toList 0 _ (by simpa using hl) (λj y f a b=>up j y f a (by simpa using b)) hf;rcases h4 with ⟨_,rfl⟩|⟨j,v1,v'',e',h5,_⟩;refine⟨{ w with heap:=w.heap.setIfInBounds p.block (.map (kM.push { key:=k',val:=v',born:=aw }) (aw+1)) },?_,?_⟩
   simp only [Instr.mapUpdate,Sem.run_bind,run_underlying hu,Result.andThen_ok,Go.MapKept.run_getObj_map hh,lH hd wi,run_findKey hd h3,Go.MapKept.run_setObj_map _ hh];refine jN.tV hs hg rfl rfl hp (by simp) rfl rfl rfl ⟨_,aw+1,xn++[(k,v)],Xi.append_right _,XS _,by simp [hl],λj y f a b=>?_⟩ (jO _);rw [List.getElem?_append] at a;rw [Array.getElem?_push] at b;by_cases hj:j<xn.length;rw [if_pos hj] at a;rw [if_neg (by omega)] at b;exact up j y f a b;rw [if_neg hj] at a;have tm:j=xn.length:=by
    have:=(List.getElem?_eq_some_iff.1 a).1;simp at this;omega
   subst tm;rw [if_pos hl] at b;simp at a b;subst a;subst b;exact⟨hk,hv⟩;cases h5;cases h
theorem fl.xR {v:Value} (h:fl v=true):v.oneCell'=true:=by
 unfold fl at h;split at h<;>first|rfl|(cases h;done)
def Hu (P:Program) (A:AW) (t:TypeId) (x:Value):Option AW:=
 match P.underlying t,x with
 | some (.slice _),.slice none 0 0=>some A
 | some (.slice e),.slice (some p) n _=>
   if n=0 then some A else
   match P.info? e,A.bg p.block with
   | some i,some (.cells cs true unit)=>
     match i.zero with
     | some z=>
       if z.cells.size=i.size/\0<i.size/\z.cells.toList.all fl/\p.off+n*i.size<=cs.length then
        some (A.set p.block (some (.cells (fh cs p.off (ft z.cells.toList n)) true unit)))
       else none
     | none=>none
   | _,_=>none
 | _,_=>none
theorem Ht {P:Program} {m:Mp} {A A1:AW} {w:World} (hs:jM m A w) {t ty:TypeId} {x x':Value} (h:Hu P A t x=some A1) (hx:bB m x x') :
 ∃w',(Builtin.clear_ #[t] ty #[x']).run P w=.ok undef w'/\jN m A w m A1 w':=by
 unfold Hu at h;split at h<;>try(cases h;done)
 rename_i e hu;cases hx;injection h with h;subst h;exact⟨w,by simp [Builtin.clear_,run_underlying hu,undef],jN.refl hs⟩;rename_i e p n c hu;split at h;rename_i h0;subst h0;injection h with h;subst h;cases hx;exact⟨w,by simp [Builtin.clear_,run_underlying hu,undef],jN.refl hs⟩;rename_i h0;split at h<;>try(cases h;done)
 rename_i i cs unit hi hg;split at h<;>try(cases h;done)
 rename_i z hz;split at h<;>try(cases h;done)
 rename_i hc;obtain⟨nA,Lj,gV,qf⟩:=hc;injection h with h;subst h;cases hx with
 | slice hh h1 h2=>
   rename_i p' iD;have ha:pz m p p':=by
    rcases hh with hh|hh;exact hh.RB;omega
   obtain⟨xB,I1,q,hm,hb,ho⟩:=ha;have Qk:=qX z.cells n (by omega);have k8:=oc gV n;have bG:(ft z.cells.toList n).length=n*i.size:=(by rw [jn];simp [nA])
   obtain⟨w',hr,ev⟩:=pQ (P:=P) (o:=p.off) hm (ft z.cells.toList n) (ft z.cells.toList n) 0 cs A w hs hg (.nE k8 m)
    (λv hv=>fl.xR (List.all_eq_true.1 k8 v hv)) (by omega)
   have ea:p'=⟨q.block,q.base+p.off,none⟩:=(by rw [yR p' I1,hb,ho]);subst ea;refine⟨w',?_,by simpa using ev⟩;have NY:(zeroValue e).run P w=.ok z w:=(by simp [zeroValue,typeInfo,hi,hz]);obtain⟨n,rfl⟩:=Nat.exists_eq_succ_of_ne_zero h0;have hzc':(Builtin.zeroCells z.cells (n+1)).toList=ft z.cells.toList (n+1):=Qk;simp only [Builtin.clear_,List.getElem?_toArray,List.getElem?_cons_zero,Sem.run_bind,run_underlying hu,Result.andThen_ok,NY,hzc',hr,Sem.run_pure];rfl
def oE (P:Program) (A:AW) (t u:TypeId) (s x:Value):Option (Value×AW):=
 match P.underlying t,P.underlying u,x with
 | some (.slice e),some (.int _),.int _ q=>
   match P.info? e with
   | some i=>
     match i.zero with
     | some z=>
       match gr A i.size s with
       | some (base,k,sE)=>
         if z.cells.size=i.size/\0<i.size/\z.cells.toList.all fl/\0<=q/\k+q.toNat<=140737488355328/\(k+q.toNat)*i.bytes<=140737488355328 then
          if q.toNat=0 then some (s,A)
          else some (.slice (some ⟨A.next,0,none⟩) (k+q.toNat) (k+q.toNat),((match base with|some a=>A.set a.block none|none=>A)).alloc (.cells (sE++ft z.cells.toList q.toNat) true i.size))
         else none
       | none=>none
     | none=>none
   | none=>none
 | _,_,_=>none
theorem zy {P:Program} (w:World) (t tn ty e:TypeId) (i:TypeInfo) (kn kq:IntKind) (ht:P.underlying t=some (.slice e)) (htn:P.underlying tn=some (.int kn)) (hi:P.info? e=some i)
 (base:Option Addr) (n c:Nat) (hc:n<=c):(Builtin.append_ #[t,tn] ty #[.slice base n c,.int kq 0]).run P w=.ok (.slice base n c) w:=by
 have hw:IntKind.i64.wrap (0:Int)=0:=rfl;cases base<;>simp [Builtin.append_,run_underlying ht,run_underlying htn,sizeOf,typeInfo,hi,asInt,asIntOf,hw,hc,storeCells]
theorem zz {P:Program} (w:World) (t tn ty e:TypeId) (i:TypeInfo) (z:Value) (kn kq:IntKind) (ht:P.underlying t=some (.slice e)) (htn:P.underlying tn=some (.int kn)) (hi:P.info? e=some i) (hz:i.zero=some z)
 (g o iX oH m:Nat) (io:Array Value) (e':TypeId) (hg:w.heap[g]? = some (.cells io e' (0,0))) (h0:0<m) (hs:0<i.size) (h48:m*i.bytes<=281474976710656) (h63:(m:Int)<=9223372036854775807)
 (h1:∀u∈(Builtin.zeroCells z.cells m).toList,u.oneCell'=true) (CW:iX+m<=oH) (qf:o+iX*i.size+(Builtin.zeroCells z.cells m).toList.length<=io.size) :
 (Builtin.append_ #[t,tn] ty #[.slice (some ⟨g,o,none⟩) iX oH,.int kq m]).run P w =
  .ok (.slice (some ⟨g,o,none⟩) (iX+m) oH) (w.setRow g (io.toList.take (o+iX*i.size)++(Builtin.zeroCells z.cells m).toList++io.toList.drop (o+iX*i.size+(Builtin.zeroCells z.cells m).toList.length)).toArray):=by
 have hk:m≠0:=by omega
 have hw:IntKind.i64.wrap (m:Int)=m:=ai (by omega) h63;have h48i:¬(281474976710656<(m:Int)*(i.bytes:Int)):=by
  rw [<-Int.natCast_mul];omega
 have I6:¬((m:Int)<0):=by omega
 have hns:¬(m*i.size=0):=Nat.mul_ne_zero hk (by omega);have dv:=run_storeCells_at P g (o+iX*i.size) e' (Builtin.zeroCells z.cells m).toList 0 io w hg (by simpa using qf) h1;simp only [Nat.add_zero] at dv;have ea:(⟨g,o,none⟩:Addr).add (iX*i.size)=⟨g,o+iX*i.size,none⟩:=mX _ _ rfl;simp [Builtin.append_,run_underlying ht,run_underlying htn,sizeOf,typeInfo,zeroValue,hi,hz,asInt,asIntOf,hw,I6,hns,h48i,CW,ea,dv]
theorem EX {P:Program} {m:Mp} {A A1:AW} {w:World} (hs:jM m A w) {t u ty:TypeId} {s x s' x' v:Value} (h:oE P A t u s x=some (v,A1))
 (Lf:bB m s s') (hvx:bB m x x') :
 ∃v' w' m',(Builtin.append_ #[t,u] ty #[s',x']).run P w=.ok v' w'/\jN m A w m' A1 w'/\bB m' v v':=by
 unfold oE at h;split at h<;>try(cases h;done)
 rename_i e kn kq q hu SN;cases hvx;split at h<;>try(cases h;done)
 rename_i i hi;split at h<;>try(cases h;done)
 rename_i z hz;split at h<;>try(cases h;done)
 rename_i base k sE ho;split at h<;>try(cases h;done)
 rename_i yt;obtain⟨nA,tI,gV,CY,HR,k7⟩:=yt;obtain⟨n,rfl⟩:=Int.eq_ofNat_of_zero_le CY;simp only [Int.toNat_natCast] at h HR k7;by_cases DX:n=0;subst DX;rw [if_pos rfl] at h;simp only [Option.some.injEq,Prod.mk.injEq] at h;obtain⟨rfl,rfl⟩:=h;have N0:∃b' n' c',s'=.slice b' n' c'/\n'<=c':=by
  unfold gr at ho;split at ho;cases Lf;exact⟨_,_,_,rfl,Nat.le_refl _⟩
  . cases Lf with
    | slice _ h1 h2=>exact⟨_,_,_,rfl,Nat.le_trans h1 h2⟩
  cases ho
 obtain⟨b',n',c',rfl,eJ⟩:=N0;exact⟨_,w,m,zy w t u ty e i kn kq hu SN hi b' n' c' eJ,jN.refl hs,Lf⟩;rw [if_neg DX] at h;simp only [Option.some.injEq,Prod.mk.injEq] at h;obtain⟨rfl,rfl⟩:=h;have Qk:(Builtin.zeroCells z.cells n).toList=ft z.cells.toList n:=qX z.cells n (by omega);have k8:=oc gV n;have lN:∀v∈ft z.cells.toList n,v.oneCell'=true:=λv hv=>fl.xR (List.all_eq_true.1 k8 v hv);have EM:n*i.bytes<=140737488355328:=Nat.le_trans (Nat.mul_le_mul_right _ (Nat.le_add_left n k)) k7;have hl:(Builtin.zeroCells z.cells n).toList.length=n*i.size:=by rw [Qk,jn];simp [nA]
 refine AS hs (ts:=#[t,u]) (X:=.int kq n) (l':=(Builtin.zeroCells z.cells n).toList) (e:=e) (i:=i) (z:=z) nA DX HR k7 lN hl (by rw [Qk];exact .nE k8 m) ho Lf ?_ ?_ ?_;intro _ _ hk;have:=Go.Lib.run_append_nil_zeros (P:=P) w t u ty e i z kq kn hu SN hi hz n (by omega) tI (by omega) (by omega)
 simpa using this
 intro b iX oH lo hk h1 h2 h3;have hf:=run_firstCells_some (P:=P) w.drew i.size iX b iX oH lo h1 (by simpa using h2);have:=Go.Lib.run_append_grow_zeros (P:=P) w t u ty e i z kq kn hu SN hi hz (some b) iX oH lo hf n (by omega) tI h3 (by omega) (by omega) (growslice_fits h3 (by subst hk;exact k7))
 simpa using this
 intro g o iX oH io e' h1 h2 h3;exact zz w t u ty e i z kn kq hu SN hi hz g o iX oH n io e' h1 (by omega) tI (by omega) (by omega) (by rw [Qk];exact lN) h2 h3
end Go.Stx
namespace Go.Stx
open Go
variable [Gl]
def pI (P:Program) (eq:TypeId->Value->Value->Option Bool) (xs ys:Array Value):List Field->Option Bool
 | []=>some true
 | f::r=>
   if f.name = "_" then pI P eq xs ys r else
   match apart P f.type xs f.offset,apart P f.type ys f.offset with
   | some a,some b=>
     match eq f.type a b,pI P eq xs ys r with
     | some p,some q=>some (p && q)
     | _,_=>none
   | _,_=>none
def uJ (P:Program) (eq:Value->Value->Option Bool) (e:TypeId) (size:Nat) (xs ys:Array Value):List Nat->Option Bool
 | []=>some true
 | i::r=>
   match apart P e xs (i*size),apart P e ys (i*size) with
   | some a,some b=>
     match eq a b,uJ P eq e size xs ys r with
     | some p,some q=>some (p && q)
     | _,_=>none
   | _,_=>none
def s8 (P:Program):Nat->TypeId->Value->Value->Option Bool
 | 0,_,_,_=>none
 | d+1,t,x,y=>
   match P.underlying t,x,y with
   | some .bool,.bool a,.bool b=>some (a == b)
   | some (.int _),.int k a,.int k' b=>if k=k' then some (decide (a=b)) else none
   | some .string,.string a,.string b=>some (a.toList == b.toList)
   | some (.struct fs),.agg xs,.agg ys=>if P.stoodInHeld t then none else pI P (s8 P d) xs ys fs.toList
   | some (.array n e),.agg xs,.agg ys=>
     match P.info? e with
     | some i=>uJ P (s8 P d e) e i.size xs ys (List.range n)
     | none=>none
   | _,_,_=>none
theorem qi {P:Program} {m:Mp} {n d:Nat} (ih:∀(t:TypeId) (x y x' y':Value) (r:Bool),s8 P n t x y=some r->bB m x x'->bB m y y'->∀w,(Op.equalIn d t x' y').run P w=.ok r w)
 {xs ys XI XH:Array Value} (hx:bB m (.agg xs) (.agg XI)) (hy:bB m (.agg ys) (.agg XH)) (w:World):∀(fs:List Field) (r:Bool),pI P (s8 P n) xs ys fs=some r->
 (Op.eqFields d XI XH fs).run P w=.ok r w
 | [],r,h=>by injection h with h;subst h;rfl
 | f::fs,r,h=>by
   unfold pI at h;split at h;rename_i hn;simp only [Op.eqFields,hn,ne_eq,not_true_eq_false,if_false];exact qi ih hx hy w fs r h;rename_i hn;split at h<;>try(cases h;done)
   rename_i a b ha hb;split at h<;>try(cases h;done)
   rename_i p q hp hq;injection h with h;subst h;obtain⟨a',h1,h2⟩:=mv (P:=P) ha hx;obtain⟨b',h3,h4⟩:=mv (P:=P) hb hy;have h5:=ih _ _ _ _ _ _ hp h1 h3 w;have h6:=qi ih hx hy w fs q hq;simp only [Op.eqFields,ne_eq,hn,not_false_eq_true,if_true,Sem.run_bind,h2,h4,h5,Result.andThen_ok];cases p;rfl;simp only [Bool.not_true,Bool.false_eq_true,if_false,h6,Bool.true_and]
theorem ww {P:Program} {m:Mp} {d size:Nat} {e:TypeId} {eq:Value->Value->Option Bool}
 (ih:∀(x y x' y':Value) (r:Bool),eq x y=some r->bB m x x'->bB m y y'->∀w,(Op.equalIn d e x' y').run P w=.ok r w)
 {xs ys XI XH:Array Value} (hx:bB m (.agg xs) (.agg XI)) (hy:bB m (.agg ys) (.agg XH)) (w:World):∀(is:List Nat) (r:Bool),uJ P eq e size xs ys is=some r->
 (Op.eqItems d e size XI XH is).run P w=.ok r w
 | [],r,h=>by injection h with h;subst h;simp [Op.eqItems]
 | i::is,r,h=>by
   unfold uJ at h;split at h<;>try(cases h;done)
   rename_i a b ha hb;split at h<;>try(cases h;done)
   rename_i p q hp hq;injection h with h;subst h;obtain⟨a',h1,h2⟩:=mv (P:=P) ha hx;obtain⟨b',h3,h4⟩:=mv (P:=P) hb hy;have h5:=ih _ _ _ _ _ hp h1 h3 w;have h6:=ww ih hx hy w is q hq;simp only [Op.eqItems,Sem.run_bind,h2,h4,h5,Result.andThen_ok];cases p;simp;simp [h6]
theorem pq {P:Program} {m:Mp}:∀(n d:Nat) (t:TypeId) (x y x' y':Value) (r:Bool),n<=d->s8 P n t x y=some r->bB m x x'->bB m y y'->
 ∀w,(Op.equalIn d t x' y').run P w=.ok r w
 | 0,d,t,x,y,x',y',r,_,h,_,_,w=>by cases h
 | n+1,0,t,x,y,x',y',r,hd,h,hx,hy,w=>by omega
 | n+1,d+1,t,x,y,x',y',r,hd,h,hx,hy,w=>by
   unfold s8 at h;split at h<;>try(cases h;done)
   rename_i hu;cases hx;cases hy;injection h with h;subst h;simp [Op.equalIn,run_underlying hu]
   . rename_i hu;cases hx;cases hy;split at h<;>try(cases h;done)
     rename_i hk;injection h with h;subst h;subst hk;simp [Op.equalIn,run_underlying hu];rfl
   rename_i hu;cases hx;cases hy;injection h with h;subst h;exact run_equalIn_string w d t _ _ hu
   . rename_i fs xs ys hu;split at h<;>try(cases h;done)
     rename_i hp;have MF:=hx;have Xb:=hy;cases hx;cases hy;have hfo:P.fieldsOf t=fs:=(by simp [Program.fieldsOf,hu]);rw [run_equalIn_struct w d t _ _ (by rw [hfo];exact hu) (by simpa using hp),hfo];exact qi (λt x y x' y' r h1 h2 h3 w=>pq n d t x y x' y' r (by omega) h1 h2 h3 w) MF Xb w _ _ h
   rename_i k e xs ys hu;split at h<;>try(cases h;done)
   rename_i i hi;have MF:=hx;have Xb:=hy;cases hx;cases hy;rw [run_equalIn_array w d _ _ hu hi];have hce:P.cellsOf e=i.size:=(by simp [Program.cellsOf,hi]);rw [hce];exact ww (λx y x' y' r h1 h2 h3 w=>pq n d e x y x' y' r (by omega) h1 h2 h3 w) MF Xb w _ _ h
theorem pR {P:Program} {t:TypeId} {x y:Array TypeId} {b:Bool} (d:Nat) (fn:Fn) (p q:Array Value) (hu:P.underlying t=some (.func x y b)) (w:World) :
 (Op.equalIn (d+1) t (.func fn p q) .nilFunc).run P w=.ok false w:=by
 simp [Op.equalIn,run_underlying hu]
theorem oR {P:Program} {t:TypeId} {x y:Array TypeId} {b:Bool} (d:Nat) (hu:P.underlying t=some (.func x y b)) (w:World) :
 (Op.equalIn (d+1) t .nilFunc .nilFunc).run P w=.ok true w:=by
 simp [Op.equalIn,run_underlying hu]
def Na (P:Program) (op:BinOp) (t:TypeId) (x y:Value):Option Value:=
 match x,y with
 | .agg xs,.agg ys=>
   if P.eqGuardType P.depth t then none else
   match op with
   | .eql=>(s8 P 8 t (.agg xs) (.agg ys)).map .bool
   | .neq=>(s8 P 8 t (.agg xs) (.agg ys)).map λb=>.bool (!b)
   | _=>none
 | .slice a _ _,.slice none 0 0=>
   match op,P.underlying t with
   | .eql,some (.slice _)=>some (.bool a.isNone)
   | .neq,some (.slice _)=>some (.bool (!a.isNone))
   | _,_=>none
 | .map a,.map none=>
   match op,P.underlying t with
   | .eql,some (.map _ _)=>some (.bool a.isNone)
   | .neq,some (.map _ _)=>some (.bool (!a.isNone))
   | _,_=>none
 | .func _ _ _,.nilFunc=>
   match op,P.underlying t with
   | .eql,some (.func _ _ _)=>some (.bool false)
   | .neq,some (.func _ _ _)=>some (.bool true)
   | _,_=>none
 | .nilFunc,.nilFunc=>
   match op,P.underlying t with
   | .eql,some (.func _ _ _)=>some (.bool true)
   | .neq,some (.func _ _ _)=>some (.bool false)
   | _,_=>none
 | x,y=>TP P op t x y
theorem Ba {P:Program} {op:BinOp} {t:TypeId} {x y v:Value} (h:Na P op t x y=some v) {m:Mp} {x' y':Value} (hx:bB m x x') (hy:bB m y y') (xo yo:Operand) (w:World) :
 (do eqGuard op t xo yo x' y';binOp op t x' y':Sem Value).run P w=.ok v w/\bB m v v:=by
 unfold Na at h;split at h
 . rename_i xs ys;split at h<;>try(cases h;done)
   rename_i hg;have MF:=hx;have Xb:=hy;cases hx;cases hy;have MM:P.eqGuardType P.depth t=false:=by simpa using hg
   rw [Sem.run_bind,run_eqGuard_agg w op t xo yo _ _ MM,Result.andThen_ok];cases op<;>simp only at h<;>(try (cases h;done));obtain⟨r,h1,rfl⟩:=Option.map_eq_some_iff.1 h;exact⟨by rw [run_eql_struct,pq 8 10000 t _ _ _ _ r (by omega) h1 MF Xb w];rfl,by constructor⟩;obtain⟨r,h1,rfl⟩:=Option.map_eq_some_iff.1 h;exact⟨by rw [run_neq_struct,pq 8 10000 t _ _ _ _ r (by omega) h1 MF Xb w];rfl,by constructor⟩
 rename_i a n c;have key:∀(a':Option Addr) (n' c':Nat) (e:TypeId),P.underlying t=some (.slice e)->(Op.equal t (.slice a' n' c') (.slice none 0 0)).run P w=.ok a'.isNone w:=λa' n' c' e hu=>run_equal_slice_nil w t e a' n' c' hu;have VJ:∃a' n' c',x'=.slice a' n' c'/\a'.isNone=a.isNone:=by
  cases hx<;>exact⟨_,_,_,rfl,rfl⟩
 obtain⟨a',n',c',rfl,ha⟩:=VJ;cases hy;split at h;rename_i hu;injection h with h;subst h;exact⟨by simp [eqGuard,binOp,key _ _ _ _ hu,ha],by constructor⟩
 rename_i hu;injection h with h;subst h;exact⟨by simp [eqGuard,binOp,key _ _ _ _ hu,ha],by constructor⟩
 cases h;rename_i a;have key:∀(a':Option Nat) (k e:TypeId),P.underlying t=some (.map k e)->(Op.equal t (.map a') (.map none)).run P w=.ok a'.isNone w:=λa' k e hu=>run_equal_map_nil w t k e a' hu;have VJ:∃a',x'=.map a'/\a'.isNone=a.isNone:=by
  cases hx<;>exact⟨_,rfl,rfl⟩
 obtain⟨a',rfl,ha⟩:=VJ;cases hy;split at h;rename_i hu;injection h with h;subst h;exact⟨by simp [eqGuard,binOp,key _ _ _ hu,ha],by constructor⟩
 rename_i hu;injection h with h;subst h;exact⟨by simp [eqGuard,binOp,key _ _ _ hu,ha],by constructor⟩
 cases h;cases hy;cases hx;split at h;rename_i hu;injection h with h;subst h;exact⟨by simp [eqGuard,binOp,fO (pR _ _ _ _ hu w)],by constructor⟩
 rename_i hu;injection h with h;subst h;exact⟨by simp [eqGuard,binOp,fO (pR _ _ _ _ hu w)],by constructor⟩
 cases h;cases hy;cases hx;split at h;rename_i hu;injection h with h;subst h;exact⟨by simp [eqGuard,binOp,fO (oR _ hu w)],by constructor⟩
 rename_i hu;injection h with h;subst h;exact⟨by simp [eqGuard,binOp,fO (oR _ hu w)],by constructor⟩
 cases h;exact L5 h hx hy xo yo w
end Go.Stx
namespace Go.Stx
open Go
variable [Gl]
abbrev Fr:=Nat->Value
def km (a:Fr) (i:Nat) (v:Value):Fr:=λj=>if j=i then v else a j
def eA (a:Fr) (d:Option Tmp) (v:Value):Fr:=
 match d with
 | some i=>km a i v
 | none=>a
def ia (a:Fr):Operand->Value
 | .tmp t=>a t
 | .const v=>v
 | .global g=>.pointer (some ⟨g,0,none⟩)
 | .func f=>.func (.func f) #[] #[]
def OK (w w':World):Prop:=∀b,b<w.heap.size->w'.heap[b]? = w.heap[b]?
theorem OK.refl (w:World):OK w w:=λ_ _=>rfl
theorem OK.cell {w w':World} (h:OK w w') {a:Addr} {v:Value} (hc:w.cell? a=some v):w'.cell? a=some v:=by
 have hb:=World.block_lt_of_cell? w a hc;rw [World.cell?_of_block (h _ hb)];exact hc
theorem OK.DV {m:Mp} {A:AW} {w w':World} (h:OK w w') (hs:jM m A w):jM m A w':=by
 refine⟨λi o hi=>?_,hs.inj,hs.qW,hs.xz,λb x hb=>?_,hs.yf,hs.uu⟩
 rotate_left
 have h1:=hs.laid b x hb;rw [h b (Array.getElem?_eq_some_iff.1 h1).1];exact h1;obtain⟨p,h1,h2⟩:=hs.Ev i o hi;have hb:=hs.jK hi h1;exact⟨p,h1,h2.heap (h _ hb)⟩
theorem OG {P:Program} {m:Mp} {A:AW} {w:World} (hs:jM m A w) {t:TypeId} {p p':Addr} {v:Value} (h:gX P A t p=some v) (hp:pz m p p') :
 ∃v',bB m v v'/\∀w',OK w w'->(loadVar t p').run P w'=.ok v' w':=by
 unfold gX at h;split at h;rename_i cs hr ha;obtain⟨v',h1,h2⟩:=yH hs hp hr (k:=0) (by simpa using h);have e:p'.add 0=p':=by unfold Addr.add;simp
 rw [e] at h1;refine⟨v',h2,λw' hx=>?_⟩;simp only [loadVar,Sem.run_bind,pB ha,Result.andThen_ok,Bool.false_eq_true,if_false,run_load,hx.cell h1];rename_i cs hr ha;split at h;rename_i i hi;split at h;rename_i eJ;injection h with h;subst h;obtain⟨l',hl,h1,h2⟩:=xH hs hp hr i.size eJ;refine⟨.agg l'.toArray,.qI h1,λw' hx=>?_⟩;have h3:=run_loadCells_list (P:=P) w' p' l' (λj v hv=>hx.cell (h2 j v hv));rw [hl] at h3;simp only [loadVar,Sem.run_bind,pB ha,Result.andThen_ok,if_true,fN hi,h3,Sem.run_pure];cases h;cases h;cases h
def L3 (P:Program) (op:BinOp) (t:TypeId) (x:Value):Option Value:=
 match P.underlying t,op,x with
 | some (.interface _),.eql,.nilIface=>some (.bool true)
 | some (.interface _),.neq,.nilIface=>some (.bool false)
 | some (.interface _),.eql,.iface _ _=>some (.bool false)
 | some (.interface _),.neq,.iface _ _=>some (.bool true)
 | _,_,_=>none
theorem nu {P:Program} {t:TypeId} {ms:Array (String×TypeId)} (d:Nat) (hu:P.underlying t=some (.interface ms)) (w:World) :
 (Op.equalIn (d+1) t .nilIface .nilIface).run P w=.ok true w:=by simp [Op.equalIn,run_underlying hu]
theorem nv {P:Program} {t u:TypeId} {v:Value} {ms:Array (String×TypeId)} (d:Nat) (hu:P.underlying t=some (.interface ms)) (w:World) :
 (Op.equalIn (d+1) t (.iface u v) .nilIface).run P w=.ok false w:=by simp [Op.equalIn,run_underlying hu]
theorem yO {P:Program} {m:Mp} {op:BinOp} {t:TypeId} {x x' v:Value} (h:L3 P op t x=some v) (hx:bB m x x') (xo:Operand) (w:World) :
 (do eqGuard op t xo (.const .nilIface) x' .nilIface;binOp op t x' .nilIface:Sem Value).run P w=.ok v w/\bB m v v:=by
 unfold L3 at h;split at h;rename_i hu;injection h with h;subst h;cases hx
 exact⟨by rw [eqGuard_nil_constR];simp [binOp,fO (nu _ hu w)],by constructor⟩;rename_i hu;injection h with h;subst h;cases hx
 exact⟨by rw [eqGuard_nil_constR];simp [binOp,fO (nu _ hu w)],by constructor⟩;rename_i hu;injection h with h;subst h;cases hx
 exact⟨by simp [eqGuard,binOp,fO (nv _ hu w)],by constructor⟩;rename_i hu;injection h with h;subst h;cases hx
 exact⟨by simp [eqGuard,binOp,fO (nv _ hu w)],by constructor⟩;cases h
def TC:List Value->Option (List Int)
 | []=>some []
 | .int .u8 n::l=>(TC l).map (n::·)
 | _::_=>none
theorem TB (l:List Value):∀(xs:List Int),TC l=some xs->l=xs.map (Value.int .u8):=by
 induction l with
 | nil=>intro xs h;injection h with h;subst h;rfl
 | cons v l ih=>
   intro xs h;unfold TC at h;split at h;rename_i e;cases e;rename_i n l' e;injection e with e1 e2;subst e1;subst e2;obtain⟨ys,h1,rfl⟩:=Option.map_eq_some_iff.1 h;rw [ih ys h1];rfl;cases h
def Hy (P:Program) (A:AW) (s d:TypeId) (x:Value):Option Value:=
 match P.underlying s,P.underlying d,x with
 | some (.slice e),some .string,.slice (some p) n _=>
   match P.underlying e,A.bP p.block with
   | some (.int .u8),some bP=>
     if p.off+n<=bP.length then
      match TC ((bP.drop p.off).take n) with
      | some xs=>some (.string (strOfNums xs))
      | none=>none
     else none
   | _,_=>none
 | _,_,_=>none
theorem Hx {P:Program} {m:Mp} {A:AW} {w:World} (hs:jM m A w) {s d:TypeId} {x x' v:Value} (h:Hy P A s d x=some v) (hx:bB m x x') :
 ∃v',bB m v v'/\∀w',OK w w'->(convert s d x').run P w'=.ok v' w':=by
 unfold Hy at h;split at h;rename_i e p n c N0 tq;split at h;rename_i bP he bI;split at h;rename_i eJ;split at h
 . rename_i xs hxs;injection h with h;subst h;have e1:=TB _ _ hxs;have bG:xs.length=n:=by
    have:=congrArg List.length e1;simp at this;omega
   cases hx with
   | slice hr h1 h2=>
     rename_i a' iD;refine⟨_,by constructor,λw' hw=>?_⟩;rcases hr with hr|⟨rfl,rfl,_⟩;obtain⟨l',h3,h4,h5⟩:=xH hs hr.RB bI n eJ;have ha:=yR a' hr.2.1;rw [ha];refine run_convert_bytes_arg w' s e N0 he a'.block a'.off n iD xs bG (λi hi=>?_) d tq;have hv:=h4.2 i (.int .u8 (xs.getD i 0)) (l'[i]'(by omega)) (by rw [e1];simp [List.getD,List.getElem?_eq_getElem (show i<xs.length by omega)]) (List.getElem?_eq_getElem (by omega));have h6:=h5 i _ (List.getElem?_eq_getElem (by omega));rw [mX _ _ hr.2.1] at h6;generalize l'[i]=z at hv h6;cases hv;exact hw.cell h6;have:xs=[]:=List.eq_nil_of_length_eq_zero (by omega);subst this;have ha:(convert s d (.slice (some a') 0 0)).run P w'=.ok (.string (strOfNums [])) w':=by
      rw [run_convert_bytes_string w' s d e _ 0 0 N0 he tq,run_bytesToString w' _ 0 0 [] rfl];rfl
     exact ha
 cases h;cases h;cases h;cases h
def ry (r:Operand->Value) (ps:Array (Nat×Operand)):List (Nat×Value):=ps.toList.map λx=>(x.1,r x.2)
def aq (P:Program) (A:AW) (r:Operand->Value):Op->Option Value
 | .move x=>some (r x)
 | .assign x=>some (r x)
 | .pick c x y=>
   match r c with
   | .bool b=>some (if b then r x else r y)
   | _=>none
 | .build t ps=>HA P t (ry r ps)
 | .load t x=>
   match r x with
   | .pointer (some p)=>gX P A t p
   | _=>none
 | .nilCheck x=>
   match r x with
   | .pointer (some p)=>some (.pointer (some p))
   | _=>none
 | .binOp op t x y _=>
   match y,r y with
   | .const .nilIface,.nilIface=>L3 P op t (r x)
   | _,_=>Na P op t (r x) (r y)
 | .unOp op _ x=>aun op (r x)
 | .convert s d x=>
   match M9 P s d (r x) with
   | some v=>some v
   | none=>Hy P A s d (r x)
 | .makeInterface t x=>sY P t (r x)
 | .slice t x lo hi mx=>
   match mx with
   | none=>mU P A t (r x) (lo.map r) (hi.map r) none
   | some q=>BN P t (r x) (lo.map r) (hi.map r) (r q)
 | .lookup t x ix c=>yN P A t (r x) (r ix) c
 | .fieldAddr s x f=>s7 P s (r x) f
 | .field t x f=>Ho P t (r x) f
 | .indexAddr t x ix=>sZ P t (r x) (r ix)
 | .index t x ix=>Hm P t (r x) (r ix)
 | .extract t i=>
   match r t with
   | .tuple vs=>vs[i]?
   | _=>none
 | .makeFunc fn fs cs=>some (.func fn (fs.map r) (cs.map r))
 | .call c=>
   match c.callee,c.args.toList,c.argTypes.toList with
   | .builtin .len,[x],[t]=>mW P t (r x)
   | .builtin .min,[x,y],_=>RE false [r x,r y]
   | .builtin .max,[x,y],_=>RE true [r x,r y]
   | _,_,_=>none
 | _=>none
theorem vN.map {m:Mp} {r r':Operand->Value} (x:Option Operand) (h:∀y,x=some y->bB m (r y) (r' y)):vN m (x.map r) (x.map r'):=by
 cases x with
 | none=>trivial
 | some y=>exact h y rfl
theorem TF {α:Type} {a:Array α} {x y:α} (h:a.toList=[x,y]):a = #[x,y]:=by
 apply Array.ext';exact h
theorem TG {α:Type} {a:Array α} {x:α} (h:a.toList=[x]):a = #[x]:=by
 apply Array.ext';exact h
theorem RC {P:Program} {m:Mp} {A:AW} {w:World} (hs:jM m A w) {o:Oper} {r r':Operand->Value} {v:Value} (hr:∀x∈o.op.operands,bB m (r x) (r' x))
 (h:aq P A r o.op=some v):∃v',bB m v v'/\∀w',OK w w'->(execOp r' o).run P w'=.ok (.value v') w':=by
 obtain⟨dst,op,ty,X2,after,guard⟩:=o;have rR:∀{s:Sem Value} {v':Value} {w':World},s.run P w'=.ok v' w'->(do pure (.value (<-s)):Sem Next).run P w'=.ok (.value v') w':=λ{s v' w'} e=>by
  simp only [Sem.run_bind,e,Result.andThen_ok,Sem.run_pure]
 cases op<;>simp only [aq] at h<;>(try (cases h;done))
 case move x=>
  injection h with h;subst h;exact⟨r' x,hr x (by simp [Op.operands]),λw' _=>by simp [execOp]⟩
 case assign x=>
  injection h with h;subst h;exact⟨r' x,hr x (by simp [Op.operands]),λw' _=>by simp [execOp]⟩
 case pick c x y=>
  have hc:=hr c (by simp [Op.operands]);split at h;rename_i b hb;rw [hb] at hc;injection h with h;subst h;generalize ur:r' c=c' at hc;cases hc;refine⟨if b then r' x else r' y,?_,λw' _=>by simp [execOp,ur,asBool]⟩;cases b;exact hr y (by simp [Op.operands]);exact hr x (by simp [Op.operands]);cases h
 case build t ps=>
  obtain⟨v',h1,h2⟩:=Hz (P:=P) (m:=m) (gD:=ps.map fun(i,x)=>(i,r' x)) h (by simp [ry]) (λk p p' h1 h2=>by
   simp only [ry,List.getElem?_map,Array.getElem?_toList,Option.map_eq_some_iff,Array.getElem?_map] at h1 h2;obtain⟨q,h3,rfl⟩:=h1;obtain⟨q',h4,rfl⟩:=h2;rw [h3] at h4;injection h4 with h4;subst h4;exact⟨rfl,hr q.2 (by simp only [Op.operands,List.mem_toArray,List.mem_map];exact⟨q,Array.mem_toList_iff.2 (Array.mem_of_getElem? h3),rfl⟩)⟩)
  exact⟨v',h1,λw' _=>rR (h2 w')⟩
 case load t x=>
  have hx:=hr x (by simp [Op.operands]);split at h
  . rename_i p hp;rw [hp] at hx;generalize ur:r' x=x' at hx;cases hx with
    | Im ha=>
      obtain⟨v',h1,h2⟩:=OG (P:=P) hs h ha;exact⟨v',h1,λw' hw=>by simp [execOp,ur,Instr.loadAt,Instr.sureAddr,h2 w' hw]⟩
  cases h
 case nilCheck x=>
  have hx:=hr x (by simp [Op.operands]);split at h
  . rename_i p hp;rw [hp] at hx;generalize ur:r' x=x' at hx;injection h with h;subst h;cases hx with
    | Im ha=>exact⟨_,.Im ha,λw' hw=>by simp [execOp,ur]⟩
  cases h
 case binOp op t x y ty'=>
  have hx:=hr x (by simp [Op.operands]);have hy:=hr y (by simp [Op.operands]);split at h;rename_i e;rw [e] at hy;have VH:r' (.const .nilIface)=.nilIface:=by generalize r' (.const .nilIface)=z at hy;cases hy;rfl
  exact⟨v,(yO h hx x w).2,λw' _=>rR (by rw [VH];exact(yO h hx x w').1)⟩;exact⟨v,(Ba h hx hy x x w).2,λw' _=>rR (Ba h hx hy x _ w').1⟩
 case unOp op t x=>
  have hx:=hr x (by simp [Op.operands]);exact⟨v,(FQ (P:=P) h hx w).2,λw' _=>rR (FQ h hx w').1⟩
 case convert s d x=>
  have hx:=hr x (by simp [Op.operands]);split at h;rename_i v0 h0;injection h with h;subst h;exact⟨v0,(AX h0 hx w).2,λw' _=>rR (AX h0 hx w').1⟩;obtain⟨v',h1,h2⟩:=Hx hs h hx;exact⟨v',h1,λw' hw=>rR (h2 w' hw)⟩
 case makeInterface t x=>
  obtain⟨v',h1,h2⟩:=Ac h (hr x (by simp [Op.operands]));exact⟨v',h1,λw' _=>rR (h2 w')⟩
 case slice t x lo hi mx=>
  cases mx with
  | none=>
    obtain⟨v',h1,h2⟩:=Hf hs (Ug:=none) h (hr x (by simp [Op.operands])) (vN.map (r':=r') lo λy e=>hr y (by simp [Op.operands,e])) (vN.map (r':=r') hi λy e=>hr y (by simp [Op.operands,e])) trivial;exact⟨v',h1,λw' _=>rR (h2 w')⟩
  | some q=>
    obtain⟨v',h1,h2⟩:=EV h (hr x (by simp [Op.operands])) (vN.map (r':=r') lo λy e=>hr y (by simp [Op.operands,e])) (vN.map (r':=r') hi λy e=>hr y (by simp [Op.operands,e])) (hr q (by simp [Op.operands]));exact⟨v',h1,λw' _=>rR (h2 w')⟩
 case lookup t x ix c=>
  obtain⟨v',h1,h2⟩:=E0 (P:=P) hs h (hr x (by simp [Op.operands])) (hr ix (by simp [Op.operands]));exact⟨v',h1,λw' hw=>rR (h2 w' hw)⟩
 case fieldAddr s x f=>
  obtain⟨v',h1,h2⟩:=Ag h (hr x (by simp [Op.operands]));exact⟨v',h1,λw' _=>rR (h2 w')⟩
 case field t x f=>
  obtain⟨v',h1,h2⟩:=Hn h (hr x (by simp [Op.operands]));exact⟨v',h1,λw' _=>rR (h2 w')⟩
 case indexAddr t x ix=>
  obtain⟨v',h1,h2⟩:=Af h (hr x (by simp [Op.operands])) (hr ix (by simp [Op.operands]));exact⟨v',h1,λw' _=>rR (h2 w')⟩
 case index t x ix=>
  obtain⟨v',h1,h2⟩:=Hl h (hr x (by simp [Op.operands])) (hr ix (by simp [Op.operands]));exact⟨v',h1,λw' _=>rR (h2 w')⟩
 case extract t i=>
  have hx:=hr t (by simp [Op.operands]);split at h
  . rename_i vs hp;rw [hp] at hx;generalize ur:r' t=x' at hx;cases hx with
    | tuple tI h1=>
      rename_i Al;have bL:i<Al.size:=(by rw [<-tI];exact(Array.getElem?_eq_some_iff.1 h).1);have e:=Array.getElem?_eq_getElem bL;exact⟨Al[i],h1 i v _ h e,λw' _=>by simp [execOp,ur,Instr.extract,e]⟩
  cases h
 case makeFunc fn fs cs=>
  injection h with h;subst h;refine⟨.func fn (fs.map r') (cs.map r'),?_,λw' _=>by simp [execOp,Instr.makeFunc]⟩;refine .func fn (by simp) (by simp) (λi v v' h1 h2=>?_) (λi v v' h1 h2=>?_);simp only [Array.getElem?_map,Option.map_eq_some_iff] at h1 h2;obtain⟨q,h3,rfl⟩:=h1;obtain⟨q',h4,rfl⟩:=h2;rw [h3] at h4;injection h4 with h4;subst h4;exact hr q (by simp only [Op.operands,Array.mem_append];exact .inl (Array.mem_of_getElem? h3));simp only [Array.getElem?_map,Option.map_eq_some_iff] at h1 h2;obtain⟨q,h3,rfl⟩:=h1;obtain⟨q',h4,rfl⟩:=h2;rw [h3] at h4;injection h4 with h4;subst h4;exact hr q (by simp only [Op.operands,Array.mem_append];exact .inr (Array.mem_of_getElem? h3))
 case call c=>
  obtain⟨callee,args,argTypes⟩:=c;split at h;rename_i x t h1 h2 h3;simp only at h1 h2 h3;subst h1;have e2:=TG h2;have e3:=TG h3;subst e2;subst e3;have hx:=hr x (by simp [Op.operands,Call.operands]);have hl:=L2 (P:=P) (ty:=ty) h hx;refine⟨v,hl.1,λw' _=>?_⟩;have:=hl.2 w';simp [execOp,resolve,invoke,builtin,this];rename_i x y h1 h2;simp only at h1 h2;subst h1;have e2:=TF h2;subst e2;have hx:=hr x (by simp [Op.operands,Call.operands]);have hy:=hr y (by simp [Op.operands,Call.operands]);have hl:=DG (P:=P) (ts:=argTypes) (ty:=ty) (l':=#[r' x,r' y]) h (.cons hx (.cons hy .nil));refine⟨v,hl.1,λw' _=>?_⟩;have:=hl.2 w';simp only [Bool.false_eq_true,if_false] at this;simp [execOp,resolve,invoke,builtin,this];rename_i x y h1 h2;simp only at h1 h2;subst h1;have e2:=TF h2;subst e2;have hx:=hr x (by simp [Op.operands,Call.operands]);have hy:=hr y (by simp [Op.operands,Call.operands]);have hl:=DG (P:=P) (ts:=argTypes) (ty:=ty) (l':=#[r' x,r' y]) h (.cons hx (.cons hy .nil))
  refine⟨v,hl.1,λw' _=>?_⟩;have:=hl.2 w';simp only [if_true] at this;simp [execOp,resolve,invoke,builtin,this];cases h
def ae (P:Program) (A:AW) (r:Operand->Value):Op->Option (Value×AW)
 | .alloc t=>HC P A t
 | .box _ x=>some (RJ A (r x))
 | .buildSlice t len ps=>qY P A t len (ry r ps)
 | .store t x y=>
   match r x with
   | .pointer (some p)=>
     match aB P A t p (r y) with
     | some A1=>some (undef,A1)
     | none=>none
   | _=>none
 | .makeSlice t l c=>oW P A t (r l) (r c)
 | .makeMap t x=>yM P A t (x.map r)
 | .mapUpdate t x k v=>
   match fQ P A t (r x) (r k) (r v) with
   | some A1=>some (undef,A1)
   | none=>none
 | .insert t x k v=>
   match fQ P A t (r x) (r k) (r v) with
   | some A1=>some (undef,A1)
   | none=>none
 | .call c=>
   match c.callee,c.args.toList,c.argTypes.toList with
   | .builtin .append,[s,x],[t,u]=>if t=u then eU P A t u (r s) (r x) else oE P A t u (r s) (r x)
   | .builtin .clear,[x],[t]=>
     match Hu P A t (r x) with
     | some A1=>some (undef,A1)
     | none=>none
   | _,_,_=>none
 | _=>none
def ZG (P:Program) (r':Operand->Value) (o:Oper) (w w':World) (v':Value):Prop:=
 (execOp r' o).run P w=.ok (.value v') w'\/((execOp r' o).run P w=.ok .skip w'/\v'=undef)
theorem RH {P:Program} {m:Mp} {A A1:AW} {w:World} (hs:jM m A w) {o:Oper} {r r':Operand->Value} {v:Value} (hr:∀x∈o.op.operands,bB m (r x) (r' x))
 (h:ae P A r o.op=some (v,A1)):∃v' w' m',ZG P r' o w w' v'/\jN m A w m' A1 w'/\bB m' v v':=by
 obtain⟨dst,op,ty,X2,after,guard⟩:=o;have rR:∀{s:Sem Value} {v':Value} {w w':World},s.run P w=.ok v' w'->(do pure (.value (<-s)):Sem Next).run P w=.ok (.value v') w':=λ{s v' w w'} e=>by
  simp only [Sem.run_bind,e,Result.andThen_ok,Sem.run_pure]
 cases op<;>simp only [ae] at h<;>(try (cases h;done))
 case alloc t=>
  obtain⟨v',w',m',h1,h2,h3⟩:=HB hs h;exact⟨v',w',m',.inl (rR h1),h2,h3⟩
 case box t x=>
  injection h with h;obtain⟨v',w',m',h1,h2,h3⟩:=DO (P:=P) hs t (hr x (by simp [Op.operands]));rw [h] at h2 h3;exact⟨v',w',m',.inl (rR h1),h2,h3⟩
 case buildSlice t len ps=>
  obtain⟨v',w',m',h1,h2,h3⟩:=yT (P:=P) (m:=m) hs (gD:=ps.map fun(i,x)=>(i,r' x)) h (by simp [ry]) (λk p p' h1 h2=>by
   simp only [ry,List.getElem?_map,Array.getElem?_toList,Option.map_eq_some_iff,Array.getElem?_map] at h1 h2;obtain⟨q,h3,rfl⟩:=h1;obtain⟨q',h4,rfl⟩:=h2;rw [h3] at h4;injection h4 with h4;subst h4;exact⟨rfl,hr q.2 (by simp only [Op.operands,List.mem_toArray,List.mem_map];exact⟨q,Array.mem_toList_iff.2 (Array.mem_of_getElem? h3),rfl⟩)⟩)
  exact⟨v',w',m',.inl (rR h1),h2,h3⟩
 case store t x y=>
  have hx:=hr x (by simp [Op.operands]);split at h
  . rename_i p hp;rw [hp] at hx;generalize ur:r' x=x' at hx;cases hx with
    | Im ha=>
      rename_i p';split at h;rename_i A2 dv;simp only [Option.some.injEq,Prod.mk.injEq] at h;obtain⟨rfl,rfl⟩:=h;obtain⟨w',h1,h2⟩:=He (P:=P) hs dv ha (hr y (by simp [Op.operands]));refine⟨undef,w',m,.inr ⟨?_,rfl⟩,h2,.tuple rfl (λi v v' h=>by simp at h)⟩;simp only [execOp,Instr.storeAt,ur,Instr.sureAddr,Sem.run_bind,Sem.run_pure,Result.andThen_ok,h1];cases h
  cases h
 case makeSlice t l c=>
  obtain⟨v',w',m',h1,h2,h3⟩:=JG hs h (hr l (by simp [Op.operands])) (hr c (by simp [Op.operands]));exact⟨v',w',m',.inl (rR h1),h2,h3⟩
 case makeMap t x=>
  obtain⟨v',w',m',h1,h2,h3⟩:=DI (P:=P) hs h (vN.map (r':=r') x λy e=>hr y (by simp [Op.operands,e]));exact⟨v',w',m',.inl (rR h1),h2,h3⟩
 case mapUpdate t x k y=>
  split at h;rename_i A2 dv;simp only [Option.some.injEq,Prod.mk.injEq] at h;obtain⟨rfl,rfl⟩:=h;obtain⟨w',h1,h2⟩:=rZ (P:=P) hs dv (hr x (by simp [Op.operands])) (hr k (by simp [Op.operands])) (hr y (by simp [Op.operands]));refine⟨undef,w',m,.inr ⟨?_,rfl⟩,h2,.tuple rfl (λi v v' h=>by simp at h)⟩;simp only [execOp,Sem.run_bind,Sem.run_pure,Result.andThen_ok,h1];cases h
 case insert t x k y=>
  split at h;rename_i A2 dv;simp only [Option.some.injEq,Prod.mk.injEq] at h;obtain⟨rfl,rfl⟩:=h;obtain⟨w',h1,h2⟩:=rZ (P:=P) hs dv (hr x (by simp [Op.operands])) (hr k (by simp [Op.operands])) (hr y (by simp [Op.operands]));refine⟨undef,w',m,.inr ⟨?_,rfl⟩,h2,.tuple rfl (λi v v' h=>by simp at h)⟩;simp only [execOp,Sem.run_bind,Sem.run_pure,Result.andThen_ok,h1];cases h
 case call c=>
  obtain⟨callee,args,argTypes⟩:=c;split at h
  rotate_left
  . rename_i x t h1 h2 h3;simp only at h1 h2 h3;subst h1;have e2:=TG h2;have e3:=TG h3;subst e2;subst e3;split at h<;>try(cases h;done)
    rename_i A2 dv;simp only [Option.some.injEq,Prod.mk.injEq] at h;obtain⟨rfl,rfl⟩:=h;obtain⟨w',h1,h2⟩:=Ht (P:=P) (ty:=ty) hs dv (hr x (by simp [Op.operands,Call.operands]));refine⟨undef,w',m,.inl ?_,h2,.tuple rfl (λi v v' h=>by simp at h)⟩;simp [execOp,resolve,invoke,builtin,h1]
  rotate_left
  rename_i s x t u h1 h2 h3;simp only at h1 h2 h3;subst h1;have e2:=TF h2;have e3:=TF h3;subst e2;subst e3;have hsv:=hr s (by simp [Op.operands,Call.operands]);have Xc:=hr x (by simp [Op.operands,Call.operands]);split at h;obtain⟨v',w',m',h1,h2,h3⟩:=Hg (P:=P) (ty:=ty) hs h hsv Xc;refine⟨v',w',m',.inl ?_,h2,h3⟩;simp [execOp,resolve,invoke,builtin,h1];obtain⟨v',w',m',h1,h2,h3⟩:=EX (P:=P) (ty:=ty) hs h hsv Xc;refine⟨v',w',m',.inl ?_,h2,h3⟩;simp [execOp,resolve,invoke,builtin,h1];cases h
end Go.Stx
namespace Go.Stx
open Go
variable [Gl]
structure rC (m:Mp) (n:Nat) (a:Fr) (ca:Act):Prop where
 size:ca.tmps.size=n
 defers:ca.defers=[]
 W4:∀i,i<n->bB m (a i) (ca.tmps.getD i undef)
 uu:JP m
theorem rC.mono {m m':Mp} (hm:Mp.le m m') {n:Nat} {a:Fr} {ca:Act} (h:rC m n a ca):rC m' n a ca:=⟨h.size,h.defers,λi hi=>(h.W4 i hi).mono hm,h.uu.mono hm⟩
theorem bB.undef (m:Mp):bB m undef undef:=.tuple rfl λi v v' h=>by simp at h
def wU (n:Nat):Operand->Bool
 | .tmp t=>decide (t<n)
 | .const v=>vg v
 | .global g=>Gl.ok g
 | .func _=>true
def mC (n:Nat) (o:Oper):Bool:=
 o.op.operands.all (wU n) && (match o.dst with|some d=>decide (d<n)|none=>true)
def lb (n:Nat):Code->Bool
 | .region _ bC _=>bC.all (mC n)
 | .seq a b=>lb n a && lb n b
 | .cond c a b=>wU n c && lb n a && lb n b
 | .block _ b=>lb n b
 | .loop b=>lb n b
 | .skip=>true
 | .exit _=>true
 | .ret=>true
 | _=>false
theorem rC.eval {m:Mp} {n:Nat} {a:Fr} {ca:Act} (h:rC m n a ca) {x:Operand} (hx:wU n x=true):bB m (ia a x) (ca.eval x):=by
 cases x with
 | tmp t=>exact h.W4 t (by simpa [wU] using hx)
 | const v=>exact bB.uW (v:=v) (by simpa [wU] using hx) m
 | global g=>
   exact .Im ⟨rfl,rfl,_,h.uu g hx,rfl,(Nat.zero_add 0).symm⟩
 | func f=>exact .func _ rfl rfl (λi v v' h=>by simp at h) (λi v v' h=>by simp at h)
theorem rC.put {m:Mp} {n:Nat} {a:Fr} {ca:Act} (h:rC m n a ca) {d:Option Tmp} (hd:∀i,d=some i->i<n) {v v':Value} (hv:bB m v v') :
 rC m n (eA a d v) (ca.put d v'):=by
 cases d with
 | none=>exact h
 | some i=>
   refine⟨by simp [Act.put,h.size],by simp [Act.put,h.defers],λj hj=>?_,h.uu⟩;have hi:=hd i rfl;simp only [eA,km,Act.put];by_cases e:j=i;subst e;rw [if_pos rfl];simp [Array.getD_eq_getD_getElem?,h.size,hi];exact hv;rw [if_neg e];have:=h.W4 j hj;rw [Array.getD_eq_getD_getElem?] at this ⊢;rw [Array.getElem?_setIfInBounds_ne (by omega)];exact this
def jF (P:Program) (f:FuncId):Bool:=
 match P.funcs[f]? with
 | some fn=>!(fn.name == "runtime.NumGoroutine") && fn.body.isSome
 | none=>false
def ax (P:Program) (f:FuncId) (args:List Value) (A:AW) (R:Value->AW->Prop):Prop:=
 jF P f=true/\∀(m:Mp) (w:World) (go:Array Value),jM m A w->iu m args go.toList->
  Calls P f go w λe w'=>∃v v' m' A',e=.returned v'/\jN m A w m' A' w'/\bB m' v v'/\R v A'
theorem ax.mono {P:Program} {f:FuncId} {args:List Value} {A:AW} {R R':Value->AW->Prop} (h:ax P f args A R) (hR:∀v A',R v A'->R' v A'):ax P f args A R':=
 ⟨h.1,λm w go hs hl=>(h.2 m w go hs hl).mono λ_ _ ⟨v,v',m',A',h1,h2,h3,h4⟩=>⟨v,v',m',A',h1,h2,h3,hR _ _ h4⟩⟩
def xv (P:Program) (op:Op) (r:Operand->Value) (A:AW) (k:Value->AW->Prop):Prop:=
 match op with
 | .call c=>
   match c.callee with
   | .value x=>
     match r x with
     | .func (.func f) fs cs=>ax P f (fs.toList++c.args.toList.map r++cs.toList) A k
     | _=>False
   | _=>False
 | _=>False
def iI (P:Program) (op:Op) (r:Operand->Value) (A:AW) (k:Value->AW->Prop):Prop:=
 match aq P A r op with
 | some v=>k v A
 | none=>
   match ae P A r op with
   | some (v,A1)=>k v A1
   | none=>xv P op r A k
theorem Gr {P:Program} {f:FuncId} {args:Array Value} (h:jF P f=true) (w:World):(callFunc f args).run P w=.ok (.enter f args) w:=by
 unfold jF at h;cases hf:P.funcs[f]? with
 | none=>rw [hf] at h;cases h
 | some fn=>
   rw [hf] at h;simp only [Bool.and_eq_true,Bool.not_eq_true'] at h;obtain⟨h1,h2⟩:=h;cases hb:fn.body with
   | none=>rw [hb] at h2;cases h2
   | some c=>
     have Wt:¬fn.name = "runtime.NumGoroutine":=by simpa using h1
     simp [callFunc,hf,Wt,hb]
theorem Ak {P:Program} {m:Mp} {A:AW} {w:World} (hs:jM m A w) {o:Oper} {n:Nat} {a:Fr} {ca:Act} (hf:rC m n a ca) (ho:mC n o=true)
 {k:Value->AW->Prop} (h:iI P o.op (ia a) A k) {K:Act->World->Prop} {Q:Exit->Act->World->Prop}
 (hK:∀v A' m' w' za,k v A'->jN m A w m' A' w'->rC m' n (eA a o.dst v) za->K za w'):o.wp P ca w K Q:=by
 simp only [mC,Bool.and_eq_true] at ho;obtain⟨ho1,Xj⟩:=ho;have hd:∀i,o.dst=some i->i<n:=λi e=>by rw [e] at Xj;simpa using Xj
 have hr:∀x∈o.op.operands,bB m (ia a x) (ca.eval x):=λx hx=>hf.eval (Array.all_eq_true_iff_forall_mem.1 ho1 x hx);unfold iI at h;split at h;rename_i v hv;obtain⟨v',h1,h2⟩:=RC hs hr hv;unfold Oper.wp;rw [h2 w (OK.refl w)];exact hK v A m w _ h (jN.refl hs) (hf.put hd h1);split at h;rename_i v A1 hv;obtain⟨v',w',m',h1,h2,h3⟩:=RH hs hr hv;unfold Oper.wp;rcases h1 with h1|⟨h1,rfl⟩;rw [h1];exact hK v A1 m' w' _ h h2 ((hf.mono h2.ext).put hd h3);rw [h1];exact hK v A1 m' w' _ h h2 ((hf.mono h2.ext).put hd h3);unfold xv at h;split at h;rename_i c hc;split at h;rename_i x hx;split at h
 . rename_i f fs cs hfv;obtain⟨dl,h⟩:=h;have Xc:=hr x (by rw [hc];simp [Op.operands,Call.operands,hx]);rw [hfv] at Xc;generalize hg:ca.eval x=x' at Xc;cases Xc with
   | func _ hx1 Yo hx3 hx4=>
     rename_i fs' ru;have SQ:(execOp ca.eval o).run P w=.ok (.enter f (fs'++c.args.map ca.eval++ru)) w:=by
      obtain⟨dst,op,ty,X2,after,guard⟩:=o;simp only at hc;subst hc;obtain⟨callee,args,argTypes⟩:=c;simp only at hx;subst hx;simp only [execOp,resolve,hg,Deferred.ofValue,invoke,Sem.run_bind,Sem.run_pure,Result.andThen_ok,Gr dl]
     unfold Oper.wp;rw [SQ,Oper.upon_enter];have hargs:iu m (fs.toList++c.args.toList.map (ia a)++cs.toList) (fs'++c.args.map ca.eval++ru).toList:=by
      simp only [Array.toList_append,Array.toList_map];refine(iu.append (iu.append ⟨by simpa using hx1,λi v v' h1 h2=>hx3 i v v' (by simpa using h1) (by simpa using h2)⟩ ⟨by simp,λi v v' h1 h2=>?_⟩) ⟨by simpa using Yo,λi v v' h1 h2=>hx4 i v v' (by simpa using h1) (by simpa using h2)⟩);simp only [List.getElem?_map,Option.map_eq_some_iff] at h1 h2;obtain⟨q,h3,rfl⟩:=h1;obtain⟨q',h4,rfl⟩:=h2;rw [h3] at h4;injection h4 with h4;subst h4;refine hr q ?_;rw [hc];simp only [Op.operands,Call.operands,Array.mem_append];exact .inr (Array.mem_toList_iff.1 (List.mem_of_getElem? h3))
     refine(h m w _ hs hargs).mono ?_;rintro e w' ⟨v,v',m',A',rfl,ev,hv,hk⟩;exact hK v A' m' w' _ hk ev ((hf.mono ev.ext).put hd hv)
 exact h.elim;exact h.elim;exact h.elim
def mO (bC:Array Oper) (a:Fr) (o:Oper):Bool:=
 match o.guard with
 | none=>true
 | some (j,Pa)=>
   match (bC[j]?).bind (·.dst) with
   | some d=>
     match a d with
     | .bool b=>b == Pa
     | _=>false
   | none=>false
theorem FJ {m:Mp} {n:Nat} {a:Fr} {ca:Act} (hf:rC m n a ca) {bC:Array Oper} (CZ:bC.all (mC n)=true) (o:Oper) :
 Region.wanted o (yielded bC ca.tmps)=mO bC a o:=by
 unfold Region.wanted mO;cases o.guard with
 | none=>rfl
 | some g=>
   obtain⟨j,Pa⟩:=g;simp only [yielded];cases hj:bC[j]? with
   | none=>simp
   | some oj=>
     simp only [Option.bind_some];cases hd:oj.dst with
     | none=>simp
     | some d=>
       simp only [Option.bind_some];have lZ:=Array.all_eq_true_iff_forall_mem.1 CZ oj (Array.mem_of_getElem? hj);simp only [mC,hd,Bool.and_eq_true,decide_eq_true_eq] at lZ;have bL:d<ca.tmps.size:=(by rw [hf.size];exact lZ.2);have hv:=hf.W4 d lZ.2;rw [Array.getD_eq_getD_getElem?,Array.getElem?_eq_getElem bL,Option.getD_some] at hv;rw [Array.getElem?_eq_getElem bL];generalize a d=x at hv ⊢;generalize ca.tmps[d]=y at hv ⊢;cases hv<;>simp
def L7 (P:Program) (bC:Array Oper) (K:Fr->AW->Prop):List Oper->Fr->AW->Prop
 | [],a,A=>K a A
 | o::fu,a,A=>
   if mO bC a o=true then iI P o.op (ia a) A (λv A'=>L7 P bC K fu (eA a o.dst v) A')
   else L7 P bC K fu (eA a o.dst undef) A
theorem pJ {P:Program} {bC:Array Oper} {n:Nat} (CZ:bC.all (mC n)=true) {K:Fr->AW->Prop} {Q:Exit->Act->World->Prop}:∀(l:List Oper) (a:Fr) (A:AW) (m:Mp) (w:World) (ca:Act),
 (∀o∈l,mC n o=true)->L7 P bC K l a A->jM m A w->rC m n a ca->
 (∀a' A' m' w' za,K a' A'->jN m A w m' A' w'->rC m' n a' za->Q .normal za w')->wpList P bC Q l ca w
 | [],a,A,m,w,ca,_,h,hs,hf,hK=>hK a A m w ca h (jN.refl hs) hf
 | o::fu,a,A,m,w,ca,hl,h,hs,hf,hK=>by
   unfold L7 at h;unfold wpList;rw [FJ hf CZ o];split at h;rename_i hg;rw [if_pos hg];refine .inl (Ak hs hf (hl o (by simp)) h ?_);intro v A' m' w' za hk ev C6;exact pJ CZ fu _ _ m' w' za (λx hx=>hl x (by simp [hx])) hk ev.DV C6 (λa2 A2 m2 w2 ZC h1 h2 h3=>hK a2 A2 m2 w2 ZC h1 (ev.trans h2) h3);rename_i hg;rw [if_neg hg];have ho:=hl o (by simp);simp only [mC,Bool.and_eq_true] at ho;have hd:∀i,o.dst=some i->i<n:=λi e=>by have:=ho.2;rw [e] at this;simpa using this
   exact pJ CZ fu _ _ m w _ (λx hx=>hl x (by simp [hx])) h hs (hf.put hd (bB.undef m)) hK
def cM (P:Program) (n:Nat) (c:Code) (Q:Exit->Fr->AW->Prop) (a:Fr) (A:AW):Prop:=
 lb n c=true->∀(m:Mp) (w:World) (ca:Act),jM m A w->rC m n a ca->
  c.wp P (λe za w'=>∃m' a' A',jN m A w m' A' w'/\rC m' n a' za/\Q e a' A') ca w
section
variable {P:Program} {n:Nat} {Q:Exit->Fr->AW->Prop} {a:Fr} {A:AW}
theorem yI {c:Code} {Q':Exit->Fr->AW->Prop} (h:cM P n c Q a A) (hq:∀e a A,Q e a A->Q' e a A):cM P n c Q' a A:=
 λlZ m w ca hs hf=>wp_mono (h lZ m w ca hs hf) λe za w' ⟨m',a',A',h1,h2,h3⟩=>⟨m',a',A',h1,h2,hq _ _ _ h3⟩
theorem LV {id:Nat} {bC:Array Oper} (h:L7 P bC (Q .normal) bC.toList a A):cM P n (.region id bC false) Q a A:=by
 intro lZ m w ca hs hf;have CZ:bC.all (mC n)=true:=lZ;refine wp_region_list (pJ CZ _ _ _ m w ca (λo ho=>Array.all_eq_true_iff_forall_mem.1 CZ o (Array.mem_toList_iff.1 ho)) h hs hf ?_);intro a' A' m' w' za hk ev C6;exact⟨m',a',A',ev,C6,hk⟩
theorem Ru (h:Q .normal a A):cM P n .skip Q a A:=λ_ m w ca hs hf=>wp_skip ⟨m,a,A,jN.refl hs,hf,h⟩
theorem Rx {id:Nat} (h:Q (.exit id) a A):cM P n (.exit id) Q a A:=λ_ m w ca hs hf=>wp_exit ⟨m,a,A,jN.refl hs,hf,h⟩
theorem M4 (h:Q .ret a A):cM P n .ret Q a A:=λ_ m w ca hs hf=>wp_ret ⟨m,a,A,jN.refl hs,hf,h⟩
def aL (next:Fr->AW->Prop) (Q:Exit->Fr->AW->Prop):Exit->Fr->AW->Prop
 | .normal,a,A=>next a A
 | e,a,A=>Q e a A
theorem aO {x y:Code} (h:cM P n x (aL (cM P n y Q) Q) a A):cM P n (.seq x y) Q a A:=by
 intro lZ m w ca hs hf;simp only [lb,Bool.and_eq_true] at lZ;refine wp_seq (wp_mono (h lZ.1 m w ca hs hf) ?_);rintro e za w' ⟨m',a',A',ev,C6,hq⟩;cases e with
 | normal=>
   refine wp_mono (hq lZ.2 m' w' za ev.DV C6) ?_;rintro e ZC w2 ⟨m2,a2,A2,LK,GS,MJ⟩;exact⟨m2,a2,A2,ev.trans LK,GS,MJ⟩
 | exit id=>exact⟨m',a',A',ev,C6,hq⟩
 | goto l=>exact⟨m',a',A',ev,C6,hq⟩
 | ret=>exact⟨m',a',A',ev,C6,hq⟩
 | panic ch=>exact⟨m',a',A',ev,C6,hq⟩
 | outgrown=>exact⟨m',a',A',ev,C6,hq⟩
theorem Ry {c:Operand} {x y:Code} {b:Bool} (hc:ia a c=.bool b) (h1:b=true->cM P n x Q a A) (h2:b=false->cM P n y Q a A):cM P n (.cond c x y) Q a A:=by
 intro lZ m w ca hs hf;simp only [lb,Bool.and_eq_true] at lZ;have hv:=hf.eval lZ.1.1;rw [hc] at hv;generalize hg:ca.eval c=x' at hv;cases hv;exact wp_cond_split hg (λe=>h1 e lZ.1.2 m w ca hs hf) (λe=>h2 e lZ.2 m w ca hs hf)
def cg (id:Nat) (Q:Exit->Fr->AW->Prop):Exit->Fr->AW->Prop
 | .exit id',a,A=>if id'=id then Q .normal a A else Q (.exit id') a A
 | e,a,A=>Q e a A
theorem OE {id:Nat} {c:Code} (h:cM P n c (cg id Q) a A):cM P n (.block id c) Q a A:=by
 intro lZ m w ca hs hf;refine wp_block (wp_mono (h lZ m w ca hs hf) ?_);rintro e za w' ⟨m',a',A',ev,C6,hq⟩;cases e with
 | exit id'=>
   simp only [Exit.inBlock];simp only [cg] at hq;split;rename_i e;rw [if_pos e] at hq;exact⟨m',a',A',ev,C6,hq⟩;rename_i e;rw [if_neg e] at hq;exact⟨m',a',A',ev,C6,hq⟩
 | normal=>exact⟨m',a',A',ev,C6,hq⟩
 | goto l=>exact⟨m',a',A',ev,C6,hq⟩
 | ret=>exact⟨m',a',A',ev,C6,hq⟩
 | panic ch=>exact⟨m',a',A',ev,C6,hq⟩
 | outgrown=>exact⟨m',a',A',ev,C6,hq⟩
theorem cW {c:Code} (I:Nat->Fr->AW->Prop) (n₀:Nat) (h₀:I n₀ a A)
 (XV:∀k a A,I k a A->cM P n c (aL (λa' A'=>∃k',k'<k/\I k' a' A') Q) a A):cM P n (.loop c) Q a A:=by
 intro lZ m w ca hs hf;refine wp_loop_ghost (λk za w'=>∃m' a' A',jN m A w m' A' w'/\rC m' n a' za/\I k a' A') n₀ ⟨m,a,A,jN.refl hs,hf,h₀⟩ ?_;rintro k za w' ⟨m',a',A',ev,C6,hI⟩;refine wp_mono (XV k a' A' hI lZ m' w' za ev.DV C6) ?_;rintro e ZC w2 ⟨m2,a2,A2,LK,GS,hq⟩;cases e with
 | normal=>
   obtain⟨k',bL,hI'⟩:=hq;exact⟨k',bL,m2,a2,A2,ev.trans LK,GS,hI'⟩
 | exit id=>exact⟨m2,a2,A2,ev.trans LK,GS,hq⟩
 | goto l=>exact⟨m2,a2,A2,ev.trans LK,GS,hq⟩
 | ret=>exact⟨m2,a2,A2,ev.trans LK,GS,hq⟩
 | panic ch=>exact⟨m2,a2,A2,ev.trans LK,GS,hq⟩
 | outgrown=>exact⟨m2,a2,A2,ev.trans LK,GS,hq⟩
end
def aN (P:Program) (a:Fr) (A:AW):ResultVar->Option Value
 | .tmp t=>some (a t)
 | .cell p t=>
   match a p with
   | .pointer (some q)=>gX P A t q
   | _=>none
def aK (P:Program) (a:Fr) (A:AW):List ResultVar->Option (List Value)
 | []=>some []
 | r::rs=>
   match aN P a A r,aK P a A rs with
   | some v,some vs=>some (v::vs)
   | _,_=>none
def bm (P:Program) (a:Fr) (A:AW) (rs:List ResultVar):Option Value:=
 match aK P a A rs with
 | some [v]=>some v
 | some vs=>some (.tuple vs.toArray)
 | none=>none
def Fj (n:Nat):ResultVar->Bool
 | .tmp t=>decide (t<n)
 | .cell p _=>decide (p<n)
def Gt (tmps:Array Value):ResultVar->Sem Value
 | .tmp t=>pure (tmps.getD t undef)
 | .cell a t=>do loadVar t (<-asAddr (tmps.getD a undef))
theorem Ks (fn:Func) (tmps:Array Value) :
 results fn tmps=(fn.results.mapM (Gt tmps) >>= λvs=>pure (if h:vs.size=1 then vs[0] else .tuple vs):Sem Value):=by
 unfold results;congr 2
theorem JB {P:Program} {m:Mp} {A:AW} {w:World} (hs:jM m A w) {n:Nat} {a:Fr} {ca:Act} (hf:rC m n a ca) {r:ResultVar} (lZ:Fj n r=true) {v:Value} (h:aN P a A r=some v) :
 ∃v',bB m v v'/\(Gt ca.tmps r).run P w=.ok v' w:=by
 cases r with
 | tmp t=>
   injection h with h;subst h;exact⟨_,hf.W4 t (by simpa [Fj] using lZ),rfl⟩
 | cell p t=>
   simp only [aN] at h;split at h
   . rename_i q hq;have hv:=hf.W4 p (by simpa [Fj] using lZ);rw [hq] at hv;generalize hg:ca.tmps.getD p undef=x' at hv;cases hv with
     | Im ha=>
       obtain⟨v',h1,h2⟩:=JH (P:=P) hs h ha;refine⟨v',h2,?_⟩;simp only [Gt,hg,asAddr,Sem.run_bind,Sem.run_pure,Result.andThen_ok,h1]
   cases h
theorem AP {P:Program} {m:Mp} {A:AW} {w:World} (hs:jM m A w) {n:Nat} {a:Fr} {ca:Act} (hf:rC m n a ca):∀(rs:List ResultVar) (vs:List Value),rs.all (Fj n)=true->
 aK P a A rs=some vs->∃Al,iu m vs Al/\(rs.mapM (Gt ca.tmps)).run P w=.ok Al w
 | [],vs,_,h=>by injection h with h;subst h;exact⟨[],.nil,rfl⟩
 | r::rs,vs,lZ,h=>by
   unfold aK at h;simp only [List.all_cons,Bool.and_eq_true] at lZ;split at h;rename_i v vs1 hv Lf;injection h with h;subst h;obtain⟨v',h1,h2⟩:=JB (P:=P) hs hf lZ.1 hv;obtain⟨Al,h3,h4⟩:=AP hs hf rs vs1 lZ.2 Lf;refine⟨v'::Al,.cons h1 h3,?_⟩;simp only [List.mapM_cons,Sem.run_bind,h2,Result.andThen_ok,h4,Sem.run_pure];cases h
theorem LY {P:Program} {m:Mp} {A:AW} {w:World} (hs:jM m A w) {fn:Func} {n:Nat} {a:Fr} {ca:Act} (hf:rC m n a ca) (lZ:fn.results.toList.all (Fj n)=true) {v:Value}
 (h:bm P a A fn.results.toList=some v):∃v',bB m v v'/\(results fn ca.tmps).run P w=.ok v' w:=by
 unfold bm at h;cases hl:aK P a A fn.results.toList with
 | none=>rw [hl] at h;cases h
 | some vs=>
   obtain⟨Al,h1,h2⟩:=AP (P:=P) hs hf _ _ lZ hl;have h3:=tX (P:=P) _ fn.results Al h2;rw [hl] at h;have SQ:∀(x:Value),(if h:Al.toArray.size=1 then Al.toArray[0] else .tuple Al.toArray)=x->(results fn ca.tmps).run P w=.ok x w:=λx e=>by
    rw [Ks,Sem.run_bind,h3];simp only [Result.andThen_ok,Sem.run_pure,e]
   split at h;rename_i u hu;injection hu with hu;injection h with h;subst hu;subst h;obtain⟨v',t',rfl,hv,ht⟩:=h1.lM;have:=ht.pj;subst this;exact⟨v',hv,SQ v' (by simp)⟩;rename_i us hU hu;injection hu with hu;injection h with h;subst hu;subst h;refine⟨.tuple Al.toArray,.tuple (by simpa using h1.1) (λi x x' e1 e2=>h1.2 i x x' (by simpa using e1) (by simpa using e2)),SQ _ ?_⟩;rw [dif_neg];intro e;have e1:Al.length=1:=by simpa using e
   rw [<-h1.1] at e1;obtain⟨x,rfl⟩:=List.length_eq_one_iff.1 e1;exact hU x rfl;rename_i hu;cases hu
def CS (args:List Value):Fr:=λi=>args.getD i undef
def Jl (fn:Func) (Yb:Nat):Bool:=
 decide (Yb<=fn.ntmps) && !(fn.name == "runtime.NumGoroutine") && fn.results.toList.all (Fj fn.ntmps) && (match fn.body with|some c=>lb fn.ntmps c|none=>false)
def aQ (P:Program) (fn:Func) (R:Value->AW->Prop):Exit->Fr->AW->Prop
 | .normal,a,A=>∃v,bm P a A fn.results.toList=some v/\R v A
 | .ret,a,A=>∃v,bm P a A fn.results.toList=some v/\R v A
 | _,_,_=>False
theorem Hw {P:Program} {f:FuncId} {fn:Func} {c:Code} {args:List Value} {A:AW} {R:Value->AW->Prop} (hf:P.funcs[f]? = some fn) (hb:fn.body=some c) (lZ:Jl fn args.length=true)
 (h:cM P fn.ntmps c (aQ P fn R) (CS args) A):ax P f args A R:=by
 simp only [Jl,hb,Bool.and_eq_true,decide_eq_true_eq,Bool.not_eq_true'] at lZ;obtain⟨⟨⟨h1,h2⟩,h3⟩,h4⟩:=lZ;refine⟨by simp [jF,hf,h2,hb],λm w go hs hl=>?_⟩;refine calls_of_wp hf hb (wp_mono (h h4 m w _ hs ?_) ?_);have tI:go.size=args.length:=by have:=hl.1;simp at this;omega
 refine⟨by simp [tI];omega,rfl,λi hi=>?_,hs.uu⟩;simp only [CS,List.getD_eq_getElem?_getD,Array.getD_eq_getD_getElem?];by_cases bL:i<args.length;have e1:=List.getElem?_eq_getElem bL;have V5:i<go.size:=by omega
 have e2:go.toList[i]? = some go[i]:=by simp [V5]
 rw [e1,Array.getElem?_append_left V5,Array.getElem?_eq_getElem V5];exact hl.2 i _ _ e1 e2;rw [List.getElem?_eq_none (by omega),Array.getElem?_append_right (by omega)];simp only [Option.getD_none];rw [Array.getElem?_replicate];split;exact bB.undef m;exact bB.undef m;rintro e za w' ⟨m',a',A',ev,C6,hq⟩
 have bO:∀(hx:∃v,bm P a' A' fn.results.toList=some v/\R v A'),za.defers=[]/\∃v,(results fn za.tmps).run P w'=.ok v w'/\
  ∃v0 v' m' A',Ending.returned v=.returned v'/\jN m A w m' A' w'/\bB m' v0 v'/\R v0 A':=by
  rintro ⟨v,hv,hR⟩;obtain⟨v',h5,h6⟩:=LY ev.DV C6 h3 hv;exact⟨C6.defers,v',h6,v,v',m',A',rfl,ev,h5,hR⟩
 cases e with
 | normal=>exact bO hq
 | ret=>exact bO hq
 | exit id=>exact hq.elim
 | goto l=>exact hq.elim
 | panic ch=>exact hq.elim
 | outgrown=>exact hq.elim
theorem jM.VC {m:Mp} {A:AW} {w:World} (hs:jM m A w) {g:Nat} {cs:List Value} {io:Array Value} {e:TypeId} {fr:Nat×Nat} (hg:Gl.ok g=true) (hB:Gl.B g=some (.cells io e fr))
 (hc:∀(k:Nat) (v:Value),cs[k]? = some v->io[k]? = some v/\fl v=true):jM m (A.set g (some (.cells cs false 1))) w/\∀i o p,A.bg i=some o->o.own=true->m i=some p->i≠g:=by
 have Xk:=hs.uu g hg;have hU:∀i o p,A.bg i=some o->o.own=true->m i=some p->i≠g:=λi o p hi ho hm e=>by
  subst e;rw [Xk] at hm;injection hm with hm;have:=hs.yf i o _ hi ho Xk;rw [hB] at this;cases this
 have bL:g<A.next:=by
  rcases Nat.lt_or_ge g A.next with h|h;exact h;rw [hs.qW g h] at Xk;cases Xk
 have fe:∀{i o},(A.set g (some (.cells cs false 1))).bg i=some o->i≠g->A.bg i=some o:=λ{i o} h hi=>by rwa [AW.aY hi] at h
 have lK:∀{i o},(A.set g (some (.cells cs false 1))).bg i=some o->o.own=true->i≠g:=λ{i o} h ho e=>by
  subst e;rw [AW.cm] at h;injection h with h;subst h;cases ho
 refine⟨⟨?_,?_,hs.qW,?_,hs.laid,?_,hs.uu⟩,hU⟩;intro i o hi;by_cases e1:i=g;subst e1;rw [AW.cm] at hi;injection hi with hi;subst hi;refine⟨_,Xk,io,e,fr,hs.laid _ _ hB,λh=>(by cases h),rfl,by simp [Lz,hB],λk v hv=>?_⟩;obtain⟨h1,h2⟩:=hc k v hv;exact⟨v,by rw [Nat.zero_add];exact h1,.hY h2 m⟩;exact hs.Ev i o (fe hi e1);intro i j o o' p p' hi ho hj hij Qq Uw;have y7:=fe hi (lK hi ho);by_cases e1:j=g;subst e1;rw [Xk] at Uw;injection Uw with Uw;subst Uw;intro e2;have:=hs.yf i o p y7 ho Qq;rw [e2] at this;rw [hB] at this;cases this;exact hs.inj i j o o' p p' y7 ho (fe hj e1) hij Qq Uw;intro i hi;have vH:A.next<=i:=hi;rw [AW.aY (by omega)];exact hs.xz i vH;intro i o p hi ho hm;exact hs.yf i o p (fe hi (lK hi ho)) ho hm
theorem ax.VC {P:Program} {f:FuncId} {args:List Value} {A:AW} {g:Nat} {cs:List Value} {io:Array Value} {e:TypeId} {fr:Nat×Nat} (hg:Gl.ok g=true) (hB:Gl.B g=some (.cells io e fr))
 (hc:∀(k:Nat) (v:Value),cs[k]? = some v->io[k]? = some v/\fl v=true) {R:Value->AW->Prop} (h:ax P f args (A.set g (some (.cells cs false 1))) R):ax P f args A R:=by
 refine⟨h.1,λm w go hs hl=>?_⟩;obtain⟨R0,hU⟩:=hs.VC hg hB hc;have own:∀b,RM m (A.set g (some (.cells cs false 1))) b↔RM m A b:=λb=>by
  constructor;rintro ⟨i,o,p,hi,ho,hm,hb⟩;by_cases e1:i=g;subst e1;rw [AW.cm] at hi;injection hi with hi;subst hi;cases ho;rw [AW.aY e1] at hi;exact⟨i,o,p,hi,ho,hm,hb⟩;rintro ⟨i,o,p,hi,ho,hm,hb⟩;exact⟨i,o,p,by rw [AW.aY (hU i o p hi ho hm)];exact hi,ho,hm,hb⟩
 have Yq:∀b,Nd m (A.set g (some (.cells cs false 1))) b->Nd m A b\/Gl.B b≠none:=by
  rintro b ⟨i,o,p,hi,hm,hb⟩;by_cases e1:i=g;subst e1;rw [hs.uu i hg] at hm;injection hm with hm;subst hm;exact .inr (by rw [<-hb];show Gl.B i≠none;rw [hB];exact Option.some_ne_none _);rw [AW.aY e1] at hi;exact .inl ⟨i,o,p,hi,hm,hb⟩
 refine(h.2 m w go R0 hl).mono ?_;rintro e' w' ⟨v,v',m',A',rfl,ev,hv,hR⟩;exact⟨v,v',m',A',rfl,⟨ev.ext,ev.DV,ev.next,ev.os,ev.tape,ev.output,ev.size,λb hb ho=>ev.tk b hb (λh=>ho ((own b).1 h)),λb hb=>(ev.grow b hb).imp (own b).1 id,ev.oK,λb hb=>match ev.Sf b hb with | .inl h1=>(Yq b h1).imp id .inr | .inr h1=>.inr h1⟩,hv,hR⟩
end Go.Stx
namespace Go.Stx
open Go
variable [Gl]
def dH.ro:dH->dH
 | .cells cs _ u=>.cells cs false u
 | .map es _=>.map es false
theorem dH.Kr (o:dH):o.ro.own=false:=by cases o<;>rfl
theorem m9.ro {m:Mp} {w:World} {p:Pl} {o:dH} (h:m9 m w p o):m9 m w p o.ro:=by
 cases o with
 | cells cs own u=>
   obtain⟨io,e,fr,h2,h3,h4⟩:=h;exact⟨io,e,fr,h2,λh=>(by cases h),h4⟩
 | map es own=>exact h
def AW.ro (A:AW):AW:={ A with bg:=λi=>(A.bg i).map dH.ro }
theorem AW.Gs {A:AW} {i:Nat} {o:dH} (h:A.ro.bg i=some o):∃o',A.bg i=some o'/\o=o'.ro:=by
 simp only [AW.ro,Option.map_eq_some_iff] at h;obtain⟨o',h1,h2⟩:=h;exact⟨o',h1,h2.symm⟩
theorem jM.ro {m:Mp} {A:AW} {w:World} (hs:jM m A w):jM m A.ro w:=by
 refine⟨λi o hi=>?_,λi j o o' p p' hi ho=>?_,hs.qW,λi hi=>?_,hs.laid,λi o p hi ho=>?_,hs.uu⟩;obtain⟨o',hg,rfl⟩:=AW.Gs hi;obtain⟨p,h1,h2⟩:=hs.Ev _ _ hg;exact⟨p,h1,h2.ro⟩;obtain⟨o',hg,rfl⟩:=AW.Gs hi;rw [dH.Kr] at ho;cases ho;simp [AW.ro,hs.xz i hi];obtain⟨o',hg,rfl⟩:=AW.Gs hi;rw [dH.Kr] at ho;cases ho
structure E3 (w w':World):Prop where
 ext:OK w w'
 os:w'.os=w.os
 tape:w'.tape=w.tape
 output:w'.output=w.output
 size:w.heap.size<=w'.heap.size
theorem E3.refl (w:World):E3 w w:=⟨OK.refl w,rfl,rfl,rfl,Nat.le_refl _⟩
theorem E3.evo {m:Mp} {A:AW} {w w':World} (hs:jM m A w) (h:E3 w w'):jN m A w m A w':=
 ⟨Mp.le_refl m,h.ext.DV hs,Nat.le_refl _,h.os,h.tape,h.output,h.size,λb hb _=>h.ext b hb,λ_ h=>.inl h,λ_ _=>rfl,λ_ h=>.inl h⟩
theorem E3.drew (w:World):E3 w w.drew:=⟨λ_ _=>rfl,rfl,rfl,rfl,Nat.le_refl _⟩
def uQ (P:Program) (f:FuncId) (args:List Value) (A:AW) (v:Value):Prop:=
 jF P f=true/\fl v=true/\∀(m:Mp) (w:World) (go:Array Value),jM m A w->iu m args go.toList->Calls P f go w λe w'=>e=.returned v/\E3 w w'
theorem bB.mT {m:Mp} {v v':Value} (hv:fl v=true) (h:bB m v v'):v'=v:=by
 cases h<;>first|rfl|(simp [fl] at hv;done)
theorem uQ.Sy {P:Program} {f:FuncId} {args:List Value} {A:AW} {v:Value} (hv:fl v=true) (h:ax P f args A.ro λv' _=>v'=v):uQ P f args A v:=by
 refine⟨h.1,hv,λm w go hs hl=>(h.2 m w go hs.ro hl).mono ?_⟩;rintro e w' ⟨u,u',m',A',rfl,ev,hr,rfl⟩;have:=hr.mT hv;subst this;refine⟨rfl,⟨λb hb=>ev.tk b hb ?_,ev.os,ev.tape,ev.output,ev.size⟩⟩;rintro ⟨i,o,p,hi,y6,_⟩;obtain⟨o',_,rfl⟩:=AW.Gs hi;rw [dH.Kr] at y6;cases y6
theorem uQ.call {P:Program} {f:FuncId} {args:List Value} {A:AW} {v:Value} (h:uQ P f args A v) {R:Value->AW->Prop} (hR:R v A):ax P f args A R:=by
 refine⟨h.1,λm w go hs hl=>(h.2.2 m w go hs hl).mono ?_⟩;rintro e w' ⟨rfl,hk⟩;exact⟨v,v,m,A,rfl,hk.evo hs,.hY h.2.1 m,hR⟩
def RP (P:Program) (op:Op) (r:Operand->Value) (A:AW) (k:Value->Prop):Prop:=
 match op with
 | .call c=>
   match c.callee with
   | .value x=>
     match r x with
     | .func (.func f) fs cs=>∃v,uQ P f (fs.toList++c.args.toList.map r++cs.toList) A v/\k v
     | _=>False
   | _=>False
 | _=>False
def WX (P:Program) (op:Op) (r:Operand->Value) (A:AW) (k:Value->Prop):Prop:=
 match aq P A r op with
 | some v=>k v
 | none=>RP P op r A k
end Go.Stx
namespace Go.Stx
open Go
variable [Gl]
@[simp] theorem W1 (a:Fr) (i j:Nat) (v:Value):km a i v j=if j=i then v else a j:=rfl
@[simp] theorem VE (v:Value) (l:List Value):CS (v::l) 0=v:=rfl
@[simp] theorem VF (v:Value) (l:List Value) (i:Nat):CS (v::l) (i+1)=CS l i:=rfl
@[simp] theorem W5 (a:Fr) (i:Nat) (v:Value):eA a (some i) v=km a i v:=rfl
@[simp] theorem W6 (a:Fr) (v:Value):eA a none v=a:=rfl
@[simp] theorem evF_tmp (a:Fr) (t:Nat):ia a (.tmp t)=a t:=rfl
@[simp] theorem Xz (a:Fr) (v:Value):ia a (.const v)=v:=rfl
@[simp] theorem Zu (a:Fr) (f:FuncId):ia a (.func f)=.func (.func f) #[] #[]:=rfl
@[simp] theorem XD (k:IntKind) (n:Int):(Value.int k n).cells = #[.int k n]:=rfl
@[simp] theorem WN (b:Bool):(Value.bool b).cells = #[.bool b]:=rfl
@[simp] theorem Tz (s:ByteArray):(Value.string s).cells = #[.string s]:=rfl
@[simp] theorem R9 (a:Option Addr):(Value.pointer a).cells = #[.pointer a]:=rfl
@[simp] theorem UR (a:Option Addr) (n c:Nat):(Value.slice a n c).cells = #[.slice a n c]:=rfl
@[simp] theorem XC (r:Option Nat):(Value.map r).cells = #[.map r]:=rfl
@[simp] theorem WM (fn:Fn) (x y:Array Value):(Value.func fn x y).cells = #[.func fn x y]:=rfl
@[simp] theorem Sa:Value.nilFunc.cells = #[.nilFunc]:=rfl
@[simp] theorem Ro:Value.nilIface.cells = #[.nilIface]:=rfl
@[simp] theorem US (t:TypeId) (v:Value):(Value.iface t v).cells = #[.iface t v]:=rfl
@[simp] theorem XE (cs:Array Value):(Value.agg cs).cells=cs:=rfl
attribute [simp] fh JC ft ry qY HC HA Ab yK fl vg
attribute [simp] mW sZ Hm CM gX Ho s7 apart mU mZ oW RJ RE sY
attribute [simp] Na BN yN yM fQ eL uI mq Hu s8 pI uJ
attribute [simp] iI WX aq ae aL cg aQ bm aK aN TP Br GK aun M9
@[simp] theorem Au (k0 k:IntKind) (a b:Int):Instr.sameNow (.int k0) (.int k a) (.int k b)=some (a == b):=by simp [Instr.sameNow]
@[simp] theorem HG (K:Fr->AW->Prop) (Q:Exit->Fr->AW->Prop):aL K Q .normal=K:=rfl
structure SOp where
 dst:Option Tmp
 op:Op
 guard:Option (Option Tmp×Bool)
def kU (bC:Array Oper) (g:Option (Nat×Bool)):Option (Option Tmp×Bool):=g.map λx=>((bC[x.1]?).bind (·.dst),x.2)
def sg (a:Fr) (g:Option (Option Tmp×Bool)):Bool:=
 match g with
 | none=>true
 | some (some d,Pa)=>
   match a d with
   | .bool b=>b == Pa
   | _=>false
 | some (none,_)=>false
theorem Mh (bC:Array Oper) (a:Fr) (o:Oper):mO bC a o=sg a (kU bC o.guard):=by
 unfold mO sg kU;cases o.guard with
 | none=>rfl
 | some g=>
   obtain⟨j,Pa⟩:=g;simp only [Option.map_some];cases (bC[j]?).bind (·.dst)<;>rfl
theorem iI.mono {P:Program} {op:Op} {r:Operand->Value} {A:AW} {k k':Value->AW->Prop} (h:∀v A',k v A'->k' v A') (hh:iI P op r A k):iI P op r A k':=by
 unfold iI at *;split at hh;exact h _ _ hh;split at hh;exact h _ _ hh;unfold xv at *;split at hh;split at hh;split at hh;exact hh.mono h;exact hh;exact hh;exact hh
attribute [simp] sg
theorem Qi {c:Prop} [Decidable c] {p q:Prop} (h1:c->p) (h2:¬c->q):if c then p else q:=by
 split;exact h1 ‹_›;exact h2 ‹_›
def AW.Wf (A:AW):Prop:=∀i,A.next<=i->A.bg i=none
theorem AW.Wf.lt {A:AW} (h:A.Wf) {i:Nat} {o:dH} (hg:A.bg i=some o):i<A.next:=by
 rcases Nat.lt_or_ge i A.next with h1|h1;exact h1;rw [h i h1] at hg;cases hg
@[simp] theorem AW.aV (A:AW) (o:dH):(A.alloc o).next=A.next+1:=rfl
@[simp] theorem AW.tU (A:AW) (i:Nat) (o:Option dH):(A.set i o).next=A.next:=rfl
@[simp] theorem AW.bM (A:AW) (o:dH):(A.alloc o).bg A.next=some o:=by simp [AW.alloc]
theorem AW.fz (A:AW) (o:dH) {i:Nat} (h:i≠A.next):(A.alloc o).bg i=A.bg i:=by simp [AW.alloc,h]
@[simp] theorem AW.Vd (A:AW) (i:Nat) (o:Option dH):(A.set i o).bg i=o:=AW.cm
theorem AW.wQ {A:AW} {i:Nat} {cs:List Value} {own:Bool} {u:Nat} (h:A.bg i=some (.cells cs own u)):A.bP i=some cs:=by simp [AW.bP,h]
theorem AW.Wf.alloc {A:AW} (h:A.Wf) (o:dH):(A.alloc o).Wf:=λi hi=>by
 simp only [AW.aV] at hi;rw [AW.fz _ _ (by omega)];exact h i (by omega)
theorem AW.Wf.set {A:AW} (h:A.Wf) {i:Nat} (o:Option dH) (hi:i<A.next):(A.set i o).Wf:=λj hj=>by
 simp only [AW.tU] at hj;rw [AW.aY (by omega)];exact h j hj
structure AW.le (A A':AW):Prop where
 next:A.next<=A'.next
 bg:∀i,i<A.next->A'.bg i=A.bg i
theorem AW.le.refl (A:AW):A.le A:=⟨Nat.le_refl _,λ_ _=>rfl⟩
theorem AW.le.trans {A B C:AW} (h:A.le B) (k:B.le C):A.le C:=⟨Nat.le_trans h.next k.next,λi hi=>(k.bg i (Nat.lt_of_lt_of_le hi h.next)).trans (h.bg i hi)⟩
theorem AW.le.alloc (A:AW) (o:dH):A.le (A.alloc o):=⟨by simp,λi hi=>AW.fz _ _ (by omega)⟩
theorem AW.le.set {A B:AW} (h:A.le B) {i:Nat} (hi:A.next<=i) (o:Option dH):A.le (B.set i o):=
 ⟨h.next,λj hj=>by rw [AW.aY (by omega)];exact h.bg j hj⟩
theorem AW.le.oK {A B:AW} (h:A.le B) (hw:A.Wf) {i:Nat} {o:dH} (hg:A.bg i=some o):B.bg i=some o:=by rw [h.bg i (hw.lt hg)];exact hg
theorem ax.wf {P:Program} {f:FuncId} {args:List Value} {A:AW} {R:Value->AW->Prop} (h:ax P f args A R):ax P f args A (λv A'=>R v A'/\A'.Wf/\A.next<=A'.next):=
 ⟨h.1,λm w go hs hl=>(h.2 m w go hs hl).mono λ_ _ ⟨v,v',m',A',h1,h2,h3,h4⟩=>⟨v,v',m',A',h1,h2,h3,h4,h2.DV.xz,h2.next⟩⟩
theorem A7 {P:Program} {f:FuncId} {fn:Func} {c:Code} {args:List Value} {A:AW} {R:Value->AW->Prop} (hf:P.funcs[f]? = some fn) (hb:fn.body=some c) (lZ:Jl fn args.length=true)
 (h:A.Wf->cM P fn.ntmps c (aQ P fn R) (CS args) A):ax P f args A R:=by
 have dl:jF P f=true:=by
  simp only [Jl,hb,Bool.and_eq_true,decide_eq_true_eq,Bool.not_eq_true'] at lZ;simp [jF,hf,lZ.1.1.2,hb]
 exact⟨dl,λm w go hs hl=>(Hw hf hb lZ (h hs.xz)).2 m w go hs hl⟩
theorem bD {P:Program} {f:FuncId} {args:List Value} {A:AW} {R k:Value->AW->Prop} (h:ax P f args A R) (hk:∀v A',R v A'->A'.Wf->A.next<=A'.next->k v A'):ax P f args A k:=
 h.wf.mono λv A' ⟨h1,h2,h3⟩=>hk v A' h1 h2 h3
@[congr] theorem U1 {P:Program} {f:FuncId} {args JA:List Value} {A:AW} {R:Value->AW->Prop} (h:args=JA):ax P f args A R=ax P f JA A R:=by rw [h]
@[congr] theorem UZ {P:Program} {f:FuncId} {args JA:List Value} {A:AW} {v:Value} (h:args=JA):uQ P f args A v=uQ P f JA A v:=by rw [h]
@[simp] theorem U2 (P:Program) (x:Operand) (args:Array Operand) (ts:Array TypeId) (r:Operand->Value) (A:AW) (k:Value->AW->Prop) :
 xv P (.call ⟨.value x,args,ts⟩) r A k=match r x with
  | .func (.func f) fs cs=>ax P f (fs.toList++args.toList.map r++cs.toList) A k
  | _=>False:=rfl
@[simp] theorem U0 (P:Program) (x:Operand) (args:Array Operand) (ts:Array TypeId) (r:Operand->Value) (A:AW) (k:Value->Prop) :
 RP P (.call ⟨.value x,args,ts⟩) r A k=match r x with
  | .func (.func f) fs cs=>∃v,uQ P f (fs.toList++args.toList.map r++cs.toList) A v/\k v
  | _=>False:=rfl
def dM (A:AW) (size:Nat) (v:Value) (n:Nat) (cs:List Value):Prop:=
 ((∃o,v=.slice o 0 0)/\n=0/\cs=[]) \/
 ∃p c bP own u,v=.slice (some p) n c/\n<=c/\A.bg p.block=some (.cells bP own u)/\u=size/\p.off+n*size<=bP.length/\cs=(bP.drop p.off).take (n*size)
theorem dM.length {A:AW} {size:Nat} {v:Value} {n:Nat} {cs:List Value} (h:dM A size v n cs):cs.length=n*size:=by
 rcases h with ⟨_,rfl,rfl⟩|⟨p,c,bP,own,u,_,_,_,_,h1,rfl⟩;simp;simp;omega
theorem dM.le {A B:AW} (hl:A.le B) (hw:A.Wf) {size:Nat} {v:Value} {n:Nat} {cs:List Value} (h:dM A size v n cs):dM B size v n cs:=by
 rcases h with h|⟨p,c,bP,own,u,h1,h2,h3,h4⟩;exact .inl h;exact .inr ⟨p,c,bP,own,u,h1,h2,hl.oK hw h3,h4⟩
def bx (A:AW) (k:IntKind) (v:Value) (l:List Int):Prop:=dM A 1 v l.length (l.map (Value.int k))
theorem bx.le {A B:AW} (hl:A.le B) (hw:A.Wf) {k:IntKind} {v:Value} {l:List Int} (h:bx A k v l):bx B k v l:=dM.le hl hw h
theorem bx.nil (A:AW) (k:IntKind):bx A k (.slice none 0 0) []:=.inl ⟨⟨none,rfl⟩,rfl,rfl⟩
theorem dM.bE {A:AW} {size:Nat} {v:Value} {n:Nat} {cs:List Value} (h:dM A size v n cs):∃o c,v=.slice o n c/\n<=c:=by
 rcases h with ⟨⟨o,rfl⟩,rfl,_⟩|⟨p,c,_,_,_,rfl,h,_⟩;exact⟨_,_,rfl,Nat.le_refl _⟩;exact⟨_,_,rfl,h⟩
theorem bx.cases {A:AW} {k:IntKind} {v:Value} {l:List Int} (h:bx A k v l) :
 ((∃o,v=.slice o 0 0)/\l=[])\/∃p c bP own,v=.slice (some p) l.length c/\l.length<=c/\A.bg p.block=some (.cells bP own 1)/\p.off+l.length<=bP.length/\
   ∀j (hj:j<l.length),bP[p.off+j]? = some (.int k l[j]):=by
 rcases h with ⟨h1,h2,h3⟩|⟨p,c,bP,own,u,h1,h2,h3,h4,h5,h6⟩;exact .inl ⟨h1,List.eq_nil_of_length_eq_zero h2⟩;subst h4;rw [Nat.mul_one] at h5 h6;refine .inr ⟨p,c,bP,own,h1,h2,h3,h5,λj hj=>?_⟩;have h7:(l.map (Value.int k))[j]? = ((bP.drop p.off).take l.length)[j]?:=by rw [h6]
 rw [List.getElem?_map,List.getElem?_eq_getElem hj,List.getElem?_take_of_lt hj,List.getElem?_drop] at h7;exact h7.symm
theorem bx.bE {A:AW} {k:IntKind} {v:Value} {l:List Int} (h:bx A k v l):∃o c,v=.slice o l.length c/\l.length<=c:=dM.bE h
theorem bx.at {A:AW} {k:IntKind} {o:Option Addr} {c n:Nat} {l:List Int} (h:bx A k (.slice o n c) l) {i:Nat} (hi:i<l.length) :
 ∃p bP,o=some p/\A.bP p.block=some bP/\bP[p.off+i]? = some (.int k l[i]):=by
 rcases h.cases with ⟨h1,rfl⟩|⟨p,c,bP,own,h1,_,hg,_,hr⟩;simp at hi;injection h1 with h1 h2 h3;exact⟨p,bP,h1,AW.wQ hg,hr i hi⟩
end Go.Stx
