/-
 The abstract memory, its operations, and the walk over it.
-/
import Derived.WalkKit
import Derived.MapKept
import Derived.Lib.AppendZerosOnto
import Derived.ChangeKeysEq
import Derived.Laws.StructEq
import Derived.Laws.Cover3
import Derived.Laws.BytesArg
import Derived.Deep.LoopGhost
import Derived.Deep.Quiet
set_option linter.unusedVariables false
set_option linter.unusedSimpArgs false
set_option linter.unusedSectionVars false
namespace Go.Stx
theorem ap {c:Prop} [h:Decidable c] {α:Sort _} {a b:α} (hc:¬c):(if c then a else b)=b:=if_neg hc
theorem ay {c:Prop} [h:Decidable c] {α:Sort _} {a b:α} (hc:c):(if c then a else b)=a:=if_pos hc
theorem aa {α:Type _} {a:α} {as bs:List α}:(a::as)++bs=a::(as++bs):=rfl
theorem af {α:Type _} {as:List α}:[]++as=as:=rfl
open Go
structure Pl where
 block:Nat
 base:Nat
 unit:Nat
 wU:Nat
abbrev Mp:=Nat->Option Pl
def m6 (m:Mp) (a a':Addr):Prop:=
 a.spot=none/\a'.spot=none/\∃p,m a.block=some p/\a'.block=p.block/\a'.off=p.base+a.off
def ze (m:Mp) (a a':Addr) (gY:Nat):Prop:=
 a.spot=none/\a'.spot=none/\∃p,m a.block=some p/\a'.block=p.block/\a'.off=p.base+a.off/\a'.off+gY*p.unit<=p.wU
theorem ze.KT {m:Mp} {a a':Addr} {c:Nat} (h:ze m a a' c):m6 m a a':=by
 obtain⟨h1,h2,p,h3,h4,h5,_⟩:=h;exact⟨h1,h2,p,h3,h4,h5⟩
inductive bu (m:Mp):Value->Value->Prop
 | bool (b:Bool):bu m (.bool b) (.bool b)
 | int (k:IntKind) (n:Int):bu m (.int k n) (.int k n)
 | float (k:FloatKind) (n:Nat):bu m (.float k n) (.float k n)
 | complex (k:FloatKind) (x y:Nat):bu m (.complex k x y) (.complex k x y)
 | string (s:ByteArray):bu m (.string s) (.string s)
 | xe:bu m (.pointer none) (.pointer none)
 | Hn {a a':Addr} (h:m6 m a a'):bu m (.pointer (some a)) (.pointer (some a'))
 | kZ:bu m (.slice none 0 0) (.slice none 0 0)
 | slice {a a':Addr} {len ee gY:Nat} (h:ze m a a' gY\/(len=0/\gY=0/\(a.spot.isSome=true\/m a.block≠none))) (h1:len<=ee) (h2:ee<=gY) :
  bu m (.slice (some a) len ee) (.slice (some a') len gY)
 | xy:bu m (.map none) (.map none)
 | map {r r':Nat} (h:∃p,m r=some p/\p.block=r'):bu m (.map (some r)) (.map (some r'))
 | CC:bu m (.chan none) (.chan none)
 | func (fn:Fn) {x x' y y':Array Value} (hx:x.size=x'.size) (hy:y.size=y'.size)
  (h1:∀(i:Nat) (v v':Value),x[i]? = some v->x'[i]? = some v'->bu m v v')
  (h2:∀(i:Nat) (v v':Value),y[i]? = some v->y'[i]? = some v'->bu m v v') :
  bu m (.func fn x y) (.func fn x' y')
 | nilFunc:bu m .nilFunc .nilFunc
 | iface (t:TypeId) {v v':Value} (h:bu m v v'):bu m (.iface t v) (.iface t v')
 | nilIface:bu m .nilIface .nilIface
 | agg {x x':Array Value} (hx:x.size=x'.size)
  (h1:∀(i:Nat) (v v':Value),x[i]? = some v->x'[i]? = some v'->bu m v v'):bu m (.agg x) (.agg x')
 | tuple {x x':Array Value} (hx:x.size=x'.size)
  (h1:∀(i:Nat) (v v':Value),x[i]? = some v->x'[i]? = some v'->bu m v v'):bu m (.tuple x) (.tuple x')
def Mp.le (m m':Mp):Prop:=∀i x,m i=some x->m' i=some x
theorem Mp.le_refl (m:Mp):Mp.le m m:=λ_ _ h=>h
theorem Mp.le_trans {a b c:Mp} (h:Mp.le a b) (k:Mp.le b c):Mp.le a c:=λi x e=>k i x (h i x e)
theorem Mp.Rq {m m':Mp} (hm:Mp.le m m') {i:Nat} (h:m i≠none):m' i≠none:=λe=>by
 cases hi:m i with
 | none=>exact h hi
 | some p=>rw [hm i p hi] at e;cases e
theorem m6.mono {m m':Mp} (hm:Mp.le m m') {a a':Addr} (h:m6 m a a'):m6 m' a a':=by
 obtain⟨h1,h2,p,h3,h4⟩:=h;exact⟨h1,h2,p,hm _ _ h3,h4⟩
theorem ze.mono {m m':Mp} (hm:Mp.le m m') {a a':Addr} {c:Nat} (h:ze m a a' c):ze m' a a' c:=by
 obtain⟨h1,h2,p,h3,h4⟩:=h;exact⟨h1,h2,p,hm _ _ h3,h4⟩
theorem bu.mono {m m':Mp} (hm:Mp.le m m') {v v':Value} (h:bu m v v'):bu m' v v':=by
 induction h with
 | bool b=>exact .bool b
 | int k n=>exact .int k n
 | float k n=>exact .float k n
 | complex k x y=>exact .complex k x y
 | string s=>exact .string s
 | xe=>exact .xe
 | Hn h=>exact .Hn (h.mono hm)
 | kZ=>exact .kZ
 | slice h h1 h2=>exact .slice (h.imp (λx=>x.mono hm) fun⟨e1,e2,e3⟩=>⟨e1,e2,e3.imp id (Mp.Rq hm)⟩) h1 h2
 | xy=>exact .xy
 | map h=>obtain⟨p,h1,h2⟩:=h;exact .map ⟨p,hm _ _ h1,h2⟩
 | CC=>exact .CC
 | func fn hx hy _ _ ih1 ih2=>exact .func fn hx hy ih1 ih2
 | nilFunc=>exact .nilFunc
 | iface t _ ih=>exact .iface t ih
 | nilIface=>exact .nilIface
 | agg hx _ ih=>exact .agg hx ih
 | tuple hx _ ih=>exact .tuple hx ih
def gQ (m:Mp) (l l':List Value):Prop:=l.length=l'.length/\∀(i:Nat) (v v':Value),l[i]? = some v->l'[i]? = some v'->bu m v v'
theorem gQ.nil {m:Mp}:gQ m [] []:=⟨rfl,λi v v' h=>by simp at h⟩
theorem gQ.cons {m:Mp} {v v':Value} {l l':List Value} (h:bu m v v') (t:gQ m l l'):gQ m (v::l) (v'::l'):=by
 refine⟨by simp [t.1],λi x x' h1 h2=>?_⟩;cases i with
 | zero=>simp at h1 h2;subst h1;subst h2;exact h
 | succ i=>simp at h1 h2;exact t.2 i x x' h1 h2
theorem gQ.append {m:Mp} {a a' b b':List Value} (h:gQ m a a') (k:gQ m b b'):gQ m (a++b) (a'++b'):=by
 refine⟨by simp [h.1,k.1],λi v v' h1 h2=>?_⟩;rw [List.getElem?_append] at h1 h2;rw [<-h.1] at h2;by_cases hi:i<a.length;rw [ay hi] at h1 h2;exact h.2 i v v' h1 h2;rw [ap hi] at h1 h2;exact k.2 _ v v' h1 h2
theorem gQ.bt {m:Mp} {l l':List Value} (h:gQ m l l') {i:Nat} {v:Value} (hi:l[i]? = some v):∃v',l'[i]? = some v'/\bu m v v':=by
 have cF:i<l'.length:=by rw [<-h.1];exact(List.getElem?_eq_some_iff.1 hi).1
 exact⟨l'[i],List.getElem?_eq_getElem cF,h.2 i v _ hi (List.getElem?_eq_getElem cF)⟩
theorem gQ.kE {m:Mp} {v:Value} {l l':List Value} (h:gQ m (v::l) l'):∃v' t',l'=v'::t'/\bu m v v'/\gQ m l t':=by
 cases l' with
 | nil=>have:=h.1;simp at this
 | cons v' t'=>
   refine⟨v',t',rfl,h.2 0 v v' rfl rfl,⟨by have:=h.1;simpa using this,λi x x' h1 h2=>h.2 (i+1) x x' (by simpa using h1) (by simpa using h2)⟩⟩
theorem gQ.nL {m:Mp} {l':List Value} (h:gQ m [] l'):l'=[]:=by
 exact List.eq_nil_of_length_eq_zero h.1.symm
inductive dG where
 | cells (cs:List Value) (own:Bool) (unit:Nat)
 | map (es:List (Value×Value)) (own:Bool)
structure AW where
 next:Nat
 bt:Nat->Option dG
def AW.set (A:AW) (i:Nat) (o:Option dG):AW:={ A with bt:=λj=>if j=i then o else A.bt j }
def AW.alloc (A:AW) (o:dG):AW:={ next:=A.next+1,bt:=λj=>if j=A.next then some o else A.bt j }
def dG.own:dG->Bool
 | .cells _ o _=>o
 | .map _ o=>o
def lU (m:Mp) (w:World) (p:Pl):dG->Prop
 | .cells cs own unit=>∃ik e fr,w.heap[p.block]? = some (.cells ik e fr)/\(own=true->fr=(0,0))/\unit=p.unit/\ik.size=p.wU/\
  ∀(k:Nat) (v:Value),cs[k]? = some v->∃v',ik[p.base+k]? = some v'/\bu m v v'
 | .map es0 _=>∃jv aw es,es0.Perm es/\w.heap[p.block]? = some (.map jv aw)/\es.length=jv.size/\
  ∀(k:Nat) (x:Value×Value) (e:MapEntry),es[k]? = some x->jv[k]? = some e->bu m x.1 e.key/\bu m x.2 e.val
theorem lU.heap {m:Mp} {w w':World} {p:Pl} {o:dG} (h:lU m w p o) (e:w'.heap[p.block]? = w.heap[p.block]?):lU m w' p o:=by
 cases o with
 | cells cs own unit=>
   obtain⟨ik,e',fr,h3,h4⟩:=h;exact⟨ik,e',fr,by rw [e];exact h3,h4⟩
 | map es own=>
   obtain⟨jv,aw,uN,hp,h3,h4⟩:=h;exact⟨jv,aw,uN,hp,by rw [e];exact h3,h4⟩
theorem lU.mono {m m':Mp} {w:World} {p:Pl} {o:dG} (hm:Mp.le m m') (h:lU m w p o):lU m' w p o:=by
 cases o with
 | cells cs own unit=>
   obtain⟨ik,e',fr,h3,h4,h5,h6,h7⟩:=h;refine⟨ik,e',fr,h3,h4,h5,h6,λk v hv=>?_⟩;obtain⟨v',h8,h9⟩:=h7 k v hv;exact⟨v',h8,h9.mono hm⟩
 | map es own=>
   obtain⟨jv,aw,uN,hp,h3,h4,h5⟩:=h;exact⟨jv,aw,uN,hp,h3,h4,λk x e a b=>⟨(h5 k x e a b).1.mono hm,(h5 k x e a b).2.mono hm⟩⟩
theorem lU.lt {m:Mp} {w:World} {p:Pl} {o:dG} (h:lU m w p o):p.block<w.heap.size:=by
 cases o with
 | cells cs own unit=>
   obtain⟨ik,e',fr,h3,_⟩:=h;exact(Array.getElem?_eq_some_iff.1 h3).1
 | map es own=>
   obtain⟨jv,aw,uN,_,h3,_⟩:=h;exact(Array.getElem?_eq_some_iff.1 h3).1
class Gl where
 B:Nat->Option Obj
 ok:Nat->Bool:=λ_=>false
 N:Nat:=0
 lt:∀g,ok g=true->g<N:=by simp
variable [Gl]
def Kr (g:Nat):Nat:=match Gl.B g with|some (.cells ik _ _)=>ik.size|_=>0
def IO (m:Mp):Prop:=∀g,Gl.ok g=true->m g=some ⟨g,0,1,Kr g⟩
theorem IO.mono {m m':Mp} (hm:Mp.le m m') (h:IO m):IO m':=λg hg=>hm _ _ (h g hg)
structure jp (m:Mp) (A:AW) (w:World):Prop where
 C4:∀i o,A.bt i=some o->∃p,m i=some p/\lU m w p o
 inj:∀i j o o' p p',A.bt i=some o->o.own=true->A.bt j=some o'->i≠j->m i=some p->m j=some p'->p.block≠p'.block
 pI:∀i,A.next<=i->m i=none
 DE:∀i,A.next<=i->A.bt i=none
 laid:∀b x,Gl.B b=some x->w.heap[b]? = some x
 xz:∀i o p,A.bt i=some o->o.own=true->m i=some p->Gl.B p.block=none
 tJ:IO m
def Qv (m:Mp) (A:AW) (b:Nat):Prop:=∃i o p,A.bt i=some o/\o.own=true/\m i=some p/\p.block=b
def Me (m:Mp) (A:AW) (b:Nat):Prop:=∃i o p,A.bt i=some o/\m i=some p/\p.block=b
structure jc (m:Mp) (A:AW) (w:World) (m':Mp) (A':AW) (w':World):Prop where
 ext:Mp.le m m'
 C2:jp m' A' w'
 next:A.next<=A'.next
 os:w'.os=w.os
 tape:w'.tape=w.tape
 output:w'.output=w.output
 size:w.heap.size<=w'.heap.size
 rO:∀b,b<w.heap.size->¬Qv m A b->w'.heap[b]? = w.heap[b]?
 grow:∀b,Qv m' A' b->Qv m A b\/w.heap.size<=b
 sZ:∀i,i<A.next->m' i=m i
 QW:∀b,Me m' A' b->Me m A b\/w.heap.size<=b\/Gl.B b≠none
theorem jc.refl {m:Mp} {A:AW} {w:World} (h:jp m A w):jc m A w m A w:=
 ⟨Mp.le_refl m,h,Nat.le_refl _,rfl,rfl,rfl,Nat.le_refl _,λ_ _ _=>rfl,λ_ h=>.inl h,λ_ _=>rfl,λ_ h=>.inl h⟩
theorem jc.trans {m m1 m2:Mp} {A A1 A2:AW} {w w1 w2:World} (h:jc m A w m1 A1 w1) (k:jc m1 A1 w1 m2 A2 w2):jc m A w m2 A2 w2:=by
 refine⟨Mp.le_trans h.ext k.ext,k.C2,Nat.le_trans h.next k.next,k.os.trans h.os,k.tape.trans h.tape,k.output.trans h.output,Nat.le_trans h.size k.size,?_,?_,λi hi=>(k.sZ i (Nat.lt_of_lt_of_le hi h.next)).trans (h.sZ i hi),?_⟩;intro b hb ho;rw [k.rO b (Nat.lt_of_lt_of_le hb h.size) (λhx=>?_),h.rO b hb ho];rcases h.grow b hx with h1|h1;exact ho h1;omega;intro b hb;rcases k.grow b hb with h1|h1;exact h.grow b h1;exact .inr (Nat.le_trans h.size h1);intro b hb;rcases k.QW b hb with h1|h1|h1;exact h.QW b h1;exact .inr (.inl (Nat.le_trans h.size h1));exact .inr (.inr h1)
theorem jp.FK {m:Mp} {A:AW} {w w':World} (h:jp m A w) (e:w'.heap=w.heap):jp m A w':=by
 refine⟨λi o hi=>?_,h.inj,h.pI,h.DE,λb x hb=>by rw [e];exact h.laid b x hb,h.xz,h.tJ⟩;obtain⟨p,h1,h2⟩:=h.C4 i o hi;exact⟨p,h1,h2.heap (by rw [e])⟩
theorem jc.drew {m:Mp} {A:AW} {w:World} (h:jp m A w):jc m A w m A w.drew:=
 ⟨Mp.le_refl m,h.FK rfl,Nat.le_refl _,rfl,rfl,rfl,Nat.le_refl _,λ_ _ _=>rfl,λ_ h=>.inl h,λ_ _=>rfl,λ_ h=>.inl h⟩
end Go.Stx
namespace Go.Stx
open Go
variable [Gl]
theorem mX (a:Addr) (n:Nat) (h:a.spot=none):a.add n=⟨a.block,a.off+n,none⟩:=by
 obtain⟨b,o,s⟩:=a;simp only at h;subst h;unfold Addr.add;split;rename_i h0;subst h0;rfl;rfl
theorem ue (a:Addr) (h:a.spot=none):a=⟨a.block,a.off,none⟩:=by
 obtain⟨b,o,s⟩:=a;simp only at h;subst h;rfl
theorem bu.xj {m:Mp} {v v':Value} (h:bu m v v'):v'.oneCell'=v.oneCell':=by cases h<;>rfl
theorem bu.cells {m:Mp} {v v':Value} (h:bu m v v'):gQ m v.cells.toList v'.cells.toList:=by
 have h0:=h;cases h with
 | agg hx h1=>exact⟨by simpa [Value.cells] using hx,λi x x' a b=>h1 i x x' (by simpa [Value.cells] using a) (by simpa [Value.cells] using b)⟩
 | _=>exact .cons h0 .nil
def AW.cD (A:AW) (i:Nat):Option (List Value):=
 match A.bt i with
 | some (.cells cs _ _)=>some cs
 | _=>none
theorem xU {m:Mp} {A:AW} {w:World} (hs:jp m A w) {a a':Addr} (ha:m6 m a a') {cs:List Value} (hr:A.cD a.block=some cs) {k:Nat} {v:Value}
 (hv:cs[a.off+k]? = some v):∃v',w.cell? (a'.add k)=some v'/\bu m v v':=by
 obtain⟨h1,h2,p,h3,hb,h4⟩:=ha;unfold AW.cD at hr;split at hr;rename_i oV own unit hg;simp only [Option.some.injEq] at hr;subst hr;obtain⟨p',h5,ik,e,fr,h6,_,_,_,h7⟩:=hs.C4 _ _ hg;rw [h3] at h5;simp only [Option.some.injEq] at h5;subst h5;obtain⟨v',h8,h9⟩:=h7 _ _ hv;refine⟨v',?_,h9⟩;rw [mX _ _ h2];simp only [World.cell?,hb,h6,Option.isSome_none,Bool.false_eq_true,if_false];rw [h4,Nat.add_assoc];exact h8;simp at hr
theorem Pb {P:Program} {m:Mp} {A:AW} {w:World} (hs:jp m A w) {a a':Addr} (ha:m6 m a a') {cs:List Value} (hr:A.cD a.block=some cs) {v:Value}
 (hv:cs[a.off]? = some v):∃v',(load a').run P w=.ok v' w/\bu m v v':=by
 obtain⟨v',h1,h2⟩:=xU hs ha hr (k:=0) (by simpa using hv);refine⟨v',?_,h2⟩;have e:a'.add 0=a':=by unfold Addr.add;simp
 rw [e] at h1;rw [run_load,h1]
theorem DI {P:Program} {m:Mp} {A:AW} {w:World} (hs:jp m A w) {a a':Addr} (ha:m6 m a a') {cs:List Value} (hr:A.cD a.block=some cs) (n:Nat)
 (hn:a.off+n<=cs.length):∃l',(loadCells a' n).run P w=.ok l'.toArray w/\gQ m ((cs.drop a.off).take n) l':=by
 have h:∀j,j<n->∃v',w.cell? (a'.add j)=some v'/\bu m (cs.getD (a.off+j) undef) v':=λj hj=>
  xU hs ha hr (by rw [List.getD_eq_getElem?_getD,List.getElem?_eq_getElem (by omega)];rfl)
 let f:Nat->Value:=λj=>(w.cell? (a'.add j)).getD undef
 have hf:∀j,j<n->w.cell? (a'.add j)=some (f j):=λj hj=>by
  obtain⟨v',h1,_⟩:=h j hj;simp [f,h1]
 refine⟨(List.range n).map f,run_loadCells w a' n f hf,?_,?_⟩;simp;omega;intro i v v' h1 h2;have hi:i<n:=by
  have:=(List.getElem?_eq_some_iff.1 h2).1
  simpa using this
 obtain⟨v1,h3,h4⟩:=h i hi;have e1:cs.getD (a.off+i) undef=v:=by
  rw [List.getElem?_take_of_lt hi,List.getElem?_drop] at h1;rw [List.getD_eq_getElem?_getD,h1];rfl
 have e2:v'=v1:=by
  simp [hi,f,h3] at h2;exact h2.symm
 rw [e1] at h4;rw [e2];exact h4
def eD (cs:List Value) (off:Nat):List Value->List Value
 | []=>cs
 | v::vs=>eD (cs.set off v) (off+1) vs
theorem Ah (vs:List Value):∀(cs:List Value) (off:Nat),(eD cs off vs).length=cs.length:=by
 induction vs with
 | nil=>intro cs off;rfl
 | cons v vs ih=>intro cs off;simp [eD,ih]
theorem AW.ef {A:AW} {i:Nat} {o:Option dG}:(A.set i o).bt i=o:=by simp [AW.set]
theorem AW.bM {A:AW} {i j:Nat} {o:Option dG} (h:j≠i):(A.set i o).bt j=A.bt j:=by simp [AW.set,h]
theorem AW.set_set {A:AW} {i:Nat} {o o':Option dG}:(A.set i o).set i o'=A.set i o':=by
 unfold AW.set;congr 1;funext j;dsimp only;split<;>rfl
theorem AW.Ox {A:AW} {i:Nat} {o:Option dG} (h:A.bt i=o):A.set i o=A:=by
 obtain⟨n,g⟩:=A;unfold AW.set;simp only at h ⊢;congr 1;funext j;split;rename_i e;rw [e,h];rfl
theorem jc.tq {m:Mp} {A:AW} {w w':World} (hs:jp m A w) {i:Nat} {p:Pl} {o0 o1:dG}
 (hg:A.bt i=some o0) (MW:o0.own=true) (i5:o1.own=true) (hm:m i=some p)
 (td:w'.heap.size=w.heap.size) (RA:w'.os=w.os) (ht:w'.tape=w.tape) (ho:w'.output=w.output)
 (hb:lU m w' p o1) (sy:∀j,j≠p.block->w'.heap[j]? = w.heap[j]?) :
 jc m A w m (A.set i (some o1)) w':=by
 refine⟨Mp.le_refl m,⟨?_,?_,hs.pI,?_,?_,?_,hs.tJ⟩,Nat.le_refl _,RA,ht,ho,by omega,?_,?_,λ_ _=>rfl,?_⟩
 rotate_left 3
 intro b x tH;rw [sy b (λe=>by have:=hs.xz i o0 p hg MW hm;rw [<-e,tH] at this;cases this)];exact hs.laid b x tH;intro j o p' hj yk rl;by_cases lL:j=i;subst lL;exact hs.xz j o0 p' hg MW rl;rw [AW.bM lL] at hj;exact hs.xz j o p' hj yk rl
 rotate_left 3
 intro j o hj;by_cases lL:j=i;subst lL;rw [AW.ef] at hj;simp only [Option.some.injEq] at hj;subst hj;exact⟨p,hm,hb⟩;rw [AW.bM lL] at hj;obtain⟨p',h1,h2⟩:=hs.C4 j o hj;have gl:p'.block≠p.block:=λe'=>hs.inj i j _ o p p' hg MW hj (Ne.symm lL) hm h1 e'.symm;exact⟨p',h1,h2.heap (sy _ gl)⟩;intro j j' o o' p1 p2 hj yk uB gl F0 W4;by_cases lL:j=i;subst lL;rw [AW.bM (Ne.symm gl)] at uB;exact hs.inj j j' _ o' p1 p2 hg MW uB gl F0 W4;rw [AW.bM lL] at hj;by_cases hj'i:j'=i;subst hj'i;exact hs.inj j j' o _ p1 p2 hj yk hg gl F0 W4;rw [AW.bM hj'i] at uB;exact hs.inj j j' o o' p1 p2 hj yk uB gl F0 W4;intro j hj;have lL:j≠i:=λe=>by
  subst e;rw [hs.DE j hj] at hg;cases hg
 rw [AW.bM lL];exact hs.DE j hj;intro b' _ RC;refine sy b' (λe'=>RC ?_);subst e';exact⟨i,_,p,hg,MW,hm,rfl⟩;rintro b' ⟨j,o,p',hj,yk,rl,tH⟩;by_cases lL:j=i;subst lL;exact .inl ⟨j,_,p',hg,MW,rl,tH⟩;rw [AW.bM lL] at hj;exact .inl ⟨j,o,p',hj,yk,rl,tH⟩;rintro b' ⟨j,o,p',hj,rl,tH⟩;by_cases lL:j=i;subst lL;exact .inl ⟨j,_,p',hg,rl,tH⟩;rw [AW.bM lL] at hj;exact .inl ⟨j,o,p',hj,rl,tH⟩
theorem jc.set {m:Mp} {A:AW} {w w':World} (hs:jp m A w) {i:Nat} {p:Pl} {cs oV:List Value} {unit:Nat} {Cu:Array Value} {e:TypeId}
 (hg:A.bt i=some (.cells cs true unit)) (hm:m i=some p) (hu:unit=p.unit)
 (td:w'.heap.size=w.heap.size) (RA:w'.os=w.os) (ht:w'.tape=w.tape) (ho:w'.output=w.output)
 (hb:w'.heap[p.block]? = some (.cells Cu e (0,0))) (wy:Cu.size=p.wU) (sy:∀j,j≠p.block->w'.heap[j]? = w.heap[j]?)
 (s3:∀(k:Nat) (v:Value),oV[k]? = some v->∃v',Cu[p.base+k]? = some v'/\bu m v v') :
 jc m A w m (A.set i (some (.cells oV true unit))) w':=
 jc.tq hs hg rfl rfl hm td RA ht ho ⟨Cu,e,(0,0),hb,λ_=>rfl,hu,wy,s3⟩ sy
theorem I9 {P:Program} {m:Mp} {A:AW} {w:World} (hs:jp m A w) {i k unit:Nat} {p:Pl} {cs:List Value} (hg:A.bt i=some (.cells cs true unit))
 (hm:m i=some p) (hk:k<cs.length) {v v':Value} (hv:bu m v v') (h1:v.oneCell'=true) :
 ∃w',(store ⟨p.block,p.base+k,none⟩ v').run P w=.ok () w'/\jc m A w m (A.set i (some (.cells (cs.set k v) true unit))) w':=by
 obtain⟨p1,h2,ik,e,fr,h3,h4,hu,wy,h5⟩:=hs.C4 i _ hg;rw [hm] at h2;simp only [Option.some.injEq] at h2;subst h2;have s7:=h4 rfl;subst s7;obtain⟨u,h6,_⟩:=h5 k cs[k] (List.getElem?_eq_getElem hk);have cF:p.base+k<ik.size:=(Array.getElem?_eq_some_iff.1 h6).1;have hcell:w.cell? ⟨p.block,p.base+k,none⟩=some u:=by simp [World.cell?,h3,h6]
 have hfz:w.frozen? ⟨p.block,p.base+k,none⟩=false:=by simp [World.frozen?,h3]
 refine⟨w.setCell ⟨p.block,p.base+k,none⟩ v',?_,?_⟩;rw [run_store P w _ _ _ (by rw [hv.xj];exact h1),hcell];simp [hfz];refine jc.set hs (Cu:=ik.setIfInBounds (p.base+k) v') (e:=e) hg hm hu (by simp) rfl rfl rfl ?_ (by simpa using wy) ?_ ?_;simp only [World.setCell,Array.getElem?_modify,h3];simp;intro j hj;simp only [World.setCell,Array.getElem?_modify];rw [ap (by omega)];intro j x hx;by_cases hjk:k=j;subst hjk;rw [List.getElem?_set_self hk] at hx;simp only [Option.some.injEq] at hx;subst hx;exact⟨v',by simp [cF],hv⟩;rw [List.getElem?_set_ne hjk] at hx;obtain⟨x',h7,h8⟩:=h5 j x hx;exact⟨x',by rw [Array.getElem?_setIfInBounds_ne (by omega)];exact h7,h8⟩
theorem lx {P:Program} {m:Mp} {i o unit:Nat} {p:Pl} (hm:m i=some p):∀(vs E6:List Value) (k:Nat) (cs:List Value) (A:AW) (w:World),
 jp m A w->A.bt i=some (.cells cs true unit)->gQ m vs E6->(∀v∈vs,v.oneCell'=true)->o+k+vs.length<=cs.length->
 ∃w',(storeCells ⟨p.block,p.base+o,none⟩ E6 k).run P w=.ok () w'/\jc m A w m (A.set i (some (.cells (eD cs (o+k) vs) true unit))) w'
 | [],E6,k,cs,A,w,hs,hg,hl,_,_=>by
   have e:=hl.nL;subst e;refine⟨w,rfl,?_⟩;rw [eD,AW.Ox hg];exact jc.refl hs
 | v::vs,E6,k,cs,A,w,hs,hg,hl,h1,b6=>by
   obtain⟨v',t',rfl,hv,ht⟩:=hl.kE;simp only [List.length_cons] at b6;obtain⟨w1,Ux,ev1⟩:=I9 (P:=P) hs hg hm (k:=o+k) (by omega) hv (h1 v (by simp))
   obtain⟨w2,hr2,KB⟩:=lx (P:=P) (o:=o) hm vs t' (k+1) (cs.set (o+k) v) _ w1 ev1.C2 AW.ef ht (λx hx=>h1 x (by simp [hx]))
    (by simp;omega)
   refine⟨w2,?_,?_⟩;have ea:(⟨p.block,p.base+o,none⟩:Addr).add k=⟨p.block,p.base+(o+k),none⟩:=(by rw [mX _ _ rfl];simp [Nat.add_assoc]);simp only [storeCells,Sem.run_bind,ea,Ux,Result.andThen_ok,hr2];have:=ev1.trans KB;rw [AW.set_set] at this;rw [eD,show o+k+1=o+(k+1) by omega];exact this
theorem xI (w:World) (o:Obj) (i:Nat) (h:i<w.heap.size):(w.alloc o).heap[i]? = w.heap[i]?:=by
 show (w.heap.push o)[i]? = _;rw [Array.getElem?_push,ap (by omega)]
theorem xJ (w:World) (o:Obj):(w.alloc o).heap[w.heap.size]? = some o:=by
 show (w.heap.push o)[w.heap.size]? = _;simp
def Mp.ext (m:Mp) (i:Nat) (x:Pl):Mp:=λj=>if j=i then some x else m j
theorem jp.FT {m:Mp} {A:AW} {w:World} (hs:jp m A w) (x:Pl):Mp.le m (m.ext A.next x):=by
 intro i y h;unfold Mp.ext;split;rename_i e;rw [e,hs.pI A.next (Nat.le_refl _)] at h;cases h;exact h
theorem jp.iy {m:Mp} {A:AW} {w:World} (hs:jp m A w) {j:Nat} {o:dG} {p:Pl} (h:A.bt j=some o) (hm:m j=some p):p.block<w.heap.size:=by
 obtain⟨p1,h1,h2⟩:=hs.C4 j o h;rw [hm] at h1;simp only [Option.some.injEq] at h1;subst h1;exact h2.lt
theorem jc.PT {m:Mp} {A:AW} {w w':World} (hs:jp m A w) (o1:dG) (p:Pl)
 (RA:w'.os=w.os) (ht:w'.tape=w.tape) (ho:w'.output=w.output) (td:w.heap.size<=w'.heap.size)
 (Ps:∀b,b<w.heap.size->w'.heap[b]? = w.heap[b]?) (hp:w.heap.size<=p.block) (hb:lU m w' p o1) :
 jc m A w (m.ext A.next p) (A.alloc o1) w':=by
 have fo:=hs.FT p;have eL:∀{j o},A.bt j=some o->j≠A.next:=λ{j o} h e=>by
  subst e;rw [hs.DE _ (Nat.le_refl _)] at h;cases h
 have oZ:∀{j},j≠A.next->(m.ext A.next p) j=m j:=λ{j} h=>by simp [Mp.ext,h]
 have pX:∀{j},j≠A.next->(A.alloc o1).bt j=A.bt j:=λ{j} h=>by simp [AW.alloc,h]
 have wo:(m.ext A.next p) A.next=some p:=by simp [Mp.ext]
 have Nh:(A.alloc o1).bt A.next=some o1:=by simp [AW.alloc]
 refine⟨fo,⟨?_,?_,?_,?_,?_,?_,hs.tJ.mono fo⟩,by simp [AW.alloc],RA,ht,ho,td,λb hb _=>Ps b hb,?_,λi hi=>oZ (by omega),?_⟩
 rotate_left 4
 intro b x tH;have h1:=hs.laid b x tH;rw [Ps b (Array.getElem?_eq_some_iff.1 h1).1];exact h1;intro j o p' hj yk rl;by_cases hn:j=A.next
 . subst hn;rw [wo] at rl;simp only [Option.some.injEq] at rl;subst rl;cases hB:Gl.B p.block with
   | none=>rfl
   | some x=>have h1:=(Array.getElem?_eq_some_iff.1 (hs.laid _ x hB)).1;omega
 rw [pX hn] at hj;rw [oZ hn] at rl;exact hs.xz j o p' hj yk rl
 rotate_left 2
 intro j o hj;by_cases hn:j=A.next;subst hn;rw [Nh] at hj;simp only [Option.some.injEq] at hj;subst hj;exact⟨p,wo,hb.mono fo⟩;rw [pX hn] at hj;obtain⟨p',h1,h2⟩:=hs.C4 j o hj;have cF:=hs.iy hj h1;exact⟨p',by rw [oZ hn];exact h1,(h2.heap (Ps _ cF)).mono fo⟩;intro i j o o' p1 p2 hi yk hj gl QG rl;by_cases rQ:i=A.next;subst rQ;rw [wo] at QG;simp only [Option.some.injEq] at QG;subst QG;rw [pX (Ne.symm gl)] at hj;rw [oZ (Ne.symm gl)] at rl;have:=hs.iy hj rl;omega;rw [pX rQ] at hi;rw [oZ rQ] at QG;by_cases V0:j=A.next;subst V0;rw [wo] at rl;simp only [Option.some.injEq] at rl;subst rl;have:=hs.iy hi QG;omega;rw [pX V0] at hj;rw [oZ V0] at rl;exact hs.inj i j o o' p1 p2 hi yk hj gl QG rl;intro i hi;have:i≠A.next:=by simp [AW.alloc] at hi;omega
 rw [oZ this];exact hs.pI i (by simp [AW.alloc] at hi;omega);intro i hi;have:i≠A.next:=by simp [AW.alloc] at hi;omega
 rw [pX this];exact hs.DE i (by simp [AW.alloc] at hi;omega);rintro b ⟨i,o,p',hi,yk,hm,hb⟩;by_cases hn:i=A.next;subst hn;rw [wo] at hm;simp only [Option.some.injEq] at hm;subst hm;exact .inr (by omega);rw [pX hn] at hi;rw [oZ hn] at hm;exact .inl ⟨i,o,p',hi,yk,hm,hb⟩;rintro b ⟨i,o,p',hi,hm,hb⟩;by_cases hn:i=A.next;subst hn;rw [wo] at hm;simp only [Option.some.injEq] at hm;subst hm;exact .inr (.inl (by omega));rw [pX hn] at hi;rw [oZ hn] at hm;exact .inl ⟨i,o,p',hi,hm,hb⟩
theorem jc.pI {m:Mp} {A:AW} {w w':World} (hs:jp m A w) (cs:List Value) (own:Bool) (p:Pl) {ik:Array Value} {e:TypeId} (unit:Nat)
 (RA:w'.os=w.os) (ht:w'.tape=w.tape) (ho:w'.output=w.output) (td:w.heap.size<=w'.heap.size)
 (Ps:∀b,b<w.heap.size->w'.heap[b]? = w.heap[b]?) (hp:w.heap.size<=p.block) (hu:unit=p.unit)
 (hb:w'.heap[p.block]? = some (.cells ik e (0,0))) (wy:ik.size=p.wU)
 (s3:∀(k:Nat) (v:Value),cs[k]? = some v->∃v',ik[p.base+k]? = some v'/\bu m v v') :
 jc m A w (m.ext A.next p) (A.alloc (.cells cs own unit)) w':=
 jc.PT hs _ p RA ht ho td Ps hp ⟨ik,e,(0,0),hb,λ_=>rfl,hu,wy,s3⟩
theorem jc.alloc {m:Mp} {A:AW} {w:World} (hs:jp m A w) (cs:List Value) (ik:Array Value) (e:TypeId) (unit:Nat)
 (s3:∀(k:Nat) (v:Value),cs[k]? = some v->∃v',ik[k]? = some v'/\bu m v v') :
 jc m A w (m.ext A.next ⟨w.heap.size,0,unit,ik.size⟩) (A.alloc (.cells cs true unit)) (w.alloc (.cells ik e)):=
 jc.pI hs cs true ⟨w.heap.size,0,unit,ik.size⟩ unit rfl rfl rfl (by simp) (λb hb=>xI w _ b hb) (Nat.le_refl _) rfl
  (xJ w _) rfl (by simpa using s3)
theorem m6.kD (m:Mp) (i:Nat) (p:Pl) (o:Nat):m6 (m.ext i p) ⟨i,o,none⟩ ⟨p.block,p.base+o,none⟩:=⟨rfl,rfl,p,by simp [Mp.ext],rfl,rfl⟩
end Go.Stx
namespace Go.Stx
open Go
variable [Gl]
theorem jc.JQ {m:Mp} {A:AW} {w:World} (hs:jp m A w) (i:Nat):jc m A w m (A.set i none) w:=by
 have key:∀{j o},(A.set i none).bt j=some o->A.bt j=some o:=λ{j o} h=>by
  by_cases hj:j=i;subst hj;rw [AW.ef] at h;cases h;rwa [AW.bM hj] at h
 refine⟨Mp.le_refl m,⟨λj o h=>hs.C4 j o (key h),λa b o o' p p' h1 h2 h3 h4 h5 h6=>hs.inj a b o o' p p' (key h1) h2 (key h3) h4 h5 h6,hs.pI,?_,hs.laid,λa o p h1 h2 h3=>hs.xz a o p (key h1) h2 h3,hs.tJ⟩,
  Nat.le_refl _,rfl,rfl,rfl,Nat.le_refl _,λ_ _ _=>rfl,?_,λ_ _=>rfl,?_⟩
 intro j hj;by_cases lL:j=i;subst lL;exact AW.ef;rw [AW.bM lL];exact hs.DE j hj;rintro b ⟨j,o,p,h1,h2,h3,h4⟩;exact .inl ⟨j,o,p,key h1,h2,h3,h4⟩;rintro b ⟨j,o,p,h1,h2,h3⟩;exact .inl ⟨j,o,p,key h1,h2,h3⟩
theorem jc.adopt {m:Mp} {A:AW} {w w':World} (hs:jp m A w) {i:Nat} {p p':Pl} {cs oV:List Value} {unit:Nat} {Cu:Array Value} {e:TypeId}
 (hg:A.bt i=some (.cells cs true unit)) (hm:m i=some p) (B6:p'.block=p.block) (hu:unit=p'.unit)
 (td:w'.heap.size=w.heap.size) (RA:w'.os=w.os) (ht:w'.tape=w.tape) (ho:w'.output=w.output)
 (hb:w'.heap[p.block]? = some (.cells Cu e (0,0))) (wy:Cu.size=p'.wU) (sy:∀j,j≠p.block->w'.heap[j]? = w.heap[j]?)
 (s3:∀(k:Nat) (v:Value),oV[k]? = some v->∃v',Cu[p'.base+k]? = some v'/\bu m v v') :
 jc m A w (m.ext A.next p') ((A.set i none).alloc (.cells oV true unit)) w':=by
 have fo:=hs.FT p';have eL:∀{j o},A.bt j=some o->j≠A.next:=λ{j o} h e=>by
  subst e;rw [hs.DE _ (Nat.le_refl _)] at h;cases h
 have oZ:∀{j},j≠A.next->(m.ext A.next p') j=m j:=λ{j} h=>by simp [Mp.ext,h]
 have wo:(m.ext A.next p') A.next=some p':=by simp [Mp.ext]
 have Nh:((A.set i none).alloc (.cells oV true unit)).bt A.next=some (.cells oV true unit):=by simp [AW.alloc,AW.set]
 have pX:∀{j o},j≠A.next->((A.set i none).alloc (.cells oV true unit)).bt j=some o->A.bt j=some o/\j≠i:=λ{j o} h1 h2=>by
  have e:((A.set i none).alloc (.cells oV true unit)).bt j=(A.set i none).bt j:=by
   exact ap h1
  rw [e] at h2;by_cases lL:j=i;subst lL;rw [AW.ef] at h2;cases h2;rw [AW.bM lL] at h2;exact⟨h2,lL⟩
 refine⟨fo,⟨?_,?_,?_,?_,?_,?_,hs.tJ.mono fo⟩,by simp [AW.alloc,AW.set],RA,ht,ho,by omega,?_,?_,λj hj=>oZ (by omega),?_⟩
 rotate_left 4
 intro b x tH;rw [sy b (λe=>by have:=hs.xz i _ p hg rfl hm;rw [<-e,tH] at this;cases this)];exact hs.laid b x tH;intro j o q hj yk rl;by_cases hn:j=A.next;subst hn;rw [wo] at rl;simp only [Option.some.injEq] at rl;subst rl;rw [B6];exact hs.xz i _ p hg rfl hm;rw [oZ hn] at rl;exact hs.xz j o q (pX hn hj).1 yk rl
 rotate_left 3
 intro j o hj;by_cases hn:j=A.next;subst hn;rw [Nh] at hj;simp only [Option.some.injEq] at hj;subst hj;refine⟨p',wo,Cu,e,(0,0),by rw [B6];exact hb,λ_=>rfl,hu,wy,λk v hv=>?_⟩;obtain⟨v',h1,h2⟩:=s3 k v hv;exact⟨v',h1,h2.mono fo⟩;obtain⟨uB,lL⟩:=pX hn hj;obtain⟨q,h1,h2⟩:=hs.C4 j o uB;have gl:q.block≠p.block:=λe'=>hs.inj i j _ o p q hg rfl uB (Ne.symm lL) hm h1 e'.symm;exact⟨q,by rw [oZ hn];exact h1,(h2.heap (sy _ gl)).mono fo⟩;intro a b o o' p1 p2 ha yk tH gl VX UC;by_cases RS:a=A.next;subst RS;rw [wo] at VX;simp only [Option.some.injEq] at VX;subst VX;obtain⟨N5,uM⟩:=pX (Ne.symm gl) tH;rw [oZ (Ne.symm gl)] at UC;rw [B6];exact hs.inj i b _ o' p p2 hg rfl N5 (Ne.symm uM) hm UC;obtain⟨ha1,hai⟩:=pX RS ha;rw [oZ RS] at VX;by_cases PM:b=A.next;subst PM;rw [wo] at UC;simp only [Option.some.injEq] at UC;subst UC;rw [B6];exact hs.inj a i o _ p1 p ha1 yk hg hai VX hm;obtain⟨N5,_⟩:=pX PM tH;rw [oZ PM] at UC
 exact hs.inj a b o o' p1 p2 ha1 yk N5 gl VX UC;intro j hj;have:j≠A.next:=by simp [AW.alloc,AW.set] at hj;omega
 rw [oZ this];exact hs.pI j (by simp [AW.alloc,AW.set] at hj;omega)
 . intro j hj;have h0:A.next+1<=j:=by simpa [AW.alloc,AW.set] using hj
   have h1:j≠A.next:=(by omega);cases hx:((A.set i none).alloc (.cells oV true unit)).bt j with
   | none=>rfl
   | some o=>
     have:=(pX h1 hx).1;rw [hs.DE j (by omega)] at this;cases this
 intro b' _ RC;refine sy b' (λe'=>RC ?_);subst e';exact⟨i,_,p,hg,rfl,hm,rfl⟩;rintro b ⟨j,o,q,hj,yk,rl,hbj⟩;by_cases hn:j=A.next;subst hn;rw [wo] at rl;simp only [Option.some.injEq] at rl;subst rl;exact .inl ⟨i,_,p,hg,rfl,hm,by rw [<-B6];exact hbj⟩;obtain⟨uB,_⟩:=pX hn hj;rw [oZ hn] at rl;exact .inl ⟨j,o,q,uB,yk,rl,hbj⟩;rintro b ⟨j,o,q,hj,rl,hbj⟩;by_cases hn:j=A.next;subst hn;rw [wo] at rl;simp only [Option.some.injEq] at rl;subst rl;exact .inl ⟨i,_,p,hg,hm,by rw [<-B6];exact hbj⟩;obtain⟨uB,_⟩:=pX hn hj;rw [oZ hn] at rl;exact .inl ⟨j,o,q,uB,rl,hbj⟩
theorem uT (cs:List Value) (o n:Nat) (j:Nat) (v:Value) (h:((cs.drop o).take n)[j]? = some v):cs[o+j]? = some v/\j<n:=by
 rw [List.getElem?_take] at h;split at h;rename_i hj;rw [List.getElem?_drop] at h;exact⟨h,hj⟩;cases h
theorem tt {m:Mp} {A:AW} {w:World} (hs:jp m A w) {a a':Addr} (ha:m6 m a a') {cs:List Value} (hr:A.cD a.block=some cs) (n:Nat) (hn:a.off+n<=cs.length) :
 ∃l',l'.length=n/\gQ m ((cs.drop a.off).take n) l'/\∀(j:Nat) (v:Value),l'[j]? = some v->w.cell? (a'.add j)=some v:=by
 have h:∀j,j<n->∃v',w.cell? (a'.add j)=some v'/\bu m (cs.getD (a.off+j) undef) v':=λj hj=>
  xU hs ha hr (by rw [List.getD_eq_getElem?_getD,List.getElem?_eq_getElem (by omega)];rfl)
 refine⟨(List.range n).map λj=>(w.cell? (a'.add j)).getD undef,by simp,⟨by simp;omega,?_⟩,?_⟩;intro i v v' h1 h2;obtain⟨h3,hi⟩:=uT _ _ _ _ _ h1;obtain⟨v1,h4,h5⟩:=h i hi;rw [List.getD_eq_getElem?_getD,h3] at h5;simp [hi,h4] at h2;subst h2;exact h5;intro j v hv;have hj:j<n:=by
  have:=(List.getElem?_eq_some_iff.1 hv).1
  simpa using this
 obtain⟨v1,h4,_⟩:=h j hj;simp [hj,h4] at hv;subst hv;exact h4
def ga (A:AW) (size:Nat) (x:Value):Option (Nat×List Value):=
 match x with
 | .slice none 0 0=>some (0,[])
 | .slice (some b) n _=>
   if n=0 then some (0,[]) else
   match A.cD b.block with
   | some cs=>if b.off+n*size<=cs.length then some (n,(cs.drop b.off).take (n*size)) else none
   | none=>none
 | _=>none
def fQ (A:AW) (size:Nat) (s:Value):Option (Option Addr×Nat×List Value):=
 match s with
 | .slice none 0 0=>some (none,0,[])
 | .slice (some a) n c=>
   if a.spot.isSome/\c=0/\n=0 then some (none,0,[]) else
   match A.bt a.block with
   | some (.cells cs true unit)=>if unit=size/\a.off+n*size<=cs.length then some (some a,n,(cs.drop a.off).take (n*size)) else none
   | _=>none
 | _=>none
def eK (P:Program) (A:AW) (t u:TypeId) (s x:Value):Option (Value×AW):=
 match P.underlying t with
 | some (.slice e)=>
   match P.info? e with
   | some i=>
     match i.zero with
     | some z=>
       if z.cells.size=i.size/\0<i.size/\t=u then
        match ga A i.size x,fQ A i.size s with
        | some (n,mn),some (base,k,sf)=>
          if n=0 then some (s,A)
          else if k+n<=140737488355328/\(k+n)*i.bytes<=140737488355328/\mn.all Value.oneCell' then
           some (.slice (some ⟨A.next,0,none⟩) (k+n) (k+n),
            ((match base with|some a=>A.set a.block none|none=>A)).alloc (.cells (sf++mn) true i.size))
          else none
        | _,_=>none
       else none
     | none=>none
   | none=>none
 | _=>none
theorem Ag {P:Program} (w:World) (t ty e:TypeId) (i:TypeInfo) (ht:P.underlying t=some (.slice e)) (hi:P.info? e=some i)
 (base:Option Addr) (n c:Nat) (hc:n<=c) (xb:Option Addr) (xc:Nat) :
 (Builtin.append_ #[t,t] ty #[.slice base n c,.slice xb 0 xc]).run P w=.ok (.slice base n c) w:=by
 cases base<;>cases xb<;>simp [Builtin.append_,run_underlying ht,sizeOf,typeInfo,hi,Builtin.lenOf,hc,Builtin.firstCells,loadCells,loadCellsFrom,storeCells]
theorem Gp {m:Mp} {A:AW} {w:World} (hs:jp m A w) {size n:Nat} {x x':Value} {mn:List Value} (h:ga A size x=some (n,mn)) (hx:bu m x x') :
 (n=0/\∃xb xc,x'=.slice xb 0 xc) \/
 (∃a c l',x'=.slice (some a) n c/\l'.length=n*size/\gQ m mn l'/\∀(j:Nat) (v:Value),l'[j]? = some v->w.cell? (a.add j)=some v):=by
 unfold ga at h;split at h;simp only [Option.some.injEq,Prod.mk.injEq] at h;obtain⟨rfl,rfl⟩:=h;cases hx;exact .inl ⟨rfl,_,_,rfl⟩;rename_i b k c;split at h;rename_i h0;simp only [Option.some.injEq,Prod.mk.injEq] at h;obtain⟨rfl,rfl⟩:=h;subst h0;cases hx;exact .inl ⟨rfl,_,_,rfl⟩;rename_i h0;split at h;rename_i cs hr;split at h
 . rename_i fo;simp only [Option.some.injEq,Prod.mk.injEq] at h;obtain⟨rfl,rfl⟩:=h;cases hx with
   | slice hh h1 h2=>
     rename_i a' gY;have ha:m6 m b a':=by
      rcases hh with hh|hh;exact hh.KT;exact absurd hh.1 h0
     obtain⟨l',e1,e2,e3⟩:=tt hs ha hr (k*size) fo;exact .inr ⟨a',gY,l',rfl,e1,e2,e3⟩
 cases h;cases h;cases h
theorem gQ.aY {m:Mp} {l l':List Value} (h:gQ m l l') (h1:∀v∈l,v.oneCell'=true):∀v∈l',v.oneCell'=true:=by
 intro v hv;obtain⟨i,hi⟩:=List.getElem?_of_mem hv;have cF:=(List.getElem?_eq_some_iff.1 hi).1;rw [<-h.1] at cF;have e:=List.getElem?_eq_getElem cF;rw [(h.2 i _ v e hi).xj];exact h1 _ (List.getElem_mem cF)
theorem vQ {P:Program} (w:World) (t ty e:TypeId) (i:TypeInfo) (ht:P.underlying t=some (.slice e)) (hi:P.info? e=some i)
 (g o iv m7:Nat) (ik:Array Value) (e':TypeId) (hg:w.heap[g]? = some (.cells ik e' (0,0)))
 (a:Addr) (m c:Nat) (mn:List Value) (hl:mn.length=m*i.size) (iN:∀j u,mn[j]? = some u->w.cell? (a.add j)=some u) (h1:∀u∈mn,u.oneCell'=true)
 (B5:iv+m<=m7) (oH:o+iv*i.size+mn.length<=ik.size) :
 (Builtin.append_ #[t,t] ty #[.slice (some ⟨g,o,none⟩) iv m7,.slice (some a) m c]).run P w =
  .ok (.slice (some ⟨g,o,none⟩) (iv+m) m7) (w.setRow g (ik.toList.take (o+iv*i.size)++mn++ik.toList.drop (o+iv*i.size+mn.length)).toArray):=by
 have hf:=run_firstCells_some (P:=P) w i.size m a m c mn hl iN;have cL:=run_storeCells_at P g (o+iv*i.size) e' mn 0 ik w hg (by simpa using oH) h1;simp only [Nat.add_zero] at cL;have ea:(⟨g,o,none⟩:Addr).add (iv*i.size)=⟨g,o+iv*i.size,none⟩:=mX _ _ rfl;simp [Builtin.append_,run_underlying ht,sizeOf,typeInfo,hi,Builtin.lenOf,B5,hf,ea,cL]
theorem zQ {P:Program} {m:Mp} {A:AW} {w:World} (hs:jp m A w) {ty e:TypeId} {i:TypeInfo} {z:Value} {ts:Array TypeId} {X:Value} {s s':Value} {n k:Nat} {mn l' sf:List Value} {base:Option Addr}
 (nz:z.cells.size=i.size)
 (C6:¬n=0) (N5:k+n<=140737488355328) (ks:(k+n)*i.bytes<=140737488355328) (mS:∀v∈mn,v.oneCell'=true) (hl:l'.length=n*i.size) (LS:gQ m mn l')
 (ho:fQ A i.size s=some (base,k,sf)) (Ka:bu m s s')
 (Hnil:∀k',k'=0->k=0->(Builtin.append_ ts ty #[.slice none 0 0,X]).run P w=.ok (.slice (some ⟨w.heap.size,0,none⟩) n (grownCap w n 0 e)) (w.drew.alloc (.cells (l'.toArray++Builtin.zeroCells z.cells (grownCap w n 0 e-n)) e)))
 (Tu:∀(b:Addr) (iv m7:Nat) (sf:List Value),iv=k->sf.length=iv*i.size->(∀(j:Nat) (v:Value),sf[j]? = some v->w.cell? (b.add j)=some v)->m7<iv+n->
  (Builtin.append_ ts ty #[.slice (some b) iv m7,X]).run P w=.ok (.slice (some ⟨w.heap.size,0,none⟩) (iv+n) (grownCap w (iv+n) m7 e))
   (w.drew.alloc (.cells (sf.toArray++l'.toArray++Builtin.zeroCells z.cells (grownCap w (iv+n) m7 e-(iv+n))) e)))
 (Hroom:∀(g o iv m7:Nat) (ik:Array Value) (e':TypeId),w.heap[g]? = some (.cells ik e' (0,0))->iv+n<=m7->o+iv*i.size+l'.length<=ik.size->
  (Builtin.append_ ts ty #[.slice (some ⟨g,o,none⟩) iv m7,X]).run P w=.ok (.slice (some ⟨g,o,none⟩) (iv+n) m7)
   (w.setRow g (ik.toList.take (o+iv*i.size)++l'++ik.toList.drop (o+iv*i.size+l'.length)).toArray)) :
 ∃v' w' m',(Builtin.append_ ts ty #[s',X]).run P w=.ok v' w'/\
  jc m A w m' ((match base with|some a=>A.set a.block none|none=>A).alloc (.cells (sf++mn) true i.size)) w'/\bu m' (.slice (some ⟨A.next,0,none⟩) (k+n) (k+n)) v':=by
 have SX:=LS.aY mS
 have H8:∀(eL:Nat) (A0:AW) (HV:jp m A0 w) (C6:A0.next=A.next) (lo:List Value) (uz:gQ m sf lo) (b6:lo.length=k*i.size),
  jc m A0 w (m.ext A.next ⟨w.heap.size,0,i.size,(lo.toArray++l'.toArray++Builtin.zeroCells z.cells (grownCap w (k+n) eL e-(k+n))).size⟩)
   (A0.alloc (.cells (sf++mn) true i.size)) (w.drew.alloc (.cells (lo.toArray++l'.toArray++Builtin.zeroCells z.cells (grownCap w (k+n) eL e-(k+n))) e))/\
   bu (m.ext A.next ⟨w.heap.size,0,i.size,(lo.toArray++l'.toArray++Builtin.zeroCells z.cells (grownCap w (k+n) eL e-(k+n))).size⟩)
    (.slice (some ⟨A.next,0,none⟩) (k+n) (k+n)) (.slice (some ⟨w.heap.size,0,none⟩) (k+n) (grownCap w (k+n) eL e)):=by
  intro eL A0 HV hnx lo uz b6;have UM:=grownCap_ge w (k+n) eL e;constructor;have EE:jp m A0 w.drew:=HV.FK rfl;have ev:=jc.alloc EE (sf++mn) (lo.toArray++l'.toArray++Builtin.zeroCells z.cells (grownCap w (k+n) eL e-(k+n))) e i.size (λj v hv=>by
   obtain⟨v',h1,h2⟩:=(uz.append LS).bt hv;refine⟨v',?_,h2⟩;have cF:=(List.getElem?_eq_some_iff.1 h1).1;rw [Array.getElem?_append_left (by simpa using cF)]
   simpa using h1)
  rw [hnx] at ev;exact(jc.drew HV).trans ev;refine .slice (.inl ⟨rfl,rfl,⟨w.heap.size,0,i.size,(lo.toArray++l'.toArray++Builtin.zeroCells z.cells (grownCap w (k+n) eL e-(k+n))).size⟩,ay rfl,rfl,rfl,?_⟩) (Nat.le_refl _) UM;simp only [Array.size_append,List.size_toArray,size_zeroCells,b6,hl,nz,<-Nat.add_mul];rw [show k+n+(grownCap w (k+n) eL e-(k+n))=grownCap w (k+n) eL e by omega];omega
 unfold fQ at ho;split at ho
 .
  simp only [Option.some.injEq,Prod.mk.injEq] at ho;obtain⟨rfl,rfl,rfl⟩:=ho;cases Ka;have hr:=Hnil 0 rfl rfl;obtain⟨g1,g2⟩:=H8 0 A hs rfl [] gQ.nil (by simp);simp only [Nat.zero_add,af,Array.empty_append] at g1 g2 ⊢;exact⟨_,_,_,hr,g1,g2⟩
 . rename_i sa k0 c0;split at ho
   .
    rename_i LK;obtain⟨hx1,SN,hx3⟩:=LK;subst SN;subst hx3;simp only [Option.some.injEq,Prod.mk.injEq] at ho;obtain⟨rfl,rfl,rfl⟩:=ho;cases Ka with
    | slice hh h1 h2=>
      rename_i a' gY;have F3:gY=0:=by
       rcases hh with hh|hh;have h9:=hh.1;rw [h9] at hx1;cases hx1;exact hh.2.1
      subst F3;have hr:=Tu a' 0 0 [] rfl (by simp) (λj u h=>by simp at h) (by omega);obtain⟨g1,g2⟩:=H8 0 A hs rfl [] gQ.nil (by simp);simp only [Nat.zero_add,af,Array.empty_append] at g1 g2 hr ⊢;exact⟨_,_,_,hr,g1,g2⟩
   split at ho<;>try(cases ho;done)
   rename_i cs unit hg;split at ho<;>try(cases ho;done)
   rename_i yR;obtain⟨rfl,oH⟩:=yR;simp only [Option.some.injEq,Prod.mk.injEq] at ho;obtain⟨rfl,rfl,rfl⟩:=ho;cases Ka with
   | slice hh h1 h2=>
     rename_i a' gY;have cH:A.cD sa.block=some cs:=(by unfold AW.cD;rw [hg]);have holds:∃lo,lo.length=k0*i.size/\gQ m ((cs.drop sa.off).take (k0*i.size)) lo/\∀(j:Nat) (v:Value),lo[j]? = some v->w.cell? (a'.add j)=some v:=by
      rcases hh with hh|⟨rfl,_⟩;exact tt hs hh.KT cH (k0*i.size) oH;exact⟨[],by simp,by simp [gQ.nil],by simp⟩
     obtain⟨lo,UE,W8,W7⟩:=holds;by_cases B5:k0+n<=gY
     .
      have UK:ze m sa a' gY:=by
       rcases hh with hh|⟨_,hc0⟩;exact hh;omega
      obtain⟨yM,DM,p,hm,B6,hpo,hpt⟩:=UK;obtain⟨p',M5,ik,e',fr,hw,s7,hpu,wy,yQ⟩:=hs.C4 _ _ hg;rw [hm] at M5;simp only [Option.some.injEq] at M5;subst M5;obtain rfl:=s7 rfl;obtain⟨sb,so,ss⟩:=a';simp only at B6 hpo hpt DM;subst DM;have hfit2:so+k0*i.size+l'.length<=ik.size:=by
       rw [wy,hl,Nat.add_assoc,<-Nat.add_mul];have:=Nat.mul_le_mul_right i.size B5;rw [<-hpu] at hpt;omega
      have lp:w.heap[sb]? = some (.cells ik e' (0,0)):=(by rw [B6];exact hw);have hr:=Hroom sb so k0 gY ik e' lp B5 hfit2;have hcz:(ik.toList.take (so+k0*i.size)++l'++ik.toList.drop (so+k0*i.size+l'.length)).length=ik.size:=by
       simp only [List.length_append,List.length_take,List.length_drop,Array.length_toList];omega
      refine⟨_,_,m.ext A.next ⟨p.block,so,i.size,p.wU⟩,hr,?_,?_⟩
      refine jc.adopt hs (p':=⟨p.block,so,i.size,p.wU⟩) (e:=e') hg hm rfl rfl (by simp) rfl rfl rfl
       (Cu:=(ik.toList.take (so+k0*i.size)++l'++ik.toList.drop (so+k0*i.size+l'.length)).toArray) ?_ ?_ ?_ ?_
      rw [<-B6];exact setRow_heap w sb ik _ e' _ lp
      simpa [wy] using hcz
      intro j hj;exact setRow_other w sb j _ (by rw [B6];exact hj);intro j v hv;rw [List.getElem?_append] at hv;simp only [List.length_take,List.length_drop] at hv;have e1:min (k0*i.size) (cs.length-sa.off)=k0*i.size:=(by omega);rw [e1] at hv;by_cases hj:j<k0*i.size;rw [ay hj] at hv;obtain⟨h3,_⟩:=uT _ _ _ _ _ hv;obtain⟨v',h4,h5⟩:=yQ _ _ h3;refine⟨v',?_,h5⟩;have cF:=(Array.getElem?_eq_some_iff.1 h4).1;simp only [List.getElem?_toArray,List.append_assoc];rw [List.getElem?_append_left (by simp;omega),List.getElem?_take_of_lt (by omega),Array.getElem?_toList,hpo,Nat.add_assoc];exact h4;rw [ap hj] at hv;obtain⟨v',h4,h5⟩:=LS.bt hv;refine⟨v',?_,h5⟩;have cF:=(List.getElem?_eq_some_iff.1 h4).1;simp only [List.getElem?_toArray,List.append_assoc];have e2:(ik.toList.take (so+k0*i.size)).length=so+k0*i.size:=(by simp;omega);rw [List.getElem?_append_right (by omega),e2,List.getElem?_append_left (by omega)]
      rw [show so+j-(so+k0*i.size)=j-k0*i.size by omega];exact h4;refine .slice (.inl ⟨rfl,rfl,⟨p.block,so,i.size,p.wU⟩,by simp [Mp.ext],B6,rfl,?_⟩) (Nat.le_refl _) B5
      simpa [hpu] using hpt
     .
      have hr:=Tu a' k0 gY lo rfl UE W7 (by omega);have ek:=jc.JQ hs sa.block;obtain⟨g1,g2⟩:=H8 gY (A.set sa.block none) ek.C2 rfl lo W8 UE;exact⟨_,_,_,hr,ek.trans g1,g2⟩
 cases ho
theorem Gm {P:Program} {m:Mp} {A A1:AW} {w:World} (hs:jp m A w) {t u ty:TypeId} {s x s' x' v:Value} (h:eK P A t u s x=some (v,A1))
 (Ka:bu m s s') (hvx:bu m x x') :
 ∃v' w' m',(Builtin.append_ #[t,u] ty #[s',x']).run P w=.ok v' w'/\jc m A w m' A1 w'/\bu m' v v':=by
 unfold eK at h;split at h<;>try(cases h;done)
 rename_i e hu;split at h<;>try(cases h;done)
 rename_i i hi;split at h<;>try(cases h;done)
 rename_i z hz;split at h<;>try(cases h;done)
 rename_i xK;obtain⟨nz,td,rfl⟩:=xK;split at h<;>try(cases h;done)
 rename_i n mn base k sf hn ho;have iN:=Gp hs hn hvx;by_cases C6:n=0
 .
  subst C6;rw [ay rfl] at h;simp only [Option.some.injEq,Prod.mk.injEq] at h;obtain⟨rfl,rfl⟩:=h;have LK:∃xb xc,x'=.slice xb 0 xc:=by
   rcases iN with ⟨_,h1⟩|⟨a,c,l',h1,_⟩;exact h1;exact⟨_,_,h1⟩
  obtain⟨xb,xc,rfl⟩:=LK;have HV:∃b' n' c',s'=.slice b' n' c'/\n'<=c':=by
   unfold fQ at ho;split at ho;cases Ka;exact⟨_,_,_,rfl,Nat.le_refl _⟩
   . cases Ka with
     | slice _ h1 h2=>exact⟨_,_,_,rfl,Nat.le_trans h1 h2⟩
   cases ho
  obtain⟨b',n',c',rfl,fo⟩:=HV;exact⟨_,w,m,Ag w t ty e i hu hi b' n' c' fo xb xc,jc.refl hs,Ka⟩
 rw [ap C6] at h;split at h
 case isFalse=>cases h
 rename_i hb;obtain⟨N5,ks,uD⟩:=hb;simp only [Option.some.injEq,Prod.mk.injEq] at h;obtain⟨rfl,rfl⟩:=h;rcases iN with ⟨h0,_⟩|⟨a,c,l',rfl,hl,LS,PC⟩;exact absurd h0 C6;have mS:∀v∈mn,v.oneCell'=true:=by simpa using uD
 have SX:=LS.aY mS
 refine zQ hs (e:=e) (i:=i) (z:=z) nz C6 N5 ks mS hl LS ho Ka
  (λ_ _ hk=>run_append_nil (P:=P) w t ty e i z hu hi hz a n c l' hl PC (by omega) (by omega) (by subst hk;simp only [Nat.zero_add] at ks;omega))
  (λb iv m7 lo hk h1 h2 h3=>run_append_grow (P:=P) w t ty e i z hu hi hz b iv m7 lo h1 h2 a n c l' hl PC h3 (by omega) (growslice_fits h3 (by subst hk;exact ks)))
  (λg o iv m7 ik e' h1 h2 h3=>vQ (P:=P) w t ty e i hu hi g o iv m7 ik e' h1 a n c l' hl PC SX h2 h3)
end Go.Stx
namespace Go.Stx
open Go
variable [Gl]
def Ao (op:BinOp) (k:IntKind) (x y:Int):Option Value:=
 match op with
 | .add=>some (.int k (k.wrap (x+y)))
 | .sub=>some (.int k (k.wrap (x-y)))
 | .mul=>some (.int k (k.wrap (x*y)))
 | .quo=>if y=0 then none else some (.int k (k.wrap (x.tdiv y)))
 | .rem=>if y=0 then none else some (.int k (x.tmod y))
 | .eql=>some (.bool (decide (x=y)))
 | .neq=>some (.bool (!decide (x=y)))
 | .lss=>some (.bool (decide (x<y)))
 | .leq=>some (.bool (decide (x<=y)))
 | .gtr=>some (.bool (decide (y<x)))
 | .geq=>some (.bool (decide (y<=x)))
 | .and=>some (.int k (k.wrap (BitVec.ofInt k.bits x &&& BitVec.ofInt k.bits y).toNat))
 | .or=>some (.int k (k.wrap (BitVec.ofInt k.bits x ||| BitVec.ofInt k.bits y).toNat))
 | .xor=>some (.int k (k.wrap (BitVec.ofInt k.bits x ^^^ BitVec.ofInt k.bits y).toNat))
 | .andNot=>some (.int k (k.wrap (BitVec.ofInt k.bits x &&& ~~~BitVec.ofInt k.bits y).toNat))
 | _=>none
def nh (op:BinOp) (k:IntKind) (x y:Int):Option Value:=
 if y<0 then none else
 match op with
 | .shl=>some (.int k (k.wrap (x*2 ^ (min y.toNat k.bits))))
 | .shr=>some (.int k (x.fdiv (2 ^ (min y.toNat k.bits))))
 | _=>none
def FU:BinOp->Bool
 | .shl | .shr=>true
 | _=>false
def Sn (P:Program) (op:BinOp) (t:TypeId) (x y:Value):Option Value:=
 match x,y with
 | .int k a,.int k' b=>if FU op then nh op k a b else if k=k' then Ao op k a b else none
 | .string a,.string b=>
   match op with
   | .eql=>some (.bool (a.toList == b.toList))
   | .neq=>some (.bool (!(a.toList == b.toList)))
   | .add=>if a.size+b.size<=9223372036854775807 then some (.string (a++b)) else none
   | _=>none
 | .bool a,.bool b=>
   match op,P.underlying t with
   | .eql,some .bool=>some (.bool (a == b))
   | .neq,some .bool=>some (.bool (!(a == b)))
   | _,_=>none
 | .pointer a,.pointer b=>
   if a.isSome && b.isSome then none else
   match op,P.underlying t with
   | .eql,some (.pointer _)=>some (.bool (a.isNone && b.isNone))
   | .neq,some (.pointer _)=>some (.bool (!(a.isNone && b.isNone)))
   | _,_=>none
 | _,_=>none
theorem Oz {P:Program} {op:BinOp} {k:IntKind} {a b:Int} {t:TypeId} {v:Value} (h0:FU op=false) (h:Ao op k a b=some v) (w:World) :
 (binOp op t (.int k a) (.int k b)).run P w=.ok v w:=by
 cases op
 case add=>injection h with h;subst h;simp [binOp,Op.intArith]
 case sub=>injection h with h;subst h;simp [binOp,Op.intArith]
 case mul=>injection h with h;subst h;simp [binOp,Op.intArith]
 case quo=>
  by_cases hb:b=0;simp [Ao,hb] at h;simp [Ao,hb] at h;subst h;simp [binOp,Op.intDiv,hb]
 case rem=>
  by_cases hb:b=0;simp [Ao,hb] at h;simp [Ao,hb] at h;subst h;simp [binOp,Op.intDiv,hb]
 case and=>injection h with h;subst h;simp [binOp,Op.intBits]
 case or=>injection h with h;subst h;simp [binOp,Op.intBits]
 case xor=>injection h with h;subst h;simp [binOp,Op.intBits]
 case andNot=>injection h with h;subst h;simp [binOp,Op.intBits]
 case shl=>cases h0
 case shr=>cases h0
 case eql=>injection h with h;subst h;simp [binOp,Op.intCmp];rfl
 case neq=>injection h with h;subst h;simp [binOp,Op.intCmp];rfl
 case lss=>injection h with h;subst h;simp [binOp,Op.intCmp]
 case leq=>injection h with h;subst h;simp [binOp,Op.intCmp]
 case gtr=>injection h with h;subst h;simp [binOp,Op.intCmp]
 case geq=>injection h with h;subst h;simp [binOp,Op.intCmp]
theorem Jk {P:Program} {op:BinOp} {k k':IntKind} {a b:Int} {t:TypeId} {v:Value} (h:nh op k a b=some v) (w:World) :
 (binOp op t (.int k a) (.int k' b)).run P w=.ok v w:=by
 by_cases hb:b<0;simp [nh,hb] at h;cases op
 case shl=>simp [nh,hb] at h;subst h;simp [binOp,Op.shift,hb]
 case shr=>simp [nh,hb] at h;subst h;simp [binOp,Op.shift,hb]
 all_goals simp [nh] at h
theorem IK {op:BinOp} {k:IntKind} {a b:Int} {v:Value} (h:Ao op k a b=some v) (m:Mp):bu m v v:=by
 cases op
 case quo=>
  by_cases hb:b=0;simp [Ao,hb] at h;simp [Ao,hb] at h;subst h;constructor
 case rem=>
  by_cases hb:b=0;simp [Ao,hb] at h;simp [Ao,hb] at h;subst h;constructor
 case shl=>cases h
 case shr=>cases h
 all_goals(injection h with h;subst h;constructor)
theorem DW {op:BinOp} {k:IntKind} {a b:Int} {v:Value} (h:nh op k a b=some v) (m:Mp):bu m v v:=by
 by_cases hb:b<0;simp [nh,hb] at h;cases op
 case shl=>simp [nh,hb] at h;subst h;constructor
 case shr=>simp [nh,hb] at h;subst h;constructor
 all_goals simp [nh] at h
theorem rt {P:Program} {t:TypeId} (d:Nat) (a b:Bool) (hu:P.underlying t=some .bool) (w:World) :
 (Op.equalIn (d+1) t (.bool a) (.bool b)).run P w=.ok (a == b) w:=by
 simp [Op.equalIn,run_underlying hu]
theorem iT {P:Program} {t e:TypeId} (d:Nat) (b:Option Addr) (hu:P.underlying t=some (.pointer e)) (w:World) :
 (Op.equalIn (d+1) t (.pointer none) (.pointer b)).run P w=.ok b.isNone w:=by
 simp [Op.equalIn,run_underlying hu]
theorem nq {P:Program} {t e:TypeId} (d:Nat) (a:Addr) (hu:P.underlying t=some (.pointer e)) (w:World) :
 (Op.equalIn (d+1) t (.pointer (some a)) (.pointer none)).run P w=.ok false w:=by
 simp [Op.equalIn,run_underlying hu]
theorem fq {P:Program} {t:TypeId} {x y:Value} {r:Bool} {w:World} (h:(Op.equalIn (9999+1) t x y).run P w=.ok r w):(Op.equal t x y).run P w=.ok r w:=h
theorem Af {P:Program} (op:BinOp) (t:TypeId) (xo yo:Operand) (k k':IntKind) (a b:Int) (w:World) :
 (eqGuard op t xo yo (.int k a) (.int k' b)).run P w=.ok () w:=by
 cases op<;>simp [eqGuard]
theorem K8 {P:Program} {op:BinOp} {t:TypeId} {x y v:Value} (h:Sn P op t x y=some v) {m:Mp} {x' y':Value} (hx:bu m x x') (hy:bu m y y') (xo yo:Operand) (w:World) :
 (do eqGuard op t xo yo x' y';binOp op t x' y':Sem Value).run P w=.ok v w/\bu m v v:=by
 unfold Sn at h;split at h
 .
  cases hx;cases hy;rw [Sem.run_bind,Af,Result.andThen_ok];split at h;exact⟨Jk h w,DW h m⟩;rename_i hs;split at h;rename_i hk;subst hk;exact⟨Oz (by simpa using hs) h w,IK h m⟩;cases h
 .
  cases hx;cases hy;cases op
  case eql=>injection h with h;subst h;exact⟨by simp [eqGuard,binOp,Op.stringOp],by constructor⟩
  case neq=>injection h with h;subst h;exact⟨by simp [eqGuard,binOp,Op.stringOp],by constructor⟩
  case add=>
   rename_i a b;replace h:(if a.size+b.size<=9223372036854775807 then some (Value.string (a++b)) else none)=some v:=h;by_cases fo:a.size+b.size<=9223372036854775807;rw [ay fo] at h;injection h with h;subst h;refine⟨?_,by constructor⟩;have:¬(((a.size+b.size:Nat):Int)>IntKind.i64.max):=by
    have e:IntKind.i64.max=9223372036854775807:=rfl;rw [e];omega
   simp only [eqGuard,binOp,Op.stringOp,ap this];rfl;rw [ap fo] at h;cases h
  all_goals cases h
 .
  cases hx;cases hy;split at h;rename_i hu;injection h with h;subst h;exact⟨by simp [eqGuard,binOp,fq (rt _ _ _ hu w)],by constructor⟩
  rename_i hu;injection h with h;subst h;exact⟨by simp [eqGuard,binOp,fq (rt _ _ _ hu w)],by constructor⟩
  cases h
 .
  rename_i a b;cases a with
  | none=>
    cases hx;cases b with
    | none=>
      cases hy;simp only [Option.isSome_none,Bool.false_eq_true,if_false,Bool.and_self] at h;split at h;rename_i hu;injection h with h;subst h;exact⟨by simp [eqGuard,binOp,fq (iT _ _ hu w)],by constructor⟩
      rename_i hu;injection h with h;subst h;exact⟨by simp [eqGuard,binOp,fq (iT _ _ hu w)],by constructor⟩
      cases h
    | some b=>
      cases hy;simp only [Option.isSome_none,Bool.false_and,Bool.false_eq_true,if_false] at h;split at h;rename_i hu;injection h with h;subst h;exact⟨by simp [eqGuard,binOp,fq (iT _ _ hu w)],by constructor⟩
      rename_i hu;injection h with h;subst h;exact⟨by simp [eqGuard,binOp,fq (iT _ _ hu w)],by constructor⟩
      cases h
  | some a=>
    cases b with
    | some b=>simp at h
    | none=>
      cases hx;cases hy;simp only [Option.isSome_none,Bool.and_false,Bool.false_eq_true,if_false] at h;split at h;rename_i hu;injection h with h;subst h;exact⟨by simp [eqGuard,binOp,fq (nq _ _ hu w)],by constructor⟩
      rename_i hu;injection h with h;subst h;exact⟨by simp [eqGuard,binOp,fq (nq _ _ hu w)],by constructor⟩
      cases h
 cases h
def aun (op:UnOp) (x:Value):Option Value:=
 match op,x with
 | .not,.bool b=>some (.bool !b)
 | .neg,.int k n=>some (.int k (k.wrap (0-n)))
 | .xor,.int k n=>some (.int k (k.wrap (BitVec.ofInt k.bits (if k.signed then -1 else k.max) ^^^ BitVec.ofInt k.bits n).toNat))
 | _,_=>none
theorem ET {P:Program} {op:UnOp} {x v:Value} (h:aun op x=some v) {m:Mp} {x':Value} (hx:bu m x x') (w:World) :
 (Op.unary op x').run P w=.ok v w/\bu m v v:=by
 unfold aun at h;split at h;injection h with h;subst h;cases hx;exact⟨by simp [Op.unary],by constructor⟩;injection h with h;subst h;cases hx;exact⟨by simp [Op.unary,Op.intArith],by constructor⟩;injection h with h;subst h;cases hx;exact⟨by simp [Op.unary,Op.intBits],by constructor⟩;cases h
def Ma (P:Program) (QA dst:TypeId) (x:Value):Option Value:=
 match P.underlying QA,P.underlying dst,x with
 | some _,some (.int k),.int _ n=>some (.int k (k.wrap n))
 | some _,some .string,.string s=>some (.string s)
 | _,_,_=>none
theorem zU {P:Program} {QA dst:TypeId} {x v:Value} (h:Ma P QA dst x=some v) {m:Mp} {x':Value} (hx:bu m x x') (w:World) :
 (convert QA dst x').run P w=.ok v w/\bu m v v:=by
 unfold Ma at h;split at h;rename_i h1 h2;injection h with h;subst h;cases hx;exact⟨by simp [convert,run_underlying h1,run_underlying h2,Conv.intToInt],by constructor⟩
 rename_i h1 h2;injection h with h;subst h;cases hx;exact⟨by simp [convert,run_underlying h1,run_underlying h2],by constructor⟩
 cases h
end Go.Stx
namespace Go.Stx
open Go
variable [Gl]
def BZ (P:Program) (t:TypeId):Option Bool:=
 match P.underlying t with
 | some (.struct _)=>some true
 | some (.array _ _)=>some true
 | some _=>some false
 | none=>none
theorem nT {P:Program} {t:TypeId} {b:Bool} (h:BZ P t=some b) (w:World):(isAgg t).run P w=.ok b w:=by
 unfold BZ at h;cases hu:P.underlying t with
 | none=>simp [hu] at h
 | some d=>
   rw [hu] at h;simp only [isAgg,Sem.run_bind,run_underlying hu,Result.andThen_ok];cases d<;>simp only [Option.some.injEq] at h<;>subst h<;>rfl
theorem fa {P:Program} {t:TypeId} {i:TypeInfo} (h:P.info? t=some i) (w:World):(sizeOf t).run P w=.ok i.size w:=by
 simp [sizeOf,typeInfo,h]
def i9 (P:Program) (A:AW) (t:TypeId) (p:Addr):Option Value:=
 match A.cD p.block,BZ P t with
 | some cs,some false=>cs[p.off]?
 | some cs,some true=>
   match P.info? t with
   | some i=>if p.off+i.size<=cs.length then some (.agg ((cs.drop p.off).take i.size).toArray) else none
   | none=>none
 | _,_=>none
theorem bu.pq {m:Mp} {l l':List Value} (h:gQ m l l'):bu m (.agg l.toArray) (.agg l'.toArray):=
 .agg (by simpa using h.1) λi v v' a b=>h.2 i v v' (by simpa using a) (by simpa using b)
theorem IJ {P:Program} {m:Mp} {A:AW} {w:World} (hs:jp m A w) {t:TypeId} {p p':Addr} {v:Value} (h:i9 P A t p=some v) (hp:m6 m p p') :
 ∃v',(loadVar t p').run P w=.ok v' w/\bu m v v':=by
 unfold i9 at h;split at h;rename_i cs hr ha;obtain⟨v',h1,h2⟩:=Pb (P:=P) hs hp hr h;exact⟨v',by simp only [loadVar,Sem.run_bind,nT ha,Result.andThen_ok,Bool.false_eq_true,if_false,h1],h2⟩;rename_i cs hr ha;split at h;rename_i i hi;split at h;rename_i fo;injection h with h;subst h;obtain⟨l',h1,h2⟩:=DI (P:=P) hs hp hr i.size fo;refine⟨.agg l'.toArray,?_,.pq h2⟩;simp only [loadVar,Sem.run_bind,nT ha,Result.andThen_ok,if_true,fa hi,h1,Sem.run_pure];cases h;cases h;cases h
def aD (P:Program) (A:AW) (t:TypeId) (p:Addr) (v:Value):Option AW:=
 match A.bt p.block,P.info? t with
 | some (.cells cs true unit),some i=>
   if v.cells.size=i.size/\p.off+i.size<=cs.length/\v.cells.toList.all Value.oneCell' then
    some (A.set p.block (some (.cells (eD cs p.off v.cells.toList) true unit)))
   else none
 | _,_=>none
theorem Gj {P:Program} {m:Mp} {A A1:AW} {w:World} (hs:jp m A w) {t:TypeId} {p p':Addr} {v v':Value} (h:aD P A t p v=some A1) (hp:m6 m p p') (hv:bu m v v') :
 ∃w',(storeVar t p' v').run P w=.ok () w'/\jc m A w m A1 w':=by
 unfold aD at h;split at h;rename_i cs unit i hg hi;split at h;rename_i hc;obtain⟨h1,h2,h3⟩:=hc;injection h with h;subst h;obtain⟨yM,DM,q,hm,hb,ho⟩:=hp;have iR:=hv.cells;obtain⟨w',hr,ev⟩:=lx (P:=P) (o:=p.off) hm v.cells.toList v'.cells.toList 0 cs A w hs hg iR (λx hx=>List.all_eq_true.1 h3 x hx) (by simp;omega);refine⟨w',?_,by simpa using ev⟩;have td:v'.cells.size=i.size:=by have:=iR.1;simp at this;omega
 have ea:p'=⟨q.block,q.base+p.off,none⟩:=by rw [ue p' DM,hb,ho]
 subst ea;simp only [storeVar,Sem.run_bind,fa hi,Result.andThen_ok,td,ne_eq,not_true_eq_false,if_false,hr];cases h;cases h
theorem sr {P:Program} {m:Mp} {A:AW} {w:World} (hs:jp m A w) (e:TypeId) (unit:Nat) {l:List Value} {ik:Array Value} (hl:gQ m l ik.toList) :
 ∃w' m',(newRow e ik).run P w=.ok ⟨w.heap.size,0,none⟩ w'/\jc m A w m' (A.alloc (.cells l true unit)) w'/\m'=m.ext A.next ⟨w.heap.size,0,unit,ik.size⟩:=by
 refine⟨w.alloc (.cells ik e),_,?_,jc.alloc hs l ik e unit (λk v hv=>?_),rfl⟩;simp only [newRow,Sem.run_bind,run_newObj,Result.andThen_ok,Sem.run_pure];rfl;obtain⟨v',h1,h2⟩:=hl.bt hv;exact⟨v',by simpa using h1,h2⟩
def Qs (A:AW) (v:Value):Value×AW:=(.pointer (some ⟨A.next,0,none⟩),A.alloc (.cells v.cells.toList true 1))
theorem CX {P:Program} {m:Mp} {A:AW} {w:World} (hs:jp m A w) (e:TypeId) {v v':Value} (hv:bu m v v') :
 ∃p' w' m',(Instr.box e v').run P w=.ok p' w'/\jc m A w m' (Qs A v).2 w'/\bu m' (Qs A v).1 p':=by
 obtain⟨w',m',h1,h2,h3⟩:=sr (P:=P) hs e 1 hv.cells;refine⟨.pointer (some ⟨w.heap.size,0,none⟩),w',m',?_,h2,?_⟩;simp only [Instr.box,newVar,Sem.run_bind,h1,Result.andThen_ok,Sem.run_pure];rw [h3];exact .Hn (m6.kD m A.next ⟨w.heap.size,0,1,_⟩ 0)
def sJ (P:Program) (s:TypeId) (x:Value) (f:Nat):Option Value:=
 match P.underlying s,x with
 | some (.struct fs),.pointer (some p)=>
   match fs[f]? with
   | some fd=>
     match P.info? fd.type with
     | some i=>if i.size=0 then none else some (.pointer (some ⟨p.block,p.off+fd.offset,none⟩))
     | none=>none
   | none=>none
 | _,_=>none
theorem m6.T1 {m:Mp} {a a':Addr} (h:m6 m a a') (n:Nat):m6 m ⟨a.block,a.off+n,none⟩ (a'.add n):=by
 obtain⟨h1,h2,p,h3,h4,h5⟩:=h;rw [mX _ _ h2];exact⟨rfl,rfl,p,h3,h4,by simp only [h5,Nat.add_assoc]⟩
theorem zb {P:Program} {m:Mp} {s:TypeId} {x x' v:Value} {f:Nat} (h:sJ P s x f=some v) (hx:bu m x x') :
 ∃v',bu m v v'/\∀w,(Instr.fieldAt s x' f).run P w=.ok v' w:=by
 unfold sJ at h;split at h
 . rename_i fs p hu;cases hx with
   | Hn ha=>
     rename_i p';split at h;rename_i fd hf;split at h;rename_i i hi;split at h;cases h;rename_i h0;injection h with h;subst h;refine⟨.pointer (some (p'.add fd.offset)),.Hn (ha.T1 _),λw=>?_⟩;simp [Instr.fieldAt,run_underlying hu,hf,Instr.sureAddr,fieldPlace,fa hi,h0];cases h;cases h
 cases h
def apart (P:Program) (t:TypeId) (cs:Array Value) (off:Nat):Option Value:=
 match BZ P t with
 | some false=>cs[off]?
 | some true=>
   match P.info? t with
   | some i=>some (.agg (cs.extract off (off+i.size)))
   | none=>none
 | none=>none
theorem j4 {P:Program} {m:Mp} {t:TypeId} {cs oV:Array Value} {off:Nat} {v:Value} (h:apart P t cs off=some v) (hc:bu m (.agg cs) (.agg oV)) :
 ∃v',bu m v v'/\∀w,(part t oV off).run P w=.ok v' w:=by
 cases hc with
 | agg hx h1=>
   unfold apart at h;split at h;rename_i ha;have cF:off<oV.size:=(by rw [<-hx];exact(Array.getElem?_eq_some_iff.1 h).1);have e:=Array.getElem?_eq_getElem cF;refine⟨oV[off],h1 off v _ h e,λw=>?_⟩;simp only [part,Sem.run_bind,nT ha,Result.andThen_ok,Bool.false_eq_true,if_false];rw [e];rfl;rename_i ha;split at h;rename_i i hi;injection h with h;subst h;refine⟨.agg (oV.extract off (off+i.size)),.agg (by simp [hx]) ?_,λw=>?_⟩;intro j v v' h2 h3;rw [Array.getElem?_extract] at h2 h3;split at h2;rename_i hj;rw [ay (by rw [<-hx];exact hj)] at h3;exact h1 _ v v' h2 h3;cases h2;simp only [part,Sem.run_bind,nT ha,Result.andThen_ok,if_true,fa hi,Sem.run_pure];cases h;cases h
def Gu (P:Program) (t:TypeId) (x:Value) (f:Nat):Option Value:=
 match P.underlying t,x with
 | some (.struct fs),.agg cs=>
   match fs[f]? with
   | some fd=>apart P fd.type cs fd.offset
   | none=>none
 | _,_=>none
theorem Gt {P:Program} {m:Mp} {t:TypeId} {x x' v:Value} {f:Nat} (h:Gu P t x f=some v) (hx:bu m x x') :
 ∃v',bu m v v'/\∀w,(Instr.field t x' f).run P w=.ok v' w:=by
 unfold Gu at h;split at h;rename_i fs cs hu;split at h
 . rename_i fd hf;have LK:=hx;cases hx with
   | agg td h1=>
     obtain⟨v',h3,h2⟩:=j4 (P:=P) h LK;refine⟨v',h3,λw=>?_⟩;simp only [Instr.field,Sem.run_bind,run_underlying hu,Result.andThen_ok,hf,asAgg,Sem.run_pure,h2]
 cases h;cases h
def sH (P:Program) (t:TypeId) (x ix:Value):Option Value:=
 match P.underlying t,x,ix with
 | some (.slice e),.slice (some p) len _,.int _ n=>
   match P.info? e with
   | some i=>if 0<=n/\n<len then some (.pointer (some ⟨p.block,p.off+n.toNat*i.size,none⟩)) else none
   | none=>none
 | some (.array len e),.pointer (some p),.int _ n=>
   match P.info? e with
   | some i=>if 0<=n/\n<len then some (.pointer (some ⟨p.block,p.off+n.toNat*i.size,none⟩)) else none
   | none=>none
 | _,_,_=>none
theorem za {P:Program} {m:Mp} {t:TypeId} {x x' y y' v:Value} (h:sH P t x y=some v) (hx:bu m x x') (hy:bu m y y') :
 ∃v',bu m v v'/\∀w,(Instr.indexAt t x' y').run P w=.ok v' w:=by
 unfold sH at h;split at h;rename_i e p len ee k n hu;cases hy;split at h;rename_i i hi;split at h
 . rename_i hb;injection h with h;subst h;cases hx with
   | slice hh h1 h2=>
     rename_i p' gY;have ha:m6 m p p':=by
      rcases hh with hh|hh;exact hh.KT;omega
     refine⟨.pointer (some (p'.add (n.toNat*i.size))),.Hn (ha.T1 _),λw=>?_⟩;simp [Instr.indexAt,run_underlying hu,asIntOf,fa hi,hb.1,hb.2]
 cases h;cases h;rename_i len e p k n hu;cases hy;split at h;rename_i i hi;split at h
 . rename_i hb;injection h with h;subst h;cases hx with
   | Hn ha=>
     rename_i p';refine⟨.pointer (some (p'.add (n.toNat*i.size))),.Hn (ha.T1 _),λw=>?_⟩;simp [Instr.indexAt,run_underlying hu,asIntOf,fa hi,hb.1,hb.2,Instr.sureAddr]
 cases h;cases h;cases h
def Gs (P:Program) (t:TypeId) (x ix:Value):Option Value:=
 match P.underlying t,x,ix with
 | some (.array len e),.agg cs,.int _ n=>
   match P.info? e with
   | some i=>if 0<=n/\n<len then apart P e cs (n.toNat*i.size) else none
   | none=>none
 | some .string,.string s,.int _ n=>
   if 0<=n then
    match s[n.toNat]? with
    | some b=>some (.int .u8 b.toNat)
    | none=>none
   else none
 | _,_,_=>none
theorem Gr {P:Program} {m:Mp} {t:TypeId} {x x' y y' v:Value} (h:Gs P t x y=some v) (hx:bu m x x') (hy:bu m y y') :
 ∃v',bu m v v'/\∀w,(Instr.index t x' y').run P w=.ok v' w:=by
 unfold Gs at h;split at h;rename_i len e cs k n hu;cases hy;split at h;rename_i i hi;split at h
 . rename_i hb;have LK:=hx;cases hx with
   | agg td h1=>
     obtain⟨v',h3,h2⟩:=j4 (P:=P) h LK;exact⟨v',h3,λw=>by simp [Instr.index,run_underlying hu,asIntOf,fa hi,hb.1,hb.2,h2]⟩
 cases h;cases h;rename_i s k n hu;cases hx;cases hy;split at h;rename_i h0;split at h;rename_i b hb;injection h with h;subst h;exact⟨.int .u8 b.toNat,by constructor,λw=>by simp [Instr.index,run_underlying hu,asIntOf,h0,hb]⟩;cases h;cases h;cases h
def oS (v:Option Value) (d me:Nat):Option Nat:=
 match v with
 | none=>some d
 | some (.int _ n)=>if 0<=n/\n<=me then some n.toNat else none
 | some _=>none
def eo (P:Program) (A:AW) (e:TypeId) (p:Addr) (l:Nat):Option Addr:=
 if l=0 then some p else
 match P.info? e,A.bt p.block with
 | some i,some (.cells _ _ unit)=>if unit=i.size then some ⟨p.block,p.off+l*i.size,none⟩ else none
 | _,_=>none
def wJ (P:Program) (A:AW) (t:TypeId) (x:Value) (lo hi mx:Option Value):Option Value:=
 match P.underlying t,x,mx with
 | some (.slice e),.slice a len ee,none=>
   match oS hi len ee with
   | some h=>
     match oS lo 0 h with
     | some l=>
       match P.info? e,a with
       | some _,none=>some (.slice none (h-l) (ee-l))
       | some _,some p=>
         match eo P A e p l with
         | some q=>some (.slice (some q) (h-l) (ee-l))
         | none=>none
       | none,_=>none
     | none=>none
   | none=>none
 | some .string,.string s,none=>
   match oS hi s.size s.size with
   | some h=>
     match oS lo 0 h with
     | some l=>some (.string (s.extract l h))
     | none=>none
   | none=>none
 | _,_,_=>none
end Go.Stx
namespace Go.Stx
open Go
variable [Gl]
def uQ (m:Mp):Option Value->Option Value->Prop
 | none,none=>True
 | some v,some v'=>bu m v v'
 | _,_=>False
theorem iW {P:Program} {w:World} {k:IntKind} {n:Int} {y:Nat} {av:BoundsCode} (h0:0<=n) (h1:n<=y) :
 (Instr.sliceBound (.int k n) y av).run P w=.ok n.toNat w:=by
 simp [Instr.sliceBound,asIntOf,h0,h1]
theorem zY {m:Mp} {v v':Option Value} {d me h:Nat} (hb:oS v d me=some h) (hv:uQ m v v') :
 (v'=none/\h=d)\/∃k n,v'=some (.int k n)/\0<=n/\n<=me/\h=n.toNat:=by
 unfold oS at hb;split at hb
 . injection hb with hb;cases v' with
   | none=>exact .inl ⟨rfl,hb.symm⟩
   | some _=>exact hv.elim
 rename_i k n;split at hb
 . rename_i hc;injection hb with hb;cases v' with
   | none=>exact hv.elim
   | some _=>cases hv;exact .inr ⟨k,n,rfl,hc.1,hc.2,hb.symm⟩
 cases hb;cases hb
theorem m8 {P:Program} {m:Mp} {lo hi Rn yl:Option Value} {len ee gY h l:Nat} (isS:Bool) (hh:oS hi len ee=some h) (hl:oS lo 0 h=some l)
 (hc:ee<=gY) (uz:uQ m lo Rn) (S4:uQ m hi yl) (w:World):(Instr.sliceBounds isS len gY Rn yl none).run P w=.ok (l,h,gY) w:=by
 rcases zY hh S4 with ⟨rfl,rfl⟩|⟨k,n,rfl,h0,h1,rfl⟩<;>rcases zY hl uz with ⟨rfl,rfl⟩|⟨k',n',rfl,QO,U1,rfl⟩;simp [Instr.sliceBounds];simp [Instr.sliceBounds,iW QO U1];have h2:n<=(gY:Int):=by omega
 simp [Instr.sliceBounds,iW h0 h2];have h2:n<=(gY:Int):=by omega
 simp [Instr.sliceBounds,iW h0 h2,iW QO U1]
theorem EW {v:Option Value} {d me h:Nat} (hb:oS v d me=some h):h=d\/h<=me:=by
 unfold oS at hb;split at hb;injection hb with hb;exact .inl hb.symm;split at hb;rename_i hc;injection hb with hb;exact .inr (by omega)
 cases hb;cases hb
theorem Gk {P:Program} {m:Mp} {A:AW} {w:World} (hs:jp m A w) {t:TypeId} {x x' v:Value} {lo hi mx Rn yl SI:Option Value} (h:wJ P A t x lo hi mx=some v)
 (hx:bu m x x') (uz:uQ m lo Rn) (S4:uQ m hi yl) (hmx:uQ m mx SI):∃v',bu m v v'/\∀w',(Instr.sliceAt t x' Rn yl SI).run P w'=.ok v' w':=by
 unfold wJ at h;split at h
 . rename_i e a len ee hu;cases SI with
   | some _=>exact hmx.elim
   | none=>
   split at h
   . rename_i hh ehi;split at h
     . rename_i l elo;have hlh:l=0\/l<=hh:=EW elo;have hhc:hh=len\/hh<=ee:=EW ehi;split at h;rename_i i hi;injection h with h;subst h;cases hx;have hr:=m8 (P:=P) (m:=m) true ehi elo (Nat.le_refl 0) uz S4;have h1:hh=0:=(by omega);have h2:l=0:=(by omega);subst h1;subst h2;refine⟨.slice none 0 0,.kZ,λw'=>?_⟩;simp [Instr.sliceAt,Instr.slice,run_underlying hu,hr,fa hi]
       . rename_i i p hi;split at h
         . rename_i q hq;injection h with h;subst h;cases hx with
           | slice wO h1 h2=>
             rename_i p' gY;have hr:=m8 (P:=P) (m:=m) true ehi elo h2 uz S4;refine⟨.slice (some (if gY=l then p' else p'.add (l*i.size))) (hh-l) (gY-l),?_,λw'=>?_⟩
             rotate_left
             simp only [Instr.sliceAt,Sem.run_bind,run_underlying hu,Result.andThen_ok,Instr.slice,hr,fa hi,Sem.run_pure,Option.map_some];split<;>rfl;refine .slice ?_ (by omega) (by omega);by_cases iR:gY=l;refine .inr ⟨by omega,by omega,?_⟩;unfold eo at hq;split at hq;injection hq with hq;subst hq;rcases wO with ⟨_,_,pl,g3,_⟩|⟨_,_,g⟩;exact .inr (by rw [g3];exact Option.some_ne_none _);exact g;split at hq;rename_i hg;split at hq;injection hq with hq;subst hq;obtain⟨pl,g7,_⟩:=hs.C4 _ _ hg;exact .inr (by simp only;rw [g7];exact Option.some_ne_none _);cases hq;cases hq;rw [ap iR];have hsr':ze m p p' gY:=by
              rcases wO with wO|wO;exact wO;omega
             obtain⟨g1,g2,pl,g3,g4,g5,g6⟩:=hsr';unfold eo at hq;split at hq;rename_i QH;subst QH;injection hq with hq;subst hq;rw [Nat.zero_mul,show p'.add 0=p' by unfold Addr.add;simp];exact .inl ⟨g1,g2,pl,g3,g4,g5,by simpa using g6⟩;rename_i QH;split at hq;rename_i i' cs own unit yl hg;rw [hi] at yl;injection yl with yl;subst yl;split at hq;rename_i VS;injection hq with hq;subst hq;obtain⟨pl',g7,ik,e',fr,g8,_,g9,_⟩:=hs.C4 _ _ hg;rw [g3] at g7;injection g7 with g7;subst g7;rw [mX _ _ g2];refine .inl ⟨rfl,rfl,pl,g3,g4,by simp only [g5,Nat.add_assoc],?_⟩;rw [<-g9,VS] at g6 ⊢;simp only;have:l*i.size+(gY-l)*i.size=gY*i.size:=by
              rw [<-Nat.add_mul];congr 1;omega
             omega;cases hq;cases hq
         cases h
       cases h
     cases h
   cases h
 . rename_i s hu;cases SI with
   | some _=>exact hmx.elim
   | none=>
   cases hx;split at h;rename_i hh ehi;split at h;rename_i l elo;injection h with h;subst h;have hr:=m8 (P:=P) (m:=m) false ehi elo (Nat.le_refl _) uz S4;refine⟨.string (s.extract l hh),.string _,λw'=>?_⟩;simp [Instr.sliceAt,Instr.slice,run_underlying hu,hr];cases h;cases h
 cases h
def AO (P:Program) (t:TypeId) (x:Value) (lo hi:Option Value) (mx:Value):Option Value:=
 match P.underlying t,x,lo,hi,mx with
 | some (.slice e),.slice a _ _,none,some (.int _ h),.int _ q=>
   match P.info? e with
   | some _=>if h=0/\q=0 then some (match a with|none=>.slice none 0 0|some _=>.slice (some ⟨0,0,some 0⟩) 0 0) else none
   | none=>none
 | _,_,_,_,_=>none
theorem DV {P:Program} {m:Mp} {t:TypeId} {x x' v mx SI:Value} {lo hi Rn yl:Option Value} (h:AO P t x lo hi mx=some v)
 (hx:bu m x x') (uz:uQ m lo Rn) (S4:uQ m hi yl) (hmx:bu m mx SI):∃v',bu m v v'/\∀w',(Instr.sliceAt t x' Rn yl (some SI)).run P w'=.ok v' w':=by
 unfold AO at h;split at h<;>try(cases h;done)
 rename_i e a len ee k h0 k' q hu;split at h<;>try(cases h;done)
 rename_i i hi0;split at h<;>try(cases h;done)
 rename_i hc;obtain⟨rfl,rfl⟩:=hc;injection h with h;subst h;cases Rn with
 | some _=>exact uz.elim
 | none=>
 cases yl with
 | none=>exact S4.elim
 | some hv=>
 have hhi':bu m (.int k 0) hv:=S4;cases hhi';cases hmx;have hb:∀(gY:Nat) (w':World),(Instr.sliceBounds true len gY none (some (.int k 0)) (some (.int k' 0))).run P w'=.ok (0,0,0) w':=λgY w'=>by
  simp [Instr.sliceBounds,iW (P:=P) (w:=w') (k:=k') (n:=0) (y:=gY) (av:=.slice3Acap) (by omega) (by omega),
   iW (P:=P) (w:=w') (k:=k) (n:=0) (y:=0) (av:=.slice3B) (by omega) (by omega)]
 cases a with
 | none=>
   cases hx;exact⟨.slice none 0 0,.kZ,λw'=>by simp [Instr.sliceAt,Instr.slice,run_underlying hu,hb,fa hi0]⟩
 | some a=>
   cases hx with
   | slice hh h1 h2=>
     rename_i a' gY;exact⟨.slice (some a') 0 0,.slice (.inr ⟨rfl,rfl,.inl rfl⟩) (Nat.le_refl _) (Nat.le_refl _),λw'=>by simp [Instr.sliceAt,Instr.slice,run_underlying hu,hb,fa hi0]⟩
def IC (size:Nat):List (Nat×Value)->List Value->Option (List Value)
 | [],cs=>some cs
 | (i,v)::gI,cs=>if v.cells.size=size/\i*size+size<=cs.length then IC size gI (eD cs (i*size) v.cells.toList) else none
def eJ (z:List Value):Nat->List Value
 | 0=>[]
 | n+1=>z++eJ z n
theorem xN (l:List Value):∀(cs:Array Value) (off k:Nat),off+k+l.length<=cs.size->
 ((l.zipIdx k).foldl (λcs (c,j)=>cs.setIfInBounds (off+j) c) cs).toList=eD cs.toList (off+k) l:=by
 induction l with
 | nil=>intro cs off k _;rfl
 | cons v l ih=>
   intro cs off k h;simp only [List.zipIdx_cons,List.foldl_cons,eD];rw [ih _ off (k+1) (by simp at h ⊢;omega)];simp [Nat.add_assoc]
theorem rX {m:Mp}:∀(l l':List Value) (off:Nat) (cs oV:List Value),gQ m cs oV->gQ m l l'->off+l.length<=cs.length->
 gQ m (eD cs off l) (eD oV off l')
 | [],l',off,cs,oV,h,hl,_=>by
   have e:=hl.nL;subst e;exact h
 | v::l,l',off,cs,oV,h,hl,fo=>by
   obtain⟨v',t',rfl,hv,ht⟩:=hl.kE;simp only [List.length_cons] at fo;refine rX l t' (off+1) _ _ ⟨by simp [h.1],λi x x' h1 h2=>?_⟩ ht (by simp;omega);by_cases hi:off=i;subst hi;rw [List.getElem?_set_self (by omega)] at h1;rw [List.getElem?_set_self (by rw [<-h.1];omega)] at h2;injection h1 with h1;injection h2 with h2;subst h1;subst h2;exact hv;rw [List.getElem?_set_ne hi] at h1 h2;exact h.2 i x x' h1 h2
theorem zO {m:Mp} {size:Nat}:∀(jt gk:List (Nat×Value)) (cs r:List Value) (oV:Array Value),IC size jt cs=some r->gQ m cs oV.toList->
 jt.length=gk.length->(∀(k:Nat) (p p':Nat×Value),jt[k]? = some p->gk[k]? = some p'->p.1=p'.1/\bu m p.2 p'.2)->
 ∃r',Instr.fill (λi=>some (i*size,size)) oV gk=some r'/\gQ m r r'.toList
 | [],gk,cs,r,oV,h,hc,hl,_=>by
   cases gk with
   | cons _ _=>simp at hl
   | nil=>
     injection h with h;subst h;exact⟨oV,rfl,hc⟩
 | (i,v)::gI,gk,cs,r,oV,h,hc,hl,hp=>by
   cases gk with
   | nil=>simp at hl
   | cons p' rest'=>
     obtain⟨i',v'⟩:=p';obtain⟨h1,h2⟩:=hp 0 _ _ rfl rfl;simp only at h1 h2;subst h1;unfold IC at h;split at h;rename_i xK;obtain⟨hz,fo⟩:=xK;have iR:=h2.cells;have hz':v'.cells.size=size:=by have:=iR.1;simp at this;omega
     have td:oV.size=cs.length:=by have:=hc.1;simp at this;omega
     have PF:=xN v'.cells.toList oV (i*size) 0 (by simp;omega);obtain⟨r',h3,h4⟩:=zO gI rest' _ r (v'.cells.zipIdx.foldl (λcs (c,j)=>cs.setIfInBounds (i*size+j) c) oV) h (by
      rw [<-Array.foldl_toList,Array.toList_zipIdx,PF];exact rX _ _ _ _ _ hc iR (by simp;omega)) (by simpa using hl) (λk p p' a b=>hp (k+1) p p' (by simpa using a) (by simpa using b))
     refine⟨r',?_,h4⟩;simp only [Instr.fill,hz',ne_eq,not_true_eq_false,decide_false,Bool.false_or,td,decide_eq_true_eq];rw [ap (by omega)];exact h3;cases h
theorem iF (z:List Value) (n:Nat):(eJ z n).length=n*z.length:=by
 induction n with
 | zero=>simp [eJ]
 | succ n ih=>simp [eJ,ih,Nat.add_mul];omega
theorem KO (z:List Value) (n j:Nat) (h:j<n*z.length):(eJ z n)[j]? = z[j % z.length]?:=by
 induction n generalizing j with
 | zero=>simp at h
 | succ n ih=>
   simp only [eJ];by_cases hj:j<z.length;rw [List.getElem?_append_left hj,Nat.mod_eq_of_lt hj];rw [List.getElem?_append_right (by omega),ih _ (by simp [Nat.add_mul] at h;omega)];rw [Nat.mod_eq_sub_mod (by omega:z.length<=j)]
theorem pJ (z:Array Value) (n:Nat) (h:0<z.size):((Array.range (n*z.size)).map (λj=>z[j % z.size]!)).toList=eJ z.toList n:=by
 apply List.ext_getElem?;intro j;by_cases hj:j<n*z.size;rw [KO _ _ _ (by simpa using hj)];have hm:j % z.size<z.size:=Nat.mod_lt _ h;simp [hj,hm];rw [List.getElem?_eq_none (by simp;omega),List.getElem?_eq_none (by rw [iF];simp;omega)]
def eQ:Value->Bool
 | .bool _ | .int _ _ | .float _ _ | .complex _ _ _ | .string _ | .pointer none | .slice none 0 0 | .map none | .chan none | .nilFunc | .nilIface=>true
 | _=>false
def uE:Value->Bool
 | .agg cs=>cs.all eQ
 | .tuple cs=>cs.all eQ
 | v=>eQ v
theorem bu.jz {v:Value} (h:eQ v=true) (m:Mp):bu m v v:=by
 unfold eQ at h;split at h<;>first|(cases h;done)|constructor
theorem bu.uo {v:Value} (h:uE v=true) (m:Mp):bu m v v:=by
 unfold uE at h;split at h;refine .agg rfl λi v v' h1 h2=>?_;rw [h1] at h2;injection h2 with h2;subst h2;exact .jz (Array.all_eq_true_iff_forall_mem.1 h _ (Array.mem_of_getElem? h1)) m;refine .tuple rfl λi v v' h1 h2=>?_;rw [h1] at h2;injection h2 with h2;subst h2;exact .jz (Array.all_eq_true_iff_forall_mem.1 h _ (Array.mem_of_getElem? h1)) m;exact .jz h m
theorem gQ.mm {l:List Value} (h:l.all eQ=true) (m:Mp):gQ m l l:=
 ⟨rfl,λi v v' h1 h2=>by
  rw [h1] at h2;injection h2 with h2;subst h2;exact .jz (List.all_eq_true.1 h _ (List.mem_of_getElem? h1)) m⟩
theorem mK {z:List Value} (h:z.all eQ=true) (n:Nat):(eJ z n).all eQ=true:=by
 induction n with
 | zero=>rfl
 | succ n ih=>simp only [eJ,List.all_append,h,ih,Bool.and_self]
def pK (P:Program) (A:AW) (t:TypeId) (len:Nat) (jt:List (Nat×Value)):Option (Value×AW):=
 match P.underlying t with
 | some (.slice e)=>
   match P.info? e with
   | some i=>
     match i.zero with
     | some z=>
       if z.cells.size=i.size/\0<i.size/\len*i.size<=2 ^ 24/\z.cells.toList.all eQ then
        match IC i.size jt (eJ z.cells.toList len) with
        | some cs=>some (.slice (some ⟨A.next,0,none⟩) len len,A.alloc (.cells cs true i.size))
        | none=>none
       else none
     | none=>none
   | none=>none
 | _=>none
theorem EP (size:Nat):∀(jt:List (Nat×Value)) (cs r:Array Value),Instr.fill (λi=>some (i*size,size)) cs jt=some r->r.size=cs.size
 | [],cs,r,h=>by injection h with h;subst h;rfl
 | (i,v)::gI,cs,r,h=>by
   unfold Instr.fill at h;simp only at h;split at h;cases h;rw [EP size gI _ r h];have:∀(l:List (Value×Nat)) (cs:Array Value),(l.foldl (λcs (c,j)=>cs.setIfInBounds (i*size+j) c) cs).size=cs.size:=by
    intro l
    induction l with
    | nil=>intro cs;rfl
    | cons x l ih=>intro cs;simp [List.foldl_cons,ih]
   rw [<-Array.foldl_toList];exact this _ _
theorem yc {P:Program} {m:Mp} {A A1:AW} {w:World} (hs:jp m A w) {t:TypeId} {len:Nat} {jt:List (Nat×Value)} {gk:Array (Nat×Value)} {v:Value}
 (h:pK P A t len jt=some (v,A1)) (hl:jt.length=gk.size)
 (hp:∀(k:Nat) (p p':Nat×Value),jt[k]? = some p->gk[k]? = some p'->p.1=p'.1/\bu m p.2 p'.2) :
 ∃v' w' m',(Instr.buildSlice t len gk).run P w=.ok v' w'/\jc m A w m' A1 w'/\bu m' v v':=by
 unfold pK at h;split at h<;>try(cases h;done)
 rename_i e hu;split at h<;>try(cases h;done)
 rename_i i hi;split at h<;>try(cases h;done)
 rename_i z hz;split at h<;>try(cases h;done)
 rename_i hc;obtain⟨nz,h0,h24,gJ⟩:=hc;split at h<;>try(cases h;done)
 rename_i cs WY;simp only [Option.some.injEq,Prod.mk.injEq] at h;obtain⟨rfl,rfl⟩:=h;have Pk:=pJ z.cells len (by omega);rw [nz] at Pk
 obtain⟨r',h1,h2⟩:=zO (m:=m) jt gk.toList _ cs ((Array.range (len*i.size)).map (λj=>z.cells[j % i.size]!)) WY
  (by rw [Pk];exact .mm (mK gJ len) m) (by simpa using hl) (λk p p' a b=>hp k p p' a (by simpa using b))
 have NX:r'.size=len*i.size:=by rw [EP _ _ _ _ h1];simp
 obtain⟨w',m',h3,h4,h5⟩:=sr (P:=P) hs e i.size h2;refine⟨.slice (some ⟨w.heap.size,0,none⟩) len len,w',m',?_,h4,?_⟩;simp only [Instr.buildSlice,Sem.run_bind,run_underlying hu,Result.andThen_ok,fa hi];rw [ap (by omega)];by_cases QH:len*i.size=0;rw [ay QH];have UO:((Array.range (len*i.size)).map λj=>(#[]:Array Value)[j % (#[]:Array Value).size]!)=(Array.range (len*i.size)).map (λj=>z.cells[j % i.size]!):=by
  simp [QH]
 simp only [Sem.run_bind,Sem.run_pure,Result.andThen_ok,UO,h1,h3];rw [ap QH];have MV:(zeroValue e).run P w=.ok z w:=by simp [zeroValue,typeInfo,hi,hz]
 simp only [Sem.run_bind,Sem.run_pure,Result.andThen_ok,MV,nz,h1,h3];refine .slice (.inl ⟨rfl,rfl,⟨w.heap.size,0,i.size,r'.size⟩,by rw [h5];simp [Mp.ext],rfl,rfl,?_⟩) (Nat.le_refl _) (Nat.le_refl _);show 0+len*i.size<=r'.size;omega
end Go.Stx
namespace Go.Stx
open Go
variable [Gl]
theorem Ek {P:Program} {w:World} {k:IntKind} {n:Int}:(asInt (.int k n)).run P w=.ok n w:=by simp [asInt,asIntOf]
theorem an {x:Int} (h0:-9223372036854775808<=x) (h1:x<=9223372036854775807):IntKind.i64.wrap x=x:=by
 simp only [IntKind.wrap,IntKind.bits,IntKind.signed,Bool.true_and];split;rename_i h;have:=of_decide_eq_true h;omega;rename_i h;have:=of_decide_eq_false (eq_false_of_ne_true h);omega
theorem ax {x:Int} (h0:0<=x) (h1:x<18446744073709551616):IntKind.u64.wrap x=x:=by
 simp only [IntKind.wrap,IntKind.bits,IntKind.signed,Bool.false_and,Bool.false_eq_true,if_false];omega
def nC (P:Program) (A:AW) (t:TypeId) (l c:Value):Option (Value×AW):=
 match P.underlying t,l,c with
 | some (.slice e),.int _ l,.int _ c=>
   match P.info? e with
   | some i=>
     match i.zero with
     | some z=>
       if z.cells.size=i.size/\0<i.size/\z.cells.toList.all eQ/\0<=l/\l<=c/\c<=140737488355328/\c*i.bytes<=140737488355328 then
        some (.slice (some ⟨A.next,0,none⟩) l.toNat c.toNat,A.alloc (.cells (eJ z.cells.toList c.toNat) true i.size))
       else none
     | none=>none
   | none=>none
 | _,_,_=>none
theorem IG {P:Program} {m:Mp} {A A1:AW} {w:World} (hs:jp m A w) {t:TypeId} {l c l' c' v:Value} (h:nC P A t l c=some (v,A1)) (hl:bu m l l') (hc:bu m c c') :
 ∃v' w' m',(Instr.makeSlice t l' c').run P w=.ok v' w'/\jc m A w m' A1 w'/\bu m' v v':=by
 unfold nC at h;split at h<;>try(cases h;done)
 rename_i e k n k' q hu;cases hl;cases hc;split at h<;>try(cases h;done)
 rename_i i hi;split at h<;>try(cases h;done)
 rename_i z hz;split at h<;>try(cases h;done)
 rename_i xK;obtain⟨nz,h0,gJ,C6,hnq,hq,hqb⟩:=xK;simp only [Option.some.injEq,Prod.mk.injEq] at h;obtain⟨rfl,rfl⟩:=h;have Pk:=pJ z.cells q.toNat (by omega);rw [nz] at Pk;obtain⟨w',m',h3,h4,h5⟩:=sr (P:=P) hs e i.size (ik:=(Array.range (q.toNat*i.size)).map (λj=>z.cells[j % i.size]!)) (by rw [Pk];exact .mm (mK gJ q.toNat) m);have i5:IntKind.i64.wrap n=n:=an (by omega) (by omega);have kS:IntKind.i64.wrap q=q:=an (by omega) (by omega);refine⟨.slice (some ⟨w.heap.size,0,none⟩) n.toNat q.toNat,w',m',?_,h4,?_⟩;have hty:(typeInfo e).run P w=.ok i w:=by simp [typeInfo,hi]
 have hb:(i.bytes:Int)*q<=140737488355328:=by rw [Int.mul_comm];exact hqb
 have c1:(decide (q<0) || decide ((i.bytes:Int)*q>2 ^ 48))=false:=by
  simp only [Bool.or_eq_false_iff,decide_eq_false_iff_not];constructor<;>omega
 simp only [Instr.makeSlice,Sem.run_bind,run_underlying hu,Result.andThen_ok,Ek,hty,i5,kS,c1];rw [ap (by simp;omega)];simp only [Sem.run_bind,run_askRoom,Result.andThen_ok,fa hi];by_cases hn:q.toNat*i.size=0;rw [ay hn];have UO:((Array.range (q.toNat*i.size)).map λj=>(#[]:Array Value)[j % (#[]:Array Value).size]!)=(Array.range (q.toNat*i.size)).map (λj=>z.cells[j % i.size]!):=by
  simp [hn]
 simp only [Sem.run_bind,Sem.run_pure,Result.andThen_ok,UO,h3];rw [ap hn];have MV:(zeroValue e).run P w=.ok z w:=by simp [zeroValue,typeInfo,hi,hz]
 simp only [Sem.run_bind,Sem.run_pure,Result.andThen_ok,MV,nz,h3];refine .slice (.inl ⟨rfl,rfl,⟨w.heap.size,0,i.size,((Array.range (q.toNat*i.size)).map (λj=>z.cells[j % i.size]!)).size⟩,by rw [h5];simp [Mp.ext],rfl,rfl,?_⟩) (by omega) (Nat.le_refl _);show 0+q.toNat*i.size<=((Array.range (q.toNat*i.size)).map (λj=>z.cells[j % i.size]!)).size;simp
def GH (P:Program) (A:AW) (t:TypeId):Option (Value×AW):=
 match P.info? t with
 | some i=>
   match i.zero with
   | some z=>if uE z then some (Qs A z) else none
   | none=>none
 | none=>none
theorem GG {P:Program} {m:Mp} {A A1:AW} {w:World} (hs:jp m A w) {t:TypeId} {v:Value} (h:GH P A t=some (v,A1)) :
 ∃v' w' m',(Instr.alloc t true (.tuple #[])).run P w=.ok v' w'/\jc m A w m' A1 w'/\bu m' v v':=by
 unfold GH at h;split at h<;>try(cases h;done)
 rename_i i hi;split at h<;>try(cases h;done)
 rename_i z hz;split at h<;>try(cases h;done)
 rename_i hg;injection h with h;obtain⟨p',w',m',h1,h2,h3⟩:=CX (P:=P) hs t (bu.uo hg m);rw [h] at h2 h3;refine⟨p',w',m',?_,h2,h3⟩;have MV:(zeroValue t).run P w=.ok z w:=by simp [zeroValue,typeInfo,hi,hz]
 simp only [Instr.alloc,Sem.run_bind,MV,Result.andThen_ok];exact h1
def y7 (Hq:Nat->Option (Nat×Nat)):List (Nat×Value)->List Value->Option (List Value)
 | [],cs=>some cs
 | (i,v)::gI,cs=>
   match Hq i with
   | some (off,size)=>if v.cells.size=size/\off+size<=cs.length then y7 Hq gI (eD cs off v.cells.toList) else none
   | none=>none
theorem sF {m:Mp} {Hq:Nat->Option (Nat×Nat)}:∀(jt gk:List (Nat×Value)) (cs r:List Value) (oV:Array Value),y7 Hq jt cs=some r->gQ m cs oV.toList->
 jt.length=gk.length->(∀(k:Nat) (p p':Nat×Value),jt[k]? = some p->gk[k]? = some p'->p.1=p'.1/\bu m p.2 p'.2)->
 ∃r',Instr.fill Hq oV gk=some r'/\gQ m r r'.toList
 | [],gk,cs,r,oV,h,hc,hl,_=>by
   cases gk with
   | cons _ _=>simp at hl
   | nil=>
     injection h with h;subst h;exact⟨oV,rfl,hc⟩
 | (i,v)::gI,gk,cs,r,oV,h,hc,hl,hp=>by
   cases gk with
   | nil=>simp at hl
   | cons p' rest'=>
     obtain⟨i',v'⟩:=p';obtain⟨h1,h2⟩:=hp 0 _ _ rfl rfl;simp only at h1 h2;subst h1;unfold y7 at h;split at h;rename_i off size s4;split at h;rename_i xK;obtain⟨hz,fo⟩:=xK;have iR:=h2.cells;have hz':v'.cells.size=size:=by have:=iR.1;simp at this;omega
     have td:oV.size=cs.length:=by have:=hc.1;simp at this;omega
     have PF:=xN v'.cells.toList oV off 0 (by simp;omega);obtain⟨r',h3,h4⟩:=sF gI rest' _ r (v'.cells.zipIdx.foldl (λcs (c,j)=>cs.setIfInBounds (off+j) c) oV) h (by
      rw [<-Array.foldl_toList,Array.toList_zipIdx,PF];exact rX _ _ _ _ _ hc iR (by simp;omega)) (by simpa using hl) (λk p p' a b=>hp (k+1) p p' (by simpa using a) (by simpa using b))
     refine⟨r',?_,h4⟩;simp only [Instr.fill,s4,hz',ne_eq,not_true_eq_false,decide_false,Bool.false_or,td,decide_eq_true_eq];rw [ap (by omega)];exact h3;cases h;cases h
def xV (P:Program) (fs:List Field):Option (List (Nat×Nat)):=
 match fs with
 | []=>some []
 | f::r=>
   match P.info? f.type,xV P r with
   | some i,some l=>some ((f.offset,i.size)::l)
   | _,_=>none
theorem zR {P:Program} {w:World}:∀(fs:List Field) (l:List (Nat×Nat)),xV P fs=some l->
 (fs.mapM λf=>(do pure (f.offset,<-sizeOf f.type):Sem (Nat×Nat))).run P w=.ok l w
 | [],l,h=>by injection h with h;subst h;rfl
 | f::r,l,h=>by
   unfold xV at h;split at h;rename_i i l' hi hl;injection h with h;subst h;simp only [List.mapM_cons,Sem.run_bind,fa hi,Result.andThen_ok,Sem.run_pure,zR r l' hl];cases h
theorem tr {P:Program} {w w':World} {α β:Type} (f:α->Sem β) (l:Array α) (r:List β) (h:(l.toList.mapM f).run P w=.ok r w') :
 (l.mapM f).run P w=.ok r.toArray w':=by
 rw [Array.mapM_eq_mapM_toList];simp only [Sem.run_map,h,Result.andThen_ok]
def GF (P:Program) (t:TypeId) (jt:List (Nat×Value)):Option Value:=
 match P.info? t with
 | some i=>
   match i.zero with
   | some z=>
     if z.cells.toList.all eQ then
      match P.underlying t with
      | some (.struct fs)=>
        match xV P fs.toList with
        | some l=>
          match y7 (λk=>l[k]?) jt z.cells.toList with
          | some cs=>some (.agg cs.toArray)
          | none=>none
        | none=>none
      | some (.array _ e)=>
        match P.info? e with
        | some ie=>
          match y7 (λk=>some (k*ie.size,ie.size)) jt z.cells.toList with
          | some cs=>some (.agg cs.toArray)
          | none=>none
        | none=>none
      | _=>none
     else none
   | none=>none
 | none=>none
theorem GE {P:Program} {m:Mp} {t:TypeId} {jt:List (Nat×Value)} {gk:Array (Nat×Value)} {v:Value}
 (h:GF P t jt=some v) (hl:jt.length=gk.size)
 (hp:∀(k:Nat) (p p':Nat×Value),jt[k]? = some p->gk[k]? = some p'->p.1=p'.1/\bu m p.2 p'.2) :
 ∃v',bu m v v'/\∀w,(Instr.build t gk).run P w=.ok v' w:=by
 unfold GF at h;split at h<;>try(cases h;done)
 rename_i i hi;split at h<;>try(cases h;done)
 rename_i z hz;split at h<;>try(cases h;done)
 rename_i gJ;have MV:∀w,(zeroValue t).run P w=.ok z w:=λw=>by simp [zeroValue,typeInfo,hi,hz]
 split at h<;>try(cases h;done)
 . rename_i fs hu;split at h<;>try(cases h;done)
   rename_i l s4;split at h<;>try(cases h;done)
   rename_i cs hcs;injection h with h;subst h;obtain⟨r',h1,h2⟩:=sF (m:=m) jt gk.toList _ cs z.cells hcs (.mm gJ m) (by simpa using hl) (λk p p' a b=>hp k p p' a (by simpa using b));refine⟨.agg r',?_,λw=>?_⟩;have:=bu.pq h2
   simpa using this
   have hm:=tr _ fs l (zR (w:=w) fs.toList l s4);simp only [Instr.build,Sem.run_bind,MV,Result.andThen_ok,run_underlying hu,hm];have e:(λ(x:Nat)=>l.toArray[x]?)=fun(k:Nat)=>l[k]?:=by funext k;simp
   rw [e,h1];rfl
 rename_i n e hu;split at h<;>try(cases h;done)
 rename_i ie Ki;split at h<;>try(cases h;done)
 rename_i cs hcs;injection h with h;subst h;obtain⟨r',h1,h2⟩:=sF (m:=m) jt gk.toList _ cs z.cells hcs (.mm gJ m) (by simpa using hl) (λk p p' a b=>hp k p p' a (by simpa using b));refine⟨.agg r',?_,λw=>?_⟩;have:=bu.pq h2
 simpa using this
 simp only [Instr.build,Sem.run_bind,MV,Result.andThen_ok,run_underlying hu,fa Ki,h1,Sem.run_pure]
def ln (P:Program) (t:TypeId) (x:Value):Option Value:=
 match P.underlying t,x with
 | some .string,.string s=>some (.int .i64 s.size)
 | some (.slice _),.slice _ n _=>some (.int .i64 n)
 | some (.array n _),_=>some (.int .i64 n)
 | _,_=>none
theorem KZ {P:Program} {m:Mp} {t ty:TypeId} {x x' v:Value} (h:ln P t x=some v) (hx:bu m x x') :
 bu m v v/\∀w,(Builtin.len_ #[t] ty #[x']).run P w=.ok v w:=by
 unfold ln at h;split at h;rename_i s hu;injection h with h;subst h;cases hx
 exact⟨by constructor,λw=>by simp [Builtin.len_,run_underlying hu,goInt]⟩;rename_i e a n c hu;injection h with h;subst h
 cases hx<;>exact⟨by constructor,λw=>by simp [Builtin.len_,run_underlying hu,goInt]⟩;rename_i n e hu;injection h with h;subst h
 exact⟨by constructor,λw=>by simp [Builtin.len_,run_underlying hu,goInt]⟩;cases h
def Qm (mx:Bool):List Value->Option Value
 | [.int k a,.int k' b]=>if k=k' then some (.int k (if mx then (if a<b then b else a) else (if b<a then b else a))) else none
 | _=>none
theorem CM {P:Program} {m:Mp} {ts:Array TypeId} {ty:TypeId} {mx:Bool} {l:List Value} {l':Array Value} {v:Value} (h:Qm mx l=some v) (hl:gQ m l l'.toList) :
 bu m v v/\∀w,((if mx then Builtin.max_ ts ty l' else Builtin.min_ ts ty l')).run P w=.ok v w:=by
 unfold Qm at h;split at h;rename_i k a k' b;obtain⟨x',t',e1,h1,h2⟩:=hl.kE;obtain⟨y',t'',e2,h3,h4⟩:=h2.kE;have e3:=h4.nL;cases h1;cases h3;subst e3;subst e2;have hl':l' = #[.int k a,.int k' b]:=by apply Array.ext';exact e1
 subst hl';split at h;injection h with h;subst h;cases mx;exact⟨by constructor,λw=>by simp [Builtin.min_,Builtin.min2]⟩;refine⟨by constructor,λw=>?_⟩;simp [Builtin.max_,Builtin.max2];cases h;cases h
def sG (P:Program) (t:TypeId) (x:Value):Option Value:=
 match P.underlying t with
 | some (.interface _)=>none
 | some _=>some (.iface t x)
 | none=>none
theorem y8 {P:Program} {m:Mp} {t:TypeId} {x x' v:Value} (h:sG P t x=some v) (hx:bu m x x') :
 ∃v',bu m v v'/\∀w,(Instr.makeInterface t x').run P w=.ok v' w:=by
 unfold sG at h;cases hu:P.underlying t with
 | none=>simp [hu] at h
 | some d=>
   rw [hu] at h
   cases d<;>simp only [Option.some.injEq] at h<;>(try (cases h;done))<;>subst h <;>
    exact⟨.iface t x',.iface t hx,λw=>by simp [Instr.makeInterface,run_underlying hu]⟩
end Go.Stx
namespace Go.Stx
open Go
variable [Gl]
open Go.MapKept (run_findKey)
def lb:TypeDesc->Bool
 | .int _=>true
 | .string=>true
 | _=>false
def mR (d:TypeDesc) (k:Value):List (Value×Value)->Bool
 | []=>true
 | e::es=>
   match Instr.sameNow d k e.1 with
   | some false=>mR d k es
   | _=>false
def gb (d:TypeDesc) (k:Value):List (Value×Value)->Nat->Option (Option (Nat×Value))
 | [],_=>some none
 | e::es,i=>
   match Instr.sameNow d k e.1 with
   | some true=>match mR d k es with|true=>some (some (i,e.2))|false=>none
   | some false=>gb d k es (i+1)
   | none=>none
theorem sl {d:TypeDesc} {k:Value}:∀{es:List (Value×Value)},mR d k es=true↔∀x∈es,Instr.sameNow d k x.1=some false
 | []=>by simp [mR]
 | e::es=>by
   unfold mR;split;rename_i h;rw [sl];simp [h];rename_i h;simp only [Bool.false_eq_true,false_iff];intro hx;exact h (hx e (by simp))
theorem rh {d:TypeDesc} {k:Value}:∀{es:List (Value×Value)} {n:Nat},gb d k es n=some none↔∀x∈es,Instr.sameNow d k x.1=some false
 | [],n=>by simp [gb]
 | e::es,n=>by
   unfold gb;split;rename_i h;constructor;intro h1;split at h1<;>cases h1;intro h1;have:=h1 e (by simp);rw [h] at this;cases this;rename_i h;rw [rh];simp [h];rename_i h;constructor;intro h1;cases h1;intro h1;have:=h1 e (by simp);rw [h] at this;cases this
theorem mM {d:TypeDesc} {k v:Value}:∀{es:List (Value×Value)} {n m:Nat},gb d k es n=some (some (m,v)) ↔
 ∃l x r,es=l++x::r/\m=n+l.length/\x.2=v/\Instr.sameNow d k x.1=some true/\∀y∈l++r,Instr.sameNow d k y.1=some false
 | [],n,m=>by
   constructor;intro h;cases h;rintro ⟨l,x,r,h,_⟩;cases l<;>cases h
 | e::es,n,m=>by
   unfold gb;constructor;intro h;split at h;rename_i h1;split at h;rename_i h2;simp only [Option.some.injEq,Prod.mk.injEq] at h;exact⟨[],e,es,rfl,by simp [h.1],h.2,h1,sl.1 h2⟩;cases h;rename_i h1;obtain⟨l,x,r,rfl,rfl,h3,h4,h5⟩:=mM.1 h;refine⟨e::l,x,r,rfl,by simp;omega,h3,h4,λy hy=>?_⟩;simp only [aa,List.mem_cons] at hy;rcases hy with rfl|hy;exact h1;exact h5 y hy;cases h;rintro ⟨l,x,r,h,rfl,h3,h4,h5⟩;cases l with
   | nil=>
     simp only [af,List.cons.injEq] at h;obtain⟨rfl,rfl⟩:=h;rw [h4];simp only;rw [sl.2 (by simpa using h5)];simp [h3]
   | cons y l=>
     simp only [aa,List.cons.injEq] at h;obtain⟨rfl,rfl⟩:=h;rw [h5 e (by simp)];simp only;rw [mM];exact⟨l,x,r,rfl,by simp;omega,h3,h4,λz hz=>h5 z (by simp only [aa,List.mem_cons];exact .inr hz)⟩
theorem oQ {d:TypeDesc} {k:Value} {es uN:List (Value×Value)} (hp:es.Perm uN) (h:gb d k es 0=some none):gb d k uN 0=some none:=
 rh.2 λx hx=>rh.1 h x (hp.mem_iff.2 hx)
theorem vy {d:TypeDesc} {k v:Value} {es uN:List (Value×Value)} (hp:es.Perm uN) {i:Nat} (h:gb d k es 0=some (some (i,v))) :
 ∃i',gb d k uN 0=some (some (i',v))/\∀y,(es.set i y).Perm (uN.set i' y):=by
 obtain⟨l,x,r,rfl,rfl,h3,h4,h5⟩:=mM.1 h;obtain⟨l',r',rfl⟩:=List.append_of_mem (hp.mem_iff.1 (show x∈l++x::r by simp));have LP:(l++r).Perm (l'++r'):=(List.perm_middle.symm.trans (hp.trans List.perm_middle)).cons_inv;refine⟨0+l'.length,mM.2 ⟨l',x,r',rfl,rfl,h3,h4,λy hy=>h5 y (LP.mem_iff.2 hy)⟩,λy=>?_⟩;have e1:∀(a b:List (Value×Value)),(a++x::b).set (0+a.length) y=a++y::b:=λa b=>by simp
 rw [e1,e1];exact List.perm_middle.trans ((LP.cons y).trans List.perm_middle.symm)
theorem zp {m:Mp} {d:TypeDesc} {a a' b b':Value} {r:Bool} (h:Instr.sameNow d a b=some r) (ha:bu m a a') (hb:bu m b b'):Instr.sameNow d a' b'=some r:=by
 unfold Instr.sameNow at h;split at h;cases ha;cases hb;exact h;cases ha;cases hb;exact h;cases ha;cases hb;exact h;cases h
theorem Fv {d:TypeDesc} {a b:Value} (h:Instr.sameNow d a b=some true):Instr.sameBits 10000 b a=true:=by
 unfold Instr.sameNow at h;split at h;rename_i k x k' y;split at h;rename_i e;subst e;simp only [Option.some.injEq,beq_iff_eq] at h;subst h;simp [Instr.sameBits];cases h;rename_i x y;simp only [Option.some.injEq] at h;have e:x.data=y.data:=eq_of_beq (show (x.data == y.data)=true from h);show (y.data == x.data)=true;rw [e];exact beq_self_eq_true _;simp only [Option.some.injEq] at h;have:=LawfulBEq.eq_of_beq h;subst this;simp [Instr.sameBits];cases h
theorem kG {m:Mp} {d:TypeDesc} {k k':Value} (hk:bu m k k'):∀(es:List (Value×Value)) (jv:List MapEntry) (i:Nat) (r:Option (Nat×Value)),
 es.length=jv.length->(∀(j:Nat) (x:Value×Value) (e:MapEntry),es[j]? = some x->jv[j]? = some e->bu m x.1 e.key/\bu m x.2 e.val)->
 gb d k es i=some r->∃r',Instr.findNow d k' jv i=some r'/\
  ((r=none/\r'=none)\/∃j v v' e,r=some (i+j,v)/\r'=some (i+j,v')/\bu m v v'/\jv[j]? = some e/\Instr.sameNow d k' e.key=some true)
 | [],jv,i,r,hl,_,h=>by
   cases jv with
   | cons _ _=>simp at hl
   | nil=>injection h with h;subst h;exact⟨none,rfl,.inl ⟨rfl,rfl⟩⟩
 | x::es,jv,i,r,hl,hr,h=>by
   cases jv with
   | nil=>simp at hl
   | cons e jv=>
     obtain⟨h1,h2⟩:=hr 0 x e rfl rfl;unfold gb at h;split at h
     . rename_i hs;split at h<;>try(cases h;done)
       injection h with h;subst h;have SR:=zp hs hk h1;exact⟨some (i,e.val),by simp [Instr.findNow,SR],.inr ⟨0,x.2,e.val,e,rfl,rfl,h2,rfl,SR⟩⟩
     rename_i hs;have SR:=zp hs hk h1;obtain⟨r',h3,h4⟩:=kG hk es jv (i+1) r (by simpa using hl) (λj y f a b=>hr (j+1) y f (by simpa using a) (by simpa using b)) h;refine⟨r',by simp [Instr.findNow,SR,h3],?_⟩;rcases h4 with h4|⟨j,v,v',e',h5,h6,h7,h8,h9⟩;exact .inl h4;refine .inr ⟨j+1,v,v',e',?_,?_,h7,by simpa using h8,h9⟩;rw [h5,show i+1+j=i+(j+1) by omega];rw [h6,show i+1+j=i+(j+1) by omega];cases h
theorem uV {P:Program} {w:World} {kt:TypeId} {d:TypeDesc} {k:Value} (hd:P.underlying kt=some d) (hk:lb d=true) (e:Bool) (n:Nat) :
 (Instr.checkKey e (n+1) kt k).run P w=.ok () w:=by
 have:d=.string\/∃i,d=.int i:=by
  unfold lb at hk;split at hk;exact .inr ⟨_,rfl⟩;exact .inl rfl;cases hk
 unfold Instr.checkKey;rw [Sem.run_bind,run_underlying hd];rcases this with rfl|⟨i,rfl⟩<;>rfl
theorem kw {P:Program} {w:World} {kt:TypeId} {d:TypeDesc} {k:Value} (hd:P.underlying kt=some d) (hk:lb d=true) (e:Bool) :
 (Instr.checkKey e 10000 kt k).run P w=.ok () w:=uV hd hk e 9999
def oP (P:Program) (e:TypeId) (nM:Bool):Option Value:=
 match P.info? e with
 | some i=>
   match i.zero with
   | some z=>if uE z then (if nM then (if eQ z then some (.tuple #[z,.bool false]) else none) else some z) else none
   | none=>none
 | none=>none
def xE (P:Program) (cs:Array Value):List Field->Bool
 | []=>true
 | f::fs=>
   match P.underlying f.type with
   | some (.int _)=>
     match apart P f.type cs f.offset with
     | some _=>xE P cs fs
     | none=>false
   | _=>false
def xY (P:Program) (A:AW) (kt e:TypeId) (x ix:Value) (nM:Bool):Option Value:=
 match P.underlying kt,ix with
 | some (.struct fs),.agg cs=>
   if xE P cs fs.toList then
    match x with
    | .map none=>oP P e nM
    | .map (some r)=>
      match A.bt r with
      | some (.map [] _)=>oP P e nM
      | _=>none
    | _=>none
   else none
 | _,_=>none
theorem Ds {P:Program} {m:Mp} {w:World} {kt:TypeId} {fs:Array Field} {cs oV:Array Value} (hd:P.underlying kt=some (.struct fs)) (hk:xE P cs fs.toList=true)
 (hc:bu m (.agg cs) (.agg oV)) (e:Bool):(Instr.checkKey e 10000 kt (.agg oV)).run P w=.ok () w:=by
 rw [show 10000=9998+1+1 from rfl,Instr.checkKey];simp only [Sem.run_bind,run_underlying hd,Result.andThen_ok];rw [<-Array.forIn_toList];generalize fs.toList=L at hk
 induction L with
 | nil=>simp
 | cons f L ih=>
   unfold xE at hk;split at hk<;>try(cases hk;done)
   rename_i k hf;split at hk<;>try(cases hk;done)
   rename_i v hv;obtain⟨v',_,p1⟩:=j4 hv hc;have p2:(Instr.checkKey e (9998+1) f.type v').run P w=.ok () w:=uV hf rfl e 9998;by_cases hn:f.name = "_";simp only [List.forIn_cons,Sem.run_bind,hn,ne_eq,not_true_eq_false,if_false,Result.andThen_ok,Sem.run_pure];exact ih hk;simp only [List.forIn_cons,Sem.run_bind,hn,ne_eq,not_false_eq_true,if_true,Result.andThen_ok,p1,p2,Sem.run_pure];exact ih hk
def xZ (P:Program) (A:AW) (t:TypeId) (x ix:Value) (nM:Bool):Option Value:=
 match P.underlying t with
 | some (.map kt e)=>
   match P.underlying kt with
   | some d=>
     if lb d then
      match x with
      | .map none=>oP P e nM
      | .map (some r)=>
        match A.bt r with
        | some (.map es _)=>
          match gb d ix es 0 with
          | some (some (_,v))=>some (if nM then .tuple #[v,.bool true] else v)
          | some none=>oP P e nM
          | none=>none
        | _=>none
      | _=>none
     else xY P A kt e x ix nM
   | none=>none
 | _=>none
theorem mL {P:Program} {e:TypeId} {c:Bool} {v:Value} (h:oP P e c=some v) (m:Mp) :
 bu m v v/\∃z,v=(if c then .tuple #[z,.bool false] else z)/\∀w,(zeroValue e).run P w=.ok z w:=by
 unfold oP at h;split at h<;>try(cases h;done)
 rename_i i hi;split at h<;>try(cases h;done)
 rename_i z hz;split at h<;>try(cases h;done)
 rename_i hg;have MV:∀w,(zeroValue e).run P w=.ok z w:=λw=>by simp [zeroValue,typeInfo,hi,hz]
 cases c;simp only [Bool.false_eq_true,if_false,Option.some.injEq] at h;subst h;exact⟨.uo hg m,z,rfl,MV⟩;simp only [if_true] at h;split at h<;>try(cases h;done)
 rename_i hs;injection h with h;subst h;exact⟨.uo (v:=.tuple #[z,.bool false]) (show (#[z,Value.bool false]:Array Value).all eQ=true by simp [hs];rfl) m,z,rfl,MV⟩
theorem bu.pair {m:Mp} {a a' b b':Value} (h:bu m a a') (k:bu m b b'):bu m (.tuple #[a,b]) (.tuple #[a',b']):=by
 refine .tuple rfl λi v v' h1 h2=>?_
 match i with
 | 0=>simp at h1 h2;subst h1;subst h2;exact h
 | 1=>simp at h1 h2;subst h1;subst h2;exact k
 | i+2=>simp at h1
theorem CQ {P:Program} {m:Mp} {A:AW} {w:World} (hs:jp m A w) {t kt e:TypeId} {x x' ix Ph v:Value} {c:Bool} (hu:P.underlying t=some (.map kt e))
 (h:xY P A kt e x ix c=some v) (hx:bu m x x') (QI:bu m ix Ph) :
 ∃v',bu m v v'/\∀w',(∀b,b<w.heap.size->w'.heap[b]? = w.heap[b]?)->(Instr.lookup t x' Ph c).run P w'=.ok v' w':=by
 unfold xY at h;split at h<;>try(cases h;done)
 rename_i fs cs hd;split at h<;>try(cases h;done)
 rename_i hkp
 have hfn:∀w',(Instr.findKey kt Ph (#[]:Array MapEntry).toList).run P w'=.ok none w':=λw'=>
  run_findKey hd (l:=(#[]:Array MapEntry).toList) (k:=Ph) (a:=none) (show Instr.findNow (.struct fs) Ph [] 0=some none from rfl)
 have AE:∀e w',(Instr.checkKey e 10000 kt Ph).run P w'=.ok () w':=λe w'=>by
  cases QI with
  | agg h1 h2=>exact Ds hd hkp (.agg h1 h2) e
 split at h<;>try(cases h;done)
 cases hx;obtain⟨h1,z,rfl,h2⟩:=mL h m;refine⟨_,h1,λw' _=>?_⟩;simp only [Instr.lookup,Sem.run_bind,run_underlying hu,Result.andThen_ok,Sem.run_pure,AE,hfn,h2];rename_i r;split at h<;>try(cases h;done)
 rename_i own hg;obtain⟨p,hp,jv,aw,uN,SV,hh,hl,s3⟩:=hs.C4 _ _ hg;cases hx with
 | map hx=>
   rename_i r';obtain⟨p',LR,rfl⟩:=hx;rw [hp] at LR;injection LR with LR;subst LR;have hb:p.block<w.heap.size:=(Array.getElem?_eq_some_iff.1 hh).1;have he0:uN=[]:=List.nil_perm.1 SV;subst he0;have hents:jv = #[]:=by
    apply Array.eq_empty_of_size_eq_zero
    simpa using hl.symm
   subst hents;obtain⟨h1,z,rfl,h2⟩:=mL h m;refine⟨_,h1,λw' he=>?_⟩;have UK:w'.heap[p.block]? = some (.map #[] aw):=(by rw [he _ hb];exact hh);simp only [Instr.lookup,Sem.run_bind,run_underlying hu,Result.andThen_ok,Sem.run_pure,Go.MapKept.run_getObj_map UK,AE,hfn,h2]
theorem D0 {P:Program} {m:Mp} {A:AW} {w:World} (hs:jp m A w) {t:TypeId} {x x' ix Ph v:Value} {c:Bool} (h:xZ P A t x ix c=some v)
 (hx:bu m x x') (QI:bu m ix Ph):∃v',bu m v v'/\∀w',(∀b,b<w.heap.size->w'.heap[b]? = w.heap[b]?)->(Instr.lookup t x' Ph c).run P w'=.ok v' w':=by
 unfold xZ at h;split at h<;>try(cases h;done)
 rename_i kt e hu;split at h<;>try(cases h;done)
 rename_i d hd;split at h
 case' isFalse=>exact CQ hs hu h hx QI
 rename_i uA;split at h<;>try(cases h;done)
 cases hx;obtain⟨h1,z,rfl,h2⟩:=mL h m;refine⟨_,h1,λw' _=>?_⟩;simp only [Instr.lookup,Sem.run_bind,run_underlying hu,Result.andThen_ok,Sem.run_pure,kw hd uA,run_findKey hd (l:=(#[]:Array MapEntry).toList) (k:=Ph) (a:=none) (show Instr.findNow d Ph [] 0=some none from rfl),h2];rename_i r;split at h<;>try(cases h;done)
 rename_i es own hg;obtain⟨p,hp,jv,aw,uN,SV,hh,hl,s3⟩:=hs.C4 _ _ hg;cases hx with
 | map hx=>
   rename_i r';obtain⟨p',LR,rfl⟩:=hx;rw [hp] at LR;injection LR with LR;subst LR;have hb:p.block<w.heap.size:=(Array.getElem?_eq_some_iff.1 hh).1;split at h;rename_i i v0 RL;obtain⟨i',hf,_⟩:=vy SV RL;obtain⟨r',h3,h4⟩:=kG QI uN jv.toList 0 _ (by simpa using hl) (λj y f a b=>s3 j y f a (by simpa using b)) hf;rcases h4 with ⟨h4,_⟩|⟨j,v1,v',e',h5,rfl,h7,_,_⟩;cases h4;injection h5 with h5;injection h5 with h5 h6;subst h6;injection h with h;subst h;refine⟨if c then .tuple #[v',.bool true] else v',?_,λw' he=>?_⟩;cases c;exact h7;exact .pair h7 (.bool true);have UK:w'.heap[p.block]? = some (.map jv aw):=(by rw [he _ hb];exact hh);simp only [Instr.lookup,Sem.run_bind,run_underlying hu,Result.andThen_ok,Sem.run_pure,Go.MapKept.run_getObj_map UK,kw hd uA,run_findKey hd h3];rename_i RL;have hf:=oQ SV RL;obtain⟨r',h3,h4⟩:=kG QI uN jv.toList 0 _ (by simpa using hl) (λj y f a b=>s3 j y f a (by simpa using b)) hf
   rcases h4 with ⟨_,rfl⟩|⟨j,v1,v',e',h5,_⟩;obtain⟨h1,z,rfl,h2⟩:=mL h m;refine⟨_,h1,λw' he=>?_⟩;have UK:w'.heap[p.block]? = some (.map jv aw):=(by rw [he _ hb];exact hh);simp only [Instr.lookup,Sem.run_bind,run_underlying hu,Result.andThen_ok,Sem.run_pure,Go.MapKept.run_getObj_map UK,kw hd uA,run_findKey hd h3,h2];cases h5;cases h
def xX (P:Program) (A:AW) (t:TypeId) (x:Option Value):Option (Value×AW):=
 match x with
 | none=>some (.map (some A.next),A.alloc (.map [] true))
 | some (.int _ _)=>
   match P.underlying t with
   | some (.map _ _)=>some (.map (some A.next),A.alloc (.map [] true))
   | _=>none
 | _=>none
theorem BP {m:Mp} {A:AW} {w:World} (hs:jp m A w) :
 jc m A w (m.ext A.next ⟨w.heap.size,0,0,0⟩) (A.alloc (.map [] true)) (w.alloc (.map #[] 0)):=
 jc.PT hs (.map [] true) ⟨w.heap.size,0,0,0⟩ rfl rfl rfl (by simp) (λb hb=>xI w _ b hb) (Nat.le_refl _)
  ⟨#[],0,[],List.Perm.nil,xJ w _,rfl,λk x e h=>by simp at h⟩
theorem CO {P:Program} {m:Mp} {A A1:AW} {w:World} (hs:jp m A w) {t:TypeId} {x x':Option Value} {v:Value} (h:xX P A t x=some (v,A1)) (hx:uQ m x x') :
 ∃v' w' m',(Instr.makeMap t x').run P w=.ok v' w'/\jc m A w m' A1 w'/\bu m' v v':=by
 unfold xX at h;split at h
 . cases x' with
   | some _=>exact hx.elim
   | none=>
     simp only [Option.some.injEq,Prod.mk.injEq] at h;obtain⟨rfl,rfl⟩:=h;refine⟨.map (some w.heap.size),_,_,?_,BP hs,.map ⟨⟨w.heap.size,0,0,0⟩,by simp [Mp.ext],rfl⟩⟩;simp only [Instr.makeMap,Sem.run_bind,Sem.run_pure,Result.andThen_ok,run_newObj];rfl
 . rename_i k n;cases x' with
   | none=>exact hx.elim
   | some x'=>
     split at h<;>try(cases h;done)
     rename_i kt e hu;simp only [Option.some.injEq,Prod.mk.injEq] at h;obtain⟨rfl,rfl⟩:=h;have Un:bu m (.int k n) x':=hx;cases Un;refine⟨.map (some w.heap.size),_,_,?_,BP hs,.map ⟨⟨w.heap.size,0,0,0⟩,by simp [Mp.ext],rfl⟩⟩;simp only [Instr.makeMap,Sem.run_bind,run_underlying hu,Result.andThen_ok,Ek,Sem.run_pure,run_newObj];rfl
 cases h
def ft (P:Program) (A:AW) (t:TypeId) (x k v:Value):Option AW:=
 match P.underlying t,x with
 | some (.map kt _),.map (some r)=>
   match P.underlying kt,A.bt r with
   | some d,some (.map es true)=>
     if lb d then
      match gb d k es 0 with
      | some (some (i,_))=>some (A.set r (some (.map (es.set i (k,v)) true)))
      | some none=>some (A.set r (some (.map (es++[(k,v)]) true)))
      | none=>none
     else none
   | _,_=>none
 | _,_=>none
theorem rJ {P:Program} {m:Mp} {A A1:AW} {w:World} (hs:jp m A w) {t:TypeId} {x x' k k' v v':Value} (h:ft P A t x k v=some A1)
 (hx:bu m x x') (hk:bu m k k') (hv:bu m v v'):∃w',(Instr.mapUpdate t x' k' v').run P w=.ok () w'/\jc m A w m A1 w':=by
 unfold ft at h;split at h<;>try(cases h;done)
 rename_i kt e r hu;split at h<;>try(cases h;done)
 rename_i d es hd hg;split at h<;>try(cases h;done)
 rename_i uA;obtain⟨p,hp,jv,aw,uN,SV,hh,hl,s3⟩:=hs.C4 _ _ hg;have hb:p.block<w.heap.size:=(Array.getElem?_eq_some_iff.1 hh).1;cases hx with
 | map hx=>
   rename_i r';obtain⟨p',LR,rfl⟩:=hx;rw [hp] at LR;injection LR with LR;subst LR;have BG:∀(o:Obj) (j:Nat),j≠p.block->(w.heap.setIfInBounds p.block o)[j]? = w.heap[j]?:=λo j hj=>by rw [Array.getElem?_setIfInBounds_ne (by omega)]
   have Fw:∀(o:Obj),(w.heap.setIfInBounds p.block o)[p.block]? = some o:=λo=>by simp [hb]
   split at h;rename_i i0 v0 RL;injection h with h;subst h;obtain⟨i,hf,kc⟩:=vy SV RL;obtain⟨r',h3,h4⟩:=kG hk uN jv.toList 0 _ (by simpa using hl) (λj y f a b=>s3 j y f a (by simpa using b)) hf;rcases h4 with ⟨h4,_⟩|⟨j,v1,v'',e',h5,rfl,h7,h8,h9⟩;cases h4;injection h5 with h5;injection h5 with h5 h6;simp only [Nat.zero_add] at h5 h3;subst h5;have hi:i<jv.size:=by
    have:=(List.getElem?_eq_some_iff.1 h8).1
    simpa using this
   have h8':jv[i]? = some e':=by simpa using h8
   have hkts:(Instr.keyThatStays (((jv[i]?).map (·.key)).getD k') k').run P w=.ok k' w:=by
    simp [h8',Instr.keyThatStays,Fv h9]
   refine⟨{ w with heap:=w.heap.setIfInBounds p.block (.map (jv.modify i λe=>{ e with key:=k',val:=v' }) aw) },?_,?_⟩;simp only [Instr.mapUpdate,Sem.run_bind,run_underlying hu,Result.andThen_ok,Go.MapKept.run_getObj_map hh,kw hd uA,run_findKey hd h3,hkts,Go.MapKept.run_setObj_map _ hh];refine jc.tq hs hg rfl rfl hp (by simp) rfl rfl rfl ⟨_,aw,uN.set i (k,v),kc _,Fw _,by simp [hl],λj y f a b=>?_⟩ (BG _);by_cases lL:i=j;subst lL;rw [List.getElem?_set_self (by omega)] at a;injection a with a;subst a;simp [Array.getElem?_modify,h8'] at b;subst b;exact⟨hk,hv⟩;rw [List.getElem?_set_ne lL] at a;rw [Array.getElem?_modify,ap lL] at b;exact s3 j y f a b;rename_i RL;injection h with h;subst h;have hf:=oQ SV RL;obtain⟨r',h3,h4⟩:=kG hk uN jv.toList 0 _ (by simpa using hl) (λj y f a b=>s3 j y f a (by simpa using b)) hf;rcases h4 with ⟨_,rfl⟩|⟨j,v1,v'',e',h5,_⟩;refine⟨{ w with heap:=w.heap.setIfInBounds p.block (.map (jv.push { key:=k',val:=v',born:=aw }) (aw+1)) },?_,?_⟩
   simp only [Instr.mapUpdate,Sem.run_bind,run_underlying hu,Result.andThen_ok,Go.MapKept.run_getObj_map hh,kw hd uA,run_findKey hd h3,Go.MapKept.run_setObj_map _ hh];refine jc.tq hs hg rfl rfl hp (by simp) rfl rfl rfl ⟨_,aw+1,uN++[(k,v)],SV.append_right _,Fw _,by simp [hl],λj y f a b=>?_⟩ (BG _);rw [List.getElem?_append] at a;rw [Array.getElem?_push] at b;by_cases hj:j<uN.length;rw [ay hj] at a;rw [ap (by omega)] at b;exact s3 j y f a b;rw [ap hj] at a;have uB:j=uN.length:=by
    have:=(List.getElem?_eq_some_iff.1 a).1;simp at this;omega
   subst uB;rw [ay hl] at b;simp at a b;subst a;subst b;exact⟨hk,hv⟩;cases h5;cases h
theorem eQ.xj {v:Value} (h:eQ v=true):v.oneCell'=true:=by
 unfold eQ at h;split at h<;>first|rfl|(cases h;done)
def Gz (P:Program) (A:AW) (t:TypeId) (x:Value):Option AW:=
 match P.underlying t,x with
 | some (.slice _),.slice none 0 0=>some A
 | some (.slice e),.slice (some p) n _=>
   if n=0 then some A else
   match P.info? e,A.bt p.block with
   | some i,some (.cells cs true unit)=>
     match i.zero with
     | some z=>
       if z.cells.size=i.size/\0<i.size/\z.cells.toList.all eQ/\p.off+n*i.size<=cs.length then
        some (A.set p.block (some (.cells (eD cs p.off (eJ z.cells.toList n)) true unit)))
       else none
     | none=>none
   | _,_=>none
 | _,_=>none
theorem Gy {P:Program} {m:Mp} {A A1:AW} {w:World} (hs:jp m A w) {t ty:TypeId} {x x':Value} (h:Gz P A t x=some A1) (hx:bu m x x') :
 ∃w',(Builtin.clear_ #[t] ty #[x']).run P w=.ok undef w'/\jc m A w m A1 w':=by
 unfold Gz at h;split at h<;>try(cases h;done)
 rename_i e hu;cases hx;injection h with h;subst h;exact⟨w,by simp [Builtin.clear_,run_underlying hu,undef],jc.refl hs⟩;rename_i e p n c hu;split at h;rename_i h0;subst h0;injection h with h;subst h;cases hx;exact⟨w,by simp [Builtin.clear_,run_underlying hu,undef],jc.refl hs⟩;rename_i h0;split at h<;>try(cases h;done)
 rename_i i cs unit hi hg;split at h<;>try(cases h;done)
 rename_i z hz;split at h<;>try(cases h;done)
 rename_i hc;obtain⟨nz,Kc,gJ,oH⟩:=hc;injection h with h;subst h;cases hx with
 | slice hh h1 h2=>
   rename_i p' gY;have ha:m6 m p p':=by
    rcases hh with hh|hh;exact hh.KT;omega
   obtain⟨yM,DM,q,hm,hb,ho⟩:=ha;have Pk:=pJ z.cells n (by omega);have jW:=mK gJ n;have b6:(eJ z.cells.toList n).length=n*i.size:=(by rw [iF];simp [nz])
   obtain⟨w',hr,ev⟩:=lx (P:=P) (o:=p.off) hm (eJ z.cells.toList n) (eJ z.cells.toList n) 0 cs A w hs hg (.mm jW m)
    (λv hv=>eQ.xj (List.all_eq_true.1 jW v hv)) (by omega)
   have ea:p'=⟨q.block,q.base+p.off,none⟩:=(by rw [ue p' DM,hb,ho]);subst ea;refine⟨w',?_,by simpa using ev⟩;have MV:(zeroValue e).run P w=.ok z w:=(by simp [zeroValue,typeInfo,hi,hz]);obtain⟨n,rfl⟩:=Nat.exists_eq_succ_of_ne_zero h0;have hzc':(Builtin.zeroCells z.cells (n+1)).toList=eJ z.cells.toList (n+1):=Pk;simp only [Builtin.clear_,List.getElem?_toArray,List.getElem?_cons_zero,Sem.run_bind,run_underlying hu,Result.andThen_ok,MV,hzc',hr,Sem.run_pure];rfl
def Qr (P:Program) (A:AW) (t:TypeId) (x y:Value):Option (Value×AW):=
 match P.underlying t,x,y with
 | some (.slice e),.slice (some p) n _,.slice (some b) m _=>
   if n=0\/m=0 then none else
   match P.info? e,A.bt p.block,A.cD b.block with
   | some i,some (.cells cs true unit),some ds=>
     if b.off+Nat.min m n*i.size<=ds.length/\p.off+Nat.min m n*i.size<=cs.length/\((ds.drop b.off).take (Nat.min m n*i.size)).all Value.oneCell' then
      some (.int .i64 (Nat.min m n:Nat),A.set p.block (some (.cells (eD cs p.off ((ds.drop b.off).take (Nat.min m n*i.size))) true unit)))
     else none
   | _,_,_=>none
 | _,_,_=>none
theorem IL {P:Program} {m:Mp} {A A1:AW} {w:World} (hs:jp m A w) {t u ty:TypeId} {x x' y y' v:Value} (h:Qr P A t x y=some (v,A1)) (hx:bu m x x') (hy:bu m y y') :
 ∃w',(Builtin.copy_ #[t,u] ty #[x',y']).run P w=.ok v w'/\jc m A w m A1 w'/\bu m v v:=by
 unfold Qr at h;split at h<;>try(cases h;done)
 rename_i e p n c b k d hu;split at h<;>try(cases h;done)
 rename_i h0;split at h<;>try(cases h;done)
 rename_i i cs unit ds hi hg hr;split at h<;>try(cases h;done)
 rename_i hc;obtain⟨h1,h2,h3⟩:=hc;simp only [Option.some.injEq,Prod.mk.injEq] at h;obtain⟨rfl,rfl⟩:=h;cases hx with
 | slice hh qa qb=>
   rename_i p' c';have ha:m6 m p p':=by
    rcases hh with hh|hh;exact hh.KT;omega
   cases hy with
   | slice hk qc qd=>
     rename_i b' d';have hb:m6 m b b':=by
      rcases hk with hk|hk;exact hk.KT;omega
     obtain⟨l',e1,e2,e3⟩:=tt hs hb hr (Nat.min k n*i.size) h1;have hf:=run_firstCells_some (P:=P) w i.size (Nat.min k n) b' k d' l' e1 e3;obtain⟨yM,DM,q,hm,H2,ho⟩:=ha
     obtain⟨w',hrn,ev⟩:=lx (P:=P) (o:=p.off) hm ((ds.drop b.off).take (Nat.min k n*i.size)) l' 0 cs A w hs hg e2
      (λv hv=>List.all_eq_true.1 h3 v hv) (by rw [List.length_take,List.length_drop];omega)
     have ea:p'=⟨q.block,q.base+p.off,none⟩:=(by rw [ue p' DM,H2,ho]);subst ea;refine⟨w',?_,by simpa using ev,.int _ _⟩;simp only [Builtin.copy_,List.getElem?_toArray,List.getElem?_cons_zero,List.getElem?_cons_succ,Sem.run_bind,run_underlying hu,Result.andThen_ok,Builtin.lenOf,Sem.run_pure,fa hi,hf,hrn];rfl
def mY (P:Program) (A:AW) (t u:TypeId) (s x:Value):Option (Value×AW):=
 match P.underlying t,P.underlying u,x with
 | some (.slice e),some (.int _),.int _ q=>
   match P.info? e with
   | some i=>
     match i.zero with
     | some z=>
       match fQ A i.size s with
       | some (base,k,sf)=>
         if z.cells.size=i.size/\0<i.size/\z.cells.toList.all eQ/\0<=q/\k+q.toNat<=140737488355328/\(k+q.toNat)*i.bytes<=140737488355328 then
          if q.toNat=0 then some (s,A)
          else some (.slice (some ⟨A.next,0,none⟩) (k+q.toNat) (k+q.toNat),((match base with|some a=>A.set a.block none|none=>A)).alloc (.cells (sf++eJ z.cells.toList q.toNat) true i.size))
         else none
       | none=>none
     | none=>none
   | none=>none
 | _,_,_=>none
theorem yB {P:Program} (w:World) (t tn ty e:TypeId) (i:TypeInfo) (kn kq:IntKind) (ht:P.underlying t=some (.slice e)) (htn:P.underlying tn=some (.int kn)) (hi:P.info? e=some i)
 (base:Option Addr) (n c:Nat) (hc:n<=c):(Builtin.append_ #[t,tn] ty #[.slice base n c,.int kq 0]).run P w=.ok (.slice base n c) w:=by
 have hw:IntKind.i64.wrap (0:Int)=0:=rfl;cases base<;>simp [Builtin.append_,run_underlying ht,run_underlying htn,sizeOf,typeInfo,hi,asInt,asIntOf,hw,hc,storeCells]
theorem yC {P:Program} (w:World) (t tn ty e:TypeId) (i:TypeInfo) (z:Value) (kn kq:IntKind) (ht:P.underlying t=some (.slice e)) (htn:P.underlying tn=some (.int kn)) (hi:P.info? e=some i) (hz:i.zero=some z)
 (g o iv m7 m:Nat) (ik:Array Value) (e':TypeId) (hg:w.heap[g]? = some (.cells ik e' (0,0))) (h0:0<m) (hs:0<i.size) (h48:m*i.bytes<=281474976710656) (h63:(m:Int)<=9223372036854775807)
 (h1:∀u∈(Builtin.zeroCells z.cells m).toList,u.oneCell'=true) (B5:iv+m<=m7) (oH:o+iv*i.size+(Builtin.zeroCells z.cells m).toList.length<=ik.size) :
 (Builtin.append_ #[t,tn] ty #[.slice (some ⟨g,o,none⟩) iv m7,.int kq m]).run P w =
  .ok (.slice (some ⟨g,o,none⟩) (iv+m) m7) (w.setRow g (ik.toList.take (o+iv*i.size)++(Builtin.zeroCells z.cells m).toList++ik.toList.drop (o+iv*i.size+(Builtin.zeroCells z.cells m).toList.length)).toArray):=by
 have hk:m≠0:=by omega
 have hw:IntKind.i64.wrap (m:Int)=m:=an (by omega) h63;have h48i:¬(281474976710656<(m:Int)*(i.bytes:Int)):=by
  rw [<-Int.natCast_mul];omega
 have HY:¬((m:Int)<0):=by omega
 have hns:¬(m*i.size=0):=Nat.mul_ne_zero hk (by omega);have cL:=run_storeCells_at P g (o+iv*i.size) e' (Builtin.zeroCells z.cells m).toList 0 ik w hg (by simpa using oH) h1;simp only [Nat.add_zero] at cL;have ea:(⟨g,o,none⟩:Addr).add (iv*i.size)=⟨g,o+iv*i.size,none⟩:=mX _ _ rfl;simp [Builtin.append_,run_underlying ht,run_underlying htn,sizeOf,typeInfo,zeroValue,hi,hz,asInt,asIntOf,hw,HY,hns,h48i,B5,ea,cL]
theorem DX {P:Program} {m:Mp} {A A1:AW} {w:World} (hs:jp m A w) {t u ty:TypeId} {s x s' x' v:Value} (h:mY P A t u s x=some (v,A1))
 (Ka:bu m s s') (hvx:bu m x x') :
 ∃v' w' m',(Builtin.append_ #[t,u] ty #[s',x']).run P w=.ok v' w'/\jc m A w m' A1 w'/\bu m' v v':=by
 unfold mY at h;split at h<;>try(cases h;done)
 rename_i e kn kq q hu VS;cases hvx;split at h<;>try(cases h;done)
 rename_i i hi;split at h<;>try(cases h;done)
 rename_i z hz;split at h<;>try(cases h;done)
 rename_i base k sf ho;split at h<;>try(cases h;done)
 rename_i xK;obtain⟨nz,td,gJ,MX,N5,ks⟩:=xK;obtain⟨n,rfl⟩:=Int.eq_ofNat_of_zero_le MX;simp only [Int.toNat_natCast] at h N5 ks;by_cases C6:n=0;subst C6;rw [ay rfl] at h;simp only [Option.some.injEq,Prod.mk.injEq] at h;obtain⟨rfl,rfl⟩:=h;have HV:∃b' n' c',s'=.slice b' n' c'/\n'<=c':=by
  unfold fQ at ho;split at ho;cases Ka;exact⟨_,_,_,rfl,Nat.le_refl _⟩
  . cases Ka with
    | slice _ h1 h2=>exact⟨_,_,_,rfl,Nat.le_trans h1 h2⟩
  cases ho
 obtain⟨b',n',c',rfl,fo⟩:=HV;exact⟨_,w,m,yB w t u ty e i kn kq hu VS hi b' n' c' fo,jc.refl hs,Ka⟩;rw [ap C6] at h;simp only [Option.some.injEq,Prod.mk.injEq] at h;obtain⟨rfl,rfl⟩:=h;have Pk:(Builtin.zeroCells z.cells n).toList=eJ z.cells.toList n:=pJ z.cells n (by omega);have jW:=mK gJ n;have mS:∀v∈eJ z.cells.toList n,v.oneCell'=true:=λv hv=>eQ.xj (List.all_eq_true.1 jW v hv);have Aj:n*i.bytes<=140737488355328:=Nat.le_trans (Nat.mul_le_mul_right _ (Nat.le_add_left n k)) ks;have hl:(Builtin.zeroCells z.cells n).toList.length=n*i.size:=by rw [Pk,iF];simp [nz]
 refine zQ hs (ts:=#[t,u]) (X:=.int kq n) (l':=(Builtin.zeroCells z.cells n).toList) (e:=e) (i:=i) (z:=z) nz C6 N5 ks mS hl (by rw [Pk];exact .mm jW m) ho Ka ?_ ?_ ?_;intro _ _ hk;have:=Go.Lib.run_append_nil_zeros (P:=P) w t u ty e i z kq kn hu VS hi hz n (by omega) td (by omega) (by omega)
 simpa using this
 intro b iv m7 lo hk h1 h2 h3;have hf:=run_firstCells_some (P:=P) w.drew i.size iv b iv m7 lo h1 (by simpa using h2);have:=Go.Lib.run_append_grow_zeros (P:=P) w t u ty e i z kq kn hu VS hi hz (some b) iv m7 lo hf n (by omega) td h3 (by omega) (by omega) (growslice_fits h3 (by subst hk;exact ks))
 simpa using this
 intro g o iv m7 ik e' h1 h2 h3;exact yC w t u ty e i z kn kq hu VS hi hz g o iv m7 n ik e' h1 (by omega) td (by omega) (by omega) (by rw [Pk];exact mS) h2 h3
end Go.Stx
namespace Go.Stx
open Go
variable [Gl]
def nY (P:Program) (eq:TypeId->Value->Value->Option Bool) (xs ys:Array Value):List Field->Option Bool
 | []=>some true
 | f::r=>
   if f.name = "_" then nY P eq xs ys r else
   match apart P f.type xs f.offset,apart P f.type ys f.offset with
   | some a,some b=>
     match eq f.type a b,nY P eq xs ys r with
     | some p,some q=>some (p && q)
     | _,_=>none
   | _,_=>none
def tY (P:Program) (eq:Value->Value->Option Bool) (e:TypeId) (size:Nat) (xs ys:Array Value):List Nat->Option Bool
 | []=>some true
 | i::r=>
   match apart P e xs (i*size),apart P e ys (i*size) with
   | some a,some b=>
     match eq a b,tY P eq e size xs ys r with
     | some p,some q=>some (p && q)
     | _,_=>none
   | _,_=>none
def sK (P:Program):Nat->TypeId->Value->Value->Option Bool
 | 0,_,_,_=>none
 | d+1,t,x,y=>
   match P.underlying t,x,y with
   | some .bool,.bool a,.bool b=>some (a == b)
   | some (.int _),.int k a,.int k' b=>if k=k' then some (decide (a=b)) else none
   | some .string,.string a,.string b=>some (a.toList == b.toList)
   | some (.struct fs),.agg xs,.agg ys=>if P.stoodInHeld t then none else nY P (sK P d) xs ys fs.toList
   | some (.array n e),.agg xs,.agg ys=>
     match P.info? e with
     | some i=>tY P (sK P d e) e i.size xs ys (List.range n)
     | none=>none
   | _,_,_=>none
theorem oJ {P:Program} {m:Mp} {n d:Nat} (ih:∀(t:TypeId) (x y x' y':Value) (r:Bool),sK P n t x y=some r->bu m x x'->bu m y y'->∀w,(Op.equalIn d t x' y').run P w=.ok r w)
 {xs ys Wk Wj:Array Value} (hx:bu m (.agg xs) (.agg Wk)) (hy:bu m (.agg ys) (.agg Wj)) (w:World):∀(fs:List Field) (r:Bool),nY P (sK P n) xs ys fs=some r->
 (Op.eqFields d Wk Wj fs).run P w=.ok r w
 | [],r,h=>by injection h with h;subst h;rfl
 | f::fs,r,h=>by
   unfold nY at h;split at h;rename_i hn;simp only [Op.eqFields,hn,ne_eq,not_true_eq_false,if_false];exact oJ ih hx hy w fs r h;rename_i hn;split at h<;>try(cases h;done)
   rename_i a b ha hb;split at h<;>try(cases h;done)
   rename_i p q hp hq;injection h with h;subst h;obtain⟨a',h1,h2⟩:=j4 (P:=P) ha hx;obtain⟨b',h3,h4⟩:=j4 (P:=P) hb hy;have h5:=ih _ _ _ _ _ _ hp h1 h3 w;have h6:=oJ ih hx hy w fs q hq;simp only [Op.eqFields,ne_eq,hn,not_false_eq_true,if_true,Sem.run_bind,h2,h4,h5,Result.andThen_ok];cases p;rfl;simp only [Bool.not_true,Bool.false_eq_true,if_false,h6,Bool.true_and]
theorem vg {P:Program} {m:Mp} {d size:Nat} {e:TypeId} {eq:Value->Value->Option Bool}
 (ih:∀(x y x' y':Value) (r:Bool),eq x y=some r->bu m x x'->bu m y y'->∀w,(Op.equalIn d e x' y').run P w=.ok r w)
 {xs ys Wk Wj:Array Value} (hx:bu m (.agg xs) (.agg Wk)) (hy:bu m (.agg ys) (.agg Wj)) (w:World):∀(is:List Nat) (r:Bool),tY P eq e size xs ys is=some r->
 (Op.eqItems d e size Wk Wj is).run P w=.ok r w
 | [],r,h=>by injection h with h;subst h;simp [Op.eqItems]
 | i::is,r,h=>by
   unfold tY at h;split at h<;>try(cases h;done)
   rename_i a b ha hb;split at h<;>try(cases h;done)
   rename_i p q hp hq;injection h with h;subst h;obtain⟨a',h1,h2⟩:=j4 (P:=P) ha hx;obtain⟨b',h3,h4⟩:=j4 (P:=P) hb hy;have h5:=ih _ _ _ _ _ hp h1 h3 w;have h6:=vg ih hx hy w is q hq;simp only [Op.eqItems,Sem.run_bind,h2,h4,h5,Result.andThen_ok];cases p;simp;simp [h6]
theorem nO {P:Program} {m:Mp}:∀(n d:Nat) (t:TypeId) (x y x' y':Value) (r:Bool),n<=d->sK P n t x y=some r->bu m x x'->bu m y y'->
 ∀w,(Op.equalIn d t x' y').run P w=.ok r w
 | 0,d,t,x,y,x',y',r,_,h,_,_,w=>by cases h
 | n+1,0,t,x,y,x',y',r,hd,h,hx,hy,w=>by omega
 | n+1,d+1,t,x,y,x',y',r,hd,h,hx,hy,w=>by
   unfold sK at h;split at h<;>try(cases h;done)
   rename_i hu;cases hx;cases hy;injection h with h;subst h;simp [Op.equalIn,run_underlying hu]
   . rename_i hu;cases hx;cases hy;split at h<;>try(cases h;done)
     rename_i hk;injection h with h;subst h;subst hk;simp [Op.equalIn,run_underlying hu];rfl
   rename_i hu;cases hx;cases hy;injection h with h;subst h;exact run_equalIn_string w d t _ _ hu
   . rename_i fs xs ys hu;split at h<;>try(cases h;done)
     rename_i hp;have LK:=hx;have VM:=hy;cases hx;cases hy;have hfo:P.fieldsOf t=fs:=(by simp [Program.fieldsOf,hu]);rw [run_equalIn_struct w d t _ _ (by rw [hfo];exact hu) (by simpa using hp),hfo];exact oJ (λt x y x' y' r h1 h2 h3 w=>nO n d t x y x' y' r (by omega) h1 h2 h3 w) LK VM w _ _ h
   rename_i k e xs ys hu;split at h<;>try(cases h;done)
   rename_i i hi;have LK:=hx;have VM:=hy;cases hx;cases hy;rw [run_equalIn_array w d _ _ hu hi];have hce:P.cellsOf e=i.size:=(by simp [Program.cellsOf,hi]);rw [hce];exact vg (λx y x' y' r h1 h2 h3 w=>nO n d e x y x' y' r (by omega) h1 h2 h3 w) LK VM w _ _ h
theorem ou {P:Program} {t:TypeId} {x y:Array TypeId} {b:Bool} (d:Nat) (fn:Fn) (p q:Array Value) (hu:P.underlying t=some (.func x y b)) (w:World) :
 (Op.equalIn (d+1) t (.func fn p q) .nilFunc).run P w=.ok false w:=by
 simp [Op.equalIn,run_underlying hu]
theorem nv {P:Program} {t:TypeId} {x y:Array TypeId} {b:Bool} (d:Nat) (hu:P.underlying t=some (.func x y b)) (w:World) :
 (Op.equalIn (d+1) t .nilFunc .nilFunc).run P w=.ok true w:=by
 simp [Op.equalIn,run_underlying hu]
def Mb (P:Program) (op:BinOp) (t:TypeId) (x y:Value):Option Value:=
 match x,y with
 | .agg xs,.agg ys=>
   if P.eqGuardType P.depth t then none else
   match op with
   | .eql=>(sK P 8 t (.agg xs) (.agg ys)).map .bool
   | .neq=>(sK P 8 t (.agg xs) (.agg ys)).map λb=>.bool (!b)
   | _=>none
 | .slice a _ _,.slice none 0 0=>
   match op,P.underlying t with
   | .eql,some (.slice _)=>some (.bool a.isNone)
   | .neq,some (.slice _)=>some (.bool (!a.isNone))
   | _,_=>none
 | .map a,.map none=>
   match op,P.underlying t with
   | .eql,some (.map _ _)=>some (.bool a.isNone)
   | .neq,some (.map _ _)=>some (.bool (!a.isNone))
   | _,_=>none
 | .func _ _ _,.nilFunc=>
   match op,P.underlying t with
   | .eql,some (.func _ _ _)=>some (.bool false)
   | .neq,some (.func _ _ _)=>some (.bool true)
   | _,_=>none
 | .nilFunc,.nilFunc=>
   match op,P.underlying t with
   | .eql,some (.func _ _ _)=>some (.bool true)
   | .neq,some (.func _ _ _)=>some (.bool false)
   | _,_=>none
 | x,y=>Sn P op t x y
theorem zZ {P:Program} {op:BinOp} {t:TypeId} {x y v:Value} (h:Mb P op t x y=some v) {m:Mp} {x' y':Value} (hx:bu m x x') (hy:bu m y y') (xo yo:Operand) (w:World) :
 (do eqGuard op t xo yo x' y';binOp op t x' y':Sem Value).run P w=.ok v w/\bu m v v:=by
 unfold Mb at h;split at h
 . rename_i xs ys;split at h<;>try(cases h;done)
   rename_i hg;have LK:=hx;have VM:=hy;cases hx;cases hy;have Kk:P.eqGuardType P.depth t=false:=by simpa using hg
   rw [Sem.run_bind,run_eqGuard_agg w op t xo yo _ _ Kk,Result.andThen_ok];cases op<;>simp only at h<;>(try (cases h;done));obtain⟨r,h1,rfl⟩:=Option.map_eq_some_iff.1 h;exact⟨by rw [run_eql_struct,nO 8 10000 t _ _ _ _ r (by omega) h1 LK VM w];rfl,by constructor⟩;obtain⟨r,h1,rfl⟩:=Option.map_eq_some_iff.1 h;exact⟨by rw [run_neq_struct,nO 8 10000 t _ _ _ _ r (by omega) h1 LK VM w];rfl,by constructor⟩
 rename_i a n c;have key:∀(a':Option Addr) (n' c':Nat) (e:TypeId),P.underlying t=some (.slice e)->(Op.equal t (.slice a' n' c') (.slice none 0 0)).run P w=.ok a'.isNone w:=λa' n' c' e hu=>run_equal_slice_nil w t e a' n' c' hu;have Un:∃a' n' c',x'=.slice a' n' c'/\a'.isNone=a.isNone:=by
  cases hx<;>exact⟨_,_,_,rfl,rfl⟩
 obtain⟨a',n',c',rfl,ha⟩:=Un;cases hy;split at h;rename_i hu;injection h with h;subst h;exact⟨by simp [eqGuard,binOp,key _ _ _ _ hu,ha],by constructor⟩
 rename_i hu;injection h with h;subst h;exact⟨by simp [eqGuard,binOp,key _ _ _ _ hu,ha],by constructor⟩
 cases h;rename_i a;have key:∀(a':Option Nat) (k e:TypeId),P.underlying t=some (.map k e)->(Op.equal t (.map a') (.map none)).run P w=.ok a'.isNone w:=λa' k e hu=>run_equal_map_nil w t k e a' hu;have Un:∃a',x'=.map a'/\a'.isNone=a.isNone:=by
  cases hx<;>exact⟨_,rfl,rfl⟩
 obtain⟨a',rfl,ha⟩:=Un;cases hy;split at h;rename_i hu;injection h with h;subst h;exact⟨by simp [eqGuard,binOp,key _ _ _ hu,ha],by constructor⟩
 rename_i hu;injection h with h;subst h;exact⟨by simp [eqGuard,binOp,key _ _ _ hu,ha],by constructor⟩
 cases h;cases hy;cases hx;split at h;rename_i hu;injection h with h;subst h;exact⟨by simp [eqGuard,binOp,fq (ou _ _ _ _ hu w)],by constructor⟩
 rename_i hu;injection h with h;subst h;exact⟨by simp [eqGuard,binOp,fq (ou _ _ _ _ hu w)],by constructor⟩
 cases h;cases hy;cases hx;split at h;rename_i hu;injection h with h;subst h;exact⟨by simp [eqGuard,binOp,fq (nv _ hu w)],by constructor⟩
 rename_i hu;injection h with h;subst h;exact⟨by simp [eqGuard,binOp,fq (nv _ hu w)],by constructor⟩
 cases h;exact K8 h hx hy xo yo w
end Go.Stx
namespace Go.Stx
open Go
variable [Gl]
abbrev Fr:=Nat->Value
def kQ (a:Fr) (i:Nat) (v:Value):Fr:=λj=>if j=i then v else a j
def ew (a:Fr) (d:Option Tmp) (v:Value):Fr:=
 match d with
 | some i=>kQ a i v
 | none=>a
def iO (a:Fr):Operand->Value
 | .tmp t=>a t
 | .const v=>v
 | .global g=>.pointer (some ⟨g,0,none⟩)
 | .func f=>.func (.func f) #[] #[]
def NN (w w':World):Prop:=∀b,b<w.heap.size->w'.heap[b]? = w.heap[b]?
theorem NN.refl (w:World):NN w w:=λ_ _=>rfl
theorem NN.cell {w w':World} (h:NN w w') {a:Addr} {v:Value} (hc:w.cell? a=some v):w'.cell? a=some v:=by
 have hb:=World.block_lt_of_cell? w a hc;rw [World.cell?_of_block (h _ hb)];exact hc
theorem NN.C2 {m:Mp} {A:AW} {w w':World} (h:NN w w') (hs:jp m A w):jp m A w':=by
 refine⟨λi o hi=>?_,hs.inj,hs.pI,hs.DE,λb x hb=>?_,hs.xz,hs.tJ⟩
 rotate_left
 have h1:=hs.laid b x hb;rw [h b (Array.getElem?_eq_some_iff.1 h1).1];exact h1;obtain⟨p,h1,h2⟩:=hs.C4 i o hi;have hb:=hs.iy hi h1;exact⟨p,h1,h2.heap (h _ hb)⟩
theorem NG {P:Program} {m:Mp} {A:AW} {w:World} (hs:jp m A w) {t:TypeId} {p p':Addr} {v:Value} (h:i9 P A t p=some v) (hp:m6 m p p') :
 ∃v',bu m v v'/\∀w',NN w w'->(loadVar t p').run P w'=.ok v' w':=by
 unfold i9 at h;split at h;rename_i cs hr ha;obtain⟨v',h1,h2⟩:=xU hs hp hr (k:=0) (by simpa using h);have e:p'.add 0=p':=by unfold Addr.add;simp
 rw [e] at h1;refine⟨v',h2,λw' hx=>?_⟩;simp only [loadVar,Sem.run_bind,nT ha,Result.andThen_ok,Bool.false_eq_true,if_false,run_load,hx.cell h1];rename_i cs hr ha;split at h;rename_i i hi;split at h;rename_i fo;injection h with h;subst h;obtain⟨l',hl,h1,h2⟩:=tt hs hp hr i.size fo;refine⟨.agg l'.toArray,.pq h1,λw' hx=>?_⟩;have h3:=run_loadCells_list (P:=P) w' p' l' (λj v hv=>hx.cell (h2 j v hv));rw [hl] at h3;simp only [loadVar,Sem.run_bind,nT ha,Result.andThen_ok,if_true,fa hi,h3,Sem.run_pure];cases h;cases h;cases h
def K5 (P:Program) (op:BinOp) (t:TypeId) (x:Value):Option Value:=
 match P.underlying t,op,x with
 | some (.interface _),.eql,.nilIface=>some (.bool true)
 | some (.interface _),.neq,.nilIface=>some (.bool false)
 | some (.interface _),.eql,.iface _ _=>some (.bool false)
 | some (.interface _),.neq,.iface _ _=>some (.bool true)
 | _,_,_=>none
theorem ma {P:Program} {t:TypeId} {ms:Array (String×TypeId)} (d:Nat) (hu:P.underlying t=some (.interface ms)) (w:World) :
 (Op.equalIn (d+1) t .nilIface .nilIface).run P w=.ok true w:=by simp [Op.equalIn,run_underlying hu]
theorem mc {P:Program} {t u:TypeId} {v:Value} {ms:Array (String×TypeId)} (d:Nat) (hu:P.underlying t=some (.interface ms)) (w:World) :
 (Op.equalIn (d+1) t (.iface u v) .nilIface).run P w=.ok false w:=by simp [Op.equalIn,run_underlying hu]
theorem ya {P:Program} {m:Mp} {op:BinOp} {t:TypeId} {x x' v:Value} (h:K5 P op t x=some v) (hx:bu m x x') (xo:Operand) (w:World) :
 (do eqGuard op t xo (.const .nilIface) x' .nilIface;binOp op t x' .nilIface:Sem Value).run P w=.ok v w/\bu m v v:=by
 unfold K5 at h;split at h;rename_i hu;injection h with h;subst h;cases hx
 exact⟨by rw [eqGuard_nil_constR];simp [binOp,fq (ma _ hu w)],by constructor⟩;rename_i hu;injection h with h;subst h;cases hx
 exact⟨by rw [eqGuard_nil_constR];simp [binOp,fq (ma _ hu w)],by constructor⟩;rename_i hu;injection h with h;subst h;cases hx
 exact⟨by simp [eqGuard,binOp,fq (mc _ hu w)],by constructor⟩;rename_i hu;injection h with h;subst h;cases hx
 exact⟨by simp [eqGuard,binOp,fq (mc _ hu w)],by constructor⟩;cases h
def Sb:List Value->Option (List Int)
 | []=>some []
 | .int .u8 n::l=>(Sb l).map (n::·)
 | _::_=>none
theorem Sa (l:List Value):∀(xs:List Int),Sb l=some xs->l=xs.map (Value.int .u8):=by
 induction l with
 | nil=>intro xs h;injection h with h;subst h;rfl
 | cons v l ih=>
   intro xs h;unfold Sb at h;split at h;rename_i e;cases e;rename_i n l' e;injection e with e1 e2;subst e1;subst e2;obtain⟨ys,h1,rfl⟩:=Option.map_eq_some_iff.1 h;rw [ih ys h1];rfl;cases h
def GD (P:Program) (A:AW) (s d:TypeId) (x:Value):Option Value:=
 match P.underlying s,P.underlying d,x with
 | some (.slice e),some .string,.slice (some p) n _=>
   match P.underlying e,A.cD p.block with
   | some (.int .u8),some cD=>
     if p.off+n<=cD.length then
      match Sb ((cD.drop p.off).take n) with
      | some xs=>some (.string (strOfNums xs))
      | none=>none
     else none
   | _,_=>none
 | _,_,_=>none
theorem GC {P:Program} {m:Mp} {A:AW} {w:World} (hs:jp m A w) {s d:TypeId} {x x' v:Value} (h:GD P A s d x=some v) (hx:bu m x x') :
 ∃v',bu m v v'/\∀w',NN w w'->(convert s d x').run P w'=.ok v' w':=by
 unfold GD at h;split at h;rename_i e p n c HV sR;split at h;rename_i cD he cH;split at h;rename_i fo;split at h
 . rename_i xs hxs;injection h with h;subst h;have e1:=Sa _ _ hxs;have b6:xs.length=n:=by
    have:=congrArg List.length e1;simp at this;omega
   cases hx with
   | slice hr h1 h2=>
     rename_i a' gY;refine⟨_,by constructor,λw' hw=>?_⟩;rcases hr with hr|⟨rfl,rfl,_⟩;obtain⟨l',h3,h4,h5⟩:=tt hs hr.KT cH n fo;have ha:=ue a' hr.2.1;rw [ha];refine run_convert_bytes_arg w' s e HV he a'.block a'.off n gY xs b6 (λi hi=>?_) d sR;have hv:=h4.2 i (.int .u8 (xs.getD i 0)) (l'[i]'(by omega)) (by rw [e1];simp [List.getD,List.getElem?_eq_getElem (show i<xs.length by omega)]) (List.getElem?_eq_getElem (by omega));have h6:=h5 i _ (List.getElem?_eq_getElem (by omega));rw [mX _ _ hr.2.1] at h6;generalize l'[i]=z at hv h6;cases hv;exact hw.cell h6;have:xs=[]:=List.eq_nil_of_length_eq_zero (by omega);subst this;have ha:(convert s d (.slice (some a') 0 0)).run P w'=.ok (.string (strOfNums [])) w':=by
      rw [run_convert_bytes_string w' s d e _ 0 0 HV he sR,run_bytesToString w' _ 0 0 [] rfl];rfl
     exact ha
 cases h;cases h;cases h;cases h
def rg (r:Operand->Value) (ps:Array (Nat×Operand)):List (Nat×Value):=ps.toList.map λx=>(x.1,r x.2)
def aq (P:Program) (A:AW) (r:Operand->Value):Op->Option Value
 | .move x=>some (r x)
 | .assign x=>some (r x)
 | .pick c x y=>
   match r c with
   | .bool b=>some (if b then r x else r y)
   | _=>none
 | .build t ps=>GF P t (rg r ps)
 | .load t x=>
   match r x with
   | .pointer (some p)=>i9 P A t p
   | _=>none
 | .nilCheck x=>
   match r x with
   | .pointer (some p)=>some (.pointer (some p))
   | _=>none
 | .binOp op t x y _=>
   match y,r y with
   | .const .nilIface,.nilIface=>K5 P op t (r x)
   | _,_=>Mb P op t (r x) (r y)
 | .unOp op _ x=>aun op (r x)
 | .convert s d x=>
   match Ma P s d (r x) with
   | some v=>some v
   | none=>GD P A s d (r x)
 | .makeInterface t x=>sG P t (r x)
 | .slice t x lo hi mx=>
   match mx with
   | none=>wJ P A t (r x) (lo.map r) (hi.map r) none
   | some q=>AO P t (r x) (lo.map r) (hi.map r) (r q)
 | .lookup t x ix c=>xZ P A t (r x) (r ix) c
 | .fieldAddr s x f=>sJ P s (r x) f
 | .field t x f=>Gu P t (r x) f
 | .indexAddr t x ix=>sH P t (r x) (r ix)
 | .index t x ix=>Gs P t (r x) (r ix)
 | .extract t i=>
   match r t with
   | .tuple vs=>vs[i]?
   | _=>none
 | .makeFunc fn fs cs=>some (.func fn (fs.map r) (cs.map r))
 | .call c=>
   match c.callee,c.args.toList,c.argTypes.toList with
   | .builtin .len,[x],[t]=>ln P t (r x)
   | .builtin .min,[x,y],_=>Qm false [r x,r y]
   | .builtin .max,[x,y],_=>Qm true [r x,r y]
   | _,_,_=>none
 | _=>none
theorem uQ.map {m:Mp} {r r':Operand->Value} (x:Option Operand) (h:∀y,x=some y->bu m (r y) (r' y)):uQ m (x.map r) (x.map r'):=by
 cases x with
 | none=>trivial
 | some y=>exact h y rfl
theorem ND {α:Type} {a:Array α} {x y:α} (h:a.toList=[x,y]):a = #[x,y]:=by
 apply Array.ext';exact h
theorem Se {α:Type} {a:Array α} {x:α} (h:a.toList=[x]):a = #[x]:=by
 apply Array.ext';exact h
theorem Qk {P:Program} {m:Mp} {A:AW} {w:World} (hs:jp m A w) {o:Oper} {r r':Operand->Value} {v:Value} (hr:∀x∈o.op.operands,bu m (r x) (r' x))
 (h:aq P A r o.op=some v):∃v',bu m v v'/\∀w',NN w w'->(execOp r' o).run P w'=.ok (.value v') w':=by
 obtain⟨dst,op,ty,WB,after,guard⟩:=o;have rB:∀{s:Sem Value} {v':Value} {w':World},s.run P w'=.ok v' w'->(do pure (.value (<-s)):Sem Next).run P w'=.ok (.value v') w':=λ{s v' w'} e=>by
  simp only [Sem.run_bind,e,Result.andThen_ok,Sem.run_pure]
 cases op<;>simp only [aq] at h<;>(try (cases h;done))
 case move x=>
  injection h with h;subst h;exact⟨r' x,hr x (by simp [Op.operands]),λw' _=>by simp [execOp]⟩
 case assign x=>
  injection h with h;subst h;exact⟨r' x,hr x (by simp [Op.operands]),λw' _=>by simp [execOp]⟩
 case pick c x y=>
  have hc:=hr c (by simp [Op.operands]);split at h;rename_i b hb;rw [hb] at hc;injection h with h;subst h;generalize tH:r' c=c' at hc;cases hc;refine⟨if b then r' x else r' y,?_,λw' _=>by simp [execOp,tH,asBool]⟩;cases b;exact hr y (by simp [Op.operands]);exact hr x (by simp [Op.operands]);cases h
 case build t ps=>
  obtain⟨v',h1,h2⟩:=GE (P:=P) (m:=m) (gk:=ps.map fun(i,x)=>(i,r' x)) h (by simp [rg]) (λk p p' h1 h2=>by
   simp only [rg,List.getElem?_map,Array.getElem?_toList,Option.map_eq_some_iff,Array.getElem?_map] at h1 h2;obtain⟨q,h3,rfl⟩:=h1;obtain⟨q',h4,rfl⟩:=h2;rw [h3] at h4;injection h4 with h4;subst h4;exact⟨rfl,hr q.2 (by simp only [Op.operands,List.mem_toArray,List.mem_map];exact⟨q,Array.mem_toList_iff.2 (Array.mem_of_getElem? h3),rfl⟩)⟩)
  exact⟨v',h1,λw' _=>rB (h2 w')⟩
 case load t x=>
  have hx:=hr x (by simp [Op.operands]);split at h
  . rename_i p hp;rw [hp] at hx;generalize tH:r' x=x' at hx;cases hx with
    | Hn ha=>
      obtain⟨v',h1,h2⟩:=NG (P:=P) hs h ha;exact⟨v',h1,λw' hw=>by simp [execOp,tH,Instr.loadAt,Instr.sureAddr,h2 w' hw]⟩
  cases h
 case nilCheck x=>
  have hx:=hr x (by simp [Op.operands]);split at h
  . rename_i p hp;rw [hp] at hx;generalize tH:r' x=x' at hx;injection h with h;subst h;cases hx with
    | Hn ha=>exact⟨_,.Hn ha,λw' hw=>by simp [execOp,tH]⟩
  cases h
 case binOp op t x y ty'=>
  have hx:=hr x (by simp [Op.operands]);have hy:=hr y (by simp [Op.operands]);split at h;rename_i e;rw [e] at hy;have Ul:r' (.const .nilIface)=.nilIface:=by generalize r' (.const .nilIface)=z at hy;cases hy;rfl
  exact⟨v,(ya h hx x w).2,λw' _=>rB (by rw [Ul];exact(ya h hx x w').1)⟩;exact⟨v,(zZ h hx hy x x w).2,λw' _=>rB (zZ h hx hy x _ w').1⟩
 case unOp op t x=>
  have hx:=hr x (by simp [Op.operands]);exact⟨v,(ET (P:=P) h hx w).2,λw' _=>rB (ET h hx w').1⟩
 case convert s d x=>
  have hx:=hr x (by simp [Op.operands]);split at h;rename_i v0 h0;injection h with h;subst h;exact⟨v0,(zU h0 hx w).2,λw' _=>rB (zU h0 hx w').1⟩;obtain⟨v',h1,h2⟩:=GC hs h hx;exact⟨v',h1,λw' hw=>rB (h2 w' hw)⟩
 case makeInterface t x=>
  obtain⟨v',h1,h2⟩:=y8 h (hr x (by simp [Op.operands]));exact⟨v',h1,λw' _=>rB (h2 w')⟩
 case slice t x lo hi mx=>
  cases mx with
  | none=>
    obtain⟨v',h1,h2⟩:=Gk hs (SI:=none) h (hr x (by simp [Op.operands])) (uQ.map (r':=r') lo λy e=>hr y (by simp [Op.operands,e])) (uQ.map (r':=r') hi λy e=>hr y (by simp [Op.operands,e])) trivial;exact⟨v',h1,λw' _=>rB (h2 w')⟩
  | some q=>
    obtain⟨v',h1,h2⟩:=DV h (hr x (by simp [Op.operands])) (uQ.map (r':=r') lo λy e=>hr y (by simp [Op.operands,e])) (uQ.map (r':=r') hi λy e=>hr y (by simp [Op.operands,e])) (hr q (by simp [Op.operands]));exact⟨v',h1,λw' _=>rB (h2 w')⟩
 case lookup t x ix c=>
  obtain⟨v',h1,h2⟩:=D0 (P:=P) hs h (hr x (by simp [Op.operands])) (hr ix (by simp [Op.operands]));exact⟨v',h1,λw' hw=>rB (h2 w' hw)⟩
 case fieldAddr s x f=>
  obtain⟨v',h1,h2⟩:=zb h (hr x (by simp [Op.operands]));exact⟨v',h1,λw' _=>rB (h2 w')⟩
 case field t x f=>
  obtain⟨v',h1,h2⟩:=Gt h (hr x (by simp [Op.operands]));exact⟨v',h1,λw' _=>rB (h2 w')⟩
 case indexAddr t x ix=>
  obtain⟨v',h1,h2⟩:=za h (hr x (by simp [Op.operands])) (hr ix (by simp [Op.operands]));exact⟨v',h1,λw' _=>rB (h2 w')⟩
 case index t x ix=>
  obtain⟨v',h1,h2⟩:=Gr h (hr x (by simp [Op.operands])) (hr ix (by simp [Op.operands]));exact⟨v',h1,λw' _=>rB (h2 w')⟩
 case extract t i=>
  have hx:=hr t (by simp [Op.operands]);split at h
  . rename_i vs hp;rw [hp] at hx;generalize tH:r' t=x' at hx;cases hx with
    | tuple td h1=>
      rename_i E6;have cF:i<E6.size:=(by rw [<-td];exact(Array.getElem?_eq_some_iff.1 h).1);have e:=Array.getElem?_eq_getElem cF;exact⟨E6[i],h1 i v _ h e,λw' _=>by simp [execOp,tH,Instr.extract,e]⟩
  cases h
 case makeFunc fn fs cs=>
  injection h with h;subst h;refine⟨.func fn (fs.map r') (cs.map r'),?_,λw' _=>by simp [execOp,Instr.makeFunc]⟩;refine .func fn (by simp) (by simp) (λi v v' h1 h2=>?_) (λi v v' h1 h2=>?_);simp only [Array.getElem?_map,Option.map_eq_some_iff] at h1 h2;obtain⟨q,h3,rfl⟩:=h1;obtain⟨q',h4,rfl⟩:=h2;rw [h3] at h4;injection h4 with h4;subst h4;exact hr q (by simp only [Op.operands,Array.mem_append];exact .inl (Array.mem_of_getElem? h3));simp only [Array.getElem?_map,Option.map_eq_some_iff] at h1 h2;obtain⟨q,h3,rfl⟩:=h1;obtain⟨q',h4,rfl⟩:=h2;rw [h3] at h4;injection h4 with h4;subst h4;exact hr q (by simp only [Op.operands,Array.mem_append];exact .inr (Array.mem_of_getElem? h3))
 case call c=>
  obtain⟨callee,args,argTypes⟩:=c;split at h;rename_i x t h1 h2 h3;simp only at h1 h2 h3;subst h1;have e2:=Se h2;have e3:=Se h3;subst e2;subst e3;have hx:=hr x (by simp [Op.operands,Call.operands]);have hl:=KZ (P:=P) (ty:=ty) h hx;refine⟨v,hl.1,λw' _=>?_⟩;have:=hl.2 w';simp [execOp,resolve,invoke,builtin,this];rename_i x y h1 h2;simp only at h1 h2;subst h1;have e2:=ND h2;subst e2;have hx:=hr x (by simp [Op.operands,Call.operands]);have hy:=hr y (by simp [Op.operands,Call.operands]);have hl:=CM (P:=P) (ts:=argTypes) (ty:=ty) (l':=#[r' x,r' y]) h (.cons hx (.cons hy .nil));refine⟨v,hl.1,λw' _=>?_⟩;have:=hl.2 w';simp only [Bool.false_eq_true,if_false] at this;simp [execOp,resolve,invoke,builtin,this];rename_i x y h1 h2;simp only at h1 h2;subst h1;have e2:=ND h2;subst e2;have hx:=hr x (by simp [Op.operands,Call.operands]);have hy:=hr y (by simp [Op.operands,Call.operands]);have hl:=CM (P:=P) (ts:=argTypes) (ty:=ty) (l':=#[r' x,r' y]) h (.cons hx (.cons hy .nil))
  refine⟨v,hl.1,λw' _=>?_⟩;have:=hl.2 w';simp only [if_true] at this;simp [execOp,resolve,invoke,builtin,this];cases h
def ae (P:Program) (A:AW) (r:Operand->Value):Op->Option (Value×AW)
 | .alloc t=>GH P A t
 | .box _ x=>some (Qs A (r x))
 | .buildSlice t len ps=>pK P A t len (rg r ps)
 | .store t x y=>
   match r x with
   | .pointer (some p)=>
     match aD P A t p (r y) with
     | some A1=>some (undef,A1)
     | none=>none
   | _=>none
 | .makeSlice t l c=>nC P A t (r l) (r c)
 | .makeMap t x=>xX P A t (x.map r)
 | .mapUpdate t x k v=>
   match ft P A t (r x) (r k) (r v) with
   | some A1=>some (undef,A1)
   | none=>none
 | .insert t x k v=>
   match ft P A t (r x) (r k) (r v) with
   | some A1=>some (undef,A1)
   | none=>none
 | .call c=>
   match c.callee,c.args.toList,c.argTypes.toList with
   | .builtin .append,[s,x],[t,u]=>if t=u then eK P A t u (r s) (r x) else mY P A t u (r s) (r x)
   | .builtin .clear,[x],[t]=>
     match Gz P A t (r x) with
     | some A1=>some (undef,A1)
     | none=>none
   | .builtin .copy,[x,y],[t,_]=>Qr P A t (r x) (r y)
   | _,_,_=>none
 | _=>none
def Yield (P:Program) (r':Operand->Value) (o:Oper) (w w':World) (v':Value):Prop:=
 (execOp r' o).run P w=.ok (.value v') w'\/((execOp r' o).run P w=.ok .skip w'/\v'=undef)
theorem Qp {P:Program} {m:Mp} {A A1:AW} {w:World} (hs:jp m A w) {o:Oper} {r r':Operand->Value} {v:Value} (hr:∀x∈o.op.operands,bu m (r x) (r' x))
 (h:ae P A r o.op=some (v,A1)):∃v' w' m',Yield P r' o w w' v'/\jc m A w m' A1 w'/\bu m' v v':=by
 obtain⟨dst,op,ty,WB,after,guard⟩:=o;have rB:∀{s:Sem Value} {v':Value} {w w':World},s.run P w=.ok v' w'->(do pure (.value (<-s)):Sem Next).run P w=.ok (.value v') w':=λ{s v' w w'} e=>by
  simp only [Sem.run_bind,e,Result.andThen_ok,Sem.run_pure]
 cases op<;>simp only [ae] at h<;>(try (cases h;done))
 case alloc t=>
  obtain⟨v',w',m',h1,h2,h3⟩:=GG hs h;exact⟨v',w',m',.inl (rB h1),h2,h3⟩
 case box t x=>
  injection h with h;obtain⟨v',w',m',h1,h2,h3⟩:=CX (P:=P) hs t (hr x (by simp [Op.operands]));rw [h] at h2 h3;exact⟨v',w',m',.inl (rB h1),h2,h3⟩
 case buildSlice t len ps=>
  obtain⟨v',w',m',h1,h2,h3⟩:=yc (P:=P) (m:=m) hs (gk:=ps.map fun(i,x)=>(i,r' x)) h (by simp [rg]) (λk p p' h1 h2=>by
   simp only [rg,List.getElem?_map,Array.getElem?_toList,Option.map_eq_some_iff,Array.getElem?_map] at h1 h2;obtain⟨q,h3,rfl⟩:=h1;obtain⟨q',h4,rfl⟩:=h2;rw [h3] at h4;injection h4 with h4;subst h4;exact⟨rfl,hr q.2 (by simp only [Op.operands,List.mem_toArray,List.mem_map];exact⟨q,Array.mem_toList_iff.2 (Array.mem_of_getElem? h3),rfl⟩)⟩)
  exact⟨v',w',m',.inl (rB h1),h2,h3⟩
 case store t x y=>
  have hx:=hr x (by simp [Op.operands]);split at h
  . rename_i p hp;rw [hp] at hx;generalize tH:r' x=x' at hx;cases hx with
    | Hn ha=>
      rename_i p';split at h;rename_i A2 cL;simp only [Option.some.injEq,Prod.mk.injEq] at h;obtain⟨rfl,rfl⟩:=h;obtain⟨w',h1,h2⟩:=Gj (P:=P) hs cL ha (hr y (by simp [Op.operands]));refine⟨undef,w',m,.inr ⟨?_,rfl⟩,h2,.tuple rfl (λi v v' h=>by simp at h)⟩;simp only [execOp,Instr.storeAt,tH,Instr.sureAddr,Sem.run_bind,Sem.run_pure,Result.andThen_ok,h1];cases h
  cases h
 case makeSlice t l c=>
  obtain⟨v',w',m',h1,h2,h3⟩:=IG hs h (hr l (by simp [Op.operands])) (hr c (by simp [Op.operands]));exact⟨v',w',m',.inl (rB h1),h2,h3⟩
 case makeMap t x=>
  obtain⟨v',w',m',h1,h2,h3⟩:=CO (P:=P) hs h (uQ.map (r':=r') x λy e=>hr y (by simp [Op.operands,e]));exact⟨v',w',m',.inl (rB h1),h2,h3⟩
 case mapUpdate t x k y=>
  split at h;rename_i A2 cL;simp only [Option.some.injEq,Prod.mk.injEq] at h;obtain⟨rfl,rfl⟩:=h;obtain⟨w',h1,h2⟩:=rJ (P:=P) hs cL (hr x (by simp [Op.operands])) (hr k (by simp [Op.operands])) (hr y (by simp [Op.operands]));refine⟨undef,w',m,.inr ⟨?_,rfl⟩,h2,.tuple rfl (λi v v' h=>by simp at h)⟩;simp only [execOp,Sem.run_bind,Sem.run_pure,Result.andThen_ok,h1];cases h
 case insert t x k y=>
  split at h;rename_i A2 cL;simp only [Option.some.injEq,Prod.mk.injEq] at h;obtain⟨rfl,rfl⟩:=h;obtain⟨w',h1,h2⟩:=rJ (P:=P) hs cL (hr x (by simp [Op.operands])) (hr k (by simp [Op.operands])) (hr y (by simp [Op.operands]));refine⟨undef,w',m,.inr ⟨?_,rfl⟩,h2,.tuple rfl (λi v v' h=>by simp at h)⟩;simp only [execOp,Sem.run_bind,Sem.run_pure,Result.andThen_ok,h1];cases h
 case call c=>
  obtain⟨callee,args,argTypes⟩:=c;split at h
  rotate_left
  . rename_i x t h1 h2 h3;simp only at h1 h2 h3;subst h1;have e2:=Se h2;have e3:=Se h3;subst e2;subst e3;split at h<;>try(cases h;done)
    rename_i A2 cL;simp only [Option.some.injEq,Prod.mk.injEq] at h;obtain⟨rfl,rfl⟩:=h;obtain⟨w',h1,h2⟩:=Gy (P:=P) (ty:=ty) hs cL (hr x (by simp [Op.operands,Call.operands]));refine⟨undef,w',m,.inl ?_,h2,.tuple rfl (λi v v' h=>by simp at h)⟩;simp [execOp,resolve,invoke,builtin,h1]
  rename_i s x t u h1 h2 h3;simp only at h1 h2 h3;subst h1;have e2:=ND h2;have e3:=ND h3;subst e2;subst e3;obtain⟨w',h1,h2,h3⟩:=IL (P:=P) (ty:=ty) (u:=u) hs h (hr s (by simp [Op.operands,Call.operands])) (hr x (by simp [Op.operands,Call.operands]));refine⟨v,w',m,.inl ?_,h2,h3⟩;simp [execOp,resolve,invoke,builtin,h1]
  rotate_left
  rename_i s x t u h1 h2 h3;simp only at h1 h2 h3;subst h1;have e2:=ND h2;have e3:=ND h3;subst e2;subst e3;have hsv:=hr s (by simp [Op.operands,Call.operands]);have VN:=hr x (by simp [Op.operands,Call.operands]);split at h;obtain⟨v',w',m',h1,h2,h3⟩:=Gm (P:=P) (ty:=ty) hs h hsv VN;refine⟨v',w',m',.inl ?_,h2,h3⟩;simp [execOp,resolve,invoke,builtin,h1];obtain⟨v',w',m',h1,h2,h3⟩:=DX (P:=P) (ty:=ty) hs h hsv VN;refine⟨v',w',m',.inl ?_,h2,h3⟩;simp [execOp,resolve,invoke,builtin,h1];cases h
end Go.Stx
namespace Go.Stx
open Go
variable [Gl]
structure rj (m:Mp) (n:Nat) (a:Fr) (ca:Act):Prop where
 size:ca.tmps.size=n
 defers:ca.defers=[]
 VH:∀i,i<n->bu m (a i) (ca.tmps.getD i undef)
 tJ:IO m
theorem rj.mono {m m':Mp} (hm:Mp.le m m') {n:Nat} {a:Fr} {ca:Act} (h:rj m n a ca):rj m' n a ca:=⟨h.size,h.defers,λi hi=>(h.VH i hi).mono hm,h.tJ.mono hm⟩
theorem bu.undef (m:Mp):bu m undef undef:=.tuple rfl λi v v' h=>by simp at h
def vW (n:Nat):Operand->Bool
 | .tmp t=>decide (t<n)
 | .const v=>uE v
 | .global g=>Gl.ok g
 | .func _=>true
def lC (n:Nat) (o:Oper):Bool:=
 o.op.operands.all (vW n) && (match o.dst with|some d=>decide (d<n)|none=>true)
def jZ (n:Nat):Code->Bool
 | .region _ bz _=>bz.all (lC n)
 | .seq a b=>jZ n a && jZ n b
 | .cond c a b=>vW n c && jZ n a && jZ n b
 | .block _ b=>jZ n b
 | .loop b=>jZ n b
 | .skip=>true
 | .exit _=>true
 | .ret=>true
 | _=>false
theorem rj.eval {m:Mp} {n:Nat} {a:Fr} {ca:Act} (h:rj m n a ca) {x:Operand} (hx:vW n x=true):bu m (iO a x) (ca.eval x):=by
 cases x with
 | tmp t=>exact h.VH t (by simpa [vW] using hx)
 | const v=>exact bu.uo (v:=v) (by simpa [vW] using hx) m
 | global g=>
   exact .Hn ⟨rfl,rfl,_,h.tJ g hx,rfl,(Nat.zero_add 0).symm⟩
 | func f=>exact .func _ rfl rfl (λi v v' h=>by simp at h) (λi v v' h=>by simp at h)
theorem rj.put {m:Mp} {n:Nat} {a:Fr} {ca:Act} (h:rj m n a ca) {d:Option Tmp} (hd:∀i,d=some i->i<n) {v v':Value} (hv:bu m v v') :
 rj m n (ew a d v) (ca.put d v'):=by
 cases d with
 | none=>exact h
 | some i=>
   refine⟨by simp [Act.put,h.size],by simp [Act.put,h.defers],λj hj=>?_,h.tJ⟩;have hi:=hd i rfl;simp only [ew,kQ,Act.put];by_cases e:j=i;subst e;rw [ay rfl];simp [Array.getD_eq_getD_getElem?,h.size,hi];exact hv;rw [ap e];have:=h.VH j hj;rw [Array.getD_eq_getD_getElem?] at this ⊢;rw [Array.getElem?_setIfInBounds_ne (by omega)];exact this
def i7 (P:Program) (f:FuncId):Bool:=
 match P.funcs[f]? with
 | some fn=>!(fn.name == "runtime.NumGoroutine") && fn.body.isSome
 | none=>false
def az (P:Program) (f:FuncId) (args:List Value) (A:AW) (R:Value->AW->Prop):Prop:=
 i7 P f=true/\∀(m:Mp) (w:World) (fL:Array Value),jp m A w->gQ m args fL.toList->
  Calls P f fL w λe w'=>∃v v' m' A',e=.returned v'/\jc m A w m' A' w'/\bu m' v v'/\R v A'
theorem az.mono {P:Program} {f:FuncId} {args:List Value} {A:AW} {R R':Value->AW->Prop} (h:az P f args A R) (hR:∀v A',R v A'->R' v A'):az P f args A R':=
 ⟨h.1,λm w fL hs hl=>(h.2 m w fL hs hl).mono λ_ _ ⟨v,v',m',A',h1,h2,h3,h4⟩=>⟨v,v',m',A',h1,h2,h3,hR _ _ h4⟩⟩
def wL (P:Program) (op:Op) (r:Operand->Value) (A:AW) (k:Value->AW->Prop):Prop:=
 match op with
 | .call c=>
   match c.callee with
   | .value x=>
     match r x with
     | .func (.func f) fs cs=>az P f (fs.toList++c.args.toList.map r++cs.toList) A k
     | _=>False
   | _=>False
 | _=>False
def hY (P:Program) (op:Op) (r:Operand->Value) (A:AW) (k:Value->AW->Prop):Prop:=
 match aq P A r op with
 | some v=>k v A
 | none=>
   match ae P A r op with
   | some (v,A1)=>k v A1
   | none=>wL P op r A k
theorem Fx {P:Program} {f:FuncId} {args:Array Value} (h:i7 P f=true) (w:World):(callFunc f args).run P w=.ok (.enter f args) w:=by
 unfold i7 at h;cases hf:P.funcs[f]? with
 | none=>rw [hf] at h;cases h
 | some fn=>
   rw [hf] at h;simp only [Bool.and_eq_true,Bool.not_eq_true'] at h;obtain⟨h1,h2⟩:=h;cases hb:fn.body with
   | none=>rw [hb] at h2;cases h2
   | some c=>
     have U1:¬fn.name = "runtime.NumGoroutine":=by simpa using h1
     simp [callFunc,hf,U1,hb]
theorem zh {P:Program} {m:Mp} {A:AW} {w:World} (hs:jp m A w) {o:Oper} {n:Nat} {a:Fr} {ca:Act} (hf:rj m n a ca) (ho:lC n o=true)
 {k:Value->AW->Prop} (h:hY P o.op (iO a) A k) {K:Act->World->Prop} {Q:Exit->Act->World->Prop}
 (hK:∀v A' m' w' yq,k v A'->jc m A w m' A' w'->rj m' n (ew a o.dst v) yq->K yq w'):o.wp P ca w K Q:=by
 simp only [lC,Bool.and_eq_true] at ho;obtain⟨ho1,RB⟩:=ho;have hd:∀i,o.dst=some i->i<n:=λi e=>by rw [e] at RB;simpa using RB
 have hr:∀x∈o.op.operands,bu m (iO a x) (ca.eval x):=λx hx=>hf.eval (Array.all_eq_true_iff_forall_mem.1 ho1 x hx);unfold hY at h;split at h;rename_i v hv;obtain⟨v',h1,h2⟩:=Qk hs hr hv;unfold Oper.wp;rw [h2 w (NN.refl w)];exact hK v A m w _ h (jc.refl hs) (hf.put hd h1);split at h;rename_i v A1 hv;obtain⟨v',w',m',h1,h2,h3⟩:=Qp hs hr hv;unfold Oper.wp;rcases h1 with h1|⟨h1,rfl⟩;rw [h1];exact hK v A1 m' w' _ h h2 ((hf.mono h2.ext).put hd h3);rw [h1];exact hK v A1 m' w' _ h h2 ((hf.mono h2.ext).put hd h3);unfold wL at h;split at h;rename_i c hc;split at h;rename_i x hx;split at h
 . rename_i f fs cs hfv;obtain⟨de,h⟩:=h;have VN:=hr x (by rw [hc];simp [Op.operands,Call.operands,hx]);rw [hfv] at VN;generalize hg:ca.eval x=x' at VN;cases VN with
   | func _ hx1 SN hx3 hx4=>
     rename_i fs' oV;have Rw:(execOp ca.eval o).run P w=.ok (.enter f (fs'++c.args.map ca.eval++oV)) w:=by
      obtain⟨dst,op,ty,WB,after,guard⟩:=o;simp only at hc;subst hc;obtain⟨callee,args,argTypes⟩:=c;simp only at hx;subst hx;simp only [execOp,resolve,hg,Deferred.ofValue,invoke,Sem.run_bind,Sem.run_pure,Result.andThen_ok,Fx de]
     unfold Oper.wp;rw [Rw,Oper.upon_enter];have hargs:gQ m (fs.toList++c.args.toList.map (iO a)++cs.toList) (fs'++c.args.map ca.eval++oV).toList:=by
      simp only [Array.toList_append,Array.toList_map];refine(gQ.append (gQ.append ⟨by simpa using hx1,λi v v' h1 h2=>hx3 i v v' (by simpa using h1) (by simpa using h2)⟩ ⟨by simp,λi v v' h1 h2=>?_⟩) ⟨by simpa using SN,λi v v' h1 h2=>hx4 i v v' (by simpa using h1) (by simpa using h2)⟩);simp only [List.getElem?_map,Option.map_eq_some_iff] at h1 h2;obtain⟨q,h3,rfl⟩:=h1;obtain⟨q',h4,rfl⟩:=h2;rw [h3] at h4;injection h4 with h4;subst h4;refine hr q ?_;rw [hc];simp only [Op.operands,Call.operands,Array.mem_append];exact .inr (Array.mem_toList_iff.1 (List.mem_of_getElem? h3))
     refine(h m w _ hs hargs).mono ?_;rintro e w' ⟨v,v',m',A',rfl,ev,hv,hk⟩;exact hK v A' m' w' _ hk ev ((hf.mono ev.ext).put hd hv)
 exact h.elim;exact h.elim;exact h.elim
def lN (bz:Array Oper) (a:Fr) (o:Oper):Bool:=
 match o.guard with
 | none=>true
 | some (j,Og)=>
   match (bz[j]?).bind (·.dst) with
   | some d=>
     match a d with
     | .bool b=>b == Og
     | _=>false
   | none=>false
theorem EN {m:Mp} {n:Nat} {a:Fr} {ca:Act} (hf:rj m n a ca) {bz:Array Oper} (B7:bz.all (lC n)=true) (o:Oper) :
 Region.wanted o (yielded bz ca.tmps)=lN bz a o:=by
 unfold Region.wanted lN;cases o.guard with
 | none=>rfl
 | some g=>
   obtain⟨j,Og⟩:=g;simp only [yielded];cases hj:bz[j]? with
   | none=>simp
   | some oj=>
     simp only [Option.bind_some];cases hd:oj.dst with
     | none=>simp
     | some d=>
       simp only [Option.bind_some];have lq:=Array.all_eq_true_iff_forall_mem.1 B7 oj (Array.mem_of_getElem? hj);simp only [lC,hd,Bool.and_eq_true,decide_eq_true_eq] at lq;have cF:d<ca.tmps.size:=(by rw [hf.size];exact lq.2);have hv:=hf.VH d lq.2;rw [Array.getD_eq_getD_getElem?,Array.getElem?_eq_getElem cF,Option.getD_some] at hv;rw [Array.getElem?_eq_getElem cF];generalize a d=x at hv ⊢;generalize ca.tmps[d]=y at hv ⊢;cases hv<;>simp
def Lb (P:Program) (bz:Array Oper) (K:Fr->AW->Prop):List Oper->Fr->AW->Prop
 | [],a,A=>K a A
 | o::gI,a,A=>
   if lN bz a o=true then hY P o.op (iO a) A (λv A'=>Lb P bz K gI (ew a o.dst v) A')
   else Lb P bz K gI (ew a o.dst undef) A
theorem nZ {P:Program} {bz:Array Oper} {n:Nat} (B7:bz.all (lC n)=true) {K:Fr->AW->Prop} {Q:Exit->Act->World->Prop}:∀(l:List Oper) (a:Fr) (A:AW) (m:Mp) (w:World) (ca:Act),
 (∀o∈l,lC n o=true)->Lb P bz K l a A->jp m A w->rj m n a ca->
 (∀a' A' m' w' yq,K a' A'->jc m A w m' A' w'->rj m' n a' yq->Q .normal yq w')->wpList P bz Q l ca w
 | [],a,A,m,w,ca,_,h,hs,hf,hK=>hK a A m w ca h (jc.refl hs) hf
 | o::gI,a,A,m,w,ca,hl,h,hs,hf,hK=>by
   unfold Lb at h;unfold wpList;rw [EN hf B7 o];split at h;rename_i hg;rw [ay hg];refine .inl (zh hs hf (hl o (by simp)) h ?_);intro v A' m' w' yq hk ev Cb;exact nZ B7 gI _ _ m' w' yq (λx hx=>hl x (by simp [hx])) hk ev.C2 Cb (λa2 A2 m2 w2 ca2 h1 h2 h3=>hK a2 A2 m2 w2 ca2 h1 (ev.trans h2) h3);rename_i hg;rw [ap hg];have ho:=hl o (by simp);simp only [lC,Bool.and_eq_true] at ho;have hd:∀i,o.dst=some i->i<n:=λi e=>by have:=ho.2;rw [e] at this;simpa using this
   exact nZ B7 gI _ _ m w _ (λx hx=>hl x (by simp [hx])) h hs (hf.put hd (bu.undef m)) hK
def cB (P:Program) (n:Nat) (c:Code) (Q:Exit->Fr->AW->Prop) (a:Fr) (A:AW):Prop:=
 jZ n c=true->∀(m:Mp) (w:World) (ca:Act),jp m A w->rj m n a ca->
  c.wp P (λe yq w'=>∃m' a' A',jc m A w m' A' w'/\rj m' n a' yq/\Q e a' A') ca w
section
variable {P:Program} {n:Nat} {Q:Exit->Fr->AW->Prop} {a:Fr} {A:AW}
theorem CI {c:Code} {Q':Exit->Fr->AW->Prop} (h:cB P n c Q a A) (hq:∀e a A,Q e a A->Q' e a A):cB P n c Q' a A:=
 λlq m w ca hs hf=>wp_mono (h lq m w ca hs hf) λe yq w' ⟨m',a',A',h1,h2,h3⟩=>⟨m',a',A',h1,h2,hq _ _ _ h3⟩
theorem KP {id:Nat} {bz:Array Oper} (h:Lb P bz (Q .normal) bz.toList a A):cB P n (.region id bz false) Q a A:=by
 intro lq m w ca hs hf;have B7:bz.all (lC n)=true:=lq;refine wp_region_list (nZ B7 _ _ _ m w ca (λo ho=>Array.all_eq_true_iff_forall_mem.1 B7 o (Array.mem_toList_iff.1 ho)) h hs hf ?_);intro a' A' m' w' yq hk ev Cb;exact⟨m',a',A',ev,Cb,hk⟩
theorem Qd (h:Q .normal a A):cB P n .skip Q a A:=λ_ m w ca hs hf=>wp_skip ⟨m,a,A,jc.refl hs,hf,h⟩
theorem Qg {id:Nat} (h:Q (.exit id) a A):cB P n (.exit id) Q a A:=λ_ m w ca hs hf=>wp_exit ⟨m,a,A,jc.refl hs,hf,h⟩
theorem L6 (h:Q .ret a A):cB P n .ret Q a A:=λ_ m w ca hs hf=>wp_ret ⟨m,a,A,jc.refl hs,hf,h⟩
def aM (next:Fr->AW->Prop) (Q:Exit->Fr->AW->Prop):Exit->Fr->AW->Prop
 | .normal,a,A=>next a A
 | e,a,A=>Q e a A
theorem bh {x y:Code} (h:cB P n x (aM (cB P n y Q) Q) a A):cB P n (.seq x y) Q a A:=by
 intro lq m w ca hs hf;simp only [jZ,Bool.and_eq_true] at lq;refine wp_seq (wp_mono (h lq.1 m w ca hs hf) ?_);rintro e yq w' ⟨m',a',A',ev,Cb,hq⟩;cases e with
 | normal=>
   refine wp_mono (hq lq.2 m' w' yq ev.C2 Cb) ?_;rintro e ca2 w2 ⟨m2,a2,A2,KB,IU,QF⟩;exact⟨m2,a2,A2,ev.trans KB,IU,QF⟩
 | exit id=>exact⟨m',a',A',ev,Cb,hq⟩
 | goto l=>exact⟨m',a',A',ev,Cb,hq⟩
 | ret=>exact⟨m',a',A',ev,Cb,hq⟩
 | panic ch=>exact⟨m',a',A',ev,Cb,hq⟩
 | outgrown=>exact⟨m',a',A',ev,Cb,hq⟩
theorem Qh {c:Operand} {x y:Code} {b:Bool} (hc:iO a c=.bool b) (h1:b=true->cB P n x Q a A) (h2:b=false->cB P n y Q a A):cB P n (.cond c x y) Q a A:=by
 intro lq m w ca hs hf;simp only [jZ,Bool.and_eq_true] at lq;have hv:=hf.eval lq.1.1;rw [hc] at hv;generalize hg:ca.eval c=x' at hv;cases hv;exact wp_cond_split hg (λe=>h1 e lq.1.2 m w ca hs hf) (λe=>h2 e lq.2 m w ca hs hf)
def b7 (id:Nat) (Q:Exit->Fr->AW->Prop):Exit->Fr->AW->Prop
 | .exit id',a,A=>if id'=id then Q .normal a A else Q (.exit id') a A
 | e,a,A=>Q e a A
theorem NC {id:Nat} {c:Code} (h:cB P n c (b7 id Q) a A):cB P n (.block id c) Q a A:=by
 intro lq m w ca hs hf;refine wp_block (wp_mono (h lq m w ca hs hf) ?_);rintro e yq w' ⟨m',a',A',ev,Cb,hq⟩;cases e with
 | exit id'=>
   simp only [Exit.inBlock];simp only [b7] at hq;split;rename_i e;rw [ay e] at hq;exact⟨m',a',A',ev,Cb,hq⟩;rename_i e;rw [ap e] at hq;exact⟨m',a',A',ev,Cb,hq⟩
 | normal=>exact⟨m',a',A',ev,Cb,hq⟩
 | goto l=>exact⟨m',a',A',ev,Cb,hq⟩
 | ret=>exact⟨m',a',A',ev,Cb,hq⟩
 | panic ch=>exact⟨m',a',A',ev,Cb,hq⟩
 | outgrown=>exact⟨m',a',A',ev,Cb,hq⟩
theorem dW {c:Code} (I:Nat->Fr->AW->Prop) (n₀:Nat) (h₀:I n₀ a A)
 (Wv:∀k a A,I k a A->cB P n c (aM (λa' A'=>∃k',k'<k/\I k' a' A') Q) a A):cB P n (.loop c) Q a A:=by
 intro lq m w ca hs hf;refine wp_loop_ghost (λk yq w'=>∃m' a' A',jc m A w m' A' w'/\rj m' n a' yq/\I k a' A') n₀ ⟨m,a,A,jc.refl hs,hf,h₀⟩ ?_;rintro k yq w' ⟨m',a',A',ev,Cb,hI⟩;refine wp_mono (Wv k a' A' hI lq m' w' yq ev.C2 Cb) ?_;rintro e ca2 w2 ⟨m2,a2,A2,KB,IU,hq⟩;cases e with
 | normal=>
   obtain⟨k',cF,hI'⟩:=hq;exact⟨k',cF,m2,a2,A2,ev.trans KB,IU,hI'⟩
 | exit id=>exact⟨m2,a2,A2,ev.trans KB,IU,hq⟩
 | goto l=>exact⟨m2,a2,A2,ev.trans KB,IU,hq⟩
 | ret=>exact⟨m2,a2,A2,ev.trans KB,IU,hq⟩
 | panic ch=>exact⟨m2,a2,A2,ev.trans KB,IU,hq⟩
 | outgrown=>exact⟨m2,a2,A2,ev.trans KB,IU,hq⟩
end
def aO (P:Program) (a:Fr) (A:AW):ResultVar->Option Value
 | .tmp t=>some (a t)
 | .cell p t=>
   match a p with
   | .pointer (some q)=>i9 P A t q
   | _=>none
def aN (P:Program) (a:Fr) (A:AW):List ResultVar->Option (List Value)
 | []=>some []
 | r::rs=>
   match aO P a A r,aN P a A rs with
   | some v,some vs=>some (v::vs)
   | _,_=>none
def bA (P:Program) (a:Fr) (A:AW) (rs:List ResultVar):Option Value:=
 match aN P a A rs with
 | some [v]=>some v
 | some vs=>some (.tuple vs.toArray)
 | none=>none
def El (n:Nat):ResultVar->Bool
 | .tmp t=>decide (t<n)
 | .cell p _=>decide (p<n)
def FA (tmps:Array Value):ResultVar->Sem Value
 | .tmp t=>pure (tmps.getD t undef)
 | .cell a t=>do loadVar t (<-asAddr (tmps.getD a undef))
theorem Jo (fn:Func) (tmps:Array Value) :
 results fn tmps=(fn.results.mapM (FA tmps) >>= λvs=>pure (if h:vs.size=1 then vs[0] else .tuple vs):Sem Value):=by
 unfold results;congr 2
theorem IB {P:Program} {m:Mp} {A:AW} {w:World} (hs:jp m A w) {n:Nat} {a:Fr} {ca:Act} (hf:rj m n a ca) {r:ResultVar} (lq:El n r=true) {v:Value} (h:aO P a A r=some v) :
 ∃v',bu m v v'/\(FA ca.tmps r).run P w=.ok v' w:=by
 cases r with
 | tmp t=>
   injection h with h;subst h;exact⟨_,hf.VH t (by simpa [El] using lq),rfl⟩
 | cell p t=>
   simp only [aO] at h;split at h
   . rename_i q hq;have hv:=hf.VH p (by simpa [El] using lq);rw [hq] at hv;generalize hg:ca.tmps.getD p undef=x' at hv;cases hv with
     | Hn ha=>
       obtain⟨v',h1,h2⟩:=IJ (P:=P) hs h ha;refine⟨v',h2,?_⟩;simp only [FA,hg,asAddr,Sem.run_bind,Sem.run_pure,Result.andThen_ok,h1]
   cases h
theorem zN {P:Program} {m:Mp} {A:AW} {w:World} (hs:jp m A w) {n:Nat} {a:Fr} {ca:Act} (hf:rj m n a ca):∀(rs:List ResultVar) (vs:List Value),rs.all (El n)=true->
 aN P a A rs=some vs->∃E6,gQ m vs E6/\(rs.mapM (FA ca.tmps)).run P w=.ok E6 w
 | [],vs,_,h=>by injection h with h;subst h;exact⟨[],.nil,rfl⟩
 | r::rs,vs,lq,h=>by
   unfold aN at h;simp only [List.all_cons,Bool.and_eq_true] at lq;split at h;rename_i v vs1 hv Ka;injection h with h;subst h;obtain⟨v',h1,h2⟩:=IB (P:=P) hs hf lq.1 hv;obtain⟨E6,h3,h4⟩:=zN hs hf rs vs1 lq.2 Ka;refine⟨v'::E6,.cons h1 h3,?_⟩;simp only [List.mapM_cons,Sem.run_bind,h2,Result.andThen_ok,h4,Sem.run_pure];cases h
theorem KS {P:Program} {m:Mp} {A:AW} {w:World} (hs:jp m A w) {fn:Func} {n:Nat} {a:Fr} {ca:Act} (hf:rj m n a ca) (lq:fn.results.toList.all (El n)=true) {v:Value}
 (h:bA P a A fn.results.toList=some v):∃v',bu m v v'/\(results fn ca.tmps).run P w=.ok v' w:=by
 unfold bA at h;cases hl:aN P a A fn.results.toList with
 | none=>rw [hl] at h;cases h
 | some vs=>
   obtain⟨E6,h1,h2⟩:=zN (P:=P) hs hf _ _ lq hl;have h3:=tr (P:=P) _ fn.results E6 h2;rw [hl] at h;have Rw:∀(x:Value),(if h:E6.toArray.size=1 then E6.toArray[0] else .tuple E6.toArray)=x->(results fn ca.tmps).run P w=.ok x w:=λx e=>by
    rw [Jo,Sem.run_bind,h3];simp only [Result.andThen_ok,Sem.run_pure,e]
   split at h;rename_i u hu;injection hu with hu;injection h with h;subst hu;subst h;obtain⟨v',t',rfl,hv,ht⟩:=h1.kE;have:=ht.nL;subst this;exact⟨v',hv,Rw v' (by simp)⟩;rename_i us gl hu;injection hu with hu;injection h with h;subst hu;subst h;refine⟨.tuple E6.toArray,.tuple (by simpa using h1.1) (λi x x' e1 e2=>h1.2 i x x' (by simpa using e1) (by simpa using e2)),Rw _ ?_⟩;rw [dif_neg];intro e;have e1:E6.length=1:=by simpa using e
   rw [<-h1.1] at e1;obtain⟨x,rfl⟩:=List.length_eq_one_iff.1 e1;exact gl x rfl;rename_i hu;cases hu
def B3 (args:List Value):Fr:=λi=>args.getD i undef
def If (fn:Func) (WI:Nat):Bool:=
 decide (WI<=fn.ntmps) && !(fn.name == "runtime.NumGoroutine") && fn.results.toList.all (El fn.ntmps) && (match fn.body with|some c=>jZ fn.ntmps c|none=>false)
def aS (P:Program) (fn:Func) (R:Value->AW->Prop):Exit->Fr->AW->Prop
 | .normal,a,A=>∃v,bA P a A fn.results.toList=some v/\R v A
 | .ret,a,A=>∃v,bA P a A fn.results.toList=some v/\R v A
 | _,_,_=>False
theorem GB {P:Program} {f:FuncId} {fn:Func} {c:Code} {args:List Value} {A:AW} {R:Value->AW->Prop} (hf:P.funcs[f]? = some fn) (hb:fn.body=some c) (lq:If fn args.length=true)
 (h:cB P fn.ntmps c (aS P fn R) (B3 args) A):az P f args A R:=by
 simp only [If,hb,Bool.and_eq_true,decide_eq_true_eq,Bool.not_eq_true'] at lq;obtain⟨⟨⟨h1,h2⟩,h3⟩,h4⟩:=lq;refine⟨by simp [i7,hf,h2,hb],λm w fL hs hl=>?_⟩;refine calls_of_wp hf hb (wp_mono (h h4 m w _ hs ?_) ?_);have td:fL.size=args.length:=by have:=hl.1;simp at this;omega
 refine⟨by simp [td];omega,rfl,λi hi=>?_,hs.tJ⟩;simp only [B3,List.getD_eq_getElem?_getD,Array.getD_eq_getD_getElem?];by_cases cF:i<args.length;have e1:=List.getElem?_eq_getElem cF;have UD:i<fL.size:=by omega
 have e2:fL.toList[i]? = some fL[i]:=by simp [UD]
 rw [e1,Array.getElem?_append_left UD,Array.getElem?_eq_getElem UD];exact hl.2 i _ _ e1 e2;rw [List.getElem?_eq_none (by omega),Array.getElem?_append_right (by omega)];simp only [Option.getD_none];rw [Array.getElem?_replicate];split;exact bu.undef m;exact bu.undef m;rintro e yq w' ⟨m',a',A',ev,Cb,hq⟩
 have bI:∀(hx:∃v,bA P a' A' fn.results.toList=some v/\R v A'),yq.defers=[]/\∃v,(results fn yq.tmps).run P w'=.ok v w'/\
  ∃v0 v' m' A',Ending.returned v=.returned v'/\jc m A w m' A' w'/\bu m' v0 v'/\R v0 A':=by
  rintro ⟨v,hv,hR⟩;obtain⟨v',h5,h6⟩:=KS ev.C2 Cb h3 hv;exact⟨Cb.defers,v',h6,v,v',m',A',rfl,ev,h5,hR⟩
 cases e with
 | normal=>exact bI hq
 | ret=>exact bI hq
 | exit id=>exact hq.elim
 | goto l=>exact hq.elim
 | panic ch=>exact hq.elim
 | outgrown=>exact hq.elim
theorem jp.Uf {m:Mp} {A:AW} {w:World} (hs:jp m A w) {g:Nat} {cs:List Value} {ik:Array Value} {e:TypeId} {fr:Nat×Nat} (hg:Gl.ok g=true) (hB:Gl.B g=some (.cells ik e fr))
 (hc:∀(k:Nat) (v:Value),cs[k]? = some v->ik[k]? = some v/\eQ v=true):jp m (A.set g (some (.cells cs false 1))) w/\∀i o p,A.bt i=some o->o.own=true->m i=some p->i≠g:=by
 have VW:=hs.tJ g hg;have gl:∀i o p,A.bt i=some o->o.own=true->m i=some p->i≠g:=λi o p hi ho hm e=>by
  subst e;rw [VW] at hm;injection hm with hm;have:=hs.xz i o _ hi ho VW;rw [hB] at this;cases this
 have cF:g<A.next:=by
  rcases Nat.lt_or_ge g A.next with h|h;exact h;rw [hs.pI g h] at VW;cases VW
 have eL:∀{i o},(A.set g (some (.cells cs false 1))).bt i=some o->i≠g->A.bt i=some o:=λ{i o} h hi=>by rwa [AW.bM hi] at h
 have kD:∀{i o},(A.set g (some (.cells cs false 1))).bt i=some o->o.own=true->i≠g:=λ{i o} h ho e=>by
  subst e;rw [AW.ef] at h;injection h with h;subst h;cases ho
 refine⟨⟨?_,?_,hs.pI,?_,hs.laid,?_,hs.tJ⟩,gl⟩;intro i o hi;by_cases e1:i=g;subst e1;rw [AW.ef] at hi;injection hi with hi;subst hi;refine⟨_,VW,ik,e,fr,hs.laid _ _ hB,λh=>(by cases h),rfl,by simp [Kr,hB],λk v hv=>?_⟩;obtain⟨h1,h2⟩:=hc k v hv;exact⟨v,by rw [Nat.zero_add];exact h1,.jz h2 m⟩;exact hs.C4 i o (eL hi e1);intro i j o o' p p' hi ho hj hij Rz SW;have yl:=eL hi (kD hi ho);by_cases e1:j=g;subst e1;rw [VW] at SW;injection SW with SW;subst SW;intro e2;have:=hs.xz i o p yl ho Rz;rw [e2] at this;rw [hB] at this;cases this;exact hs.inj i j o o' p p' yl ho (eL hj e1) hij Rz SW;intro i hi;have rQ:A.next<=i:=hi;rw [AW.bM (by omega)];exact hs.DE i rQ;intro i o p hi ho hm;exact hs.xz i o p (eL hi (kD hi ho)) ho hm
theorem az.Uf {P:Program} {f:FuncId} {args:List Value} {A:AW} {g:Nat} {cs:List Value} {ik:Array Value} {e:TypeId} {fr:Nat×Nat} (hg:Gl.ok g=true) (hB:Gl.B g=some (.cells ik e fr))
 (hc:∀(k:Nat) (v:Value),cs[k]? = some v->ik[k]? = some v/\eQ v=true) {R:Value->AW->Prop} (h:az P f args (A.set g (some (.cells cs false 1))) R):az P f args A R:=by
 refine⟨h.1,λm w fL hs hl=>?_⟩;obtain⟨SR,gl⟩:=hs.Uf hg hB hc;have own:∀b,Qv m (A.set g (some (.cells cs false 1))) b↔Qv m A b:=λb=>by
  constructor;rintro ⟨i,o,p,hi,ho,hm,hb⟩;by_cases e1:i=g;subst e1;rw [AW.ef] at hi;injection hi with hi;subst hi;cases ho;rw [AW.bM e1] at hi;exact⟨i,o,p,hi,ho,hm,hb⟩;rintro ⟨i,o,p,hi,ho,hm,hb⟩;exact⟨i,o,p,by rw [AW.bM (gl i o p hi ho hm)];exact hi,ho,hm,hb⟩
 have WQ:∀b,Me m (A.set g (some (.cells cs false 1))) b->Me m A b\/Gl.B b≠none:=by
  rintro b ⟨i,o,p,hi,hm,hb⟩;by_cases e1:i=g;subst e1;rw [hs.tJ i hg] at hm;injection hm with hm;subst hm;exact .inr (by rw [<-hb];show Gl.B i≠none;rw [hB];exact Option.some_ne_none _);rw [AW.bM e1] at hi;exact .inl ⟨i,o,p,hi,hm,hb⟩
 refine(h.2 m w fL SR hl).mono ?_;rintro e' w' ⟨v,v',m',A',rfl,ev,hv,hR⟩;exact⟨v,v',m',A',rfl,⟨ev.ext,ev.C2,ev.next,ev.os,ev.tape,ev.output,ev.size,λb hb ho=>ev.rO b hb (λh=>ho ((own b).1 h)),λb hb=>(ev.grow b hb).imp (own b).1 id,ev.sZ,λb hb=>match ev.QW b hb with | .inl h1=>(WQ b h1).imp id .inr | .inr h1=>.inr h1⟩,hv,hR⟩
end Go.Stx
namespace Go.Stx
open Go
variable [Gl]
def dG.ro:dG->dG
 | .cells cs _ u=>.cells cs false u
 | .map es _=>.map es false
theorem dG.Jm (o:dG):o.ro.own=false:=by cases o<;>rfl
theorem lU.ro {m:Mp} {w:World} {p:Pl} {o:dG} (h:lU m w p o):lU m w p o.ro:=by
 cases o with
 | cells cs own u=>
   obtain⟨ik,e,fr,h2,h3,h4⟩:=h;exact⟨ik,e,fr,h2,λh=>(by cases h),h4⟩
 | map es own=>exact h
def AW.ro (A:AW):AW:={ A with bt:=λi=>(A.bt i).map dG.ro }
theorem AW.Fz {A:AW} {i:Nat} {o:dG} (h:A.ro.bt i=some o):∃o',A.bt i=some o'/\o=o'.ro:=by
 simp only [AW.ro,Option.map_eq_some_iff] at h;obtain⟨o',h1,h2⟩:=h;exact⟨o',h1,h2.symm⟩
theorem jp.ro {m:Mp} {A:AW} {w:World} (hs:jp m A w):jp m A.ro w:=by
 refine⟨λi o hi=>?_,λi j o o' p p' hi ho=>?_,hs.pI,λi hi=>?_,hs.laid,λi o p hi ho=>?_,hs.tJ⟩;obtain⟨o',hg,rfl⟩:=AW.Fz hi;obtain⟨p,h1,h2⟩:=hs.C4 _ _ hg;exact⟨p,h1,h2.ro⟩;obtain⟨o',hg,rfl⟩:=AW.Fz hi;rw [dG.Jm] at ho;cases ho;simp [AW.ro,hs.DE i hi];obtain⟨o',hg,rfl⟩:=AW.Fz hi;rw [dG.Jm] at ho;cases ho
structure D5 (w w':World):Prop where
 ext:NN w w'
 os:w'.os=w.os
 tape:w'.tape=w.tape
 output:w'.output=w.output
 size:w.heap.size<=w'.heap.size
theorem D5.refl (w:World):D5 w w:=⟨NN.refl w,rfl,rfl,rfl,Nat.le_refl _⟩
theorem D5.evo {m:Mp} {A:AW} {w w':World} (hs:jp m A w) (h:D5 w w'):jc m A w m A w':=
 ⟨Mp.le_refl m,h.ext.C2 hs,Nat.le_refl _,h.os,h.tape,h.output,h.size,λb hb _=>h.ext b hb,λ_ h=>.inl h,λ_ _=>rfl,λ_ h=>.inl h⟩
theorem D5.drew (w:World):D5 w w.drew:=⟨λ_ _=>rfl,rfl,rfl,rfl,Nat.le_refl _⟩
def uh (P:Program) (f:FuncId) (args:List Value) (A:AW) (v:Value):Prop:=
 i7 P f=true/\eQ v=true/\∀(m:Mp) (w:World) (fL:Array Value),jp m A w->gQ m args fL.toList->Calls P f fL w λe w'=>e=.returned v/\D5 w w'
theorem bu.lQ {m:Mp} {v v':Value} (hv:eQ v=true) (h:bu m v v'):v'=v:=by
 cases h<;>first|rfl|(simp [eQ] at hv;done)
theorem uh.Rf {P:Program} {f:FuncId} {args:List Value} {A:AW} {v:Value} (hv:eQ v=true) (h:az P f args A.ro λv' _=>v'=v):uh P f args A v:=by
 refine⟨h.1,hv,λm w fL hs hl=>(h.2 m w fL hs.ro hl).mono ?_⟩;rintro e w' ⟨u,u',m',A',rfl,ev,hr,rfl⟩;have:=hr.lQ hv;subst this;refine⟨rfl,⟨λb hb=>ev.rO b hb ?_,ev.os,ev.tape,ev.output,ev.size⟩⟩;rintro ⟨i,o,p,hi,yk,_⟩;obtain⟨o',_,rfl⟩:=AW.Fz hi;rw [dG.Jm] at yk;cases yk
theorem uh.call {P:Program} {f:FuncId} {args:List Value} {A:AW} {v:Value} (h:uh P f args A v) {R:Value->AW->Prop} (hR:R v A):az P f args A R:=by
 refine⟨h.1,λm w fL hs hl=>(h.2.2 m w fL hs hl).mono ?_⟩;rintro e w' ⟨rfl,hk⟩;exact⟨v,v,m,A,rfl,hk.evo hs,.jz h.2.1 m,hR⟩
def Qx (P:Program) (op:Op) (r:Operand->Value) (A:AW) (k:Value->Prop):Prop:=
 match op with
 | .call c=>
   match c.callee with
   | .value x=>
     match r x with
     | .func (.func f) fs cs=>∃v,uh P f (fs.toList++c.args.toList.map r++cs.toList) A v/\k v
     | _=>False
   | _=>False
 | _=>False
def Vz (P:Program) (op:Op) (r:Operand->Value) (A:AW) (k:Value->Prop):Prop:=
 match aq P A r op with
 | some v=>k v
 | none=>Qx P op r A k
end Go.Stx
namespace Go.Stx
open Go
variable [Gl]
@[simp] theorem VD (a:Fr) (i j:Nat) (v:Value):kQ a i v j=if j=i then v else a j:=rfl
@[simp] theorem Ui (v:Value) (l:List Value):B3 (v::l) 0=v:=rfl
@[simp] theorem Uj (v:Value) (l:List Value) (i:Nat):B3 (v::l) (i+1)=B3 l i:=rfl
@[simp] theorem VI (a:Fr) (i:Nat) (v:Value):ew a (some i) v=kQ a i v:=rfl
@[simp] theorem VJ (a:Fr) (v:Value):ew a none v=a:=rfl
@[simp] theorem evF_tmp (a:Fr) (t:Nat):iO a (.tmp t)=a t:=rfl
@[simp] theorem We (a:Fr) (v:Value):iO a (.const v)=v:=rfl
@[simp] theorem evF_func (a:Fr) (f:FuncId):iO a (.func f)=.func (.func f) #[] #[]:=rfl
@[simp] theorem Wh (k:IntKind) (n:Int):(Value.int k n).cells = #[.int k n]:=rfl
@[simp] theorem Vl (b:Bool):(Value.bool b).cells = #[.bool b]:=rfl
@[simp] theorem R7 (s:ByteArray):(Value.string s).cells = #[.string s]:=rfl
@[simp] theorem QQ (a:Option Addr):(Value.pointer a).cells = #[.pointer a]:=rfl
@[simp] theorem Tj (a:Option Addr) (n c:Nat):(Value.slice a n c).cells = #[.slice a n c]:=rfl
@[simp] theorem Wg (r:Option Nat):(Value.map r).cells = #[.map r]:=rfl
@[simp] theorem Vk (fn:Fn) (x y:Array Value):(Value.func fn x y).cells = #[.func fn x y]:=rfl
@[simp] theorem QR:Value.nilFunc.cells = #[.nilFunc]:=rfl
@[simp] theorem Qb:Value.nilIface.cells = #[.nilIface]:=rfl
@[simp] theorem Tk (t:TypeId) (v:Value):(Value.iface t v).cells = #[.iface t v]:=rfl
@[simp] theorem Wi (cs:Array Value):(Value.agg cs).cells=cs:=rfl
attribute [simp] eD IC eJ rg pK GH GF y7 xV eQ uE
attribute [simp] ln sH Gs BZ i9 Gu sJ apart wJ oS nC Qs Qm sG
attribute [simp] Mb AO xZ xX ft gb oP lb Gz sK nY tY
attribute [simp] hY Vz aq ae aM b7 aS bA aN aO Sn Ao FU aun Ma
@[simp] theorem zr (k0 k:IntKind) (a b:Int):Instr.sameNow (.int k0) (.int k a) (.int k b)=some (a == b):=by simp [Instr.sameNow]
@[simp] theorem GM (K:Fr->AW->Prop) (Q:Exit->Fr->AW->Prop):aM K Q .normal=K:=rfl
structure SOp where
 dst:Option Tmp
 op:Op
 guard:Option (Option Tmp×Bool)
def mN (bz:Array Oper) (g:Option (Nat×Bool)):Option (Option Tmp×Bool):=g.map λx=>((bz[x.1]?).bind (·.dst),x.2)
def sg (a:Fr) (g:Option (Option Tmp×Bool)):Bool:=
 match g with
 | none=>true
 | some (some d,Og)=>
   match a d with
   | .bool b=>b == Og
   | _=>false
 | some (none,_)=>false
theorem Lm (bz:Array Oper) (a:Fr) (o:Oper):lN bz a o=sg a (mN bz o.guard):=by
 unfold lN sg mN;cases o.guard with
 | none=>rfl
 | some g=>
   obtain⟨j,Og⟩:=g;simp only [Option.map_some];cases (bz[j]?).bind (·.dst)<;>rfl
theorem hY.mono {P:Program} {op:Op} {r:Operand->Value} {A:AW} {k k':Value->AW->Prop} (h:∀v A',k v A'->k' v A') (hh:hY P op r A k):hY P op r A k':=by
 unfold hY at *;split at hh;exact h _ _ hh;split at hh;exact h _ _ hh;unfold wL at *;split at hh;split at hh;split at hh;exact hh.mono h;exact hh;exact hh;exact hh
attribute [simp] sg
theorem Pi {c:Prop} [Decidable c] {p q:Prop} (h1:c->p) (h2:¬c->q):if c then p else q:=by
 split;exact h1 ‹_›;exact h2 ‹_›
def AW.Wf (A:AW):Prop:=∀i,A.next<=i->A.bt i=none
theorem AW.Wf.lt {A:AW} (h:A.Wf) {i:Nat} {o:dG} (hg:A.bt i=some o):i<A.next:=by
 rcases Nat.lt_or_ge i A.next with h1|h1;exact h1;rw [h i h1] at hg;cases hg
@[simp] theorem AW.bx (A:AW) (o:dG):(A.alloc o).next=A.next+1:=rfl
@[simp] theorem AW.rq (A:AW) (i:Nat) (o:Option dG):(A.set i o).next=A.next:=rfl
@[simp] theorem AW.dw (A:AW) (o:dG):(A.alloc o).bt A.next=some o:=by simp [AW.alloc]
theorem AW.fz (A:AW) (o:dG) {i:Nat} (h:i≠A.next):(A.alloc o).bt i=A.bt i:=by simp [AW.alloc,h]
@[simp] theorem AW.TL (A:AW) (i:Nat) (o:Option dG):(A.set i o).bt i=o:=AW.ef
theorem AW.Fy {A:AW} {i:Nat} {cs:List Value} {own:Bool} {u:Nat} (h:A.bt i=some (.cells cs own u)):A.cD i=some cs:=by simp [AW.cD,h]
theorem AW.Wf.alloc {A:AW} (h:A.Wf) (o:dG):(A.alloc o).Wf:=λi hi=>by
 simp only [AW.bx] at hi;rw [AW.fz _ _ (by omega)];exact h i (by omega)
theorem AW.Wf.set {A:AW} (h:A.Wf) {i:Nat} (o:Option dG) (hi:i<A.next):(A.set i o).Wf:=λj hj=>by
 simp only [AW.rq] at hj;rw [AW.bM (by omega)];exact h j hj
structure AW.le (A A':AW):Prop where
 next:A.next<=A'.next
 bt:∀i,i<A.next->A'.bt i=A.bt i
theorem AW.le.refl (A:AW):A.le A:=⟨Nat.le_refl _,λ_ _=>rfl⟩
theorem AW.le.trans {A B C:AW} (h:A.le B) (k:B.le C):A.le C:=⟨Nat.le_trans h.next k.next,λi hi=>(k.bt i (Nat.lt_of_lt_of_le hi h.next)).trans (h.bt i hi)⟩
theorem AW.le.alloc (A:AW) (o:dG):A.le (A.alloc o):=⟨by simp,λi hi=>AW.fz _ _ (by omega)⟩
theorem AW.le.set {A B:AW} (h:A.le B) {i:Nat} (hi:A.next<=i) (o:Option dG):A.le (B.set i o):=
 ⟨h.next,λj hj=>by rw [AW.bM (by omega)];exact h.bt j hj⟩
theorem AW.le.sZ {A B:AW} (h:A.le B) (hw:A.Wf) {i:Nat} {o:dG} (hg:A.bt i=some o):B.bt i=some o:=by rw [h.bt i (hw.lt hg)];exact hg
theorem az.wf {P:Program} {f:FuncId} {args:List Value} {A:AW} {R:Value->AW->Prop} (h:az P f args A R):az P f args A (λv A'=>R v A'/\A'.Wf/\A.next<=A'.next):=
 ⟨h.1,λm w fL hs hl=>(h.2 m w fL hs hl).mono λ_ _ ⟨v,v',m',A',h1,h2,h3,h4⟩=>⟨v,v',m',A',h1,h2,h3,h4,h2.C2.DE,h2.next⟩⟩
theorem zX {P:Program} {f:FuncId} {fn:Func} {c:Code} {args:List Value} {A:AW} {R:Value->AW->Prop} (hf:P.funcs[f]? = some fn) (hb:fn.body=some c) (lq:If fn args.length=true)
 (h:A.Wf->cB P fn.ntmps c (aS P fn R) (B3 args) A):az P f args A R:=by
 have de:i7 P f=true:=by
  simp only [If,hb,Bool.and_eq_true,decide_eq_true_eq,Bool.not_eq_true'] at lq;simp [i7,hf,lq.1.1.2,hb]
 exact⟨de,λm w fL hs hl=>(GB hf hb lq (h hs.DE)).2 m w fL hs hl⟩
theorem bV {P:Program} {f:FuncId} {args:List Value} {A:AW} {R k:Value->AW->Prop} (h:az P f args A R) (hk:∀v A',R v A'->A'.Wf->A.next<=A'.next->k v A'):az P f args A k:=
 h.wf.mono λv A' ⟨h1,h2,h3⟩=>hk v A' h1 h2 h3
@[congr] theorem Tx {P:Program} {f:FuncId} {args IA:List Value} {A:AW} {R:Value->AW->Prop} (h:args=IA):az P f args A R=az P f IA A R:=by rw [h]
@[congr] theorem Tv {P:Program} {f:FuncId} {args IA:List Value} {A:AW} {v:Value} (h:args=IA):uh P f args A v=uh P f IA A v:=by rw [h]
@[simp] theorem Ty (P:Program) (x:Operand) (args:Array Operand) (ts:Array TypeId) (r:Operand->Value) (A:AW) (k:Value->AW->Prop) :
 wL P (.call ⟨.value x,args,ts⟩) r A k=match r x with
  | .func (.func f) fs cs=>az P f (fs.toList++args.toList.map r++cs.toList) A k
  | _=>False:=rfl
@[simp] theorem Tw (P:Program) (x:Operand) (args:Array Operand) (ts:Array TypeId) (r:Operand->Value) (A:AW) (k:Value->Prop) :
 Qx P (.call ⟨.value x,args,ts⟩) r A k=match r x with
  | .func (.func f) fs cs=>∃v,uh P f (fs.toList++args.toList.map r++cs.toList) A v/\k v
  | _=>False:=rfl
def gZ (A:AW) (size:Nat) (v:Value) (n:Nat) (cs:List Value):Prop:=
 ((∃o,v=.slice o 0 0)/\n=0/\cs=[]) \/
 ∃p c cD own u,v=.slice (some p) n c/\n<=c/\A.bt p.block=some (.cells cD own u)/\u=size/\p.off+n*size<=cD.length/\cs=(cD.drop p.off).take (n*size)
theorem gZ.length {A:AW} {size:Nat} {v:Value} {n:Nat} {cs:List Value} (h:gZ A size v n cs):cs.length=n*size:=by
 rcases h with ⟨_,rfl,rfl⟩|⟨p,c,cD,own,u,_,_,_,_,h1,rfl⟩;simp;simp;omega
theorem gZ.le {A B:AW} (hl:A.le B) (hw:A.Wf) {size:Nat} {v:Value} {n:Nat} {cs:List Value} (h:gZ A size v n cs):gZ B size v n cs:=by
 rcases h with h|⟨p,c,cD,own,u,h1,h2,h3,h4⟩;exact .inl h;exact .inr ⟨p,c,cD,own,u,h1,h2,hl.sZ hw h3,h4⟩
def dz (A:AW) (k:IntKind) (v:Value) (l:List Int):Prop:=gZ A 1 v l.length (l.map (Value.int k))
theorem dz.le {A B:AW} (hl:A.le B) (hw:A.Wf) {k:IntKind} {v:Value} {l:List Int} (h:dz A k v l):dz B k v l:=gZ.le hl hw h
theorem dz.nil (A:AW) (k:IntKind):dz A k (.slice none 0 0) []:=.inl ⟨⟨none,rfl⟩,rfl,rfl⟩
theorem gZ.dO {A:AW} {size:Nat} {v:Value} {n:Nat} {cs:List Value} (h:gZ A size v n cs):∃o c,v=.slice o n c/\n<=c:=by
 rcases h with ⟨⟨o,rfl⟩,rfl,_⟩|⟨p,c,_,_,_,rfl,h,_⟩;exact⟨_,_,rfl,Nat.le_refl _⟩;exact⟨_,_,rfl,h⟩
theorem dz.cases {A:AW} {k:IntKind} {v:Value} {l:List Int} (h:dz A k v l) :
 ((∃o,v=.slice o 0 0)/\l=[])\/∃p c cD own,v=.slice (some p) l.length c/\l.length<=c/\A.bt p.block=some (.cells cD own 1)/\p.off+l.length<=cD.length/\
   ∀j (hj:j<l.length),cD[p.off+j]? = some (.int k l[j]):=by
 rcases h with ⟨h1,h2,h3⟩|⟨p,c,cD,own,u,h1,h2,h3,h4,h5,h6⟩;exact .inl ⟨h1,List.eq_nil_of_length_eq_zero h2⟩;subst h4;rw [Nat.mul_one] at h5 h6;refine .inr ⟨p,c,cD,own,h1,h2,h3,h5,λj hj=>?_⟩;have h7:(l.map (Value.int k))[j]? = ((cD.drop p.off).take l.length)[j]?:=by rw [h6]
 rw [List.getElem?_map,List.getElem?_eq_getElem hj,List.getElem?_take_of_lt hj,List.getElem?_drop] at h7;exact h7.symm
theorem dz.dO {A:AW} {k:IntKind} {v:Value} {l:List Int} (h:dz A k v l):∃o c,v=.slice o l.length c/\l.length<=c:=gZ.dO h
theorem dz.at {A:AW} {k:IntKind} {o:Option Addr} {c n:Nat} {l:List Int} (h:dz A k (.slice o n c) l) {i:Nat} (hi:i<l.length) :
 ∃p cD,o=some p/\A.cD p.block=some cD/\cD[p.off+i]? = some (.int k l[i]):=by
 rcases h.cases with ⟨h1,rfl⟩|⟨p,c,cD,own,h1,_,hg,_,hr⟩;simp at hi;injection h1 with h1 h2 h3;exact⟨p,cD,h1,AW.Fy hg,hr i hi⟩
end Go.Stx
