/-
 The abstract memory, its operations, and the walk over it.
-/
import Derived.WalkKit
import Derived.MapKept
import Derived.Lib.AppendZerosOnto
import Derived.ChangeKeysEq
import Derived.Laws.StructEq
import Derived.Laws.Cover3
import Derived.Deep.LoopGhost
import Derived.Deep.Quiet
set_option linter.unusedVariables false
set_option linter.unusedSimpArgs false
set_option maxRecDepth 20000
set_option maxHeartbeats 4000000
namespace Go.Stx
theorem na {α:Type _} {a:α} {as bs:List α}:(a::as)++bs=a::(as++bs):=rfl
theorem zo {α:Type _} {as:List α}:[]++as=as:=rfl
open Go
structure Pl where
 block:Nat
 base:Nat
 unit:Nat
 ud:Nat
abbrev Mp:=Nat→Option Pl
def nR (m:Mp) (a a':Addr):Prop:=
 a.spot=none∧a'.spot=none∧∃p,m a.block=some p∧a'.block=p.block∧a'.off=p.base+a.off
def wj (m:Mp) (a a':Addr) (iB:Nat):Prop:=
 a.spot=none∧a'.spot=none∧∃p,m a.block=some p∧a'.block=p.block∧a'.off=p.base+a.off∧a'.off+iB*p.unit≤p.ud
theorem wj.N2 {m:Mp} {a a':Addr} {c:Nat} (h:wj m a a' c):nR m a a':=by
 obtain⟨h1,h2,p,h3,h4,h5,_⟩:=h
 exact⟨h1,h2,p,h3,h4,h5⟩
inductive cz (m:Mp):Value→Value→Prop
 | bool (b:Bool):cz m (.bool b) (.bool b)
 | int (k:IntKind) (n:Int):cz m (.int k n) (.int k n)
 | float (k:FloatKind) (n:Nat):cz m (.float k n) (.float k n)
 | complex (k:FloatKind) (x y:Nat):cz m (.complex k x y) (.complex k x y)
 | string (s:ByteArray):cz m (.string s) (.string s)
 | uv:cz m (.pointer none) (.pointer none)
 | Dl {a a':Addr} (h:nR m a a'):cz m (.pointer (some a)) (.pointer (some a'))
 | lc:cz m (.slice none 0 0) (.slice none 0 0)
 | slice {a a':Addr} {len dA iB:Nat} (h:wj m a a' iB∨(len=0∧iB=0∧(a.spot.isSome=true∨m a.block≠none))) (h1:len≤dA) (h2:dA≤iB) :
  cz m (.slice (some a) len dA) (.slice (some a') len iB)
 | uO:cz m (.map none) (.map none)
 | map {r r':Nat} (h:∃p,m r=some p∧p.block=r'):cz m (.map (some r)) (.map (some r'))
 | Ab:cz m (.chan none) (.chan none)
 | func (fn:Fn) {x x' y y':Array Value} (hx:x.size=x'.size) (hy:y.size=y'.size)
  (h1:∀(i:Nat) (v v':Value),x[i]? = some v→x'[i]? = some v'→cz m v v')
  (h2:∀(i:Nat) (v v':Value),y[i]? = some v→y'[i]? = some v'→cz m v v') :
  cz m (.func fn x y) (.func fn x' y')
 | nilFunc:cz m .nilFunc .nilFunc
 | iface (t:TypeId) {v v':Value} (h:cz m v v'):cz m (.iface t v) (.iface t v')
 | nilIface:cz m .nilIface .nilIface
 | agg {x x':Array Value} (hx:x.size=x'.size)
  (h1:∀(i:Nat) (v v':Value),x[i]? = some v→x'[i]? = some v'→cz m v v'):cz m (.agg x) (.agg x')
 | tuple {x x':Array Value} (hx:x.size=x'.size)
  (h1:∀(i:Nat) (v v':Value),x[i]? = some v→x'[i]? = some v'→cz m v v'):cz m (.tuple x) (.tuple x')
def Mp.le (m m':Mp):Prop:=∀i x,m i=some x→m' i=some x
theorem Mp.le_refl (m:Mp):Mp.le m m:=fun _ _ h=>h
theorem Mp.le_trans {a b c:Mp} (h:Mp.le a b) (k:Mp.le b c):Mp.le a c:=fun i x e=>k i x (h i x e)
theorem Mp.M9 {m m':Mp} (hm:Mp.le m m') {i:Nat} (h:m i≠none):m' i≠none:=fun e=>by
 cases hi:m i with
 | none=>exact h hi
 | some p=>rw [hm i p hi] at e;cases e
theorem nR.mono {m m':Mp} (hm:Mp.le m m') {a a':Addr} (h:nR m a a'):nR m' a a':=by
 obtain⟨h1,h2,p,h3,h4⟩:=h
 exact⟨h1,h2,p,hm _ _ h3,h4⟩
theorem wj.mono {m m':Mp} (hm:Mp.le m m') {a a':Addr} {c:Nat} (h:wj m a a' c):wj m' a a' c:=by
 obtain⟨h1,h2,p,h3,h4⟩:=h
 exact⟨h1,h2,p,hm _ _ h3,h4⟩
theorem cz.mono {m m':Mp} (hm:Mp.le m m') {v v':Value} (h:cz m v v'):cz m' v v':=by
 induction h with
 | bool b=>exact .bool b
 | int k n=>exact .int k n
 | float k n=>exact .float k n
 | complex k x y=>exact .complex k x y
 | string s=>exact .string s
 | uv=>exact .uv
 | Dl h=>exact .Dl (h.mono hm)
 | lc=>exact .lc
 | slice h h1 h2=>exact .slice (h.imp (fun x=>x.mono hm) fun⟨e1,e2,e3⟩=>⟨e1,e2,e3.imp id (Mp.M9 hm)⟩) h1 h2
 | uO=>exact .uO
 | map h=>obtain⟨p,h1,h2⟩:=h;exact .map ⟨p,hm _ _ h1,h2⟩
 | Ab=>exact .Ab
 | func fn hx hy _ _ ih1 ih2=>exact .func fn hx hy ih1 ih2
 | nilFunc=>exact .nilFunc
 | iface t _ ih=>exact .iface t ih
 | nilIface=>exact .nilIface
 | agg hx _ ih=>exact .agg hx ih
 | tuple hx _ ih=>exact .tuple hx ih
def ik (m:Mp) (l l':List Value):Prop:=l.length=l'.length∧∀(i:Nat) (v v':Value),l[i]? = some v→l'[i]? = some v'→cz m v v'
theorem ik.mono {m m':Mp} (hm:Mp.le m m') {l l':List Value} (h:ik m l l'):ik m' l l':=⟨h.1,fun i v v' a b=>(h.2 i v v' a b).mono hm⟩
theorem ik.nil {m:Mp}:ik m [] []:=⟨rfl,fun i v v' h=>by simp at h⟩
theorem ik.cons {m:Mp} {v v':Value} {l l':List Value} (h:cz m v v') (t:ik m l l'):ik m (v::l) (v'::l'):=by
 refine⟨by simp [t.1],fun i x x' h1 h2=>?_⟩
 cases i with
 | zero=>simp at h1 h2;subst h1;subst h2;exact h
 | succ i=>simp at h1 h2;exact t.2 i x x' h1 h2
theorem ik.append {m:Mp} {a a' b b':List Value} (h:ik m a a') (k:ik m b b'):ik m (a++b) (a'++b'):=by
 refine⟨by simp [h.1,k.1],fun i v v' h1 h2=>?_⟩
 rw [List.getElem?_append] at h1 h2
 rw [←h.1] at h2
 by_cases hi:i<a.length
 · rw [if_pos hi] at h1 h2;exact h.2 i v v' h1 h2
 · rw [if_neg hi] at h1 h2;exact k.2 _ v v' h1 h2
theorem ik.cy {m:Mp} {l l':List Value} (h:ik m l l') {i:Nat} {v:Value} (hi:l[i]? = some v):∃v',l'[i]? = some v'∧cz m v v':=by
 have dQ:i<l'.length:=by rw [←h.1];exact(List.getElem?_eq_some_iff.1 hi).1
 exact⟨l'[i],List.getElem?_eq_getElem dQ,h.2 i v _ hi (List.getElem?_eq_getElem dQ)⟩
theorem ik.oD {m:Mp} {v:Value} {l l':List Value} (h:ik m (v::l) l'):∃v' t',l'=v'::t'∧cz m v v'∧ik m l t':=by
 cases l' with
 | nil=>have:=h.1;simp at this
 | cons v' t'=>
   refine⟨v',t',rfl,h.2 0 v v' rfl rfl,⟨by have:=h.1;simpa using this,fun i x x' h1 h2=>h.2 (i+1) x x' (by simpa using h1) (by simpa using h2)⟩⟩
theorem ik.sN {m:Mp} {l':List Value} (h:ik m [] l'):l'=[]:=by
 exact List.eq_nil_of_length_eq_zero h.1.symm
inductive ef where
 | cells (cs:List Value) (own:Bool) (unit:Nat)
 | map (es:List (Value×Value)) (own:Bool)
structure AW where
 next:Nat
 cy:Nat→Option ef
def AW.set (A:AW) (i:Nat) (o:Option ef):AW:={ A with cy:=fun j=>if j=i then o else A.cy j }
def AW.alloc (A:AW) (o:ef):AW:={ next:=A.next+1,cy:=fun j=>if j=A.next then some o else A.cy j }
def ef.own:ef→Bool
 | .cells _ o _=>o
 | .map _ o=>o
def lZ (m:Mp) (w:World) (p:Pl):ef→Prop
 | .cells cs own unit=>∃iX e fr,w.heap[p.block]? = some (.cells iX e fr)∧(own=true→fr=(0,0))∧unit=p.unit∧iX.size=p.ud∧
  ∀(k:Nat) (v:Value),cs[k]? = some v→∃v',iX[p.base+k]? = some v'∧cz m v v'
 | .map es _=>∃kg ao,w.heap[p.block]? = some (.map kg ao)∧es.length=kg.size∧
  ∀(k:Nat) (x:Value×Value) (e:MapEntry),es[k]? = some x→kg[k]? = some e→cz m x.1 e.key∧cz m x.2 e.val
theorem lZ.heap {m:Mp} {w w':World} {p:Pl} {o:ef} (h:lZ m w p o) (e:w'.heap[p.block]? = w.heap[p.block]?):lZ m w' p o:=by
 cases o with
 | cells cs own unit=>
   obtain⟨iX,e',fr,h3,h4⟩:=h
   exact⟨iX,e',fr,by rw [e];exact h3,h4⟩
 | map es own=>
   obtain⟨kg,ao,h3,h4⟩:=h
   exact⟨kg,ao,by rw [e];exact h3,h4⟩
theorem lZ.mono {m m':Mp} {w:World} {p:Pl} {o:ef} (hm:Mp.le m m') (h:lZ m w p o):lZ m' w p o:=by
 cases o with
 | cells cs own unit=>
   obtain⟨iX,e',fr,h3,h4,h5,h6,h7⟩:=h
   refine⟨iX,e',fr,h3,h4,h5,h6,fun k v hv=>?_⟩
   obtain⟨v',h8,h9⟩:=h7 k v hv
   exact⟨v',h8,h9.mono hm⟩
 | map es own=>
   obtain⟨kg,ao,h3,h4,h5⟩:=h
   exact⟨kg,ao,h3,h4,fun k x e a b=>⟨(h5 k x e a b).1.mono hm,(h5 k x e a b).2.mono hm⟩⟩
theorem lZ.lt {m:Mp} {w:World} {p:Pl} {o:ef} (h:lZ m w p o):p.block<w.heap.size:=by
 cases o with
 | cells cs own unit=>
   obtain⟨iX,e',fr,h3,_⟩:=h
   exact(Array.getElem?_eq_some_iff.1 h3).1
 | map es own=>
   obtain⟨kg,ao,h3,_⟩:=h
   exact(Array.getElem?_eq_some_iff.1 h3).1
structure Sim (m:Mp) (A:AW) (w:World):Prop where
 Cg:∀i o,A.cy i=some o→∃p,m i=some p∧lZ m w p o
 inj:∀i j o o' p p',A.cy i=some o→o.own=true→A.cy j=some o'→i≠j→m i=some p→m j=some p'→p.block≠p'.block
 rg:∀i,A.next≤i→m i=none
 EI:∀i,A.next≤i→A.cy i=none
def Ql (m:Mp) (A:AW) (b:Nat):Prop:=∃i o p,A.cy i=some o∧o.own=true∧m i=some p∧p.block=b
structure jr (m:Mp) (A:AW) (w:World) (m':Mp) (A':AW) (w':World):Prop where
 ext:Mp.le m m'
 C1:Sim m' A' w'
 next:A.next≤A'.next
 os:w'.os=w.os
 tape:w'.tape=w.tape
 output:w'.output=w.output
 size:w.heap.size≤w'.heap.size
 fy:∀b,b<w.heap.size→¬Ql m A b→w'.heap[b]? = w.heap[b]?
 grow:∀b,Ql m' A' b→Ql m A b∨w.heap.size≤b
theorem jr.refl {m:Mp} {A:AW} {w:World} (h:Sim m A w):jr m A w m A w:=
 ⟨Mp.le_refl m,h,Nat.le_refl _,rfl,rfl,rfl,Nat.le_refl _,fun _ _ _=>rfl,fun _ h=>.inl h⟩
theorem jr.trans {m m1 m2:Mp} {A A1 A2:AW} {w w1 w2:World} (h:jr m A w m1 A1 w1) (k:jr m1 A1 w1 m2 A2 w2):jr m A w m2 A2 w2:=by
 refine⟨Mp.le_trans h.ext k.ext,k.C1,Nat.le_trans h.next k.next,k.os.trans h.os,k.tape.trans h.tape,k.output.trans h.output,Nat.le_trans h.size k.size,?_,?_⟩
 · intro b hb ho
   rw [k.fy b (Nat.lt_of_lt_of_le hb h.size) (fun hx=>?_),h.fy b hb ho]
   rcases h.grow b hx with h1|h1
   · exact ho h1
   · omega
 · intro b hb
   rcases k.grow b hb with h1|h1
   · exact h.grow b h1
   · exact .inr (Nat.le_trans h.size h1)
theorem Sim.Dr {m:Mp} {A:AW} {w w':World} (h:Sim m A w) (e:w'.heap=w.heap):Sim m A w':=by
 refine⟨fun i o hi=>?_,h.inj,h.rg,h.EI⟩
 obtain⟨p,h1,h2⟩:=h.Cg i o hi
 exact⟨p,h1,h2.heap (by rw [e])⟩
theorem jr.drew {m:Mp} {A:AW} {w:World} (h:Sim m A w):jr m A w m A w.drew:=
 ⟨Mp.le_refl m,h.Dr rfl,Nat.le_refl _,rfl,rfl,rfl,Nat.le_refl _,fun _ _ _=>rfl,fun _ h=>.inl h⟩
open Go
theorem oM (a:Addr) (n:Nat) (h:a.spot=none):a.add n=⟨a.block,a.off+n,none⟩:=by
 obtain⟨b,o,s⟩:=a
 simp only at h
 subst h
 unfold Addr.add
 split
 · rename_i h0;subst h0;rfl
 · rfl
theorem Ao (a:Addr) (h:a.spot=none):a=⟨a.block,a.off,none⟩:=by
 obtain⟨b,o,s⟩:=a
 simp only at h
 subst h
 rfl
theorem cz.uz {m:Mp} {v v':Value} (h:cz m v v'):v'.oneCell'=v.oneCell':=by cases h<;>rfl
theorem cz.cells {m:Mp} {v v':Value} (h:cz m v v'):ik m v.cells.toList v'.cells.toList:=by
 have h0:=h
 cases h with
 | agg hx h1=>exact⟨by simpa [Value.cells] using hx,fun i x x' a b=>h1 i x x' (by simpa [Value.cells] using a) (by simpa [Value.cells] using b)⟩
 | _=>exact .cons h0 .nil
def AW.dh (A:AW) (i:Nat):Option (List Value):=
 match A.cy i with
 | some (.cells cs _ _)=>some cs
 | _=>none
theorem vg {m:Mp} {A:AW} {w:World} (hs:Sim m A w) {a a':Addr} (ha:nR m a a') {cs:List Value} (hr:A.dh a.block=some cs) {k:Nat} {v:Value}
 (hv:cs[a.off+k]? = some v):∃v',w.cell? (a'.add k)=some v'∧cz m v v':=by
 obtain⟨h1,h2,p,h3,hb,h4⟩:=ha
 unfold AW.dh at hr
 split at hr
 · rename_i oQ own unit hg
   simp only [Option.some.injEq] at hr
   subst hr
   obtain⟨p',h5,iX,e,fr,h6,_,_,_,h7⟩:=hs.Cg _ _ hg
   rw [h3] at h5
   simp only [Option.some.injEq] at h5
   subst h5
   obtain⟨v',h8,h9⟩:=h7 _ _ hv
   refine⟨v',?_,h9⟩
   rw [oM _ _ h2]
   simp only [World.cell?,hb,h6,Option.isSome_none,Bool.false_eq_true,if_false]
   rw [h4,Nat.add_assoc]
   exact h8
 · simp at hr
theorem La {P:Program} {m:Mp} {A:AW} {w:World} (hs:Sim m A w) {a a':Addr} (ha:nR m a a') {cs:List Value} (hr:A.dh a.block=some cs) {v:Value}
 (hv:cs[a.off]? = some v):∃v',(load a').run P w=.ok v' w∧cz m v v':=by
 obtain⟨v',h1,h2⟩:=vg hs ha hr (k:=0) (by simpa using hv)
 refine⟨v',?_,h2⟩
 have e:a'.add 0=a':=by unfold Addr.add;simp
 rw [e] at h1
 rw [run_load,h1]
theorem BA {P:Program} {m:Mp} {A:AW} {w:World} (hs:Sim m A w) {a a':Addr} (ha:nR m a a') {cs:List Value} (hr:A.dh a.block=some cs) (n:Nat)
 (hn:a.off+n≤cs.length):∃l',(loadCells a' n).run P w=.ok l'.toArray w∧ik m ((cs.drop a.off).take n) l':=by
 have h:∀j,j<n→∃v',w.cell? (a'.add j)=some v'∧cz m (cs.getD (a.off+j) undef) v':=fun j hj=>
  vg hs ha hr (by rw [List.getD_eq_getElem?_getD,List.getElem?_eq_getElem (by omega)];rfl)
 let f:Nat→Value:=fun j=>(w.cell? (a'.add j)).getD undef
 have hf:∀j,j<n→w.cell? (a'.add j)=some (f j):=fun j hj=>by
  obtain⟨v',h1,_⟩:=h j hj
  simp [f,h1]
 refine⟨(List.range n).map f,run_loadCells w a' n f hf,?_,?_⟩
 · simp;omega
 · intro i v v' h1 h2
   have hi:i<n:=by
    have:=(List.getElem?_eq_some_iff.1 h2).1
    simpa using this
   obtain⟨v1,h3,h4⟩:=h i hi
   have e1:cs.getD (a.off+i) undef=v:=by
    rw [List.getElem?_take_of_lt hi,List.getElem?_drop] at h1
    rw [List.getD_eq_getElem?_getD,h1];rfl
   have e2:v'=v1:=by
    simp [hi,f,h3] at h2
    exact h2.symm
   rw [e1] at h4
   rw [e2]
   exact h4
def fG (cs:List Value) (off:Nat):List Value→List Value
 | []=>cs
 | v::vs=>fG (cs.set off v) (off+1) vs
theorem xu (vs:List Value):∀(cs:List Value) (off:Nat),(fG cs off vs).length=cs.length:=by
 induction vs with
 | nil=>intro cs off;rfl
 | cons v vs ih=>intro cs off;simp [fG,ih]
theorem AW.fv {A:AW} {i:Nat} {o:Option ef}:(A.set i o).cy i=o:=by simp [AW.set]
theorem AW.cX {A:AW} {i j:Nat} {o:Option ef} (h:j≠i):(A.set i o).cy j=A.cy j:=by simp [AW.set,h]
theorem AW.MT {A:AW} {i:Nat} {o o':Option ef}:(A.set i o).set i o'=A.set i o':=by
 unfold AW.set
 congr 1
 funext j
 dsimp only
 split<;>rfl
theorem AW.KG {A:AW} {i:Nat} {o:Option ef} (h:A.cy i=o):A.set i o=A:=by
 obtain⟨n,g⟩:=A
 unfold AW.set
 simp only at h ⊢
 congr 1
 funext j
 split
 · rename_i e;rw [e,h]
 · rfl
theorem jr.ko {m:Mp} {A:AW} {w w':World} (hs:Sim m A w) {i:Nat} {p:Pl} {o0 o1:ef}
 (hg:A.cy i=some o0) (Nf:o0.own=true) (gJ:o1.own=true) (hm:m i=some p)
 (rq:w'.heap.size=w.heap.size) (Nr:w'.os=w.os) (ht:w'.tape=w.tape) (ho:w'.output=w.output)
 (hb:lZ m w' p o1) (tQ:∀j,j≠p.block→w'.heap[j]? = w.heap[j]?) :
 jr m A w m (A.set i (some o1)) w':=by
 refine⟨Mp.le_refl m,⟨?_,?_,hs.rg,?_⟩,Nat.le_refl _,Nr,ht,ho,by omega,?_,?_⟩
 · intro j o hj
   by_cases jW:j=i
   · subst jW
     rw [AW.fv] at hj
     simp only [Option.some.injEq] at hj
     subst hj
     exact⟨p,hm,hb⟩
   · rw [AW.cX jW] at hj
     obtain⟨p',h1,h2⟩:=hs.Cg j o hj
     have ke:p'.block≠p.block:=fun e'=>hs.inj i j _ o p p' hg Nf hj (Ne.symm jW) hm h1 e'.symm
     exact⟨p',h1,h2.heap (tQ _ ke)⟩
 · intro j j' o o' p1 p2 hj HN i9 ke DK Uj
   by_cases jW:j=i
   · subst jW
     rw [AW.cX (Ne.symm ke)] at i9
     exact hs.inj j j' _ o' p1 p2 hg Nf i9 ke DK Uj
   · rw [AW.cX jW] at hj
     by_cases hj'i:j'=i
     · subst hj'i
       exact hs.inj j j' o _ p1 p2 hj HN hg ke DK Uj
     · rw [AW.cX hj'i] at i9
       exact hs.inj j j' o o' p1 p2 hj HN i9 ke DK Uj
 · intro j hj
   have jW:j≠i:=fun e=>by
    subst e
    rw [hs.EI j hj] at hg
    cases hg
   rw [AW.cX jW]
   exact hs.EI j hj
 · intro b' _ Nv
   refine tQ b' (fun e'=>Nv ?_)
   subst e'
   exact⟨i,_,p,hg,Nf,hm,rfl⟩
 · rintro b' ⟨j,o,p',hj,HN,EN,xA⟩
   by_cases jW:j=i
   · subst jW
     exact .inl ⟨j,_,p',hg,Nf,EN,xA⟩
   · rw [AW.cX jW] at hj
     exact .inl ⟨j,o,p',hj,HN,EN,xA⟩
theorem jr.set {m:Mp} {A:AW} {w w':World} (hs:Sim m A w) {i:Nat} {p:Pl} {cs oQ:List Value} {unit:Nat} {zW:Array Value} {e:TypeId}
 (hg:A.cy i=some (.cells cs true unit)) (hm:m i=some p) (hu:unit=p.unit)
 (rq:w'.heap.size=w.heap.size) (Nr:w'.os=w.os) (ht:w'.tape=w.tape) (ho:w'.output=w.output)
 (hb:w'.heap[p.block]? = some (.cells zW e (0,0))) (tO:zW.size=p.ud) (tQ:∀j,j≠p.block→w'.heap[j]? = w.heap[j]?)
 (rX:∀(k:Nat) (v:Value),oQ[k]? = some v→∃v',zW[p.base+k]? = some v'∧cz m v v') :
 jr m A w m (A.set i (some (.cells oQ true unit))) w':=
 jr.ko hs hg rfl rfl hm rq Nr ht ho ⟨zW,e,(0,0),hb,fun _=>rfl,hu,tO,rX⟩ tQ
theorem G6 {P:Program} {m:Mp} {A:AW} {w:World} (hs:Sim m A w) {i k unit:Nat} {p:Pl} {cs:List Value} (hg:A.cy i=some (.cells cs true unit))
 (hm:m i=some p) (hk:k<cs.length) {v v':Value} (hv:cz m v v') (h1:v.oneCell'=true) :
 ∃w',(store ⟨p.block,p.base+k,none⟩ v').run P w=.ok () w'∧jr m A w m (A.set i (some (.cells (cs.set k v) true unit))) w':=by
 obtain⟨p1,h2,iX,e,fr,h3,h4,hu,tO,h5⟩:=hs.Cg i _ hg
 rw [hm] at h2
 simp only [Option.some.injEq] at h2
 subst h2
 have tS:=h4 rfl
 subst tS
 obtain⟨u,h6,_⟩:=h5 k cs[k] (List.getElem?_eq_getElem hk)
 have dQ:p.base+k<iX.size:=(Array.getElem?_eq_some_iff.1 h6).1
 have dg:w.cell? ⟨p.block,p.base+k,none⟩=some u:=by simp [World.cell?,h3,h6]
 have hfz:w.frozen? ⟨p.block,p.base+k,none⟩=false:=by simp [World.frozen?,h3]
 refine⟨w.setCell ⟨p.block,p.base+k,none⟩ v',?_,?_⟩
 · rw [run_store P w _ _ _ (by rw [hv.uz];exact h1),dg]
   simp [hfz]
 · refine jr.set hs (zW:=iX.setIfInBounds (p.base+k) v') (e:=e) hg hm hu (by simp) rfl rfl rfl ?_ (by simpa using tO) ?_ ?_
   · simp only [World.setCell,Array.getElem?_modify,h3]
     simp
   · intro j hj
     simp only [World.setCell,Array.getElem?_modify]
     rw [if_neg (by omega)]
   · intro j x hx
     by_cases hjk:k=j
     · subst hjk
       rw [List.getElem?_set_self hk] at hx
       simp only [Option.some.injEq] at hx
       subst hx
       exact⟨v',by simp [dQ],hv⟩
     · rw [List.getElem?_set_ne hjk] at hx
       obtain⟨x',h7,h8⟩:=h5 j x hx
       exact⟨x',by rw [Array.getElem?_setIfInBounds_ne (by omega)];exact h7,h8⟩
theorem nZ {P:Program} {m:Mp} {i o unit:Nat} {p:Pl} (hm:m i=some p):∀(vs CG:List Value) (k:Nat) (cs:List Value) (A:AW) (w:World),
 Sim m A w→A.cy i=some (.cells cs true unit)→ik m vs CG→(∀v∈vs,v.oneCell'=true)→o+k+vs.length≤cs.length→
 ∃w',(storeCells ⟨p.block,p.base+o,none⟩ CG k).run P w=.ok () w'∧jr m A w m (A.set i (some (.cells (fG cs (o+k) vs) true unit))) w'
 | [],CG,k,cs,A,w,hs,hg,hl,_,_=>by
   have e:=hl.sN
   subst e
   refine⟨w,rfl,?_⟩
   rw [fG,AW.KG hg]
   exact jr.refl hs
 | v::vs,CG,k,cs,A,w,hs,hg,hl,h1,cU=>by
   obtain⟨v',t',rfl,hv,ht⟩:=hl.oD
   simp only [List.length_cons] at cU
   obtain⟨w1,OB,Sj⟩:=G6 (P:=P) hs hg hm (k:=o+k) (by omega) hv (h1 v (by simp))
   obtain⟨w2,Nj,HZ⟩:=nZ (P:=P) (o:=o) hm vs t' (k+1) (cs.set (o+k) v) _ w1 Sj.C1 AW.fv ht (fun x hx=>h1 x (by simp [hx]))
    (by simp;omega)
   refine⟨w2,?_,?_⟩
   · have ea:(⟨p.block,p.base+o,none⟩:Addr).add k=⟨p.block,p.base+(o+k),none⟩:=by rw [oM _ _ rfl];simp [Nat.add_assoc]
     simp only [storeCells,Sem.run_bind,ea,OB,Result.andThen_ok,Nj]
   · have:=Sj.trans HZ
     rw [AW.MT] at this
     rw [fG,show o+k+1=o+(k+1) by omega]
     exact this
theorem uV (w:World) (o:Obj) (i:Nat) (h:i<w.heap.size):(w.alloc o).heap[i]? = w.heap[i]?:=by
 show (w.heap.push o)[i]? = _
 rw [Array.getElem?_push,if_neg (by omega)]
theorem uW (w:World) (o:Obj):(w.alloc o).heap[w.heap.size]? = some o:=by
 show (w.heap.push o)[w.heap.size]? = _
 simp
def Mp.ext (m:Mp) (i:Nat) (x:Pl):Mp:=fun j=>if j=i then some x else m j
theorem Sim.DD {m:Mp} {A:AW} {w:World} (hs:Sim m A w) (x:Pl):Mp.le m (m.ext A.next x):=by
 intro i y h
 unfold Mp.ext
 split
 · rename_i e
   rw [e,hs.rg A.next (Nat.le_refl _)] at h
   cases h
 · exact h
theorem Sim.gi {m:Mp} {A:AW} {w:World} (hs:Sim m A w) {j:Nat} {o:ef} {p:Pl} (h:A.cy j=some o) (hm:m j=some p):p.block<w.heap.size:=by
 obtain⟨p1,h1,h2⟩:=hs.Cg j o h
 rw [hm] at h1
 simp only [Option.some.injEq] at h1
 subst h1
 exact h2.lt
theorem jr.LR {m:Mp} {A:AW} {w w':World} (hs:Sim m A w) (o1:ef) (p:Pl)
 (Nr:w'.os=w.os) (ht:w'.tape=w.tape) (ho:w'.output=w.output) (rq:w.heap.size≤w'.heap.size)
 (Ns:∀b,b<w.heap.size→w'.heap[b]? = w.heap[b]?) (hp:w.heap.size≤p.block) (hb:lZ m w' p o1) :
 jr m A w (m.ext A.next p) (A.alloc o1) w':=by
 have eG:=hs.DD p
 have dH:∀{j o},A.cy j=some o→j≠A.next:=fun {j o} h e=>by
  subst e
  rw [hs.EI _ (Nat.le_refl _)] at h
  cases h
 have sX:∀{j},j≠A.next→(m.ext A.next p) j=m j:=fun {j} h=>by simp [Mp.ext,h]
 have r8:∀{j},j≠A.next→(A.alloc o1).cy j=A.cy j:=fun {j} h=>by simp [AW.alloc,h]
 have zj:(m.ext A.next p) A.next=some p:=by simp [Mp.ext]
 have JP:(A.alloc o1).cy A.next=some o1:=by simp [AW.alloc]
 refine⟨eG,⟨?_,?_,?_,?_⟩,by simp [AW.alloc],Nr,ht,ho,rq,fun b hb _=>Ns b hb,?_⟩
 · intro j o hj
   by_cases hn:j=A.next
   · subst hn
     rw [JP] at hj
     simp only [Option.some.injEq] at hj
     subst hj
     exact⟨p,zj,hb.mono eG⟩
   · rw [r8 hn] at hj
     obtain⟨p',h1,h2⟩:=hs.Cg j o hj
     have dQ:=hs.gi hj h1
     exact⟨p',by rw [sX hn];exact h1,(h2.heap (Ns _ dQ)).mono eG⟩
 · intro i j o o' p1 p2 hi HN hj ke OE EN
   by_cases tm:i=A.next
   · subst tm
     rw [zj] at OE
     simp only [Option.some.injEq] at OE
     subst OE
     rw [r8 (Ne.symm ke)] at hj
     rw [sX (Ne.symm ke)] at EN
     have:=hs.gi hj EN
     omega
   · rw [r8 tm] at hi
     rw [sX tm] at OE
     by_cases hjn:j=A.next
     · subst hjn
       rw [zj] at EN
       simp only [Option.some.injEq] at EN
       subst EN
       have:=hs.gi hi OE
       omega
     · rw [r8 hjn] at hj
       rw [sX hjn] at EN
       exact hs.inj i j o o' p1 p2 hi HN hj ke OE EN
 · intro i hi
   have:i≠A.next:=by simp [AW.alloc] at hi;omega
   rw [sX this]
   exact hs.rg i (by simp [AW.alloc] at hi;omega)
 · intro i hi
   have:i≠A.next:=by simp [AW.alloc] at hi;omega
   rw [r8 this]
   exact hs.EI i (by simp [AW.alloc] at hi;omega)
 · rintro b ⟨i,o,p',hi,HN,hm,hb⟩
   by_cases hn:i=A.next
   · subst hn
     rw [zj] at hm
     simp only [Option.some.injEq] at hm
     subst hm
     exact .inr (by omega)
   · rw [r8 hn] at hi
     rw [sX hn] at hm
     exact .inl ⟨i,o,p',hi,HN,hm,hb⟩
theorem jr.rg {m:Mp} {A:AW} {w w':World} (hs:Sim m A w) (cs:List Value) (own:Bool) (p:Pl) {iX:Array Value} {e:TypeId} (unit:Nat)
 (Nr:w'.os=w.os) (ht:w'.tape=w.tape) (ho:w'.output=w.output) (rq:w.heap.size≤w'.heap.size)
 (Ns:∀b,b<w.heap.size→w'.heap[b]? = w.heap[b]?) (hp:w.heap.size≤p.block) (hu:unit=p.unit)
 (hb:w'.heap[p.block]? = some (.cells iX e (0,0))) (tO:iX.size=p.ud)
 (rX:∀(k:Nat) (v:Value),cs[k]? = some v→∃v',iX[p.base+k]? = some v'∧cz m v v') :
 jr m A w (m.ext A.next p) (A.alloc (.cells cs own unit)) w':=
 jr.LR hs _ p Nr ht ho rq Ns hp ⟨iX,e,(0,0),hb,fun _=>rfl,hu,tO,rX⟩
theorem jr.alloc {m:Mp} {A:AW} {w:World} (hs:Sim m A w) (cs:List Value) (iX:Array Value) (e:TypeId) (unit:Nat)
 (rX:∀(k:Nat) (v:Value),cs[k]? = some v→∃v',iX[k]? = some v'∧cz m v v') :
 jr m A w (m.ext A.next ⟨w.heap.size,0,unit,iX.size⟩) (A.alloc (.cells cs true unit)) (w.alloc (.cells iX e)):=
 jr.rg hs cs true ⟨w.heap.size,0,unit,iX.size⟩ unit rfl rfl rfl (by simp) (fun b hb=>uV w _ b hb) (Nat.le_refl _) rfl
  (uW w _) rfl (by simpa using rX)
theorem nR.EH (m:Mp) (i:Nat) (p:Pl) (o:Nat):nR (m.ext i p) ⟨i,o,none⟩ ⟨p.block,p.base+o,none⟩:=⟨rfl,rfl,p,by simp [Mp.ext],rfl,rfl⟩
open Go
theorem jr.HG {m:Mp} {A:AW} {w:World} (hs:Sim m A w) (i:Nat):jr m A w m (A.set i none) w:=by
 have key:∀{j o},(A.set i none).cy j=some o→A.cy j=some o:=fun {j o} h=>by
  by_cases hj:j=i
  · subst hj;rw [AW.fv] at h;cases h
  · rwa [AW.cX hj] at h
 refine⟨Mp.le_refl m,⟨fun j o h=>hs.Cg j o (key h),fun a b o o' p p' h1 h2 h3 h4 h5 h6=>hs.inj a b o o' p p' (key h1) h2 (key h3) h4 h5 h6,hs.rg,?_⟩,
  Nat.le_refl _,rfl,rfl,rfl,Nat.le_refl _,fun _ _ _=>rfl,?_⟩
 · intro j hj
   by_cases jW:j=i
   · subst jW;exact AW.fv
   · rw [AW.cX jW];exact hs.EI j hj
 · rintro b ⟨j,o,p,h1,h2,h3,h4⟩
   exact .inl ⟨j,o,p,key h1,h2,h3,h4⟩
theorem jr.Sq {m:Mp} {A:AW} {w w':World} (hs:Sim m A w) {i:Nat} {p p':Pl} {cs oQ:List Value} {unit:Nat} {zW:Array Value} {e:TypeId}
 (hg:A.cy i=some (.cells cs true unit)) (hm:m i=some p) (DH:p'.block=p.block) (hu:unit=p'.unit)
 (rq:w'.heap.size=w.heap.size) (Nr:w'.os=w.os) (ht:w'.tape=w.tape) (ho:w'.output=w.output)
 (hb:w'.heap[p.block]? = some (.cells zW e (0,0))) (tO:zW.size=p'.ud) (tQ:∀j,j≠p.block→w'.heap[j]? = w.heap[j]?)
 (rX:∀(k:Nat) (v:Value),oQ[k]? = some v→∃v',zW[p'.base+k]? = some v'∧cz m v v') :
 jr m A w (m.ext A.next p') ((A.set i none).alloc (.cells oQ true unit)) w':=by
 have eG:=hs.DD p'
 have dH:∀{j o},A.cy j=some o→j≠A.next:=fun {j o} h e=>by
  subst e
  rw [hs.EI _ (Nat.le_refl _)] at h
  cases h
 have sX:∀{j},j≠A.next→(m.ext A.next p') j=m j:=fun {j} h=>by simp [Mp.ext,h]
 have zj:(m.ext A.next p') A.next=some p':=by simp [Mp.ext]
 have JP:((A.set i none).alloc (.cells oQ true unit)).cy A.next=some (.cells oQ true unit):=by simp [AW.alloc,AW.set]
 have r8:∀{j o},j≠A.next→((A.set i none).alloc (.cells oQ true unit)).cy j=some o→A.cy j=some o∧j≠i:=fun {j o} h1 h2=>by
  have e:((A.set i none).alloc (.cells oQ true unit)).cy j=(A.set i none).cy j:=by
   exact if_neg h1
  rw [e] at h2
  by_cases jW:j=i
  · subst jW;rw [AW.fv] at h2;cases h2
  · rw [AW.cX jW] at h2;exact⟨h2,jW⟩
 refine⟨eG,⟨?_,?_,?_,?_⟩,by simp [AW.alloc,AW.set],Nr,ht,ho,by omega,?_,?_⟩
 · intro j o hj
   by_cases hn:j=A.next
   · subst hn
     rw [JP] at hj
     simp only [Option.some.injEq] at hj
     subst hj
     refine⟨p',zj,zW,e,(0,0),by rw [DH];exact hb,fun _=>rfl,hu,tO,fun k v hv=>?_⟩
     obtain⟨v',h1,h2⟩:=rX k v hv
     exact⟨v',h1,h2.mono eG⟩
   · obtain⟨i9,jW⟩:=r8 hn hj
     obtain⟨q,h1,h2⟩:=hs.Cg j o i9
     have ke:q.block≠p.block:=fun e'=>hs.inj i j _ o p q hg rfl i9 (Ne.symm jW) hm h1 e'.symm
     exact⟨q,by rw [sX hn];exact h1,(h2.heap (tQ _ ke)).mono eG⟩
 · intro a b o o' p1 p2 ha HN xA ke QC PC
   by_cases han:a=A.next
   · subst han
     rw [zj] at QC
     simp only [Option.some.injEq] at QC
     subst QC
     obtain⟨NJ,P3⟩:=r8 (Ne.symm ke) xA
     rw [sX (Ne.symm ke)] at PC
     rw [DH]
     exact hs.inj i b _ o' p p2 hg rfl NJ (Ne.symm P3) hm PC
   · obtain⟨Wa,MC⟩:=r8 han ha
     rw [sX han] at QC
     by_cases DN:b=A.next
     · subst DN
       rw [zj] at PC
       simp only [Option.some.injEq] at PC
       subst PC
       rw [DH]
       exact hs.inj a i o _ p1 p Wa HN hg MC QC hm
     · obtain⟨NJ,_⟩:=r8 DN xA
       rw [sX DN] at PC
       exact hs.inj a b o o' p1 p2 Wa HN NJ ke QC PC
 · intro j hj
   have:j≠A.next:=by simp [AW.alloc,AW.set] at hj;omega
   rw [sX this]
   exact hs.rg j (by simp [AW.alloc,AW.set] at hj;omega)
 · intro j hj
   have h0:A.next+1≤j:=by simpa [AW.alloc,AW.set] using hj
   have h1:j≠A.next:=by omega
   cases hx:((A.set i none).alloc (.cells oQ true unit)).cy j with
   | none=>rfl
   | some o=>
     have:=(r8 h1 hx).1
     rw [hs.EI j (by omega)] at this
     cases this
 · intro b' _ Nv
   refine tQ b' (fun e'=>Nv ?_)
   subst e'
   exact⟨i,_,p,hg,rfl,hm,rfl⟩
 · rintro b ⟨j,o,q,hj,HN,EN,V5⟩
   by_cases hn:j=A.next
   · subst hn
     rw [zj] at EN
     simp only [Option.some.injEq] at EN
     subst EN
     exact .inl ⟨i,_,p,hg,rfl,hm,by rw [←DH];exact V5⟩
   · obtain⟨i9,_⟩:=r8 hn hj
     rw [sX hn] at EN
     exact .inl ⟨j,o,q,i9,HN,EN,V5⟩
theorem tc (cs:List Value) (o n:Nat) (j:Nat) (v:Value) (h:((cs.drop o).take n)[j]? = some v):cs[o+j]? = some v∧j<n:=by
 rw [List.getElem?_take] at h
 split at h
 · rename_i hj
   rw [List.getElem?_drop] at h
   exact⟨h,hj⟩
 · cases h
theorem yE {m:Mp} {A:AW} {w:World} (hs:Sim m A w) {a a':Addr} (ha:nR m a a') {cs:List Value} (hr:A.dh a.block=some cs) (n:Nat) (hn:a.off+n≤cs.length) :
 ∃l',l'.length=n∧ik m ((cs.drop a.off).take n) l'∧∀(j:Nat) (v:Value),l'[j]? = some v→w.cell? (a'.add j)=some v:=by
 have h:∀j,j<n→∃v',w.cell? (a'.add j)=some v'∧cz m (cs.getD (a.off+j) undef) v':=fun j hj=>
  vg hs ha hr (by rw [List.getD_eq_getElem?_getD,List.getElem?_eq_getElem (by omega)];rfl)
 refine⟨(List.range n).map fun j=>(w.cell? (a'.add j)).getD undef,by simp,⟨by simp;omega,?_⟩,?_⟩
 · intro i v v' h1 h2
   obtain⟨h3,hi⟩:=tc _ _ _ _ _ h1
   obtain⟨v1,h4,h5⟩:=h i hi
   rw [List.getD_eq_getElem?_getD,h3] at h5
   simp [hi,h4] at h2
   subst h2
   exact h5
 · intro j v hv
   have hj:j<n:=by
    have:=(List.getElem?_eq_some_iff.1 hv).1
    simpa using this
   obtain⟨v1,h4,_⟩:=h j hj
   simp [hj,h4] at hv
   subst hv
   exact h4
def jb (A:AW) (size:Nat) (x:Value):Option (Nat×List Value):=
 match x with
 | .slice none 0 0=>some (0,[])
 | .slice (some b) n _=>
   if n=0 then some (0,[]) else
   match A.dh b.block with
   | some cs=>if b.off+n*size≤cs.length then some (n,(cs.drop b.off).take (n*size)) else none
   | none=>none
 | _=>none
def iG (A:AW) (size:Nat) (s:Value):Option (Option Addr×Nat×List Value):=
 match s with
 | .slice none 0 0=>some (none,0,[])
 | .slice (some a) n c=>
   if a.spot.isSome∧c=0∧n=0 then some (none,0,[]) else
   match A.cy a.block with
   | some (.cells cs true unit)=>if unit=size∧a.off+n*size≤cs.length then some (some a,n,(cs.drop a.off).take (n*size)) else none
   | _=>none
 | _=>none
def iH (P:Program) (A:AW) (t u:TypeId) (s x:Value):Option (Value×AW):=
 match P.underlying t with
 | some (.slice e)=>
   match P.info? e with
   | some i=>
     match i.zero with
     | some z=>
       if z.cells.size=i.size∧0<i.size∧t=u then
        match jb A i.size x,iG A i.size s with
        | some (n,nH),some (base,k,qG)=>
          if n=0 then some (s,A)
          else if k+n≤140737488355328∧(k+n)*i.bytes≤140737488355328∧nH.all Value.oneCell' then
           some (.slice (some ⟨A.next,0,none⟩) (k+n) (k+n),
            ((match base with|some a=>A.set a.block none|none=>A)).alloc (.cells (qG++nH) true i.size))
          else none
        | _,_=>none
       else none
     | none=>none
   | none=>none
 | _=>none
theorem xm {P:Program} (w:World) (t ty e:TypeId) (i:TypeInfo) (ht:P.underlying t=some (.slice e)) (hi:P.info? e=some i)
 (base:Option Addr) (n c:Nat) (hc:n≤c) (xb:Option Addr) (xc:Nat) :
 (Builtin.append_ #[t,t] ty #[.slice base n c,.slice xb 0 xc]).run P w=.ok (.slice base n c) w:=by
 cases base<;>cases xb<;>simp [Builtin.append_,run_underlying ht,sizeOf,typeInfo,hi,Builtin.lenOf,hc,Builtin.firstCells,loadCells,loadCellsFrom,storeCells]
theorem D4 {m:Mp} {A:AW} {w:World} (hs:Sim m A w) {size n:Nat} {x x':Value} {nH:List Value} (h:jb A size x=some (n,nH)) (hx:cz m x x') :
 (n=0∧∃xb xc,x'=.slice xb 0 xc) ∨
 (∃a c l',x'=.slice (some a) n c∧l'.length=n*size∧ik m nH l'∧∀(j:Nat) (v:Value),l'[j]? = some v→w.cell? (a.add j)=some v):=by
 unfold jb at h
 split at h
 · simp only [Option.some.injEq,Prod.mk.injEq] at h
   obtain⟨rfl,rfl⟩:=h
   cases hx
   exact .inl ⟨rfl,_,_,rfl⟩
 · rename_i b k c
   split at h
   · rename_i h0
     simp only [Option.some.injEq,Prod.mk.injEq] at h
     obtain⟨rfl,rfl⟩:=h
     subst h0
     cases hx
     exact .inl ⟨rfl,_,_,rfl⟩
   · rename_i h0
     split at h
     · rename_i cs hr
       split at h
       · rename_i eG
         simp only [Option.some.injEq,Prod.mk.injEq] at h
         obtain⟨rfl,rfl⟩:=h
         cases hx with
         | slice hh h1 h2=>
           rename_i a' iB
           have ha:nR m b a':=by
            rcases hh with hh|hh
            · exact hh.N2
            · exact absurd hh.1 h0
           obtain⟨l',e1,e2,e3⟩:=yE hs ha hr (k*size) eG
           exact .inr ⟨a',iB,l',rfl,e1,e2,e3⟩
       · cases h
     · cases h
 · cases h
theorem ik.bu {m:Mp} {l l':List Value} (h:ik m l l') (h1:∀v∈l,v.oneCell'=true):∀v∈l',v.oneCell'=true:=by
 intro v hv
 obtain⟨i,hi⟩:=List.getElem?_of_mem hv
 have dQ:=(List.getElem?_eq_some_iff.1 hi).1
 rw [←h.1] at dQ
 have e:=List.getElem?_eq_getElem dQ
 rw [(h.2 i _ v e hi).uz]
 exact h1 _ (List.getElem_mem dQ)
theorem tE {P:Program} (w:World) (t ty e:TypeId) (i:TypeInfo) (ht:P.underlying t=some (.slice e)) (hi:P.info? e=some i)
 (g o iM mS:Nat) (iX:Array Value) (e':TypeId) (hg:w.heap[g]? = some (.cells iX e' (0,0)))
 (a:Addr) (m c:Nat) (nH:List Value) (hl:nH.length=m*i.size) (mI:∀j u,nH[j]? = some u→w.cell? (a.add j)=some u) (h1:∀u∈nH,u.oneCell'=true)
 (zC:iM+m≤mS) (lm:o+iM*i.size+nH.length≤iX.size) :
 (Builtin.append_ #[t,t] ty #[.slice (some ⟨g,o,none⟩) iM mS,.slice (some a) m c]).run P w =
  .ok (.slice (some ⟨g,o,none⟩) (iM+m) mS) (w.setRow g (iX.toList.take (o+iM*i.size)++nH++iX.toList.drop (o+iM*i.size+nH.length)).toArray):=by
 have hf:=run_firstCells_some (P:=P) w i.size m a m c nH hl mI
 have dn:=run_storeCells_at P g (o+iM*i.size) e' nH 0 iX w hg (by simpa using lm) h1
 simp only [Nat.add_zero] at dn
 have ea:(⟨g,o,none⟩:Addr).add (iM*i.size)=⟨g,o+iM*i.size,none⟩:=oM _ _ rfl
 simp [Builtin.append_,run_underlying ht,sizeOf,typeInfo,hi,Builtin.lenOf,zC,hf,ea,dn]
theorem w7 {P:Program} {m:Mp} {A:AW} {w:World} (hs:Sim m A w) {ty e:TypeId} {i:TypeInfo} {z:Value} {ts:Array TypeId} {X:Value} {s s':Value} {n k:Nat} {nH l' qG:List Value} {base:Option Addr}
 (rb:z.cells.size=i.size)
 (BE:¬n=0) (NJ:k+n≤140737488355328) (xz:(k+n)*i.bytes≤140737488355328) (qg:∀v∈nH,v.oneCell'=true) (hl:l'.length=n*i.size) (IP:ik m nH l')
 (ho:iG A i.size s=some (base,k,qG)) (HI:cz m s s')
 (U5:∀k',k'=0→k=0→(Builtin.append_ ts ty #[.slice none 0 0,X]).run P w=.ok (.slice (some ⟨w.heap.size,0,none⟩) n (grownCap w n 0 e)) (w.drew.alloc (.cells (l'.toArray++Builtin.zeroCells z.cells (grownCap w n 0 e-n)) e)))
 (OS:∀(b:Addr) (iM mS:Nat) (qG:List Value),iM=k→qG.length=iM*i.size→(∀(j:Nat) (v:Value),qG[j]? = some v→w.cell? (b.add j)=some v)→mS<iM+n→
  (Builtin.append_ ts ty #[.slice (some b) iM mS,X]).run P w=.ok (.slice (some ⟨w.heap.size,0,none⟩) (iM+n) (grownCap w (iM+n) mS e))
   (w.drew.alloc (.cells (qG.toArray++l'.toArray++Builtin.zeroCells z.cells (grownCap w (iM+n) mS e-(iM+n))) e)))
 (Sv:∀(g o iM mS:Nat) (iX:Array Value) (e':TypeId),w.heap[g]? = some (.cells iX e' (0,0))→iM+n≤mS→o+iM*i.size+l'.length≤iX.size→
  (Builtin.append_ ts ty #[.slice (some ⟨g,o,none⟩) iM mS,X]).run P w=.ok (.slice (some ⟨g,o,none⟩) (iM+n) mS)
   (w.setRow g (iX.toList.take (o+iM*i.size)++l'++iX.toList.drop (o+iM*i.size+l'.length)).toArray)) :
 ∃v' w' m',(Builtin.append_ ts ty #[s',X]).run P w=.ok v' w'∧
  jr m A w m' ((match base with|some a=>A.set a.block none|none=>A).alloc (.cells (qG++nH) true i.size)) w'∧cz m' (.slice (some ⟨A.next,0,none⟩) (k+n) (k+n)) v':=by
 have OC:=IP.bu qg
 have Gh:∀(dH:Nat) (A0:AW) (F4:Sim m A0 w) (BE:A0.next=A.next) (lo:List Value) (AA:ik m qG lo) (cU:lo.length=k*i.size),
  jr m A0 w (m.ext A.next ⟨w.heap.size,0,i.size,(lo.toArray++l'.toArray++Builtin.zeroCells z.cells (grownCap w (k+n) dH e-(k+n))).size⟩)
   (A0.alloc (.cells (qG++nH) true i.size)) (w.drew.alloc (.cells (lo.toArray++l'.toArray++Builtin.zeroCells z.cells (grownCap w (k+n) dH e-(k+n))) e))∧
   cz (m.ext A.next ⟨w.heap.size,0,i.size,(lo.toArray++l'.toArray++Builtin.zeroCells z.cells (grownCap w (k+n) dH e-(k+n))).size⟩)
    (.slice (some ⟨A.next,0,none⟩) (k+n) (k+n)) (.slice (some ⟨w.heap.size,0,none⟩) (k+n) (grownCap w (k+n) dH e)):=by
  intro dH A0 F4 XL lo AA cU
  have r5:=grownCap_ge w (k+n) dH e
  constructor
  · have HK:Sim m A0 w.drew:=F4.Dr rfl
    have ev:=jr.alloc HK (qG++nH) (lo.toArray++l'.toArray++Builtin.zeroCells z.cells (grownCap w (k+n) dH e-(k+n))) e i.size (fun j v hv=>by
     obtain⟨v',h1,h2⟩:=(AA.append IP).cy hv
     refine⟨v',?_,h2⟩
     have dQ:=(List.getElem?_eq_some_iff.1 h1).1
     rw [Array.getElem?_append_left (by simpa using dQ)]
     simpa using h1)
    rw [XL] at ev
    exact(jr.drew F4).trans ev
  · refine .slice (.inl ⟨rfl,rfl,⟨w.heap.size,0,i.size,(lo.toArray++l'.toArray++Builtin.zeroCells z.cells (grownCap w (k+n) dH e-(k+n))).size⟩,if_pos rfl,rfl,rfl,?_⟩) (Nat.le_refl _) r5
    simp only [Array.size_append,List.size_toArray,size_zeroCells,cU,hl,rb,←Nat.add_mul]
    rw [show k+n+(grownCap w (k+n) dH e-(k+n))=grownCap w (k+n) dH e by omega]
    omega
 unfold iG at ho
 split at ho
 · -- the nil slice
   simp only [Option.some.injEq,Prod.mk.injEq] at ho
   obtain⟨rfl,rfl,rfl⟩:=ho
   cases HI
   have hr:=U5 0 rfl rfl
   obtain⟨g1,g2⟩:=Gh 0 A hs rfl [] ik.nil (by simp)
   simp only [Nat.zero_add,zo,Array.empty_append] at g1 g2 ⊢
   exact⟨_,_,_,hr,g1,g2⟩
 · rename_i sa k0 c0
   split at ho
   · -- a slice whose capacity is known to be none
     rename_i II
     obtain⟨SQ,Ou,TP⟩:=II
     subst Ou;subst TP
     simp only [Option.some.injEq,Prod.mk.injEq] at ho
     obtain⟨rfl,rfl,rfl⟩:=ho
     cases HI with
     | slice hh h1 h2=>
       rename_i a' iB
       have k6:iB=0:=by
        rcases hh with hh|hh
        · have h9:=hh.1
          rw [h9] at SQ
          cases SQ
        · exact hh.2.1
       subst k6
       have hr:=OS a' 0 0 [] rfl (by simp) (fun j u h=>by simp at h) (by omega)
       obtain⟨g1,g2⟩:=Gh 0 A hs rfl [] ik.nil (by simp)
       simp only [Nat.zero_add,zo,Array.empty_append] at g1 g2 hr ⊢
       exact⟨_,_,_,hr,g1,g2⟩
   split at ho<;>try(cases ho;done)
   rename_i cs unit hg
   split at ho<;>try(cases ho;done)
   rename_i BG
   obtain⟨rfl,lm⟩:=BG
   simp only [Option.some.injEq,Prod.mk.injEq] at ho
   obtain⟨rfl,rfl,rfl⟩:=ho
   cases HI with
   | slice hh h1 h2=>
     rename_i a' iB
     have eH:A.dh sa.block=some cs:=by unfold AW.dh;rw [hg]
     have holds:∃lo,lo.length=k0*i.size∧ik m ((cs.drop sa.off).take (k0*i.size)) lo∧∀(j:Nat) (v:Value),lo[j]? = some v→w.cell? (a'.add j)=some v:=by
      rcases hh with hh|⟨rfl,_⟩
      · exact yE hs hh.N2 eH (k0*i.size) lm
      · exact⟨[],by simp,by simp [ik.nil],by simp⟩
     obtain⟨lo,RK,Un,Um⟩:=holds
     by_cases zC:k0+n≤iB
     · -- there is room
       have PM:wj m sa a' iB:=by
        rcases hh with hh|⟨_,P2⟩
        · exact hh
        · omega
       obtain⟨zB,F3,p,hm,DH,VL,Nl⟩:=PM
       obtain⟨p',JJ,iX,e',fr,hw,tS,VK,tO,vU⟩:=hs.Cg _ _ hg
       rw [hm] at JJ
       simp only [Option.some.injEq] at JJ
       subst JJ
       obtain rfl:=tS rfl
       obtain⟨sb,so,ss⟩:=a'
       simp only at DH VL Nl F3
       subst F3
       have RR:so+k0*i.size+l'.length≤iX.size:=by
        rw [tO,hl,Nat.add_assoc,←Nat.add_mul]
        have:=Nat.mul_le_mul_right i.size zC
        rw [←VK] at Nl
        omega
       have gY:w.heap[sb]? = some (.cells iX e' (0,0)):=by rw [DH];exact hw
       have hr:=Sv sb so k0 iB iX e' gY zC RR
       have Yg:(iX.toList.take (so+k0*i.size)++l'++iX.toList.drop (so+k0*i.size+l'.length)).length=iX.size:=by
        simp only [List.length_append,List.length_take,List.length_drop,Array.length_toList]
        omega
       refine⟨_,_,m.ext A.next ⟨p.block,so,i.size,p.ud⟩,hr,?_,?_⟩
       · refine jr.Sq hs (p':=⟨p.block,so,i.size,p.ud⟩) (e:=e') hg hm rfl rfl (by simp) rfl rfl rfl
          (zW:=(iX.toList.take (so+k0*i.size)++l'++iX.toList.drop (so+k0*i.size+l'.length)).toArray) ?_ ?_ ?_ ?_
         · rw [←DH];exact setRow_heap w sb iX _ e' _ gY
         · simpa [tO] using Yg
         · intro j hj
           exact setRow_other w sb j _ (by rw [DH];exact hj)
         · intro j v hv
           rw [List.getElem?_append] at hv
           simp only [List.length_take,List.length_drop] at hv
           have e1:min (k0*i.size) (cs.length-sa.off)=k0*i.size:=by omega
           rw [e1] at hv
           by_cases hj:j<k0*i.size
           · rw [if_pos hj] at hv
             obtain⟨h3,_⟩:=tc _ _ _ _ _ hv
             obtain⟨v',h4,h5⟩:=vU _ _ h3
             refine⟨v',?_,h5⟩
             have dQ:=(Array.getElem?_eq_some_iff.1 h4).1
             simp only [List.getElem?_toArray,List.append_assoc]
             rw [List.getElem?_append_left (by simp;omega),List.getElem?_take_of_lt (by omega),Array.getElem?_toList,VL,Nat.add_assoc]
             exact h4
           · rw [if_neg hj] at hv
             obtain⟨v',h4,h5⟩:=IP.cy hv
             refine⟨v',?_,h5⟩
             have dQ:=(List.getElem?_eq_some_iff.1 h4).1
             simp only [List.getElem?_toArray,List.append_assoc]
             have e2:(iX.toList.take (so+k0*i.size)).length=so+k0*i.size:=by simp;omega
             rw [List.getElem?_append_right (by omega),e2,List.getElem?_append_left (by omega)]
             rw [show so+j-(so+k0*i.size)=j-k0*i.size by omega]
             exact h4
       · refine .slice (.inl ⟨rfl,rfl,⟨p.block,so,i.size,p.ud⟩,by simp [Mp.ext],DH,rfl,?_⟩) (Nat.le_refl _) zC
         simpa [VK] using Nl
     · -- the array grows
       have hr:=OS a' k0 iB lo rfl RK Um (by omega)
       have ek:=jr.HG hs sa.block
       obtain⟨g1,g2⟩:=Gh iB (A.set sa.block none) ek.C1 rfl lo Un RK
       exact⟨_,_,_,hr,ek.trans g1,g2⟩
 · cases ho
theorem D3 {P:Program} {m:Mp} {A A1:AW} {w:World} (hs:Sim m A w) {t u ty:TypeId} {s x s' x' v:Value} (h:iH P A t u s x=some (v,A1))
 (HI:cz m s s') (TU:cz m x x') :
 ∃v' w' m',(Builtin.append_ #[t,u] ty #[s',x']).run P w=.ok v' w'∧jr m A w m' A1 w'∧cz m' v v':=by
 unfold iH at h
 split at h<;>try(cases h;done)
 rename_i e hu
 split at h<;>try(cases h;done)
 rename_i i hi
 split at h<;>try(cases h;done)
 rename_i z hz
 split at h<;>try(cases h;done)
 rename_i uX
 obtain⟨rb,rq,rfl⟩:=uX
 split at h<;>try(cases h;done)
 rename_i n nH base k qG hn ho
 have mI:=D4 hs hn TU
 by_cases BE:n=0
 · -- nothing is added
   subst BE
   rw [if_pos rfl] at h
   simp only [Option.some.injEq,Prod.mk.injEq] at h
   obtain⟨rfl,rfl⟩:=h
   have II:∃xb xc,x'=.slice xb 0 xc:=by
    rcases mI with ⟨_,h1⟩|⟨a,c,l',h1,_⟩
    · exact h1
    · exact⟨_,_,h1⟩
   obtain⟨xb,xc,rfl⟩:=II
   have F4:∃b' n' c',s'=.slice b' n' c'∧n'≤c':=by
    unfold iG at ho
    split at ho
    · cases HI;exact⟨_,_,_,rfl,Nat.le_refl _⟩
    · cases HI with
      | slice _ h1 h2=>exact⟨_,_,_,rfl,Nat.le_trans h1 h2⟩
    · cases ho
   obtain⟨b',n',c',rfl,eG⟩:=F4
   exact⟨_,w,m,xm w t ty e i hu hi b' n' c' eG xb xc,jr.refl hs,HI⟩
 · rw [if_neg BE] at h
   split at h
   case isFalse=>cases h
   rename_i hb
   obtain⟨NJ,xz,NI⟩:=hb
   simp only [Option.some.injEq,Prod.mk.injEq] at h
   obtain⟨rfl,rfl⟩:=h
   rcases mI with ⟨h0,_⟩|⟨a,c,l',rfl,hl,IP,OH⟩
   · exact absurd h0 BE
   have qg:∀v∈nH,v.oneCell'=true:=by simpa using NI
   have OC:=IP.bu qg
   refine w7 hs (e:=e) (i:=i) (z:=z) rb BE NJ xz qg hl IP ho HI
    (fun _ _ hk=>run_append_nil (P:=P) w t ty e i z hu hi hz a n c l' hl OH (by omega) (by omega) (by subst hk;simp only [Nat.zero_add] at xz;omega))
    (fun b iM mS lo hk h1 h2 h3=>run_append_grow (P:=P) w t ty e i z hu hi hz b iM mS lo h1 h2 a n c l' hl OH h3 (by omega) (growslice_fits h3 (by subst hk;exact xz)))
    (fun g o iM mS iX e' h1 h2 h3=>tE (P:=P) w t ty e i hu hi g o iM mS iX e' h1 a n c l' hl OH OC h2 h3)
open Go
def xC (op:BinOp) (k:IntKind) (x y:Int):Option Value:=
 match op with
 | .add=>some (.int k (k.wrap (x+y)))
 | .sub=>some (.int k (k.wrap (x-y)))
 | .mul=>some (.int k (k.wrap (x*y)))
 | .quo=>if y=0 then none else some (.int k (k.wrap (x.tdiv y)))
 | .rem=>if y=0 then none else some (.int k (x.tmod y))
 | .eql=>some (.bool (decide (x=y)))
 | .neq=>some (.bool (!decide (x=y)))
 | .lss=>some (.bool (decide (x<y)))
 | .leq=>some (.bool (decide (x≤y)))
 | .gtr=>some (.bool (decide (y<x)))
 | .geq=>some (.bool (decide (y≤x)))
 | .and=>some (.int k (k.wrap (BitVec.ofInt k.bits x &&& BitVec.ofInt k.bits y).toNat))
 | .or=>some (.int k (k.wrap (BitVec.ofInt k.bits x ||| BitVec.ofInt k.bits y).toNat))
 | .xor=>some (.int k (k.wrap (BitVec.ofInt k.bits x ^^^ BitVec.ofInt k.bits y).toNat))
 | .andNot=>some (.int k (k.wrap (BitVec.ofInt k.bits x &&& ~~~BitVec.ofInt k.bits y).toNat))
 | _=>none
def mt (op:BinOp) (k:IntKind) (x y:Int):Option Value:=
 if y<0 then none else
 match op with
 | .shl=>some (.int k (k.wrap (x*2 ^ (min y.toNat k.bits))))
 | .shr=>some (.int k (x.fdiv (2 ^ (min y.toNat k.bits))))
 | _=>none
def DE:BinOp→Bool
 | .shl | .shr=>true
 | _=>false
def Oa (P:Program) (op:BinOp) (t:TypeId) (x y:Value):Option Value:=
 match x,y with
 | .int k a,.int k' b=>if DE op then mt op k a b else if k=k' then xC op k a b else none
 | .string a,.string b=>
   match op with
   | .eql=>some (.bool (a.toList == b.toList))
   | .neq=>some (.bool (!(a.toList == b.toList)))
   | _=>none
 | .bool a,.bool b=>
   match op,P.underlying t with
   | .eql,some .bool=>some (.bool (a == b))
   | .neq,some .bool=>some (.bool (!(a == b)))
   | _,_=>none
 | .pointer a,.pointer b=>
   if a.isSome && b.isSome then none else
   match op,P.underlying t with
   | .eql,some (.pointer _)=>some (.bool (a.isNone && b.isNone))
   | .neq,some (.pointer _)=>some (.bool (!(a.isNone && b.isNone)))
   | _,_=>none
 | _,_=>none
theorem KH {P:Program} {op:BinOp} {k:IntKind} {a b:Int} {t:TypeId} {v:Value} (h0:DE op=false) (h:xC op k a b=some v) (w:World) :
 (binOp op t (.int k a) (.int k b)).run P w=.ok v w:=by
 cases op
 case add=>injection h with h;subst h;simp [binOp,Op.intArith]
 case sub=>injection h with h;subst h;simp [binOp,Op.intArith]
 case mul=>injection h with h;subst h;simp [binOp,Op.intArith]
 case quo=>
  by_cases hb:b=0
  · simp [xC,hb] at h
  · simp [xC,hb] at h;subst h;simp [binOp,Op.intDiv,hb]
 case rem=>
  by_cases hb:b=0
  · simp [xC,hb] at h
  · simp [xC,hb] at h;subst h;simp [binOp,Op.intDiv,hb]
 case and=>injection h with h;subst h;simp [binOp,Op.intBits]
 case or=>injection h with h;subst h;simp [binOp,Op.intBits]
 case xor=>injection h with h;subst h;simp [binOp,Op.intBits]
 case andNot=>injection h with h;subst h;simp [binOp,Op.intBits]
 case shl=>cases h0
 case shr=>cases h0
 case eql=>injection h with h;subst h;simp [binOp,Op.intCmp];rfl
 case neq=>injection h with h;subst h;simp [binOp,Op.intCmp];rfl
 case lss=>injection h with h;subst h;simp [binOp,Op.intCmp]
 case leq=>injection h with h;subst h;simp [binOp,Op.intCmp]
 case gtr=>injection h with h;subst h;simp [binOp,Op.intCmp]
 case geq=>injection h with h;subst h;simp [binOp,Op.intCmp]
theorem Hb {P:Program} {op:BinOp} {k k':IntKind} {a b:Int} {t:TypeId} {v:Value} (h:mt op k a b=some v) (w:World) :
 (binOp op t (.int k a) (.int k' b)).run P w=.ok v w:=by
 by_cases hb:b<0
 · simp [mt,hb] at h
 · cases op
   case shl=>simp [mt,hb] at h;subst h;simp [binOp,Op.shift,hb]
   case shr=>simp [mt,hb] at h;subst h;simp [binOp,Op.shift,hb]
   all_goals simp [mt] at h
theorem GH {op:BinOp} {k:IntKind} {a b:Int} {v:Value} (h:xC op k a b=some v) (m:Mp):cz m v v:=by
 cases op
 case quo=>
  by_cases hb:b=0
  · simp [xC,hb] at h
  · simp [xC,hb] at h;subst h;constructor
 case rem=>
  by_cases hb:b=0
  · simp [xC,hb] at h
  · simp [xC,hb] at h;subst h;constructor
 case shl=>cases h
 case shr=>cases h
 all_goals(injection h with h;subst h;constructor)
theorem BO {op:BinOp} {k:IntKind} {a b:Int} {v:Value} (h:mt op k a b=some v) (m:Mp):cz m v v:=by
 by_cases hb:b<0
 · simp [mt,hb] at h
 · cases op
   case shl=>simp [mt,hb] at h;subst h;constructor
   case shr=>simp [mt,hb] at h;subst h;constructor
   all_goals simp [mt] at h
theorem pX {P:Program} {t:TypeId} (d:Nat) (a b:Bool) (hu:P.underlying t=some .bool) (w:World) :
 (Op.equalIn (d+1) t (.bool a) (.bool b)).run P w=.ok (a == b) w:=by
 simp [Op.equalIn,run_underlying hu]
theorem i8 {P:Program} {t e:TypeId} (d:Nat) (b:Option Addr) (hu:P.underlying t=some (.pointer e)) (w:World) :
 (Op.equalIn (d+1) t (.pointer none) (.pointer b)).run P w=.ok b.isNone w:=by
 simp [Op.equalIn,run_underlying hu]
theorem nf {P:Program} {t e:TypeId} (d:Nat) (a:Addr) (hu:P.underlying t=some (.pointer e)) (w:World) :
 (Op.equalIn (d+1) t (.pointer (some a)) (.pointer none)).run P w=.ok false w:=by
 simp [Op.equalIn,run_underlying hu]
theorem ic {P:Program} {t:TypeId} {x y:Value} {r:Bool} {w:World} (h:(Op.equalIn (9999+1) t x y).run P w=.ok r w):(Op.equal t x y).run P w=.ok r w:=h
theorem xl {P:Program} (op:BinOp) (t:TypeId) (xo yo:Operand) (k k':IntKind) (a b:Int) (w:World) :
 (eqGuard op t xo yo (.int k a) (.int k' b)).run P w=.ok () w:=by
 cases op<;>simp [eqGuard]
theorem Ie {P:Program} {op:BinOp} {t:TypeId} {x y v:Value} (h:Oa P op t x y=some v) {m:Mp} {x' y':Value} (hx:cz m x x') (hy:cz m y y') (xo yo:Operand) (w:World) :
 (do eqGuard op t xo yo x' y';binOp op t x' y':Sem Value).run P w=.ok v w∧cz m v v:=by
 unfold Oa at h
 split at h
 · -- integers
   cases hx;cases hy
   rw [Sem.run_bind,xl,Result.andThen_ok]
   split at h
   · exact⟨Hb h w,BO h m⟩
   · rename_i hs
     split at h
     · rename_i hk
       subst hk
       exact⟨KH (by simpa using hs) h w,GH h m⟩
     · cases h
 · -- strings
   cases hx;cases hy
   cases op
   case eql=>injection h with h;subst h;exact⟨by simp [eqGuard,binOp,Op.stringOp],by constructor⟩
   case neq=>injection h with h;subst h;exact⟨by simp [eqGuard,binOp,Op.stringOp],by constructor⟩
   all_goals cases h
 · -- truth values
   cases hx;cases hy
   split at h
   · rename_i hu;injection h with h;subst h;exact⟨by simp [eqGuard,binOp,ic (pX _ _ _ hu w)],by constructor⟩
   · rename_i hu;injection h with h;subst h;exact⟨by simp [eqGuard,binOp,ic (pX _ _ _ hu w)],by constructor⟩
   · cases h
 · -- pointers
   rename_i a b
   cases a with
   | none=>
     cases hx
     cases b with
     | none=>
       cases hy
       simp only [Option.isSome_none,Bool.false_eq_true,if_false,Bool.and_self] at h
       split at h
       · rename_i hu;injection h with h;subst h;exact⟨by simp [eqGuard,binOp,ic (i8 _ _ hu w)],by constructor⟩
       · rename_i hu;injection h with h;subst h;exact⟨by simp [eqGuard,binOp,ic (i8 _ _ hu w)],by constructor⟩
       · cases h
     | some b=>
       cases hy
       simp only [Option.isSome_none,Bool.false_and,Bool.false_eq_true,if_false] at h
       split at h
       · rename_i hu;injection h with h;subst h;exact⟨by simp [eqGuard,binOp,ic (i8 _ _ hu w)],by constructor⟩
       · rename_i hu;injection h with h;subst h;exact⟨by simp [eqGuard,binOp,ic (i8 _ _ hu w)],by constructor⟩
       · cases h
   | some a=>
     cases b with
     | some b=>simp at h
     | none=>
       cases hx
       cases hy
       simp only [Option.isSome_none,Bool.and_false,Bool.false_eq_true,if_false] at h
       split at h
       · rename_i hu;injection h with h;subst h;exact⟨by simp [eqGuard,binOp,ic (nf _ _ hu w)],by constructor⟩
       · rename_i hu;injection h with h;subst h;exact⟨by simp [eqGuard,binOp,ic (nf _ _ hu w)],by constructor⟩
       · cases h
 · cases h
def Te (op:UnOp) (x:Value):Option Value:=
 match op,x with
 | .not,.bool b=>some (.bool !b)
 | .neg,.int k n=>some (.int k (k.wrap (0-n)))
 | .xor,.int k n=>some (.int k (k.wrap (BitVec.ofInt k.bits (if k.signed then -1 else k.max) ^^^ BitVec.ofInt k.bits n).toNat))
 | _,_=>none
theorem Cz {P:Program} {op:UnOp} {x v:Value} (h:Te op x=some v) {m:Mp} {x':Value} (hx:cz m x x') (w:World) :
 (Op.unary op x').run P w=.ok v w∧cz m v v:=by
 unfold Te at h
 split at h
 · injection h with h;subst h;cases hx;exact⟨by simp [Op.unary],by constructor⟩
 · injection h with h;subst h;cases hx;exact⟨by simp [Op.unary,Op.intArith],by constructor⟩
 · injection h with h;subst h;cases hx;exact⟨by simp [Op.unary,Op.intBits],by constructor⟩
 · cases h
def I7 (P:Program) (SC dst:TypeId) (x:Value):Option Value:=
 match P.underlying SC,P.underlying dst,x with
 | some _,some (.int k),.int _ n=>some (.int k (k.wrap n))
 | some _,some .string,.string s=>some (.string s)
 | _,_,_=>none
theorem xd {P:Program} {SC dst:TypeId} {x v:Value} (h:I7 P SC dst x=some v) {m:Mp} {x':Value} (hx:cz m x x') (w:World) :
 (convert SC dst x').run P w=.ok v w∧cz m v v:=by
 unfold I7 at h
 split at h
 · rename_i h1 h2;injection h with h;subst h;cases hx;exact⟨by simp [convert,run_underlying h1,run_underlying h2,Conv.intToInt],by constructor⟩
 · rename_i h1 h2;injection h with h;subst h;cases hx;exact⟨by simp [convert,run_underlying h1,run_underlying h2],by constructor⟩
 · cases h
open Go
def zw (P:Program) (t:TypeId):Option Bool:=
 match P.underlying t with
 | some (.struct _)=>some true
 | some (.array _ _)=>some true
 | some _=>some false
 | none=>none
theorem nT {P:Program} {t:TypeId} {b:Bool} (h:zw P t=some b) (w:World):(isAgg t).run P w=.ok b w:=by
 unfold zw at h
 cases hu:P.underlying t with
 | none=>simp [hu] at h
 | some d=>
   rw [hu] at h
   simp only [isAgg,Sem.run_bind,run_underlying hu,Result.andThen_ok]
   cases d<;>simp only [Option.some.injEq] at h<;>subst h<;>rfl
theorem fT {P:Program} {t:TypeId} {i:TypeInfo} (h:P.info? t=some i) (w:World):(sizeOf t).run P w=.ok i.size w:=by
 simp [sizeOf,typeInfo,h]
def tx (P:Program) (A:AW) (t:TypeId) (p:Addr):Option Value:=
 match A.dh p.block,zw P t with
 | some cs,some false=>cs[p.off]?
 | some cs,some true=>
   match P.info? t with
   | some i=>if p.off+i.size≤cs.length then some (.agg ((cs.drop p.off).take i.size).toArray) else none
   | none=>none
 | _,_=>none
theorem cz.pk {m:Mp} {l l':List Value} (h:ik m l l'):cz m (.agg l.toArray) (.agg l'.toArray):=
 .agg (by simpa using h.1) fun i v v' a b=>h.2 i v v' (by simpa using a) (by simpa using b)
theorem GF {P:Program} {m:Mp} {A:AW} {w:World} (hs:Sim m A w) {t:TypeId} {p p':Addr} {v:Value} (h:tx P A t p=some v) (hp:nR m p p') :
 ∃v',(loadVar t p').run P w=.ok v' w∧cz m v v':=by
 unfold tx at h
 split at h
 · rename_i cs hr ha
   obtain⟨v',h1,h2⟩:=La (P:=P) hs hp hr h
   exact⟨v',by simp only [loadVar,Sem.run_bind,nT ha,Result.andThen_ok,Bool.false_eq_true,if_false,h1],h2⟩
 · rename_i cs hr ha
   split at h
   · rename_i i hi
     split at h
     · rename_i eG
       injection h with h
       subst h
       obtain⟨l',h1,h2⟩:=BA (P:=P) hs hp hr i.size eG
       refine⟨.agg l'.toArray,?_,.pk h2⟩
       simp only [loadVar,Sem.run_bind,nT ha,Result.andThen_ok,if_true,fT hi,h1,Sem.run_pure]
     · cases h
   · cases h
 · cases h
def af (P:Program) (A:AW) (t:TypeId) (p:Addr) (v:Value):Option AW:=
 match A.cy p.block,P.info? t with
 | some (.cells cs true unit),some i=>
   if v.cells.size=i.size∧p.off+i.size≤cs.length∧v.cells.toList.all Value.oneCell' then
    some (A.set p.block (some (.cells (fG cs p.off v.cells.toList) true unit)))
   else none
 | _,_=>none
theorem D1 {P:Program} {m:Mp} {A A1:AW} {w:World} (hs:Sim m A w) {t:TypeId} {p p':Addr} {v v':Value} (h:af P A t p v=some A1) (hp:nR m p p') (hv:cz m v v') :
 ∃w',(storeVar t p' v').run P w=.ok () w'∧jr m A w m A1 w':=by
 unfold af at h
 split at h
 · rename_i cs unit i hg hi
   split at h
   · rename_i hc
     obtain⟨h1,h2,h3⟩:=hc
     injection h with h
     subst h
     obtain⟨zB,F3,q,hm,hb,ho⟩:=hp
     have iz:=hv.cells
     obtain⟨w',hr,ev⟩:=nZ (P:=P) (o:=p.off) hm v.cells.toList v'.cells.toList 0 cs A w hs hg iz (fun x hx=>List.all_eq_true.1 h3 x hx) (by simp;omega)
     refine⟨w',?_,by simpa using ev⟩
     have rq:v'.cells.size=i.size:=by have:=iz.1;simp at this;omega
     have ea:p'=⟨q.block,q.base+p.off,none⟩:=by rw [Ao p' F3,hb,ho]
     subst ea
     simp only [storeVar,Sem.run_bind,fT hi,Result.andThen_ok,rq,ne_eq,not_true_eq_false,if_false,hr]
   · cases h
 · cases h
theorem qI {P:Program} {m:Mp} {A:AW} {w:World} (hs:Sim m A w) (e:TypeId) (unit:Nat) {l:List Value} {iX:Array Value} (hl:ik m l iX.toList) :
 ∃w' m',(newRow e iX).run P w=.ok ⟨w.heap.size,0,none⟩ w'∧jr m A w m' (A.alloc (.cells l true unit)) w'∧m'=m.ext A.next ⟨w.heap.size,0,unit,iX.size⟩:=by
 refine⟨w.alloc (.cells iX e),_,?_,jr.alloc hs l iX e unit (fun k v hv=>?_),rfl⟩
 · simp only [newRow,Sem.run_bind,run_newObj,Result.andThen_ok,Sem.run_pure];rfl
 · obtain⟨v',h1,h2⟩:=hl.cy hv
   exact⟨v',by simpa using h1,h2⟩
def Mg (A:AW) (v:Value):Value×AW:=(.pointer (some ⟨A.next,0,none⟩),A.alloc (.cells v.cells.toList true 1))
theorem Ap {P:Program} {m:Mp} {A:AW} {w:World} (hs:Sim m A w) (e:TypeId) {v v':Value} (hv:cz m v v') :
 ∃p' w' m',(Instr.box e v').run P w=.ok p' w'∧jr m A w m' (Mg A v).2 w'∧cz m' (Mg A v).1 p':=by
 obtain⟨w',m',h1,h2,h3⟩:=qI (P:=P) hs e 1 hv.cells
 refine⟨.pointer (some ⟨w.heap.size,0,none⟩),w',m',?_,h2,?_⟩
 · simp only [Instr.box,newVar,Sem.run_bind,h1,Result.andThen_ok,Sem.run_pure]
 · rw [h3]
   exact .Dl (nR.EH m A.next ⟨w.heap.size,0,1,_⟩ 0)
def qU (P:Program) (s:TypeId) (x:Value) (f:Nat):Option Value:=
 match P.underlying s,x with
 | some (.struct fs),.pointer (some p)=>
   match fs[f]? with
   | some fd=>
     match P.info? fd.type with
     | some i=>if i.size=0 then none else some (.pointer (some ⟨p.block,p.off+fd.offset,none⟩))
     | none=>none
   | none=>none
 | _,_=>none
theorem nR.Pb {m:Mp} {a a':Addr} (h:nR m a a') (n:Nat):nR m ⟨a.block,a.off+n,none⟩ (a'.add n):=by
 obtain⟨h1,h2,p,h3,h4,h5⟩:=h
 rw [oM _ _ h2]
 exact⟨rfl,rfl,p,h3,h4,by simp only [h5,Nat.add_assoc]⟩
theorem wh {P:Program} {m:Mp} {s:TypeId} {x x' v:Value} {f:Nat} (h:qU P s x f=some v) (hx:cz m x x') :
 ∃v',cz m v v'∧∀w,(Instr.fieldAt s x' f).run P w=.ok v' w:=by
 unfold qU at h
 split at h
 · rename_i fs p hu
   cases hx with
   | Dl ha=>
     rename_i p'
     split at h
     · rename_i fd hf
       split at h
       · rename_i i hi
         split at h
         · cases h
         · rename_i h0
           injection h with h
           subst h
           refine⟨.pointer (some (p'.add fd.offset)),.Dl (ha.Pb _),fun w=>?_⟩
           simp [Instr.fieldAt,run_underlying hu,hf,Instr.sureAddr,fieldPlace,fT hi,h0]
       · cases h
     · cases h
 · cases h
def apart (P:Program) (t:TypeId) (cs:Array Value) (off:Nat):Option Value:=
 match zw P t with
 | some false=>cs[off]?
 | some true=>
   match P.info? t with
   | some i=>some (.agg (cs.extract off (off+i.size)))
   | none=>none
 | none=>none
theorem lj {P:Program} {m:Mp} {t:TypeId} {cs oQ:Array Value} {off:Nat} {v:Value} (h:apart P t cs off=some v) (hc:cz m (.agg cs) (.agg oQ)) :
 ∃v',cz m v v'∧∀w,(part t oQ off).run P w=.ok v' w:=by
 cases hc with
 | agg hx h1=>
   unfold apart at h
   split at h
   · rename_i ha
     have dQ:off<oQ.size:=by rw [←hx];exact(Array.getElem?_eq_some_iff.1 h).1
     have e:=Array.getElem?_eq_getElem dQ
     refine⟨oQ[off],h1 off v _ h e,fun w=>?_⟩
     simp only [part,Sem.run_bind,nT ha,Result.andThen_ok,Bool.false_eq_true,if_false]
     rw [e]
     rfl
   · rename_i ha
     split at h
     · rename_i i hi
       injection h with h
       subst h
       refine⟨.agg (oQ.extract off (off+i.size)),.agg (by simp [hx]) ?_,fun w=>?_⟩
       · intro j v v' h2 h3
         rw [Array.getElem?_extract] at h2 h3
         split at h2
         · rename_i hj
           rw [if_pos (by rw [←hx];exact hj)] at h3
           exact h1 _ v v' h2 h3
         · cases h2
       · simp only [part,Sem.run_bind,nT ha,Result.andThen_ok,if_true,fT hi,Sem.run_pure]
     · cases h
   · cases h
def D8 (P:Program) (t:TypeId) (x:Value) (f:Nat):Option Value:=
 match P.underlying t,x with
 | some (.struct fs),.agg cs=>
   match fs[f]? with
   | some fd=>apart P fd.type cs fd.offset
   | none=>none
 | _,_=>none
theorem D7 {P:Program} {m:Mp} {t:TypeId} {x x' v:Value} {f:Nat} (h:D8 P t x f=some v) (hx:cz m x x') :
 ∃v',cz m v v'∧∀w,(Instr.field t x' f).run P w=.ok v' w:=by
 unfold D8 at h
 split at h
 · rename_i fs cs hu
   split at h
   · rename_i fd hf
     have II:=hx
     cases hx with
     | agg rq h1=>
       obtain⟨v',h3,h2⟩:=lj (P:=P) h II
       refine⟨v',h3,fun w=>?_⟩
       simp only [Instr.field,Sem.run_bind,run_underlying hu,Result.andThen_ok,hf,asAgg,Sem.run_pure,h2]
   · cases h
 · cases h
def qT (P:Program) (t:TypeId) (x ix:Value):Option Value:=
 match P.underlying t,x,ix with
 | some (.slice e),.slice (some p) len _,.int _ n=>
   match P.info? e with
   | some i=>if 0≤n∧n<len then some (.pointer (some ⟨p.block,p.off+n.toNat*i.size,none⟩)) else none
   | none=>none
 | some (.array len e),.pointer (some p),.int _ n=>
   match P.info? e with
   | some i=>if 0≤n∧n<len then some (.pointer (some ⟨p.block,p.off+n.toNat*i.size,none⟩)) else none
   | none=>none
 | _,_,_=>none
theorem wg {P:Program} {m:Mp} {t:TypeId} {x x' y y' v:Value} (h:qT P t x y=some v) (hx:cz m x x') (hy:cz m y y') :
 ∃v',cz m v v'∧∀w,(Instr.indexAt t x' y').run P w=.ok v' w:=by
 unfold qT at h
 split at h
 · rename_i e p len dA k n hu
   cases hy
   split at h
   · rename_i i hi
     split at h
     · rename_i hb
       injection h with h
       subst h
       cases hx with
       | slice hh h1 h2=>
         rename_i p' iB
         have ha:nR m p p':=by
          rcases hh with hh|hh
          · exact hh.N2
          · omega
         refine⟨.pointer (some (p'.add (n.toNat*i.size))),.Dl (ha.Pb _),fun w=>?_⟩
         simp [Instr.indexAt,run_underlying hu,asIntOf,fT hi,hb.1,hb.2]
     · cases h
   · cases h
 · rename_i len e p k n hu
   cases hy
   split at h
   · rename_i i hi
     split at h
     · rename_i hb
       injection h with h
       subst h
       cases hx with
       | Dl ha=>
         rename_i p'
         refine⟨.pointer (some (p'.add (n.toNat*i.size))),.Dl (ha.Pb _),fun w=>?_⟩
         simp [Instr.indexAt,run_underlying hu,asIntOf,fT hi,hb.1,hb.2,Instr.sureAddr]
     · cases h
   · cases h
 · cases h
def D6 (P:Program) (t:TypeId) (x ix:Value):Option Value:=
 match P.underlying t,x,ix with
 | some (.array len e),.agg cs,.int _ n=>
   match P.info? e with
   | some i=>if 0≤n∧n<len then apart P e cs (n.toNat*i.size) else none
   | none=>none
 | some .string,.string s,.int _ n=>
   if 0≤n then
    match s[n.toNat]? with
    | some b=>some (.int .u8 b.toNat)
    | none=>none
   else none
 | _,_,_=>none
theorem D5 {P:Program} {m:Mp} {t:TypeId} {x x' y y' v:Value} (h:D6 P t x y=some v) (hx:cz m x x') (hy:cz m y y') :
 ∃v',cz m v v'∧∀w,(Instr.index t x' y').run P w=.ok v' w:=by
 unfold D6 at h
 split at h
 · rename_i len e cs k n hu
   cases hy
   split at h
   · rename_i i hi
     split at h
     · rename_i hb
       have II:=hx
       cases hx with
       | agg rq h1=>
         obtain⟨v',h3,h2⟩:=lj (P:=P) h II
         exact⟨v',h3,fun w=>by simp [Instr.index,run_underlying hu,asIntOf,fT hi,hb.1,hb.2,h2]⟩
     · cases h
   · cases h
 · rename_i s k n hu
   cases hx;cases hy
   split at h
   · rename_i h0
     split at h
     · rename_i b hb
       injection h with h
       subst h
       exact⟨.int .u8 b.toNat,by constructor,fun w=>by simp [Instr.index,run_underlying hu,asIntOf,h0,hb]⟩
     · cases h
   · cases h
 · cases h
def oN (v:Option Value) (d Pf:Nat):Option Nat:=
 match v with
 | none=>some d
 | some (.int _ n)=>if 0≤n∧n≤Pf then some n.toNat else none
 | some _=>none
def eB (P:Program) (A:AW) (e:TypeId) (p:Addr) (l:Nat):Option Addr:=
 if l=0 then some p else
 match P.info? e,A.cy p.block with
 | some i,some (.cells _ _ unit)=>if unit=i.size then some ⟨p.block,p.off+l*i.size,none⟩ else none
 | _,_=>none
def vX (P:Program) (A:AW) (t:TypeId) (x:Value) (lo hi mx:Option Value):Option Value:=
 match P.underlying t,x,mx with
 | some (.slice e),.slice a len dA,none=>
   match oN hi len dA with
   | some h=>
     match oN lo 0 h with
     | some l=>
       match P.info? e,a with
       | some _,none=>some (.slice none (h-l) (dA-l))
       | some _,some p=>
         match eB P A e p l with
         | some q=>some (.slice (some q) (h-l) (dA-l))
         | none=>none
       | none,_=>none
     | none=>none
   | none=>none
 | some .string,.string s,none=>
   match oN hi s.size s.size with
   | some h=>
     match oN lo 0 h with
     | some l=>some (.string (s.extract l h))
     | none=>none
   | none=>none
 | _,_,_=>none
open Go
def tb (m:Mp):Option Value→Option Value→Prop
 | none,none=>True
 | some v,some v'=>cz m v v'
 | _,_=>False
theorem je {P:Program} {w:World} {k:IntKind} {n:Int} {y:Nat} {ax:BoundsCode} (h0:0≤n) (h1:n≤y) :
 (Instr.sliceBound (.int k n) y ax).run P w=.ok n.toNat w:=by
 simp [Instr.sliceBound,asIntOf,h0,h1]
theorem xe {m:Mp} {v v':Option Value} {d Pf h:Nat} (hb:oN v d Pf=some h) (hv:tb m v v') :
 (v'=none∧h=d)∨∃k n,v'=some (.int k n)∧0≤n∧n≤Pf∧h=n.toNat:=by
 unfold oN at hb
 split at hb
 · injection hb with hb
   cases v' with
   | none=>exact .inl ⟨rfl,hb.symm⟩
   | some _=>exact hv.elim
 · rename_i k n
   split at hb
   · rename_i hc
     injection hb with hb
     cases v' with
     | none=>exact hv.elim
     | some _=>cases hv;exact .inr ⟨k,n,rfl,hc.1,hc.2,hb.symm⟩
   · cases hb
 · cases hb
theorem mT {P:Program} {m:Mp} {lo hi M8 xx:Option Value} {len dA iB h l:Nat} (Xl:Bool) (hh:oN hi len dA=some h) (hl:oN lo 0 h=some l)
 (hc:dA≤iB) (AA:tb m lo M8) (OJ:tb m hi xx) (w:World):(Instr.sliceBounds Xl len iB M8 xx none).run P w=.ok (l,h,iB) w:=by
 rcases xe hh OJ with ⟨rfl,rfl⟩|⟨k,n,rfl,h0,h1,rfl⟩<;>rcases xe hl AA with ⟨rfl,rfl⟩|⟨k',n',rfl,MG,OM,rfl⟩
 · simp [Instr.sliceBounds]
 · simp [Instr.sliceBounds,je MG OM]
 · have h2:n≤(iB:Int):=by omega
   simp [Instr.sliceBounds,je h0 h2]
 · have h2:n≤(iB:Int):=by omega
   simp [Instr.sliceBounds,je h0 h2,je MG OM]
theorem CB {v:Option Value} {d Pf h:Nat} (hb:oN v d Pf=some h):h=d∨h≤Pf:=by
 unfold oN at hb
 split at hb
 · injection hb with hb;exact .inl hb.symm
 · split at hb
   · rename_i hc;injection hb with hb;exact .inr (by omega)
   · cases hb
 · cases hb
theorem D2 {P:Program} {m:Mp} {A:AW} {w:World} (hs:Sim m A w) {t:TypeId} {x x' v:Value} {lo hi mx M8 xx On:Option Value} (h:vX P A t x lo hi mx=some v)
 (hx:cz m x x') (AA:tb m lo M8) (OJ:tb m hi xx) (SW:tb m mx On):∃v',cz m v v'∧∀w',(Instr.sliceAt t x' M8 xx On).run P w'=.ok v' w':=by
 unfold vX at h
 split at h
 · rename_i e a len dA hu
   cases On with
   | some _=>exact SW.elim
   | none=>
   split at h
   · rename_i hh Sm
     split at h
     · rename_i l Sl
       have Zm:l=0∨l≤hh:=CB Sl
       have Zq:hh=len∨hh≤dA:=CB Sm
       split at h
       · rename_i i hi
         injection h with h
         subst h
         cases hx
         have hr:=mT (P:=P) (m:=m) true Sm Sl (Nat.le_refl 0) AA OJ
         have h1:hh=0:=by omega
         have h2:l=0:=by omega
         subst h1;subst h2
         refine⟨.slice none 0 0,.lc,fun w'=>?_⟩
         simp [Instr.sliceAt,Instr.slice,run_underlying hu,hr,fT hi]
       · rename_i i p hi
         split at h
         · rename_i q hq
           injection h with h
           subst h
           cases hx with
           | slice Ms h1 h2=>
             rename_i p' iB
             have hr:=mT (P:=P) (m:=m) true Sm Sl h2 AA OJ
             refine⟨.slice (some (if iB=l then p' else p'.add (l*i.size))) (hh-l) (iB-l),?_,fun w'=>?_⟩
             rotate_left
             · simp only [Instr.sliceAt,Sem.run_bind,run_underlying hu,Result.andThen_ok,Instr.slice,hr,fT hi,Sem.run_pure,Option.map_some]
               split<;>rfl
             · refine .slice ?_ (by omega) (by omega)
               by_cases iz:iB=l
               · refine .inr ⟨by omega,by omega,?_⟩
                 unfold eB at hq
                 split at hq
                 · injection hq with hq
                   subst hq
                   rcases Ms with ⟨_,_,pl,g3,_⟩|⟨_,_,g⟩
                   · exact .inr (by rw [g3];exact Option.some_ne_none _)
                   · exact g
                 · split at hq
                   · rename_i hg
                     split at hq
                     · injection hq with hq
                       subst hq
                       obtain⟨pl,g7,_⟩:=hs.Cg _ _ hg
                       exact .inr (by simp only;rw [g7];exact Option.some_ne_none _)
                     · cases hq
                   · cases hq
               · rw [if_neg iz]
                 have T1:wj m p p' iB:=by
                  rcases Ms with Ms|Ms
                  · exact Ms
                  · omega
                 obtain⟨g1,g2,pl,g3,g4,g5,g6⟩:=T1
                 unfold eB at hq
                 split at hq
                 · rename_i QD
                   subst QD
                   injection hq with hq
                   subst hq
                   rw [Nat.zero_mul,show p'.add 0=p' by unfold Addr.add;simp]
                   exact .inl ⟨g1,g2,pl,g3,g4,g5,by simpa using g6⟩
                 · rename_i QD
                   split at hq
                   · rename_i i' cs own unit xx hg
                     rw [hi] at xx
                     injection xx with xx
                     subst xx
                     split at hq
                     · rename_i Ox
                       injection hq with hq
                       subst hq
                       obtain⟨Zf,g7,iX,e',fr,g8,_,g9,_⟩:=hs.Cg _ _ hg
                       rw [g3] at g7
                       injection g7 with g7
                       subst g7
                       rw [oM _ _ g2]
                       refine .inl ⟨rfl,rfl,pl,g3,g4,by simp only [g5,Nat.add_assoc],?_⟩
                       rw [←g9,Ox] at g6 ⊢
                       simp only
                       have:l*i.size+(iB-l)*i.size=iB*i.size:=by
                        rw [←Nat.add_mul];congr 1;omega
                       omega
                     · cases hq
                   · cases hq
         · cases h
       · cases h
     · cases h
   · cases h
 · rename_i s hu
   cases On with
   | some _=>exact SW.elim
   | none=>
   cases hx
   split at h
   · rename_i hh Sm
     split at h
     · rename_i l Sl
       injection h with h
       subst h
       have hr:=mT (P:=P) (m:=m) false Sm Sl (Nat.le_refl _) AA OJ
       refine⟨.string (s.extract l hh),.string _,fun w'=>?_⟩
       simp [Instr.sliceAt,Instr.slice,run_underlying hu,hr]
     · cases h
   · cases h
 · cases h
def xO (P:Program) (t:TypeId) (x:Value) (lo hi:Option Value) (mx:Value):Option Value:=
 match P.underlying t,x,lo,hi,mx with
 | some (.slice e),.slice a _ _,none,some (.int _ h),.int _ q=>
   match P.info? e with
   | some _=>if h=0∧q=0 then some (match a with|none=>.slice none 0 0|some _=>.slice (some ⟨0,0,some 0⟩) 0 0) else none
   | none=>none
 | _,_,_,_,_=>none
theorem BN {P:Program} {m:Mp} {t:TypeId} {x x' v mx On:Value} {lo hi M8 xx:Option Value} (h:xO P t x lo hi mx=some v)
 (hx:cz m x x') (AA:tb m lo M8) (OJ:tb m hi xx) (SW:cz m mx On):∃v',cz m v v'∧∀w',(Instr.sliceAt t x' M8 xx (some On)).run P w'=.ok v' w':=by
 unfold xO at h
 split at h<;>try(cases h;done)
 rename_i e a len dA k h0 k' q hu
 split at h<;>try(cases h;done)
 rename_i i VX
 split at h<;>try(cases h;done)
 rename_i hc
 obtain⟨rfl,rfl⟩:=hc
 injection h with h
 subst h
 cases M8 with
 | some _=>exact AA.elim
 | none=>
 cases xx with
 | none=>exact OJ.elim
 | some hv=>
 have Uv:cz m (.int k 0) hv:=OJ
 cases Uv
 cases SW
 have hb:∀(iB:Nat) (w':World),(Instr.sliceBounds true len iB none (some (.int k 0)) (some (.int k' 0))).run P w'=.ok (0,0,0) w':=fun iB w'=>by
  simp [Instr.sliceBounds,je (P:=P) (w:=w') (k:=k') (n:=0) (y:=iB) (ax:=.slice3Acap) (by omega) (by omega),
   je (P:=P) (w:=w') (k:=k) (n:=0) (y:=0) (ax:=.slice3B) (by omega) (by omega)]
 cases a with
 | none=>
   cases hx
   exact⟨.slice none 0 0,.lc,fun w'=>by simp [Instr.sliceAt,Instr.slice,run_underlying hu,hb,fT VX]⟩
 | some a=>
   cases hx with
   | slice hh h1 h2=>
     rename_i a' iB
     exact⟨.slice (some a') 0 0,.slice (.inr ⟨rfl,rfl,.inl rfl⟩) (Nat.le_refl _) (Nat.le_refl _),fun w'=>by simp [Instr.sliceAt,Instr.slice,run_underlying hu,hb,fT VX]⟩
def GB (size:Nat):List (Nat×Value)→List Value→Option (List Value)
 | [],cs=>some cs
 | (i,v)::jB,cs=>if v.cells.size=size∧i*size+size≤cs.length then GB size jB (fG cs (i*size) v.cells.toList) else none
def fh (z:List Value):Nat→List Value
 | 0=>[]
 | n+1=>z++fh z n
theorem u7 (l:List Value):∀(cs:Array Value) (off k:Nat),off+k+l.length≤cs.size→
 ((l.zipIdx k).foldl (fun cs (c,j)=>cs.setIfInBounds (off+j) c) cs).toList=fG cs.toList (off+k) l:=by
 induction l with
 | nil=>intro cs off k _;rfl
 | cons v l ih=>
   intro cs off k h
   simp only [List.zipIdx_cons,List.foldl_cons,fG]
   rw [ih _ off (k+1) (by simp at h ⊢;omega)]
   simp [Nat.add_assoc]
theorem qx {m:Mp}:∀(l l':List Value) (off:Nat) (cs oQ:List Value),ik m cs oQ→ik m l l'→off+l.length≤cs.length→
 ik m (fG cs off l) (fG oQ off l')
 | [],l',off,cs,oQ,h,hl,_=>by
   have e:=hl.sN
   subst e
   exact h
 | v::l,l',off,cs,oQ,h,hl,eG=>by
   obtain⟨v',t',rfl,hv,ht⟩:=hl.oD
   simp only [List.length_cons] at eG
   refine qx l t' (off+1) _ _ ⟨by simp [h.1],fun i x x' h1 h2=>?_⟩ ht (by simp;omega)
   by_cases hi:off=i
   · subst hi
     rw [List.getElem?_set_self (by omega)] at h1
     rw [List.getElem?_set_self (by rw [←h.1];omega)] at h2
     injection h1 with h1
     injection h2 with h2
     subst h1;subst h2
     exact hv
   · rw [List.getElem?_set_ne hi] at h1 h2
     exact h.2 i x x' h1 h2
theorem w5 {m:Mp} {size:Nat}:∀(jJ gB:List (Nat×Value)) (cs r:List Value) (oQ:Array Value),GB size jJ cs=some r→ik m cs oQ.toList→
 jJ.length=gB.length→(∀(k:Nat) (p p':Nat×Value),jJ[k]? = some p→gB[k]? = some p'→p.1=p'.1∧cz m p.2 p'.2)→
 ∃r',Instr.fill (fun i=>some (i*size,size)) oQ gB=some r'∧ik m r r'.toList
 | [],gB,cs,r,oQ,h,hc,hl,_=>by
   cases gB with
   | cons _ _=>simp at hl
   | nil=>
     injection h with h
     subst h
     exact⟨oQ,rfl,hc⟩
 | (i,v)::jB,gB,cs,r,oQ,h,hc,hl,hp=>by
   cases gB with
   | nil=>simp at hl
   | cons p' rest'=>
     obtain⟨i',v'⟩:=p'
     obtain⟨h1,h2⟩:=hp 0 _ _ rfl rfl
     simp only at h1 h2
     subst h1
     unfold GB at h
     split at h
     · rename_i uX
       obtain⟨hz,eG⟩:=uX
       have iz:=h2.cells
       have Rn:v'.cells.size=size:=by have:=iz.1;simp at this;omega
       have rq:oQ.size=cs.length:=by have:=hc.1;simp at this;omega
       have LI:=u7 v'.cells.toList oQ (i*size) 0 (by simp;omega)
       obtain⟨r',h3,h4⟩:=w5 jB rest' _ r (v'.cells.zipIdx.foldl (fun cs (c,j)=>cs.setIfInBounds (i*size+j) c) oQ) h (by
        rw [←Array.foldl_toList,Array.toList_zipIdx,LI]
        exact qx _ _ _ _ _ hc iz (by simp;omega)) (by simpa using hl) (fun k p p' a b=>hp (k+1) p p' (by simpa using a) (by simpa using b))
       refine⟨r',?_,h4⟩
       simp only [Instr.fill,Rn,ne_eq,not_true_eq_false,decide_false,Bool.false_or,rq,decide_eq_true_eq]
       rw [if_neg (by omega)]
       exact h3
     · cases h
theorem iT (z:List Value) (n:Nat):(fh z n).length=n*z.length:=by
 induction n with
 | zero=>simp [fh]
 | succ n ih=>simp [fh,ih,Nat.add_mul];omega
theorem H7 (z:List Value) (n j:Nat) (h:j<n*z.length):(fh z n)[j]? = z[j % z.length]?:=by
 induction n generalizing j with
 | zero=>simp at h
 | succ n ih=>
   simp only [fh]
   by_cases hj:j<z.length
   · rw [List.getElem?_append_left hj,Nat.mod_eq_of_lt hj]
   · rw [List.getElem?_append_right (by omega),ih _ (by simp [Nat.add_mul] at h;omega)]
     rw [Nat.mod_eq_sub_mod (by omega:z.length≤j)]
theorem pq (z:Array Value) (n:Nat) (h:0<z.size):((Array.range (n*z.size)).map (fun j=>z[j % z.size]!)).toList=fh z.toList n:=by
 apply List.ext_getElem?
 intro j
 by_cases hj:j<n*z.size
 · rw [H7 _ _ _ (by simpa using hj)]
   have hm:j % z.size<z.size:=Nat.mod_lt _ h
   simp [hj,hm]
 · rw [List.getElem?_eq_none (by simp;omega),List.getElem?_eq_none (by rw [iT];simp;omega)]
def gf:Value→Bool
 | .bool _ | .int _ _ | .float _ _ | .complex _ _ _ | .string _ | .pointer none | .slice none 0 0 | .map none | .chan none | .nilFunc | .nilIface=>true
 | _=>false
def sR:Value→Bool
 | .agg cs=>cs.all gf
 | .tuple cs=>cs.all gf
 | v=>gf v
theorem cz.mj {v:Value} (h:gf v=true) (m:Mp):cz m v v:=by
 unfold gf at h
 split at h<;>first|(cases h;done)|constructor
theorem cz.sF {v:Value} (h:sR v=true) (m:Mp):cz m v v:=by
 unfold sR at h
 split at h
 · refine .agg rfl fun i v v' h1 h2=>?_
   rw [h1] at h2
   injection h2 with h2
   subst h2
   exact .mj (Array.all_eq_true_iff_forall_mem.1 h _ (Array.mem_of_getElem? h1)) m
 · refine .tuple rfl fun i v v' h1 h2=>?_
   rw [h1] at h2
   injection h2 with h2
   subst h2
   exact .mj (Array.all_eq_true_iff_forall_mem.1 h _ (Array.mem_of_getElem? h1)) m
 · exact .mj h m
theorem ik.mi {l:List Value} (h:l.all gf=true) (m:Mp):ik m l l:=
 ⟨rfl,fun i v v' h1 h2=>by
  rw [h1] at h2
  injection h2 with h2
  subst h2
  exact .mj (List.all_eq_true.1 h _ (List.mem_of_getElem? h1)) m⟩
theorem mz {z:List Value} (h:z.all gf=true) (n:Nat):(fh z n).all gf=true:=by
 induction n with
 | zero=>rfl
 | succ n ih=>simp only [fh,List.all_append,h,ih,Bool.and_self]
def pu (P:Program) (A:AW) (t:TypeId) (len:Nat) (jJ:List (Nat×Value)):Option (Value×AW):=
 match P.underlying t with
 | some (.slice e)=>
   match P.info? e with
   | some i=>
     match i.zero with
     | some z=>
       if z.cells.size=i.size∧0<i.size∧len*i.size≤2 ^ 24∧z.cells.toList.all gf then
        match GB i.size jJ (fh z.cells.toList len) with
        | some cs=>some (.slice (some ⟨A.next,0,none⟩) len len,A.alloc (.cells cs true i.size))
        | none=>none
       else none
     | none=>none
   | none=>none
 | _=>none
theorem Cu (size:Nat):∀(jJ:List (Nat×Value)) (cs r:Array Value),Instr.fill (fun i=>some (i*size,size)) cs jJ=some r→r.size=cs.size
 | [],cs,r,h=>by injection h with h;subst h;rfl
 | (i,v)::jB,cs,r,h=>by
   unfold Instr.fill at h
   simp only at h
   split at h
   · cases h
   · rw [Cu size jB _ r h]
     have:∀(l:List (Value×Nat)) (cs:Array Value),(l.foldl (fun cs (c,j)=>cs.setIfInBounds (i*size+j) c) cs).size=cs.size:=by
      intro l
      induction l with
      | nil=>intro cs;rfl
      | cons x l ih=>intro cs;simp [List.foldl_cons,ih]
     rw [←Array.foldl_toList]
     exact this _ _
theorem vq {P:Program} {m:Mp} {A A1:AW} {w:World} (hs:Sim m A w) {t:TypeId} {len:Nat} {jJ:List (Nat×Value)} {gB:Array (Nat×Value)} {v:Value}
 (h:pu P A t len jJ=some (v,A1)) (hl:jJ.length=gB.size)
 (hp:∀(k:Nat) (p p':Nat×Value),jJ[k]? = some p→gB[k]? = some p'→p.1=p'.1∧cz m p.2 p'.2) :
 ∃v' w' m',(Instr.buildSlice t len gB).run P w=.ok v' w'∧jr m A w m' A1 w'∧cz m' v v':=by
 unfold pu at h
 split at h<;>try(cases h;done)
 rename_i e hu
 split at h<;>try(cases h;done)
 rename_i i hi
 split at h<;>try(cases h;done)
 rename_i z hz
 split at h<;>try(cases h;done)
 rename_i hc
 obtain⟨rb,h0,Zw,mR⟩:=hc
 split at h<;>try(cases h;done)
 rename_i cs Ry
 simp only [Option.some.injEq,Prod.mk.injEq] at h
 obtain⟨rfl,rfl⟩:=h
 have Lm:=pq z.cells len (by omega)
 rw [rb] at Lm
 obtain⟨r',h1,h2⟩:=w5 (m:=m) jJ gB.toList _ cs ((Array.range (len*i.size)).map (fun j=>z.cells[j % i.size]!)) Ry
  (by rw [Lm];exact .mi (mz mR len) m) (by simpa using hl) (fun k p p' a b=>hp k p p' a (by simpa using b))
 have Km:r'.size=len*i.size:=by rw [Cu _ _ _ _ h1];simp
 obtain⟨w',m',h3,h4,h5⟩:=qI (P:=P) hs e i.size h2
 refine⟨.slice (some ⟨w.heap.size,0,none⟩) len len,w',m',?_,h4,?_⟩
 · simp only [Instr.buildSlice,Sem.run_bind,run_underlying hu,Result.andThen_ok,fT hi]
   rw [if_neg (by omega)]
   by_cases QD:len*i.size=0
   · rw [if_pos QD]
     have PV:((Array.range (len*i.size)).map fun j=>(#[]:Array Value)[j % (#[]:Array Value).size]!)=(Array.range (len*i.size)).map (fun j=>z.cells[j % i.size]!):=by
      simp [QD]
     simp only [Sem.run_bind,Sem.run_pure,Result.andThen_ok,PV,h1,h3]
   · rw [if_neg QD]
     have JD:(zeroValue e).run P w=.ok z w:=by simp [zeroValue,typeInfo,hi,hz]
     simp only [Sem.run_bind,Sem.run_pure,Result.andThen_ok,JD,rb,h1,h3]
 · refine .slice (.inl ⟨rfl,rfl,⟨w.heap.size,0,i.size,r'.size⟩,by rw [h5];simp [Mp.ext],rfl,rfl,?_⟩) (Nat.le_refl _) (Nat.le_refl _)
   show 0+len*i.size≤r'.size
   omega
open Go
theorem B7 {P:Program} {w:World} {k:IntKind} {n:Int}:(asInt (.int k n)).run P w=.ok n w:=by simp [asInt,asIntOf]
theorem ak {x:Int} (h0:-9223372036854775808≤x) (h1:x≤9223372036854775807):IntKind.i64.wrap x=x:=by
 simp only [IntKind.wrap,IntKind.bits,IntKind.signed,Bool.true_and]
 split
 · rename_i h;have:=of_decide_eq_true h;omega
 · rename_i h;have:=of_decide_eq_false (eq_false_of_ne_true h);omega
theorem au {x:Int} (h0:0≤x) (h1:x<18446744073709551616):IntKind.u64.wrap x=x:=by
 simp only [IntKind.wrap,IntKind.bits,IntKind.signed,Bool.false_and,Bool.false_eq_true,if_false]
 omega
def ny (P:Program) (A:AW) (t:TypeId) (l c:Value):Option (Value×AW):=
 match P.underlying t,l,c with
 | some (.slice e),.int _ l,.int _ c=>
   match P.info? e with
   | some i=>
     match i.zero with
     | some z=>
       if z.cells.size=i.size∧0<i.size∧z.cells.toList.all gf∧0≤l∧l≤c∧c≤140737488355328∧c*i.bytes≤140737488355328 then
        some (.slice (some ⟨A.next,0,none⟩) l.toNat c.toNat,A.alloc (.cells (fh z.cells.toList c.toNat) true i.size))
       else none
     | none=>none
   | none=>none
 | _,_,_=>none
theorem GE {P:Program} {m:Mp} {A A1:AW} {w:World} (hs:Sim m A w) {t:TypeId} {l c l' c' v:Value} (h:ny P A t l c=some (v,A1)) (hl:cz m l l') (hc:cz m c c') :
 ∃v' w' m',(Instr.makeSlice t l' c').run P w=.ok v' w'∧jr m A w m' A1 w'∧cz m' v v':=by
 unfold ny at h
 split at h<;>try(cases h;done)
 rename_i e k n k' q hu
 cases hl;cases hc
 split at h<;>try(cases h;done)
 rename_i i hi
 split at h<;>try(cases h;done)
 rename_i z hz
 split at h<;>try(cases h;done)
 rename_i uX
 obtain⟨rb,h0,mR,BE,Zk,hq,XD⟩:=uX
 simp only [Option.some.injEq,Prod.mk.injEq] at h
 obtain⟨rfl,rfl⟩:=h
 have Lm:=pq z.cells q.toNat (by omega)
 rw [rb] at Lm
 obtain⟨w',m',h3,h4,h5⟩:=qI (P:=P) hs e i.size (iX:=(Array.range (q.toNat*i.size)).map (fun j=>z.cells[j % i.size]!)) (by rw [Lm];exact .mi (mz mR q.toNat) m)
 have gJ:IntKind.i64.wrap n=n:=ak (by omega) (by omega)
 have it:IntKind.i64.wrap q=q:=ak (by omega) (by omega)
 refine⟨.slice (some ⟨w.heap.size,0,none⟩) n.toNat q.toNat,w',m',?_,h4,?_⟩
 · have Xu:(typeInfo e).run P w=.ok i w:=by simp [typeInfo,hi]
   have hb:(i.bytes:Int)*q≤140737488355328:=by rw [Int.mul_comm];exact XD
   have c1:(decide (q<0) || decide ((i.bytes:Int)*q>2 ^ 48))=false:=by
    simp only [Bool.or_eq_false_iff,decide_eq_false_iff_not]
    constructor<;>omega
   simp only [Instr.makeSlice,Sem.run_bind,run_underlying hu,Result.andThen_ok,B7,Xu,gJ,it,c1]
   rw [if_neg (by simp;omega)]
   simp only [Sem.run_bind,run_askRoom,Result.andThen_ok,fT hi]
   by_cases hn:q.toNat*i.size=0
   · rw [if_pos hn]
     have PV:((Array.range (q.toNat*i.size)).map fun j=>(#[]:Array Value)[j % (#[]:Array Value).size]!)=(Array.range (q.toNat*i.size)).map (fun j=>z.cells[j % i.size]!):=by
      simp [hn]
     simp only [Sem.run_bind,Sem.run_pure,Result.andThen_ok,PV,h3]
   · rw [if_neg hn]
     have JD:(zeroValue e).run P w=.ok z w:=by simp [zeroValue,typeInfo,hi,hz]
     simp only [Sem.run_bind,Sem.run_pure,Result.andThen_ok,JD,rb,h3]
 · refine .slice (.inl ⟨rfl,rfl,⟨w.heap.size,0,i.size,((Array.range (q.toNat*i.size)).map (fun j=>z.cells[j % i.size]!)).size⟩,by rw [h5];simp [Mp.ext],rfl,rfl,?_⟩) (by omega) (Nat.le_refl _)
   show 0+q.toNat*i.size≤((Array.range (q.toNat*i.size)).map (fun j=>z.cells[j % i.size]!)).size
   simp
def Ef (P:Program) (A:AW) (t:TypeId):Option (Value×AW):=
 match P.info? t with
 | some i=>
   match i.zero with
   | some z=>if sR z then some (Mg A z) else none
   | none=>none
 | none=>none
theorem Ee {P:Program} {m:Mp} {A A1:AW} {w:World} (hs:Sim m A w) {t:TypeId} {v:Value} (h:Ef P A t=some (v,A1)) :
 ∃v' w' m',(Instr.alloc t true (.tuple #[])).run P w=.ok v' w'∧jr m A w m' A1 w'∧cz m' v v':=by
 unfold Ef at h
 split at h<;>try(cases h;done)
 rename_i i hi
 split at h<;>try(cases h;done)
 rename_i z hz
 split at h<;>try(cases h;done)
 rename_i hg
 injection h with h
 obtain⟨p',w',m',h1,h2,h3⟩:=Ap (P:=P) hs t (cz.sF hg m)
 rw [h] at h2 h3
 refine⟨p',w',m',?_,h2,h3⟩
 have JD:(zeroValue t).run P w=.ok z w:=by simp [zeroValue,typeInfo,hi,hz]
 simp only [Instr.alloc,Sem.run_bind,JD,Result.andThen_ok]
 exact h1
def vY (Fs:Nat→Option (Nat×Nat)):List (Nat×Value)→List Value→Option (List Value)
 | [],cs=>some cs
 | (i,v)::jB,cs=>
   match Fs i with
   | some (off,size)=>if v.cells.size=size∧off+size≤cs.length then vY Fs jB (fG cs off v.cells.toList) else none
   | none=>none
theorem qP {m:Mp} {Fs:Nat→Option (Nat×Nat)}:∀(jJ gB:List (Nat×Value)) (cs r:List Value) (oQ:Array Value),vY Fs jJ cs=some r→ik m cs oQ.toList→
 jJ.length=gB.length→(∀(k:Nat) (p p':Nat×Value),jJ[k]? = some p→gB[k]? = some p'→p.1=p'.1∧cz m p.2 p'.2)→
 ∃r',Instr.fill Fs oQ gB=some r'∧ik m r r'.toList
 | [],gB,cs,r,oQ,h,hc,hl,_=>by
   cases gB with
   | cons _ _=>simp at hl
   | nil=>
     injection h with h
     subst h
     exact⟨oQ,rfl,hc⟩
 | (i,v)::jB,gB,cs,r,oQ,h,hc,hl,hp=>by
   cases gB with
   | nil=>simp at hl
   | cons p' rest'=>
     obtain⟨i',v'⟩:=p'
     obtain⟨h1,h2⟩:=hp 0 _ _ rfl rfl
     simp only at h1 h2
     subst h1
     unfold vY at h
     split at h
     · rename_i off size Az
       split at h
       · rename_i uX
         obtain⟨hz,eG⟩:=uX
         have iz:=h2.cells
         have Rn:v'.cells.size=size:=by have:=iz.1;simp at this;omega
         have rq:oQ.size=cs.length:=by have:=hc.1;simp at this;omega
         have LI:=u7 v'.cells.toList oQ off 0 (by simp;omega)
         obtain⟨r',h3,h4⟩:=qP jB rest' _ r (v'.cells.zipIdx.foldl (fun cs (c,j)=>cs.setIfInBounds (off+j) c) oQ) h (by
          rw [←Array.foldl_toList,Array.toList_zipIdx,LI]
          exact qx _ _ _ _ _ hc iz (by simp;omega)) (by simpa using hl) (fun k p p' a b=>hp (k+1) p p' (by simpa using a) (by simpa using b))
         refine⟨r',?_,h4⟩
         simp only [Instr.fill,Az,Rn,ne_eq,not_true_eq_false,decide_false,Bool.false_or,rq,decide_eq_true_eq]
         rw [if_neg (by omega)]
         exact h3
       · cases h
     · cases h
def vk (P:Program) (fs:List Field):Option (List (Nat×Nat)):=
 match fs with
 | []=>some []
 | f::r=>
   match P.info? f.type,vk P r with
   | some i,some l=>some ((f.offset,i.size)::l)
   | _,_=>none
theorem w8 {P:Program} {w:World}:∀(fs:List Field) (l:List (Nat×Nat)),vk P fs=some l→
 (fs.mapM fun f=>(do pure (f.offset,←sizeOf f.type):Sem (Nat×Nat))).run P w=.ok l w
 | [],l,h=>by injection h with h;subst h;rfl
 | f::r,l,h=>by
   unfold vk at h
   split at h
   · rename_i i l' hi hl
     injection h with h
     subst h
     simp only [List.mapM_cons,Sem.run_bind,fT hi,Result.andThen_ok,Sem.run_pure,w8 r l' hl]
   · cases h
theorem rC {P:Program} {w w':World} {α β:Type} (f:α→Sem β) (l:Array α) (r:List β) (h:(l.toList.mapM f).run P w=.ok r w') :
 (l.mapM f).run P w=.ok r.toArray w':=by
 rw [Array.mapM_eq_mapM_toList]
 simp only [Sem.run_map,h,Result.andThen_ok]
def Ed (P:Program) (t:TypeId) (jJ:List (Nat×Value)):Option Value:=
 match P.info? t with
 | some i=>
   match i.zero with
   | some z=>
     if z.cells.toList.all gf then
      match P.underlying t with
      | some (.struct fs)=>
        match vk P fs.toList with
        | some l=>
          match vY (fun k=>l[k]?) jJ z.cells.toList with
          | some cs=>some (.agg cs.toArray)
          | none=>none
        | none=>none
      | some (.array _ e)=>
        match P.info? e with
        | some ie=>
          match vY (fun k=>some (k*ie.size,ie.size)) jJ z.cells.toList with
          | some cs=>some (.agg cs.toArray)
          | none=>none
        | none=>none
      | _=>none
     else none
   | none=>none
 | none=>none
theorem Ec {P:Program} {m:Mp} {t:TypeId} {jJ:List (Nat×Value)} {gB:Array (Nat×Value)} {v:Value}
 (h:Ed P t jJ=some v) (hl:jJ.length=gB.size)
 (hp:∀(k:Nat) (p p':Nat×Value),jJ[k]? = some p→gB[k]? = some p'→p.1=p'.1∧cz m p.2 p'.2) :
 ∃v',cz m v v'∧∀w,(Instr.build t gB).run P w=.ok v' w:=by
 unfold Ed at h
 split at h<;>try(cases h;done)
 rename_i i hi
 split at h<;>try(cases h;done)
 rename_i z hz
 split at h<;>try(cases h;done)
 rename_i mR
 have JD:∀w,(zeroValue t).run P w=.ok z w:=fun w=>by simp [zeroValue,typeInfo,hi,hz]
 split at h<;>try(cases h;done)
 · rename_i fs hu
   split at h<;>try(cases h;done)
   rename_i l Az
   split at h<;>try(cases h;done)
   rename_i cs pO
   injection h with h
   subst h
   obtain⟨r',h1,h2⟩:=qP (m:=m) jJ gB.toList _ cs z.cells pO (.mi mR m) (by simpa using hl) (fun k p p' a b=>hp k p p' a (by simpa using b))
   refine⟨.agg r',?_,fun w=>?_⟩
   · have:=cz.pk h2
     simpa using this
   · have hm:=rC _ fs l (w8 (w:=w) fs.toList l Az)
     simp only [Instr.build,Sem.run_bind,JD,Result.andThen_ok,run_underlying hu,hm]
     have e:(fun (x:Nat)=>l.toArray[x]?)=fun(k:Nat)=>l[k]?:=by funext k;simp
     rw [e,h1]
     rfl
 · rename_i n e hu
   split at h<;>try(cases h;done)
   rename_i ie zG
   split at h<;>try(cases h;done)
   rename_i cs pO
   injection h with h
   subst h
   obtain⟨r',h1,h2⟩:=qP (m:=m) jJ gB.toList _ cs z.cells pO (.mi mR m) (by simpa using hl) (fun k p p' a b=>hp k p p' a (by simpa using b))
   refine⟨.agg r',?_,fun w=>?_⟩
   · have:=cz.pk h2
     simpa using this
   · simp only [Instr.build,Sem.run_bind,JD,Result.andThen_ok,run_underlying hu,fT zG,h1,Sem.run_pure]
def kN (P:Program) (t:TypeId) (x:Value):Option Value:=
 match P.underlying t,x with
 | some .string,.string s=>some (.int .i64 s.size)
 | some (.slice _),.slice _ n _=>some (.int .i64 n)
 | some (.array n _),_=>some (.int .i64 n)
 | _,_=>none
theorem Ic {P:Program} {m:Mp} {t ty:TypeId} {x x' v:Value} (h:kN P t x=some v) (hx:cz m x x') :
 cz m v v∧∀w,(Builtin.len_ #[t] ty #[x']).run P w=.ok v w:=by
 unfold kN at h
 split at h
 · rename_i s hu;injection h with h;subst h;cases hx
   exact⟨by constructor,fun w=>by simp [Builtin.len_,run_underlying hu,goInt]⟩
 · rename_i e a n c hu;injection h with h;subst h
   cases hx<;>exact⟨by constructor,fun w=>by simp [Builtin.len_,run_underlying hu,goInt]⟩
 · rename_i n e hu;injection h with h;subst h
   exact⟨by constructor,fun w=>by simp [Builtin.len_,run_underlying hu,goInt]⟩
 · cases h
def Mc (mx:Bool):List Value→Option Value
 | [.int k a,.int k' b]=>if k=k' then some (.int k (if mx then (if a<b then b else a) else (if b<a then b else a))) else none
 | _=>none
theorem Ai {P:Program} {m:Mp} {ts:Array TypeId} {ty:TypeId} {mx:Bool} {l:List Value} {l':Array Value} {v:Value} (h:Mc mx l=some v) (hl:ik m l l'.toList) :
 cz m v v∧∀w,((if mx then Builtin.max_ ts ty l' else Builtin.min_ ts ty l')).run P w=.ok v w:=by
 unfold Mc at h
 split at h
 · rename_i k a k' b
   obtain⟨x',t',e1,h1,h2⟩:=hl.oD
   obtain⟨y',Ze,e2,h3,h4⟩:=h2.oD
   have e3:=h4.sN
   cases h1;cases h3
   subst e3;subst e2
   have XY:l' = #[.int k a,.int k' b]:=by apply Array.ext';exact e1
   subst XY
   split at h
   · injection h with h
     subst h
     cases mx
     · exact⟨by constructor,fun w=>by simp [Builtin.min_,Builtin.min2]⟩
     · refine⟨by constructor,fun w=>?_⟩
       simp [Builtin.max_,Builtin.max2]
   · cases h
 · cases h
def qR (P:Program) (t:TypeId) (x:Value):Option Value:=
 match P.underlying t with
 | some (.interface _)=>none
 | some _=>some (.iface t x)
 | none=>none
theorem vZ {P:Program} {m:Mp} {t:TypeId} {x x' v:Value} (h:qR P t x=some v) (hx:cz m x x') :
 ∃v',cz m v v'∧∀w,(Instr.makeInterface t x').run P w=.ok v' w:=by
 unfold qR at h
 cases hu:P.underlying t with
 | none=>simp [hu] at h
 | some d=>
   rw [hu] at h
   cases d<;>simp only [Option.some.injEq] at h<;>(try (cases h;done))<;>subst h <;>
    exact⟨.iface t x',.iface t hx,fun w=>by simp [Instr.makeInterface,run_underlying hu]⟩
open Go
open Go.MapKept (run_findKey)
def kI:TypeDesc→Bool
 | .int _=>true
 | .string=>true
 | _=>false
def gx (d:TypeDesc) (k:Value):List (Value×Value)→Nat→Option (Option (Nat×Value))
 | [],_=>some none
 | e::es,i=>
   match Instr.sameNow d k e.1 with
   | some true=>some (some (i,e.2))
   | some false=>gx d k es (i+1)
   | none=>none
theorem wB {m:Mp} {d:TypeDesc} {a a' b b':Value} {r:Bool} (h:Instr.sameNow d a b=some r) (ha:cz m a a') (hb:cz m b b'):Instr.sameNow d a' b'=some r:=by
 unfold Instr.sameNow at h
 split at h
 · cases ha;cases hb;exact h
 · cases ha;cases hb;exact h
 · cases ha;cases hb;exact h
 · cases h
theorem C3 {d:TypeDesc} {a b:Value} (h:Instr.sameNow d a b=some true):Instr.sameBits 10000 b a=true:=by
 unfold Instr.sameNow at h
 split at h
 · rename_i k x k' y
   split at h
   · rename_i e
     subst e
     simp only [Option.some.injEq,beq_iff_eq] at h
     subst h
     simp [Instr.sameBits]
   · cases h
 · rename_i x y
   simp only [Option.some.injEq] at h
   have e:x.data=y.data:=eq_of_beq (show (x.data == y.data)=true from h)
   show (y.data == x.data)=true
   rw [e]
   exact beq_self_eq_true _
 · simp only [Option.some.injEq] at h
   have:=LawfulBEq.eq_of_beq h
   subst this
   simp [Instr.sameBits]
 · cases h
theorem kV {m:Mp} {d:TypeDesc} {k k':Value} (hk:cz m k k'):∀(es:List (Value×Value)) (kg:List MapEntry) (i:Nat) (r:Option (Nat×Value)),
 es.length=kg.length→(∀(j:Nat) (x:Value×Value) (e:MapEntry),es[j]? = some x→kg[j]? = some e→cz m x.1 e.key∧cz m x.2 e.val)→
 gx d k es i=some r→∃r',Instr.findNow d k' kg i=some r'∧
  ((r=none∧r'=none)∨∃j v v' e,r=some (i+j,v)∧r'=some (i+j,v')∧cz m v v'∧kg[j]? = some e∧Instr.sameNow d k' e.key=some true)
 | [],kg,i,r,hl,_,h=>by
   cases kg with
   | cons _ _=>simp at hl
   | nil=>injection h with h;subst h;exact⟨none,rfl,.inl ⟨rfl,rfl⟩⟩
 | x::es,kg,i,r,hl,hr,h=>by
   cases kg with
   | nil=>simp at hl
   | cons e kg=>
     obtain⟨h1,h2⟩:=hr 0 x e rfl rfl
     unfold gx at h
     split at h
     · rename_i hs
       injection h with h
       subst h
       have Qy:=wB hs hk h1
       exact⟨some (i,e.val),by simp [Instr.findNow,Qy],.inr ⟨0,x.2,e.val,e,rfl,rfl,h2,rfl,Qy⟩⟩
     · rename_i hs
       have Qy:=wB hs hk h1
       obtain⟨r',h3,h4⟩:=kV hk es kg (i+1) r (by simpa using hl) (fun j y f a b=>hr (j+1) y f (by simpa using a) (by simpa using b)) h
       refine⟨r',by simp [Instr.findNow,Qy,h3],?_⟩
       rcases h4 with h4|⟨j,v,v',e',h5,h6,h7,h8,h9⟩
       · exact .inl h4
       · refine .inr ⟨j+1,v,v',e',?_,?_,h7,by simpa using h8,h9⟩
         · rw [h5,show i+1+j=i+(j+1) by omega]
         · rw [h6,show i+1+j=i+(j+1) by omega]
     · cases h
theorem AT {P:Program} {w:World} {kt:TypeId} {d:TypeDesc} {k:Value} (hd:P.underlying kt=some d) (hk:kI d=true) (e:Bool) (n:Nat) :
 (Instr.checkKey e (n+1) kt k).run P w=.ok () w:=by
 have:d=.string∨∃i,d=.int i:=by
  unfold kI at hk
  split at hk
  · exact .inr ⟨_,rfl⟩
  · exact .inl rfl
  · cases hk
 unfold Instr.checkKey
 rw [Sem.run_bind,run_underlying hd]
 rcases this with rfl|⟨i,rfl⟩<;>rfl
theorem kO {P:Program} {w:World} {kt:TypeId} {d:TypeDesc} {k:Value} (hd:P.underlying kt=some d) (hk:kI d=true) (e:Bool) :
 (Instr.checkKey e 10000 kt k).run P w=.ok () w:=AT hd hk e 9999
def qo (P:Program) (e:TypeId) (vf:Bool):Option Value:=
 match P.info? e with
 | some i=>
   match i.zero with
   | some z=>if sR z then (if vf then (if gf z then some (.tuple #[z,.bool false]) else none) else some z) else none
   | none=>none
 | none=>none
def qS (P:Program) (A:AW) (t:TypeId) (x ix:Value) (vf:Bool):Option Value:=
 match P.underlying t with
 | some (.map kt e)=>
   match P.underlying kt with
   | some d=>
     if kI d then
      match x with
      | .map none=>qo P e vf
      | .map (some r)=>
        match A.cy r with
        | some (.map es _)=>
          match gx d ix es 0 with
          | some (some (_,v))=>some (if vf then .tuple #[v,.bool true] else v)
          | some none=>qo P e vf
          | none=>none
        | _=>none
      | _=>none
     else none
   | none=>none
 | _=>none
theorem tw {P:Program} {e:TypeId} {c:Bool} {v:Value} (h:qo P e c=some v) (m:Mp) :
 cz m v v∧∃z,v=(if c then .tuple #[z,.bool false] else z)∧∀w,(zeroValue e).run P w=.ok z w:=by
 unfold qo at h
 split at h<;>try(cases h;done)
 rename_i i hi
 split at h<;>try(cases h;done)
 rename_i z hz
 split at h<;>try(cases h;done)
 rename_i hg
 have JD:∀w,(zeroValue e).run P w=.ok z w:=fun w=>by simp [zeroValue,typeInfo,hi,hz]
 cases c
 · simp only [Bool.false_eq_true,if_false,Option.some.injEq] at h
   subst h
   exact⟨.sF hg m,z,rfl,JD⟩
 · simp only [if_true] at h
   split at h<;>try(cases h;done)
   rename_i hs
   injection h with h
   subst h
   exact⟨.sF (v:=.tuple #[z,.bool false]) (show (#[z,Value.bool false]:Array Value).all gf=true by simp [hs];rfl) m,z,rfl,JD⟩
theorem cz.Tu {m:Mp} {a a' b b':Value} (h:cz m a a') (k:cz m b b'):cz m (.tuple #[a,b]) (.tuple #[a',b']):=by
 refine .tuple rfl fun i v v' h1 h2=>?_
 match i with
 | 0=>simp at h1 h2;subst h1;subst h2;exact h
 | 1=>simp at h1 h2;subst h1;subst h2;exact k
 | i+2=>simp at h1
theorem BQ {P:Program} {m:Mp} {A:AW} {w:World} (hs:Sim m A w) {t:TypeId} {x x' ix SP v:Value} {c:Bool} (h:qS P A t x ix c=some v)
 (hx:cz m x x') (PJ:cz m ix SP):∃v',cz m v v'∧∀w',(∀b,b<w.heap.size→w'.heap[b]? = w.heap[b]?)→(Instr.lookup t x' SP c).run P w'=.ok v' w':=by
 unfold qS at h
 split at h<;>try(cases h;done)
 rename_i kt e hu
 split at h<;>try(cases h;done)
 rename_i d hd
 split at h<;>try(cases h;done)
 rename_i PG
 split at h<;>try(cases h;done)
 · cases hx
   obtain⟨h1,z,rfl,h2⟩:=tw h m
   refine⟨_,h1,fun w' _=>?_⟩
   simp only [Instr.lookup,Sem.run_bind,run_underlying hu,Result.andThen_ok,Sem.run_pure,kO hd PG,run_findKey hd (l:=(#[]:Array MapEntry).toList) (k:=SP) (a:=none) (show Instr.findNow d SP [] 0=some none from rfl),h2]
 · rename_i r
   split at h<;>try(cases h;done)
   rename_i es own hg
   obtain⟨p,hp,kg,ao,hh,hl,rX⟩:=hs.Cg _ _ hg
   cases hx with
   | map hx=>
     rename_i r'
     obtain⟨p',Nq,rfl⟩:=hx
     rw [hp] at Nq
     injection Nq with Nq
     subst Nq
     have hb:p.block<w.heap.size:=(Array.getElem?_eq_some_iff.1 hh).1
     split at h
     · rename_i i v0 hf
       obtain⟨r',h3,h4⟩:=kV PJ es kg.toList 0 _ (by simpa using hl) (fun j y f a b=>rX j y f a (by simpa using b)) hf
       rcases h4 with ⟨h4,_⟩|⟨j,v1,v',e',h5,rfl,h7,_,_⟩
       · cases h4
       · injection h5 with h5
         injection h5 with h5 h6
         subst h6
         injection h with h
         subst h
         refine⟨if c then .tuple #[v',.bool true] else v',?_,fun w' he=>?_⟩
         · cases c
           · exact h7
           · exact .Tu h7 (.bool true)
         · have PM:w'.heap[p.block]? = some (.map kg ao):=by rw [he _ hb];exact hh
           simp only [Instr.lookup,Sem.run_bind,run_underlying hu,Result.andThen_ok,Sem.run_pure,Go.MapKept.run_getObj_map PM,kO hd PG,run_findKey hd h3]
     · rename_i hf
       obtain⟨r',h3,h4⟩:=kV PJ es kg.toList 0 _ (by simpa using hl) (fun j y f a b=>rX j y f a (by simpa using b)) hf
       rcases h4 with ⟨_,rfl⟩|⟨j,v1,v',e',h5,_⟩
       · obtain⟨h1,z,rfl,h2⟩:=tw h m
         refine⟨_,h1,fun w' he=>?_⟩
         have PM:w'.heap[p.block]? = some (.map kg ao):=by rw [he _ hb];exact hh
         simp only [Instr.lookup,Sem.run_bind,run_underlying hu,Result.andThen_ok,Sem.run_pure,Go.MapKept.run_getObj_map PM,kO hd PG,run_findKey hd h3,h2]
       · cases h5
     · cases h
def vm (P:Program) (A:AW) (t:TypeId) (x:Option Value):Option (Value×AW):=
 match x with
 | none=>some (.map (some A.next),A.alloc (.map [] true))
 | some (.int _ _)=>
   match P.underlying t with
   | some (.map _ _)=>some (.map (some A.next),A.alloc (.map [] true))
   | _=>none
 | _=>none
theorem zf {m:Mp} {A:AW} {w:World} (hs:Sim m A w) :
 jr m A w (m.ext A.next ⟨w.heap.size,0,0,0⟩) (A.alloc (.map [] true)) (w.alloc (.map #[] 0)):=
 jr.LR hs (.map [] true) ⟨w.heap.size,0,0,0⟩ rfl rfl rfl (by simp) (fun b hb=>uV w _ b hb) (Nat.le_refl _)
  ⟨#[],0,uW w _,rfl,fun k x e h=>by simp at h⟩
theorem Ak {P:Program} {m:Mp} {A A1:AW} {w:World} (hs:Sim m A w) {t:TypeId} {x x':Option Value} {v:Value} (h:vm P A t x=some (v,A1)) (hx:tb m x x') :
 ∃v' w' m',(Instr.makeMap t x').run P w=.ok v' w'∧jr m A w m' A1 w'∧cz m' v v':=by
 unfold vm at h
 split at h
 · cases x' with
   | some _=>exact hx.elim
   | none=>
     simp only [Option.some.injEq,Prod.mk.injEq] at h
     obtain⟨rfl,rfl⟩:=h
     refine⟨.map (some w.heap.size),_,_,?_,zf hs,.map ⟨⟨w.heap.size,0,0,0⟩,by simp [Mp.ext],rfl⟩⟩
     simp only [Instr.makeMap,Sem.run_bind,Sem.run_pure,Result.andThen_ok,run_newObj]
     rfl
 · rename_i k n
   cases x' with
   | none=>exact hx.elim
   | some x'=>
     split at h<;>try(cases h;done)
     rename_i kt e hu
     simp only [Option.some.injEq,Prod.mk.injEq] at h
     obtain⟨rfl,rfl⟩:=h
     have Pm:cz m (.int k n) x':=hx
     cases Pm
     refine⟨.map (some w.heap.size),_,_,?_,zf hs,.map ⟨⟨w.heap.size,0,0,0⟩,by simp [Mp.ext],rfl⟩⟩
     simp only [Instr.makeMap,Sem.run_bind,run_underlying hu,Result.andThen_ok,B7,Sem.run_pure,run_newObj]
     rfl
 · cases h
def fU (P:Program) (A:AW) (t:TypeId) (x k v:Value):Option AW:=
 match P.underlying t,x with
 | some (.map kt _),.map (some r)=>
   match P.underlying kt,A.cy r with
   | some d,some (.map es true)=>
     if kI d then
      match gx d k es 0 with
      | some (some (i,_))=>some (A.set r (some (.map (es.set i (k,v)) true)))
      | some none=>some (A.set r (some (.map (es++[(k,v)]) true)))
      | none=>none
     else none
   | _,_=>none
 | _,_=>none
theorem qp {P:Program} {m:Mp} {A A1:AW} {w:World} (hs:Sim m A w) {t:TypeId} {x x' k k' v v':Value} (h:fU P A t x k v=some A1)
 (hx:cz m x x') (hk:cz m k k') (hv:cz m v v'):∃w',(Instr.mapUpdate t x' k' v').run P w=.ok () w'∧jr m A w m A1 w':=by
 unfold fU at h
 split at h<;>try(cases h;done)
 rename_i kt e r hu
 split at h<;>try(cases h;done)
 rename_i d es hd hg
 split at h<;>try(cases h;done)
 rename_i PG
 obtain⟨p,hp,kg,ao,hh,hl,rX⟩:=hs.Cg _ _ hg
 have hb:p.block<w.heap.size:=(Array.getElem?_eq_some_iff.1 hh).1
 cases hx with
 | map hx=>
   rename_i r'
   obtain⟨p',Nq,rfl⟩:=hx
   rw [hp] at Nq
   injection Nq with Nq
   subst Nq
   have Ok:∀(o:Obj) (j:Nat),j≠p.block→(w.heap.setIfInBounds p.block o)[j]? = w.heap[j]?:=fun o j hj=>by rw [Array.getElem?_setIfInBounds_ne (by omega)]
   have Q4:∀(o:Obj),(w.heap.setIfInBounds p.block o)[p.block]? = some o:=fun o=>by simp [hb]
   split at h
   · rename_i i v0 hf
     injection h with h
     subst h
     obtain⟨r',h3,h4⟩:=kV hk es kg.toList 0 _ (by simpa using hl) (fun j y f a b=>rX j y f a (by simpa using b)) hf
     rcases h4 with ⟨h4,_⟩|⟨j,v1,WR,e',h5,rfl,h7,h8,h9⟩
     · cases h4
     · injection h5 with h5
       injection h5 with h5 h6
       simp only [Nat.zero_add] at h5 h3
       subst h5
       have hi:i<kg.size:=by
        have:=(List.getElem?_eq_some_iff.1 h8).1
        simpa using this
       have Wi:kg[i]? = some e':=by simpa using h8
       have Up:(Instr.keyThatStays (((kg[i]?).map (·.key)).getD k') k').run P w=.ok k' w:=by
        simp [Wi,Instr.keyThatStays,C3 h9]
       refine⟨{ w with heap:=w.heap.setIfInBounds p.block (.map (kg.modify i fun e=>{ e with key:=k',val:=v' }) ao) },?_,?_⟩
       · simp only [Instr.mapUpdate,Sem.run_bind,run_underlying hu,Result.andThen_ok,Go.MapKept.run_getObj_map hh,kO hd PG,run_findKey hd h3,Up,Go.MapKept.run_setObj_map _ hh]
       · refine jr.ko hs hg rfl rfl hp (by simp) rfl rfl rfl ⟨_,ao,Q4 _,by simp [hl],fun j y f a b=>?_⟩ (Ok _)
         by_cases jW:i=j
         · subst jW
           rw [List.getElem?_set_self (by omega)] at a
           injection a with a
           subst a
           simp [Array.getElem?_modify,Wi] at b
           subst b
           exact⟨hk,hv⟩
         · rw [List.getElem?_set_ne jW] at a
           rw [Array.getElem?_modify,if_neg jW] at b
           exact rX j y f a b
   · rename_i hf
     injection h with h
     subst h
     obtain⟨r',h3,h4⟩:=kV hk es kg.toList 0 _ (by simpa using hl) (fun j y f a b=>rX j y f a (by simpa using b)) hf
     rcases h4 with ⟨_,rfl⟩|⟨j,v1,WR,e',h5,_⟩
     · refine⟨{ w with heap:=w.heap.setIfInBounds p.block (.map (kg.push { key:=k',val:=v',born:=ao }) (ao+1)) },?_,?_⟩
       · simp only [Instr.mapUpdate,Sem.run_bind,run_underlying hu,Result.andThen_ok,Go.MapKept.run_getObj_map hh,kO hd PG,run_findKey hd h3,Go.MapKept.run_setObj_map _ hh]
       · refine jr.ko hs hg rfl rfl hp (by simp) rfl rfl rfl ⟨_,ao+1,Q4 _,by simp [hl],fun j y f a b=>?_⟩ (Ok _)
         rw [List.getElem?_append] at a
         rw [Array.getElem?_push] at b
         by_cases hj:j<es.length
         · rw [if_pos hj] at a
           rw [if_neg (by omega)] at b
           exact rX j y f a b
         · rw [if_neg hj] at a
           have i9:j=es.length:=by
            have:=(List.getElem?_eq_some_iff.1 a).1
            simp at this
            omega
           subst i9
           rw [if_pos hl] at b
           simp at a b
           subst a;subst b
           exact⟨hk,hv⟩
     · cases h5
   · cases h
theorem gf.uz {v:Value} (h:gf v=true):v.oneCell'=true:=by
 unfold gf at h
 split at h<;>first|rfl|(cases h;done)
def Ea (P:Program) (A:AW) (t:TypeId) (x:Value):Option AW:=
 match P.underlying t,x with
 | some (.slice _),.slice none 0 0=>some A
 | some (.slice e),.slice (some p) n _=>
   if n=0 then some A else
   match P.info? e,A.cy p.block with
   | some i,some (.cells cs true unit)=>
     match i.zero with
     | some z=>
       if z.cells.size=i.size∧0<i.size∧z.cells.toList.all gf∧p.off+n*i.size≤cs.length then
        some (A.set p.block (some (.cells (fG cs p.off (fh z.cells.toList n)) true unit)))
       else none
     | none=>none
   | _,_=>none
 | _,_=>none
theorem D9 {P:Program} {m:Mp} {A A1:AW} {w:World} (hs:Sim m A w) {t ty:TypeId} {x x':Value} (h:Ea P A t x=some A1) (hx:cz m x x') :
 ∃w',(Builtin.clear_ #[t] ty #[x']).run P w=.ok undef w'∧jr m A w m A1 w':=by
 unfold Ea at h
 split at h<;>try(cases h;done)
 · rename_i e hu
   cases hx
   injection h with h
   subst h
   exact⟨w,by simp [Builtin.clear_,run_underlying hu,undef],jr.refl hs⟩
 · rename_i e p n c hu
   split at h
   · rename_i h0
     subst h0
     injection h with h
     subst h
     cases hx
     exact⟨w,by simp [Builtin.clear_,run_underlying hu,undef],jr.refl hs⟩
   · rename_i h0
     split at h<;>try(cases h;done)
     rename_i i cs unit hi hg
     split at h<;>try(cases h;done)
     rename_i z hz
     split at h<;>try(cases h;done)
     rename_i hc
     obtain⟨rb,oE,mR,lm⟩:=hc
     injection h with h
     subst h
     cases hx with
     | slice hh h1 h2=>
       rename_i p' iB
       have ha:nR m p p':=by
        rcases hh with hh|hh
        · exact hh.N2
        · omega
       obtain⟨zB,F3,q,hm,hb,ho⟩:=ha
       have Lm:=pq z.cells n (by omega)
       have kE:=mz mR n
       have cU:(fh z.cells.toList n).length=n*i.size:=by rw [iT];simp [rb]
       obtain⟨w',hr,ev⟩:=nZ (P:=P) (o:=p.off) hm (fh z.cells.toList n) (fh z.cells.toList n) 0 cs A w hs hg (.mi kE m)
        (fun v hv=>gf.uz (List.all_eq_true.1 kE v hv)) (by omega)
       have ea:p'=⟨q.block,q.base+p.off,none⟩:=by rw [Ao p' F3,hb,ho]
       subst ea
       refine⟨w',?_,by simpa using ev⟩
       have JD:(zeroValue e).run P w=.ok z w:=by simp [zeroValue,typeInfo,hi,hz]
       obtain⟨n,rfl⟩:=Nat.exists_eq_succ_of_ne_zero h0
       have TM:(Builtin.zeroCells z.cells (n+1)).toList=fh z.cells.toList (n+1):=Lm
       simp only [Builtin.clear_,List.getElem?_toArray,List.getElem?_cons_zero,Sem.run_bind,run_underlying hu,Result.andThen_ok,JD,TM,hr,Sem.run_pure]
       rfl
def mM (P:Program) (A:AW) (t u:TypeId) (s x:Value):Option (Value×AW):=
 match P.underlying t,P.underlying u,x with
 | some (.slice e),some (.int _),.int _ q=>
   match P.info? e with
   | some i=>
     match i.zero with
     | some z=>
       match iG A i.size s with
       | some (base,k,qG)=>
         if z.cells.size=i.size∧0<i.size∧z.cells.toList.all gf∧0≤q∧k+q.toNat≤140737488355328∧(k+q.toNat)*i.bytes≤140737488355328 then
          if q.toNat=0 then some (s,A)
          else some (.slice (some ⟨A.next,0,none⟩) (k+q.toNat) (k+q.toNat),((match base with|some a=>A.set a.block none|none=>A)).alloc (.cells (qG++fh z.cells.toList q.toNat) true i.size))
         else none
       | none=>none
     | none=>none
   | none=>none
 | _,_,_=>none
theorem vF {P:Program} (w:World) (t tn ty e:TypeId) (i:TypeInfo) (kn kq:IntKind) (ht:P.underlying t=some (.slice e)) (Rs:P.underlying tn=some (.int kn)) (hi:P.info? e=some i)
 (base:Option Addr) (n c:Nat) (hc:n≤c):(Builtin.append_ #[t,tn] ty #[.slice base n c,.int kq 0]).run P w=.ok (.slice base n c) w:=by
 have hw:IntKind.i64.wrap (0:Int)=0:=rfl
 cases base<;>simp [Builtin.append_,run_underlying ht,run_underlying Rs,sizeOf,typeInfo,hi,asInt,asIntOf,hw,hc,storeCells]
theorem vG {P:Program} (w:World) (t tn ty e:TypeId) (i:TypeInfo) (z:Value) (kn kq:IntKind) (ht:P.underlying t=some (.slice e)) (Rs:P.underlying tn=some (.int kn)) (hi:P.info? e=some i) (hz:i.zero=some z)
 (g o iM mS m:Nat) (iX:Array Value) (e':TypeId) (hg:w.heap[g]? = some (.cells iX e' (0,0))) (h0:0<m) (hs:0<i.size) (Zv:m*i.bytes≤281474976710656) (Yv:(m:Int)≤9223372036854775807)
 (h1:∀u∈(Builtin.zeroCells z.cells m).toList,u.oneCell'=true) (zC:iM+m≤mS) (lm:o+iM*i.size+(Builtin.zeroCells z.cells m).toList.length≤iX.size) :
 (Builtin.append_ #[t,tn] ty #[.slice (some ⟨g,o,none⟩) iM mS,.int kq m]).run P w =
  .ok (.slice (some ⟨g,o,none⟩) (iM+m) mS) (w.setRow g (iX.toList.take (o+iM*i.size)++(Builtin.zeroCells z.cells m).toList++iX.toList.drop (o+iM*i.size+(Builtin.zeroCells z.cells m).toList.length)).toArray):=by
 have hk:m≠0:=by omega
 have hw:IntKind.i64.wrap (m:Int)=m:=ak (by omega) Yv
 have UT:¬(281474976710656<(m:Int)*(i.bytes:Int)):=by
  rw [←Int.natCast_mul]
  omega
 have qK:¬((m:Int)<0):=by omega
 have XN:¬(m*i.size=0):=Nat.mul_ne_zero hk (by omega)
 have dn:=run_storeCells_at P g (o+iM*i.size) e' (Builtin.zeroCells z.cells m).toList 0 iX w hg (by simpa using lm) h1
 simp only [Nat.add_zero] at dn
 have ea:(⟨g,o,none⟩:Addr).add (iM*i.size)=⟨g,o+iM*i.size,none⟩:=oM _ _ rfl
 simp [Builtin.append_,run_underlying ht,run_underlying Rs,sizeOf,typeInfo,zeroValue,hi,hz,asInt,asIntOf,hw,qK,XN,UT,zC,ea,dn]
theorem BP {P:Program} {m:Mp} {A A1:AW} {w:World} (hs:Sim m A w) {t u ty:TypeId} {s x s' x' v:Value} (h:mM P A t u s x=some (v,A1))
 (HI:cz m s s') (TU:cz m x x') :
 ∃v' w' m',(Builtin.append_ #[t,u] ty #[s',x']).run P w=.ok v' w'∧jr m A w m' A1 w'∧cz m' v v':=by
 unfold mM at h
 split at h<;>try(cases h;done)
 rename_i e kn kq q hu Ox
 cases TU
 split at h<;>try(cases h;done)
 rename_i i hi
 split at h<;>try(cases h;done)
 rename_i z hz
 split at h<;>try(cases h;done)
 rename_i base k qG ho
 split at h<;>try(cases h;done)
 rename_i uX
 obtain⟨rb,rq,mR,JG,NJ,xz⟩:=uX
 obtain⟨n,rfl⟩:=Int.eq_ofNat_of_zero_le JG
 simp only [Int.toNat_natCast] at h NJ xz
 by_cases BE:n=0
 · subst BE
   rw [if_pos rfl] at h
   simp only [Option.some.injEq,Prod.mk.injEq] at h
   obtain⟨rfl,rfl⟩:=h
   have F4:∃b' n' c',s'=.slice b' n' c'∧n'≤c':=by
    unfold iG at ho
    split at ho
    · cases HI;exact⟨_,_,_,rfl,Nat.le_refl _⟩
    · cases HI with
      | slice _ h1 h2=>exact⟨_,_,_,rfl,Nat.le_trans h1 h2⟩
    · cases ho
   obtain⟨b',n',c',rfl,eG⟩:=F4
   exact⟨_,w,m,vF w t u ty e i kn kq hu Ox hi b' n' c' eG,jr.refl hs,HI⟩
 · rw [if_neg BE] at h
   simp only [Option.some.injEq,Prod.mk.injEq] at h
   obtain⟨rfl,rfl⟩:=h
   have Lm:(Builtin.zeroCells z.cells n).toList=fh z.cells.toList n:=pq z.cells n (by omega)
   have kE:=mz mR n
   have qg:∀v∈fh z.cells.toList n,v.oneCell'=true:=fun v hv=>gf.uz (List.all_eq_true.1 kE v hv)
   have xv:n*i.bytes≤140737488355328:=Nat.le_trans (Nat.mul_le_mul_right _ (Nat.le_add_left n k)) xz
   have hl:(Builtin.zeroCells z.cells n).toList.length=n*i.size:=by rw [Lm,iT];simp [rb]
   refine w7 hs (ts:=#[t,u]) (X:=.int kq n) (l':=(Builtin.zeroCells z.cells n).toList) (e:=e) (i:=i) (z:=z) rb BE NJ xz qg hl (by rw [Lm];exact .mi kE m) ho HI ?_ ?_ ?_
   · intro _ _ hk
     have:=Go.Lib.run_append_nil_zeros (P:=P) w t u ty e i z kq kn hu Ox hi hz n (by omega) rq (by omega) (by omega)
     simpa using this
   · intro b iM mS lo hk h1 h2 h3
     have hf:=run_firstCells_some (P:=P) w.drew i.size iM b iM mS lo h1 (by simpa using h2)
     have:=Go.Lib.run_append_grow_zeros (P:=P) w t u ty e i z kq kn hu Ox hi hz (some b) iM mS lo hf n (by omega) rq h3 (by omega) (by omega) (growslice_fits h3 (by subst hk;exact xz))
     simpa using this
   · intro g o iM mS iX e' h1 h2 h3
     exact vG w t u ty e i z kn kq hu Ox hi hz g o iM mS n iX e' h1 (by omega) rq (by omega) (by omega) (by rw [Lm];exact qg) h2 h3
open Go
def nV (P:Program) (eq:TypeId→Value→Value→Option Bool) (xs ys:Array Value):List Field→Option Bool
 | []=>some true
 | f::r=>
   if f.name = "_" then nV P eq xs ys r else
   match apart P f.type xs f.offset,apart P f.type ys f.offset with
   | some a,some b=>
     match eq f.type a b,nV P eq xs ys r with
     | some p,some q=>some (p && q)
     | _,_=>none
   | _,_=>none
def su (P:Program) (eq:Value→Value→Option Bool) (e:TypeId) (size:Nat) (xs ys:Array Value):List Nat→Option Bool
 | []=>some true
 | i::r=>
   match apart P e xs (i*size),apart P e ys (i*size) with
   | some a,some b=>
     match eq a b,su P eq e size xs ys r with
     | some p,some q=>some (p && q)
     | _,_=>none
   | _,_=>none
def qV (P:Program):Nat→TypeId→Value→Value→Option Bool
 | 0,_,_,_=>none
 | d+1,t,x,y=>
   match P.underlying t,x,y with
   | some .bool,.bool a,.bool b=>some (a == b)
   | some (.int _),.int k a,.int k' b=>if k=k' then some (decide (a=b)) else none
   | some .string,.string a,.string b=>some (a.toList == b.toList)
   | some (.struct fs),.agg xs,.agg ys=>if P.stoodInHeld t then none else nV P (qV P d) xs ys fs.toList
   | some (.array n e),.agg xs,.agg ys=>
     match P.info? e with
     | some i=>su P (qV P d e) e i.size xs ys (List.range n)
     | none=>none
   | _,_,_=>none
theorem oH {P:Program} {m:Mp} {n d:Nat} (ih:∀(t:TypeId) (x y x' y':Value) (r:Bool),qV P n t x y=some r→cz m x x'→cz m y y'→∀w,(Op.equalIn d t x' y').run P w=.ok r w)
 {xs ys QU QT:Array Value} (hx:cz m (.agg xs) (.agg QU)) (hy:cz m (.agg ys) (.agg QT)) (w:World):∀(fs:List Field) (r:Bool),nV P (qV P n) xs ys fs=some r→
 (Op.eqFields d QU QT fs).run P w=.ok r w
 | [],r,h=>by injection h with h;subst h;rfl
 | f::fs,r,h=>by
   unfold nV at h
   split at h
   · rename_i hn
     simp only [Op.eqFields,hn,ne_eq,not_true_eq_false,if_false]
     exact oH ih hx hy w fs r h
   · rename_i hn
     split at h<;>try(cases h;done)
     rename_i a b ha hb
     split at h<;>try(cases h;done)
     rename_i p q hp hq
     injection h with h
     subst h
     obtain⟨a',h1,h2⟩:=lj (P:=P) ha hx
     obtain⟨b',h3,h4⟩:=lj (P:=P) hb hy
     have h5:=ih _ _ _ _ _ _ hp h1 h3 w
     have h6:=oH ih hx hy w fs q hq
     simp only [Op.eqFields,ne_eq,hn,not_false_eq_true,if_true,Sem.run_bind,h2,h4,h5,Result.andThen_ok]
     cases p
     · rfl
     · simp only [Bool.not_true,Bool.false_eq_true,if_false,h6,Bool.true_and]
theorem tr {P:Program} {m:Mp} {d size:Nat} {e:TypeId} {eq:Value→Value→Option Bool}
 (ih:∀(x y x' y':Value) (r:Bool),eq x y=some r→cz m x x'→cz m y y'→∀w,(Op.equalIn d e x' y').run P w=.ok r w)
 {xs ys QU QT:Array Value} (hx:cz m (.agg xs) (.agg QU)) (hy:cz m (.agg ys) (.agg QT)) (w:World):∀(is:List Nat) (r:Bool),su P eq e size xs ys is=some r→
 (Op.eqItems d e size QU QT is).run P w=.ok r w
 | [],r,h=>by injection h with h;subst h;simp [Op.eqItems]
 | i::is,r,h=>by
   unfold su at h
   split at h<;>try(cases h;done)
   rename_i a b ha hb
   split at h<;>try(cases h;done)
   rename_i p q hp hq
   injection h with h
   subst h
   obtain⟨a',h1,h2⟩:=lj (P:=P) ha hx
   obtain⟨b',h3,h4⟩:=lj (P:=P) hb hy
   have h5:=ih _ _ _ _ _ hp h1 h3 w
   have h6:=tr ih hx hy w is q hq
   simp only [Op.eqItems,Sem.run_bind,h2,h4,h5,Result.andThen_ok]
   cases p
   · simp
   · simp [h6]
theorem nO {P:Program} {m:Mp}:∀(n d:Nat) (t:TypeId) (x y x' y':Value) (r:Bool),n≤d→qV P n t x y=some r→cz m x x'→cz m y y'→
 ∀w,(Op.equalIn d t x' y').run P w=.ok r w
 | 0,d,t,x,y,x',y',r,_,h,_,_,w=>by cases h
 | n+1,0,t,x,y,x',y',r,hd,h,hx,hy,w=>by omega
 | n+1,d+1,t,x,y,x',y',r,hd,h,hx,hy,w=>by
   unfold qV at h
   split at h<;>try(cases h;done)
   · rename_i hu
     cases hx;cases hy
     injection h with h
     subst h
     simp [Op.equalIn,run_underlying hu]
   · rename_i hu
     cases hx;cases hy
     split at h<;>try(cases h;done)
     rename_i hk
     injection h with h
     subst h;subst hk
     simp [Op.equalIn,run_underlying hu]
     rfl
   · rename_i hu
     cases hx;cases hy
     injection h with h
     subst h
     exact run_equalIn_string w d t _ _ hu
   · rename_i fs xs ys hu
     split at h<;>try(cases h;done)
     rename_i hp
     have II:=hx
     have Qu:=hy
     cases hx;cases hy
     have V0:P.fieldsOf t=fs:=by simp [Program.fieldsOf,hu]
     rw [run_equalIn_struct w d t _ _ (by rw [V0];exact hu) (by simpa using hp),V0]
     exact oH (fun t x y x' y' r h1 h2 h3 w=>nO n d t x y x' y' r (by omega) h1 h2 h3 w) II Qu w _ _ h
   · rename_i k e xs ys hu
     split at h<;>try(cases h;done)
     rename_i i hi
     have II:=hx
     have Qu:=hy
     cases hx;cases hy
     rw [run_equalIn_array w d _ _ hu hi]
     have Yi:P.cellsOf e=i.size:=by simp [Program.cellsOf,hi]
     rw [Yi]
     exact tr (fun x y x' y' r h1 h2 h3 w=>nO n d e x y x' y' r (by omega) h1 h2 h3 w) II Qu w _ _ h
theorem n8 {P:Program} {t:TypeId} {x y:Array TypeId} {b:Bool} (d:Nat) (fn:Fn) (p q:Array Value) (hu:P.underlying t=some (.func x y b)) (w:World) :
 (Op.equalIn (d+1) t (.func fn p q) .nilFunc).run P w=.ok false w:=by
 simp [Op.equalIn,run_underlying hu]
theorem nh {P:Program} {t:TypeId} {x y:Array TypeId} {b:Bool} (d:Nat) (hu:P.underlying t=some (.func x y b)) (w:World) :
 (Op.equalIn (d+1) t .nilFunc .nilFunc).run P w=.ok true w:=by
 simp [Op.equalIn,run_underlying hu]
def I8 (P:Program) (op:BinOp) (t:TypeId) (x y:Value):Option Value:=
 match x,y with
 | .agg xs,.agg ys=>
   if P.eqGuardType P.depth t then none else
   match op with
   | .eql=>(qV P 8 t (.agg xs) (.agg ys)).map .bool
   | .neq=>(qV P 8 t (.agg xs) (.agg ys)).map fun b=>.bool (!b)
   | _=>none
 | .slice a _ _,.slice none 0 0=>
   match op,P.underlying t with
   | .eql,some (.slice _)=>some (.bool a.isNone)
   | .neq,some (.slice _)=>some (.bool (!a.isNone))
   | _,_=>none
 | .map a,.map none=>
   match op,P.underlying t with
   | .eql,some (.map _ _)=>some (.bool a.isNone)
   | .neq,some (.map _ _)=>some (.bool (!a.isNone))
   | _,_=>none
 | .func _ _ _,.nilFunc=>
   match op,P.underlying t with
   | .eql,some (.func _ _ _)=>some (.bool false)
   | .neq,some (.func _ _ _)=>some (.bool true)
   | _,_=>none
 | .nilFunc,.nilFunc=>
   match op,P.underlying t with
   | .eql,some (.func _ _ _)=>some (.bool true)
   | .neq,some (.func _ _ _)=>some (.bool false)
   | _,_=>none
 | x,y=>Oa P op t x y
theorem xf {P:Program} {op:BinOp} {t:TypeId} {x y v:Value} (h:I8 P op t x y=some v) {m:Mp} {x' y':Value} (hx:cz m x x') (hy:cz m y y') (xo yo:Operand) (w:World) :
 (do eqGuard op t xo yo x' y';binOp op t x' y':Sem Value).run P w=.ok v w∧cz m v v:=by
 unfold I8 at h
 split at h
 · rename_i xs ys
   split at h<;>try(cases h;done)
   rename_i hg
   have II:=hx
   have Qu:=hy
   cases hx;cases hy
   have EO:P.eqGuardType P.depth t=false:=by simpa using hg
   rw [Sem.run_bind,run_eqGuard_agg w op t xo yo _ _ EO,Result.andThen_ok]
   cases op<;>simp only at h<;>(try (cases h;done))
   · obtain⟨r,h1,rfl⟩:=Option.map_eq_some_iff.1 h
     exact⟨by rw [run_eql_struct,nO 8 10000 t _ _ _ _ r (by omega) h1 II Qu w];rfl,by constructor⟩
   · obtain⟨r,h1,rfl⟩:=Option.map_eq_some_iff.1 h
     exact⟨by rw [run_neq_struct,nO 8 10000 t _ _ _ _ r (by omega) h1 II Qu w];rfl,by constructor⟩
 · rename_i a n c
   have key:∀(a':Option Addr) (n' c':Nat) (e:TypeId),P.underlying t=some (.slice e)→(Op.equal t (.slice a' n' c') (.slice none 0 0)).run P w=.ok a'.isNone w:=fun a' n' c' e hu=>run_equal_slice_nil w t e a' n' c' hu
   have Pm:∃a' n' c',x'=.slice a' n' c'∧a'.isNone=a.isNone:=by
    cases hx<;>exact⟨_,_,_,rfl,rfl⟩
   obtain⟨a',n',c',rfl,ha⟩:=Pm
   cases hy
   split at h
   · rename_i hu;injection h with h;subst h;exact⟨by simp [eqGuard,binOp,key _ _ _ _ hu,ha],by constructor⟩
   · rename_i hu;injection h with h;subst h;exact⟨by simp [eqGuard,binOp,key _ _ _ _ hu,ha],by constructor⟩
   · cases h
 · rename_i a
   have key:∀(a':Option Nat) (k e:TypeId),P.underlying t=some (.map k e)→(Op.equal t (.map a') (.map none)).run P w=.ok a'.isNone w:=fun a' k e hu=>run_equal_map_nil w t k e a' hu
   have Pm:∃a',x'=.map a'∧a'.isNone=a.isNone:=by
    cases hx<;>exact⟨_,rfl,rfl⟩
   obtain⟨a',rfl,ha⟩:=Pm
   cases hy
   split at h
   · rename_i hu;injection h with h;subst h;exact⟨by simp [eqGuard,binOp,key _ _ _ hu,ha],by constructor⟩
   · rename_i hu;injection h with h;subst h;exact⟨by simp [eqGuard,binOp,key _ _ _ hu,ha],by constructor⟩
   · cases h
 · cases hy
   cases hx
   split at h
   · rename_i hu;injection h with h;subst h;exact⟨by simp [eqGuard,binOp,ic (n8 _ _ _ _ hu w)],by constructor⟩
   · rename_i hu;injection h with h;subst h;exact⟨by simp [eqGuard,binOp,ic (n8 _ _ _ _ hu w)],by constructor⟩
   · cases h
 · cases hy
   cases hx
   split at h
   · rename_i hu;injection h with h;subst h;exact⟨by simp [eqGuard,binOp,ic (nh _ hu w)],by constructor⟩
   · rename_i hu;injection h with h;subst h;exact⟨by simp [eqGuard,binOp,ic (nh _ hu w)],by constructor⟩
   · cases h
 · exact Ie h hx hy xo yo w
open Go
abbrev Fr:=Nat→Value
def Ii (a:Fr) (i:Nat) (v:Value):Fr:=fun j=>if j=i then v else a j
def fl (a:Fr) (d:Option Tmp) (v:Value):Fr:=
 match d with
 | some i=>Ii a i v
 | none=>a
def ki (a:Fr):Operand→Value
 | .tmp t=>a t
 | .const v=>v
 | .global g=>.pointer (some ⟨g,0,none⟩)
 | .func f=>.func (.func f) #[] #[]
def Kx (w w':World):Prop:=∀b,b<w.heap.size→w'.heap[b]? = w.heap[b]?
theorem Kx.refl (w:World):Kx w w:=fun _ _=>rfl
theorem Kx.cell {w w':World} (h:Kx w w') {a:Addr} {v:Value} (hc:w.cell? a=some v):w'.cell? a=some v:=by
 have hb:=World.block_lt_of_cell? w a hc
 rw [World.cell?_of_block (h _ hb)]
 exact hc
theorem Kx.C1 {m:Mp} {A:AW} {w w':World} (h:Kx w w') (hs:Sim m A w):Sim m A w':=by
 refine⟨fun i o hi=>?_,hs.inj,hs.rg,hs.EI⟩
 obtain⟨p,h1,h2⟩:=hs.Cg i o hi
 have hb:=hs.gi hi h1
 exact⟨p,h1,h2.heap (h _ hb)⟩
theorem JY {P:Program} {m:Mp} {A:AW} {w:World} (hs:Sim m A w) {t:TypeId} {p p':Addr} {v:Value} (h:tx P A t p=some v) (hp:nR m p p') :
 ∃v',cz m v v'∧∀w',Kx w w'→(loadVar t p').run P w'=.ok v' w':=by
 unfold tx at h
 split at h
 · rename_i cs hr ha
   obtain⟨v',h1,h2⟩:=vg hs hp hr (k:=0) (by simpa using h)
   have e:p'.add 0=p':=by unfold Addr.add;simp
   rw [e] at h1
   refine⟨v',h2,fun w' hx=>?_⟩
   simp only [loadVar,Sem.run_bind,nT ha,Result.andThen_ok,Bool.false_eq_true,if_false,run_load,hx.cell h1]
 · rename_i cs hr ha
   split at h
   · rename_i i hi
     split at h
     · rename_i eG
       injection h with h
       subst h
       obtain⟨l',hl,h1,h2⟩:=yE hs hp hr i.size eG
       refine⟨.agg l'.toArray,.pk h1,fun w' hx=>?_⟩
       have h3:=run_loadCells_list (P:=P) w' p' l' (fun j v hv=>hx.cell (h2 j v hv))
       rw [hl] at h3
       simp only [loadVar,Sem.run_bind,nT ha,Result.andThen_ok,if_true,fT hi,h3,Sem.run_pure]
     · cases h
   · cases h
 · cases h
def pJ (r:Operand→Value) (ps:Array (Nat×Operand)):List (Nat×Value):=ps.toList.map fun x=>(x.1,r x.2)
def aq (P:Program) (A:AW) (r:Operand→Value):Op→Option Value
 | .move x=>some (r x)
 | .assign x=>some (r x)
 | .pick c x y=>
   match r c with
   | .bool b=>some (if b then r x else r y)
   | _=>none
 | .build t ps=>Ed P t (pJ r ps)
 | .load t x=>
   match r x with
   | .pointer (some p)=>tx P A t p
   | _=>none
 | .nilCheck x=>
   match r x with
   | .pointer (some p)=>some (.pointer (some p))
   | _=>none
 | .binOp op t x y _=>I8 P op t (r x) (r y)
 | .unOp op _ x=>Te op (r x)
 | .convert s d x=>I7 P s d (r x)
 | .makeInterface t x=>qR P t (r x)
 | .slice t x lo hi mx=>
   match mx with
   | none=>vX P A t (r x) (lo.map r) (hi.map r) none
   | some q=>xO P t (r x) (lo.map r) (hi.map r) (r q)
 | .lookup t x ix c=>qS P A t (r x) (r ix) c
 | .fieldAddr s x f=>qU P s (r x) f
 | .field t x f=>D8 P t (r x) f
 | .indexAddr t x ix=>qT P t (r x) (r ix)
 | .index t x ix=>D6 P t (r x) (r ix)
 | .extract t i=>
   match r t with
   | .tuple vs=>vs[i]?
   | _=>none
 | .makeFunc fn fs cs=>some (.func fn (fs.map r) (cs.map r))
 | .call c=>
   match c.callee,c.args.toList,c.argTypes.toList with
   | .builtin .len,[x],[t]=>kN P t (r x)
   | .builtin .min,[x,y],_=>Mc false [r x,r y]
   | .builtin .max,[x,y],_=>Mc true [r x,r y]
   | _,_,_=>none
 | _=>none
theorem tb.map {m:Mp} {r r':Operand→Value} (x:Option Operand) (h:∀y,x=some y→cz m (r y) (r' y)):tb m (x.map r) (x.map r'):=by
 cases x with
 | none=>trivial
 | some y=>exact h y rfl
theorem N0 {α:Type} {a:Array α} {x y:α} (h:a.toList=[x,y]):a = #[x,y]:=by
 apply Array.ext'
 exact h
theorem N1 {α:Type} {a:Array α} {x:α} (h:a.toList=[x]):a = #[x]:=by
 apply Array.ext'
 exact h
theorem Mb {P:Program} {m:Mp} {A:AW} {w:World} (hs:Sim m A w) {o:Oper} {r r':Operand→Value} {v:Value} (hr:∀x∈o.op.operands,cz m (r x) (r' x))
 (h:aq P A r o.op=some v):∃v',cz m v v'∧∀w',Kx w w'→(execOp r' o).run P w'=.ok (.value v') w':=by
 obtain⟨dst,op,ty,Q7,after,guard⟩:=o
 have rk:∀{s:Sem Value} {v':Value} {w':World},s.run P w'=.ok v' w'→(do pure (.value (←s)):Sem Next).run P w'=.ok (.value v') w':=fun {s v' w'} e=>by
  simp only [Sem.run_bind,e,Result.andThen_ok,Sem.run_pure]
 cases op<;>simp only [aq] at h<;>(try (cases h;done))
 case move x=>
  injection h with h;subst h
  exact⟨r' x,hr x (by simp [Op.operands]),fun w' _=>by simp [execOp]⟩
 case assign x=>
  injection h with h;subst h
  exact⟨r' x,hr x (by simp [Op.operands]),fun w' _=>by simp [execOp]⟩
 case pick c x y=>
  have hc:=hr c (by simp [Op.operands])
  split at h
  · rename_i b hb
    rw [hb] at hc
    injection h with h;subst h
    generalize xA:r' c=c' at hc
    cases hc
    refine⟨if b then r' x else r' y,?_,fun w' _=>by simp [execOp,xA,asBool]⟩
    cases b
    · exact hr y (by simp [Op.operands])
    · exact hr x (by simp [Op.operands])
  · cases h
 case build t ps=>
  obtain⟨v',h1,h2⟩:=Ec (P:=P) (m:=m) (gB:=ps.map fun(i,x)=>(i,r' x)) h (by simp [pJ]) (fun k p p' h1 h2=>by
   simp only [pJ,List.getElem?_map,Array.getElem?_toList,Option.map_eq_some_iff,Array.getElem?_map] at h1 h2
   obtain⟨q,h3,rfl⟩:=h1
   obtain⟨q',h4,rfl⟩:=h2
   rw [h3] at h4
   injection h4 with h4
   subst h4
   exact⟨rfl,hr q.2 (by simp only [Op.operands,List.mem_toArray,List.mem_map];exact⟨q,Array.mem_toList_iff.2 (Array.mem_of_getElem? h3),rfl⟩)⟩)
  exact⟨v',h1,fun w' _=>rk (h2 w')⟩
 case load t x=>
  have hx:=hr x (by simp [Op.operands])
  split at h
  · rename_i p hp
    rw [hp] at hx
    generalize xA:r' x=x' at hx
    cases hx with
    | Dl ha=>
      obtain⟨v',h1,h2⟩:=JY (P:=P) hs h ha
      exact⟨v',h1,fun w' hw=>by simp [execOp,xA,Instr.loadAt,Instr.sureAddr,h2 w' hw]⟩
  · cases h
 case nilCheck x=>
  have hx:=hr x (by simp [Op.operands])
  split at h
  · rename_i p hp
    rw [hp] at hx
    generalize xA:r' x=x' at hx
    injection h with h;subst h
    cases hx with
    | Dl ha=>exact⟨_,.Dl ha,fun w' hw=>by simp [execOp,xA]⟩
  · cases h
 case binOp op t x y ty'=>
  have hx:=hr x (by simp [Op.operands])
  have hy:=hr y (by simp [Op.operands])
  exact⟨v,(xf h hx hy x y w).2,fun w' _=>rk (xf h hx hy x y w').1⟩
 case unOp op t x=>
  have hx:=hr x (by simp [Op.operands])
  exact⟨v,(Cz (P:=P) h hx w).2,fun w' _=>rk (Cz h hx w').1⟩
 case convert s d x=>
  have hx:=hr x (by simp [Op.operands])
  exact⟨v,(xd h hx w).2,fun w' _=>rk (xd h hx w').1⟩
 case makeInterface t x=>
  obtain⟨v',h1,h2⟩:=vZ h (hr x (by simp [Op.operands]))
  exact⟨v',h1,fun w' _=>rk (h2 w')⟩
 case slice t x lo hi mx=>
  cases mx with
  | none=>
    obtain⟨v',h1,h2⟩:=D2 hs (On:=none) h (hr x (by simp [Op.operands])) (tb.map (r':=r') lo fun y e=>hr y (by simp [Op.operands,e])) (tb.map (r':=r') hi fun y e=>hr y (by simp [Op.operands,e])) trivial
    exact⟨v',h1,fun w' _=>rk (h2 w')⟩
  | some q=>
    obtain⟨v',h1,h2⟩:=BN h (hr x (by simp [Op.operands])) (tb.map (r':=r') lo fun y e=>hr y (by simp [Op.operands,e])) (tb.map (r':=r') hi fun y e=>hr y (by simp [Op.operands,e])) (hr q (by simp [Op.operands]))
    exact⟨v',h1,fun w' _=>rk (h2 w')⟩
 case lookup t x ix c=>
  obtain⟨v',h1,h2⟩:=BQ (P:=P) hs h (hr x (by simp [Op.operands])) (hr ix (by simp [Op.operands]))
  exact⟨v',h1,fun w' hw=>rk (h2 w' hw)⟩
 case fieldAddr s x f=>
  obtain⟨v',h1,h2⟩:=wh h (hr x (by simp [Op.operands]))
  exact⟨v',h1,fun w' _=>rk (h2 w')⟩
 case field t x f=>
  obtain⟨v',h1,h2⟩:=D7 h (hr x (by simp [Op.operands]))
  exact⟨v',h1,fun w' _=>rk (h2 w')⟩
 case indexAddr t x ix=>
  obtain⟨v',h1,h2⟩:=wg h (hr x (by simp [Op.operands])) (hr ix (by simp [Op.operands]))
  exact⟨v',h1,fun w' _=>rk (h2 w')⟩
 case index t x ix=>
  obtain⟨v',h1,h2⟩:=D5 h (hr x (by simp [Op.operands])) (hr ix (by simp [Op.operands]))
  exact⟨v',h1,fun w' _=>rk (h2 w')⟩
 case extract t i=>
  have hx:=hr t (by simp [Op.operands])
  split at h
  · rename_i vs hp
    rw [hp] at hx
    generalize xA:r' t=x' at hx
    cases hx with
    | tuple rq h1=>
      rename_i CG
      have dQ:i<CG.size:=by rw [←rq];exact(Array.getElem?_eq_some_iff.1 h).1
      have e:=Array.getElem?_eq_getElem dQ
      exact⟨CG[i],h1 i v _ h e,fun w' _=>by simp [execOp,xA,Instr.extract,e]⟩
  · cases h
 case makeFunc fn fs cs=>
  injection h with h;subst h
  refine⟨.func fn (fs.map r') (cs.map r'),?_,fun w' _=>by simp [execOp,Instr.makeFunc]⟩
  refine .func fn (by simp) (by simp) (fun i v v' h1 h2=>?_) (fun i v v' h1 h2=>?_)
  · simp only [Array.getElem?_map,Option.map_eq_some_iff] at h1 h2
    obtain⟨q,h3,rfl⟩:=h1
    obtain⟨q',h4,rfl⟩:=h2
    rw [h3] at h4
    injection h4 with h4
    subst h4
    exact hr q (by simp only [Op.operands,Array.mem_append];exact .inl (Array.mem_of_getElem? h3))
  · simp only [Array.getElem?_map,Option.map_eq_some_iff] at h1 h2
    obtain⟨q,h3,rfl⟩:=h1
    obtain⟨q',h4,rfl⟩:=h2
    rw [h3] at h4
    injection h4 with h4
    subst h4
    exact hr q (by simp only [Op.operands,Array.mem_append];exact .inr (Array.mem_of_getElem? h3))
 case call c=>
  obtain⟨callee,args,argTypes⟩:=c
  split at h
  · rename_i x t h1 h2 h3
    simp only at h1 h2 h3
    subst h1
    have e2:=N1 h2
    have e3:=N1 h3
    subst e2;subst e3
    have hx:=hr x (by simp [Op.operands,Call.operands])
    have hl:=Ic (P:=P) (ty:=ty) h hx
    refine⟨v,hl.1,fun w' _=>?_⟩
    have:=hl.2 w'
    simp [execOp,resolve,invoke,builtin,this]
  · rename_i x y h1 h2
    simp only at h1 h2
    subst h1
    have e2:=N0 h2
    subst e2
    have hx:=hr x (by simp [Op.operands,Call.operands])
    have hy:=hr y (by simp [Op.operands,Call.operands])
    have hl:=Ai (P:=P) (ts:=argTypes) (ty:=ty) (l':=#[r' x,r' y]) h (.cons hx (.cons hy .nil))
    refine⟨v,hl.1,fun w' _=>?_⟩
    have:=hl.2 w'
    simp only [Bool.false_eq_true,if_false] at this
    simp [execOp,resolve,invoke,builtin,this]
  · rename_i x y h1 h2
    simp only at h1 h2
    subst h1
    have e2:=N0 h2
    subst e2
    have hx:=hr x (by simp [Op.operands,Call.operands])
    have hy:=hr y (by simp [Op.operands,Call.operands])
    have hl:=Ai (P:=P) (ts:=argTypes) (ty:=ty) (l':=#[r' x,r' y]) h (.cons hx (.cons hy .nil))
    refine⟨v,hl.1,fun w' _=>?_⟩
    have:=hl.2 w'
    simp only [if_true] at this
    simp [execOp,resolve,invoke,builtin,this]
  · cases h
def ae (P:Program) (A:AW) (r:Operand→Value):Op→Option (Value×AW)
 | .alloc t=>Ef P A t
 | .box _ x=>some (Mg A (r x))
 | .buildSlice t len ps=>pu P A t len (pJ r ps)
 | .store t x y=>
   match r x with
   | .pointer (some p)=>
     match af P A t p (r y) with
     | some A1=>some (undef,A1)
     | none=>none
   | _=>none
 | .makeSlice t l c=>ny P A t (r l) (r c)
 | .makeMap t x=>vm P A t (x.map r)
 | .mapUpdate t x k v=>
   match fU P A t (r x) (r k) (r v) with
   | some A1=>some (undef,A1)
   | none=>none
 | .insert t x k v=>
   match fU P A t (r x) (r k) (r v) with
   | some A1=>some (undef,A1)
   | none=>none
 | .call c=>
   match c.callee,c.args.toList,c.argTypes.toList with
   | .builtin .append,[s,x],[t,u]=>if t=u then iH P A t u (r s) (r x) else mM P A t u (r s) (r x)
   | .builtin .clear,[x],[t]=>
     match Ea P A t (r x) with
     | some A1=>some (undef,A1)
     | none=>none
   | _,_,_=>none
 | _=>none
def Ss (P:Program) (r':Operand→Value) (o:Oper) (w w':World) (v':Value):Prop:=
 (execOp r' o).run P w=.ok (.value v') w'∨((execOp r' o).run P w=.ok .skip w'∧v'=undef)
theorem Me {P:Program} {m:Mp} {A A1:AW} {w:World} (hs:Sim m A w) {o:Oper} {r r':Operand→Value} {v:Value} (hr:∀x∈o.op.operands,cz m (r x) (r' x))
 (h:ae P A r o.op=some (v,A1)):∃v' w' m',Ss P r' o w w' v'∧jr m A w m' A1 w'∧cz m' v v':=by
 obtain⟨dst,op,ty,Q7,after,guard⟩:=o
 have rk:∀{s:Sem Value} {v':Value} {w w':World},s.run P w=.ok v' w'→(do pure (.value (←s)):Sem Next).run P w=.ok (.value v') w':=fun {s v' w w'} e=>by
  simp only [Sem.run_bind,e,Result.andThen_ok,Sem.run_pure]
 cases op<;>simp only [ae] at h<;>(try (cases h;done))
 case alloc t=>
  obtain⟨v',w',m',h1,h2,h3⟩:=Ee hs h
  exact⟨v',w',m',.inl (rk h1),h2,h3⟩
 case box t x=>
  injection h with h
  obtain⟨v',w',m',h1,h2,h3⟩:=Ap (P:=P) hs t (hr x (by simp [Op.operands]))
  rw [h] at h2 h3
  exact⟨v',w',m',.inl (rk h1),h2,h3⟩
 case buildSlice t len ps=>
  obtain⟨v',w',m',h1,h2,h3⟩:=vq (P:=P) (m:=m) hs (gB:=ps.map fun(i,x)=>(i,r' x)) h (by simp [pJ]) (fun k p p' h1 h2=>by
   simp only [pJ,List.getElem?_map,Array.getElem?_toList,Option.map_eq_some_iff,Array.getElem?_map] at h1 h2
   obtain⟨q,h3,rfl⟩:=h1
   obtain⟨q',h4,rfl⟩:=h2
   rw [h3] at h4
   injection h4 with h4
   subst h4
   exact⟨rfl,hr q.2 (by simp only [Op.operands,List.mem_toArray,List.mem_map];exact⟨q,Array.mem_toList_iff.2 (Array.mem_of_getElem? h3),rfl⟩)⟩)
  exact⟨v',w',m',.inl (rk h1),h2,h3⟩
 case store t x y=>
  have hx:=hr x (by simp [Op.operands])
  split at h
  · rename_i p hp
    rw [hp] at hx
    generalize xA:r' x=x' at hx
    cases hx with
    | Dl ha=>
      rename_i p'
      split at h
      · rename_i A2 dn
        simp only [Option.some.injEq,Prod.mk.injEq] at h
        obtain⟨rfl,rfl⟩:=h
        obtain⟨w',h1,h2⟩:=D1 (P:=P) hs dn ha (hr y (by simp [Op.operands]))
        refine⟨undef,w',m,.inr ⟨?_,rfl⟩,h2,.tuple rfl (fun i v v' h=>by simp at h)⟩
        simp only [execOp,Instr.storeAt,xA,Instr.sureAddr,Sem.run_bind,Sem.run_pure,Result.andThen_ok,h1]
      · cases h
  · cases h
 case makeSlice t l c=>
  obtain⟨v',w',m',h1,h2,h3⟩:=GE hs h (hr l (by simp [Op.operands])) (hr c (by simp [Op.operands]))
  exact⟨v',w',m',.inl (rk h1),h2,h3⟩
 case makeMap t x=>
  obtain⟨v',w',m',h1,h2,h3⟩:=Ak (P:=P) hs h (tb.map (r':=r') x fun y e=>hr y (by simp [Op.operands,e]))
  exact⟨v',w',m',.inl (rk h1),h2,h3⟩
 case mapUpdate t x k y=>
  split at h
  · rename_i A2 dn
    simp only [Option.some.injEq,Prod.mk.injEq] at h
    obtain⟨rfl,rfl⟩:=h
    obtain⟨w',h1,h2⟩:=qp (P:=P) hs dn (hr x (by simp [Op.operands])) (hr k (by simp [Op.operands])) (hr y (by simp [Op.operands]))
    refine⟨undef,w',m,.inr ⟨?_,rfl⟩,h2,.tuple rfl (fun i v v' h=>by simp at h)⟩
    simp only [execOp,Sem.run_bind,Sem.run_pure,Result.andThen_ok,h1]
  · cases h
 case insert t x k y=>
  split at h
  · rename_i A2 dn
    simp only [Option.some.injEq,Prod.mk.injEq] at h
    obtain⟨rfl,rfl⟩:=h
    obtain⟨w',h1,h2⟩:=qp (P:=P) hs dn (hr x (by simp [Op.operands])) (hr k (by simp [Op.operands])) (hr y (by simp [Op.operands]))
    refine⟨undef,w',m,.inr ⟨?_,rfl⟩,h2,.tuple rfl (fun i v v' h=>by simp at h)⟩
    simp only [execOp,Sem.run_bind,Sem.run_pure,Result.andThen_ok,h1]
  · cases h
 case call c=>
  obtain⟨callee,args,argTypes⟩:=c
  split at h
  rotate_left
  · rename_i x t h1 h2 h3
    simp only at h1 h2 h3
    subst h1
    have e2:=N1 h2
    have e3:=N1 h3
    subst e2;subst e3
    split at h<;>try(cases h;done)
    rename_i A2 dn
    simp only [Option.some.injEq,Prod.mk.injEq] at h
    obtain⟨rfl,rfl⟩:=h
    obtain⟨w',h1,h2⟩:=D9 (P:=P) (ty:=ty) hs dn (hr x (by simp [Op.operands,Call.operands]))
    refine⟨undef,w',m,.inl ?_,h2,.tuple rfl (fun i v v' h=>by simp at h)⟩
    simp [execOp,resolve,invoke,builtin,h1]
  rotate_left
  · rename_i s x t u h1 h2 h3
    simp only at h1 h2 h3
    subst h1
    have e2:=N0 h2
    have e3:=N0 h3
    subst e2;subst e3
    have VF:=hr s (by simp [Op.operands,Call.operands])
    have Qv:=hr x (by simp [Op.operands,Call.operands])
    split at h
    · obtain⟨v',w',m',h1,h2,h3⟩:=D3 (P:=P) (ty:=ty) hs h VF Qv
      refine⟨v',w',m',.inl ?_,h2,h3⟩
      simp [execOp,resolve,invoke,builtin,h1]
    · obtain⟨v',w',m',h1,h2,h3⟩:=BP (P:=P) (ty:=ty) hs h VF Qv
      refine⟨v',w',m',.inl ?_,h2,h3⟩
      simp [execOp,resolve,invoke,builtin,h1]
  · cases h
open Go
structure pK (m:Mp) (n:Nat) (a:Fr) (ca:Act):Prop where
 size:ca.tmps.size=n
 defers:ca.defers=[]
 Qq:∀i,i<n→cz m (a i) (ca.tmps.getD i undef)
theorem pK.mono {m m':Mp} (hm:Mp.le m m') {n:Nat} {a:Fr} {ca:Act} (h:pK m n a ca):pK m' n a ca:=⟨h.size,h.defers,fun i hi=>(h.Qq i hi).mono hm⟩
theorem cz.undef (m:Mp):cz m undef undef:=.tuple rfl fun i v v' h=>by simp at h
def vL (n:Nat):Operand→Bool
 | .tmp t=>decide (t<n)
 | .const v=>sR v
 | .global _=>false
 | .func _=>true
def ot (n:Nat) (o:Oper):Bool:=
 o.op.operands.all (vL n) && (match o.dst with|some d=>decide (d<n)|none=>true)
def pI (n:Nat):Code→Bool
 | .region _ ct _=>ct.all (ot n)
 | .seq a b=>pI n a && pI n b
 | .cond c a b=>vL n c && pI n a && pI n b
 | .block _ b=>pI n b
 | .loop b=>pI n b
 | .skip=>true
 | .exit _=>true
 | .ret=>true
 | _=>false
theorem pK.eval {m:Mp} {n:Nat} {a:Fr} {ca:Act} (h:pK m n a ca) {x:Operand} (hx:vL n x=true):cz m (ki a x) (ca.eval x):=by
 cases x with
 | tmp t=>exact h.Qq t (by simpa [vL] using hx)
 | const v=>exact cz.sF (v:=v) (by simpa [vL] using hx) m
 | global g=>simp [vL] at hx
 | func f=>exact .func _ rfl rfl (fun i v v' h=>by simp at h) (fun i v v' h=>by simp at h)
theorem pK.put {m:Mp} {n:Nat} {a:Fr} {ca:Act} (h:pK m n a ca) {d:Option Tmp} (hd:∀i,d=some i→i<n) {v v':Value} (hv:cz m v v') :
 pK m n (fl a d v) (ca.put d v'):=by
 cases d with
 | none=>exact h
 | some i=>
   refine⟨by simp [Act.put,h.size],by simp [Act.put,h.defers],fun j hj=>?_⟩
   have hi:=hd i rfl
   simp only [fl,Ii,Act.put]
   by_cases e:j=i
   · subst e
     rw [if_pos rfl]
     simp [Array.getD_eq_getD_getElem?,h.size,hi]
     exact hv
   · rw [if_neg e]
     have:=h.Qq j hj
     rw [Array.getD_eq_getD_getElem?] at this ⊢
     rw [Array.getElem?_setIfInBounds_ne (by omega)]
     exact this
def jN (P:Program) (f:FuncId):Bool:=
 match P.funcs[f]? with
 | some fn=>!(fn.name == "runtime.NumGoroutine") && fn.body.isSome
 | none=>false
def aH (P:Program) (f:FuncId) (args:List Value) (A:AW) (R:Value→AW→Prop):Prop:=
 jN P f=true∧∀(m:Mp) (w:World) (jy:Array Value),Sim m A w→ik m args jy.toList→
  Calls P f jy w fun e w'=>∃v v' m' A',e=.returned v'∧jr m A w m' A' w'∧cz m' v v'∧R v A'
theorem aH.mono {P:Program} {f:FuncId} {args:List Value} {A:AW} {R R':Value→AW→Prop} (h:aH P f args A R) (hR:∀v A',R v A'→R' v A'):aH P f args A R':=
 ⟨h.1,fun m w jy hs hl=>(h.2 m w jy hs hl).mono fun _ _ ⟨v,v',m',A',h1,h2,h3,h4⟩=>⟨v,v',m',A',h1,h2,h3,hR _ _ h4⟩⟩
def ua (P:Program) (op:Op) (r:Operand→Value) (A:AW) (k:Value→AW→Prop):Prop:=
 match op with
 | .call c=>
   match c.callee with
   | .value x=>
     match r x with
     | .func (.func f) fs cs=>aH P f (fs.toList++c.args.toList.map r++cs.toList) A k
     | _=>False
   | _=>False
 | _=>False
def iC (P:Program) (op:Op) (r:Operand→Value) (A:AW) (k:Value→AW→Prop):Prop:=
 match aq P A r op with
 | some v=>k v A
 | none=>
   match ae P A r op with
   | some (v,A1)=>k v A1
   | none=>ua P op r A k
theorem C5 {P:Program} {f:FuncId} {args:Array Value} (h:jN P f=true) (w:World):(callFunc f args).run P w=.ok (.enter f args) w:=by
 unfold jN at h
 cases hf:P.funcs[f]? with
 | none=>rw [hf] at h;cases h
 | some fn=>
   rw [hf] at h
   simp only [Bool.and_eq_true,Bool.not_eq_true'] at h
   obtain⟨h1,h2⟩:=h
   cases hb:fn.body with
   | none=>rw [hb] at h2;cases h2
   | some c=>
     have OM:¬fn.name = "runtime.NumGoroutine":=by simpa using h1
     simp [callFunc,hf,OM,hb]
theorem wu {P:Program} {m:Mp} {A:AW} {w:World} (hs:Sim m A w) {o:Oper} {n:Nat} {a:Fr} {ca:Act} (hf:pK m n a ca) (ho:ot n o=true)
 {k:Value→AW→Prop} (h:iC P o.op (ki a) A k) {K:Act→World→Prop} {Q:Exit→Act→World→Prop}
 (hK:∀v A' m' w' vA,k v A'→jr m A w m' A' w'→pK m' n (fl a o.dst v) vA→K vA w'):o.wp P ca w K Q:=by
 simp only [ot,Bool.and_eq_true] at ho
 obtain⟨PB,Nu⟩:=ho
 have hd:∀i,o.dst=some i→i<n:=fun i e=>by rw [e] at Nu;simpa using Nu
 have hr:∀x∈o.op.operands,cz m (ki a x) (ca.eval x):=fun x hx=>hf.eval (Array.all_eq_true_iff_forall_mem.1 PB x hx)
 unfold iC at h
 split at h
 · rename_i v hv
   obtain⟨v',h1,h2⟩:=Mb hs hr hv
   unfold Oper.wp
   rw [h2 w (Kx.refl w)]
   exact hK v A m w _ h (jr.refl hs) (hf.put hd h1)
 · split at h
   · rename_i v A1 hv
     obtain⟨v',w',m',h1,h2,h3⟩:=Me hs hr hv
     unfold Oper.wp
     rcases h1 with h1|⟨h1,rfl⟩
     · rw [h1]
       exact hK v A1 m' w' _ h h2 ((hf.mono h2.ext).put hd h3)
     · rw [h1]
       exact hK v A1 m' w' _ h h2 ((hf.mono h2.ext).put hd h3)
   · unfold ua at h
     split at h
     · rename_i c hc
       split at h
       · rename_i x hx
         split at h
         · rename_i f fs cs PU
           obtain⟨dz,h⟩:=h
           have Qv:=hr x (by rw [hc];simp [Op.operands,Call.operands,hx])
           rw [PU] at Qv
           generalize hg:ca.eval x=x' at Qv
           cases Qv with
           | func _ SQ Ou TP hx4=>
             rename_i Wo oQ
             have Nh:(execOp ca.eval o).run P w=.ok (.enter f (Wo++c.args.map ca.eval++oQ)) w:=by
              obtain⟨dst,op,ty,Q7,after,guard⟩:=o
              simp only at hc
              subst hc
              obtain⟨callee,args,argTypes⟩:=c
              simp only at hx
              subst hx
              simp only [execOp,resolve,hg,Deferred.ofValue,invoke,Sem.run_bind,Sem.run_pure,Result.andThen_ok,C5 dz]
             unfold Oper.wp
             rw [Nh,Oper.upon_enter]
             have hargs:ik m (fs.toList++c.args.toList.map (ki a)++cs.toList) (Wo++c.args.map ca.eval++oQ).toList:=by
              simp only [Array.toList_append,Array.toList_map]
              refine(ik.append (ik.append ⟨by simpa using SQ,fun i v v' h1 h2=>TP i v v' (by simpa using h1) (by simpa using h2)⟩ ⟨by simp,fun i v v' h1 h2=>?_⟩) ⟨by simpa using Ou,fun i v v' h1 h2=>hx4 i v v' (by simpa using h1) (by simpa using h2)⟩)
              simp only [List.getElem?_map,Option.map_eq_some_iff] at h1 h2
              obtain⟨q,h3,rfl⟩:=h1
              obtain⟨q',h4,rfl⟩:=h2
              rw [h3] at h4
              injection h4 with h4
              subst h4
              refine hr q ?_
              rw [hc]
              simp only [Op.operands,Call.operands,Array.mem_append]
              exact .inr (Array.mem_toList_iff.1 (List.mem_of_getElem? h3))
             refine(h m w _ hs hargs).mono ?_
             rintro e w' ⟨v,v',m',A',rfl,ev,hv,hk⟩
             exact hK v A' m' w' _ hk ev ((hf.mono ev.ext).put hd hv)
         · exact h.elim
       · exact h.elim
     · exact h.elim
def lT (ct:Array Oper) (a:Fr) (o:Oper):Bool:=
 match o.guard with
 | none=>true
 | some (j,Kz)=>
   match (ct[j]?).bind (·.dst) with
   | some d=>
     match a d with
     | .bool b=>b == Kz
     | _=>false
   | none=>false
theorem Cq {m:Mp} {n:Nat} {a:Fr} {ca:Act} (hf:pK m n a ca) {ct:Array Oper} (zE:ct.all (ot n)=true) (o:Oper) :
 Region.wanted o (yielded ct ca.tmps)=lT ct a o:=by
 unfold Region.wanted lT
 cases o.guard with
 | none=>rfl
 | some g=>
   obtain⟨j,Kz⟩:=g
   simp only [yielded]
   cases hj:ct[j]? with
   | none=>simp
   | some oj=>
     simp only [Option.bind_some]
     cases hd:oj.dst with
     | none=>simp
     | some d=>
       simp only [Option.bind_some]
       have iK:=Array.all_eq_true_iff_forall_mem.1 zE oj (Array.mem_of_getElem? hj)
       simp only [ot,hd,Bool.and_eq_true,decide_eq_true_eq] at iK
       have dQ:d<ca.tmps.size:=by rw [hf.size];exact iK.2
       have hv:=hf.Qq d iK.2
       rw [Array.getD_eq_getD_getElem?,Array.getElem?_eq_getElem dQ,Option.getD_some] at hv
       rw [Array.getElem?_eq_getElem dQ]
       generalize a d=x at hv ⊢
       generalize ca.tmps[d]=y at hv ⊢
       cases hv<;>simp
def Ih (P:Program) (ct:Array Oper) (K:Fr→AW→Prop):List Oper→Fr→AW→Prop
 | [],a,A=>K a A
 | o::jB,a,A=>
   if lT ct a o=true then iC P o.op (ki a) A (fun v A'=>Ih P ct K jB (fl a o.dst v) A')
   else Ih P ct K jB (fl a o.dst undef) A
theorem nW {P:Program} {ct:Array Oper} {n:Nat} (zE:ct.all (ot n)=true) {K:Fr→AW→Prop} {Q:Exit→Act→World→Prop}:∀(l:List Oper) (a:Fr) (A:AW) (m:Mp) (w:World) (ca:Act),
 (∀o∈l,ot n o=true)→Ih P ct K l a A→Sim m A w→pK m n a ca→
 (∀a' A' m' w' vA,K a' A'→jr m A w m' A' w'→pK m' n a' vA→Q .normal vA w')→wpList P ct Q l ca w
 | [],a,A,m,w,ca,_,h,hs,hf,hK=>hK a A m w ca h (jr.refl hs) hf
 | o::jB,a,A,m,w,ca,hl,h,hs,hf,hK=>by
   unfold Ih at h
   unfold wpList
   rw [Cq hf zE o]
   split at h
   · rename_i hg
     rw [if_pos hg]
     refine .inl (wu hs hf (hl o (by simp)) h ?_)
     intro v A' m' w' vA hk ev zI
     exact nW zE jB _ _ m' w' vA (fun x hx=>hl x (by simp [hx])) hk ev.C1 zI (fun a2 A2 m2 w2 Sp h1 h2 h3=>hK a2 A2 m2 w2 Sp h1 (ev.trans h2) h3)
   · rename_i hg
     rw [if_neg hg]
     have ho:=hl o (by simp)
     simp only [ot,Bool.and_eq_true] at ho
     have hd:∀i,o.dst=some i→i<n:=fun i e=>by have:=ho.2;rw [e] at this;simpa using this
     exact nW zE jB _ _ m w _ (fun x hx=>hl x (by simp [hx])) h hs (hf.put hd (cz.undef m)) hK
def fj (P:Program) (n:Nat) (c:Code) (Q:Exit→Fr→AW→Prop) (a:Fr) (A:AW):Prop:=
 pI n c=true→∀(m:Mp) (w:World) (ca:Act),Sim m A w→pK m n a ca→
  c.wp P (fun e vA w'=>∃m' a' A',jr m A w m' A' w'∧pK m' n a' vA∧Q e a' A') ca w
section
variable {P:Program} {n:Nat} {Q:Exit→Fr→AW→Prop} {a:Fr} {A:AW}
theorem Gx {c:Code} {Q':Exit→Fr→AW→Prop} (h:fj P n c Q a A) (hq:∀e a A,Q e a A→Q' e a A):fj P n c Q' a A:=
 fun iK m w ca hs hf=>wp_mono (h iK m w ca hs hf) fun e vA w' ⟨m',a',A',h1,h2,h3⟩=>⟨m',a',A',h1,h2,hq _ _ _ h3⟩
theorem H8 {id:Nat} {ct:Array Oper} (h:Ih P ct (Q .normal) ct.toList a A):fj P n (.region id ct false) Q a A:=by
 intro iK m w ca hs hf
 have zE:ct.all (ot n)=true:=iK
 refine wp_region_list (nW zE _ _ _ m w ca (fun o ho=>Array.all_eq_true_iff_forall_mem.1 zE o (Array.mem_toList_iff.1 ho)) h hs hf ?_)
 intro a' A' m' w' vA hk ev zI
 exact⟨m',a',A',ev,zI,hk⟩
theorem L1 (h:Q .normal a A):fj P n .skip Q a A:=fun _ m w ca hs hf=>wp_skip ⟨m,a,A,jr.refl hs,hf,h⟩
theorem L5 {id:Nat} (h:Q (.exit id) a A):fj P n (.exit id) Q a A:=fun _ m w ca hs hf=>wp_exit ⟨m,a,A,jr.refl hs,hf,h⟩
theorem I1 (h:Q .ret a A):fj P n .ret Q a A:=fun _ m w ca hs hf=>wp_ret ⟨m,a,A,jr.refl hs,hf,h⟩
def sx (next:Fr→AW→Prop) (Q:Exit→Fr→AW→Prop):Exit→Fr→AW→Prop
 | .normal,a,A=>next a A
 | e,a,A=>Q e a A
theorem eW {x y:Code} (h:fj P n x (sx (fj P n y Q) Q) a A):fj P n (.seq x y) Q a A:=by
 intro iK m w ca hs hf
 simp only [pI,Bool.and_eq_true] at iK
 refine wp_seq (wp_mono (h iK.1 m w ca hs hf) ?_)
 rintro e vA w' ⟨m',a',A',ev,zI,hq⟩
 cases e with
 | normal=>
   refine wp_mono (hq iK.2 m' w' vA ev.C1 zI) ?_
   rintro e Sp w2 ⟨m2,a2,A2,HZ,Kr,SV⟩
   exact⟨m2,a2,A2,ev.trans HZ,Kr,SV⟩
 | exit id=>exact⟨m',a',A',ev,zI,hq⟩
 | goto l=>exact⟨m',a',A',ev,zI,hq⟩
 | ret=>exact⟨m',a',A',ev,zI,hq⟩
 | panic ch=>exact⟨m',a',A',ev,zI,hq⟩
 | outgrown=>exact⟨m',a',A',ev,zI,hq⟩
theorem L6 {c:Operand} {x y:Code} {b:Bool} (hc:ki a c=.bool b) (h1:b=true→fj P n x Q a A) (h2:b=false→fj P n y Q a A):fj P n (.cond c x y) Q a A:=by
 intro iK m w ca hs hf
 simp only [pI,Bool.and_eq_true] at iK
 have hv:=hf.eval iK.1.1
 rw [hc] at hv
 generalize hg:ca.eval c=x' at hv
 cases hv
 exact wp_cond_split hg (fun e=>h1 e iK.1.2 m w ca hs hf) (fun e=>h2 e iK.2 m w ca hs hf)
def At (id:Nat) (Q:Exit→Fr→AW→Prop):Exit→Fr→AW→Prop
 | .exit id',a,A=>if id'=id then Q .normal a A else Q (.exit id') a A
 | e,a,A=>Q e a A
theorem JV {id:Nat} {c:Code} (h:fj P n c (At id Q) a A):fj P n (.block id c) Q a A:=by
 intro iK m w ca hs hf
 refine wp_block (wp_mono (h iK m w ca hs hf) ?_)
 rintro e vA w' ⟨m',a',A',ev,zI,hq⟩
 cases e with
 | exit id'=>
   simp only [Exit.inBlock]
   simp only [At] at hq
   split
   · rename_i e;rw [if_pos e] at hq;exact⟨m',a',A',ev,zI,hq⟩
   · rename_i e;rw [if_neg e] at hq;exact⟨m',a',A',ev,zI,hq⟩
 | normal=>exact⟨m',a',A',ev,zI,hq⟩
 | goto l=>exact⟨m',a',A',ev,zI,hq⟩
 | ret=>exact⟨m',a',A',ev,zI,hq⟩
 | panic ch=>exact⟨m',a',A',ev,zI,hq⟩
 | outgrown=>exact⟨m',a',A',ev,zI,hq⟩
theorem ed {c:Code} (I:Nat→Fr→AW→Prop) (n₀:Nat) (h₀:I n₀ a A)
 (Q6:∀k a A,I k a A→fj P n c (sx (fun a' A'=>∃k',k'<k∧I k' a' A') Q) a A):fj P n (.loop c) Q a A:=by
 intro iK m w ca hs hf
 refine wp_loop_ghost (fun k vA w'=>∃m' a' A',jr m A w m' A' w'∧pK m' n a' vA∧I k a' A') n₀ ⟨m,a,A,jr.refl hs,hf,h₀⟩ ?_
 rintro k vA w' ⟨m',a',A',ev,zI,hI⟩
 refine wp_mono (Q6 k a' A' hI iK m' w' vA ev.C1 zI) ?_
 rintro e Sp w2 ⟨m2,a2,A2,HZ,Kr,hq⟩
 cases e with
 | normal=>
   obtain⟨k',dQ,Ys⟩:=hq
   exact⟨k',dQ,m2,a2,A2,ev.trans HZ,Kr,Ys⟩
 | exit id=>exact⟨m2,a2,A2,ev.trans HZ,Kr,hq⟩
 | goto l=>exact⟨m2,a2,A2,ev.trans HZ,Kr,hq⟩
 | ret=>exact⟨m2,a2,A2,ev.trans HZ,Kr,hq⟩
 | panic ch=>exact⟨m2,a2,A2,ev.trans HZ,Kr,hq⟩
 | outgrown=>exact⟨m2,a2,A2,ev.trans HZ,Kr,hq⟩
end
def I4 (P:Program) (a:Fr) (A:AW):ResultVar→Option Value
 | .tmp t=>some (a t)
 | .cell p t=>
   match a p with
   | .pointer (some q)=>tx P A t q
   | _=>none
def CA (P:Program) (a:Fr) (A:AW):List ResultVar→Option (List Value)
 | []=>some []
 | r::rs=>
   match I4 P a A r,CA P a A rs with
   | some v,some vs=>some (v::vs)
   | _,_=>none
def JX (P:Program) (a:Fr) (A:AW) (rs:List ResultVar):Option Value:=
 match CA P a A rs with
 | some [v]=>some v
 | some vs=>some (.tuple vs.toArray)
 | none=>none
def B9 (n:Nat):ResultVar→Bool
 | .tmp t=>decide (t<n)
 | .cell p _=>decide (p<n)
def Dh (tmps:Array Value):ResultVar→Sem Value
 | .tmp t=>pure (tmps.getD t undef)
 | .cell a t=>do loadVar t (←asAddr (tmps.getD a undef))
theorem Hm (fn:Func) (tmps:Array Value) :
 results fn tmps=(fn.results.mapM (Dh tmps) >>= fun vs=>pure (if h:vs.size=1 then vs[0] else .tuple vs):Sem Value):=by
 unfold results
 congr 2
theorem GA {P:Program} {m:Mp} {A:AW} {w:World} (hs:Sim m A w) {n:Nat} {a:Fr} {ca:Act} (hf:pK m n a ca) {r:ResultVar} (iK:B9 n r=true) {v:Value} (h:I4 P a A r=some v) :
 ∃v',cz m v v'∧(Dh ca.tmps r).run P w=.ok v' w:=by
 cases r with
 | tmp t=>
   injection h with h
   subst h
   exact⟨_,hf.Qq t (by simpa [B9] using iK),rfl⟩
 | cell p t=>
   simp only [I4] at h
   split at h
   · rename_i q hq
     have hv:=hf.Qq p (by simpa [B9] using iK)
     rw [hq] at hv
     generalize hg:ca.tmps.getD p undef=x' at hv
     cases hv with
     | Dl ha=>
       obtain⟨v',h1,h2⟩:=GF (P:=P) hs h ha
       refine⟨v',h2,?_⟩
       simp only [Dh,hg,asAddr,Sem.run_bind,Sem.run_pure,Result.andThen_ok,h1]
   · cases h
theorem wZ {P:Program} {m:Mp} {A:AW} {w:World} (hs:Sim m A w) {n:Nat} {a:Fr} {ca:Act} (hf:pK m n a ca):∀(rs:List ResultVar) (vs:List Value),rs.all (B9 n)=true→
 CA P a A rs=some vs→∃CG,ik m vs CG∧(rs.mapM (Dh ca.tmps)).run P w=.ok CG w
 | [],vs,_,h=>by injection h with h;subst h;exact⟨[],.nil,rfl⟩
 | r::rs,vs,iK,h=>by
   unfold CA at h
   simp only [List.all_cons,Bool.and_eq_true] at iK
   split at h
   · rename_i v vs1 hv HI
     injection h with h
     subst h
     obtain⟨v',h1,h2⟩:=GA (P:=P) hs hf iK.1 hv
     obtain⟨CG,h3,h4⟩:=wZ hs hf rs vs1 iK.2 HI
     refine⟨v'::CG,.cons h1 h3,?_⟩
     simp only [List.mapM_cons,Sem.run_bind,h2,Result.andThen_ok,h4,Sem.run_pure]
   · cases h
theorem H9 {P:Program} {m:Mp} {A:AW} {w:World} (hs:Sim m A w) {fn:Func} {n:Nat} {a:Fr} {ca:Act} (hf:pK m n a ca) (iK:fn.results.toList.all (B9 n)=true) {v:Value}
 (h:JX P a A fn.results.toList=some v):∃v',cz m v v'∧(results fn ca.tmps).run P w=.ok v' w:=by
 unfold JX at h
 cases hl:CA P a A fn.results.toList with
 | none=>rw [hl] at h;cases h
 | some vs=>
   obtain⟨CG,h1,h2⟩:=wZ (P:=P) hs hf _ _ iK hl
   have h3:=rC (P:=P) _ fn.results CG h2
   rw [hl] at h
   have Nh:∀(x:Value),(if h:CG.toArray.size=1 then CG.toArray[0] else .tuple CG.toArray)=x→(results fn ca.tmps).run P w=.ok x w:=fun x e=>by
    rw [Hm,Sem.run_bind,h3]
    simp only [Result.andThen_ok,Sem.run_pure,e]
   split at h
   · rename_i u hu
     injection hu with hu
     injection h with h
     subst hu;subst h
     obtain⟨v',t',rfl,hv,ht⟩:=h1.oD
     have:=ht.sN
     subst this
     exact⟨v',hv,Nh v' (by simp)⟩
   · rename_i us ke hu
     injection hu with hu
     injection h with h
     subst hu;subst h
     refine⟨.tuple CG.toArray,.tuple (by simpa using h1.1) (fun i x x' e1 e2=>h1.2 i x x' (by simpa using e1) (by simpa using e2)),Nh _ ?_⟩
     rw [dif_neg]
     intro e
     have e1:CG.length=1:=by simpa using e
     rw [←h1.1] at e1
     obtain⟨x,rfl⟩:=List.length_eq_one_iff.1 e1
     exact ke x rfl
   · rename_i hu;cases hu
def Cj (args:List Value):Fr:=fun i=>args.getD i undef
def NR (fn:Func) (Rh:Nat):Bool:=
 decide (Rh≤fn.ntmps) && !(fn.name == "runtime.NumGoroutine") && fn.results.toList.all (B9 fn.ntmps) && (match fn.body with|some c=>pI fn.ntmps c|none=>false)
def Mn (P:Program) (fn:Func) (R:Value→AW→Prop):Exit→Fr→AW→Prop
 | .normal,a,A=>∃v,JX P a A fn.results.toList=some v∧R v A
 | .ret,a,A=>∃v,JX P a A fn.results.toList=some v∧R v A
 | _,_,_=>False
theorem Eb {P:Program} {f:FuncId} {fn:Func} {c:Code} {args:List Value} {A:AW} {R:Value→AW→Prop} (hf:P.funcs[f]? = some fn) (hb:fn.body=some c) (iK:NR fn args.length=true)
 (h:fj P fn.ntmps c (Mn P fn R) (Cj args) A):aH P f args A R:=by
 simp only [NR,hb,Bool.and_eq_true,decide_eq_true_eq,Bool.not_eq_true'] at iK
 obtain⟨⟨⟨h1,h2⟩,h3⟩,h4⟩:=iK
 refine⟨by simp [jN,hf,h2,hb],fun m w jy hs hl=>?_⟩
 refine calls_of_wp hf hb (wp_mono (h h4 m w _ hs ?_) ?_)
 · have rq:jy.size=args.length:=by have:=hl.1;simp at this;omega
   refine⟨by simp [rq];omega,rfl,fun i hi=>?_⟩
   simp only [Cj,List.getD_eq_getElem?_getD,Array.getD_eq_getD_getElem?]
   by_cases dQ:i<args.length
   · have e1:=List.getElem?_eq_getElem dQ
     have PD:i<jy.size:=by omega
     have e2:jy.toList[i]? = some jy[i]:=by simp [PD]
     rw [e1,Array.getElem?_append_left PD,Array.getElem?_eq_getElem PD]
     exact hl.2 i _ _ e1 e2
   · rw [List.getElem?_eq_none (by omega),Array.getElem?_append_right (by omega)]
     simp only [Option.getD_none]
     rw [Array.getElem?_replicate]
     split
     · exact cz.undef m
     · exact cz.undef m
 · rintro e vA w' ⟨m',a',A',ev,zI,hq⟩
   have cC:∀(hx:∃v,JX P a' A' fn.results.toList=some v∧R v A'),vA.defers=[]∧∃v,(results fn vA.tmps).run P w'=.ok v w'∧
    ∃v0 v' m' A',Ending.returned v=.returned v'∧jr m A w m' A' w'∧cz m' v0 v'∧R v0 A':=by
    rintro ⟨v,hv,hR⟩
    obtain⟨v',h5,h6⟩:=H9 ev.C1 zI h3 hv
    exact⟨zI.defers,v',h6,v,v',m',A',rfl,ev,h5,hR⟩
   cases e with
   | normal=>exact cC hq
   | ret=>exact cC hq
   | exit id=>exact hq.elim
   | goto l=>exact hq.elim
   | panic ch=>exact hq.elim
   | outgrown=>exact hq.elim
open Go
def ef.ro:ef→ef
 | .cells cs _ u=>.cells cs false u
 | .map es _=>.map es false
theorem ef.O4 (o:ef):o.ro.own=false:=by cases o<;>rfl
theorem lZ.ro {m:Mp} {w:World} {p:Pl} {o:ef} (h:lZ m w p o):lZ m w p o.ro:=by
 cases o with
 | cells cs own u=>
   obtain⟨iX,e,fr,h2,h3,h4⟩:=h
   exact⟨iX,e,fr,h2,fun h=>(by cases h),h4⟩
 | map es own=>exact h
def AW.ro (A:AW):AW:={ A with cy:=fun i=>(A.cy i).map ef.ro }
theorem AW.O5 {A:AW} {i:Nat} {cs:List Value} {own:Bool} {u:Nat} (h:A.cy i=some (.cells cs own u)):A.ro.cy i=some (.cells cs false u):=by simp [AW.ro,h,ef.ro]
theorem AW.KL {A:AW} {i:Nat} {o:ef} (h:A.ro.cy i=some o):∃o',A.cy i=some o'∧o=o'.ro:=by
 simp only [AW.ro,Option.map_eq_some_iff] at h
 obtain⟨o',h1,h2⟩:=h
 exact⟨o',h1,h2.symm⟩
theorem Sim.ro {m:Mp} {A:AW} {w:World} (hs:Sim m A w):Sim m A.ro w:=by
 refine⟨fun i o hi=>?_,fun i j o o' p p' hi ho=>?_,hs.rg,fun i hi=>?_⟩
 · obtain⟨o',hg,rfl⟩:=AW.KL hi
   obtain⟨p,h1,h2⟩:=hs.Cg _ _ hg
   exact⟨p,h1,h2.ro⟩
 · obtain⟨o',hg,rfl⟩:=AW.KL hi
   rw [ef.O4] at ho
   cases ho
 · simp [AW.ro,hs.EI i hi]
structure Ar (w w':World):Prop where
 ext:Kx w w'
 os:w'.os=w.os
 tape:w'.tape=w.tape
 output:w'.output=w.output
 size:w.heap.size≤w'.heap.size
theorem Ar.refl (w:World):Ar w w:=⟨Kx.refl w,rfl,rfl,rfl,Nat.le_refl _⟩
theorem Ar.trans {a b c:World} (h:Ar a b) (k:Ar b c):Ar a c:=
 ⟨fun i hi=>(k.ext i (Nat.lt_of_lt_of_le hi h.size)).trans (h.ext i hi),k.os.trans h.os,k.tape.trans h.tape,k.output.trans h.output,Nat.le_trans h.size k.size⟩
theorem Ar.YB {m:Mp} {A:AW} {w w':World} (hs:Sim m A w) (h:Ar w w'):jr m A w m A w':=
 ⟨Mp.le_refl m,h.ext.C1 hs,Nat.le_refl _,h.os,h.tape,h.output,h.size,fun b hb _=>h.ext b hb,fun _ h=>.inl h⟩
theorem Ar.drew (w:World):Ar w w.drew:=⟨fun _ _=>rfl,rfl,rfl,rfl,Nat.le_refl _⟩
def CD (P:Program) (f:FuncId) (args:List Value) (A:AW) (v:Value):Prop:=
 jN P f=true∧gf v=true∧∀(m:Mp) (w:World) (jy:Array Value),Sim m A w→ik m args jy.toList→Calls P f jy w fun e w'=>e=.returned v∧Ar w w'
theorem cz.DT {m:Mp} {v v':Value} (hv:gf v=true) (h:cz m v v'):v'=v:=by
 cases h<;>first|rfl|(simp [gf] at hv;done)
theorem CD.call {P:Program} {f:FuncId} {args:List Value} {A:AW} {v:Value} (h:CD P f args A v) {R:Value→AW→Prop} (hR:R v A):aH P f args A R:=by
 refine⟨h.1,fun m w jy hs hl=>(h.2.2 m w jy hs hl).mono ?_⟩
 rintro e w' ⟨rfl,hk⟩
 exact⟨v,v,m,A,rfl,hk.YB hs,.mj h.2.1 m,hR⟩
def Ig (P:Program) (op:Op) (r:Operand→Value) (A:AW) (k:Value→Prop):Prop:=
 match op with
 | .call c=>
   match c.callee with
   | .value x=>
     match r x with
     | .func (.func f) fs cs=>∃v,CD P f (fs.toList++c.args.toList.map r++cs.toList) A v∧k v
     | _=>False
   | _=>False
 | _=>False
def As (P:Program) (op:Op) (r:Operand→Value) (A:AW) (k:Value→Prop):Prop:=
 match aq P A r op with
 | some v=>k v
 | none=>Ig P op r A k
open Go
@[simp] theorem Qn (a:Fr) (i j:Nat) (v:Value):Ii a i v j=if j=i then v else a j:=rfl
@[simp] theorem Pi (v:Value) (l:List Value):Cj (v::l) 0=v:=rfl
@[simp] theorem Pj (v:Value) (l:List Value) (i:Nat):Cj (v::l) (i+1)=Cj l i:=rfl
@[simp] theorem Qr (a:Fr) (i:Nat) (v:Value):fl a (some i) v=Ii a i v:=rfl
@[simp] theorem Qs (a:Fr) (v:Value):fl a none v=a:=rfl
@[simp] theorem Tb (a:Fr) (t:Nat):ki a (.tmp t)=a t:=rfl
@[simp] theorem QO (a:Fr) (v:Value):ki a (.const v)=v:=rfl
@[simp] theorem Si (a:Fr) (f:FuncId):ki a (.func f)=.func (.func f) #[] #[]:=rfl
@[simp] theorem QQ (k:IntKind) (n:Int):(Value.int k n).cells = #[.int k n]:=rfl
@[simp] theorem Qg (b:Bool):(Value.bool b).cells = #[.bool b]:=rfl
@[simp] theorem NX (s:ByteArray):(Value.string s).cells = #[.string s]:=rfl
@[simp] theorem MH (a:Option Addr):(Value.pointer a).cells = #[.pointer a]:=rfl
@[simp] theorem OO (a:Option Addr) (n c:Nat):(Value.slice a n c).cells = #[.slice a n c]:=rfl
@[simp] theorem QP (r:Option Nat):(Value.map r).cells = #[.map r]:=rfl
@[simp] theorem Qf (fn:Fn) (x y:Array Value):(Value.func fn x y).cells = #[.func fn x y]:=rfl
@[simp] theorem MI:Value.nilFunc.cells = #[.nilFunc]:=rfl
@[simp] theorem L0:Value.nilIface.cells = #[.nilIface]:=rfl
@[simp] theorem OP (t:TypeId) (v:Value):(Value.iface t v).cells = #[.iface t v]:=rfl
@[simp] theorem QR (cs:Array Value):(Value.agg cs).cells=cs:=rfl
attribute [simp] fG GB fh pJ pu Ef Ed vY vk gf sR
attribute [simp] kN qT D6 zw tx D8 qU apart vX oN ny Mg Mc qR
attribute [simp] I8 xO qS vm fU gx qo kI Ea qV nV su
attribute [simp] iC As aq ae sx At Mn JX CA I4 Oa xC DE Te I7
@[simp] theorem E4 (k0 k:IntKind) (a b:Int):Instr.sameNow (.int k0) (.int k a) (.int k b)=some (a == b):=by simp [Instr.sameNow]
@[simp] theorem Eg (K:Fr→AW→Prop) (Q:Exit→Fr→AW→Prop):sx K Q .normal=K:=rfl
structure Zy where
 dst:Option Tmp
 op:Op
 guard:Option (Option Tmp×Bool)
def jt (ct:Array Oper) (g:Option (Nat×Bool)):Option (Option Tmp×Bool):=g.map fun x=>((ct[x.1]?).bind (·.dst),x.2)
def sg (a:Fr) (g:Option (Option Tmp×Bool)):Bool:=
 match g with
 | none=>true
 | some (some d,Kz)=>
   match a d with
   | .bool b=>b == Kz
   | _=>false
 | some (none,_)=>false
theorem Il (ct:Array Oper) (a:Fr) (o:Oper):lT ct a o=sg a (jt ct o.guard):=by
 unfold lT sg jt
 cases o.guard with
 | none=>rfl
 | some g=>
   obtain⟨j,Kz⟩:=g
   simp only [Option.map_some]
   cases (ct[j]?).bind (·.dst)<;>rfl
theorem iC.mono {P:Program} {op:Op} {r:Operand→Value} {A:AW} {k k':Value→AW→Prop} (h:∀v A',k v A'→k' v A') (hh:iC P op r A k):iC P op r A k':=by
 unfold iC at *
 split at hh
 · exact h _ _ hh
 · split at hh
   · exact h _ _ hh
   · unfold ua at *
     split at hh
     · split at hh
       · split at hh
         · exact hh.mono h
         · exact hh
       · exact hh
     · exact hh
theorem As.mono {P:Program} {op:Op} {r:Operand→Value} {A:AW} {k k':Value→Prop} (h:∀v,k v→k' v) (hh:As P op r A k):As P op r A k':=by
 unfold As at *
 split at hh
 · exact h _ hh
 · unfold Ig at *
   split at hh
   · split at hh
     · split at hh
       · obtain⟨v,h1,h2⟩:=hh;exact⟨v,h1,h _ h2⟩
       · exact hh
     · exact hh
   · exact hh
attribute [simp] sg
theorem Ll {c:Prop} [Decidable c] {p q:Prop} (h1:c→p) (h2:¬c→q):if c then p else q:=by
 split
 · exact h1 ‹_›
 · exact h2 ‹_›
def AW.Wf (A:AW):Prop:=∀i,A.next≤i→A.cy i=none
theorem AW.Wf.lt {A:AW} (h:A.Wf) {i:Nat} {o:ef} (hg:A.cy i=some o):i<A.next:=by
 rcases Nat.lt_or_ge i A.next with h1|h1
 · exact h1
 · rw [h i h1] at hg;cases hg
@[simp] theorem AW.aZ (A:AW) (o:ef):(A.alloc o).next=A.next+1:=rfl
@[simp] theorem AW.dq (A:AW) (i:Nat) (o:Option ef):(A.set i o).next=A.next:=rfl
@[simp] theorem AW.gO (A:AW) (o:ef):(A.alloc o).cy A.next=some o:=by simp [AW.alloc]
theorem AW.jS (A:AW) (o:ef) {i:Nat} (h:i≠A.next):(A.alloc o).cy i=A.cy i:=by simp [AW.alloc,h]
@[simp] theorem AW.O2 (A:AW) (i:Nat) (o:Option ef):(A.set i o).cy i=o:=AW.fv
theorem AW.KJ {A:AW} {i:Nat} {cs:List Value} {own:Bool} {u:Nat} (h:A.cy i=some (.cells cs own u)):A.dh i=some cs:=by simp [AW.dh,h]
theorem AW.Wf.alloc {A:AW} (h:A.Wf) (o:ef):(A.alloc o).Wf:=fun i hi=>by
 simp only [AW.aZ] at hi
 rw [AW.jS _ _ (by omega)]
 exact h i (by omega)
theorem AW.Wf.set {A:AW} (h:A.Wf) {i:Nat} (o:Option ef) (hi:i<A.next):(A.set i o).Wf:=fun j hj=>by
 simp only [AW.dq] at hj
 rw [AW.cX (by omega)]
 exact h j hj
structure AW.le (A A':AW):Prop where
 next:A.next≤A'.next
 cy:∀i,i<A.next→A'.cy i=A.cy i
theorem AW.le.refl (A:AW):A.le A:=⟨Nat.le_refl _,fun _ _=>rfl⟩
theorem AW.le.trans {A B C:AW} (h:A.le B) (k:B.le C):A.le C:=⟨Nat.le_trans h.next k.next,fun i hi=>(k.cy i (Nat.lt_of_lt_of_le hi h.next)).trans (h.cy i hi)⟩
theorem AW.le.alloc (A:AW) (o:ef):A.le (A.alloc o):=⟨by simp,fun i hi=>AW.jS _ _ (by omega)⟩
theorem AW.le.set {A B:AW} (h:A.le B) {i:Nat} (hi:A.next≤i) (o:Option ef):A.le (B.set i o):=
 ⟨h.next,fun j hj=>by rw [AW.cX (by omega)];exact h.cy j hj⟩
theorem AW.le.iU {A B:AW} (h:A.le B) (hw:A.Wf) {i:Nat} {o:ef} (hg:A.cy i=some o):B.cy i=some o:=by rw [h.cy i (hw.lt hg)];exact hg
theorem aH.wf {P:Program} {f:FuncId} {args:List Value} {A:AW} {R:Value→AW→Prop} (h:aH P f args A R):aH P f args A (fun v A'=>R v A'∧A'.Wf∧A.next≤A'.next):=
 ⟨h.1,fun m w jy hs hl=>(h.2 m w jy hs hl).mono fun _ _ ⟨v,v',m',A',h1,h2,h3,h4⟩=>⟨v,v',m',A',h1,h2,h3,h4,h2.C1.EI,h2.next⟩⟩
theorem ab {P:Program} {f:FuncId} {fn:Func} {c:Code} {args:List Value} {A:AW} {R:Value→AW→Prop} (hf:P.funcs[f]? = some fn) (hb:fn.body=some c) (iK:NR fn args.length=true)
 (h:A.Wf→fj P fn.ntmps c (Mn P fn R) (Cj args) A):aH P f args A R:=by
 have dz:jN P f=true:=by
  simp only [NR,hb,Bool.and_eq_true,decide_eq_true_eq,Bool.not_eq_true'] at iK
  simp [jN,hf,iK.1.1.2,hb]
 exact⟨dz,fun m w jy hs hl=>(Eb hf hb iK (h hs.EI)).2 m w jy hs hl⟩
theorem bD {P:Program} {f:FuncId} {args:List Value} {A:AW} {R k:Value→AW→Prop} (h:aH P f args A R) (hk:∀v A',R v A'→A'.Wf→A.next≤A'.next→k v A'):aH P f args A k:=
 h.wf.mono fun v A' ⟨h1,h2,h3⟩=>hk v A' h1 h2 h3
@[congr] theorem OV {P:Program} {f:FuncId} {args Gz:List Value} {A:AW} {R:Value→AW→Prop} (h:args=Gz):aH P f args A R=aH P f Gz A R:=by rw [h]
@[congr] theorem OT {P:Program} {f:FuncId} {args Gz:List Value} {A:AW} {v:Value} (h:args=Gz):CD P f args A v=CD P f Gz A v:=by rw [h]
@[simp] theorem OW (P:Program) (x:Operand) (args:Array Operand) (ts:Array TypeId) (r:Operand→Value) (A:AW) (k:Value→AW→Prop) :
 ua P (.call ⟨.value x,args,ts⟩) r A k=match r x with
  | .func (.func f) fs cs=>aH P f (fs.toList++args.toList.map r++cs.toList) A k
  | _=>False:=rfl
@[simp] theorem OU (P:Program) (x:Operand) (args:Array Operand) (ts:Array TypeId) (r:Operand→Value) (A:AW) (k:Value→Prop) :
 Ig P (.call ⟨.value x,args,ts⟩) r A k=match r x with
  | .func (.func f) fs cs=>∃v,CD P f (fs.toList++args.toList.map r++cs.toList) A v∧k v
  | _=>False:=rfl
def mQ (A:AW) (size:Nat) (v:Value) (n:Nat) (cs:List Value):Prop:=
 ((∃o,v=.slice o 0 0)∧n=0∧cs=[]) ∨
 ∃p c dh own u,v=.slice (some p) n c∧n≤c∧A.cy p.block=some (.cells dh own u)∧u=size∧p.off+n*size≤dh.length∧cs=(dh.drop p.off).take (n*size)
theorem mQ.length {A:AW} {size:Nat} {v:Value} {n:Nat} {cs:List Value} (h:mQ A size v n cs):cs.length=n*size:=by
 rcases h with ⟨_,rfl,rfl⟩|⟨p,c,dh,own,u,_,_,_,_,h1,rfl⟩
 · simp
 · simp;omega
theorem mQ.le {A B:AW} (hl:A.le B) (hw:A.Wf) {size:Nat} {v:Value} {n:Nat} {cs:List Value} (h:mQ A size v n cs):mQ B size v n cs:=by
 rcases h with h|⟨p,c,dh,own,u,h1,h2,h3,h4⟩
 · exact .inl h
 · exact .inr ⟨p,c,dh,own,u,h1,h2,hl.iU hw h3,h4⟩
def cF (A:AW) (k:IntKind) (v:Value) (l:List Int):Prop:=mQ A 1 v l.length (l.map (Value.int k))
theorem cF.le {A B:AW} (hl:A.le B) (hw:A.Wf) {k:IntKind} {v:Value} {l:List Int} (h:cF A k v l):cF B k v l:=mQ.le hl hw h
theorem cF.nil (A:AW) (k:IntKind):cF A k (.slice none 0 0) []:=.inl ⟨⟨none,rfl⟩,rfl,rfl⟩
theorem mQ.ro {A:AW} {size:Nat} {v:Value} {n:Nat} {cs:List Value} (h:mQ A size v n cs):mQ A.ro size v n cs:=by
 rcases h with h|⟨p,c,dh,own,u,h1,h2,h3,h4⟩
 · exact .inl h
 · exact .inr ⟨p,c,dh,false,u,h1,h2,AW.O5 h3,h4⟩
theorem cF.ro {A:AW} {k:IntKind} {v:Value} {l:List Int} (h:cF A k v l):cF A.ro k v l:=mQ.ro h
theorem mQ.cL {A:AW} {size:Nat} {v:Value} {n:Nat} {cs:List Value} (h:mQ A size v n cs):∃o c,v=.slice o n c∧n≤c:=by
 rcases h with ⟨⟨o,rfl⟩,rfl,_⟩|⟨p,c,_,_,_,rfl,h,_⟩
 · exact⟨_,_,rfl,Nat.le_refl _⟩
 · exact⟨_,_,rfl,h⟩
theorem cF.cases {A:AW} {k:IntKind} {v:Value} {l:List Int} (h:cF A k v l) :
 ((∃o,v=.slice o 0 0)∧l=[])∨∃p c dh own,v=.slice (some p) l.length c∧l.length≤c∧A.cy p.block=some (.cells dh own 1)∧p.off+l.length≤dh.length∧
   ∀j (hj:j<l.length),dh[p.off+j]? = some (.int k l[j]):=by
 rcases h with ⟨h1,h2,h3⟩|⟨p,c,dh,own,u,h1,h2,h3,h4,h5,h6⟩
 · exact .inl ⟨h1,List.eq_nil_of_length_eq_zero h2⟩
 · subst h4
   rw [Nat.mul_one] at h5 h6
   refine .inr ⟨p,c,dh,own,h1,h2,h3,h5,fun j hj=>?_⟩
   have h7:(l.map (Value.int k))[j]? = ((dh.drop p.off).take l.length)[j]?:=by rw [h6]
   rw [List.getElem?_map,List.getElem?_eq_getElem hj,List.getElem?_take_of_lt hj,List.getElem?_drop] at h7
   exact h7.symm
theorem cF.cL {A:AW} {k:IntKind} {v:Value} {l:List Int} (h:cF A k v l):∃o c,v=.slice o l.length c∧l.length≤c:=mQ.cL h
theorem cF.at {A:AW} {k:IntKind} {o:Option Addr} {c n:Nat} {l:List Int} (h:cF A k (.slice o n c) l) {i:Nat} (hi:i<l.length) :
 ∃p dh,o=some p∧A.dh p.block=some dh∧dh[p.off+i]? = some (.int k l[i]):=by
 rcases h.cases with ⟨h1,rfl⟩|⟨p,c,dh,own,h1,_,hg,_,hr⟩
 · simp at hi
 · injection h1 with h1 h2 h3
   exact⟨p,dh,h1,AW.KJ hg,hr i hi⟩
end Go.Stx
