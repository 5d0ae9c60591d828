/-
 The abstract memory, its operations, and the walk over it.
-/
import Derived.WalkKit
import Derived.MapKept
import Derived.Lib.AppendZerosOnto
import Derived.ChangeKeysEq
import Derived.Laws.StructEq
import Derived.Laws.Cover3
import Derived.Laws.BytesArg
import Derived.Deep.LoopGhost
import Derived.Deep.Quiet
set_option linter.unusedVariables false
set_option linter.unusedSimpArgs false
set_option linter.unusedSectionVars false
open Array renaming all_eq_true_iff_forall_mem->Z1,foldl_toList->kbm,getD_eq_getD_getElem?->ZV,getElem?_append_left->kbi,getElem?_eq_getElem->qV,getElem?_eq_some_iff->qr,getElem?_map->kaY,getElem?_modify->kan,getElem?_setIfInBounds_ne->kaU,getElem?_toList->kaD,mem_append->kaq,mem_of_getElem?->ZW,mem_toList_iff->Ze,range->Z8
open BitVec renaming ofInt->ZR
open Bool renaming and_eq_true->qq,false_eq_true->qt,not_eq_true'->ZF
open Go.Builtin renaming append_->Zy,clear_->ka4,len_->kba,zeroCells->Zf
open Go.Call renaming operands->ZA
open Go.Instr renaming checkKey->kbr,fill->kay,findNow->ka8,lookup->kbb,mapUpdate->kbp,sameBits->kbq,sameNow->Zz,slice->kaO,sliceAt->kak,sliceBounds->kaj,sureAddr->ka3
open Go.IntKind renaming i64->qg,signed->kaK
open Go.MapKept renaming run_getObj_map->kaV,run_setObj_map->kbu
open Go.Op renaming equalIn->qT,intArith->kbf,intBits->kaQ,intCmp->kaz,operands->qn
open Go.Result renaming andThen_ok->qw
open Go.Sem renaming run_bind->qx,run_pure->qF
open Go.Value renaming int->qp,oneCell'->qL
open List renaming all_eq_true->qC,eq_nil_of_length_eq_zero->Zc,getD_eq_getElem?_getD->ql,getElem?_append->kaW,getElem?_append_left->ZI,getElem?_append_right->kam,getElem?_drop->Zv,getElem?_eq_getElem->qk,getElem?_eq_none->qN,getElem?_eq_some_iff->qK,getElem?_map->Zg,getElem?_set_ne->Zo,getElem?_set_self->Zd,getElem?_take_of_lt->Zu,getElem?_toArray->Zn,length_cons->qI,length_drop->ZG,length_take->Zx,mem_of_getElem?->Z3,perm_middle->ka0,range->qA
open Nat renaming add_assoc->qJ,add_mul->ZS,le_refl->qf,le_trans->qM,lt_of_lt_of_le->kai,zero_add->Zj
open Ne renaming symm->qh
open Option renaming bind_some->Zq,isSome_none->kaX,map_eq_some_iff->ZJ,map_some->qR,some_ne_none->kaF
open Option.some renaming injEq->qs
open Prod.mk renaming injEq->qO
namespace Go.Stx
theorem aw {c:Prop} [h:Decidable c] {α:Sort _} {a b:α} (hc:¬c):(if c then a else b)=b:=if_neg hc
theorem aA {c:Prop} [h:Decidable c] {α:Sort _} {a b:α} (hc:c):(if c then a else b)=a:=if_pos hc
theorem aa {α:Type _} {a:α} {as bs:List α}:(a::as)++bs=a::(as++bs):=rfl
theorem af {α:Type _} {as:List α}:[]++as=as:=rfl
open Go
structure Pl where
 block:Nat
 base:Nat
 unit:Nat
 zX:Nat
abbrev Mp:=Nat->Option Pl
def rh (m:Mp) (a a':Addr):Prop:=
 a.spot=none/\a'.spot=none/\∃p,m a.block=some p/\a'.block=p.block/\a'.off=p.base+a.off
def Ci (m:Mp) (a a':Addr) (i6:Nat):Prop:=
 a.spot=none/\a'.spot=none/\∃p,m a.block=some p/\a'.block=p.block/\a'.off=p.base+a.off/\a'.off+i6*p.unit<=p.zX
theorem Ci.Ue {m:Mp} {a a':Addr} {c:Nat} (h:Ci m a a' c):rh m a a':=by
 obtain⟨h1,h2,p,h3,h4,h5,_⟩:=h;exact⟨h1,h2,p,h3,h4,h5⟩
inductive bI (m:Mp):Value->Value->Prop
 | bool (b:Bool):bI m (.bool b) (.bool b)
 | int (k:IntKind) (n:Int):bI m (.int k n) (.int k n)
 | float (k:FloatKind) (n:Nat):bI m (.float k n) (.float k n)
 | complex (k:FloatKind) (x y:Nat):bI m (.complex k x y) (.complex k x y)
 | string (s:ByteArray):bI m (.string s) (.string s)
 | Ah:bI m (.pointer none) (.pointer none)
 | Kr {a a':Addr} (h:rh m a a'):bI m (.pointer (some a)) (.pointer (some a'))
 | lC:bI m (.slice none 0 0) (.slice none 0 0)
 | slice {a a':Addr} {len eA i6:Nat} (h:Ci m a a' i6\/(len=0/\i6=0/\(a.spot.isSome=true\/m a.block≠none))) (h1:len<=eA) (h2:eA<=i6) :
  bI m (.slice (some a) len eA) (.slice (some a') len i6)
 | Ay:bI m (.map none) (.map none)
 | map {r r':Nat} (h:∃p,m r=some p/\p.block=r'):bI m (.map (some r)) (.map (some r'))
 | Fs:bI m (.chan none) (.chan none)
 | func (fn:Fn) {x x' y y':Array Value} (hx:x.size=x'.size) (hy:y.size=y'.size)
  (h1:∀(i:Nat) (v v':Value),x[i]? = some v->x'[i]? = some v'->bI m v v')
  (h2:∀(i:Nat) (v v':Value),y[i]? = some v->y'[i]? = some v'->bI m v v') :
  bI m (.func fn x y) (.func fn x' y')
 | nilFunc:bI m .nilFunc .nilFunc
 | iface (t:TypeId) {v v':Value} (h:bI m v v'):bI m (.iface t v) (.iface t v')
 | nilIface:bI m .nilIface .nilIface
 | agg {x x':Array Value} (hx:x.size=x'.size)
  (h1:∀(i:Nat) (v v':Value),x[i]? = some v->x'[i]? = some v'->bI m v v'):bI m (.agg x) (.agg x')
 | tuple {x x':Array Value} (hx:x.size=x'.size)
  (h1:∀(i:Nat) (v v':Value),x[i]? = some v->x'[i]? = some v'->bI m v v'):bI m (.tuple x) (.tuple x')
def Mp.le (m m':Mp):Prop:=∀i x,m i=some x->m' i=some x
theorem Mp.le_refl (m:Mp):Mp.le m m:=λ_ _ h=>h
theorem Mp.le_trans {a b c:Mp} (h:Mp.le a b) (k:Mp.le b c):Mp.le a c:=λi x e=>k i x (h i x e)
theorem Mp.Vs {m m':Mp} (hm:Mp.le m m') {i:Nat} (h:m i≠none):m' i≠none:=λe=>by
 cases hi:m i with
 | none=>exact h hi
 | some p=>rw [hm i p hi] at e;cases e
theorem rh.mono {m m':Mp} (hm:Mp.le m m') {a a':Addr} (h:rh m a a'):rh m' a a':=by
 obtain⟨h1,h2,p,h3,h4⟩:=h;exact⟨h1,h2,p,hm _ _ h3,h4⟩
theorem Ci.mono {m m':Mp} (hm:Mp.le m m') {a a':Addr} {c:Nat} (h:Ci m a a' c):Ci m' a a' c:=by
 obtain⟨h1,h2,p,h3,h4⟩:=h;exact⟨h1,h2,p,hm _ _ h3,h4⟩
theorem bI.mono {m m':Mp} (hm:Mp.le m m') {v v':Value} (h:bI m v v'):bI m' v v':=by
 induction h with
 | bool b=>exact .bool b
 | int k n=>exact .int k n
 | float k n=>exact .float k n
 | complex k x y=>exact .complex k x y
 | string s=>exact .string s
 | Ah=>exact .Ah
 | Kr h=>exact .Kr (h.mono hm)
 | lC=>exact .lC
 | slice h h1 h2=>exact .slice (h.imp (λx=>x.mono hm) fun⟨e1,e2,e3⟩=>⟨e1,e2,e3.imp id (Mp.Vs hm)⟩) h1 h2
 | Ay=>exact .Ay
 | map h=>obtain⟨p,h1,h2⟩:=h;exact .map ⟨p,hm _ _ h1,h2⟩
 | Fs=>exact .Fs
 | func fn hx hy _ _ ih1 ih2=>exact .func fn hx hy ih1 ih2
 | nilFunc=>exact .nilFunc
 | iface t _ ih=>exact .iface t ih
 | nilIface=>exact .nilIface
 | agg hx _ ih=>exact .agg hx ih
 | tuple hx _ ih=>exact .tuple hx ih
def iV (m:Mp) (l l':List Value):Prop:=l.length=l'.length/\∀(i:Nat) (v v':Value),l[i]? = some v->l'[i]? = some v'->bI m v v'
theorem iV.nil {m:Mp}:iV m [] []:=⟨rfl,λi v v' h=>by simp at h⟩
theorem iV.cons {m:Mp} {v v':Value} {l l':List Value} (h:bI m v v') (t:iV m l l'):iV m (v::l) (v'::l'):=by
 refine⟨by simp [t.1],λi x x' h1 h2=>?_⟩;cases i with
 | zero=>simp at h1 h2;subst h1;subst h2;exact h
 | succ i=>simp at h1 h2;exact t.2 i x x' h1 h2
theorem iV.append {m:Mp} {a a' b b':List Value} (h:iV m a a') (k:iV m b b'):iV m (a++b) (a'++b'):=by
 refine⟨by simp [h.1,k.1],λi v v' h1 h2=>?_⟩;rw [kaW] at h1 h2;rw [<-h.1] at h2;by_cases hi:i<a.length;rw [aA hi] at h1 h2;exact h.2 i v v' h1 h2;rw [aw hi] at h1 h2;exact k.2 _ v v' h1 h2
theorem iV.bp {m:Mp} {l l':List Value} (h:iV m l l') {i:Nat} {v:Value} (hi:l[i]? = some v):∃v',l'[i]? = some v'/\bI m v v':=by
 have cD:i<l'.length:=by rw [<-h.1];exact(qK.1 hi).1
 exact⟨l'[i],qk cD,h.2 i v _ hi (qk cD)⟩
theorem iV.mf {m:Mp} {v:Value} {l l':List Value} (h:iV m (v::l) l'):∃v' t',l'=v'::t'/\bI m v v'/\iV m l t':=by
 cases l' with
 | nil=>have:=h.1;simp at this
 | cons v' t'=>
   refine⟨v',t',rfl,h.2 0 v v' rfl rfl,⟨by have:=h.1;simpa using this,λi x x' h1 h2=>h.2 (i+1) x x' (by simpa using h1) (by simpa using h2)⟩⟩
theorem iV.pT {m:Mp} {l':List Value} (h:iV m [] l'):l'=[]:=by
 exact Zc h.1.symm
inductive dQ where
 | cells (cs:List Value) (own:Bool) (unit:Nat)
 | map (es:List (Value×Value)) (own:Bool)
structure AW where
 next:Nat
 bp:Nat->Option dQ
def AW.set (A:AW) (i:Nat) (o:Option dQ):AW:={ A with bp:=λj=>if j=i then o else A.bp j }
def AW.alloc (A:AW) (o:dQ):AW:={ next:=A.next+1,bp:=λj=>if j=A.next then some o else A.bp j }
def dQ.own:dQ->Bool
 | .cells _ o _=>o
 | .map _ o=>o
def nF (m:Mp) (w:World) (p:Pl):dQ->Prop
 | .cells cs own unit=>∃iT e fr,w.heap[p.block]? = some (.cells iT e fr)/\(own=true->fr=(0,0))/\unit=p.unit/\iT.size=p.zX/\
  ∀(k:Nat) (v:Value),cs[k]? = some v->∃v',iT[p.base+k]? = some v'/\bI m v v'
 | .map es0 _=>∃k8 aB es,es0.Perm es/\w.heap[p.block]? = some (.map k8 aB)/\es.length=k8.size/\
  ∀(k:Nat) (x:Value×Value) (e:MapEntry),es[k]? = some x->k8[k]? = some e->bI m x.1 e.key/\bI m x.2 e.val
theorem nF.heap {m:Mp} {w w':World} {p:Pl} {o:dQ} (h:nF m w p o) (e:w'.heap[p.block]? = w.heap[p.block]?):nF m w' p o:=by
 cases o with
 | cells cs own unit=>
   obtain⟨iT,e',fr,h3,h4⟩:=h;exact⟨iT,e',fr,by rw [e];exact h3,h4⟩
 | map es own=>
   obtain⟨k8,aB,zu,hp,h3,h4⟩:=h;exact⟨k8,aB,zu,hp,by rw [e];exact h3,h4⟩
theorem nF.mono {m m':Mp} {w:World} {p:Pl} {o:dQ} (hm:Mp.le m m') (h:nF m w p o):nF m' w p o:=by
 cases o with
 | cells cs own unit=>
   obtain⟨iT,e',fr,h3,h4,h5,h6,h7⟩:=h;refine⟨iT,e',fr,h3,h4,h5,h6,λk v hv=>?_⟩;obtain⟨v',h8,h9⟩:=h7 k v hv;exact⟨v',h8,h9.mono hm⟩
 | map es own=>
   obtain⟨k8,aB,zu,hp,h3,h4,h5⟩:=h;exact⟨k8,aB,zu,hp,h3,h4,λk x e a b=>⟨(h5 k x e a b).1.mono hm,(h5 k x e a b).2.mono hm⟩⟩
theorem nF.lt {m:Mp} {w:World} {p:Pl} {o:dQ} (h:nF m w p o):p.block<w.heap.size:=by
 cases o with
 | cells cs own unit=>
   obtain⟨iT,e',fr,h3,_⟩:=h;exact(qr.1 h3).1
 | map es own=>
   obtain⟨k8,aB,zu,_,h3,_⟩:=h;exact(qr.1 h3).1
class Gl where
 B:Nat->Option Obj
 ok:Nat->Bool:=λ_=>false
 N:Nat:=0
 lt:∀g,ok g=true->g<N:=by simp
variable [Gl]
def NL (g:Nat):Nat:=match Gl.B g with|some (.cells iT _ _)=>iT.size|_=>0
def L7 (m:Mp):Prop:=∀g,Gl.ok g=true->m g=some ⟨g,0,1,NL g⟩
theorem L7.mono {m m':Mp} (hm:Mp.le m m') (h:L7 m):L7 m':=λg hg=>hm _ _ (h g hg)
structure j6 (m:Mp) (A:AW) (w:World):Prop where
 Gu:∀i o,A.bp i=some o->∃p,m i=some p/\nF m w p o
 inj:∀i j o o' p p',A.bp i=some o->o.own=true->A.bp j=some o'->i≠j->m i=some p->m j=some p'->p.block≠p'.block
 sS:∀i,A.next<=i->m i=none
 zL:∀i,A.next<=i->A.bp i=none
 laid:∀b x,Gl.B b=some x->w.heap[b]? = some x
 AA:∀i o p,A.bp i=some o->o.own=true->m i=some p->Gl.B p.block=none
 wI:L7 m
def Uq (m:Mp) (A:AW) (b:Nat):Prop:=∃i o p,A.bp i=some o/\o.own=true/\m i=some p/\p.block=b
def PB (m:Mp) (A:AW) (b:Nat):Prop:=∃i o p,A.bp i=some o/\m i=some p/\p.block=b
structure j8 (m:Mp) (A:AW) (w:World) (m':Mp) (A':AW) (w':World):Prop where
 ext:Mp.le m m'
 FR:j6 m' A' w'
 next:A.next<=A'.next
 os:w'.os=w.os
 tape:w'.tape=w.tape
 output:w'.output=w.output
 size:w.heap.size<=w'.heap.size
 tR:∀b,b<w.heap.size->¬Uq m A b->w'.heap[b]? = w.heap[b]?
 grow:∀b,Uq m' A' b->Uq m A b\/w.heap.size<=b
 mu:∀i,i<A.next->m' i=m i
 UQ:∀b,PB m' A' b->PB m A b\/w.heap.size<=b\/Gl.B b≠none
theorem j8.refl {m:Mp} {A:AW} {w:World} (h:j6 m A w):j8 m A w m A w:=
 ⟨Mp.le_refl m,h,qf _,rfl,rfl,rfl,qf _,λ_ _ _=>rfl,λ_ h=>.inl h,λ_ _=>rfl,λ_ h=>.inl h⟩
theorem j8.trans {m m1 m2:Mp} {A A1 A2:AW} {w w1 w2:World} (h:j8 m A w m1 A1 w1) (k:j8 m1 A1 w1 m2 A2 w2):j8 m A w m2 A2 w2:=by
 refine⟨Mp.le_trans h.ext k.ext,k.FR,qM h.next k.next,k.os.trans h.os,k.tape.trans h.tape,k.output.trans h.output,qM h.size k.size,?_,?_,λi hi=>(k.mu i (kai hi h.next)).trans (h.mu i hi),?_⟩;intro b hb ho;rw [k.tR b (kai hb h.size) (λhx=>?_),h.tR b hb ho];rcases h.grow b hx with h1|h1;exact ho h1;omega;intro b hb;rcases k.grow b hb with h1|h1;exact h.grow b h1;exact .inr (qM h.size h1);intro b hb;rcases k.UQ b hb with h1|h1|h1;exact h.UQ b h1;exact .inr (.inl (qM h.size h1));exact .inr (.inr h1)
theorem j6.IC {m:Mp} {A:AW} {w w':World} (h:j6 m A w) (e:w'.heap=w.heap):j6 m A w':=by
 refine⟨λi o hi=>?_,h.inj,h.sS,h.zL,λb x hb=>by rw [e];exact h.laid b x hb,h.AA,h.wI⟩;obtain⟨p,h1,h2⟩:=h.Gu i o hi;exact⟨p,h1,h2.heap (by rw [e])⟩
theorem j8.drew {m:Mp} {A:AW} {w:World} (h:j6 m A w):j8 m A w m A w.drew:=
 ⟨Mp.le_refl m,h.IC rfl,qf _,rfl,rfl,rfl,qf _,λ_ _ _=>rfl,λ_ h=>.inl h,λ_ _=>rfl,λ_ h=>.inl h⟩
end Go.Stx
namespace Go.Stx
open Go
variable [Gl]
theorem nD (a:Addr) (n:Nat) (h:a.spot=none):a.add n=⟨a.block,a.off+n,none⟩:=by
 obtain⟨b,o,s⟩:=a;simp only at h;subst h;unfold Addr.add;split;rename_i h0;subst h0;rfl;rfl
theorem Bl (a:Addr) (h:a.spot=none):a=⟨a.block,a.off,none⟩:=by
 obtain⟨b,o,s⟩:=a;simp only at h;subst h;rfl
theorem bI.Am {m:Mp} {v v':Value} (h:bI m v v'):v'.oneCell'=v.oneCell':=by cases h<;>rfl
theorem bI.cells {m:Mp} {v v':Value} (h:bI m v v'):iV m v.cells.toList v'.cells.toList:=by
 have h0:=h;cases h with
 | agg hx h1=>exact⟨by simpa [Value.cells] using hx,λi x x' a b=>h1 i x x' (by simpa [Value.cells] using a) (by simpa [Value.cells] using b)⟩
 | _=>exact .cons h0 .nil
def AW.b8 (A:AW) (i:Nat):Option (List Value):=
 match A.bp i with
 | some (.cells cs _ _)=>some cs
 | _=>none
theorem Ba {m:Mp} {A:AW} {w:World} (hs:j6 m A w) {a a':Addr} (ha:rh m a a') {cs:List Value} (hr:A.b8 a.block=some cs) {k:Nat} {v:Value}
 (hv:cs[a.off+k]? = some v):∃v',w.cell? (a'.add k)=some v'/\bI m v v':=by
 obtain⟨h1,h2,p,h3,hb,h4⟩:=ha;unfold AW.b8 at hr;split at hr;rename_i tu own unit hg;simp only [qs] at hr;subst hr;obtain⟨p',h5,iT,e,fr,h6,_,_,_,h7⟩:=hs.Gu _ _ hg;rw [h3] at h5;simp only [qs] at h5;subst h5;obtain⟨v',h8,h9⟩:=h7 _ _ hv;refine⟨v',?_,h9⟩;rw [nD _ _ h2];simp only [World.cell?,hb,h6,kaX,qt,if_false];rw [h4,qJ];exact h8;simp at hr
theorem SK {P:Program} {m:Mp} {A:AW} {w:World} (hs:j6 m A w) {a a':Addr} (ha:rh m a a') {cs:List Value} (hr:A.b8 a.block=some cs) {v:Value}
 (hv:cs[a.off]? = some v):∃v',(load a').run P w=.ok v' w/\bI m v v':=by
 obtain⟨v',h1,h2⟩:=Ba hs ha hr (k:=0) (by simpa using hv);refine⟨v',?_,h2⟩;have e:a'.add 0=a':=by unfold Addr.add;simp
 rw [e] at h1;rw [run_load,h1]
theorem GC {P:Program} {m:Mp} {A:AW} {w:World} (hs:j6 m A w) {a a':Addr} (ha:rh m a a') {cs:List Value} (hr:A.b8 a.block=some cs) (n:Nat)
 (hn:a.off+n<=cs.length):∃l',(loadCells a' n).run P w=.ok l'.toArray w/\iV m ((cs.drop a.off).take n) l':=by
 have h:∀j,j<n->∃v',w.cell? (a'.add j)=some v'/\bI m (cs.getD (a.off+j) undef) v':=λj hj=>
  Ba hs ha hr (by rw [ql,qk (by omega)];rfl)
 let f:Nat->Value:=λj=>(w.cell? (a'.add j)).getD undef
 have hf:∀j,j<n->w.cell? (a'.add j)=some (f j):=λj hj=>by
  obtain⟨v',h1,_⟩:=h j hj;simp [f,h1]
 refine⟨(qA n).map f,run_loadCells w a' n f hf,?_,?_⟩;simp;omega;intro i v v' h1 h2;have hi:i<n:=by
  have:=(qK.1 h2).1
  simpa using this
 obtain⟨v1,h3,h4⟩:=h i hi;have e1:cs.getD (a.off+i) undef=v:=by
  rw [Zu hi,Zv] at h1;rw [ql,h1];rfl
 have e2:v'=v1:=by
  simp [hi,f,h3] at h2;exact h2.symm
 rw [e1] at h4;rw [e2];exact h4
def fA (cs:List Value) (off:Nat):List Value->List Value
 | []=>cs
 | v::vs=>fA (cs.set off v) (off+1) vs
theorem Dc (vs:List Value):∀(cs:List Value) (off:Nat),(fA cs off vs).length=cs.length:=by
 induction vs with
 | nil=>intro cs off;rfl
 | cons v vs ih=>intro cs off;simp [fA,ih]
theorem AW.cY {A:AW} {i:Nat} {o:Option dQ}:(A.set i o).bp i=o:=by simp [AW.set]
theorem AW.bg {A:AW} {i j:Nat} {o:Option dQ} (h:j≠i):(A.set i o).bp j=A.bp j:=by simp [AW.set,h]
theorem AW.set_set {A:AW} {i:Nat} {o o':Option dQ}:(A.set i o).set i o'=A.set i o':=by
 unfold AW.set;congr 1;funext j;dsimp only;split<;>rfl
theorem AW.RZ {A:AW} {i:Nat} {o:Option dQ} (h:A.bp i=o):A.set i o=A:=by
 obtain⟨n,g⟩:=A;unfold AW.set;simp only at h ⊢;congr 1;funext j;split;rename_i e;rw [e,h];rfl
theorem j8.wg {m:Mp} {A:AW} {w w':World} (hs:j6 m A w) {i:Nat} {p:Pl} {o0 o1:dQ}
 (hg:A.bp i=some o0) (Lb:o0.own=true) (jx:o1.own=true) (hm:m i=some p)
 (vS:w'.heap.size=w.heap.size) (O9:w'.os=w.os) (ht:w'.tape=w.tape) (ho:w'.output=w.output)
 (hb:nF m w' p o1) (uV:∀j,j≠p.block->w'.heap[j]? = w.heap[j]?) :
 j8 m A w m (A.set i (some o1)) w':=by
 refine⟨Mp.le_refl m,⟨?_,?_,hs.sS,?_,?_,?_,hs.wI⟩,qf _,O9,ht,ho,by omega,?_,?_,λ_ _=>rfl,?_⟩
 rotate_left 3
 intro b x wG;rw [uV b (λe=>by have:=hs.AA i o0 p hg Lb hm;rw [<-e,wG] at this;cases this)];exact hs.laid b x wG;intro j o p' hj Bs tF;by_cases nj:j=i;subst nj;exact hs.AA j o0 p' hg Lb tF;rw [AW.bg nj] at hj;exact hs.AA j o p' hj Bs tF
 rotate_left 3
 intro j o hj;by_cases nj:j=i;subst nj;rw [AW.cY] at hj;simp only [qs] at hj;subst hj;exact⟨p,hm,hb⟩;rw [AW.bg nj] at hj;obtain⟨p',h1,h2⟩:=hs.Gu j o hj;have gT:p'.block≠p.block:=λe'=>hs.inj i j _ o p p' hg Lb hj (qh nj) hm h1 e'.symm;exact⟨p',h1,h2.heap (uV _ gT)⟩;intro j j' o o' p1 p2 hj Bs yn gT IT hm2;by_cases nj:j=i;subst nj;rw [AW.bg (qh gT)] at yn;exact hs.inj j j' _ o' p1 p2 hg Lb yn gT IT hm2;rw [AW.bg nj] at hj;by_cases hj'i:j'=i;subst hj'i;exact hs.inj j j' o _ p1 p2 hj Bs hg gT IT hm2;rw [AW.bg hj'i] at yn;exact hs.inj j j' o o' p1 p2 hj Bs yn gT IT hm2;intro j hj;have nj:j≠i:=λe=>by
  subst e;rw [hs.zL j hj] at hg;cases hg
 rw [AW.bg nj];exact hs.zL j hj;intro b' _ VI;refine uV b' (λe'=>VI ?_);subst e';exact⟨i,_,p,hg,Lb,hm,rfl⟩;rintro b' ⟨j,o,p',hj,Bs,tF,wG⟩;by_cases nj:j=i;subst nj;exact .inl ⟨j,_,p',hg,Lb,tF,wG⟩;rw [AW.bg nj] at hj;exact .inl ⟨j,o,p',hj,Bs,tF,wG⟩;rintro b' ⟨j,o,p',hj,tF,wG⟩;by_cases nj:j=i;subst nj;exact .inl ⟨j,_,p',hg,tF,wG⟩;rw [AW.bg nj] at hj;exact .inl ⟨j,o,p',hj,tF,wG⟩
theorem j8.set {m:Mp} {A:AW} {w w':World} (hs:j6 m A w) {i:Nat} {p:Pl} {cs tu:List Value} {unit:Nat} {Fi:Array Value} {e:TypeId}
 (hg:A.bp i=some (.cells cs true unit)) (hm:m i=some p) (hu:unit=p.unit)
 (vS:w'.heap.size=w.heap.size) (O9:w'.os=w.os) (ht:w'.tape=w.tape) (ho:w'.output=w.output)
 (hb:w'.heap[p.block]? = some (.cells Fi e (0,0))) (zf:Fi.size=p.zX) (uV:∀j,j≠p.block->w'.heap[j]? = w.heap[j]?)
 (wF:∀(k:Nat) (v:Value),tu[k]? = some v->∃v',Fi[p.base+k]? = some v'/\bI m v v') :
 j8 m A w m (A.set i (some (.cells tu true unit))) w':=
 j8.wg hs hg rfl rfl hm vS O9 ht ho ⟨Fi,e,(0,0),hb,λ_=>rfl,hu,zf,wF⟩ uV
theorem Mu {P:Program} {m:Mp} {A:AW} {w:World} (hs:j6 m A w) {i k unit:Nat} {p:Pl} {cs:List Value} (hg:A.bp i=some (.cells cs true unit))
 (hm:m i=some p) (hk:k<cs.length) {v v':Value} (hv:bI m v v') (h1:v.oneCell'=true) :
 ∃w',(store ⟨p.block,p.base+k,none⟩ v').run P w=.ok () w'/\j8 m A w m (A.set i (some (.cells (cs.set k v) true unit))) w':=by
 obtain⟨p1,h2,iT,e,fr,h3,h4,hu,zf,h5⟩:=hs.Gu i _ hg;rw [hm] at h2;simp only [qs] at h2;subst h2;have up:=h4 rfl;subst up;obtain⟨u,h6,_⟩:=h5 k cs[k] (qk hk);have cD:p.base+k<iT.size:=(qr.1 h6).1;have hcell:w.cell? ⟨p.block,p.base+k,none⟩=some u:=by simp [World.cell?,h3,h6]
 have hfz:w.frozen? ⟨p.block,p.base+k,none⟩=false:=by simp [World.frozen?,h3]
 refine⟨w.setCell ⟨p.block,p.base+k,none⟩ v',?_,?_⟩;rw [run_store P w _ _ _ (by rw [hv.Am];exact h1),hcell];simp [hfz];refine j8.set hs (Fi:=iT.setIfInBounds (p.base+k) v') (e:=e) hg hm hu (by simp) rfl rfl rfl ?_ (by simpa using zf) ?_ ?_;simp only [World.setCell,kan,h3];simp;intro j hj;simp only [World.setCell,kan];rw [aw (by omega)];intro j x hx;by_cases hjk:k=j;subst hjk;rw [Zd hk] at hx;simp only [qs] at hx;subst hx;exact⟨v',by simp [cD],hv⟩;rw [Zo hjk] at hx;obtain⟨x',h7,h8⟩:=h5 j x hx;exact⟨x',by rw [kaU (by omega)];exact h7,h8⟩
theorem rz {P:Program} {m:Mp} {i o unit:Nat} {p:Pl} (hm:m i=some p):∀(vs Cl:List Value) (k:Nat) (cs:List Value) (A:AW) (w:World),
 j6 m A w->A.bp i=some (.cells cs true unit)->iV m vs Cl->(∀v∈vs,v.oneCell'=true)->o+k+vs.length<=cs.length->
 ∃w',(storeCells ⟨p.block,p.base+o,none⟩ Cl k).run P w=.ok () w'/\j8 m A w m (A.set i (some (.cells (fA cs (o+k) vs) true unit))) w'
 | [],Cl,k,cs,A,w,hs,hg,hl,_,_=>by
   have e:=hl.pT;subst e;refine⟨w,rfl,?_⟩;rw [fA,AW.RZ hg];exact j8.refl hs
 | v::vs,Cl,k,cs,A,w,hs,hg,hl,h1,bX=>by
   obtain⟨v',t',rfl,hv,ht⟩:=hl.mf;simp only [qI] at bX;obtain⟨w1,O5,ev1⟩:=Mu (P:=P) hs hg hm (k:=o+k) (by omega) hv (h1 v (by simp))
   obtain⟨w2,hr2,NU⟩:=rz (P:=P) (o:=o) hm vs t' (k+1) (cs.set (o+k) v) _ w1 ev1.FR AW.cY ht (λx hx=>h1 x (by simp [hx]))
    (by simp;omega)
   refine⟨w2,?_,?_⟩;have ea:(⟨p.block,p.base+o,none⟩:Addr).add k=⟨p.block,p.base+(o+k),none⟩:=(by rw [nD _ _ rfl];simp [qJ]);simp only [storeCells,qx,ea,O5,qw,hr2];have:=ev1.trans NU;rw [AW.set_set] at this;rw [fA,show o+k+1=o+(k+1) by omega];exact this
theorem AM (w:World) (o:Obj) (i:Nat) (h:i<w.heap.size):(w.alloc o).heap[i]? = w.heap[i]?:=by
 show (w.heap.push o)[i]? = _;rw [Array.getElem?_push,aw (by omega)]
theorem AN (w:World) (o:Obj):(w.alloc o).heap[w.heap.size]? = some o:=by
 show (w.heap.push o)[w.heap.size]? = _;simp
def Mp.ext (m:Mp) (i:Nat) (x:Pl):Mp:=λj=>if j=i then some x else m j
theorem j6.ED {m:Mp} {A:AW} {w:World} (hs:j6 m A w) (x:Pl):Mp.le m (m.ext A.next x):=by
 intro i y h;unfold Mp.ext;split;rename_i e;rw [e,hs.sS A.next (qf _)] at h;cases h;exact h
theorem j6.i9 {m:Mp} {A:AW} {w:World} (hs:j6 m A w) {j:Nat} {o:dQ} {p:Pl} (h:A.bp j=some o) (hm:m j=some p):p.block<w.heap.size:=by
 obtain⟨p1,h1,h2⟩:=hs.Gu j o h;rw [hm] at h1;simp only [qs] at h1;subst h1;exact h2.lt
theorem j8.TD {m:Mp} {A:AW} {w w':World} (hs:j6 m A w) (o1:dQ) (p:Pl)
 (O9:w'.os=w.os) (ht:w'.tape=w.tape) (ho:w'.output=w.output) (vS:w.heap.size<=w'.heap.size)
 (SY:∀b,b<w.heap.size->w'.heap[b]? = w.heap[b]?) (hp:w.heap.size<=p.block) (hb:nF m w' p o1) :
 j8 m A w (m.ext A.next p) (A.alloc o1) w':=by
 have fO:=hs.ED p;have dT:∀{j o},A.bp j=some o->j≠A.next:=λ{j o} h e=>by
  subst e;rw [hs.zL _ (qf _)] at h;cases h
 have sh:∀{j},j≠A.next->(m.ext A.next p) j=m j:=λ{j} h=>by simp [Mp.ext,h]
 have tp:∀{j},j≠A.next->(A.alloc o1).bp j=A.bp j:=λ{j} h=>by simp [AW.alloc,h]
 have y9:(m.ext A.next p) A.next=some p:=by simp [Mp.ext]
 have QG:(A.alloc o1).bp A.next=some o1:=by simp [AW.alloc]
 refine⟨fO,⟨?_,?_,?_,?_,?_,?_,hs.wI.mono fO⟩,by simp [AW.alloc],O9,ht,ho,vS,λb hb _=>SY b hb,?_,λi hi=>sh (by omega),?_⟩
 rotate_left 4
 intro b x wG;have h1:=hs.laid b x wG;rw [SY b (qr.1 h1).1];exact h1;intro j o p' hj Bs tF;by_cases hn:j=A.next
 . subst hn;rw [y9] at tF;simp only [qs] at tF;subst tF;cases hB:Gl.B p.block with
   | none=>rfl
   | some x=>have h1:=(qr.1 (hs.laid _ x hB)).1;omega
 rw [tp hn] at hj;rw [sh hn] at tF;exact hs.AA j o p' hj Bs tF
 rotate_left 2
 intro j o hj;by_cases hn:j=A.next;subst hn;rw [QG] at hj;simp only [qs] at hj;subst hj;exact⟨p,y9,hb.mono fO⟩;rw [tp hn] at hj;obtain⟨p',h1,h2⟩:=hs.Gu j o hj;have cD:=hs.i9 hj h1;exact⟨p',by rw [sh hn];exact h1,(h2.heap (SY _ cD)).mono fO⟩;intro i j o o' p1 p2 hi Bs hj gT BT tF;by_cases xQ:i=A.next;subst xQ;rw [y9] at BT;simp only [qs] at BT;subst BT;rw [tp (qh gT)] at hj;rw [sh (qh gT)] at tF;have:=hs.i9 hj tF;omega;rw [tp xQ] at hi;rw [sh xQ] at BT;by_cases hjn:j=A.next;subst hjn;rw [y9] at tF;simp only [qs] at tF;subst tF;have:=hs.i9 hi BT;omega;rw [tp hjn] at hj;rw [sh hjn] at tF;exact hs.inj i j o o' p1 p2 hi Bs hj gT BT tF;intro i hi;have:i≠A.next:=by simp [AW.alloc] at hi;omega
 rw [sh this];exact hs.sS i (by simp [AW.alloc] at hi;omega);intro i hi;have:i≠A.next:=by simp [AW.alloc] at hi;omega
 rw [tp this];exact hs.zL i (by simp [AW.alloc] at hi;omega);rintro b ⟨i,o,p',hi,Bs,hm,hb⟩;by_cases hn:i=A.next;subst hn;rw [y9] at hm;simp only [qs] at hm;subst hm;exact .inr (by omega);rw [tp hn] at hi;rw [sh hn] at hm;exact .inl ⟨i,o,p',hi,Bs,hm,hb⟩;rintro b ⟨i,o,p',hi,hm,hb⟩;by_cases hn:i=A.next;subst hn;rw [y9] at hm;simp only [qs] at hm;subst hm;exact .inr (.inl (by omega));rw [tp hn] at hi;rw [sh hn] at hm;exact .inl ⟨i,o,p',hi,hm,hb⟩
theorem j8.sS {m:Mp} {A:AW} {w w':World} (hs:j6 m A w) (cs:List Value) (own:Bool) (p:Pl) {iT:Array Value} {e:TypeId} (unit:Nat)
 (O9:w'.os=w.os) (ht:w'.tape=w.tape) (ho:w'.output=w.output) (vS:w.heap.size<=w'.heap.size)
 (SY:∀b,b<w.heap.size->w'.heap[b]? = w.heap[b]?) (hp:w.heap.size<=p.block) (hu:unit=p.unit)
 (hb:w'.heap[p.block]? = some (.cells iT e (0,0))) (zf:iT.size=p.zX)
 (wF:∀(k:Nat) (v:Value),cs[k]? = some v->∃v',iT[p.base+k]? = some v'/\bI m v v') :
 j8 m A w (m.ext A.next p) (A.alloc (.cells cs own unit)) w':=
 j8.TD hs _ p O9 ht ho vS SY hp ⟨iT,e,(0,0),hb,λ_=>rfl,hu,zf,wF⟩
theorem j8.alloc {m:Mp} {A:AW} {w:World} (hs:j6 m A w) (cs:List Value) (iT:Array Value) (e:TypeId) (unit:Nat)
 (wF:∀(k:Nat) (v:Value),cs[k]? = some v->∃v',iT[k]? = some v'/\bI m v v') :
 j8 m A w (m.ext A.next ⟨w.heap.size,0,unit,iT.size⟩) (A.alloc (.cells cs true unit)) (w.alloc (.cells iT e)):=
 j8.sS hs cs true ⟨w.heap.size,0,unit,iT.size⟩ unit rfl rfl rfl (by simp) (λb hb=>AM w _ b hb) (qf _) rfl
  (AN w _) rfl (by simpa using wF)
theorem rh.mc (m:Mp) (i:Nat) (p:Pl) (o:Nat):rh (m.ext i p) ⟨i,o,none⟩ ⟨p.block,p.base+o,none⟩:=⟨rfl,rfl,p,by simp [Mp.ext],rfl,rfl⟩
end Go.Stx
namespace Go.Stx
open Go
variable [Gl]
theorem j8.Nh {m:Mp} {A:AW} {w:World} (hs:j6 m A w) (i:Nat):j8 m A w m (A.set i none) w:=by
 have key:∀{j o},(A.set i none).bp j=some o->A.bp j=some o:=λ{j o} h=>by
  by_cases hj:j=i;subst hj;rw [AW.cY] at h;cases h;rwa [AW.bg hj] at h
 refine⟨Mp.le_refl m,⟨λj o h=>hs.Gu j o (key h),λa b o o' p p' h1 h2 h3 h4 h5 h6=>hs.inj a b o o' p p' (key h1) h2 (key h3) h4 h5 h6,hs.sS,?_,hs.laid,λa o p h1 h2 h3=>hs.AA a o p (key h1) h2 h3,hs.wI⟩,
  qf _,rfl,rfl,rfl,qf _,λ_ _ _=>rfl,?_,λ_ _=>rfl,?_⟩
 intro j hj;by_cases nj:j=i;subst nj;exact AW.cY;rw [AW.bg nj];exact hs.zL j hj;rintro b ⟨j,o,p,h1,h2,h3,h4⟩;exact .inl ⟨j,o,p,key h1,h2,h3,h4⟩;rintro b ⟨j,o,p,h1,h2,h3⟩;exact .inl ⟨j,o,p,key h1,h2,h3⟩
theorem j8.adopt {m:Mp} {A:AW} {w w':World} (hs:j6 m A w) {i:Nat} {p p':Pl} {cs tu:List Value} {unit:Nat} {Fi:Array Value} {e:TypeId}
 (hg:A.bp i=some (.cells cs true unit)) (hm:m i=some p) (GI:p'.block=p.block) (hu:unit=p'.unit)
 (vS:w'.heap.size=w.heap.size) (O9:w'.os=w.os) (ht:w'.tape=w.tape) (ho:w'.output=w.output)
 (hb:w'.heap[p.block]? = some (.cells Fi e (0,0))) (zf:Fi.size=p'.zX) (uV:∀j,j≠p.block->w'.heap[j]? = w.heap[j]?)
 (wF:∀(k:Nat) (v:Value),tu[k]? = some v->∃v',Fi[p'.base+k]? = some v'/\bI m v v') :
 j8 m A w (m.ext A.next p') ((A.set i none).alloc (.cells tu true unit)) w':=by
 have fO:=hs.ED p';have dT:∀{j o},A.bp j=some o->j≠A.next:=λ{j o} h e=>by
  subst e;rw [hs.zL _ (qf _)] at h;cases h
 have sh:∀{j},j≠A.next->(m.ext A.next p') j=m j:=λ{j} h=>by simp [Mp.ext,h]
 have y9:(m.ext A.next p') A.next=some p':=by simp [Mp.ext]
 have QG:((A.set i none).alloc (.cells tu true unit)).bp A.next=some (.cells tu true unit):=by simp [AW.alloc,AW.set]
 have tp:∀{j o},j≠A.next->((A.set i none).alloc (.cells tu true unit)).bp j=some o->A.bp j=some o/\j≠i:=λ{j o} h1 h2=>by
  have e:((A.set i none).alloc (.cells tu true unit)).bp j=(A.set i none).bp j:=by
   exact aw h1
  rw [e] at h2;by_cases nj:j=i;subst nj;rw [AW.cY] at h2;cases h2;rw [AW.bg nj] at h2;exact⟨h2,nj⟩
 refine⟨fO,⟨?_,?_,?_,?_,?_,?_,hs.wI.mono fO⟩,by simp [AW.alloc,AW.set],O9,ht,ho,by omega,?_,?_,λj hj=>sh (by omega),?_⟩
 rotate_left 4
 intro b x wG;rw [uV b (λe=>by have:=hs.AA i _ p hg rfl hm;rw [<-e,wG] at this;cases this)];exact hs.laid b x wG;intro j o q hj Bs tF;by_cases hn:j=A.next;subst hn;rw [y9] at tF;simp only [qs] at tF;subst tF;rw [GI];exact hs.AA i _ p hg rfl hm;rw [sh hn] at tF;exact hs.AA j o q (tp hn hj).1 Bs tF
 rotate_left 3
 intro j o hj;by_cases hn:j=A.next;subst hn;rw [QG] at hj;simp only [qs] at hj;subst hj;refine⟨p',y9,Fi,e,(0,0),by rw [GI];exact hb,λ_=>rfl,hu,zf,λk v hv=>?_⟩;obtain⟨v',h1,h2⟩:=wF k v hv;exact⟨v',h1,h2.mono fO⟩;obtain⟨yn,nj⟩:=tp hn hj;obtain⟨q,h1,h2⟩:=hs.Gu j o yn;have gT:q.block≠p.block:=λe'=>hs.inj i j _ o p q hg rfl yn (qh nj) hm h1 e'.symm;exact⟨q,by rw [sh hn];exact h1,(h2.heap (uV _ gT)).mono fO⟩;intro a b o o' p1 p2 ha Bs wG gT hma YR;by_cases VU:a=A.next;subst VU;rw [y9] at hma;simp only [qs] at hma;subst hma;obtain⟨JP,xS⟩:=tp (qh gT) wG;rw [sh (qh gT)] at YR;rw [GI];exact hs.inj i b _ o' p p2 hg rfl JP (qh xS) hm YR;obtain⟨ha1,hai⟩:=tp VU ha;rw [sh VU] at hma;by_cases Tq:b=A.next;subst Tq;rw [y9] at YR;simp only [qs] at YR;subst YR;rw [GI];exact hs.inj a i o _ p1 p ha1 Bs hg hai hma hm;obtain⟨JP,_⟩:=tp Tq wG
 rw [sh Tq] at YR;exact hs.inj a b o o' p1 p2 ha1 Bs JP gT hma YR;intro j hj;have:j≠A.next:=by simp [AW.alloc,AW.set] at hj;omega
 rw [sh this];exact hs.sS j (by simp [AW.alloc,AW.set] at hj;omega)
 . intro j hj;have h0:A.next+1<=j:=by simpa [AW.alloc,AW.set] using hj
   have h1:j≠A.next:=(by omega);cases hx:((A.set i none).alloc (.cells tu true unit)).bp j with
   | none=>rfl
   | some o=>
     have:=(tp h1 hx).1;rw [hs.zL j (by omega)] at this;cases this
 intro b' _ VI;refine uV b' (λe'=>VI ?_);subst e';exact⟨i,_,p,hg,rfl,hm,rfl⟩;rintro b ⟨j,o,q,hj,Bs,tF,hbj⟩;by_cases hn:j=A.next;subst hn;rw [y9] at tF;simp only [qs] at tF;subst tF;exact .inl ⟨i,_,p,hg,rfl,hm,by rw [<-GI];exact hbj⟩;obtain⟨yn,_⟩:=tp hn hj;rw [sh hn] at tF;exact .inl ⟨j,o,q,yn,Bs,tF,hbj⟩;rintro b ⟨j,o,q,hj,tF,hbj⟩;by_cases hn:j=A.next;subst hn;rw [y9] at tF;simp only [qs] at tF;subst tF;exact .inl ⟨i,_,p,hg,hm,by rw [<-GI];exact hbj⟩;obtain⟨yn,_⟩:=tp hn hj;rw [sh hn] at tF;exact .inl ⟨j,o,q,yn,tF,hbj⟩
theorem ya (cs:List Value) (o n:Nat) (j:Nat) (v:Value) (h:((cs.drop o).take n)[j]? = some v):cs[o+j]? = some v/\j<n:=by
 rw [List.getElem?_take] at h;split at h;rename_i hj;rw [Zv] at h;exact⟨h,hj⟩;cases h
theorem Ab {m:Mp} {A:AW} {w:World} (hs:j6 m A w) {a a':Addr} (ha:rh m a a') {cs:List Value} (hr:A.b8 a.block=some cs) (n:Nat) (hn:a.off+n<=cs.length) :
 ∃l',l'.length=n/\iV m ((cs.drop a.off).take n) l'/\∀(j:Nat) (v:Value),l'[j]? = some v->w.cell? (a'.add j)=some v:=by
 have h:∀j,j<n->∃v',w.cell? (a'.add j)=some v'/\bI m (cs.getD (a.off+j) undef) v':=λj hj=>
  Ba hs ha hr (by rw [ql,qk (by omega)];rfl)
 refine⟨(qA n).map λj=>(w.cell? (a'.add j)).getD undef,by simp,⟨by simp;omega,?_⟩,?_⟩;intro i v v' h1 h2;obtain⟨h3,hi⟩:=ya _ _ _ _ _ h1;obtain⟨v1,h4,h5⟩:=h i hi;rw [ql,h3] at h5;simp [hi,h4] at h2;subst h2;exact h5;intro j v hv;have hj:j<n:=by
  have:=(qK.1 hv).1
  simpa using this
 obtain⟨v1,h4,_⟩:=h j hj;simp [hj,h4] at hv;subst hv;exact h4
def gD (A:AW) (size:Nat) (x:Value):Option (Nat×List Value):=
 match x with
 | .slice none 0 0=>some (0,[])
 | .slice (some b) n _=>
   if n=0 then some (0,[]) else
   match A.b8 b.block with
   | some cs=>if b.off+n*size<=cs.length then some (n,(cs.drop b.off).take (n*size)) else none
   | none=>none
 | _=>none
def gO (A:AW) (size:Nat) (s:Value):Option (Option Addr×Nat×List Value):=
 match s with
 | .slice none 0 0=>some (none,0,[])
 | .slice (some a) n c=>
   if a.spot.isSome/\c=0/\n=0 then some (none,0,[]) else
   match A.bp a.block with
   | some (.cells cs true unit)=>if unit=size/\a.off+n*size<=cs.length then some (some a,n,(cs.drop a.off).take (n*size)) else none
   | _=>none
 | _=>none
def fy (P:Program) (A:AW) (t u:TypeId) (s x:Value):Option (Value×AW):=
 match P.underlying t with
 | some (.slice e)=>
   match P.info? e with
   | some i=>
     match i.zero with
     | some z=>
       if z.cells.size=i.size/\0<i.size/\t=u then
        match gD A i.size x,gO A i.size s with
        | some (n,nM),some (base,k,uJ)=>
          if n=0 then some (s,A)
          else if k+n<=140737488355328/\(k+n)*i.bytes<=140737488355328/\nM.all qL then
           some (.slice (some ⟨A.next,0,none⟩) (k+n) (k+n),
            ((match base with|some a=>A.set a.block none|none=>A)).alloc (.cells (uJ++nM) true i.size))
          else none
        | _,_=>none
       else none
     | none=>none
   | none=>none
 | _=>none
theorem Da {P:Program} (w:World) (t ty e:TypeId) (i:TypeInfo) (ht:P.underlying t=some (.slice e)) (hi:P.info? e=some i)
 (base:Option Addr) (n c:Nat) (hc:n<=c) (xb:Option Addr) (xc:Nat) :
 (Zy #[t,t] ty #[.slice base n c,.slice xb 0 xc]).run P w=.ok (.slice base n c) w:=by
 cases base<;>cases xb<;>simp [Zy,run_underlying ht,sizeOf,typeInfo,hi,Builtin.lenOf,hc,Builtin.firstCells,loadCells,loadCellsFrom,storeCells]
theorem Jk {m:Mp} {A:AW} {w:World} (hs:j6 m A w) {size n:Nat} {x x':Value} {nM:List Value} (h:gD A size x=some (n,nM)) (hx:bI m x x') :
 (n=0/\∃xb xc,x'=.slice xb 0 xc) \/
 (∃a c l',x'=.slice (some a) n c/\l'.length=n*size/\iV m nM l'/\∀(j:Nat) (v:Value),l'[j]? = some v->w.cell? (a.add j)=some v):=by
 unfold gD at h;split at h;simp only [qs,qO] at h;obtain⟨rfl,rfl⟩:=h;cases hx;exact .inl ⟨rfl,_,_,rfl⟩;rename_i b k c;split at h;rename_i h0;simp only [qs,qO] at h;obtain⟨rfl,rfl⟩:=h;subst h0;cases hx;exact .inl ⟨rfl,_,_,rfl⟩;rename_i h0;split at h;rename_i cs hr;split at h
 . rename_i fO;simp only [qs,qO] at h;obtain⟨rfl,rfl⟩:=h;cases hx with
   | slice hh h1 h2=>
     rename_i a' i6;have ha:rh m b a':=by
      rcases hh with hh|hh;exact hh.Ue;exact absurd hh.1 h0
     obtain⟨l',e1,e2,e3⟩:=Ab hs ha hr (k*size) fO;exact .inr ⟨a',i6,l',rfl,e1,e2,e3⟩
 cases h;cases h;cases h
theorem iV.aK {m:Mp} {l l':List Value} (h:iV m l l') (h1:∀v∈l,v.oneCell'=true):∀v∈l',v.oneCell'=true:=by
 intro v hv;obtain⟨i,hi⟩:=List.getElem?_of_mem hv;have cD:=(qK.1 hi).1;rw [<-h.1] at cD;have e:=qk cD;rw [(h.2 i _ v e hi).Am];exact h1 _ (List.getElem_mem cD)
theorem yO {P:Program} (w:World) (t ty e:TypeId) (i:TypeInfo) (ht:P.underlying t=some (.slice e)) (hi:P.info? e=some i)
 (g o jo pf:Nat) (iT:Array Value) (e':TypeId) (hg:w.heap[g]? = some (.cells iT e' (0,0)))
 (a:Addr) (m c:Nat) (nM:List Value) (hl:nM.length=m*i.size) (jm:∀j u,nM[j]? = some u->w.cell? (a.add j)=some u) (h1:∀u∈nM,u.oneCell'=true)
 (EM:jo+m<=pf) (rN:o+jo*i.size+nM.length<=iT.size) :
 (Zy #[t,t] ty #[.slice (some ⟨g,o,none⟩) jo pf,.slice (some a) m c]).run P w =
  .ok (.slice (some ⟨g,o,none⟩) (jo+m) pf) (w.setRow g (iT.toList.take (o+jo*i.size)++nM++iT.toList.drop (o+jo*i.size+nM.length)).toArray):=by
 have hf:=run_firstCells_some (P:=P) w i.size m a m c nM hl jm;have dy:=run_storeCells_at P g (o+jo*i.size) e' nM 0 iT w hg (by simpa using rN) h1;simp only [Nat.add_zero] at dy;have ea:(⟨g,o,none⟩:Addr).add (jo*i.size)=⟨g,o+jo*i.size,none⟩:=nD _ _ rfl;simp [Zy,run_underlying ht,sizeOf,typeInfo,hi,Builtin.lenOf,EM,hf,ea,dy]
theorem CW {P:Program} {m:Mp} {A:AW} {w:World} (hs:j6 m A w) {ty e:TypeId} {i:TypeInfo} {z:Value} {ts:Array TypeId} {X:Value} {s s':Value} {n k:Nat} {nM l' uJ:List Value} {base:Option Addr}
 (oK:z.cells.size=i.size)
 (ES:¬n=0) (JP:k+n<=140737488355328) (kS:(k+n)*i.bytes<=140737488355328) (mP:∀v∈nM,v.oneCell'=true) (hl:l'.length=n*i.size) (NB:iV m nM l')
 (ho:gO A i.size s=some (base,k,uJ)) (Nr:bI m s s')
 (Hnil:∀k',k'=0->k=0->(Zy ts ty #[.slice none 0 0,X]).run P w=.ok (.slice (some ⟨w.heap.size,0,none⟩) n (grownCap w n 0 e)) (w.drew.alloc (.cells (l'.toArray++Zf z.cells (grownCap w n 0 e-n)) e)))
 (XH:∀(b:Addr) (jo pf:Nat) (uJ:List Value),jo=k->uJ.length=jo*i.size->(∀(j:Nat) (v:Value),uJ[j]? = some v->w.cell? (b.add j)=some v)->pf<jo+n->
  (Zy ts ty #[.slice (some b) jo pf,X]).run P w=.ok (.slice (some ⟨w.heap.size,0,none⟩) (jo+n) (grownCap w (jo+n) pf e))
   (w.drew.alloc (.cells (uJ.toArray++l'.toArray++Zf z.cells (grownCap w (jo+n) pf e-(jo+n))) e)))
 (Hroom:∀(g o jo pf:Nat) (iT:Array Value) (e':TypeId),w.heap[g]? = some (.cells iT e' (0,0))->jo+n<=pf->o+jo*i.size+l'.length<=iT.size->
  (Zy ts ty #[.slice (some ⟨g,o,none⟩) jo pf,X]).run P w=.ok (.slice (some ⟨g,o,none⟩) (jo+n) pf)
   (w.setRow g (iT.toList.take (o+jo*i.size)++l'++iT.toList.drop (o+jo*i.size+l'.length)).toArray)) :
 ∃v' w' m',(Zy ts ty #[s',X]).run P w=.ok v' w'/\
  j8 m A w m' ((match base with|some a=>A.set a.block none|none=>A).alloc (.cells (uJ++nM) true i.size)) w'/\bI m' (.slice (some ⟨A.next,0,none⟩) (k+n) (k+n)) v':=by
 have Xc:=NB.aK mP
 have Lu:∀(dT:Nat) (A0:AW) (Nv:j6 m A0 w) (ES:A0.next=A.next) (lo:List Value) (xC:iV m uJ lo) (bX:lo.length=k*i.size),
  j8 m A0 w (m.ext A.next ⟨w.heap.size,0,i.size,(lo.toArray++l'.toArray++Zf z.cells (grownCap w (k+n) dT e-(k+n))).size⟩)
   (A0.alloc (.cells (uJ++nM) true i.size)) (w.drew.alloc (.cells (lo.toArray++l'.toArray++Zf z.cells (grownCap w (k+n) dT e-(k+n))) e))/\
   bI (m.ext A.next ⟨w.heap.size,0,i.size,(lo.toArray++l'.toArray++Zf z.cells (grownCap w (k+n) dT e-(k+n))).size⟩)
    (.slice (some ⟨A.next,0,none⟩) (k+n) (k+n)) (.slice (some ⟨w.heap.size,0,none⟩) (k+n) (grownCap w (k+n) dT e)):=by
  intro dT A0 Nv hnx lo xC bX;have Y3:=grownCap_ge w (k+n) dT e;constructor;have O4:j6 m A0 w.drew:=Nv.IC rfl;have ev:=j8.alloc O4 (uJ++nM) (lo.toArray++l'.toArray++Zf z.cells (grownCap w (k+n) dT e-(k+n))) e i.size (λj v hv=>by
   obtain⟨v',h1,h2⟩:=(xC.append NB).bp hv;refine⟨v',?_,h2⟩;have cD:=(qK.1 h1).1;rw [kbi (by simpa using cD)]
   simpa using h1)
  rw [hnx] at ev;exact(j8.drew Nv).trans ev;refine .slice (.inl ⟨rfl,rfl,⟨w.heap.size,0,i.size,(lo.toArray++l'.toArray++Zf z.cells (grownCap w (k+n) dT e-(k+n))).size⟩,aA rfl,rfl,rfl,?_⟩) (qf _) Y3;simp only [Array.size_append,List.size_toArray,size_zeroCells,bX,hl,oK,<-ZS];rw [show k+n+(grownCap w (k+n) dT e-(k+n))=grownCap w (k+n) dT e by omega];omega
 unfold gO at ho;split at ho
 .
  simp only [qs,qO] at ho;obtain⟨rfl,rfl,rfl⟩:=ho;cases Nr;have hr:=Hnil 0 rfl rfl;obtain⟨g1,g2⟩:=Lu 0 A hs rfl [] iV.nil (by simp);simp only [Zj,af,Array.empty_append] at g1 g2 ⊢;exact⟨_,_,_,hr,g1,g2⟩
 . rename_i sa k0 c0;split at ho
   .
    rename_i La;obtain⟨hx1,hx2,hx3⟩:=La;subst hx2;subst hx3;simp only [qs,qO] at ho;obtain⟨rfl,rfl,rfl⟩:=ho;cases Nr with
    | slice hh h1 h2=>
      rename_i a' i6;have IY:i6=0:=by
       rcases hh with hh|hh;have h9:=hh.1;rw [h9] at hx1;cases hx1;exact hh.2.1
      subst IY;have hr:=XH a' 0 0 [] rfl (by simp) (λj u h=>by simp at h) (by omega);obtain⟨g1,g2⟩:=Lu 0 A hs rfl [] iV.nil (by simp);simp only [Zj,af,Array.empty_append] at g1 g2 hr ⊢;exact⟨_,_,_,hr,g1,g2⟩
   split at ho<;>try(cases ho;done)
   rename_i cs unit hg;split at ho<;>try(cases ho;done)
   rename_i AP;obtain⟨rfl,rN⟩:=AP;simp only [qs,qO] at ho;obtain⟨rfl,rfl,rfl⟩:=ho;cases Nr with
   | slice hh h1 h2=>
     rename_i a' i6;have bV:A.b8 sa.block=some cs:=(by unfold AW.b8;rw [hg]);have holds:∃lo,lo.length=k0*i.size/\iV m ((cs.drop sa.off).take (k0*i.size)) lo/\∀(j:Nat) (v:Value),lo[j]? = some v->w.cell? (a'.add j)=some v:=by
      rcases hh with hh|⟨rfl,_⟩;exact Ab hs hh.Ue bV (k0*i.size) rN;exact⟨[],by simp,by simp [iV.nil],by simp⟩
     obtain⟨lo,YV,hlo2,hlo3⟩:=holds;by_cases EM:k0+n<=i6
     .
      have hh':Ci m sa a' i6:=by
       rcases hh with hh|⟨_,hc0⟩;exact hh;omega
      obtain⟨zN,Ld,p,hm,GI,hpo,hpt⟩:=hh';obtain⟨p',Nz,iT,e',fr,hw,up,hpu,zf,zh⟩:=hs.Gu _ _ hg;rw [hm] at Nz;simp only [qs] at Nz;subst Nz;obtain rfl:=up rfl;obtain⟨sb,so,ss⟩:=a';simp only at GI hpo hpt Ld;subst Ld;have hfit2:so+k0*i.size+l'.length<=iT.size:=by
       rw [zf,hl,qJ,<-ZS];have:=Nat.mul_le_mul_right i.size EM;rw [<-hpu] at hpt;omega
      have kI:w.heap[sb]? = some (.cells iT e' (0,0)):=(by rw [GI];exact hw);have hr:=Hroom sb so k0 i6 iT e' kI EM hfit2;have hcz:(iT.toList.take (so+k0*i.size)++l'++iT.toList.drop (so+k0*i.size+l'.length)).length=iT.size:=by
       simp only [List.length_append,Zx,ZG,Array.length_toList];omega
      refine⟨_,_,m.ext A.next ⟨p.block,so,i.size,p.zX⟩,hr,?_,?_⟩
      refine j8.adopt hs (p':=⟨p.block,so,i.size,p.zX⟩) (e:=e') hg hm rfl rfl (by simp) rfl rfl rfl
       (Fi:=(iT.toList.take (so+k0*i.size)++l'++iT.toList.drop (so+k0*i.size+l'.length)).toArray) ?_ ?_ ?_ ?_
      rw [<-GI];exact setRow_heap w sb iT _ e' _ kI
      simpa [zf] using hcz
      intro j hj;exact setRow_other w sb j _ (by rw [GI];exact hj);intro j v hv;rw [kaW] at hv;simp only [Zx,ZG] at hv;have e1:min (k0*i.size) (cs.length-sa.off)=k0*i.size:=(by omega);rw [e1] at hv;by_cases hj:j<k0*i.size;rw [aA hj] at hv;obtain⟨h3,_⟩:=ya _ _ _ _ _ hv;obtain⟨v',h4,h5⟩:=zh _ _ h3;refine⟨v',?_,h5⟩;have cD:=(qr.1 h4).1;simp only [Zn,List.append_assoc];rw [ZI (by simp;omega),Zu (by omega),kaD,hpo,qJ];exact h4;rw [aw hj] at hv;obtain⟨v',h4,h5⟩:=NB.bp hv;refine⟨v',?_,h5⟩;have cD:=(qK.1 h4).1;simp only [Zn,List.append_assoc];have e2:(iT.toList.take (so+k0*i.size)).length=so+k0*i.size:=(by simp;omega);rw [kam (by omega),e2,ZI (by omega)]
      rw [show so+j-(so+k0*i.size)=j-k0*i.size by omega];exact h4;refine .slice (.inl ⟨rfl,rfl,⟨p.block,so,i.size,p.zX⟩,by simp [Mp.ext],GI,rfl,?_⟩) (qf _) EM
      simpa [hpu] using hpt
     .
      have hr:=XH a' k0 i6 lo rfl YV hlo3 (by omega);have ek:=j8.Nh hs sa.block;obtain⟨g1,g2⟩:=Lu i6 (A.set sa.block none) ek.FR rfl lo hlo2 YV;exact⟨_,_,_,hr,ek.trans g1,g2⟩
 cases ho
theorem Ji {P:Program} {m:Mp} {A A1:AW} {w:World} (hs:j6 m A w) {t u ty:TypeId} {s x s' x' v:Value} (h:fy P A t u s x=some (v,A1))
 (Nr:bI m s s') (hvx:bI m x x') :
 ∃v' w' m',(Zy #[t,u] ty #[s',x']).run P w=.ok v' w'/\j8 m A w m' A1 w'/\bI m' v v':=by
 unfold fy at h;split at h<;>try(cases h;done)
 rename_i e hu;split at h<;>try(cases h;done)
 rename_i i hi;split at h<;>try(cases h;done)
 rename_i z hz;split at h<;>try(cases h;done)
 rename_i AO;obtain⟨oK,vS,rfl⟩:=AO;split at h<;>try(cases h;done)
 rename_i n nM base k uJ hn ho;have jm:=Jk hs hn hvx;by_cases ES:n=0
 .
  subst ES;rw [aA rfl] at h;simp only [qs,qO] at h;obtain⟨rfl,rfl⟩:=h;have La:∃xb xc,x'=.slice xb 0 xc:=by
   rcases jm with ⟨_,h1⟩|⟨a,c,l',h1,_⟩;exact h1;exact⟨_,_,h1⟩
  obtain⟨xb,xc,rfl⟩:=La;have Nv:∃b' n' c',s'=.slice b' n' c'/\n'<=c':=by
   unfold gO at ho;split at ho;cases Nr;exact⟨_,_,_,rfl,qf _⟩
   . cases Nr with
     | slice _ h1 h2=>exact⟨_,_,_,rfl,qM h1 h2⟩
   cases ho
  obtain⟨b',n',c',rfl,fO⟩:=Nv;exact⟨_,w,m,Da w t ty e i hu hi b' n' c' fO xb xc,j8.refl hs,Nr⟩
 rw [aw ES] at h;split at h
 case isFalse=>cases h
 rename_i hb;obtain⟨JP,kS,vW⟩:=hb;simp only [qs,qO] at h;obtain⟨rfl,rfl⟩:=h;rcases jm with ⟨h0,_⟩|⟨a,c,l',rfl,hl,NB,Qx⟩;exact absurd h0 ES;have mP:∀v∈nM,v.oneCell'=true:=by simpa using vW
 have Xc:=NB.aK mP
 refine CW hs (e:=e) (i:=i) (z:=z) oK ES JP kS mP hl NB ho Nr
  (λ_ _ hk=>run_append_nil (P:=P) w t ty e i z hu hi hz a n c l' hl Qx (by omega) (by omega) (by subst hk;simp only [Zj] at kS;omega))
  (λb jo pf lo hk h1 h2 h3=>run_append_grow (P:=P) w t ty e i z hu hi hz b jo pf lo h1 h2 a n c l' hl Qx h3 (by omega) (growslice_fits h3 (by subst hk;exact kS)))
  (λg o jo pf iT e' h1 h2 h3=>yO (P:=P) w t ty e i hu hi g o jo pf iT e' h1 a n c l' hl Qx Xc h2 h3)
end Go.Stx
namespace Go.Stx
open Go
variable [Gl]
def Dl (op:BinOp) (k:IntKind) (x y:Int):Option Value:=
 match op with
 | .add=>some (.int k (k.wrap (x+y)))
 | .sub=>some (.int k (k.wrap (x-y)))
 | .mul=>some (.int k (k.wrap (x*y)))
 | .quo=>if y=0 then none else some (.int k (k.wrap (x.tdiv y)))
 | .rem=>if y=0 then none else some (.int k (x.tmod y))
 | .eql=>some (.bool (decide (x=y)))
 | .neq=>some (.bool (!decide (x=y)))
 | .lss=>some (.bool (decide (x<y)))
 | .leq=>some (.bool (decide (x<=y)))
 | .gtr=>some (.bool (decide (y<x)))
 | .geq=>some (.bool (decide (y<=x)))
 | .and=>some (.int k (k.wrap (ZR k.bits x &&& ZR k.bits y).toNat))
 | .or=>some (.int k (k.wrap (ZR k.bits x ||| ZR k.bits y).toNat))
 | .xor=>some (.int k (k.wrap (ZR k.bits x ^^^ ZR k.bits y).toNat))
 | .andNot=>some (.int k (k.wrap (ZR k.bits x &&& ~~~ZR k.bits y).toNat))
 | _=>none
def pu (op:BinOp) (k:IntKind) (x y:Int):Option Value:=
 if y<0 then none else
 match op with
 | .shl=>some (.int k (k.wrap (x*2 ^ (min y.toNat k.bits))))
 | .shr=>some (.int k (x.fdiv (2 ^ (min y.toNat k.bits))))
 | _=>none
def IN:BinOp->Bool
 | .shl | .shr=>true
 | _=>false
def Wz (P:Program) (op:BinOp) (t:TypeId) (x y:Value):Option Value:=
 match x,y with
 | .int k a,.int k' b=>if IN op then pu op k a b else if k=k' then Dl op k a b else none
 | .string a,.string b=>
   match op with
   | .eql=>some (.bool (a.toList == b.toList))
   | .neq=>some (.bool (!(a.toList == b.toList)))
   | .add=>if a.size+b.size<=9223372036854775807 then some (.string (a++b)) else none
   | _=>none
 | .bool a,.bool b=>
   match op,P.underlying t with
   | .eql,some .bool=>some (.bool (a == b))
   | .neq,some .bool=>some (.bool (!(a == b)))
   | _,_=>none
 | .pointer a,.pointer b=>
   if a.isSome && b.isSome then none else
   match op,P.underlying t with
   | .eql,some (.pointer _)=>some (.bool (a.isNone && b.isNone))
   | .neq,some (.pointer _)=>some (.bool (!(a.isNone && b.isNone)))
   | _,_=>none
 | _,_=>none
theorem R2 {P:Program} {op:BinOp} {k:IntKind} {a b:Int} {t:TypeId} {v:Value} (h0:IN op=false) (h:Dl op k a b=some v) (w:World) :
 (binOp op t (.int k a) (.int k b)).run P w=.ok v w:=by
 cases op
 case add=>injection h with h;subst h;simp [binOp,kbf]
 case sub=>injection h with h;subst h;simp [binOp,kbf]
 case mul=>injection h with h;subst h;simp [binOp,kbf]
 case quo=>
  by_cases hb:b=0;simp [Dl,hb] at h;simp [Dl,hb] at h;subst h;simp [binOp,Op.intDiv,hb]
 case rem=>
  by_cases hb:b=0;simp [Dl,hb] at h;simp [Dl,hb] at h;subst h;simp [binOp,Op.intDiv,hb]
 case and=>injection h with h;subst h;simp [binOp,kaQ]
 case or=>injection h with h;subst h;simp [binOp,kaQ]
 case xor=>injection h with h;subst h;simp [binOp,kaQ]
 case andNot=>injection h with h;subst h;simp [binOp,kaQ]
 case shl=>cases h0
 case shr=>cases h0
 case eql=>injection h with h;subst h;simp [binOp,kaz];rfl
 case neq=>injection h with h;subst h;simp [binOp,kaz];rfl
 case lss=>injection h with h;subst h;simp [binOp,kaz]
 case leq=>injection h with h;subst h;simp [binOp,kaz]
 case gtr=>injection h with h;subst h;simp [binOp,kaz]
 case geq=>injection h with h;subst h;simp [binOp,kaz]
theorem MH {P:Program} {op:BinOp} {k k':IntKind} {a b:Int} {t:TypeId} {v:Value} (h:pu op k a b=some v) (w:World) :
 (binOp op t (.int k a) (.int k' b)).run P w=.ok v w:=by
 by_cases hb:b<0;simp [pu,hb] at h;cases op
 case shl=>simp [pu,hb] at h;subst h;simp [binOp,Op.shift,hb]
 case shr=>simp [pu,hb] at h;subst h;simp [binOp,Op.shift,hb]
 all_goals simp [pu] at h
theorem L1 {op:BinOp} {k:IntKind} {a b:Int} {v:Value} (h:Dl op k a b=some v) (m:Mp):bI m v v:=by
 cases op
 case quo=>
  by_cases hb:b=0;simp [Dl,hb] at h;simp [Dl,hb] at h;subst h;constructor
 case rem=>
  by_cases hb:b=0;simp [Dl,hb] at h;simp [Dl,hb] at h;subst h;constructor
 case shl=>cases h
 case shr=>cases h
 all_goals(injection h with h;subst h;constructor)
theorem GU {op:BinOp} {k:IntKind} {a b:Int} {v:Value} (h:pu op k a b=some v) (m:Mp):bI m v v:=by
 by_cases hb:b<0;simp [pu,hb] at h;cases op
 case shl=>simp [pu,hb] at h;subst h;constructor
 case shr=>simp [pu,hb] at h;subst h;constructor
 all_goals simp [pu] at h
theorem tN {P:Program} {t:TypeId} (d:Nat) (a b:Bool) (hu:P.underlying t=some .bool) (w:World) :
 (qT (d+1) t (.bool a) (.bool b)).run P w=.ok (a == b) w:=by
 simp [qT,run_underlying hu]
theorem jO {P:Program} {t e:TypeId} (d:Nat) (b:Option Addr) (hu:P.underlying t=some (.pointer e)) (w:World) :
 (qT (d+1) t (.pointer none) (.pointer b)).run P w=.ok b.isNone w:=by
 simp [qT,run_underlying hu]
theorem pB {P:Program} {t e:TypeId} (d:Nat) (a:Addr) (hu:P.underlying t=some (.pointer e)) (w:World) :
 (qT (d+1) t (.pointer (some a)) (.pointer none)).run P w=.ok false w:=by
 simp [qT,run_underlying hu]
theorem gu {P:Program} {t:TypeId} {x y:Value} {r:Bool} {w:World} (h:(qT (9999+1) t x y).run P w=.ok r w):(Op.equal t x y).run P w=.ok r w:=h
theorem C9 {P:Program} (op:BinOp) (t:TypeId) (xo yo:Operand) (k k':IntKind) (a b:Int) (w:World) :
 (eqGuard op t xo yo (.int k a) (.int k' b)).run P w=.ok () w:=by
 cases op<;>simp [eqGuard]
theorem On {P:Program} {op:BinOp} {t:TypeId} {x y v:Value} (h:Wz P op t x y=some v) {m:Mp} {x' y':Value} (hx:bI m x x') (hy:bI m y y') (xo yo:Operand) (w:World) :
 (do eqGuard op t xo yo x' y';binOp op t x' y':Sem Value).run P w=.ok v w/\bI m v v:=by
 unfold Wz at h;split at h
 .
  cases hx;cases hy;rw [qx,C9,qw];split at h;exact⟨MH h w,GU h m⟩;rename_i hs;split at h;rename_i hk;subst hk;exact⟨R2 (by simpa using hs) h w,L1 h m⟩;cases h
 .
  cases hx;cases hy;cases op
  case eql=>injection h with h;subst h;exact⟨by simp [eqGuard,binOp,Op.stringOp],by constructor⟩
  case neq=>injection h with h;subst h;exact⟨by simp [eqGuard,binOp,Op.stringOp],by constructor⟩
  case add=>
   rename_i a b;replace h:(if a.size+b.size<=9223372036854775807 then some (Value.string (a++b)) else none)=some v:=h;by_cases fO:a.size+b.size<=9223372036854775807;rw [aA fO] at h;injection h with h;subst h;refine⟨?_,by constructor⟩;have:¬(((a.size+b.size:Nat):Int)>qg.max):=by
    have e:qg.max=9223372036854775807:=rfl;rw [e];omega
   simp only [eqGuard,binOp,Op.stringOp,aw this];rfl;rw [aw fO] at h;cases h
  all_goals cases h
 .
  cases hx;cases hy;split at h;rename_i hu;injection h with h;subst h;exact⟨by simp [eqGuard,binOp,gu (tN _ _ _ hu w)],by constructor⟩
  rename_i hu;injection h with h;subst h;exact⟨by simp [eqGuard,binOp,gu (tN _ _ _ hu w)],by constructor⟩
  cases h
 .
  rename_i a b;cases a with
  | none=>
    cases hx;cases b with
    | none=>
      cases hy;simp only [kaX,qt,if_false,Bool.and_self] at h;split at h;rename_i hu;injection h with h;subst h;exact⟨by simp [eqGuard,binOp,gu (jO _ _ hu w)],by constructor⟩
      rename_i hu;injection h with h;subst h;exact⟨by simp [eqGuard,binOp,gu (jO _ _ hu w)],by constructor⟩
      cases h
    | some b=>
      cases hy;simp only [kaX,Bool.false_and,qt,if_false] at h;split at h;rename_i hu;injection h with h;subst h;exact⟨by simp [eqGuard,binOp,gu (jO _ _ hu w)],by constructor⟩
      rename_i hu;injection h with h;subst h;exact⟨by simp [eqGuard,binOp,gu (jO _ _ hu w)],by constructor⟩
      cases h
  | some a=>
    cases b with
    | some b=>simp at h
    | none=>
      cases hx;cases hy;simp only [kaX,Bool.and_false,qt,if_false] at h;split at h;rename_i hu;injection h with h;subst h;exact⟨by simp [eqGuard,binOp,gu (pB _ _ hu w)],by constructor⟩
      rename_i hu;injection h with h;subst h;exact⟨by simp [eqGuard,binOp,gu (pB _ _ hu w)],by constructor⟩
      cases h
 cases h
def aun (op:UnOp) (x:Value):Option Value:=
 match op,x with
 | .not,.bool b=>some (.bool !b)
 | .neg,.int k n=>some (.int k (k.wrap (0-n)))
 | .xor,.int k n=>some (.int k (k.wrap (ZR k.bits (if k.signed then -1 else k.max) ^^^ ZR k.bits n).toNat))
 | _,_=>none
theorem HK {P:Program} {op:UnOp} {x v:Value} (h:aun op x=some v) {m:Mp} {x':Value} (hx:bI m x x') (w:World) :
 (Op.unary op x').run P w=.ok v w/\bI m v v:=by
 unfold aun at h;split at h;injection h with h;subst h;cases hx;exact⟨by simp [Op.unary],by constructor⟩;injection h with h;subst h;cases hx;exact⟨by simp [Op.unary,kbf],by constructor⟩;injection h with h;subst h;cases hx;exact⟨by simp [Op.unary,kaQ],by constructor⟩;cases h
def Px (P:Program) (src dst:TypeId) (x:Value):Option Value:=
 match P.underlying src,P.underlying dst,x with
 | some _,some (.int k),.int _ n=>some (.int k (k.wrap n))
 | some _,some .string,.string s=>some (.string s)
 | _,_,_=>none
theorem C0 {P:Program} {src dst:TypeId} {x v:Value} (h:Px P src dst x=some v) {m:Mp} {x':Value} (hx:bI m x x') (w:World) :
 (convert src dst x').run P w=.ok v w/\bI m v v:=by
 unfold Px at h;split at h;rename_i h1 h2;injection h with h;subst h;cases hx;exact⟨by simp [convert,run_underlying h1,run_underlying h2,Conv.intToInt],by constructor⟩
 rename_i h1 h2;injection h with h;subst h;cases hx;exact⟨by simp [convert,run_underlying h1,run_underlying h2],by constructor⟩
 cases h
end Go.Stx
namespace Go.Stx
open Go
variable [Gl]
def EF (P:Program) (t:TypeId):Option Bool:=
 match P.underlying t with
 | some (.struct _)=>some true
 | some (.array _ _)=>some true
 | some _=>some false
 | none=>none
theorem rk {P:Program} {t:TypeId} {b:Bool} (h:EF P t=some b) (w:World):(isAgg t).run P w=.ok b w:=by
 unfold EF at h;cases hu:P.underlying t with
 | none=>simp [hu] at h
 | some d=>
   rw [hu] at h;simp only [isAgg,qx,run_underlying hu,qw];cases d<;>simp only [qs] at h<;>subst h<;>rfl
theorem gt {P:Program} {t:TypeId} {i:TypeInfo} (h:P.info? t=some i) (w:World):(sizeOf t).run P w=.ok i.size w:=by
 simp [sizeOf,typeInfo,h]
def iF (P:Program) (A:AW) (t:TypeId) (p:Addr):Option Value:=
 match A.b8 p.block,EF P t with
 | some cs,some false=>cs[p.off]?
 | some cs,some true=>
   match P.info? t with
   | some i=>if p.off+i.size<=cs.length then some (.agg ((cs.drop p.off).take i.size).toArray) else none
   | none=>none
 | _,_=>none
theorem bI.sF {m:Mp} {l l':List Value} (h:iV m l l'):bI m (.agg l.toArray) (.agg l'.toArray):=
 .agg (by simpa using h.1) λi v v' a b=>h.2 i v v' (by simpa using a) (by simpa using b)
theorem LZ {P:Program} {m:Mp} {A:AW} {w:World} (hs:j6 m A w) {t:TypeId} {p p':Addr} {v:Value} (h:iF P A t p=some v) (hp:rh m p p') :
 ∃v',(loadVar t p').run P w=.ok v' w/\bI m v v':=by
 unfold iF at h;split at h;rename_i cs hr ha;obtain⟨v',h1,h2⟩:=SK (P:=P) hs hp hr h;exact⟨v',by simp only [loadVar,qx,rk ha,qw,qt,if_false,h1],h2⟩;rename_i cs hr ha;split at h;rename_i i hi;split at h;rename_i fO;injection h with h;subst h;obtain⟨l',h1,h2⟩:=GC (P:=P) hs hp hr i.size fO;refine⟨.agg l'.toArray,?_,.sF h2⟩;simp only [loadVar,qx,rk ha,qw,if_true,gt hi,h1,qF];cases h;cases h;cases h
def aG (P:Program) (A:AW) (t:TypeId) (p:Addr) (v:Value):Option AW:=
 match A.bp p.block,P.info? t with
 | some (.cells cs true unit),some i=>
   if v.cells.size=i.size/\p.off+i.size<=cs.length/\v.cells.toList.all qL then
    some (A.set p.block (some (.cells (fA cs p.off v.cells.toList) true unit)))
   else none
 | _,_=>none
theorem Jg {P:Program} {m:Mp} {A A1:AW} {w:World} (hs:j6 m A w) {t:TypeId} {p p':Addr} {v v':Value} (h:aG P A t p v=some A1) (hp:rh m p p') (hv:bI m v v') :
 ∃w',(storeVar t p' v').run P w=.ok () w'/\j8 m A w m A1 w':=by
 unfold aG at h;split at h;rename_i cs unit i hg hi;split at h;rename_i hc;obtain⟨h1,h2,h3⟩:=hc;injection h with h;subst h;obtain⟨zN,Ld,q,hm,hb,ho⟩:=hp;have kJ:=hv.cells;obtain⟨w',hr,ev⟩:=rz (P:=P) (o:=p.off) hm v.cells.toList v'.cells.toList 0 cs A w hs hg kJ (λx hx=>qC.1 h3 x hx) (by simp;omega);refine⟨w',?_,by simpa using ev⟩;have vS:v'.cells.size=i.size:=by have:=kJ.1;simp at this;omega
 have ea:p'=⟨q.block,q.base+p.off,none⟩:=by rw [Bl p' Ld,hb,ho]
 subst ea;simp only [storeVar,qx,gt hi,qw,vS,ne_eq,not_true_eq_false,if_false,hr];cases h;cases h
theorem uR {P:Program} {m:Mp} {A:AW} {w:World} (hs:j6 m A w) (e:TypeId) (unit:Nat) {l:List Value} {iT:Array Value} (hl:iV m l iT.toList) :
 ∃w' m',(newRow e iT).run P w=.ok ⟨w.heap.size,0,none⟩ w'/\j8 m A w m' (A.alloc (.cells l true unit)) w'/\m'=m.ext A.next ⟨w.heap.size,0,unit,iT.size⟩:=by
 refine⟨w.alloc (.cells iT e),_,?_,j8.alloc hs l iT e unit (λk v hv=>?_),rfl⟩;simp only [newRow,qx,run_newObj,qw,qF];rfl;obtain⟨v',h1,h2⟩:=hl.bp hv;exact⟨v',by simpa using h1,h2⟩
def Un (A:AW) (v:Value):Value×AW:=(.pointer (some ⟨A.next,0,none⟩),A.alloc (.cells v.cells.toList true 1))
theorem FI {P:Program} {m:Mp} {A:AW} {w:World} (hs:j6 m A w) (e:TypeId) {v v':Value} (hv:bI m v v') :
 ∃p' w' m',(Instr.box e v').run P w=.ok p' w'/\j8 m A w m' (Un A v).2 w'/\bI m' (Un A v).1 p':=by
 obtain⟨w',m',h1,h2,h3⟩:=uR (P:=P) hs e 1 hv.cells;refine⟨.pointer (some ⟨w.heap.size,0,none⟩),w',m',?_,h2,?_⟩;simp only [Instr.box,newVar,qx,h1,qw,qF];rw [h3];exact .Kr (rh.mc m A.next ⟨w.heap.size,0,1,_⟩ 0)
def u9 (P:Program) (s:TypeId) (x:Value) (f:Nat):Option Value:=
 match P.underlying s,x with
 | some (.struct fs),.pointer (some p)=>
   match fs[f]? with
   | some fd=>
     match P.info? fd.type with
     | some i=>if i.size=0 then none else some (.pointer (some ⟨p.block,p.off+fd.offset,none⟩))
     | none=>none
   | none=>none
 | _,_=>none
theorem rh.Yd {m:Mp} {a a':Addr} (h:rh m a a') (n:Nat):rh m ⟨a.block,a.off+n,none⟩ (a'.add n):=by
 obtain⟨h1,h2,p,h3,h4,h5⟩:=h;rw [nD _ _ h2];exact⟨rfl,rfl,p,h3,h4,by simp only [h5,qJ]⟩
theorem Cf {P:Program} {m:Mp} {s:TypeId} {x x' v:Value} {f:Nat} (h:u9 P s x f=some v) (hx:bI m x x') :
 ∃v',bI m v v'/\∀w,(Instr.fieldAt s x' f).run P w=.ok v' w:=by
 unfold u9 at h;split at h
 . rename_i fs p hu;cases hx with
   | Kr ha=>
     rename_i p';split at h;rename_i fd hf;split at h;rename_i i hi;split at h;cases h;rename_i h0;injection h with h;subst h;refine⟨.pointer (some (p'.add fd.offset)),.Kr (ha.Yd _),λw=>?_⟩;simp [Instr.fieldAt,run_underlying hu,hf,ka3,fieldPlace,gt hi,h0];cases h;cases h
 cases h
def apart (P:Program) (t:TypeId) (cs:Array Value) (off:Nat):Option Value:=
 match EF P t with
 | some false=>cs[off]?
 | some true=>
   match P.info? t with
   | some i=>some (.agg (cs.extract off (off+i.size)))
   | none=>none
 | none=>none
theorem mN {P:Program} {m:Mp} {t:TypeId} {cs tu:Array Value} {off:Nat} {v:Value} (h:apart P t cs off=some v) (hc:bI m (.agg cs) (.agg tu)) :
 ∃v',bI m v v'/\∀w,(part t tu off).run P w=.ok v' w:=by
 cases hc with
 | agg hx h1=>
   unfold apart at h;split at h;rename_i ha;have cD:off<tu.size:=(by rw [<-hx];exact(qr.1 h).1);have e:=qV cD;refine⟨tu[off],h1 off v _ h e,λw=>?_⟩;simp only [part,qx,rk ha,qw,qt,if_false];rw [e];rfl;rename_i ha;split at h;rename_i i hi;injection h with h;subst h;refine⟨.agg (tu.extract off (off+i.size)),.agg (by simp [hx]) ?_,λw=>?_⟩;intro j v v' h2 h3;rw [Array.getElem?_extract] at h2 h3;split at h2;rename_i hj;rw [aA (by rw [<-hx];exact hj)] at h3;exact h1 _ v v' h2 h3;cases h2;simp only [part,qx,rk ha,qw,if_true,gt hi,qF];cases h;cases h
def Jp (P:Program) (t:TypeId) (x:Value) (f:Nat):Option Value:=
 match P.underlying t,x with
 | some (.struct fs),.agg cs=>
   match fs[f]? with
   | some fd=>apart P fd.type cs fd.offset
   | none=>none
 | _,_=>none
theorem Jo {P:Program} {m:Mp} {t:TypeId} {x x' v:Value} {f:Nat} (h:Jp P t x f=some v) (hx:bI m x x') :
 ∃v',bI m v v'/\∀w,(Instr.field t x' f).run P w=.ok v' w:=by
 unfold Jp at h;split at h;rename_i fs cs hu;split at h
 . rename_i fd hf;have La:=hx;cases hx with
   | agg vS h1=>
     obtain⟨v',h3,h2⟩:=mN (P:=P) h La;refine⟨v',h3,λw=>?_⟩;simp only [Instr.field,qx,run_underlying hu,qw,hf,asAgg,qF,h2]
 cases h;cases h
def u7 (P:Program) (t:TypeId) (x ix:Value):Option Value:=
 match P.underlying t,x,ix with
 | some (.slice e),.slice (some p) len _,.int _ n=>
   match P.info? e with
   | some i=>if 0<=n/\n<len then some (.pointer (some ⟨p.block,p.off+n.toNat*i.size,none⟩)) else none
   | none=>none
 | some (.array len e),.pointer (some p),.int _ n=>
   match P.info? e with
   | some i=>if 0<=n/\n<len then some (.pointer (some ⟨p.block,p.off+n.toNat*i.size,none⟩)) else none
   | none=>none
 | _,_,_=>none
theorem Ce {P:Program} {m:Mp} {t:TypeId} {x x' y y' v:Value} (h:u7 P t x y=some v) (hx:bI m x x') (hy:bI m y y') :
 ∃v',bI m v v'/\∀w,(Instr.indexAt t x' y').run P w=.ok v' w:=by
 unfold u7 at h;split at h;rename_i e p len eA k n hu;cases hy;split at h;rename_i i hi;split at h
 . rename_i hb;injection h with h;subst h;cases hx with
   | slice hh h1 h2=>
     rename_i p' i6;have ha:rh m p p':=by
      rcases hh with hh|hh;exact hh.Ue;omega
     refine⟨.pointer (some (p'.add (n.toNat*i.size))),.Kr (ha.Yd _),λw=>?_⟩;simp [Instr.indexAt,run_underlying hu,asIntOf,gt hi,hb.1,hb.2]
 cases h;cases h;rename_i len e p k n hu;cases hy;split at h;rename_i i hi;split at h
 . rename_i hb;injection h with h;subst h;cases hx with
   | Kr ha=>
     rename_i p';refine⟨.pointer (some (p'.add (n.toNat*i.size))),.Kr (ha.Yd _),λw=>?_⟩;simp [Instr.indexAt,run_underlying hu,asIntOf,gt hi,hb.1,hb.2,ka3]
 cases h;cases h;cases h
def Jn (P:Program) (t:TypeId) (x ix:Value):Option Value:=
 match P.underlying t,x,ix with
 | some (.array len e),.agg cs,.int _ n=>
   match P.info? e with
   | some i=>if 0<=n/\n<len then apart P e cs (n.toNat*i.size) else none
   | none=>none
 | some .string,.string s,.int _ n=>
   if 0<=n then
    match s[n.toNat]? with
    | some b=>some (.int .u8 b.toNat)
    | none=>none
   else none
 | _,_,_=>none
theorem Jm {P:Program} {m:Mp} {t:TypeId} {x x' y y' v:Value} (h:Jn P t x y=some v) (hx:bI m x x') (hy:bI m y y') :
 ∃v',bI m v v'/\∀w,(Instr.index t x' y').run P w=.ok v' w:=by
 unfold Jn at h;split at h;rename_i len e cs k n hu;cases hy;split at h;rename_i i hi;split at h
 . rename_i hb;have La:=hx;cases hx with
   | agg vS h1=>
     obtain⟨v',h3,h2⟩:=mN (P:=P) h La;exact⟨v',h3,λw=>by simp [Instr.index,run_underlying hu,asIntOf,gt hi,hb.1,hb.2,h2]⟩
 cases h;cases h;rename_i s k n hu;cases hx;cases hy;split at h;rename_i h0;split at h;rename_i b hb;injection h with h;subst h;exact⟨.int .u8 b.toNat,by constructor,λw=>by simp [Instr.index,run_underlying hu,asIntOf,h0,hb]⟩;cases h;cases h;cases h
def r8 (v:Option Value) (d nS:Nat):Option Nat:=
 match v with
 | none=>some d
 | some (.int _ n)=>if 0<=n/\n<=nS then some n.toNat else none
 | some _=>none
def fg (P:Program) (A:AW) (e:TypeId) (p:Addr) (l:Nat):Option Addr:=
 if l=0 then some p else
 match P.info? e,A.bp p.block with
 | some i,some (.cells _ _ unit)=>if unit=i.size then some ⟨p.block,p.off+l*i.size,none⟩ else none
 | _,_=>none
def zD (P:Program) (A:AW) (t:TypeId) (x:Value) (lo hi mx:Option Value):Option Value:=
 match P.underlying t,x,mx with
 | some (.slice e),.slice a len eA,none=>
   match r8 hi len eA with
   | some h=>
     match r8 lo 0 h with
     | some l=>
       match P.info? e,a with
       | some _,none=>some (.slice none (h-l) (eA-l))
       | some _,some p=>
         match fg P A e p l with
         | some q=>some (.slice (some q) (h-l) (eA-l))
         | none=>none
       | none,_=>none
     | none=>none
   | none=>none
 | some .string,.string s,none=>
   match r8 hi s.size s.size with
   | some h=>
     match r8 lo 0 h with
     | some l=>some (.string (s.extract l h))
     | none=>none
   | none=>none
 | _,_,_=>none
end Go.Stx
namespace Go.Stx
open Go
variable [Gl]
def xW (m:Mp):Option Value->Option Value->Prop
 | none,none=>True
 | some v,some v'=>bI m v v'
 | _,_=>False
theorem jU {P:Program} {w:World} {k:IntKind} {n:Int} {y:Nat} {aC:BoundsCode} (h0:0<=n) (h1:n<=y) :
 (Instr.sliceBound (.int k n) y aC).run P w=.ok n.toNat w:=by
 simp [Instr.sliceBound,asIntOf,h0,h1]
theorem C4 {m:Mp} {v v':Option Value} {d nS h:Nat} (hb:r8 v d nS=some h) (hv:xW m v v') :
 (v'=none/\h=d)\/∃k n,v'=some (.int k n)/\0<=n/\n<=nS/\h=n.toNat:=by
 unfold r8 at hb;split at hb
 . injection hb with hb;cases v' with
   | none=>exact .inl ⟨rfl,hb.symm⟩
   | some _=>exact hv.elim
 rename_i k n;split at hb
 . rename_i hc;injection hb with hb;cases v' with
   | none=>exact hv.elim
   | some _=>cases hv;exact .inr ⟨k,n,rfl,hc.1,hc.2,hb.symm⟩
 cases hb;cases hb
theorem pg {P:Program} {m:Mp} {lo hi Vp Bt:Option Value} {len eA i6 h l:Nat} (isS:Bool) (hh:r8 hi len eA=some h) (hl:r8 lo 0 h=some l)
 (hc:eA<=i6) (xC:xW m lo Vp) (Xi:xW m hi Bt) (w:World):(kaj isS len i6 Vp Bt none).run P w=.ok (l,h,i6) w:=by
 rcases C4 hh Xi with ⟨rfl,rfl⟩|⟨k,n,rfl,h0,h1,rfl⟩<;>rcases C4 hl xC with ⟨rfl,rfl⟩|⟨k',n',rfl,UG,h1',rfl⟩;simp [kaj];simp [kaj,jU UG h1'];have h2:n<=(i6:Int):=by omega
 simp [kaj,jU h0 h2];have h2:n<=(i6:Int):=by omega
 simp [kaj,jU h0 h2,jU UG h1']
theorem HO {v:Option Value} {d nS h:Nat} (hb:r8 v d nS=some h):h=d\/h<=nS:=by
 unfold r8 at hb;split at hb;injection hb with hb;exact .inl hb.symm;split at hb;rename_i hc;injection hb with hb;exact .inr (by omega)
 cases hb;cases hb
theorem Jh {P:Program} {m:Mp} {A:AW} {w:World} (hs:j6 m A w) {t:TypeId} {x x' v:Value} {lo hi mx Vp Bt WV:Option Value} (h:zD P A t x lo hi mx=some v)
 (hx:bI m x x') (xC:xW m lo Vp) (Xi:xW m hi Bt) (hmx:xW m mx WV):∃v',bI m v v'/\∀w',(kak t x' Vp Bt WV).run P w'=.ok v' w':=by
 unfold zD at h;split at h
 . rename_i e a len eA hu;cases WV with
   | some _=>exact hmx.elim
   | none=>
   split at h
   . rename_i hh ehi;split at h
     . rename_i l elo;have hlh:l=0\/l<=hh:=HO elo;have hhc:hh=len\/hh<=eA:=HO ehi;split at h;rename_i i hi;injection h with h;subst h;cases hx;have hr:=pg (P:=P) (m:=m) true ehi elo (qf 0) xC Xi;have h1:hh=0:=(by omega);have h2:l=0:=(by omega);subst h1;subst h2;refine⟨.slice none 0 0,.lC,λw'=>?_⟩;simp [kak,kaO,run_underlying hu,hr,gt hi]
       . rename_i i p hi;split at h
         . rename_i q hq;injection h with h;subst h;cases hx with
           | slice Dy h1 h2=>
             rename_i p' i6;have hr:=pg (P:=P) (m:=m) true ehi elo h2 xC Xi;refine⟨.slice (some (if i6=l then p' else p'.add (l*i.size))) (hh-l) (i6-l),?_,λw'=>?_⟩
             rotate_left
             simp only [kak,qx,run_underlying hu,qw,kaO,hr,gt hi,qF,qR];split<;>rfl;refine .slice ?_ (by omega) (by omega);by_cases kJ:i6=l;refine .inr ⟨by omega,by omega,?_⟩;unfold fg at hq;split at hq;injection hq with hq;subst hq;rcases Dy with ⟨_,_,pl,g3,_⟩|⟨_,_,g⟩;exact .inr (by rw [g3];exact kaF _);exact g;split at hq;rename_i hg;split at hq;injection hq with hq;subst hq;obtain⟨pl,g7,_⟩:=hs.Gu _ _ hg;exact .inr (by simp only;rw [g7];exact kaF _);cases hq;cases hq;rw [aw kJ];have hsr':Ci m p p' i6:=by
              rcases Dy with Dy|Dy;exact Dy;omega
             obtain⟨g1,g2,pl,g3,g4,g5,g6⟩:=hsr';unfold fg at hq;split at hq;rename_i Lm;subst Lm;injection hq with hq;subst hq;rw [Nat.zero_mul,show p'.add 0=p' by unfold Addr.add;simp];exact .inl ⟨g1,g2,pl,g3,g4,g5,by simpa using g6⟩;rename_i Lm;split at hq;rename_i i' cs own unit Bt hg;rw [hi] at Bt;injection Bt with Bt;subst Bt;split at hq;rename_i Vx;injection hq with hq;subst hq;obtain⟨pl',g7,iT,e',fr,g8,_,g9,_⟩:=hs.Gu _ _ hg;rw [g3] at g7;injection g7 with g7;subst g7;rw [nD _ _ g2];refine .inl ⟨rfl,rfl,pl,g3,g4,by simp only [g5,qJ],?_⟩;rw [<-g9,Vx] at g6 ⊢;simp only;have:l*i.size+(i6-l)*i.size=i6*i.size:=by
              rw [<-ZS];congr 1;omega
             omega;cases hq;cases hq
         cases h
       cases h
     cases h
   cases h
 . rename_i s hu;cases WV with
   | some _=>exact hmx.elim
   | none=>
   cases hx;split at h;rename_i hh ehi;split at h;rename_i l elo;injection h with h;subst h;have hr:=pg (P:=P) (m:=m) false ehi elo (qf _) xC Xi;refine⟨.string (s.extract l hh),.string _,λw'=>?_⟩;simp [kak,kaO,run_underlying hu,hr];cases h;cases h
 cases h
def DJ (P:Program) (t:TypeId) (x:Value) (lo hi:Option Value) (mx:Value):Option Value:=
 match P.underlying t,x,lo,hi,mx with
 | some (.slice e),.slice a _ _,none,some (.int _ h),.int _ q=>
   match P.info? e with
   | some _=>if h=0/\q=0 then some (match a with|none=>.slice none 0 0|some _=>.slice (some ⟨0,0,some 0⟩) 0 0) else none
   | none=>none
 | _,_,_,_,_=>none
theorem GT {P:Program} {m:Mp} {t:TypeId} {x x' v mx WV:Value} {lo hi Vp Bt:Option Value} (h:DJ P t x lo hi mx=some v)
 (hx:bI m x x') (xC:xW m lo Vp) (Xi:xW m hi Bt) (hmx:bI m mx WV):∃v',bI m v v'/\∀w',(kak t x' Vp Bt (some WV)).run P w'=.ok v' w':=by
 unfold DJ at h;split at h<;>try(cases h;done)
 rename_i e a len eA k h0 k' q hu;split at h<;>try(cases h;done)
 rename_i i hi0;split at h<;>try(cases h;done)
 rename_i hc;obtain⟨rfl,rfl⟩:=hc;injection h with h;subst h;cases Vp with
 | some _=>exact xC.elim
 | none=>
 cases Bt with
 | none=>exact Xi.elim
 | some hv=>
 have hhi':bI m (.int k 0) hv:=Xi;cases hhi';cases hmx;have hb:∀(i6:Nat) (w':World),(kaj true len i6 none (some (.int k 0)) (some (.int k' 0))).run P w'=.ok (0,0,0) w':=λi6 w'=>by
  simp [kaj,jU (P:=P) (w:=w') (k:=k') (n:=0) (y:=i6) (aC:=.slice3Acap) (by omega) (by omega),
   jU (P:=P) (w:=w') (k:=k) (n:=0) (y:=0) (aC:=.slice3B) (by omega) (by omega)]
 cases a with
 | none=>
   cases hx;exact⟨.slice none 0 0,.lC,λw'=>by simp [kak,kaO,run_underlying hu,hb,gt hi0]⟩
 | some a=>
   cases hx with
   | slice hh h1 h2=>
     rename_i a' i6;exact⟨.slice (some a') 0 0,.slice (.inr ⟨rfl,rfl,.inl rfl⟩) (qf _) (qf _),λw'=>by simp [kak,kaO,run_underlying hu,hb,gt hi0]⟩
def LT (size:Nat):List (Nat×Value)->List Value->Option (List Value)
 | [],cs=>some cs
 | (i,v)::fv,cs=>if v.cells.size=size/\i*size+size<=cs.length then LT size fv (fA cs (i*size) v.cells.toList) else none
def fB (z:List Value):Nat->List Value
 | 0=>[]
 | n+1=>z++fB z n
theorem AU (l:List Value):∀(cs:Array Value) (off k:Nat),off+k+l.length<=cs.size->
 ((l.zipIdx k).foldl (λcs (c,j)=>cs.setIfInBounds (off+j) c) cs).toList=fA cs.toList (off+k) l:=by
 induction l with
 | nil=>intro cs off k _;rfl
 | cons v l ih=>
   intro cs off k h;simp only [List.zipIdx_cons,List.foldl_cons,fA];rw [ih _ off (k+1) (by simp at h ⊢;omega)];simp [qJ]
theorem uy {m:Mp}:∀(l l':List Value) (off:Nat) (cs tu:List Value),iV m cs tu->iV m l l'->off+l.length<=cs.length->
 iV m (fA cs off l) (fA tu off l')
 | [],l',off,cs,tu,h,hl,_=>by
   have e:=hl.pT;subst e;exact h
 | v::l,l',off,cs,tu,h,hl,fO=>by
   obtain⟨v',t',rfl,hv,ht⟩:=hl.mf;simp only [qI] at fO;refine uy l t' (off+1) _ _ ⟨by simp [h.1],λi x x' h1 h2=>?_⟩ ht (by simp;omega);by_cases hi:off=i;subst hi;rw [Zd (by omega)] at h1;rw [Zd (by rw [<-h.1];omega)] at h2;injection h1 with h1;injection h2 with h2;subst h1;subst h2;exact hv;rw [Zo hi] at h1 h2;exact h.2 i x x' h1 h2
theorem CT {m:Mp} {size:Nat}:∀(kD io:List (Nat×Value)) (cs r:List Value) (tu:Array Value),LT size kD cs=some r->iV m cs tu.toList->
 kD.length=io.length->(∀(k:Nat) (p p':Nat×Value),kD[k]? = some p->io[k]? = some p'->p.1=p'.1/\bI m p.2 p'.2)->
 ∃r',kay (λi=>some (i*size,size)) tu io=some r'/\iV m r r'.toList
 | [],io,cs,r,tu,h,hc,hl,_=>by
   cases io with
   | cons _ _=>simp at hl
   | nil=>
     injection h with h;subst h;exact⟨tu,rfl,hc⟩
 | (i,v)::fv,io,cs,r,tu,h,hc,hl,hp=>by
   cases io with
   | nil=>simp at hl
   | cons p' rest'=>
     obtain⟨i',v'⟩:=p';obtain⟨h1,h2⟩:=hp 0 _ _ rfl rfl;simp only at h1 h2;subst h1;unfold LT at h;split at h;rename_i AO;obtain⟨hz,fO⟩:=AO;have kJ:=h2.cells;have hz':v'.cells.size=size:=by have:=kJ.1;simp at this;omega
     have vS:tu.size=cs.length:=by have:=hc.1;simp at this;omega
     have Tk:=AU v'.cells.toList tu (i*size) 0 (by simp;omega);obtain⟨r',h3,h4⟩:=CT fv rest' _ r (v'.cells.zipIdx.foldl (λcs (c,j)=>cs.setIfInBounds (i*size+j) c) tu) h (by
      rw [<-kbm,Array.toList_zipIdx,Tk];exact uy _ _ _ _ _ hc kJ (by simp;omega)) (by simpa using hl) (λk p p' a b=>hp (k+1) p p' (by simpa using a) (by simpa using b))
     refine⟨r',?_,h4⟩;simp only [kay,hz',ne_eq,not_true_eq_false,decide_false,Bool.false_or,vS,decide_eq_true_eq];rw [aw (by omega)];exact h3;cases h
theorem jE (z:List Value) (n:Nat):(fB z n).length=n*z.length:=by
 induction n with
 | zero=>simp [fB]
 | succ n ih=>simp [fB,ih,ZS];omega
theorem N7 (z:List Value) (n j:Nat) (h:j<n*z.length):(fB z n)[j]? = z[j % z.length]?:=by
 induction n generalizing j with
 | zero=>simp at h
 | succ n ih=>
   simp only [fB];by_cases hj:j<z.length;rw [ZI hj,Nat.mod_eq_of_lt hj];rw [kam (by omega),ih _ (by simp [ZS] at h;omega)];rw [Nat.mod_eq_sub_mod (by omega:z.length<=j)]
theorem sV (z:Array Value) (n:Nat) (h:0<z.size):((Z8 (n*z.size)).map (λj=>z[j % z.size]!)).toList=fB z.toList n:=by
 apply List.ext_getElem?;intro j;by_cases hj:j<n*z.size;rw [N7 _ _ _ (by simpa using hj)];have hm:j % z.size<z.size:=Nat.mod_lt _ h;simp [hj,hm];rw [qN (by simp;omega),qN (by rw [jE];simp;omega)]
def fD:Value->Bool
 | .bool _ | .int _ _ | .float _ _ | .complex _ _ _ | .string _ | .pointer none | .slice none 0 0 | .map none | .chan none | .nilFunc | .nilIface=>true
 | _=>false
def xE:Value->Bool
 | .agg cs=>cs.all fD
 | .tuple cs=>cs.all fD
 | v=>fD v
theorem bI.kH {v:Value} (h:fD v=true) (m:Mp):bI m v v:=by
 unfold fD at h;split at h<;>first|(cases h;done)|constructor
theorem bI.xr {v:Value} (h:xE v=true) (m:Mp):bI m v v:=by
 unfold xE at h;split at h;refine .agg rfl λi v v' h1 h2=>?_;rw [h1] at h2;injection h2 with h2;subst h2;exact .kH (Z1.1 h _ (ZW h1)) m;refine .tuple rfl λi v v' h1 h2=>?_;rw [h1] at h2;injection h2 with h2;subst h2;exact .kH (Z1.1 h _ (ZW h1)) m;exact .kH h m
theorem iV.nW {l:List Value} (h:l.all fD=true) (m:Mp):iV m l l:=
 ⟨rfl,λi v v' h1 h2=>by
  rw [h1] at h2;injection h2 with h2;subst h2;exact .kH (qC.1 h _ (Z3 h1)) m⟩
theorem oL {z:List Value} (h:z.all fD=true) (n:Nat):(fB z n).all fD=true:=by
 induction n with
 | zero=>rfl
 | succ n ih=>simp only [fB,List.all_append,h,ih,Bool.and_self]
def sW (P:Program) (A:AW) (t:TypeId) (len:Nat) (kD:List (Nat×Value)):Option (Value×AW):=
 match P.underlying t with
 | some (.slice e)=>
   match P.info? e with
   | some i=>
     match i.zero with
     | some z=>
       if z.cells.size=i.size/\0<i.size/\len*i.size<=2 ^ 24/\z.cells.toList.all fD then
        match LT i.size kD (fB z.cells.toList len) with
        | some cs=>some (.slice (some ⟨A.next,0,none⟩) len len,A.alloc (.cells cs true i.size))
        | none=>none
       else none
     | none=>none
   | none=>none
 | _=>none
theorem HH (size:Nat):∀(kD:List (Nat×Value)) (cs r:Array Value),kay (λi=>some (i*size,size)) cs kD=some r->r.size=cs.size
 | [],cs,r,h=>by injection h with h;subst h;rfl
 | (i,v)::fv,cs,r,h=>by
   unfold kay at h;simp only at h;split at h;cases h;rw [HH size fv _ r h];have:∀(l:List (Value×Nat)) (cs:Array Value),(l.foldl (λcs (c,j)=>cs.setIfInBounds (i*size+j) c) cs).size=cs.size:=by
    intro l
    induction l with
    | nil=>intro cs;rfl
    | cons x l ih=>intro cs;simp [List.foldl_cons,ih]
   rw [<-kbm];exact this _ _
theorem Bn {P:Program} {m:Mp} {A A1:AW} {w:World} (hs:j6 m A w) {t:TypeId} {len:Nat} {kD:List (Nat×Value)} {io:Array (Nat×Value)} {v:Value}
 (h:sW P A t len kD=some (v,A1)) (hl:kD.length=io.size)
 (hp:∀(k:Nat) (p p':Nat×Value),kD[k]? = some p->io[k]? = some p'->p.1=p'.1/\bI m p.2 p'.2) :
 ∃v' w' m',(Instr.buildSlice t len io).run P w=.ok v' w'/\j8 m A w m' A1 w'/\bI m' v v':=by
 unfold sW at h;split at h<;>try(cases h;done)
 rename_i e hu;split at h<;>try(cases h;done)
 rename_i i hi;split at h<;>try(cases h;done)
 rename_i z hz;split at h<;>try(cases h;done)
 rename_i hc;obtain⟨oK,h0,h24,iK⟩:=hc;split at h<;>try(cases h;done)
 rename_i cs hputs;simp only [qs,qO] at h;obtain⟨rfl,rfl⟩:=h;have SQ:=sV z.cells len (by omega);rw [oK] at SQ
 obtain⟨r',h1,h2⟩:=CT (m:=m) kD io.toList _ cs ((Z8 (len*i.size)).map (λj=>z.cells[j % i.size]!)) hputs
  (by rw [SQ];exact .nW (oL iK len) m) (by simpa using hl) (λk p p' a b=>hp k p p' a (by simpa using b))
 have Rh:r'.size=len*i.size:=by rw [HH _ _ _ _ h1];simp
 obtain⟨w',m',h3,h4,h5⟩:=uR (P:=P) hs e i.size h2;refine⟨.slice (some ⟨w.heap.size,0,none⟩) len len,w',m',?_,h4,?_⟩;simp only [Instr.buildSlice,qx,run_underlying hu,qw,gt hi];rw [aw (by omega)];by_cases Lm:len*i.size=0;rw [aA Lm];have Y5:((Z8 (len*i.size)).map λj=>(#[]:Array Value)[j % (#[]:Array Value).size]!)=(Z8 (len*i.size)).map (λj=>z.cells[j % i.size]!):=by
  simp [Lm]
 simp only [qx,qF,qw,Y5,h1,h3];rw [aw Lm];have Qp:(zeroValue e).run P w=.ok z w:=by simp [zeroValue,typeInfo,hi,hz]
 simp only [qx,qF,qw,Qp,oK,h1,h3];refine .slice (.inl ⟨rfl,rfl,⟨w.heap.size,0,i.size,r'.size⟩,by rw [h5];simp [Mp.ext],rfl,rfl,?_⟩) (qf _) (qf _);show 0+len*i.size<=r'.size;omega
end Go.Stx
namespace Go.Stx
open Go
variable [Gl]
theorem Hg {P:Program} {w:World} {k:IntKind} {n:Int}:(asInt (.int k n)).run P w=.ok n w:=by simp [asInt,asIntOf]
theorem ar {x:Int} (h0:-9223372036854775808<=x) (h1:x<=9223372036854775807):qg.wrap x=x:=by
 simp only [IntKind.wrap,IntKind.bits,kaK,Bool.true_and];split;rename_i h;have:=of_decide_eq_true h;omega;rename_i h;have:=of_decide_eq_false (eq_false_of_ne_true h);omega
theorem ax {x:Int} (h0:0<=x) (h1:x<18446744073709551616):IntKind.u64.wrap x=x:=by
 simp only [IntKind.wrap,IntKind.bits,kaK,Bool.false_and,qt,if_false];omega
def mj (P:Program) (A:AW) (t:TypeId) (l c:Value):Option (Value×AW):=
 match P.underlying t,l,c with
 | some (.slice e),.int _ l,.int _ c=>
   match P.info? e with
   | some i=>
     match i.zero with
     | some z=>
       if z.cells.size=i.size/\0<i.size/\z.cells.toList.all fD/\0<=l/\l<=c/\c<=140737488355328/\c*i.bytes<=140737488355328 then
        some (.slice (some ⟨A.next,0,none⟩) l.toNat c.toNat,A.alloc (.cells (fB z.cells.toList c.toNat) true i.size))
       else none
     | none=>none
   | none=>none
 | _,_,_=>none
theorem LX {P:Program} {m:Mp} {A A1:AW} {w:World} (hs:j6 m A w) {t:TypeId} {l c l' c' v:Value} (h:mj P A t l c=some (v,A1)) (hl:bI m l l') (hc:bI m c c') :
 ∃v' w' m',(Instr.makeSlice t l' c').run P w=.ok v' w'/\j8 m A w m' A1 w'/\bI m' v v':=by
 unfold mj at h;split at h<;>try(cases h;done)
 rename_i e k n k' q hu;cases hl;cases hc;split at h<;>try(cases h;done)
 rename_i i hi;split at h<;>try(cases h;done)
 rename_i z hz;split at h<;>try(cases h;done)
 rename_i AO;obtain⟨oK,h0,iK,ES,hnq,hq,hqb⟩:=AO;simp only [qs,qO] at h;obtain⟨rfl,rfl⟩:=h;have SQ:=sV z.cells q.toNat (by omega);rw [oK] at SQ;obtain⟨w',m',h3,h4,h5⟩:=uR (P:=P) hs e i.size (iT:=(Z8 (q.toNat*i.size)).map (λj=>z.cells[j % i.size]!)) (by rw [SQ];exact .nW (oL iK q.toNat) m);have jx:qg.wrap n=n:=ar (by omega) (by omega);have kc:qg.wrap q=q:=ar (by omega) (by omega);refine⟨.slice (some ⟨w.heap.size,0,none⟩) n.toNat q.toNat,w',m',?_,h4,?_⟩;have hty:(typeInfo e).run P w=.ok i w:=by simp [typeInfo,hi]
 have hb:(i.bytes:Int)*q<=140737488355328:=by rw [Int.mul_comm];exact hqb
 have c1:(decide (q<0) || decide ((i.bytes:Int)*q>2 ^ 48))=false:=by
  simp only [Bool.or_eq_false_iff,decide_eq_false_iff_not];constructor<;>omega
 simp only [Instr.makeSlice,qx,run_underlying hu,qw,Hg,hty,jx,kc,c1];rw [aw (by simp;omega)];simp only [qx,run_askRoom,qw,gt hi];by_cases hn:q.toNat*i.size=0;rw [aA hn];have Y5:((Z8 (q.toNat*i.size)).map λj=>(#[]:Array Value)[j % (#[]:Array Value).size]!)=(Z8 (q.toNat*i.size)).map (λj=>z.cells[j % i.size]!):=by
  simp [hn]
 simp only [qx,qF,qw,Y5,h3];rw [aw hn];have Qp:(zeroValue e).run P w=.ok z w:=by simp [zeroValue,typeInfo,hi,hz]
 simp only [qx,qF,qw,Qp,oK,h3];refine .slice (.inl ⟨rfl,rfl,⟨w.heap.size,0,i.size,((Z8 (q.toNat*i.size)).map (λj=>z.cells[j % i.size]!)).size⟩,by rw [h5];simp [Mp.ext],rfl,rfl,?_⟩) (by omega) (qf _);show 0+q.toNat*i.size<=((Z8 (q.toNat*i.size)).map (λj=>z.cells[j % i.size]!)).size;simp
def JB (P:Program) (A:AW) (t:TypeId):Option (Value×AW):=
 match P.info? t with
 | some i=>
   match i.zero with
   | some z=>if xE z then some (Un A z) else none
   | none=>none
 | none=>none
theorem JA {P:Program} {m:Mp} {A A1:AW} {w:World} (hs:j6 m A w) {t:TypeId} {v:Value} (h:JB P A t=some (v,A1)) :
 ∃v' w' m',(Instr.alloc t true (.tuple #[])).run P w=.ok v' w'/\j8 m A w m' A1 w'/\bI m' v v':=by
 unfold JB at h;split at h<;>try(cases h;done)
 rename_i i hi;split at h<;>try(cases h;done)
 rename_i z hz;split at h<;>try(cases h;done)
 rename_i hg;injection h with h;obtain⟨p',w',m',h1,h2,h3⟩:=FI (P:=P) hs t (bI.xr hg m);rw [h] at h2 h3;refine⟨p',w',m',?_,h2,h3⟩;have Qp:(zeroValue t).run P w=.ok z w:=by simp [zeroValue,typeInfo,hi,hz]
 simp only [Instr.alloc,qx,Qp,qw];exact h1
def Cb (Kt:Nat->Option (Nat×Nat)):List (Nat×Value)->List Value->Option (List Value)
 | [],cs=>some cs
 | (i,v)::fv,cs=>
   match Kt i with
   | some (off,size)=>if v.cells.size=size/\off+size<=cs.length then Cb Kt fv (fA cs off v.cells.toList) else none
   | none=>none
theorem u5 {m:Mp} {Kt:Nat->Option (Nat×Nat)}:∀(kD io:List (Nat×Value)) (cs r:List Value) (tu:Array Value),Cb Kt kD cs=some r->iV m cs tu.toList->
 kD.length=io.length->(∀(k:Nat) (p p':Nat×Value),kD[k]? = some p->io[k]? = some p'->p.1=p'.1/\bI m p.2 p'.2)->
 ∃r',kay Kt tu io=some r'/\iV m r r'.toList
 | [],io,cs,r,tu,h,hc,hl,_=>by
   cases io with
   | cons _ _=>simp at hl
   | nil=>
     injection h with h;subst h;exact⟨tu,rfl,hc⟩
 | (i,v)::fv,io,cs,r,tu,h,hc,hl,hp=>by
   cases io with
   | nil=>simp at hl
   | cons p' rest'=>
     obtain⟨i',v'⟩:=p';obtain⟨h1,h2⟩:=hp 0 _ _ rfl rfl;simp only at h1 h2;subst h1;unfold Cb at h;split at h;rename_i off size mO;split at h;rename_i AO;obtain⟨hz,fO⟩:=AO;have kJ:=h2.cells;have hz':v'.cells.size=size:=by have:=kJ.1;simp at this;omega
     have vS:tu.size=cs.length:=by have:=hc.1;simp at this;omega
     have Tk:=AU v'.cells.toList tu off 0 (by simp;omega);obtain⟨r',h3,h4⟩:=u5 fv rest' _ r (v'.cells.zipIdx.foldl (λcs (c,j)=>cs.setIfInBounds (off+j) c) tu) h (by
      rw [<-kbm,Array.toList_zipIdx,Tk];exact uy _ _ _ _ _ hc kJ (by simp;omega)) (by simpa using hl) (λk p p' a b=>hp (k+1) p p' (by simpa using a) (by simpa using b))
     refine⟨r',?_,h4⟩;simp only [kay,mO,hz',ne_eq,not_true_eq_false,decide_false,Bool.false_or,vS,decide_eq_true_eq];rw [aw (by omega)];exact h3;cases h;cases h
def Bd (P:Program) (fs:List Field):Option (List (Nat×Nat)):=
 match fs with
 | []=>some []
 | f::r=>
   match P.info? f.type,Bd P r with
   | some i,some l=>some ((f.offset,i.size)::l)
   | _,_=>none
theorem CX {P:Program} {w:World}:∀(fs:List Field) (l:List (Nat×Nat)),Bd P fs=some l->
 (fs.mapM λf=>(do pure (f.offset,<-sizeOf f.type):Sem (Nat×Nat))).run P w=.ok l w
 | [],l,h=>by injection h with h;subst h;rfl
 | f::r,l,h=>by
   unfold Bd at h;split at h;rename_i i l' hi hl;injection h with h;subst h;simp only [List.mapM_cons,qx,gt hi,qw,qF,CX r l' hl];cases h
theorem wi {P:Program} {w w':World} {α β:Type} (f:α->Sem β) (l:Array α) (r:List β) (h:(l.toList.mapM f).run P w=.ok r w') :
 (l.mapM f).run P w=.ok r.toArray w':=by
 rw [Array.mapM_eq_mapM_toList];simp only [Sem.run_map,h,qw]
def Jz (P:Program) (t:TypeId) (kD:List (Nat×Value)):Option Value:=
 match P.info? t with
 | some i=>
   match i.zero with
   | some z=>
     if z.cells.toList.all fD then
      match P.underlying t with
      | some (.struct fs)=>
        match Bd P fs.toList with
        | some l=>
          match Cb (λk=>l[k]?) kD z.cells.toList with
          | some cs=>some (.agg cs.toArray)
          | none=>none
        | none=>none
      | some (.array _ e)=>
        match P.info? e with
        | some ie=>
          match Cb (λk=>some (k*ie.size,ie.size)) kD z.cells.toList with
          | some cs=>some (.agg cs.toArray)
          | none=>none
        | none=>none
      | _=>none
     else none
   | none=>none
 | none=>none
theorem Jy {P:Program} {m:Mp} {t:TypeId} {kD:List (Nat×Value)} {io:Array (Nat×Value)} {v:Value}
 (h:Jz P t kD=some v) (hl:kD.length=io.size)
 (hp:∀(k:Nat) (p p':Nat×Value),kD[k]? = some p->io[k]? = some p'->p.1=p'.1/\bI m p.2 p'.2) :
 ∃v',bI m v v'/\∀w,(Instr.build t io).run P w=.ok v' w:=by
 unfold Jz at h;split at h<;>try(cases h;done)
 rename_i i hi;split at h<;>try(cases h;done)
 rename_i z hz;split at h<;>try(cases h;done)
 rename_i iK;have Qp:∀w,(zeroValue t).run P w=.ok z w:=λw=>by simp [zeroValue,typeInfo,hi,hz]
 split at h<;>try(cases h;done)
 . rename_i fs hu;split at h<;>try(cases h;done)
   rename_i l mO;split at h<;>try(cases h;done)
   rename_i cs hcs;injection h with h;subst h;obtain⟨r',h1,h2⟩:=u5 (m:=m) kD io.toList _ cs z.cells hcs (.nW iK m) (by simpa using hl) (λk p p' a b=>hp k p p' a (by simpa using b));refine⟨.agg r',?_,λw=>?_⟩;have:=bI.sF h2
   simpa using this
   have hm:=wi _ fs l (CX (w:=w) fs.toList l mO);simp only [Instr.build,qx,Qp,qw,run_underlying hu,hm];have e:(λ(x:Nat)=>l.toArray[x]?)=fun(k:Nat)=>l[k]?:=by funext k;simp
   rw [e,h1];rfl
 rename_i n e hu;split at h<;>try(cases h;done)
 rename_i ie IV;split at h<;>try(cases h;done)
 rename_i cs hcs;injection h with h;subst h;obtain⟨r',h1,h2⟩:=u5 (m:=m) kD io.toList _ cs z.cells hcs (.nW iK m) (by simpa using hl) (λk p p' a b=>hp k p p' a (by simpa using b));refine⟨.agg r',?_,λw=>?_⟩;have:=bI.sF h2
 simpa using this
 simp only [Instr.build,qx,Qp,qw,run_underlying hu,gt IV,h1,qF]
def nC (P:Program) (t:TypeId) (x:Value):Option Value:=
 match P.underlying t,x with
 | some .string,.string s=>some (.int .i64 s.size)
 | some (.slice _),.slice _ n _=>some (.int .i64 n)
 | some (.array n _),_=>some (.int .i64 n)
 | _,_=>none
theorem Ok {P:Program} {m:Mp} {t ty:TypeId} {x x' v:Value} (h:nC P t x=some v) (hx:bI m x x') :
 bI m v v/\∀w,(kba #[t] ty #[x']).run P w=.ok v w:=by
 unfold nC at h;split at h;rename_i s hu;injection h with h;subst h;cases hx
 exact⟨by constructor,λw=>by simp [kba,run_underlying hu,goInt]⟩;rename_i e a n c hu;injection h with h;subst h
 cases hx<;>exact⟨by constructor,λw=>by simp [kba,run_underlying hu,goInt]⟩;rename_i n e hu;injection h with h;subst h
 exact⟨by constructor,λw=>by simp [kba,run_underlying hu,goInt]⟩;cases h
def Ui (mx:Bool):List Value->Option Value
 | [.int k a,.int k' b]=>if k=k' then some (.int k (if mx then (if a<b then b else a) else (if b<a then b else a))) else none
 | _=>none
theorem FB {P:Program} {m:Mp} {ts:Array TypeId} {ty:TypeId} {mx:Bool} {l:List Value} {l':Array Value} {v:Value} (h:Ui mx l=some v) (hl:iV m l l'.toList) :
 bI m v v/\∀w,((if mx then Builtin.max_ ts ty l' else Builtin.min_ ts ty l')).run P w=.ok v w:=by
 unfold Ui at h;split at h;rename_i k a k' b;obtain⟨x',t',e1,h1,h2⟩:=hl.mf;obtain⟨y',t'',e2,h3,h4⟩:=h2.mf;have e3:=h4.pT;cases h1;cases h3;subst e3;subst e2;have hl':l' = #[.int k a,.int k' b]:=by apply Array.ext';exact e1
 subst hl';split at h;injection h with h;subst h;cases mx;exact⟨by constructor,λw=>by simp [Builtin.min_,Builtin.min2]⟩;refine⟨by constructor,λw=>?_⟩;simp [Builtin.max_,Builtin.max2];cases h;cases h
def u6 (P:Program) (t:TypeId) (x:Value):Option Value:=
 match P.underlying t with
 | some (.interface _)=>none
 | some _=>some (.iface t x)
 | none=>none
theorem Cc {P:Program} {m:Mp} {t:TypeId} {x x' v:Value} (h:u6 P t x=some v) (hx:bI m x x') :
 ∃v',bI m v v'/\∀w,(Instr.makeInterface t x').run P w=.ok v' w:=by
 unfold u6 at h;cases hu:P.underlying t with
 | none=>simp [hu] at h
 | some d=>
   rw [hu] at h
   cases d<;>simp only [qs] at h<;>(try (cases h;done))<;>subst h <;>
    exact⟨.iface t x',.iface t hx,λw=>by simp [Instr.makeInterface,run_underlying hu]⟩
end Go.Stx
namespace Go.Stx
open Go
variable [Gl]
open Go.MapKept (run_findKey)
def mJ:TypeDesc->Bool
 | .int _=>true
 | .string=>true
 | _=>false
def oO (d:TypeDesc) (k:Value):List (Value×Value)->Bool
 | []=>true
 | e::es=>
   match Zz d k e.1 with
   | some false=>oO d k es
   | _=>false
def eX (d:TypeDesc) (k:Value):List (Value×Value)->Nat->Option (Option (Nat×Value))
 | [],_=>some none
 | e::es,i=>
   match Zz d k e.1 with
   | some true=>match oO d k es with|true=>some (some (i,e.2))|false=>none
   | some false=>eX d k es (i+1)
   | none=>none
theorem uP {d:TypeDesc} {k:Value}:∀{es:List (Value×Value)},oO d k es=true↔∀x∈es,Zz d k x.1=some false
 | []=>by simp [oO]
 | e::es=>by
   unfold oO;split;rename_i h;rw [uP];simp [h];rename_i h;simp only [qt,false_iff];intro hx;exact h (hx e (by simp))
theorem tz {d:TypeDesc} {k:Value}:∀{es:List (Value×Value)} {n:Nat},eX d k es n=some none↔∀x∈es,Zz d k x.1=some false
 | [],n=>by simp [eX]
 | e::es,n=>by
   unfold eX;split;rename_i h;constructor;intro h1;split at h1<;>cases h1;intro h1;have:=h1 e (by simp);rw [h] at this;cases this;rename_i h;rw [tz];simp [h];rename_i h;constructor;intro h1;cases h1;intro h1;have:=h1 e (by simp);rw [h] at this;cases this
theorem oM {d:TypeDesc} {k v:Value}:∀{es:List (Value×Value)} {n m:Nat},eX d k es n=some (some (m,v)) ↔
 ∃l x r,es=l++x::r/\m=n+l.length/\x.2=v/\Zz d k x.1=some true/\∀y∈l++r,Zz d k y.1=some false
 | [],n,m=>by
   constructor;intro h;cases h;rintro ⟨l,x,r,h,_⟩;cases l<;>cases h
 | e::es,n,m=>by
   unfold eX;constructor;intro h;split at h;rename_i h1;split at h;rename_i h2;simp only [qs,qO] at h;exact⟨[],e,es,rfl,by simp [h.1],h.2,h1,uP.1 h2⟩;cases h;rename_i h1;obtain⟨l,x,r,rfl,rfl,h3,h4,h5⟩:=oM.1 h;refine⟨e::l,x,r,rfl,by simp;omega,h3,h4,λy hy=>?_⟩;simp only [aa,List.mem_cons] at hy;rcases hy with rfl|hy;exact h1;exact h5 y hy;cases h;rintro ⟨l,x,r,h,rfl,h3,h4,h5⟩;cases l with
   | nil=>
     simp only [af,List.cons.injEq] at h;obtain⟨rfl,rfl⟩:=h;rw [h4];simp only;rw [uP.2 (by simpa using h5)];simp [h3]
   | cons y l=>
     simp only [aa,List.cons.injEq] at h;obtain⟨rfl,rfl⟩:=h;rw [h5 e (by simp)];simp only;rw [oM];exact⟨l,x,r,rfl,by simp;omega,h3,h4,λz hz=>h5 z (by simp only [aa,List.mem_cons];exact .inr hz)⟩
theorem rY {d:TypeDesc} {k:Value} {es zu:List (Value×Value)} (hp:es.Perm zu) (h:eX d k es 0=some none):eX d k zu 0=some none:=
 tz.2 λx hx=>tz.1 h x (hp.mem_iff.2 hx)
theorem yD {d:TypeDesc} {k v:Value} {es zu:List (Value×Value)} (hp:es.Perm zu) {i:Nat} (h:eX d k es 0=some (some (i,v))) :
 ∃i',eX d k zu 0=some (some (i',v))/\∀y,(es.set i y).Perm (zu.set i' y):=by
 obtain⟨l,x,r,rfl,rfl,h3,h4,h5⟩:=oM.1 h;obtain⟨l',r',rfl⟩:=List.append_of_mem (hp.mem_iff.1 (show x∈l++x::r by simp));have GJ:(l++r).Perm (l'++r'):=(ka0.symm.trans (hp.trans ka0)).cons_inv;refine⟨0+l'.length,oM.2 ⟨l',x,r',rfl,rfl,h3,h4,λy hy=>h5 y (GJ.mem_iff.2 hy)⟩,λy=>?_⟩;have e1:∀(a b:List (Value×Value)),(a++x::b).set (0+a.length) y=a++y::b:=λa b=>by simp
 rw [e1,e1];exact ka0.trans ((GJ.cons y).trans ka0.symm)
theorem Ct {m:Mp} {d:TypeDesc} {a a' b b':Value} {r:Bool} (h:Zz d a b=some r) (ha:bI m a a') (hb:bI m b b'):Zz d a' b'=some r:=by
 unfold Zz at h;split at h;cases ha;cases hb;exact h;cases ha;cases hb;exact h;cases ha;cases hb;exact h;cases h
theorem Il {d:TypeDesc} {a b:Value} (h:Zz d a b=some true):kbq 10000 b a=true:=by
 unfold Zz at h;split at h;rename_i k x k' y;split at h;rename_i e;subst e;simp only [qs,beq_iff_eq] at h;subst h;simp [kbq];cases h;rename_i x y;simp only [qs] at h;have e:x.data=y.data:=eq_of_beq (show (x.data == y.data)=true from h);show (y.data == x.data)=true;rw [e];exact beq_self_eq_true _;simp only [qs] at h;have:=LawfulBEq.eq_of_beq h;subst this;simp [kbq];cases h
theorem ml {m:Mp} {d:TypeDesc} {k k':Value} (hk:bI m k k'):∀(es:List (Value×Value)) (k8:List MapEntry) (i:Nat) (r:Option (Nat×Value)),
 es.length=k8.length->(∀(j:Nat) (x:Value×Value) (e:MapEntry),es[j]? = some x->k8[j]? = some e->bI m x.1 e.key/\bI m x.2 e.val)->
 eX d k es i=some r->∃r',ka8 d k' k8 i=some r'/\
  ((r=none/\r'=none)\/∃j v v' e,r=some (i+j,v)/\r'=some (i+j,v')/\bI m v v'/\k8[j]? = some e/\Zz d k' e.key=some true)
 | [],k8,i,r,hl,_,h=>by
   cases k8 with
   | cons _ _=>simp at hl
   | nil=>injection h with h;subst h;exact⟨none,rfl,.inl ⟨rfl,rfl⟩⟩
 | x::es,k8,i,r,hl,hr,h=>by
   cases k8 with
   | nil=>simp at hl
   | cons e k8=>
     obtain⟨h1,h2⟩:=hr 0 x e rfl rfl;unfold eX at h;split at h
     . rename_i hs;split at h<;>try(cases h;done)
       injection h with h;subst h;have Qr:=Ct hs hk h1;exact⟨some (i,e.val),by simp [ka8,Qr],.inr ⟨0,x.2,e.val,e,rfl,rfl,h2,rfl,Qr⟩⟩
     rename_i hs;have Qr:=Ct hs hk h1;obtain⟨r',h3,h4⟩:=ml hk es k8 (i+1) r (by simpa using hl) (λj y f a b=>hr (j+1) y f (by simpa using a) (by simpa using b)) h;refine⟨r',by simp [ka8,Qr,h3],?_⟩;rcases h4 with h4|⟨j,v,v',e',h5,h6,h7,h8,h9⟩;exact .inl h4;refine .inr ⟨j+1,v,v',e',?_,?_,h7,by simpa using h8,h9⟩;rw [h5,show i+1+j=i+(j+1) by omega];rw [h6,show i+1+j=i+(j+1) by omega];cases h
theorem Gk {P:Program} {w:World} {kt:TypeId} {d:TypeDesc} {k:Value} (hd:P.underlying kt=some d) (hk:mJ d=true) (e:Bool) (n:Nat) :
 (kbr e (n+1) kt k).run P w=.ok () w:=by
 have:d=.string\/∃i,d=.int i:=by
  unfold mJ at hk;split at hk;exact .inr ⟨_,rfl⟩;exact .inl rfl;cases hk
 unfold kbr;rw [qx,run_underlying hd];rcases this with rfl|⟨i,rfl⟩<;>rfl
theorem lY {P:Program} {w:World} {kt:TypeId} {d:TypeDesc} {k:Value} (hd:P.underlying kt=some d) (hk:mJ d=true) (e:Bool) :
 (kbr e 10000 kt k).run P w=.ok () w:=Gk hd hk e 9999
def wZ (P:Program) (e:TypeId) (A9:Bool):Option Value:=
 match P.info? e with
 | some i=>
   match i.zero with
   | some z=>if xE z then (if A9 then (if fD z then some (.tuple #[z,.bool false]) else none) else some z) else none
   | none=>none
 | none=>none
def Bg (P:Program) (A:AW) (t:TypeId) (x ix:Value) (A9:Bool):Option Value:=
 match P.underlying t with
 | some (.map kt e)=>
   match P.underlying kt with
   | some d=>
     if mJ d then
      match x with
      | .map none=>wZ P e A9
      | .map (some r)=>
        match A.bp r with
        | some (.map es _)=>
          match eX d ix es 0 with
          | some (some (_,v))=>some (if A9 then .tuple #[v,.bool true] else v)
          | some none=>wZ P e A9
          | none=>none
        | _=>none
      | _=>none
     else none
   | none=>none
 | _=>none
theorem yC {P:Program} {e:TypeId} {c:Bool} {v:Value} (h:wZ P e c=some v) (m:Mp) :
 bI m v v/\∃z,v=(if c then .tuple #[z,.bool false] else z)/\∀w,(zeroValue e).run P w=.ok z w:=by
 unfold wZ at h;split at h<;>try(cases h;done)
 rename_i i hi;split at h<;>try(cases h;done)
 rename_i z hz;split at h<;>try(cases h;done)
 rename_i hg;have Qp:∀w,(zeroValue e).run P w=.ok z w:=λw=>by simp [zeroValue,typeInfo,hi,hz]
 cases c;simp only [qt,if_false,qs] at h;subst h;exact⟨.xr hg m,z,rfl,Qp⟩;simp only [if_true] at h;split at h<;>try(cases h;done)
 rename_i hs;injection h with h;subst h;exact⟨.xr (v:=.tuple #[z,.bool false]) (show (#[z,Value.bool false]:Array Value).all fD=true by simp [hs];rfl) m,z,rfl,Qp⟩
theorem bI.pair {m:Mp} {a a' b b':Value} (h:bI m a a') (k:bI m b b'):bI m (.tuple #[a,b]) (.tuple #[a',b']):=by
 refine .tuple rfl λi v v' h1 h2=>?_
 match i with
 | 0=>simp at h1 h2;subst h1;subst h2;exact h
 | 1=>simp at h1 h2;subst h1;subst h2;exact k
 | i+2=>simp at h1
theorem GY {P:Program} {m:Mp} {A:AW} {w:World} (hs:j6 m A w) {t:TypeId} {x x' ix ix' v:Value} {c:Bool} (h:Bg P A t x ix c=some v)
 (hx:bI m x x') (YY:bI m ix ix'):∃v',bI m v v'/\∀w',(∀b,b<w.heap.size->w'.heap[b]? = w.heap[b]?)->(kbb t x' ix' c).run P w'=.ok v' w':=by
 unfold Bg at h;split at h<;>try(cases h;done)
 rename_i kt e hu;split at h<;>try(cases h;done)
 rename_i d hd;split at h<;>try(cases h;done)
 rename_i vD;split at h<;>try(cases h;done)
 cases hx;obtain⟨h1,z,rfl,h2⟩:=yC h m;refine⟨_,h1,λw' _=>?_⟩;simp only [kbb,qx,run_underlying hu,qw,qF,lY hd vD,run_findKey hd (l:=(#[]:Array MapEntry).toList) (k:=ix') (a:=none) (show ka8 d ix' [] 0=some none from rfl),h2];rename_i r;split at h<;>try(cases h;done)
 rename_i es own hg;obtain⟨p,hp,k8,aB,zu,hpm,hh,hl,wF⟩:=hs.Gu _ _ hg;cases hx with
 | map hx=>
   rename_i r';obtain⟨p',VG,rfl⟩:=hx;rw [hp] at VG;injection VG with VG;subst VG;have hb:p.block<w.heap.size:=(qr.1 hh).1;split at h;rename_i i v0 VO;obtain⟨i',hf,_⟩:=yD hpm VO;obtain⟨r',h3,h4⟩:=ml YY zu k8.toList 0 _ (by simpa using hl) (λj y f a b=>wF j y f a (by simpa using b)) hf;rcases h4 with ⟨h4,_⟩|⟨j,v1,v',e',h5,rfl,h7,_,_⟩;cases h4;injection h5 with h5;injection h5 with h5 h6;subst h6;injection h with h;subst h;refine⟨if c then .tuple #[v',.bool true] else v',?_,λw' he=>?_⟩;cases c;exact h7;exact .pair h7 (.bool true);have hh':w'.heap[p.block]? = some (.map k8 aB):=(by rw [he _ hb];exact hh);simp only [kbb,qx,run_underlying hu,qw,qF,kaV hh',lY hd vD,run_findKey hd h3];rename_i VO;have hf:=rY hpm VO;obtain⟨r',h3,h4⟩:=ml YY zu k8.toList 0 _ (by simpa using hl) (λj y f a b=>wF j y f a (by simpa using b)) hf
   rcases h4 with ⟨_,rfl⟩|⟨j,v1,v',e',h5,_⟩;obtain⟨h1,z,rfl,h2⟩:=yC h m;refine⟨_,h1,λw' he=>?_⟩;have hh':w'.heap[p.block]? = some (.map k8 aB):=(by rw [he _ hb];exact hh);simp only [kbb,qx,run_underlying hu,qw,qF,kaV hh',lY hd vD,run_findKey hd h3,h2];cases h5;cases h
def Bf (P:Program) (A:AW) (t:TypeId) (x:Option Value):Option (Value×AW):=
 match x with
 | none=>some (.map (some A.next),A.alloc (.map [] true))
 | some (.int _ _)=>
   match P.underlying t with
   | some (.map _ _)=>some (.map (some A.next),A.alloc (.map [] true))
   | _=>none
 | _=>none
theorem Ew {m:Mp} {A:AW} {w:World} (hs:j6 m A w) :
 j8 m A w (m.ext A.next ⟨w.heap.size,0,0,0⟩) (A.alloc (.map [] true)) (w.alloc (.map #[] 0)):=
 j8.TD hs (.map [] true) ⟨w.heap.size,0,0,0⟩ rfl rfl rfl (by simp) (λb hb=>AM w _ b hb) (qf _)
  ⟨#[],0,[],List.Perm.nil,AN w _,rfl,λk x e h=>by simp at h⟩
theorem FD {P:Program} {m:Mp} {A A1:AW} {w:World} (hs:j6 m A w) {t:TypeId} {x x':Option Value} {v:Value} (h:Bf P A t x=some (v,A1)) (hx:xW m x x') :
 ∃v' w' m',(Instr.makeMap t x').run P w=.ok v' w'/\j8 m A w m' A1 w'/\bI m' v v':=by
 unfold Bf at h;split at h
 . cases x' with
   | some _=>exact hx.elim
   | none=>
     simp only [qs,qO] at h;obtain⟨rfl,rfl⟩:=h;refine⟨.map (some w.heap.size),_,_,?_,Ew hs,.map ⟨⟨w.heap.size,0,0,0⟩,by simp [Mp.ext],rfl⟩⟩;simp only [Instr.makeMap,qx,qF,qw,run_newObj];rfl
 . rename_i k n;cases x' with
   | none=>exact hx.elim
   | some x'=>
     split at h<;>try(cases h;done)
     rename_i kt e hu;simp only [qs,qO] at h;obtain⟨rfl,rfl⟩:=h;have Yy:bI m (.int k n) x':=hx;cases Yy;refine⟨.map (some w.heap.size),_,_,?_,Ew hs,.map ⟨⟨w.heap.size,0,0,0⟩,by simp [Mp.ext],rfl⟩⟩;simp only [Instr.makeMap,qx,run_underlying hu,qw,Hg,qF,run_newObj];rfl
 cases h
def gv (P:Program) (A:AW) (t:TypeId) (x k v:Value):Option AW:=
 match P.underlying t,x with
 | some (.map kt _),.map (some r)=>
   match P.underlying kt,A.bp r with
   | some d,some (.map es true)=>
     if mJ d then
      match eX d k es 0 with
      | some (some (i,_))=>some (A.set r (some (.map (es.set i (k,v)) true)))
      | some none=>some (A.set r (some (.map (es++[(k,v)]) true)))
      | none=>none
     else none
   | _,_=>none
 | _,_=>none
theorem ul {P:Program} {m:Mp} {A A1:AW} {w:World} (hs:j6 m A w) {t:TypeId} {x x' k k' v v':Value} (h:gv P A t x k v=some A1)
 (hx:bI m x x') (hk:bI m k k') (hv:bI m v v'):∃w',(kbp t x' k' v').run P w=.ok () w'/\j8 m A w m A1 w':=by
 unfold gv at h;split at h<;>try(cases h;done)
 rename_i kt e r hu;split at h<;>try(cases h;done)
 rename_i d es hd hg;split at h<;>try(cases h;done)
 rename_i vD;obtain⟨p,hp,k8,aB,zu,hpm,hh,hl,wF⟩:=hs.Gu _ _ hg;have hb:p.block<w.heap.size:=(qr.1 hh).1;cases hx with
 | map hx=>
   rename_i r';obtain⟨p',VG,rfl⟩:=hx;rw [hp] at VG;injection VG with VG;subst VG;have jJ:∀(o:Obj) (j:Nat),j≠p.block->(w.heap.setIfInBounds p.block o)[j]? = w.heap[j]?:=λo j hj=>by rw [kaU (by omega)]
   have Eb:∀(o:Obj),(w.heap.setIfInBounds p.block o)[p.block]? = some o:=λo=>by simp [hb]
   split at h;rename_i i0 v0 VO;injection h with h;subst h;obtain⟨i,hf,j5⟩:=yD hpm VO;obtain⟨r',h3,h4⟩:=ml hk zu k8.toList 0 _ (by simpa using hl) (λj y f a b=>wF j y f a (by simpa using b)) hf;rcases h4 with ⟨h4,_⟩|⟨j,v1,v'',e',h5,rfl,h7,h8,h9⟩;cases h4;injection h5 with h5;injection h5 with h5 h6;simp only [Zj] at h5 h3;subst h5;have hi:i<k8.size:=by
    have:=(qK.1 h8).1
    simpa using this
   have h8':k8[i]? = some e':=by simpa using h8
   have hkts:(Instr.keyThatStays (((k8[i]?).map (·.key)).getD k') k').run P w=.ok k' w:=by
    simp [h8',Instr.keyThatStays,Il h9]
   refine⟨{ w with heap:=w.heap.setIfInBounds p.block (.map (k8.modify i λe=>{ e with key:=k',val:=v' }) aB) },?_,?_⟩;simp only [kbp,qx,run_underlying hu,qw,kaV hh,lY hd vD,run_findKey hd h3,hkts,kbu _ hh];refine j8.wg hs hg rfl rfl hp (by simp) rfl rfl rfl ⟨_,aB,zu.set i (k,v),j5 _,Eb _,by simp [hl],λj y f a b=>?_⟩ (jJ _);by_cases nj:i=j;subst nj;rw [Zd (by omega)] at a;injection a with a;subst a;simp [kan,h8'] at b;subst b;exact⟨hk,hv⟩;rw [Zo nj] at a;rw [kan,aw nj] at b;exact wF j y f a b;rename_i VO;injection h with h;subst h;have hf:=rY hpm VO;obtain⟨r',h3,h4⟩:=ml hk zu k8.toList 0 _ (by simpa using hl) (λj y f a b=>wF j y f a (by simpa using b)) hf;rcases h4 with ⟨_,rfl⟩|⟨j,v1,v'',e',h5,_⟩;refine⟨{ w with heap:=w.heap.setIfInBounds p.block (.map (k8.push { key:=k',val:=v',born:=aB }) (aB+1)) },?_,?_⟩
   simp only [kbp,qx,run_underlying hu,qw,kaV hh,lY hd vD,run_findKey hd h3,kbu _ hh];refine j8.wg hs hg rfl rfl hp (by simp) rfl rfl rfl ⟨_,aB+1,zu++[(k,v)],hpm.append_right _,Eb _,by simp [hl],λj y f a b=>?_⟩ (jJ _);rw [kaW] at a;rw [Array.getElem?_push] at b;by_cases hj:j<zu.length;rw [aA hj] at a;rw [aw (by omega)] at b;exact wF j y f a b;rw [aw hj] at a;have yn:j=zu.length:=by
    have:=(qK.1 a).1;simp at this;omega
   subst yn;rw [aA hl] at b;simp at a b;subst a;subst b;exact⟨hk,hv⟩;cases h5;cases h
theorem fD.Am {v:Value} (h:fD v=true):v.oneCell'=true:=by
 unfold fD at h;split at h<;>first|rfl|(cases h;done)
def Jt (P:Program) (A:AW) (t:TypeId) (x:Value):Option AW:=
 match P.underlying t,x with
 | some (.slice _),.slice none 0 0=>some A
 | some (.slice e),.slice (some p) n _=>
   if n=0 then some A else
   match P.info? e,A.bp p.block with
   | some i,some (.cells cs true unit)=>
     match i.zero with
     | some z=>
       if z.cells.size=i.size/\0<i.size/\z.cells.toList.all fD/\p.off+n*i.size<=cs.length then
        some (A.set p.block (some (.cells (fA cs p.off (fB z.cells.toList n)) true unit)))
       else none
     | none=>none
   | _,_=>none
 | _,_=>none
theorem Js {P:Program} {m:Mp} {A A1:AW} {w:World} (hs:j6 m A w) {t ty:TypeId} {x x':Value} (h:Jt P A t x=some A1) (hx:bI m x x') :
 ∃w',(ka4 #[t] ty #[x']).run P w=.ok undef w'/\j8 m A w m A1 w':=by
 unfold Jt at h;split at h<;>try(cases h;done)
 rename_i e hu;cases hx;injection h with h;subst h;exact⟨w,by simp [ka4,run_underlying hu,undef],j8.refl hs⟩;rename_i e p n c hu;split at h;rename_i h0;subst h0;injection h with h;subst h;cases hx;exact⟨w,by simp [ka4,run_underlying hu,undef],j8.refl hs⟩;rename_i h0;split at h<;>try(cases h;done)
 rename_i i cs unit hi hg;split at h<;>try(cases h;done)
 rename_i z hz;split at h<;>try(cases h;done)
 rename_i hc;obtain⟨oK,ud,iK,rN⟩:=hc;injection h with h;subst h;cases hx with
 | slice hh h1 h2=>
   rename_i p' i6;have ha:rh m p p':=by
    rcases hh with hh|hh;exact hh.Ue;omega
   obtain⟨zN,Ld,q,hm,hb,ho⟩:=ha;have SQ:=sV z.cells n (by omega);have kv:=oL iK n;have bX:(fB z.cells.toList n).length=n*i.size:=(by rw [jE];simp [oK])
   obtain⟨w',hr,ev⟩:=rz (P:=P) (o:=p.off) hm (fB z.cells.toList n) (fB z.cells.toList n) 0 cs A w hs hg (.nW kv m)
    (λv hv=>fD.Am (qC.1 kv v hv)) (by omega)
   have ea:p'=⟨q.block,q.base+p.off,none⟩:=(by rw [Bl p' Ld,hb,ho]);subst ea;refine⟨w',?_,by simpa using ev⟩;have Qp:(zeroValue e).run P w=.ok z w:=(by simp [zeroValue,typeInfo,hi,hz]);obtain⟨n,rfl⟩:=Nat.exists_eq_succ_of_ne_zero h0;have hzc':(Zf z.cells (n+1)).toList=fB z.cells.toList (n+1):=SQ;simp only [ka4,Zn,List.getElem?_cons_zero,qx,run_underlying hu,qw,Qp,hzc',hr,qF];rfl
def oV (P:Program) (A:AW) (t u:TypeId) (s x:Value):Option (Value×AW):=
 match P.underlying t,P.underlying u,x with
 | some (.slice e),some (.int _),.int _ q=>
   match P.info? e with
   | some i=>
     match i.zero with
     | some z=>
       match gO A i.size s with
       | some (base,k,uJ)=>
         if z.cells.size=i.size/\0<i.size/\z.cells.toList.all fD/\0<=q/\k+q.toNat<=140737488355328/\(k+q.toNat)*i.bytes<=140737488355328 then
          if q.toNat=0 then some (s,A)
          else some (.slice (some ⟨A.next,0,none⟩) (k+q.toNat) (k+q.toNat),((match base with|some a=>A.set a.block none|none=>A)).alloc (.cells (uJ++fB z.cells.toList q.toNat) true i.size))
         else none
       | none=>none
     | none=>none
   | none=>none
 | _,_,_=>none
theorem BG {P:Program} (w:World) (t tn ty e:TypeId) (i:TypeInfo) (kn kq:IntKind) (ht:P.underlying t=some (.slice e)) (htn:P.underlying tn=some (.int kn)) (hi:P.info? e=some i)
 (base:Option Addr) (n c:Nat) (hc:n<=c):(Zy #[t,tn] ty #[.slice base n c,.int kq 0]).run P w=.ok (.slice base n c) w:=by
 have hw:qg.wrap (0:Int)=0:=rfl;cases base<;>simp [Zy,run_underlying ht,run_underlying htn,sizeOf,typeInfo,hi,asInt,asIntOf,hw,hc,storeCells]
theorem BH {P:Program} (w:World) (t tn ty e:TypeId) (i:TypeInfo) (z:Value) (kn kq:IntKind) (ht:P.underlying t=some (.slice e)) (htn:P.underlying tn=some (.int kn)) (hi:P.info? e=some i) (hz:i.zero=some z)
 (g o jo pf m:Nat) (iT:Array Value) (e':TypeId) (hg:w.heap[g]? = some (.cells iT e' (0,0))) (h0:0<m) (hs:0<i.size) (h48:m*i.bytes<=281474976710656) (h63:(m:Int)<=9223372036854775807)
 (h1:∀u∈(Zf z.cells m).toList,u.oneCell'=true) (EM:jo+m<=pf) (rN:o+jo*i.size+(Zf z.cells m).toList.length<=iT.size) :
 (Zy #[t,tn] ty #[.slice (some ⟨g,o,none⟩) jo pf,.int kq m]).run P w =
  .ok (.slice (some ⟨g,o,none⟩) (jo+m) pf) (w.setRow g (iT.toList.take (o+jo*i.size)++(Zf z.cells m).toList++iT.toList.drop (o+jo*i.size+(Zf z.cells m).toList.length)).toArray):=by
 have hk:m≠0:=by omega
 have hw:qg.wrap (m:Int)=m:=ar (by omega) h63;have h48i:¬(281474976710656<(m:Int)*(i.bytes:Int)):=by
  rw [<-Int.natCast_mul];omega
 have Lj:¬((m:Int)<0):=by omega
 have hns:¬(m*i.size=0):=Nat.mul_ne_zero hk (by omega);have dy:=run_storeCells_at P g (o+jo*i.size) e' (Zf z.cells m).toList 0 iT w hg (by simpa using rN) h1;simp only [Nat.add_zero] at dy;have ea:(⟨g,o,none⟩:Addr).add (jo*i.size)=⟨g,o+jo*i.size,none⟩:=nD _ _ rfl;simp [Zy,run_underlying ht,run_underlying htn,sizeOf,typeInfo,zeroValue,hi,hz,asInt,asIntOf,hw,Lj,hns,h48i,EM,ea,dy]
theorem GV {P:Program} {m:Mp} {A A1:AW} {w:World} (hs:j6 m A w) {t u ty:TypeId} {s x s' x' v:Value} (h:oV P A t u s x=some (v,A1))
 (Nr:bI m s s') (hvx:bI m x x') :
 ∃v' w' m',(Zy #[t,u] ty #[s',x']).run P w=.ok v' w'/\j8 m A w m' A1 w'/\bI m' v v':=by
 unfold oV at h;split at h<;>try(cases h;done)
 rename_i e kn kq q hu Vx;cases hvx;split at h<;>try(cases h;done)
 rename_i i hi;split at h<;>try(cases h;done)
 rename_i z hz;split at h<;>try(cases h;done)
 rename_i base k uJ ho;split at h<;>try(cases h;done)
 rename_i AO;obtain⟨oK,vS,iK,EN,JP,kS⟩:=AO;obtain⟨n,rfl⟩:=Int.eq_ofNat_of_zero_le EN;simp only [Int.toNat_natCast] at h JP kS;by_cases ES:n=0;subst ES;rw [aA rfl] at h;simp only [qs,qO] at h;obtain⟨rfl,rfl⟩:=h;have Nv:∃b' n' c',s'=.slice b' n' c'/\n'<=c':=by
  unfold gO at ho;split at ho;cases Nr;exact⟨_,_,_,rfl,qf _⟩
  . cases Nr with
    | slice _ h1 h2=>exact⟨_,_,_,rfl,qM h1 h2⟩
  cases ho
 obtain⟨b',n',c',rfl,fO⟩:=Nv;exact⟨_,w,m,BG w t u ty e i kn kq hu Vx hi b' n' c' fO,j8.refl hs,Nr⟩;rw [aw ES] at h;simp only [qs,qO] at h;obtain⟨rfl,rfl⟩:=h;have SQ:(Zf z.cells n).toList=fB z.cells.toList n:=sV z.cells n (by omega);have kv:=oL iK n;have mP:∀v∈fB z.cells.toList n,v.oneCell'=true:=λv hv=>fD.Am (qC.1 kv v hv);have GK:n*i.bytes<=140737488355328:=qM (Nat.mul_le_mul_right _ (Nat.le_add_left n k)) kS;have hl:(Zf z.cells n).toList.length=n*i.size:=by rw [SQ,jE];simp [oK]
 refine CW hs (ts:=#[t,u]) (X:=.int kq n) (l':=(Zf z.cells n).toList) (e:=e) (i:=i) (z:=z) oK ES JP kS mP hl (by rw [SQ];exact .nW kv m) ho Nr ?_ ?_ ?_;intro _ _ hk;have:=Go.Lib.run_append_nil_zeros (P:=P) w t u ty e i z kq kn hu Vx hi hz n (by omega) vS (by omega) (by omega)
 simpa using this
 intro b jo pf lo hk h1 h2 h3;have hf:=run_firstCells_some (P:=P) w.drew i.size jo b jo pf lo h1 (by simpa using h2);have:=Go.Lib.run_append_grow_zeros (P:=P) w t u ty e i z kq kn hu Vx hi hz (some b) jo pf lo hf n (by omega) vS h3 (by omega) (by omega) (growslice_fits h3 (by subst hk;exact kS))
 simpa using this
 intro g o jo pf iT e' h1 h2 h3;exact BH w t u ty e i z kn kq hu Vx hi hz g o jo pf n iT e' h1 (by omega) vS (by omega) (by omega) (by rw [SQ];exact mP) h2 h3
end Go.Stx
namespace Go.Stx
open Go
variable [Gl]
def rq (P:Program) (eq:TypeId->Value->Value->Option Bool) (xs ys:Array Value):List Field->Option Bool
 | []=>some true
 | f::r=>
   if f.name = "_" then rq P eq xs ys r else
   match apart P f.type xs f.offset,apart P f.type ys f.offset with
   | some a,some b=>
     match eq f.type a b,rq P eq xs ys r with
     | some p,some q=>some (p && q)
     | _,_=>none
   | _,_=>none
def w5 (P:Program) (eq:Value->Value->Option Bool) (e:TypeId) (size:Nat) (xs ys:Array Value):List Nat->Option Bool
 | []=>some true
 | i::r=>
   match apart P e xs (i*size),apart P e ys (i*size) with
   | some a,some b=>
     match eq a b,w5 P eq e size xs ys r with
     | some p,some q=>some (p && q)
     | _,_=>none
   | _,_=>none
def vg (P:Program):Nat->TypeId->Value->Value->Option Bool
 | 0,_,_,_=>none
 | d+1,t,x,y=>
   match P.underlying t,x,y with
   | some .bool,.bool a,.bool b=>some (a == b)
   | some (.int _),.int k a,.int k' b=>if k=k' then some (decide (a=b)) else none
   | some .string,.string a,.string b=>some (a.toList == b.toList)
   | some (.struct fs),.agg xs,.agg ys=>if P.stoodInHeld t then none else rq P (vg P d) xs ys fs.toList
   | some (.array n e),.agg xs,.agg ys=>
     match P.info? e with
     | some i=>w5 P (vg P d e) e i.size xs ys (qA n)
     | none=>none
   | _,_,_=>none
theorem rS {P:Program} {m:Mp} {n d:Nat} (ih:∀(t:TypeId) (x y x' y':Value) (r:Bool),vg P n t x y=some r->bI m x x'->bI m y y'->∀w,(qT d t x' y').run P w=.ok r w)
 {xs ys xs' ys':Array Value} (hx:bI m (.agg xs) (.agg xs')) (hy:bI m (.agg ys) (.agg ys')) (w:World):∀(fs:List Field) (r:Bool),rq P (vg P n) xs ys fs=some r->
 (Op.eqFields d xs' ys' fs).run P w=.ok r w
 | [],r,h=>by injection h with h;subst h;rfl
 | f::fs,r,h=>by
   unfold rq at h;split at h;rename_i hn;simp only [Op.eqFields,hn,ne_eq,not_true_eq_false,if_false];exact rS ih hx hy w fs r h;rename_i hn;split at h<;>try(cases h;done)
   rename_i a b ha hb;split at h<;>try(cases h;done)
   rename_i p q hp hq;injection h with h;subst h;obtain⟨a',h1,h2⟩:=mN (P:=P) ha hx;obtain⟨b',h3,h4⟩:=mN (P:=P) hb hy;have h5:=ih _ _ _ _ _ _ hp h1 h3 w;have h6:=rS ih hx hy w fs q hq;simp only [Op.eqFields,ne_eq,hn,not_false_eq_true,if_true,qx,h2,h4,h5,qw];cases p;rfl;simp only [Bool.not_true,qt,if_false,h6,Bool.true_and]
theorem yx {P:Program} {m:Mp} {d size:Nat} {e:TypeId} {eq:Value->Value->Option Bool}
 (ih:∀(x y x' y':Value) (r:Bool),eq x y=some r->bI m x x'->bI m y y'->∀w,(qT d e x' y').run P w=.ok r w)
 {xs ys xs' ys':Array Value} (hx:bI m (.agg xs) (.agg xs')) (hy:bI m (.agg ys) (.agg ys')) (w:World):∀(is:List Nat) (r:Bool),w5 P eq e size xs ys is=some r->
 (Op.eqItems d e size xs' ys' is).run P w=.ok r w
 | [],r,h=>by injection h with h;subst h;simp [Op.eqItems]
 | i::is,r,h=>by
   unfold w5 at h;split at h<;>try(cases h;done)
   rename_i a b ha hb;split at h<;>try(cases h;done)
   rename_i p q hp hq;injection h with h;subst h;obtain⟨a',h1,h2⟩:=mN (P:=P) ha hx;obtain⟨b',h3,h4⟩:=mN (P:=P) hb hy;have h5:=ih _ _ _ _ _ hp h1 h3 w;have h6:=yx ih hx hy w is q hq;simp only [Op.eqItems,qx,h2,h4,h5,qw];cases p;simp;simp [h6]
theorem p9 {P:Program} {m:Mp}:∀(n d:Nat) (t:TypeId) (x y x' y':Value) (r:Bool),n<=d->vg P n t x y=some r->bI m x x'->bI m y y'->
 ∀w,(qT d t x' y').run P w=.ok r w
 | 0,d,t,x,y,x',y',r,_,h,_,_,w=>by cases h
 | n+1,0,t,x,y,x',y',r,hd,h,hx,hy,w=>by omega
 | n+1,d+1,t,x,y,x',y',r,hd,h,hx,hy,w=>by
   unfold vg at h;split at h<;>try(cases h;done)
   rename_i hu;cases hx;cases hy;injection h with h;subst h;simp [qT,run_underlying hu]
   . rename_i hu;cases hx;cases hy;split at h<;>try(cases h;done)
     rename_i hk;injection h with h;subst h;subst hk;simp [qT,run_underlying hu];rfl
   rename_i hu;cases hx;cases hy;injection h with h;subst h;exact run_equalIn_string w d t _ _ hu
   . rename_i fs xs ys hu;split at h<;>try(cases h;done)
     rename_i hp;have La:=hx;have hy0:=hy;cases hx;cases hy;have hfo:P.fieldsOf t=fs:=(by simp [Program.fieldsOf,hu]);rw [run_equalIn_struct w d t _ _ (by rw [hfo];exact hu) (by simpa using hp),hfo];exact rS (λt x y x' y' r h1 h2 h3 w=>p9 n d t x y x' y' r (by omega) h1 h2 h3 w) La hy0 w _ _ h
   rename_i k e xs ys hu;split at h<;>try(cases h;done)
   rename_i i hi;have La:=hx;have hy0:=hy;cases hx;cases hy;rw [run_equalIn_array w d _ _ hu hi];have hce:P.cellsOf e=i.size:=(by simp [Program.cellsOf,hi]);rw [hce];exact yx (λx y x' y' r h1 h2 h3 w=>p9 n d e x y x' y' r (by omega) h1 h2 h3 w) La hy0 w _ _ h
theorem rB {P:Program} {t:TypeId} {x y:Array TypeId} {b:Bool} (d:Nat) (fn:Fn) (p q:Array Value) (hu:P.underlying t=some (.func x y b)) (w:World) :
 (qT (d+1) t (.func fn p q) .nilFunc).run P w=.ok false w:=by
 simp [qT,run_underlying hu]
theorem pC {P:Program} {t:TypeId} {x y:Array TypeId} {b:Bool} (d:Nat) (hu:P.underlying t=some (.func x y b)) (w:World) :
 (qT (d+1) t .nilFunc .nilFunc).run P w=.ok true w:=by
 simp [qT,run_underlying hu]
def Py (P:Program) (op:BinOp) (t:TypeId) (x y:Value):Option Value:=
 match x,y with
 | .agg xs,.agg ys=>
   if P.eqGuardType P.depth t then none else
   match op with
   | .eql=>(vg P 8 t (.agg xs) (.agg ys)).map .bool
   | .neq=>(vg P 8 t (.agg xs) (.agg ys)).map λb=>.bool (!b)
   | _=>none
 | .slice a _ _,.slice none 0 0=>
   match op,P.underlying t with
   | .eql,some (.slice _)=>some (.bool a.isNone)
   | .neq,some (.slice _)=>some (.bool (!a.isNone))
   | _,_=>none
 | .map a,.map none=>
   match op,P.underlying t with
   | .eql,some (.map _ _)=>some (.bool a.isNone)
   | .neq,some (.map _ _)=>some (.bool (!a.isNone))
   | _,_=>none
 | .func _ _ _,.nilFunc=>
   match op,P.underlying t with
   | .eql,some (.func _ _ _)=>some (.bool false)
   | .neq,some (.func _ _ _)=>some (.bool true)
   | _,_=>none
 | .nilFunc,.nilFunc=>
   match op,P.underlying t with
   | .eql,some (.func _ _ _)=>some (.bool true)
   | .neq,some (.func _ _ _)=>some (.bool false)
   | _,_=>none
 | x,y=>Wz P op t x y
theorem C5 {P:Program} {op:BinOp} {t:TypeId} {x y v:Value} (h:Py P op t x y=some v) {m:Mp} {x' y':Value} (hx:bI m x x') (hy:bI m y y') (xo yo:Operand) (w:World) :
 (do eqGuard op t xo yo x' y';binOp op t x' y':Sem Value).run P w=.ok v w/\bI m v v:=by
 unfold Py at h;split at h
 . rename_i xs ys;split at h<;>try(cases h;done)
   rename_i hg;have La:=hx;have hy0:=hy;cases hx;cases hy;have Pd:P.eqGuardType P.depth t=false:=by simpa using hg
   rw [qx,run_eqGuard_agg w op t xo yo _ _ Pd,qw];cases op<;>simp only at h<;>(try (cases h;done));obtain⟨r,h1,rfl⟩:=ZJ.1 h;exact⟨by rw [run_eql_struct,p9 8 10000 t _ _ _ _ r (by omega) h1 La hy0 w];rfl,by constructor⟩;obtain⟨r,h1,rfl⟩:=ZJ.1 h;exact⟨by rw [run_neq_struct,p9 8 10000 t _ _ _ _ r (by omega) h1 La hy0 w];rfl,by constructor⟩
 rename_i a n c;have key:∀(a':Option Addr) (n' c':Nat) (e:TypeId),P.underlying t=some (.slice e)->(Op.equal t (.slice a' n' c') (.slice none 0 0)).run P w=.ok a'.isNone w:=λa' n' c' e hu=>run_equal_slice_nil w t e a' n' c' hu;have Yy:∃a' n' c',x'=.slice a' n' c'/\a'.isNone=a.isNone:=by
  cases hx<;>exact⟨_,_,_,rfl,rfl⟩
 obtain⟨a',n',c',rfl,ha⟩:=Yy;cases hy;split at h;rename_i hu;injection h with h;subst h;exact⟨by simp [eqGuard,binOp,key _ _ _ _ hu,ha],by constructor⟩
 rename_i hu;injection h with h;subst h;exact⟨by simp [eqGuard,binOp,key _ _ _ _ hu,ha],by constructor⟩
 cases h;rename_i a;have key:∀(a':Option Nat) (k e:TypeId),P.underlying t=some (.map k e)->(Op.equal t (.map a') (.map none)).run P w=.ok a'.isNone w:=λa' k e hu=>run_equal_map_nil w t k e a' hu;have Yy:∃a',x'=.map a'/\a'.isNone=a.isNone:=by
  cases hx<;>exact⟨_,rfl,rfl⟩
 obtain⟨a',rfl,ha⟩:=Yy;cases hy;split at h;rename_i hu;injection h with h;subst h;exact⟨by simp [eqGuard,binOp,key _ _ _ hu,ha],by constructor⟩
 rename_i hu;injection h with h;subst h;exact⟨by simp [eqGuard,binOp,key _ _ _ hu,ha],by constructor⟩
 cases h;cases hy;cases hx;split at h;rename_i hu;injection h with h;subst h;exact⟨by simp [eqGuard,binOp,gu (rB _ _ _ _ hu w)],by constructor⟩
 rename_i hu;injection h with h;subst h;exact⟨by simp [eqGuard,binOp,gu (rB _ _ _ _ hu w)],by constructor⟩
 cases h;cases hy;cases hx;split at h;rename_i hu;injection h with h;subst h;exact⟨by simp [eqGuard,binOp,gu (pC _ hu w)],by constructor⟩
 rename_i hu;injection h with h;subst h;exact⟨by simp [eqGuard,binOp,gu (pC _ hu w)],by constructor⟩
 cases h;exact On h hx hy xo yo w
end Go.Stx
namespace Go.Stx
open Go
variable [Gl]
abbrev Fr:=Nat->Value
def lP (a:Fr) (i:Nat) (v:Value):Fr:=λj=>if j=i then v else a j
def eK (a:Fr) (d:Option Tmp) (v:Value):Fr:=
 match d with
 | some i=>lP a i v
 | none=>a
def iW (a:Fr):Operand->Value
 | .tmp t=>a t
 | .const v=>v
 | .global g=>.pointer (some ⟨g,0,none⟩)
 | .func f=>.func (.func f) #[] #[]
def Q9 (w w':World):Prop:=∀b,b<w.heap.size->w'.heap[b]? = w.heap[b]?
theorem Q9.refl (w:World):Q9 w w:=λ_ _=>rfl
theorem Q9.cell {w w':World} (h:Q9 w w') {a:Addr} {v:Value} (hc:w.cell? a=some v):w'.cell? a=some v:=by
 have hb:=World.block_lt_of_cell? w a hc;rw [World.cell?_of_block (h _ hb)];exact hc
theorem Q9.FR {m:Mp} {A:AW} {w w':World} (h:Q9 w w') (hs:j6 m A w):j6 m A w':=by
 refine⟨λi o hi=>?_,hs.inj,hs.sS,hs.zL,λb x hb=>?_,hs.AA,hs.wI⟩
 rotate_left
 have h1:=hs.laid b x hb;rw [h b (qr.1 h1).1];exact h1;obtain⟨p,h1,h2⟩:=hs.Gu i o hi;have hb:=hs.i9 hi h1;exact⟨p,h1,h2.heap (h _ hb)⟩
theorem Q6 {P:Program} {m:Mp} {A:AW} {w:World} (hs:j6 m A w) {t:TypeId} {p p':Addr} {v:Value} (h:iF P A t p=some v) (hp:rh m p p') :
 ∃v',bI m v v'/\∀w',Q9 w w'->(loadVar t p').run P w'=.ok v' w':=by
 unfold iF at h;split at h;rename_i cs hr ha;obtain⟨v',h1,h2⟩:=Ba hs hp hr (k:=0) (by simpa using h);have e:p'.add 0=p':=by unfold Addr.add;simp
 rw [e] at h1;refine⟨v',h2,λw' hx=>?_⟩;simp only [loadVar,qx,rk ha,qw,qt,if_false,run_load,hx.cell h1];rename_i cs hr ha;split at h;rename_i i hi;split at h;rename_i fO;injection h with h;subst h;obtain⟨l',hl,h1,h2⟩:=Ab hs hp hr i.size fO;refine⟨.agg l'.toArray,.sF h1,λw' hx=>?_⟩;have h3:=run_loadCells_list (P:=P) w' p' l' (λj v hv=>hx.cell (h2 j v hv));rw [hl] at h3;simp only [loadVar,qx,rk ha,qw,if_true,gt hi,h3,qF];cases h;cases h;cases h
def Ol (P:Program) (op:BinOp) (t:TypeId) (x:Value):Option Value:=
 match P.underlying t,op,x with
 | some (.interface _),.eql,.nilIface=>some (.bool true)
 | some (.interface _),.neq,.nilIface=>some (.bool false)
 | some (.interface _),.eql,.iface _ _=>some (.bool false)
 | some (.interface _),.neq,.iface _ _=>some (.bool true)
 | _,_,_=>none
theorem nQ {P:Program} {t:TypeId} {ms:Array (String×TypeId)} (d:Nat) (hu:P.underlying t=some (.interface ms)) (w:World) :
 (qT (d+1) t .nilIface .nilIface).run P w=.ok true w:=by simp [qT,run_underlying hu]
theorem nR {P:Program} {t u:TypeId} {v:Value} {ms:Array (String×TypeId)} (d:Nat) (hu:P.underlying t=some (.interface ms)) (w:World) :
 (qT (d+1) t (.iface u v) .nilIface).run P w=.ok false w:=by simp [qT,run_underlying hu]
theorem Bi {P:Program} {m:Mp} {op:BinOp} {t:TypeId} {x x' v:Value} (h:Ol P op t x=some v) (hx:bI m x x') (xo:Operand) (w:World) :
 (do eqGuard op t xo (.const .nilIface) x' .nilIface;binOp op t x' .nilIface:Sem Value).run P w=.ok v w/\bI m v v:=by
 unfold Ol at h;split at h;rename_i hu;injection h with h;subst h;cases hx
 exact⟨by rw [eqGuard_nil_constR];simp [binOp,gu (nQ _ hu w)],by constructor⟩;rename_i hu;injection h with h;subst h;cases hx
 exact⟨by rw [eqGuard_nil_constR];simp [binOp,gu (nQ _ hu w)],by constructor⟩;rename_i hu;injection h with h;subst h;cases hx
 exact⟨by simp [eqGuard,binOp,gu (nR _ hu w)],by constructor⟩;rename_i hu;injection h with h;subst h;cases hx
 exact⟨by simp [eqGuard,binOp,gu (nR _ hu w)],by constructor⟩;cases h
def Wi:List Value->Option (List Int)
 | []=>some []
 | .int .u8 n::l=>(Wi l).map (n::·)
 | _::_=>none
theorem Wh (l:List Value):∀(xs:List Int),Wi l=some xs->l=xs.map (qp .u8):=by
 induction l with
 | nil=>intro xs h;injection h with h;subst h;rfl
 | cons v l ih=>
   intro xs h;unfold Wi at h;split at h;rename_i e;cases e;rename_i n l' e;injection e with e1 e2;subst e1;subst e2;obtain⟨ys,h1,rfl⟩:=ZJ.1 h;rw [ih ys h1];rfl;cases h
def Jx (P:Program) (A:AW) (s d:TypeId) (x:Value):Option Value:=
 match P.underlying s,P.underlying d,x with
 | some (.slice e),some .string,.slice (some p) n _=>
   match P.underlying e,A.b8 p.block with
   | some (.int .u8),some b8=>
     if p.off+n<=b8.length then
      match Wi ((b8.drop p.off).take n) with
      | some xs=>some (.string (strOfNums xs))
      | none=>none
     else none
   | _,_=>none
 | _,_,_=>none
theorem Jw {P:Program} {m:Mp} {A:AW} {w:World} (hs:j6 m A w) {s d:TypeId} {x x' v:Value} (h:Jx P A s d x=some v) (hx:bI m x x') :
 ∃v',bI m v v'/\∀w',Q9 w w'->(convert s d x').run P w'=.ok v' w':=by
 unfold Jx at h;split at h;rename_i e p n c Nv vF;split at h;rename_i b8 he bV;split at h;rename_i fO;split at h
 . rename_i xs W5;injection h with h;subst h;have e1:=Wh _ _ W5;have bX:xs.length=n:=by
    have:=congrArg List.length e1;simp at this;omega
   cases hx with
   | slice hr h1 h2=>
     rename_i a' i6;refine⟨_,by constructor,λw' hw=>?_⟩;rcases hr with hr|⟨rfl,rfl,_⟩;obtain⟨l',h3,h4,h5⟩:=Ab hs hr.Ue bV n fO;have ha:=Bl a' hr.2.1;rw [ha];refine run_convert_bytes_arg w' s e Nv he a'.block a'.off n i6 xs bX (λi hi=>?_) d vF;have hv:=h4.2 i (.int .u8 (xs.getD i 0)) (l'[i]'(by omega)) (by rw [e1];simp [List.getD,qk (show i<xs.length by omega)]) (qk (by omega));have h6:=h5 i _ (qk (by omega));rw [nD _ _ hr.2.1] at h6;generalize l'[i]=z at hv h6;cases hv;exact hw.cell h6;have:xs=[]:=Zc (by omega);subst this;have ha:(convert s d (.slice (some a') 0 0)).run P w'=.ok (.string (strOfNums [])) w':=by
      rw [run_convert_bytes_string w' s d e _ 0 0 Nv he vF,run_bytesToString w' _ 0 0 [] rfl];rfl
     exact ha
 cases h;cases h;cases h;cases h
def tw (r:Operand->Value) (ps:Array (Nat×Operand)):List (Nat×Value):=ps.toList.map λx=>(x.1,r x.2)
def aq (P:Program) (A:AW) (r:Operand->Value):Op->Option Value
 | .move x=>some (r x)
 | .assign x=>some (r x)
 | .pick c x y=>
   match r c with
   | .bool b=>some (if b then r x else r y)
   | _=>none
 | .build t ps=>Jz P t (tw r ps)
 | .load t x=>
   match r x with
   | .pointer (some p)=>iF P A t p
   | _=>none
 | .nilCheck x=>
   match r x with
   | .pointer (some p)=>some (.pointer (some p))
   | _=>none
 | .binOp op t x y _=>
   match y,r y with
   | .const .nilIface,.nilIface=>Ol P op t (r x)
   | _,_=>Py P op t (r x) (r y)
 | .unOp op _ x=>aun op (r x)
 | .convert s d x=>
   match Px P s d (r x) with
   | some v=>some v
   | none=>Jx P A s d (r x)
 | .makeInterface t x=>u6 P t (r x)
 | .slice t x lo hi mx=>
   match mx with
   | none=>zD P A t (r x) (lo.map r) (hi.map r) none
   | some q=>DJ P t (r x) (lo.map r) (hi.map r) (r q)
 | .lookup t x ix c=>Bg P A t (r x) (r ix) c
 | .fieldAddr s x f=>u9 P s (r x) f
 | .field t x f=>Jp P t (r x) f
 | .indexAddr t x ix=>u7 P t (r x) (r ix)
 | .index t x ix=>Jn P t (r x) (r ix)
 | .extract t i=>
   match r t with
   | .tuple vs=>vs[i]?
   | _=>none
 | .makeFunc fn fs cs=>some (.func fn (fs.map r) (cs.map r))
 | .call c=>
   match c.callee,c.args.toList,c.argTypes.toList with
   | .builtin .len,[x],[t]=>nC P t (r x)
   | .builtin .min,[x,y],_=>Ui false [r x,r y]
   | .builtin .max,[x,y],_=>Ui true [r x,r y]
   | _,_,_=>none
 | _=>none
theorem xW.map {m:Mp} {r r':Operand->Value} (x:Option Operand) (h:∀y,x=some y->bI m (r y) (r' y)):xW m (x.map r) (x.map r'):=by
 cases x with
 | none=>trivial
 | some y=>exact h y rfl
theorem Wk {α:Type} {a:Array α} {x y:α} (h:a.toList=[x,y]):a = #[x,y]:=by
 apply Array.ext';exact h
theorem Wl {α:Type} {a:Array α} {x:α} (h:a.toList=[x]):a = #[x]:=by
 apply Array.ext';exact h
theorem Uf {P:Program} {m:Mp} {A:AW} {w:World} (hs:j6 m A w) {o:Oper} {r r':Operand->Value} {v:Value} (hr:∀x∈o.op.operands,bI m (r x) (r' x))
 (h:aq P A r o.op=some v):∃v',bI m v v'/\∀w',Q9 w w'->(execOp r' o).run P w'=.ok (.value v') w':=by
 obtain⟨dst,op,ty,pos,after,guard⟩:=o;have tY:∀{s:Sem Value} {v':Value} {w':World},s.run P w'=.ok v' w'->(do pure (.value (<-s)):Sem Next).run P w'=.ok (.value v') w':=λ{s v' w'} e=>by
  simp only [qx,e,qw,qF]
 cases op<;>simp only [aq] at h<;>(try (cases h;done))
 case move x=>
  injection h with h;subst h;exact⟨r' x,hr x (by simp [qn]),λw' _=>by simp [execOp]⟩
 case assign x=>
  injection h with h;subst h;exact⟨r' x,hr x (by simp [qn]),λw' _=>by simp [execOp]⟩
 case pick c x y=>
  have hc:=hr c (by simp [qn]);split at h;rename_i b hb;rw [hb] at hc;injection h with h;subst h;generalize wG:r' c=c' at hc;cases hc;refine⟨if b then r' x else r' y,?_,λw' _=>by simp [execOp,wG,asBool]⟩;cases b;exact hr y (by simp [qn]);exact hr x (by simp [qn]);cases h
 case build t ps=>
  obtain⟨v',h1,h2⟩:=Jy (P:=P) (m:=m) (io:=ps.map fun(i,x)=>(i,r' x)) h (by simp [tw]) (λk p p' h1 h2=>by
   simp only [tw,Zg,kaD,ZJ,kaY] at h1 h2;obtain⟨q,h3,rfl⟩:=h1;obtain⟨q',h4,rfl⟩:=h2;rw [h3] at h4;injection h4 with h4;subst h4;exact⟨rfl,hr q.2 (by simp only [qn,List.mem_toArray,List.mem_map];exact⟨q,Ze.2 (ZW h3),rfl⟩)⟩)
  exact⟨v',h1,λw' _=>tY (h2 w')⟩
 case load t x=>
  have hx:=hr x (by simp [qn]);split at h
  . rename_i p hp;rw [hp] at hx;generalize wG:r' x=x' at hx;cases hx with
    | Kr ha=>
      obtain⟨v',h1,h2⟩:=Q6 (P:=P) hs h ha;exact⟨v',h1,λw' hw=>by simp [execOp,wG,Instr.loadAt,ka3,h2 w' hw]⟩
  cases h
 case nilCheck x=>
  have hx:=hr x (by simp [qn]);split at h
  . rename_i p hp;rw [hp] at hx;generalize wG:r' x=x' at hx;injection h with h;subst h;cases hx with
    | Kr ha=>exact⟨_,.Kr ha,λw' hw=>by simp [execOp,wG]⟩
  cases h
 case binOp op t x y ty'=>
  have hx:=hr x (by simp [qn]);have hy:=hr y (by simp [qn]);split at h;rename_i e;rw [e] at hy;have Yw:r' (.const .nilIface)=.nilIface:=by generalize r' (.const .nilIface)=z at hy;cases hy;rfl
  exact⟨v,(Bi h hx x w).2,λw' _=>tY (by rw [Yw];exact(Bi h hx x w').1)⟩;exact⟨v,(C5 h hx hy x x w).2,λw' _=>tY (C5 h hx hy x _ w').1⟩
 case unOp op t x=>
  have hx:=hr x (by simp [qn]);exact⟨v,(HK (P:=P) h hx w).2,λw' _=>tY (HK h hx w').1⟩
 case convert s d x=>
  have hx:=hr x (by simp [qn]);split at h;rename_i v0 h0;injection h with h;subst h;exact⟨v0,(C0 h0 hx w).2,λw' _=>tY (C0 h0 hx w').1⟩;obtain⟨v',h1,h2⟩:=Jw hs h hx;exact⟨v',h1,λw' hw=>tY (h2 w' hw)⟩
 case makeInterface t x=>
  obtain⟨v',h1,h2⟩:=Cc h (hr x (by simp [qn]));exact⟨v',h1,λw' _=>tY (h2 w')⟩
 case slice t x lo hi mx=>
  cases mx with
  | none=>
    obtain⟨v',h1,h2⟩:=Jh hs (WV:=none) h (hr x (by simp [qn])) (xW.map (r':=r') lo λy e=>hr y (by simp [qn,e])) (xW.map (r':=r') hi λy e=>hr y (by simp [qn,e])) trivial;exact⟨v',h1,λw' _=>tY (h2 w')⟩
  | some q=>
    obtain⟨v',h1,h2⟩:=GT h (hr x (by simp [qn])) (xW.map (r':=r') lo λy e=>hr y (by simp [qn,e])) (xW.map (r':=r') hi λy e=>hr y (by simp [qn,e])) (hr q (by simp [qn]));exact⟨v',h1,λw' _=>tY (h2 w')⟩
 case lookup t x ix c=>
  obtain⟨v',h1,h2⟩:=GY (P:=P) hs h (hr x (by simp [qn])) (hr ix (by simp [qn]));exact⟨v',h1,λw' hw=>tY (h2 w' hw)⟩
 case fieldAddr s x f=>
  obtain⟨v',h1,h2⟩:=Cf h (hr x (by simp [qn]));exact⟨v',h1,λw' _=>tY (h2 w')⟩
 case field t x f=>
  obtain⟨v',h1,h2⟩:=Jo h (hr x (by simp [qn]));exact⟨v',h1,λw' _=>tY (h2 w')⟩
 case indexAddr t x ix=>
  obtain⟨v',h1,h2⟩:=Ce h (hr x (by simp [qn])) (hr ix (by simp [qn]));exact⟨v',h1,λw' _=>tY (h2 w')⟩
 case index t x ix=>
  obtain⟨v',h1,h2⟩:=Jm h (hr x (by simp [qn])) (hr ix (by simp [qn]));exact⟨v',h1,λw' _=>tY (h2 w')⟩
 case extract t i=>
  have hx:=hr t (by simp [qn]);split at h
  . rename_i vs hp;rw [hp] at hx;generalize wG:r' t=x' at hx;cases hx with
    | tuple vS h1=>
      rename_i Cl;have cD:i<Cl.size:=(by rw [<-vS];exact(qr.1 h).1);have e:=qV cD;exact⟨Cl[i],h1 i v _ h e,λw' _=>by simp [execOp,wG,Instr.extract,e]⟩
  cases h
 case makeFunc fn fs cs=>
  injection h with h;subst h;refine⟨.func fn (fs.map r') (cs.map r'),?_,λw' _=>by simp [execOp,Instr.makeFunc]⟩;refine .func fn (by simp) (by simp) (λi v v' h1 h2=>?_) (λi v v' h1 h2=>?_);simp only [kaY,ZJ] at h1 h2;obtain⟨q,h3,rfl⟩:=h1;obtain⟨q',h4,rfl⟩:=h2;rw [h3] at h4;injection h4 with h4;subst h4;exact hr q (by simp only [qn,kaq];exact .inl (ZW h3));simp only [kaY,ZJ] at h1 h2;obtain⟨q,h3,rfl⟩:=h1;obtain⟨q',h4,rfl⟩:=h2;rw [h3] at h4;injection h4 with h4;subst h4;exact hr q (by simp only [qn,kaq];exact .inr (ZW h3))
 case call c=>
  obtain⟨callee,args,argTypes⟩:=c;split at h;rename_i x t h1 h2 h3;simp only at h1 h2 h3;subst h1;have e2:=Wl h2;have e3:=Wl h3;subst e2;subst e3;have hx:=hr x (by simp [qn,ZA]);have hl:=Ok (P:=P) (ty:=ty) h hx;refine⟨v,hl.1,λw' _=>?_⟩;have:=hl.2 w';simp [execOp,resolve,invoke,builtin,this];rename_i x y h1 h2;simp only at h1 h2;subst h1;have e2:=Wk h2;subst e2;have hx:=hr x (by simp [qn,ZA]);have hy:=hr y (by simp [qn,ZA]);have hl:=FB (P:=P) (ts:=argTypes) (ty:=ty) (l':=#[r' x,r' y]) h (.cons hx (.cons hy .nil));refine⟨v,hl.1,λw' _=>?_⟩;have:=hl.2 w';simp only [qt,if_false] at this;simp [execOp,resolve,invoke,builtin,this];rename_i x y h1 h2;simp only at h1 h2;subst h1;have e2:=Wk h2;subst e2;have hx:=hr x (by simp [qn,ZA]);have hy:=hr y (by simp [qn,ZA]);have hl:=FB (P:=P) (ts:=argTypes) (ty:=ty) (l':=#[r' x,r' y]) h (.cons hx (.cons hy .nil))
  refine⟨v,hl.1,λw' _=>?_⟩;have:=hl.2 w';simp only [if_true] at this;simp [execOp,resolve,invoke,builtin,this];cases h
def ae (P:Program) (A:AW) (r:Operand->Value):Op->Option (Value×AW)
 | .alloc t=>JB P A t
 | .box _ x=>some (Un A (r x))
 | .buildSlice t len ps=>sW P A t len (tw r ps)
 | .store t x y=>
   match r x with
   | .pointer (some p)=>
     match aG P A t p (r y) with
     | some A1=>some (undef,A1)
     | none=>none
   | _=>none
 | .makeSlice t l c=>mj P A t (r l) (r c)
 | .makeMap t x=>Bf P A t (x.map r)
 | .mapUpdate t x k v=>
   match gv P A t (r x) (r k) (r v) with
   | some A1=>some (undef,A1)
   | none=>none
 | .insert t x k v=>
   match gv P A t (r x) (r k) (r v) with
   | some A1=>some (undef,A1)
   | none=>none
 | .call c=>
   match c.callee,c.args.toList,c.argTypes.toList with
   | .builtin .append,[s,x],[t,u]=>if t=u then fy P A t u (r s) (r x) else oV P A t u (r s) (r x)
   | .builtin .clear,[x],[t]=>
     match Jt P A t (r x) with
     | some A1=>some (undef,A1)
     | none=>none
   | _,_,_=>none
 | _=>none
def Yield (P:Program) (r':Operand->Value) (o:Oper) (w w':World) (v':Value):Prop:=
 (execOp r' o).run P w=.ok (.value v') w'\/((execOp r' o).run P w=.ok .skip w'/\v'=undef)
theorem Ul {P:Program} {m:Mp} {A A1:AW} {w:World} (hs:j6 m A w) {o:Oper} {r r':Operand->Value} {v:Value} (hr:∀x∈o.op.operands,bI m (r x) (r' x))
 (h:ae P A r o.op=some (v,A1)):∃v' w' m',Yield P r' o w w' v'/\j8 m A w m' A1 w'/\bI m' v v':=by
 obtain⟨dst,op,ty,pos,after,guard⟩:=o;have tY:∀{s:Sem Value} {v':Value} {w w':World},s.run P w=.ok v' w'->(do pure (.value (<-s)):Sem Next).run P w=.ok (.value v') w':=λ{s v' w w'} e=>by
  simp only [qx,e,qw,qF]
 cases op<;>simp only [ae] at h<;>(try (cases h;done))
 case alloc t=>
  obtain⟨v',w',m',h1,h2,h3⟩:=JA hs h;exact⟨v',w',m',.inl (tY h1),h2,h3⟩
 case box t x=>
  injection h with h;obtain⟨v',w',m',h1,h2,h3⟩:=FI (P:=P) hs t (hr x (by simp [qn]));rw [h] at h2 h3;exact⟨v',w',m',.inl (tY h1),h2,h3⟩
 case buildSlice t len ps=>
  obtain⟨v',w',m',h1,h2,h3⟩:=Bn (P:=P) (m:=m) hs (io:=ps.map fun(i,x)=>(i,r' x)) h (by simp [tw]) (λk p p' h1 h2=>by
   simp only [tw,Zg,kaD,ZJ,kaY] at h1 h2;obtain⟨q,h3,rfl⟩:=h1;obtain⟨q',h4,rfl⟩:=h2;rw [h3] at h4;injection h4 with h4;subst h4;exact⟨rfl,hr q.2 (by simp only [qn,List.mem_toArray,List.mem_map];exact⟨q,Ze.2 (ZW h3),rfl⟩)⟩)
  exact⟨v',w',m',.inl (tY h1),h2,h3⟩
 case store t x y=>
  have hx:=hr x (by simp [qn]);split at h
  . rename_i p hp;rw [hp] at hx;generalize wG:r' x=x' at hx;cases hx with
    | Kr ha=>
      rename_i p';split at h;rename_i A2 dy;simp only [qs,qO] at h;obtain⟨rfl,rfl⟩:=h;obtain⟨w',h1,h2⟩:=Jg (P:=P) hs dy ha (hr y (by simp [qn]));refine⟨undef,w',m,.inr ⟨?_,rfl⟩,h2,.tuple rfl (λi v v' h=>by simp at h)⟩;simp only [execOp,Instr.storeAt,wG,ka3,qx,qF,qw,h1];cases h
  cases h
 case makeSlice t l c=>
  obtain⟨v',w',m',h1,h2,h3⟩:=LX hs h (hr l (by simp [qn])) (hr c (by simp [qn]));exact⟨v',w',m',.inl (tY h1),h2,h3⟩
 case makeMap t x=>
  obtain⟨v',w',m',h1,h2,h3⟩:=FD (P:=P) hs h (xW.map (r':=r') x λy e=>hr y (by simp [qn,e]));exact⟨v',w',m',.inl (tY h1),h2,h3⟩
 case mapUpdate t x k y=>
  split at h;rename_i A2 dy;simp only [qs,qO] at h;obtain⟨rfl,rfl⟩:=h;obtain⟨w',h1,h2⟩:=ul (P:=P) hs dy (hr x (by simp [qn])) (hr k (by simp [qn])) (hr y (by simp [qn]));refine⟨undef,w',m,.inr ⟨?_,rfl⟩,h2,.tuple rfl (λi v v' h=>by simp at h)⟩;simp only [execOp,qx,qF,qw,h1];cases h
 case insert t x k y=>
  split at h;rename_i A2 dy;simp only [qs,qO] at h;obtain⟨rfl,rfl⟩:=h;obtain⟨w',h1,h2⟩:=ul (P:=P) hs dy (hr x (by simp [qn])) (hr k (by simp [qn])) (hr y (by simp [qn]));refine⟨undef,w',m,.inr ⟨?_,rfl⟩,h2,.tuple rfl (λi v v' h=>by simp at h)⟩;simp only [execOp,qx,qF,qw,h1];cases h
 case call c=>
  obtain⟨callee,args,argTypes⟩:=c;split at h
  rotate_left
  . rename_i x t h1 h2 h3;simp only at h1 h2 h3;subst h1;have e2:=Wl h2;have e3:=Wl h3;subst e2;subst e3;split at h<;>try(cases h;done)
    rename_i A2 dy;simp only [qs,qO] at h;obtain⟨rfl,rfl⟩:=h;obtain⟨w',h1,h2⟩:=Js (P:=P) (ty:=ty) hs dy (hr x (by simp [qn,ZA]));refine⟨undef,w',m,.inl ?_,h2,.tuple rfl (λi v v' h=>by simp at h)⟩;simp [execOp,resolve,invoke,builtin,h1]
  rotate_left
  rename_i s x t u h1 h2 h3;simp only at h1 h2 h3;subst h1;have e2:=Wk h2;have e3:=Wk h3;subst e2;subst e3;have Vy:=hr s (by simp [qn,ZA]);have hxv:=hr x (by simp [qn,ZA]);split at h;obtain⟨v',w',m',h1,h2,h3⟩:=Ji (P:=P) (ty:=ty) hs h Vy hxv;refine⟨v',w',m',.inl ?_,h2,h3⟩;simp [execOp,resolve,invoke,builtin,h1];obtain⟨v',w',m',h1,h2,h3⟩:=GV (P:=P) (ty:=ty) hs h Vy hxv;refine⟨v',w',m',.inl ?_,h2,h3⟩;simp [execOp,resolve,invoke,builtin,h1];cases h
end Go.Stx
namespace Go.Stx
open Go
variable [Gl]
structure tB (m:Mp) (n:Nat) (a:Fr) (ca:Act):Prop where
 size:ca.tmps.size=n
 defers:ca.defers=[]
 rel:∀i,i<n->bI m (a i) (ca.tmps.getD i undef)
 wI:L7 m
theorem tB.mono {m m':Mp} (hm:Mp.le m m') {n:Nat} {a:Fr} {ca:Act} (h:tB m n a ca):tB m' n a ca:=⟨h.size,h.defers,λi hi=>(h.rel i hi).mono hm,h.wI.mono hm⟩
theorem bI.undef (m:Mp):bI m undef undef:=.tuple rfl λi v v' h=>by simp at h
def yS (n:Nat):Operand->Bool
 | .tmp t=>decide (t<n)
 | .const v=>xE v
 | .global g=>Gl.ok g
 | .func _=>true
def mZ (n:Nat) (o:Oper):Bool:=
 o.op.operands.all (yS n) && (match o.dst with|some d=>decide (d<n)|none=>true)
def lq (n:Nat):Code->Bool
 | .region _ bJ _=>bJ.all (mZ n)
 | .seq a b=>lq n a && lq n b
 | .cond c a b=>yS n c && lq n a && lq n b
 | .block _ b=>lq n b
 | .loop b=>lq n b
 | .skip=>true
 | .exit _=>true
 | .ret=>true
 | _=>false
theorem tB.eval {m:Mp} {n:Nat} {a:Fr} {ca:Act} (h:tB m n a ca) {x:Operand} (hx:yS n x=true):bI m (iW a x) (ca.eval x):=by
 cases x with
 | tmp t=>exact h.rel t (by simpa [yS] using hx)
 | const v=>exact bI.xr (v:=v) (by simpa [yS] using hx) m
 | global g=>
   exact .Kr ⟨rfl,rfl,_,h.wI g hx,rfl,(Zj 0).symm⟩
 | func f=>exact .func _ rfl rfl (λi v v' h=>by simp at h) (λi v v' h=>by simp at h)
theorem tB.put {m:Mp} {n:Nat} {a:Fr} {ca:Act} (h:tB m n a ca) {d:Option Tmp} (hd:∀i,d=some i->i<n) {v v':Value} (hv:bI m v v') :
 tB m n (eK a d v) (ca.put d v'):=by
 cases d with
 | none=>exact h
 | some i=>
   refine⟨by simp [Act.put,h.size],by simp [Act.put,h.defers],λj hj=>?_,h.wI⟩;have hi:=hd i rfl;simp only [eK,lP,Act.put];by_cases e:j=i;subst e;rw [aA rfl];simp [ZV,h.size,hi];exact hv;rw [aw e];have:=h.rel j hj;rw [ZV] at this ⊢;rw [kaU (by omega)];exact this
def jY (P:Program) (f:FuncId):Bool:=
 match P.funcs[f]? with
 | some fn=>!(fn.name == "runtime.NumGoroutine") && fn.body.isSome
 | none=>false
def aD (P:Program) (f:FuncId) (args:List Value) (A:AW) (R:Value->AW->Prop):Prop:=
 jY P f=true/\∀(m:Mp) (w:World) (gK:Array Value),j6 m A w->iV m args gK.toList->
  Calls P f gK w λe w'=>∃v v' m' A',e=.returned v'/\j8 m A w m' A' w'/\bI m' v v'/\R v A'
theorem aD.mono {P:Program} {f:FuncId} {args:List Value} {A:AW} {R R':Value->AW->Prop} (h:aD P f args A R) (hR:∀v A',R v A'->R' v A'):aD P f args A R':=
 ⟨h.1,λm w gK hs hl=>(h.2 m w gK hs hl).mono λ_ _ ⟨v,v',m',A',h1,h2,h3,h4⟩=>⟨v,v',m',A',h1,h2,h3,hR _ _ h4⟩⟩
def zI (P:Program) (op:Op) (r:Operand->Value) (A:AW) (k:Value->AW->Prop):Prop:=
 match op with
 | .call c=>
   match c.callee with
   | .value x=>
     match r x with
     | .func (.func f) fs cs=>aD P f (fs.toList++c.args.toList.map r++cs.toList) A k
     | _=>False
   | _=>False
 | _=>False
def i8 (P:Program) (op:Op) (r:Operand->Value) (A:AW) (k:Value->AW->Prop):Prop:=
 match aq P A r op with
 | some v=>k v A
 | none=>
   match ae P A r op with
   | some (v,A1)=>k v A1
   | none=>zI P op r A k
theorem Im {P:Program} {f:FuncId} {args:Array Value} (h:jY P f=true) (w:World):(callFunc f args).run P w=.ok (.enter f args) w:=by
 unfold jY at h;cases hf:P.funcs[f]? with
 | none=>rw [hf] at h;cases h
 | some fn=>
   rw [hf] at h;simp only [qq,ZF] at h;obtain⟨h1,h2⟩:=h;cases hb:fn.body with
   | none=>rw [hb] at h2;cases h2
   | some c=>
     have h1':¬fn.name = "runtime.NumGoroutine":=by simpa using h1
     simp [callFunc,hf,h1',hb]
theorem Ck {P:Program} {m:Mp} {A:AW} {w:World} (hs:j6 m A w) {o:Oper} {n:Nat} {a:Fr} {ca:Act} (hf:tB m n a ca) (ho:mZ n o=true)
 {k:Value->AW->Prop} (h:i8 P o.op (iW a) A k) {K:Act->World->Prop} {Q:Exit->Act->World->Prop}
 (hK:∀v A' m' w' Bw,k v A'->j8 m A w m' A' w'->tB m' n (eK a o.dst v) Bw->K Bw w'):o.wp P ca w K Q:=by
 simp only [mZ,qq] at ho;obtain⟨ho1,ho2⟩:=ho;have hd:∀i,o.dst=some i->i<n:=λi e=>by rw [e] at ho2;simpa using ho2
 have hr:∀x∈o.op.operands,bI m (iW a x) (ca.eval x):=λx hx=>hf.eval (Z1.1 ho1 x hx);unfold i8 at h;split at h;rename_i v hv;obtain⟨v',h1,h2⟩:=Uf hs hr hv;unfold Oper.wp;rw [h2 w (Q9.refl w)];exact hK v A m w _ h (j8.refl hs) (hf.put hd h1);split at h;rename_i v A1 hv;obtain⟨v',w',m',h1,h2,h3⟩:=Ul hs hr hv;unfold Oper.wp;rcases h1 with h1|⟨h1,rfl⟩;rw [h1];exact hK v A1 m' w' _ h h2 ((hf.mono h2.ext).put hd h3);rw [h1];exact hK v A1 m' w' _ h h2 ((hf.mono h2.ext).put hd h3);unfold zI at h;split at h;rename_i c hc;split at h;rename_i x hx;split at h
 . rename_i f fs cs hfv;obtain⟨dz,h⟩:=h;have hxv:=hr x (by rw [hc];simp [qn,ZA,hx]);rw [hfv] at hxv;generalize hg:ca.eval x=x' at hxv;cases hxv with
   | func _ hx1 hx2 hx3 hx4=>
     rename_i fs' tu;have Le:(execOp ca.eval o).run P w=.ok (.enter f (fs'++c.args.map ca.eval++tu)) w:=by
      obtain⟨dst,op,ty,pos,after,guard⟩:=o;simp only at hc;subst hc;obtain⟨callee,args,argTypes⟩:=c;simp only at hx;subst hx;simp only [execOp,resolve,hg,Deferred.ofValue,invoke,qx,qF,qw,Im dz]
     unfold Oper.wp;rw [Le,Oper.upon_enter];have hargs:iV m (fs.toList++c.args.toList.map (iW a)++cs.toList) (fs'++c.args.map ca.eval++tu).toList:=by
      simp only [Array.toList_append,Array.toList_map];refine(iV.append (iV.append ⟨by simpa using hx1,λi v v' h1 h2=>hx3 i v v' (by simpa using h1) (by simpa using h2)⟩ ⟨by simp,λi v v' h1 h2=>?_⟩) ⟨by simpa using hx2,λi v v' h1 h2=>hx4 i v v' (by simpa using h1) (by simpa using h2)⟩);simp only [Zg,ZJ] at h1 h2;obtain⟨q,h3,rfl⟩:=h1;obtain⟨q',h4,rfl⟩:=h2;rw [h3] at h4;injection h4 with h4;subst h4;refine hr q ?_;rw [hc];simp only [qn,ZA,kaq];exact .inr (Ze.1 (Z3 h3))
     refine(h m w _ hs hargs).mono ?_;rintro e w' ⟨v,v',m',A',rfl,ev,hv,hk⟩;exact hK v A' m' w' _ hk ev ((hf.mono ev.ext).put hd hv)
 exact h.elim;exact h.elim;exact h.elim
def nu (bJ:Array Oper) (a:Fr) (o:Oper):Bool:=
 match o.guard with
 | none=>true
 | some (j,RB)=>
   match (bJ[j]?).bind (·.dst) with
   | some d=>
     match a d with
     | .bool b=>b == RB
     | _=>false
   | none=>false
theorem HF {m:Mp} {n:Nat} {a:Fr} {ca:Act} (hf:tB m n a ca) {bJ:Array Oper} (EQ:bJ.all (mZ n)=true) (o:Oper) :
 Region.wanted o (yielded bJ ca.tmps)=nu bJ a o:=by
 unfold Region.wanted nu;cases o.guard with
 | none=>rfl
 | some g=>
   obtain⟨j,RB⟩:=g;simp only [yielded];cases hj:bJ[j]? with
   | none=>simp
   | some oj=>
     simp only [Zq];cases hd:oj.dst with
     | none=>simp
     | some d=>
       simp only [Zq];have mv:=Z1.1 EQ oj (ZW hj);simp only [mZ,hd,qq,decide_eq_true_eq] at mv;have cD:d<ca.tmps.size:=(by rw [hf.size];exact mv.2);have hv:=hf.rel d mv.2;rw [ZV,qV cD,Option.getD_some] at hv;rw [qV cD];generalize a d=x at hv ⊢;generalize ca.tmps[d]=y at hv ⊢;cases hv<;>simp
def Oq (P:Program) (bJ:Array Oper) (K:Fr->AW->Prop):List Oper->Fr->AW->Prop
 | [],a,A=>K a A
 | o::fv,a,A=>
   if nu bJ a o=true then i8 P o.op (iW a) A (λv A'=>Oq P bJ K fv (eK a o.dst v) A')
   else Oq P bJ K fv (eK a o.dst undef) A
theorem rr {P:Program} {bJ:Array Oper} {n:Nat} (EQ:bJ.all (mZ n)=true) {K:Fr->AW->Prop} {Q:Exit->Act->World->Prop}:∀(l:List Oper) (a:Fr) (A:AW) (m:Mp) (w:World) (ca:Act),
 (∀o∈l,mZ n o=true)->Oq P bJ K l a A->j6 m A w->tB m n a ca->
 (∀a' A' m' w' Bw,K a' A'->j8 m A w m' A' w'->tB m' n a' Bw->Q .normal Bw w')->wpList P bJ Q l ca w
 | [],a,A,m,w,ca,_,h,hs,hf,hK=>hK a A m w ca h (j8.refl hs) hf
 | o::fv,a,A,m,w,ca,hl,h,hs,hf,hK=>by
   unfold Oq at h;unfold wpList;rw [HF hf EQ o];split at h;rename_i hg;rw [aA hg];refine .inl (Ck hs hf (hl o (by simp)) h ?_);intro v A' m' w' Bw hk ev EX;exact rr EQ fv _ _ m' w' Bw (λx hx=>hl x (by simp [hx])) hk ev.FR EX (λa2 A2 m2 w2 ca2 h1 h2 h3=>hK a2 A2 m2 w2 ca2 h1 (ev.trans h2) h3);rename_i hg;rw [aw hg];have ho:=hl o (by simp);simp only [mZ,qq] at ho;have hd:∀i,o.dst=some i->i<n:=λi e=>by have:=ho.2;rw [e] at this;simpa using this
   exact rr EQ fv _ _ m w _ (λx hx=>hl x (by simp [hx])) h hs (hf.put hd (bI.undef m)) hK
def c8 (P:Program) (n:Nat) (c:Code) (Q:Exit->Fr->AW->Prop) (a:Fr) (A:AW):Prop:=
 lq n c=true->∀(m:Mp) (w:World) (ca:Act),j6 m A w->tB m n a ca->
  c.wp P (λe Bw w'=>∃m' a' A',j8 m A w m' A' w'/\tB m' n a' Bw/\Q e a' A') ca w
section
variable {P:Program} {n:Nat} {Q:Exit->Fr->AW->Prop} {a:Fr} {A:AW}
theorem Bb {c:Code} {Q':Exit->Fr->AW->Prop} (h:c8 P n c Q a A) (hq:∀e a A,Q e a A->Q' e a A):c8 P n c Q' a A:=
 λmv m w ca hs hf=>wp_mono (h mv m w ca hs hf) λe Bw w' ⟨m',a',A',h1,h2,h3⟩=>⟨m',a',A',h1,h2,hq _ _ _ h3⟩
theorem N8 {id:Nat} {bJ:Array Oper} (h:Oq P bJ (Q .normal) bJ.toList a A):c8 P n (.region id bJ false) Q a A:=by
 intro mv m w ca hs hf;have EQ:bJ.all (mZ n)=true:=mv;refine wp_region_list (rr EQ _ _ _ m w ca (λo ho=>Z1.1 EQ o (Ze.1 ho)) h hs hf ?_);intro a' A' m' w' Bw hk ev EX;exact⟨m',a',A',ev,EX,hk⟩
theorem T8 (h:Q .normal a A):c8 P n .skip Q a A:=λ_ m w ca hs hf=>wp_skip ⟨m,a,A,j8.refl hs,hf,h⟩
theorem Ub {id:Nat} (h:Q (.exit id) a A):c8 P n (.exit id) Q a A:=λ_ m w ca hs hf=>wp_exit ⟨m,a,A,j8.refl hs,hf,h⟩
theorem Ps (h:Q .ret a A):c8 P n .ret Q a A:=λ_ m w ca hs hf=>wp_ret ⟨m,a,A,j8.refl hs,hf,h⟩
def aR (next:Fr->AW->Prop) (Q:Exit->Fr->AW->Prop):Exit->Fr->AW->Prop
 | .normal,a,A=>next a A
 | e,a,A=>Q e a A
theorem ba {x y:Code} (h:c8 P n x (aR (c8 P n y Q) Q) a A):c8 P n (.seq x y) Q a A:=by
 intro mv m w ca hs hf;simp only [lq,qq] at mv;refine wp_seq (wp_mono (h mv.1 m w ca hs hf) ?_);rintro e Bw w' ⟨m',a',A',ev,EX,hq⟩;cases e with
 | normal=>
   refine wp_mono (hq mv.2 m' w' Bw ev.FR EX) ?_;rintro e ca2 w2 ⟨m2,a2,A2,NU,IW,O7⟩;exact⟨m2,a2,A2,ev.trans NU,IW,O7⟩
 | exit id=>exact⟨m',a',A',ev,EX,hq⟩
 | goto l=>exact⟨m',a',A',ev,EX,hq⟩
 | ret=>exact⟨m',a',A',ev,EX,hq⟩
 | panic ch=>exact⟨m',a',A',ev,EX,hq⟩
 | outgrown=>exact⟨m',a',A',ev,EX,hq⟩
theorem Uc {c:Operand} {x y:Code} {b:Bool} (hc:iW a c=.bool b) (h1:b=true->c8 P n x Q a A) (h2:b=false->c8 P n y Q a A):c8 P n (.cond c x y) Q a A:=by
 intro mv m w ca hs hf;simp only [lq,qq] at mv;have hv:=hf.eval mv.1.1;rw [hc] at hv;generalize hg:ca.eval c=x' at hv;cases hv;exact wp_cond_split hg (λe=>h1 e mv.1.2 m w ca hs hf) (λe=>h2 e mv.2 m w ca hs hf)
def cx (id:Nat) (Q:Exit->Fr->AW->Prop):Exit->Fr->AW->Prop
 | .exit id',a,A=>if id'=id then Q .normal a A else Q (.exit id') a A
 | e,a,A=>Q e a A
theorem Q3 {id:Nat} {c:Code} (h:c8 P n c (cx id Q) a A):c8 P n (.block id c) Q a A:=by
 intro mv m w ca hs hf;refine wp_block (wp_mono (h mv m w ca hs hf) ?_);rintro e Bw w' ⟨m',a',A',ev,EX,hq⟩;cases e with
 | exit id'=>
   simp only [Exit.inBlock];simp only [cx] at hq;split;rename_i e;rw [aA e] at hq;exact⟨m',a',A',ev,EX,hq⟩;rename_i e;rw [aw e] at hq;exact⟨m',a',A',ev,EX,hq⟩
 | normal=>exact⟨m',a',A',ev,EX,hq⟩
 | goto l=>exact⟨m',a',A',ev,EX,hq⟩
 | ret=>exact⟨m',a',A',ev,EX,hq⟩
 | panic ch=>exact⟨m',a',A',ev,EX,hq⟩
 | outgrown=>exact⟨m',a',A',ev,EX,hq⟩
theorem ef {c:Code} (I:Nat->Fr->AW->Prop) (n₀:Nat) (h₀:I n₀ a A)
 (round:∀k a A,I k a A->c8 P n c (aR (λa' A'=>∃k',k'<k/\I k' a' A') Q) a A):c8 P n (.loop c) Q a A:=by
 intro mv m w ca hs hf;refine wp_loop_ghost (λk Bw w'=>∃m' a' A',j8 m A w m' A' w'/\tB m' n a' Bw/\I k a' A') n₀ ⟨m,a,A,j8.refl hs,hf,h₀⟩ ?_;rintro k Bw w' ⟨m',a',A',ev,EX,hI⟩;refine wp_mono (round k a' A' hI mv m' w' Bw ev.FR EX) ?_;rintro e ca2 w2 ⟨m2,a2,A2,NU,IW,hq⟩;cases e with
 | normal=>
   obtain⟨k',cD,hI'⟩:=hq;exact⟨k',cD,m2,a2,A2,ev.trans NU,IW,hI'⟩
 | exit id=>exact⟨m2,a2,A2,ev.trans NU,IW,hq⟩
 | goto l=>exact⟨m2,a2,A2,ev.trans NU,IW,hq⟩
 | ret=>exact⟨m2,a2,A2,ev.trans NU,IW,hq⟩
 | panic ch=>exact⟨m2,a2,A2,ev.trans NU,IW,hq⟩
 | outgrown=>exact⟨m2,a2,A2,ev.trans NU,IW,hq⟩
end
def aS (P:Program) (a:Fr) (A:AW):ResultVar->Option Value
 | .tmp t=>some (a t)
 | .cell p t=>
   match a p with
   | .pointer (some q)=>iF P A t q
   | _=>none
def aQ (P:Program) (a:Fr) (A:AW):List ResultVar->Option (List Value)
 | []=>some []
 | r::rs=>
   match aS P a A r,aQ P a A rs with
   | some v,some vs=>some (v::vs)
   | _,_=>none
def bu (P:Program) (a:Fr) (A:AW) (rs:List ResultVar):Option Value:=
 match aQ P a A rs with
 | some [v]=>some v
 | some vs=>some (.tuple vs.toArray)
 | none=>none
def Hh (n:Nat):ResultVar->Bool
 | .tmp t=>decide (t<n)
 | .cell p _=>decide (p<n)
def Ip (tmps:Array Value):ResultVar->Sem Value
 | .tmp t=>pure (tmps.getD t undef)
 | .cell a t=>do loadVar t (<-asAddr (tmps.getD a undef))
theorem MK (fn:Func) (tmps:Array Value) :
 results fn tmps=(fn.results.mapM (Ip tmps) >>= λvs=>pure (if h:vs.size=1 then vs[0] else .tuple vs):Sem Value):=by
 unfold results;congr 2
theorem LS {P:Program} {m:Mp} {A:AW} {w:World} (hs:j6 m A w) {n:Nat} {a:Fr} {ca:Act} (hf:tB m n a ca) {r:ResultVar} (mv:Hh n r=true) {v:Value} (h:aS P a A r=some v) :
 ∃v',bI m v v'/\(Ip ca.tmps r).run P w=.ok v' w:=by
 cases r with
 | tmp t=>
   injection h with h;subst h;exact⟨_,hf.rel t (by simpa [Hh] using mv),rfl⟩
 | cell p t=>
   simp only [aS] at h;split at h
   . rename_i q hq;have hv:=hf.rel p (by simpa [Hh] using mv);rw [hq] at hv;generalize hg:ca.tmps.getD p undef=x' at hv;cases hv with
     | Kr ha=>
       obtain⟨v',h1,h2⟩:=LZ (P:=P) hs h ha;refine⟨v',h2,?_⟩;simp only [Ip,hg,asAddr,qx,qF,qw,h1]
   cases h
theorem CS {P:Program} {m:Mp} {A:AW} {w:World} (hs:j6 m A w) {n:Nat} {a:Fr} {ca:Act} (hf:tB m n a ca):∀(rs:List ResultVar) (vs:List Value),rs.all (Hh n)=true->
 aQ P a A rs=some vs->∃Cl,iV m vs Cl/\(rs.mapM (Ip ca.tmps)).run P w=.ok Cl w
 | [],vs,_,h=>by injection h with h;subst h;exact⟨[],.nil,rfl⟩
 | r::rs,vs,mv,h=>by
   unfold aQ at h;simp only [List.all_cons,qq] at mv;split at h;rename_i v vs1 hv Nr;injection h with h;subst h;obtain⟨v',h1,h2⟩:=LS (P:=P) hs hf mv.1 hv;obtain⟨Cl,h3,h4⟩:=CS hs hf rs vs1 mv.2 Nr;refine⟨v'::Cl,.cons h1 h3,?_⟩;simp only [List.mapM_cons,qx,h2,qw,h4,qF];cases h
theorem Oe {P:Program} {m:Mp} {A:AW} {w:World} (hs:j6 m A w) {fn:Func} {n:Nat} {a:Fr} {ca:Act} (hf:tB m n a ca) (mv:fn.results.toList.all (Hh n)=true) {v:Value}
 (h:bu P a A fn.results.toList=some v):∃v',bI m v v'/\(results fn ca.tmps).run P w=.ok v' w:=by
 unfold bu at h;cases hl:aQ P a A fn.results.toList with
 | none=>rw [hl] at h;cases h
 | some vs=>
   obtain⟨Cl,h1,h2⟩:=CS (P:=P) hs hf _ _ mv hl;have h3:=wi (P:=P) _ fn.results Cl h2;rw [hl] at h;have Le:∀(x:Value),(if h:Cl.toArray.size=1 then Cl.toArray[0] else .tuple Cl.toArray)=x->(results fn ca.tmps).run P w=.ok x w:=λx e=>by
    rw [MK,qx,h3];simp only [qw,qF,e]
   split at h;rename_i u hu;injection hu with hu;injection h with h;subst hu;subst h;obtain⟨v',t',rfl,hv,ht⟩:=h1.mf;have:=ht.pT;subst this;exact⟨v',hv,Le v' (by simp)⟩;rename_i us gT hu;injection hu with hu;injection h with h;subst hu;subst h;refine⟨.tuple Cl.toArray,.tuple (by simpa using h1.1) (λi x x' e1 e2=>h1.2 i x x' (by simpa using e1) (by simpa using e2)),Le _ ?_⟩;rw [dif_neg];intro e;have e1:Cl.length=1:=by simpa using e
   rw [<-h1.1] at e1;obtain⟨x,rfl⟩:=List.length_eq_one_iff.1 e1;exact gT x rfl;rename_i hu;cases hu
def EK (args:List Value):Fr:=λi=>args.getD i undef
def LB (fn:Func) (nargs:Nat):Bool:=
 decide (nargs<=fn.ntmps) && !(fn.name == "runtime.NumGoroutine") && fn.results.toList.all (Hh fn.ntmps) && (match fn.body with|some c=>lq fn.ntmps c|none=>false)
def aU (P:Program) (fn:Func) (R:Value->AW->Prop):Exit->Fr->AW->Prop
 | .normal,a,A=>∃v,bu P a A fn.results.toList=some v/\R v A
 | .ret,a,A=>∃v,bu P a A fn.results.toList=some v/\R v A
 | _,_,_=>False
theorem Jv {P:Program} {f:FuncId} {fn:Func} {c:Code} {args:List Value} {A:AW} {R:Value->AW->Prop} (hf:P.funcs[f]? = some fn) (hb:fn.body=some c) (mv:LB fn args.length=true)
 (h:c8 P fn.ntmps c (aU P fn R) (EK args) A):aD P f args A R:=by
 simp only [LB,hb,qq,decide_eq_true_eq,ZF] at mv;obtain⟨⟨⟨h1,h2⟩,h3⟩,h4⟩:=mv;refine⟨by simp [jY,hf,h2,hb],λm w gK hs hl=>?_⟩;refine calls_of_wp hf hb (wp_mono (h h4 m w _ hs ?_) ?_);have vS:gK.size=args.length:=by have:=hl.1;simp at this;omega
 refine⟨by simp [vS];omega,rfl,λi hi=>?_,hs.wI⟩;simp only [EK,ql,ZV];by_cases cD:i<args.length;have e1:=qk cD;have YT:i<gK.size:=by omega
 have e2:gK.toList[i]? = some gK[i]:=by simp [YT]
 rw [e1,kbi YT,qV YT];exact hl.2 i _ _ e1 e2;rw [qN (by omega),Array.getElem?_append_right (by omega)];simp only [Option.getD_none];rw [Array.getElem?_replicate];split;exact bI.undef m;exact bI.undef m;rintro e Bw w' ⟨m',a',A',ev,EX,hq⟩
 have bS:∀(hx:∃v,bu P a' A' fn.results.toList=some v/\R v A'),Bw.defers=[]/\∃v,(results fn Bw.tmps).run P w'=.ok v w'/\
  ∃v0 v' m' A',Ending.returned v=.returned v'/\j8 m A w m' A' w'/\bI m' v0 v'/\R v0 A':=by
  rintro ⟨v,hv,hR⟩;obtain⟨v',h5,h6⟩:=Oe ev.FR EX h3 hv;exact⟨EX.defers,v',h6,v,v',m',A',rfl,ev,h5,hR⟩
 cases e with
 | normal=>exact bS hq
 | ret=>exact bS hq
 | exit id=>exact hq.elim
 | goto l=>exact hq.elim
 | panic ch=>exact hq.elim
 | outgrown=>exact hq.elim
theorem j6.Yr {m:Mp} {A:AW} {w:World} (hs:j6 m A w) {g:Nat} {cs:List Value} {iT:Array Value} {e:TypeId} {fr:Nat×Nat} (hg:Gl.ok g=true) (hB:Gl.B g=some (.cells iT e fr))
 (hc:∀(k:Nat) (v:Value),cs[k]? = some v->iT[k]? = some v/\fD v=true):j6 m (A.set g (some (.cells cs false 1))) w/\∀i o p,A.bp i=some o->o.own=true->m i=some p->i≠g:=by
 have hmg:=hs.wI g hg;have gT:∀i o p,A.bp i=some o->o.own=true->m i=some p->i≠g:=λi o p hi ho hm e=>by
  subst e;rw [hmg] at hm;injection hm with hm;have:=hs.AA i o _ hi ho hmg;rw [hB] at this;cases this
 have cD:g<A.next:=by
  rcases Nat.lt_or_ge g A.next with h|h;exact h;rw [hs.sS g h] at hmg;cases hmg
 have dT:∀{i o},(A.set g (some (.cells cs false 1))).bp i=some o->i≠g->A.bp i=some o:=λ{i o} h hi=>by rwa [AW.bg hi] at h
 have mc:∀{i o},(A.set g (some (.cells cs false 1))).bp i=some o->o.own=true->i≠g:=λ{i o} h ho e=>by
  subst e;rw [AW.cY] at h;injection h with h;subst h;cases ho
 refine⟨⟨?_,?_,hs.sS,?_,hs.laid,?_,hs.wI⟩,gT⟩;intro i o hi;by_cases e1:i=g;subst e1;rw [AW.cY] at hi;injection hi with hi;subst hi;refine⟨_,hmg,iT,e,fr,hs.laid _ _ hB,λh=>(by cases h),rfl,by simp [NL,hB],λk v hv=>?_⟩;obtain⟨h1,h2⟩:=hc k v hv;exact⟨v,by rw [Zj];exact h1,.kH h2 m⟩;exact hs.Gu i o (dT hi e1);intro i j o o' p p' hi ho hj hij VD Xb;have Bt:=dT hi (mc hi ho);by_cases e1:j=g;subst e1;rw [hmg] at Xb;injection Xb with Xb;subst Xb;intro e2;have:=hs.AA i o p Bt ho VD;rw [e2] at this;rw [hB] at this;cases this;exact hs.inj i j o o' p p' Bt ho (dT hj e1) hij VD Xb;intro i hi;have xQ:A.next<=i:=hi;rw [AW.bg (by omega)];exact hs.zL i xQ;intro i o p hi ho hm;exact hs.AA i o p (dT hi (mc hi ho)) ho hm
theorem aD.Yr {P:Program} {f:FuncId} {args:List Value} {A:AW} {g:Nat} {cs:List Value} {iT:Array Value} {e:TypeId} {fr:Nat×Nat} (hg:Gl.ok g=true) (hB:Gl.B g=some (.cells iT e fr))
 (hc:∀(k:Nat) (v:Value),cs[k]? = some v->iT[k]? = some v/\fD v=true) {R:Value->AW->Prop} (h:aD P f args (A.set g (some (.cells cs false 1))) R):aD P f args A R:=by
 refine⟨h.1,λm w gK hs hl=>?_⟩;obtain⟨Qr,gT⟩:=hs.Yr hg hB hc;have own:∀b,Uq m (A.set g (some (.cells cs false 1))) b↔Uq m A b:=λb=>by
  constructor;rintro ⟨i,o,p,hi,ho,hm,hb⟩;by_cases e1:i=g;subst e1;rw [AW.cY] at hi;injection hi with hi;subst hi;cases ho;rw [AW.bg e1] at hi;exact⟨i,o,p,hi,ho,hm,hb⟩;rintro ⟨i,o,p,hi,ho,hm,hb⟩;exact⟨i,o,p,by rw [AW.bg (gT i o p hi ho hm)];exact hi,ho,hm,hb⟩
 have hused:∀b,PB m (A.set g (some (.cells cs false 1))) b->PB m A b\/Gl.B b≠none:=by
  rintro b ⟨i,o,p,hi,hm,hb⟩;by_cases e1:i=g;subst e1;rw [hs.wI i hg] at hm;injection hm with hm;subst hm;exact .inr (by rw [<-hb];show Gl.B i≠none;rw [hB];exact kaF _);rw [AW.bg e1] at hi;exact .inl ⟨i,o,p,hi,hm,hb⟩
 refine(h.2 m w gK Qr hl).mono ?_;rintro e' w' ⟨v,v',m',A',rfl,ev,hv,hR⟩;exact⟨v,v',m',A',rfl,⟨ev.ext,ev.FR,ev.next,ev.os,ev.tape,ev.output,ev.size,λb hb ho=>ev.tR b hb (λh=>ho ((own b).1 h)),λb hb=>(ev.grow b hb).imp (own b).1 id,ev.mu,λb hb=>match ev.UQ b hb with | .inl h1=>(hused b h1).imp id .inr | .inr h1=>.inr h1⟩,hv,hR⟩
end Go.Stx
namespace Go.Stx
open Go
variable [Gl]
def dQ.ro:dQ->dQ
 | .cells cs _ u=>.cells cs false u
 | .map es _=>.map es false
theorem dQ.MJ (o:dQ):o.ro.own=false:=by cases o<;>rfl
theorem nF.ro {m:Mp} {w:World} {p:Pl} {o:dQ} (h:nF m w p o):nF m w p o.ro:=by
 cases o with
 | cells cs own u=>
   obtain⟨iT,e,fr,h2,h3,h4⟩:=h;exact⟨iT,e,fr,h2,λh=>(by cases h),h4⟩
 | map es own=>exact h
def AW.ro (A:AW):AW:={ A with bp:=λi=>(A.bp i).map dQ.ro }
theorem AW.Io {A:AW} {i:Nat} {o:dQ} (h:A.ro.bp i=some o):∃o',A.bp i=some o'/\o=o'.ro:=by
 simp only [AW.ro,ZJ] at h;obtain⟨o',h1,h2⟩:=h;exact⟨o',h1,h2.symm⟩
theorem j6.ro {m:Mp} {A:AW} {w:World} (hs:j6 m A w):j6 m A.ro w:=by
 refine⟨λi o hi=>?_,λi j o o' p p' hi ho=>?_,hs.sS,λi hi=>?_,hs.laid,λi o p hi ho=>?_,hs.wI⟩;obtain⟨o',hg,rfl⟩:=AW.Io hi;obtain⟨p,h1,h2⟩:=hs.Gu _ _ hg;exact⟨p,h1,h2.ro⟩;obtain⟨o',hg,rfl⟩:=AW.Io hi;rw [dQ.MJ] at ho;cases ho;simp [AW.ro,hs.zL i hi];obtain⟨o',hg,rfl⟩:=AW.Io hi;rw [dQ.MJ] at ho;cases ho
structure G3 (w w':World):Prop where
 ext:Q9 w w'
 os:w'.os=w.os
 tape:w'.tape=w.tape
 output:w'.output=w.output
 size:w.heap.size<=w'.heap.size
theorem G3.refl (w:World):G3 w w:=⟨Q9.refl w,rfl,rfl,rfl,qf _⟩
theorem G3.evo {m:Mp} {A:AW} {w w':World} (hs:j6 m A w) (h:G3 w w'):j8 m A w m A w':=
 ⟨Mp.le_refl m,h.ext.FR hs,qf _,h.os,h.tape,h.output,h.size,λb hb _=>h.ext b hb,λ_ h=>.inl h,λ_ _=>rfl,λ_ h=>.inl h⟩
theorem G3.drew (w:World):G3 w w.drew:=⟨λ_ _=>rfl,rfl,rfl,rfl,qf _⟩
def xg (P:Program) (f:FuncId) (args:List Value) (A:AW) (v:Value):Prop:=
 jY P f=true/\fD v=true/\∀(m:Mp) (w:World) (gK:Array Value),j6 m A w->iV m args gK.toList->Calls P f gK w λe w'=>e=.returned v/\G3 w w'
theorem bI.ny {m:Mp} {v v':Value} (hv:fD v=true) (h:bI m v v'):v'=v:=by
 cases h<;>first|rfl|(simp [fD] at hv;done)
theorem xg.Vf {P:Program} {f:FuncId} {args:List Value} {A:AW} {v:Value} (hv:fD v=true) (h:aD P f args A.ro λv' _=>v'=v):xg P f args A v:=by
 refine⟨h.1,hv,λm w gK hs hl=>(h.2 m w gK hs.ro hl).mono ?_⟩;rintro e w' ⟨u,u',m',A',rfl,ev,hr,rfl⟩;have:=hr.ny hv;subst this;refine⟨rfl,⟨λb hb=>ev.tR b hb ?_,ev.os,ev.tape,ev.output,ev.size⟩⟩;rintro ⟨i,o,p,hi,Bs,_⟩;obtain⟨o',_,rfl⟩:=AW.Io hi;rw [dQ.MJ] at Bs;cases Bs
theorem xg.call {P:Program} {f:FuncId} {args:List Value} {A:AW} {v:Value} (h:xg P f args A v) {R:Value->AW->Prop} (hR:R v A):aD P f args A R:=by
 refine⟨h.1,λm w gK hs hl=>(h.2.2 m w gK hs hl).mono ?_⟩;rintro e w' ⟨rfl,hk⟩;exact⟨v,v,m,A,rfl,hk.evo hs,.kH h.2.1 m,hR⟩
def Uu (P:Program) (op:Op) (r:Operand->Value) (A:AW) (k:Value->Prop):Prop:=
 match op with
 | .call c=>
   match c.callee with
   | .value x=>
     match r x with
     | .func (.func f) fs cs=>∃v,xg P f (fs.toList++c.args.toList.map r++cs.toList) A v/\k v
     | _=>False
   | _=>False
 | _=>False
def AQStep (P:Program) (op:Op) (r:Operand->Value) (A:AW) (k:Value->Prop):Prop:=
 match aq P A r op with
 | some v=>k v
 | none=>Uu P op r A k
end Go.Stx
namespace Go.Stx
open Go
variable [Gl]
@[simp] theorem upd_apply (a:Fr) (i j:Nat) (v:Value):lP a i v j=if j=i then v else a j:=rfl
@[simp] theorem Yt (v:Value) (l:List Value):EK (v::l) 0=v:=rfl
@[simp] theorem Yu (v:Value) (l:List Value) (i:Nat):EK (v::l) (i+1)=EK l i:=rfl
@[simp] theorem putF_some (a:Fr) (i:Nat) (v:Value):eK a (some i) v=lP a i v:=rfl
@[simp] theorem putF_none (a:Fr) (v:Value):eK a none v=a:=rfl
@[simp] theorem evF_tmp (a:Fr) (t:Nat):iW a (.tmp t)=a t:=rfl
@[simp] theorem evF_const (a:Fr) (v:Value):iW a (.const v)=v:=rfl
@[simp] theorem evF_func (a:Fr) (f:FuncId):iW a (.func f)=.func (.func f) #[] #[]:=rfl
@[simp] theorem cells_int (k:IntKind) (n:Int):(qp k n).cells = #[.int k n]:=rfl
@[simp] theorem cells_bool (b:Bool):(Value.bool b).cells = #[.bool b]:=rfl
@[simp] theorem We (s:ByteArray):(Value.string s).cells = #[.string s]:=rfl
@[simp] theorem UJ (a:Option Addr):(Value.pointer a).cells = #[.pointer a]:=rfl
@[simp] theorem Xy (a:Option Addr) (n c:Nat):(Value.slice a n c).cells = #[.slice a n c]:=rfl
@[simp] theorem cells_map (r:Option Nat):(Value.map r).cells = #[.map r]:=rfl
@[simp] theorem cells_func (fn:Fn) (x y:Array Value):(Value.func fn x y).cells = #[.func fn x y]:=rfl
@[simp] theorem UK:Value.nilFunc.cells = #[.nilFunc]:=rfl
@[simp] theorem TZ:Value.nilIface.cells = #[.nilIface]:=rfl
@[simp] theorem Xz (t:TypeId) (v:Value):(Value.iface t v).cells = #[.iface t v]:=rfl
@[simp] theorem cells_agg (cs:Array Value):(Value.agg cs).cells=cs:=rfl
attribute [simp] fA LT fB tw sW JB Jz Cb Bd fD xE
attribute [simp] nC u7 Jn EF iF Jp u9 apart zD r8 mj Un Ui u6
attribute [simp] Py DJ Bg Bf gv eX wZ mJ Jt vg rq w5
attribute [simp] i8 AQStep aq ae aR cx aU bu aQ aS Wz Dl IN aun Px
@[simp] theorem Cu (k0 k:IntKind) (a b:Int):Zz (.int k0) (.int k a) (.int k b)=some (a == b):=by simp [Zz]
@[simp] theorem JH (K:Fr->AW->Prop) (Q:Exit->Fr->AW->Prop):aR K Q .normal=K:=rfl
structure SOp where
 dst:Option Tmp
 op:Op
 guard:Option (Option Tmp×Bool)
def lG (bJ:Array Oper) (g:Option (Nat×Bool)):Option (Option Tmp×Bool):=g.map λx=>((bJ[x.1]?).bind (·.dst),x.2)
def sg (a:Fr) (g:Option (Option Tmp×Bool)):Bool:=
 match g with
 | none=>true
 | some (some d,RB)=>
   match a d with
   | .bool b=>b == RB
   | _=>false
 | some (none,_)=>false
theorem OA (bJ:Array Oper) (a:Fr) (o:Oper):nu bJ a o=sg a (lG bJ o.guard):=by
 unfold nu sg lG;cases o.guard with
 | none=>rfl
 | some g=>
   obtain⟨j,RB⟩:=g;simp only [qR];cases (bJ[j]?).bind (·.dst)<;>rfl
theorem i8.mono {P:Program} {op:Op} {r:Operand->Value} {A:AW} {k k':Value->AW->Prop} (h:∀v A',k v A'->k' v A') (hh:i8 P op r A k):i8 P op r A k':=by
 unfold i8 at *;split at hh;exact h _ _ hh;split at hh;exact h _ _ hh;unfold zI at *;split at hh;split at hh;split at hh;exact hh.mono h;exact hh;exact hh;exact hh
attribute [simp] sg
theorem SO {c:Prop} [Decidable c] {p q:Prop} (h1:c->p) (h2:¬c->q):if c then p else q:=by
 split;exact h1 ‹_›;exact h2 ‹_›
def AW.Wf (A:AW):Prop:=∀i,A.next<=i->A.bp i=none
theorem AW.Wf.lt {A:AW} (h:A.Wf) {i:Nat} {o:dQ} (hg:A.bp i=some o):i<A.next:=by
 rcases Nat.lt_or_ge i A.next with h1|h1;exact h1;rw [h i h1] at hg;cases hg
@[simp] theorem AW.bd (A:AW) (o:dQ):(A.alloc o).next=A.next+1:=rfl
@[simp] theorem AW.rA (A:AW) (i:Nat) (o:Option dQ):(A.set i o).next=A.next:=rfl
@[simp] theorem AW.bY (A:AW) (o:dQ):(A.alloc o).bp A.next=some o:=by simp [AW.alloc]
theorem AW.fV (A:AW) (o:dQ) {i:Nat} (h:i≠A.next):(A.alloc o).bp i=A.bp i:=by simp [AW.alloc,h]
@[simp] theorem AW.XY (A:AW) (i:Nat) (o:Option dQ):(A.set i o).bp i=o:=AW.cY
theorem AW.yP {A:AW} {i:Nat} {cs:List Value} {own:Bool} {u:Nat} (h:A.bp i=some (.cells cs own u)):A.b8 i=some cs:=by simp [AW.b8,h]
theorem AW.Wf.alloc {A:AW} (h:A.Wf) (o:dQ):(A.alloc o).Wf:=λi hi=>by
 simp only [AW.bd] at hi;rw [AW.fV _ _ (by omega)];exact h i (by omega)
theorem AW.Wf.set {A:AW} (h:A.Wf) {i:Nat} (o:Option dQ) (hi:i<A.next):(A.set i o).Wf:=λj hj=>by
 simp only [AW.rA] at hj;rw [AW.bg (by omega)];exact h j hj
structure AW.le (A A':AW):Prop where
 next:A.next<=A'.next
 bp:∀i,i<A.next->A'.bp i=A.bp i
theorem AW.le.refl (A:AW):A.le A:=⟨qf _,λ_ _=>rfl⟩
theorem AW.le.trans {A B C:AW} (h:A.le B) (k:B.le C):A.le C:=⟨qM h.next k.next,λi hi=>(k.bp i (kai hi h.next)).trans (h.bp i hi)⟩
theorem AW.le.alloc (A:AW) (o:dQ):A.le (A.alloc o):=⟨by simp,λi hi=>AW.fV _ _ (by omega)⟩
theorem AW.le.set {A B:AW} (h:A.le B) {i:Nat} (hi:A.next<=i) (o:Option dQ):A.le (B.set i o):=
 ⟨h.next,λj hj=>by rw [AW.bg (by omega)];exact h.bp j hj⟩
theorem AW.le.mu {A B:AW} (h:A.le B) (hw:A.Wf) {i:Nat} {o:dQ} (hg:A.bp i=some o):B.bp i=some o:=by rw [h.bp i (hw.lt hg)];exact hg
theorem aD.wf {P:Program} {f:FuncId} {args:List Value} {A:AW} {R:Value->AW->Prop} (h:aD P f args A R):aD P f args A (λv A'=>R v A'/\A'.Wf/\A.next<=A'.next):=
 ⟨h.1,λm w gK hs hl=>(h.2 m w gK hs hl).mono λ_ _ ⟨v,v',m',A',h1,h2,h3,h4⟩=>⟨v,v',m',A',h1,h2,h3,h4,h2.FR.zL,h2.next⟩⟩
theorem C3 {P:Program} {f:FuncId} {fn:Func} {c:Code} {args:List Value} {A:AW} {R:Value->AW->Prop} (hf:P.funcs[f]? = some fn) (hb:fn.body=some c) (mv:LB fn args.length=true)
 (h:A.Wf->c8 P fn.ntmps c (aU P fn R) (EK args) A):aD P f args A R:=by
 have dz:jY P f=true:=by
  simp only [LB,hb,qq,decide_eq_true_eq,ZF] at mv;simp [jY,hf,mv.1.1.2,hb]
 exact⟨dz,λm w gK hs hl=>(Jv hf hb mv (h hs.zL)).2 m w gK hs hl⟩
theorem bO {P:Program} {f:FuncId} {args:List Value} {A:AW} {R k:Value->AW->Prop} (h:aD P f args A R) (hk:∀v A',R v A'->A'.Wf->A.next<=A'.next->k v A'):aD P f args A k:=
 h.wf.mono λv A' ⟨h1,h2,h3⟩=>hk v A' h1 h2 h3
@[congr] theorem XK {P:Program} {f:FuncId} {args LR:List Value} {A:AW} {R:Value->AW->Prop} (h:args=LR):aD P f args A R=aD P f LR A R:=by rw [h]
@[congr] theorem XI {P:Program} {f:FuncId} {args LR:List Value} {A:AW} {v:Value} (h:args=LR):xg P f args A v=xg P f LR A v:=by rw [h]
@[simp] theorem XL (P:Program) (x:Operand) (args:Array Operand) (ts:Array TypeId) (r:Operand->Value) (A:AW) (k:Value->AW->Prop) :
 zI P (.call ⟨.value x,args,ts⟩) r A k=match r x with
  | .func (.func f) fs cs=>aD P f (fs.toList++args.toList.map r++cs.toList) A k
  | _=>False:=rfl
@[simp] theorem XJ (P:Program) (x:Operand) (args:Array Operand) (ts:Array TypeId) (r:Operand->Value) (A:AW) (k:Value->Prop) :
 Uu P (.call ⟨.value x,args,ts⟩) r A k=match r x with
  | .func (.func f) fs cs=>∃v,xg P f (fs.toList++args.toList.map r++cs.toList) A v/\k v
  | _=>False:=rfl
def fW (A:AW) (size:Nat) (v:Value) (n:Nat) (cs:List Value):Prop:=
 ((∃o,v=.slice o 0 0)/\n=0/\cs=[]) \/
 ∃p c b8 own u,v=.slice (some p) n c/\n<=c/\A.bp p.block=some (.cells b8 own u)/\u=size/\p.off+n*size<=b8.length/\cs=(b8.drop p.off).take (n*size)
theorem fW.length {A:AW} {size:Nat} {v:Value} {n:Nat} {cs:List Value} (h:fW A size v n cs):cs.length=n*size:=by
 rcases h with ⟨_,rfl,rfl⟩|⟨p,c,b8,own,u,_,_,_,_,h1,rfl⟩;simp;simp;omega
theorem fW.le {A B:AW} (hl:A.le B) (hw:A.Wf) {size:Nat} {v:Value} {n:Nat} {cs:List Value} (h:fW A size v n cs):fW B size v n cs:=by
 rcases h with h|⟨p,c,b8,own,u,h1,h2,h3,h4⟩;exact .inl h;exact .inr ⟨p,c,b8,own,u,h1,h2,hl.mu hw h3,h4⟩
def cd (A:AW) (k:IntKind) (v:Value) (l:List Int):Prop:=fW A 1 v l.length (l.map (qp k))
theorem cd.le {A B:AW} (hl:A.le B) (hw:A.Wf) {k:IntKind} {v:Value} {l:List Int} (h:cd A k v l):cd B k v l:=fW.le hl hw h
theorem cd.nil (A:AW) (k:IntKind):cd A k (.slice none 0 0) []:=.inl ⟨⟨none,rfl⟩,rfl,rfl⟩
theorem fW.cy {A:AW} {size:Nat} {v:Value} {n:Nat} {cs:List Value} (h:fW A size v n cs):∃o c,v=.slice o n c/\n<=c:=by
 rcases h with ⟨⟨o,rfl⟩,rfl,_⟩|⟨p,c,_,_,_,rfl,h,_⟩;exact⟨_,_,rfl,qf _⟩;exact⟨_,_,rfl,h⟩
theorem cd.cases {A:AW} {k:IntKind} {v:Value} {l:List Int} (h:cd A k v l) :
 ((∃o,v=.slice o 0 0)/\l=[])\/∃p c b8 own,v=.slice (some p) l.length c/\l.length<=c/\A.bp p.block=some (.cells b8 own 1)/\p.off+l.length<=b8.length/\
   ∀j (hj:j<l.length),b8[p.off+j]? = some (.int k l[j]):=by
 rcases h with ⟨h1,h2,h3⟩|⟨p,c,b8,own,u,h1,h2,h3,h4,h5,h6⟩;exact .inl ⟨h1,Zc h2⟩;subst h4;rw [Nat.mul_one] at h5 h6;refine .inr ⟨p,c,b8,own,h1,h2,h3,h5,λj hj=>?_⟩;have h7:(l.map (qp k))[j]? = ((b8.drop p.off).take l.length)[j]?:=by rw [h6]
 rw [Zg,qk hj,Zu hj,Zv] at h7;exact h7.symm
theorem cd.cy {A:AW} {k:IntKind} {v:Value} {l:List Int} (h:cd A k v l):∃o c,v=.slice o l.length c/\l.length<=c:=fW.cy h
theorem cd.at {A:AW} {k:IntKind} {o:Option Addr} {c n:Nat} {l:List Int} (h:cd A k (.slice o n c) l) {i:Nat} (hi:i<l.length) :
 ∃p b8,o=some p/\A.b8 p.block=some b8/\b8[p.off+i]? = some (.int k l[i]):=by
 rcases h.cases with ⟨h1,rfl⟩|⟨p,c,b8,own,h1,_,hg,_,hr⟩;simp at hi;injection h1 with h1 h2 h3;exact⟨p,b8,h1,AW.yP hg,hr i hi⟩
end Go.Stx
