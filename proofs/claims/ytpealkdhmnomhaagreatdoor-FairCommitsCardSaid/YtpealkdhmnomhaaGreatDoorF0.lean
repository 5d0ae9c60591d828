/-
 The abstract memory, its operations, and the walk over it.
-/
import Derived.WalkKit
import Derived.MapKept
import Derived.Lib.AppendZerosOnto
import Derived.ChangeKeysEq
import Derived.Laws.StructEq
import Derived.Laws.Cover3
import Derived.Laws.BytesArg
import Derived.Deep.LoopGhost
import Derived.Deep.Quiet
set_option linter.unusedVariables false
set_option linter.unusedSimpArgs false
set_option linter.unusedSectionVars false
open Array renaming all_eq_true_iff_forall_mem->kaz,foldl_toList->kbY,getD_eq_getD_getElem?->kar,getElem?_append_left->kbU,getElem?_eq_getElem->ZL,getElem?_eq_some_iff->Zf,getElem?_map->kbx,getElem?_modify->kaY,getElem?_setIfInBounds_ne->kbs,getElem?_toList->kbc,mem_append->kbA,mem_of_getElem?->kaA,mem_toList_iff->kah,range->kaJ
open BitVec renaming ofInt->kan
open Bool renaming and_eq_true->Zd,false_eq_true->Zg,not_eq_true'->kac
open Go.Builtin renaming append_->kaa,clear_->kbE,len_->kbK,zeroCells->ZW
open Go.Instr renaming checkKey->kb4,fill->ka9,findNow->kbI,lookup->kbL,mapUpdate->kb1,sameBits->kb3,sameNow->kab,slice->kbo,sliceAt->kaU,sliceBounds->kaT,sureAddr->kbD
open Go.IntKind renaming i64->qY,signed->kbj
open Go.MapKept renaming run_getObj_map->kbt,run_setObj_map->kb7
open Go.Op renaming equalIn->ZK,intArith->kbP,intBits->kbp,intCmp->kba,operands->kaW
open Go.Result renaming andThen_ok->Zi
open Go.Sem renaming run_bind->Zj,run_pure->Zu
open Go.Value renaming int->Zb,oneCell'->Zz
open List renaming all_eq_true->Zr,append_assoc->kaS,eq_nil_of_length_eq_zero->ZP,getD_eq_getElem?_getD->Za,getElem?_append->kbv,getElem?_append_left->kaf,getElem?_append_right->kaX,getElem?_drop->Z7,getElem?_eq_getElem->q9,getElem?_eq_none->Zx,getElem?_eq_some_iff->ZC,getElem?_map->ZX,getElem?_set_ne->Z6,getElem?_set_self->ZV,getElem?_take_of_lt->Z5,getElem?_toArray->kaK,length_cons->Zy,length_take->Z9,mem_of_getElem?->kaC,perm_middle->kbz,range->Zp
open Nat renaming add_assoc->ZD,add_mul->kao,le_refl->qZ,le_trans->ZA,lt_of_lt_of_le->kaR,zero_add->ZZ
open Ne renaming symm->Zm
open Option renaming isSome_none->kbw,map_eq_some_iff->kag,map_some->kaN,some_ne_none->kbf
open Option.some renaming injEq->Zh
open Prod.mk renaming injEq->ZE
open Bool renaming false->qk,true->qg
open Go renaming Addr->qL,FuncId->qJ,IntKind->qw,Oper->qx,Operand->qy,Program->ql,TypeDesc->qO,TypeId->qr,TypeInfo->qP,Value->qd,World->qs,binOp->qC,eqGuard->qD,execOp->qM,grownCap->qQ,run_underlying->qp,typeInfo->qN,undef->qz,zeroValue->qI
open Go.Callee renaming builtin->qB
open Go.Exit renaming normal->qG
open Go.Op renaming call->qT
open Go.Result renaming ok->qH
open Go.TypeDesc renaming interface->qU
open Option renaming none->qh,some->qc
open Or renaming inl->qq,inr->qt
namespace Go.Stx
theorem Ya{p:Prop}(h:p:=by omega):p:=h
theorem Yb{p:Prop}(h:p:=by simp):p:=h
theorem Yc{p:Prop}(h:p:=by decide +kernel):p:=h
theorem Yd{p:Prop}(h:p:=by ac_rfl):p:=h
theorem Ye{p:Prop}(h:p:=by kernel_rfl):p:=h
theorem Yf{p:Prop}(h:p:=by decide):p:=h
theorem Yg{p:Prop}(h:p:=by (simp;omega)):p:=h
theorem Yh{p:Prop}(h:p:=by simp [Op.operands]):p:=h
theorem Yi{p:Prop}(h:p:=by (simp<;>omega)):p:=h
theorem Yj{p:Prop}(h:p:=by (unfold bH;rw [ay h0];rfl)):p:=h
theorem Yk{p:Prop}(h:p:=by rw [vI]):p:=h
theorem Yl{p:Prop}(h:p:=by simp [az]):p:=h
theorem Ym{p:Prop}(h:p:=by cases e):p:=h
theorem Yn{p:Prop}(h:p:=by (rw [e];trivial)):p:=h
theorem Yo{p:Prop}(h:p:=by (rw [<-zU];simp;omega)):p:=h
theorem Yp{p:Prop}(h:p:=by rw [tM]):p:=h
theorem Yq{p:Prop}(h:p:=by simpa using b):p:=h
theorem Yr{p:Prop}(h:p:=by (unfold fG;rfl)):p:=h
theorem Ys{p:Prop}(h:p:=by (rw [h];rfl)):p:=h
theorem Yt{p:Prop}(h:p:=by simpa using hl):p:=h
theorem Yu{p:Prop}(h:p:=by simpa using h2):p:=h
theorem Yv{p:Prop}(h:p:=by simp [Op.operands,Call.operands]):p:=h
theorem Yw{p:Prop}(h:p:=by simp [e]):p:=h
theorem Yy{p:Prop}(h:p:=by (rw [<-zU];simp [yc0])):p:=h
theorem Yz{p:Prop}(h:p:=by (dsimp only;omega)):p:=h
theorem YA{p:Prop}(h:p:=by (unfold nR;rw [e])):p:=h
theorem YB{p:Prop}(h:p:=by simp [hx]):p:=h
theorem YC{p:Prop}(h:p:=by simpa using h1):p:=h
theorem YD{p:Prop}(h:p:=by cases h):p:=h
theorem YE{p:Prop}(h:p:=by simp [bW]):p:=h
theorem YF{p:Prop}(h:p:=by simp [pb]):p:=h
theorem YG{p:Prop}(h:p:=by (rw [<-GP];simp;omega)):p:=h
theorem YH{p:Prop}(h:p:=by (rw [<-yA];exact Ur.grow (AW.le.lQ A2 _ _) (hz _ _))):p:=h
theorem YI{p:Prop}(h:p:=by (rw [<-yA];simp)):p:=h
theorem YJ{p:Prop}(h:p:=by (rw [List.length_append,List.length_singleton];omega)):p:=h
theorem YK{p:Prop}(h:p:=by (simp only [AW.be];ac_rfl)):p:=h
theorem YN{p:Prop}(h:p:=by (rw [h2];rfl)):p:=h
theorem YO{p:Prop}(h:p:=by simp [Op.operands,e]):p:=h
theorem YP{p:Prop}(h:p:=by simp [hy]):p:=h
theorem YQ{p:Prop}(h:p:=by simpa using hi):p:=h
theorem YR{p:Prop}(h:p:=by simp [bh.v]):p:=h
theorem YT{p:Prop}(h:p:=by (rw [dw];simp [bh.v])):p:=h
theorem YU{p:Prop}(h:p:=by simpa using pf):p:=h
theorem YV{p:Prop}(h:p:=by simpa using a):p:=h
theorem YW{p:Prop}(h:p:=by simpa using h5):p:=h
theorem YX{p:Prop}(h:p:=by simpa [Nat.ble_eq] using Lr):p:=h
theorem YY{p:Prop}(h:p:=by (unfold eL;rw [ay ⟨h0,by dsimp only;omega⟩])):p:=h
theorem YZ{p:Prop}(h:p:=by (rw [<-GP];simp [yb0])):p:=h
theorem Y0{p:Prop}(h:p:=by (rw [AW.be];omega)):p:=h
theorem Y1{p:Prop}(h:p:=by simp [AW.du,n1]):p:=h
theorem Y2{p:Prop}(h:p:=by (rw [h1];decide)):p:=h
theorem Y5{p:Prop}(h:p:=by (rw [hf] at e;cases e)):p:=h
theorem Y6{p:Prop}(h:p:=by (rw [hs];decide)):p:=h
theorem Y8{p:Prop}(h:p:=by (rw [<-hx];exact(Array.getElem?_eq_some_iff.1 e1).1)):p:=h
theorem Y9{p:Prop}(h:p:=by (rw [<-OP];simp;omega)):p:=h
theorem Xc{p:Prop}(h:p:=by simp [bh.v,bh.zero]):p:=h
theorem Xd{p:Prop}(h:p:=by (have h9:=aj.Qk CB<;>simp only [aW,mD] at h9<;>simp only [h9])):p:=h
theorem Xe{p:Prop}(h:p:=by (rw [g2] at e;cases e)):p:=h
theorem Xf{p:Prop}(h:p:=by (simp only [jO.done,decide_eq_true_eq];omega)):p:=h
theorem Xg{p:Prop}(h:p:=by (rw [ha] at e;cases e)):p:=h
theorem Xi{p:Prop}(h:p:=by (unfold nR;dsimp only;rw [e])):p:=h
theorem Xj{p:Prop}(h:p:=by (rw [List.map_append,hq];rfl)):p:=h
theorem Xk{p:Prop}(h:p:=by (show -9223372036854775808<=t.pc+1+i.cy;omega)):p:=h
theorem Xl{p:Prop}(h:p:=by (show t.pc+1+i.cy<=9223372036854775807;omega)):p:=h
theorem Xm{p:Prop}(h:p:=by (unfold VG;dsimp only;(exact pA))):p:=h
theorem Xp{p:Prop}(h:p:=by (simp only [Op.operands,List.mem_toArray,List.mem_map];exact⟨q,Array.mem_toList_iff.2 (Array.mem_of_getElem? h3),rfl⟩)):p:=h
theorem Xq{p:Prop}(h:p:=by (simp only [Call.operands,Array.mem_append];exact .inr (Array.mem_toList_iff.1 hx))):p:=h
theorem Xs{p:Prop}(h:p:=by (unfold eL;rw [aw (λh=>by have:=h.2;dsimp only at this;omega)])):p:=h
theorem Xt{p:Prop}(h:p:=by (show _=pt A2.next (.cells [.slice o1 l.length c1,.slice o2 ws.length c2] true 1)*(au .i64 (.slice o1 l.length c1) l*(au .u64 (.slice o2 ws.length c2) ws*F));ac_rfl)):p:=h
theorem Xu{p:Prop}(h:p:=by (simp only [jO.done,decide_eq_true_eq,List.length_drop];omega)):p:=h
theorem Xv{p:Prop}(h:p:=by (show (0:Int)<((M 3).length:Int);rw [hM.l3];decide)):p:=h
theorem Xw{p:Prop}(h:p:=by (show (0:Int)<((M 4).length:Int);rw [hM.l4];decide)):p:=h
theorem Xx{p:Prop}(h:p:=by (show (0:Int)<((M 2).length:Int);rw [hM.l2];decide)):p:=h
theorem Xy{p:Prop}(h:p:=by (show _<((M 1).length:Int);rw [hl1];exact hxr.2)):p:=h
theorem Xz{p:Prop}(h:p:=by (simp only [aU.eY,aU.gX,List.length_append,List.length_singleton];omega)):p:=h
theorem XA{p:Prop}(h:p:=by (rw [show t.bd=true from e] at hs;cases hs)):p:=h
theorem XB{p:Prop}(h:p:=by (rw [show t.dY=some l from e] at fz;cases fz)):p:=h
theorem XC{p:Prop}(h:p:=by (have e2:t.bd=true:=e;rw [hR.Q9] at e2;cases e2)):p:=h
theorem XD{p:Prop}(h:p:=by (rw [show t.bd=false from e] at hs;cases hs)):p:=h
theorem XE{p:Prop}(h:p:=by (rw [List.take_succ_eq_append_getElem bY,List.map_append,ON];rfl)):p:=h
theorem aw {c:Prop} [h:Decidable c] {α:Sort _} {a b:α} (hc:¬c):(if c then a else b)=b:=if_neg hc
theorem ay {c:Prop} [h:Decidable c] {α:Sort _} {a b:α} (hc:c):(if c then a else b)=a:=if_pos hc
theorem aa {α:Type _} {a:α} {as bs:List α}:(a::as)++bs=a::(as++bs):=rfl
theorem ah {α:Type _} {as:List α}:[]++as=as:=rfl
open Go
structure Pl where
 block:Nat
 base:Nat
 unit:Nat
 BN:Nat
abbrev Mp:=Nat->Option Pl
def sB (m:Mp) (a a':qL):Prop:=
 a.spot=qh/\a'.spot=qh/\∃p,m a.block=qc p/\a'.block=p.block/\a'.off=p.base+a.off
def DW (m:Mp) (a a':qL) (jH:Nat):Prop:=
 a.spot=qh/\a'.spot=qh/\∃p,m a.block=qc p/\a'.block=p.block/\a'.off=p.base+a.off/\a'.off+jH*p.unit<=p.BN
theorem DW.aad {m:Mp} {a a':qL} {c:Nat} (h:DW m a a' c):sB m a a':=by
 obtain⟨h1,h2,p,h3,h4,h5,_⟩:=h;exact⟨h1,h2,p,h3,h4,h5⟩
inductive bP (m:Mp):Value->Value->Prop
 | bool (b:Bool):bP m (.bool b) (.bool b)
 | int (k:IntKind) (n:Int):bP m (.int k n) (.int k n)
 | float (k:FloatKind) (n:Nat):bP m (.float k n) (.float k n)
 | complex (k:FloatKind) (x y:Nat):bP m (.complex k x y) (.complex k x y)
 | string (s:ByteArray):bP m (.string s) (.string s)
 | B5:bP m (.pointer none) (.pointer none)
 | M5 {a a':Addr} (h:sB m a a'):bP m (.pointer (some a)) (.pointer (some a'))
 | mC:bP m (.slice none 0 0) (.slice none 0 0)
 | slice {a a':Addr} {len eV jH:Nat} (h:DW m a a' jH\/(len=0/\jH=0/\(a.spot.isSome=true\/m a.block≠none))) (h1:len<=eV) (h2:eV<=jH) :
  bP m (.slice (some a) len eV) (.slice (some a') len jH)
 | Cm:bP m (.map none) (.map none)
 | map {r r':Nat} (h:∃p,m r=some p/\p.block=r'):bP m (.map (some r)) (.map (some r'))
 | Hw:bP m (.chan none) (.chan none)
 | func (fn:Fn) {x x' y y':Array Value} (hx:x.size=x'.size) (hy:y.size=y'.size)
  (h1:∀(i:Nat) (v v':Value),x[i]? = some v->x'[i]? = some v'->bP m v v')
  (h2:∀(i:Nat) (v v':Value),y[i]? = some v->y'[i]? = some v'->bP m v v') :
  bP m (.func fn x y) (.func fn x' y')
 | nilFunc:bP m .nilFunc .nilFunc
 | iface (t:TypeId) {v v':Value} (h:bP m v v'):bP m (.iface t v) (.iface t v')
 | nilIface:bP m .nilIface .nilIface
 | agg {x x':Array Value} (hx:x.size=x'.size)
  (h1:∀(i:Nat) (v v':Value),x[i]? = some v->x'[i]? = some v'->bP m v v'):bP m (.agg x) (.agg x')
 | tuple {x x':Array Value} (hx:x.size=x'.size)
  (h1:∀(i:Nat) (v v':Value),x[i]? = some v->x'[i]? = some v'->bP m v v'):bP m (.tuple x) (.tuple x')
def Mp.le (m m':Mp):Prop:=∀i x,m i=qc x->m' i=qc x
theorem Mp.le_refl (m:Mp):Mp.le m m:=λ_ _ h=>h
theorem Mp.le_trans {a b c:Mp} (h:Mp.le a b) (k:Mp.le b c):Mp.le a c:=λi x e=>k i x (h i x e)
theorem Mp.le_some {m m':Mp} (hm:Mp.le m m') {i:Nat} (h:m i≠qh):m' i≠qh:=λe=>by
 cases hi:m i with
 | none=>exact h hi
 | some p=>rw [hm i p hi] at e;cases e
theorem sB.mono {m m':Mp} (hm:Mp.le m m') {a a':qL} (h:sB m a a'):sB m' a a':=by
 obtain⟨h1,h2,p,h3,h4⟩:=h;exact⟨h1,h2,p,hm _ _ h3,h4⟩
theorem DW.mono {m m':Mp} (hm:Mp.le m m') {a a':qL} {c:Nat} (h:DW m a a' c):DW m' a a' c:=by
 obtain⟨h1,h2,p,h3,h4⟩:=h;exact⟨h1,h2,p,hm _ _ h3,h4⟩
theorem bP.mono {m m':Mp} (hm:Mp.le m m') {v v':qd} (h:bP m v v'):bP m' v v':=by
 induction h with
 | bool b=>exact .bool b
 | int k n=>exact .int k n
 | float k n=>exact .float k n
 | complex k x y=>exact .complex k x y
 | string s=>exact .string s
 | B5=>exact .B5
 | M5 h=>exact .M5 (h.mono hm)
 | mC=>exact .mC
 | slice h h1 h2=>exact .slice (h.imp (λx=>x.mono hm) fun⟨e1,e2,e3⟩=>⟨e1,e2,e3.imp id (Mp.le_some hm)⟩) h1 h2
 | Cm=>exact .Cm
 | map h=>obtain⟨p,h1,h2⟩:=h;exact .map ⟨p,hm _ _ h1,h2⟩
 | Hw=>exact .Hw
 | func fn hx hy _ _ ih1 ih2=>exact .func fn hx hy ih1 ih2
 | nilFunc=>exact .nilFunc
 | iface t _ ih=>exact .iface t ih
 | nilIface=>exact .nilIface
 | agg hx _ ih=>exact .agg hx ih
 | tuple hx _ ih=>exact .tuple hx ih
def jB (m:Mp) (l l':List qd):Prop:=l.length=l'.length/\∀(i:Nat) (v v':qd),l[i]? = qc v->l'[i]? = qc v'->bP m v v'
theorem jB.nil {m:Mp}:jB m [] []:=⟨rfl,λi v v' h=>by simp at h⟩
theorem jB.cons {m:Mp} {v v':qd} {l l':List qd} (h:bP m v v') (t:jB m l l'):jB m (v::l) (v'::l'):=by
 refine⟨by simp [t.1],λi x x' h1 h2=>?_⟩;cases i with
 | zero=>simp at h1 h2;subst h1;subst h2;exact h
 | succ i=>simp at h1 h2;exact t.2 i x x' h1 h2
theorem jB.append {m:Mp} {a a' b b':List qd} (h:jB m a a') (k:jB m b b'):jB m (a++b) (a'++b'):=by
 refine⟨by simp [h.1,k.1],λi v v' h1 h2=>?_⟩;rw [kbv] at h1 h2;rw [<-h.1] at h2;by_cases hi:i<a.length;rw [ay hi] at h1 h2;exact h.2 i v v' h1 h2;rw [aw hi] at h1 h2;exact k.2 _ v v' h1 h2
theorem jB.bk {m:Mp} {l l':List qd} (h:jB m l l') {i:Nat} {v:qd} (hi:l[i]? = qc v):∃v',l'[i]? = qc v'/\bP m v v':=by
 have bY:i<l'.length:=by rw [<-h.1];exact(ZC.1 hi).1
 exact⟨l'[i],q9 bY,h.2 i v _ hi (q9 bY)⟩
theorem jB.nj {m:Mp} {v:qd} {l l':List qd} (h:jB m (v::l) l'):∃v' t',l'=v'::t'/\bP m v v'/\jB m l t':=by
 cases l' with
 | nil=>have:=h.1;simp at this
 | cons v' t'=>
   refine⟨v',t',rfl,h.2 0 v v' rfl rfl,⟨by have:=h.1;simpa using this,λi x x' h1 h2=>h.2 (i+1) x x' YC Yu⟩⟩
theorem jB.sj {m:Mp} {l':List qd} (h:jB m [] l'):l'=[]:=by
 exact ZP h.1.symm
inductive eh where
 | cells (cs:List Value) (own:Bool) (unit:Nat)
 | map (es:List (Value×Value)) (own:Bool)
structure AW where
 next:Nat
 bk:Nat->Option eh
def AW.set (A:AW) (i:Nat) (o:Option eh):AW:={ A with bk:=λj=>if j=i then o else A.bk j }
def AW.alloc (A:AW) (o:eh):AW:={ next:=A.next+1,bk:=λj=>if j=A.next then qc o else A.bk j }
def eh.own:eh->Bool
 | .cells _ o _=>o
 | .map _ o=>o
def oS (m:Mp) (w:qs) (p:Pl):eh->Prop
 | .cells cs own unit=>∃jy e fr,w.heap[p.block]? = qc (.cells jy e fr)/\(own=qg->fr=(0,0))/\unit=p.unit/\jy.size=p.BN/\
  ∀(k:Nat) (v:qd),cs[k]? = qc v->∃v',jy[p.base+k]? = qc v'/\bP m v v'
 | .map es0 _=>∃mf aC es,es0.Perm es/\w.heap[p.block]? = qc (.map mf aC)/\es.length=mf.size/\
  ∀(k:Nat) (x:qd×qd) (e:MapEntry),es[k]? = qc x->mf[k]? = qc e->bP m x.1 e.key/\bP m x.2 e.val
theorem oS.heap {m:Mp} {w w':qs} {p:Pl} {o:eh} (h:oS m w p o) (e:w'.heap[p.block]? = w.heap[p.block]?):oS m w' p o:=by
 cases o with
 | cells cs own unit=>
   obtain⟨jy,e',fr,h3,h4⟩:=h;exact⟨jy,e',fr,by rw [e];exact h3,h4⟩
 | map es own=>
   obtain⟨mf,aC,Bp,hp,h3,h4⟩:=h;exact⟨mf,aC,Bp,hp,by rw [e];exact h3,h4⟩
theorem oS.mono {m m':Mp} {w:qs} {p:Pl} {o:eh} (hm:Mp.le m m') (h:oS m w p o):oS m' w p o:=by
 cases o with
 | cells cs own unit=>
   obtain⟨jy,e',fr,h3,h4,h5,h6,h7⟩:=h;refine⟨jy,e',fr,h3,h4,h5,h6,λk v hv=>?_⟩;obtain⟨v',h8,h9⟩:=h7 k v hv;exact⟨v',h8,h9.mono hm⟩
 | map es own=>
   obtain⟨mf,aC,Bp,hp,h3,h4,h5⟩:=h;exact⟨mf,aC,Bp,hp,h3,h4,λk x e a b=>⟨(h5 k x e a b).1.mono hm,(h5 k x e a b).2.mono hm⟩⟩
theorem oS.lt {m:Mp} {w:qs} {p:Pl} {o:eh} (h:oS m w p o):p.block<w.heap.size:=by
 cases o with
 | cells cs own unit=>
   obtain⟨jy,e',fr,h3,_⟩:=h;exact(Zf.1 h3).1
 | map es own=>
   obtain⟨mf,aC,Bp,_,h3,_⟩:=h;exact(Zf.1 h3).1
class Gl where
 B:Nat->Option Obj
 ok:Nat->Bool:=λ_=>false
 N:Nat:=0
 lt:∀g,ok g=true->g<N:=by simp
variable [Gl]
def Qj (g:Nat):Nat:=match Gl.B g with|some (.cells jy _ _)=>jy.size|_=>0
def OI (m:Mp):Prop:=∀g,Gl.ok g=qg->m g=qc ⟨g,0,1,Qj g⟩
theorem OI.mono {m m':Mp} (hm:Mp.le m m') (h:OI m):OI m':=λg hg=>hm _ _ (h g hg)
structure k7 (m:Mp) (A:AW) (w:World):Prop where
 IC:∀i o,A.bk i=some o->∃p,m i=some p/\oS m w p o
 inj:∀i j o o' p p',A.bk i=some o->o.own=true->A.bk j=some o'->i≠j->m i=some p->m j=some p'->p.block≠p'.block
 ur:∀i,A.next<=i->m i=none
 zQ:∀i,A.next<=i->A.bk i=none
 laid:∀b x,Gl.B b=some x->w.heap[b]? = some x
 Cp:∀i o p,A.bk i=some o->o.own=true->m i=some p->Gl.B p.block=none
 yB:OI m
def OwnB (m:Mp) (A:AW) (b:Nat):Prop:=∃i o p,A.bk i=qc o/\o.own=qg/\m i=qc p/\p.block=b
def Sh (m:Mp) (A:AW) (b:Nat):Prop:=∃i o p,A.bk i=qc o/\m i=qc p/\p.block=b
structure lb (m:Mp) (A:AW) (w:World) (m':Mp) (A':AW) (w':World):Prop where
 ext:Mp.le m m'
 HX:k7 m' A' w'
 next:A.next<=A'.next
 os:w'.os=w.os
 tape:w'.tape=w.tape
 output:w'.output=w.output
 size:w.heap.size<=w'.heap.size
 uY:∀b,b<w.heap.size->¬OwnB m A b->w'.heap[b]? = w.heap[b]?
 grow:∀b,OwnB m' A' b->OwnB m A b\/w.heap.size<=b
 mS:∀i,i<A.next->m' i=m i
 used:∀b,Sh m' A' b->Sh m A b\/w.heap.size<=b\/Gl.B b≠none
theorem lb.refl {m:Mp} {A:AW} {w:qs} (h:k7 m A w):lb m A w m A w:=
 ⟨Mp.le_refl m,h,qZ _,rfl,rfl,rfl,qZ _,λ_ _ _=>rfl,λ_ h=>qq h,λ_ _=>rfl,λ_ h=>qq h⟩
theorem lb.trans {m m1 m2:Mp} {A A1 A2:AW} {w w1 w2:qs} (h:lb m A w m1 A1 w1) (k:lb m1 A1 w1 m2 A2 w2):lb m A w m2 A2 w2:=by
 refine⟨Mp.le_trans h.ext k.ext,k.HX,ZA h.next k.next,k.os.trans h.os,k.tape.trans h.tape,k.output.trans h.output,ZA h.size k.size,?_,?_,λi hi=>(k.mS i (kaR hi h.next)).trans (h.mS i hi),?_⟩;intro b hb ho;rw [k.uY b (kaR hb h.size) (λhx=>?_),h.uY b hb ho];rcases h.grow b hx with h1|h1;exact ho h1;omega;intro b hb;rcases k.grow b hb with h1|h1;exact h.grow b h1;exact qt (ZA h.size h1);intro b hb;rcases k.used b hb with h1|h1|h1;exact h.used b h1;exact qt (qq (ZA h.size h1));exact qt (qt h1)
theorem k7.KY {m:Mp} {A:AW} {w w':qs} (h:k7 m A w) (e:w'.heap=w.heap):k7 m A w':=by
 refine⟨λi o hi=>?_,h.inj,h.ur,h.zQ,λb x hb=>by rw [e];exact h.laid b x hb,h.Cp,h.yB⟩;obtain⟨p,h1,h2⟩:=h.IC i o hi;exact⟨p,h1,h2.heap (by rw [e])⟩
theorem lb.drew {m:Mp} {A:AW} {w:qs} (h:k7 m A w):lb m A w m A w.drew:=
 ⟨Mp.le_refl m,h.KY rfl,qZ _,rfl,rfl,rfl,qZ _,λ_ _ _=>rfl,λ_ h=>qq h,λ_ _=>rfl,λ_ h=>qq h⟩
end Go.Stx
namespace Go.Stx
open Go
variable [Gl]
theorem oP (a:qL) (n:Nat) (h:a.spot=qh):a.add n=⟨a.block,a.off+n,qh⟩:=by
 obtain⟨b,o,s⟩:=a;simp only at h;subst h;unfold Addr.add;split;rename_i h0;subst h0;rfl;rfl
theorem CZ (a:qL) (h:a.spot=qh):a=⟨a.block,a.off,qh⟩:=by
 obtain⟨b,o,s⟩:=a;simp only at h;subst h;rfl
theorem bP.Ca {m:Mp} {v v':qd} (h:bP m v v'):v'.oneCell'=v.oneCell':=by cases h<;>rfl
theorem bP.cells {m:Mp} {v v':qd} (h:bP m v v'):jB m v.cells.toList v'.cells.toList:=by
 have h0:=h;cases h with
 | agg hx h1=>exact⟨by simpa [Value.cells] using hx,λi x x' a b=>h1 i x x' (by simpa [Value.cells] using a) (by simpa [Value.cells] using b)⟩
 | _=>exact .cons h0 .nil
def AW.bS (A:AW) (i:Nat):Option (List qd):=
 match A.bk i with
 | some (.cells cs _ _)=>qc cs
 | _=>qh
theorem CL {m:Mp} {A:AW} {w:qs} (hs:k7 m A w) {a a':qL} (ha:sB m a a') {cs:List qd} (hr:A.bS a.block=qc cs) {k:Nat} {v:qd}
 (hv:cs[a.off+k]? = qc v):∃v',w.cell? (a'.add k)=qc v'/\bP m v v':=by
 obtain⟨h1,h2,p,h3,hb,h4⟩:=ha;unfold AW.bS at hr;split at hr;rename_i uP own unit hg;simp only [Zh] at hr;subst hr;obtain⟨p',h5,jy,e,fr,h6,_,_,_,h7⟩:=hs.IC _ _ hg;rw [h3] at h5;simp only [Zh] at h5;subst h5;obtain⟨v',h8,h9⟩:=h7 _ _ hv;refine⟨v',?_,h9⟩;rw [oP _ _ h2];simp only [World.cell?,hb,h6,kbw,Zg,if_false];rw [h4,ZD];exact h8;simp at hr
theorem VQ {P:ql} {m:Mp} {A:AW} {w:qs} (hs:k7 m A w) {a a':qL} (ha:sB m a a') {cs:List qd} (hr:A.bS a.block=qc cs) {v:qd}
 (hv:cs[a.off]? = qc v):∃v',(load a').run P w=qH v' w/\bP m v v':=by
 obtain⟨v',h1,h2⟩:=CL hs ha hr (k:=0) (by simpa using hv);refine⟨v',?_,h2⟩;have e:a'.add 0=a':=by unfold Addr.add;simp
 rw [e] at h1;rw [run_load,h1]
theorem IL {P:ql} {m:Mp} {A:AW} {w:qs} (hs:k7 m A w) {a a':qL} (ha:sB m a a') {cs:List qd} (hr:A.bS a.block=qc cs) (n:Nat)
 (hn:a.off+n<=cs.length):∃l',(loadCells a' n).run P w=qH l'.toArray w/\jB m ((cs.drop a.off).take n) l':=by
 have h:∀j,j<n->∃v',w.cell? (a'.add j)=qc v'/\bP m (cs.getD (a.off+j) qz) v':=λj hj=>
  CL hs ha hr (by rw [Za,q9 Ya];rfl)
 let f:Nat->qd:=λj=>(w.cell? (a'.add j)).getD qz
 have hf:∀j,j<n->w.cell? (a'.add j)=qc (f j):=λj hj=>by
  obtain⟨v',h1,_⟩:=h j hj;simp [f,h1]
 refine⟨(Zp n).map f,run_loadCells w a' n f hf,?_,?_⟩;simp;omega;intro i v v' h1 h2;have hi:i<n:=by
  have:=(ZC.1 h2).1
  simpa using this
 obtain⟨v1,h3,h4⟩:=h i hi;have e1:cs.getD (a.off+i) qz=v:=by
  rw [Z5 hi,Z7] at h1;rw [Za,h1];rfl
 have e2:v'=v1:=by
  simp [hi,f,h3] at h2;exact h2.symm
 rw [e1] at h4;rw [e2];exact h4
def fY (cs:List qd) (off:Nat):List qd->List qd
 | []=>cs
 | v::vs=>fY (cs.set off v) (off+1) vs
theorem EP (vs:List qd):∀(cs:List qd) (off:Nat),(fY cs off vs).length=cs.length:=by
 induction vs with
 | nil=>intro cs off;rfl
 | cons v vs ih=>intro cs off;simp [fY,ih]
theorem AW.bV {A:AW} {i:Nat} {o:Option eh}:(A.set i o).bk i=o:=by simp [AW.set]
theorem AW.aZ {A:AW} {i j:Nat} {o:Option eh} (h:j≠i):(A.set i o).bk j=A.bk j:=by simp [AW.set,h]
theorem AW.set_set {A:AW} {i:Nat} {o o':Option eh}:(A.set i o).set i o'=A.set i o':=by
 unfold AW.set;congr 1;funext j;dsimp only;split<;>rfl
theorem AW.U3 {A:AW} {i:Nat} {o:Option eh} (h:A.bk i=o):A.set i o=A:=by
 obtain⟨n,g⟩:=A;unfold AW.set;simp only at h ⊢;congr 1;funext j;split;rename_i e;rw [e,h];rfl
theorem lb.xZ {m:Mp} {A:AW} {w w':qs} (hs:k7 m A w) {i:Nat} {p:Pl} {o0 o1:eh}
 (hg:A.bk i=qc o0) (Mo:o0.own=qg) (iZ:o1.own=qg) (hm:m i=qc p)
 (xQ:w'.heap.size=w.heap.size) (RM:w'.os=w.os) (ht:w'.tape=w.tape) (ho:w'.output=w.output)
 (hb:oS m w' p o1) (wX:∀j,j≠p.block->w'.heap[j]? = w.heap[j]?) :
 lb m A w m (A.set i (qc o1)) w':=by
 refine⟨Mp.le_refl m,⟨?_,?_,hs.ur,?_,?_,?_,hs.yB⟩,qZ _,RM,ht,ho,by omega,?_,?_,λ_ _=>rfl,?_⟩
 rotate_left 3
 intro b x yz;rw [wX b (λe=>by have:=hs.Cp i o0 p hg Mo hm;rw [<-e,yz] at this;cases this)];exact hs.laid b x yz;intro j o p' hj C6 uZ;by_cases lf:j=i;subst lf;exact hs.Cp j o0 p' hg Mo uZ;rw [AW.aZ lf] at hj;exact hs.Cp j o p' hj C6 uZ
 rotate_left 3
 intro j o hj;by_cases lf:j=i;subst lf;rw [AW.bV] at hj;simp only [Zh] at hj;subst hj;exact⟨p,hm,hb⟩;rw [AW.aZ lf] at hj;obtain⟨p',h1,h2⟩:=hs.IC j o hj;have gZ:p'.block≠p.block:=λe'=>hs.inj i j _ o p p' hg Mo hj (Zm lf) hm h1 e'.symm;exact⟨p',h1,h2.heap (wX _ gZ)⟩;intro j j' o o' p1 p2 hj C6 kh gZ Lr hm2;by_cases lf:j=i;subst lf;rw [AW.aZ (Zm gZ)] at kh;exact hs.inj j j' _ o' p1 p2 hg Mo kh gZ Lr hm2;rw [AW.aZ lf] at hj;by_cases hj'i:j'=i;subst hj'i;exact hs.inj j j' o _ p1 p2 hj C6 hg gZ Lr hm2;rw [AW.aZ hj'i] at kh;exact hs.inj j j' o o' p1 p2 hj C6 kh gZ Lr hm2;intro j hj;have lf:j≠i:=λe=>by
  subst e;rw [hs.zQ j hj] at hg;cases hg
 rw [AW.aZ lf];exact hs.zQ j hj;intro b' _ ho';refine wX b' (λe'=>ho' ?_);subst e';exact⟨i,_,p,hg,Mo,hm,rfl⟩;rintro b' ⟨j,o,p',hj,C6,uZ,yz⟩;by_cases lf:j=i;subst lf;exact qq ⟨j,_,p',hg,Mo,uZ,yz⟩;rw [AW.aZ lf] at hj;exact qq ⟨j,o,p',hj,C6,uZ,yz⟩;rintro b' ⟨j,o,p',hj,uZ,yz⟩;by_cases lf:j=i;subst lf;exact qq ⟨j,_,p',hg,uZ,yz⟩;rw [AW.aZ lf] at hj;exact qq ⟨j,o,p',hj,uZ,yz⟩
theorem lb.set {m:Mp} {A:AW} {w w':qs} (hs:k7 m A w) {i:Nat} {p:Pl} {cs uP:List qd} {unit:Nat} {Hn:Array qd} {e:qr}
 (hg:A.bk i=qc (.cells cs qg unit)) (hm:m i=qc p) (hu:unit=p.unit)
 (xQ:w'.heap.size=w.heap.size) (RM:w'.os=w.os) (ht:w'.tape=w.tape) (ho:w'.output=w.output)
 (hb:w'.heap[p.block]? = qc (.cells Hn e (0,0))) (Bj:Hn.size=p.BN) (wX:∀j,j≠p.block->w'.heap[j]? = w.heap[j]?)
 (yr:∀(k:Nat) (v:qd),uP[k]? = qc v->∃v',Hn[p.base+k]? = qc v'/\bP m v v') :
 lb m A w m (A.set i (qc (.cells uP qg unit))) w':=
 lb.xZ hs hg rfl rfl hm xQ RM ht ho ⟨Hn,e,(0,0),hb,λ_=>rfl,hu,Bj,yr⟩ wX
theorem O0 {P:ql} {m:Mp} {A:AW} {w:qs} (hs:k7 m A w) {i k unit:Nat} {p:Pl} {cs:List qd} (hg:A.bk i=qc (.cells cs qg unit))
 (hm:m i=qc p) (hk:k<cs.length) {v v':qd} (hv:bP m v v') (h1:v.oneCell'=qg) :
 ∃w',(store ⟨p.block,p.base+k,qh⟩ v').run P w=qH () w'/\lb m A w m (A.set i (qc (.cells (cs.set k v) qg unit))) w':=by
 obtain⟨p1,h2,jy,e,fr,h3,h4,hu,Bj,h5⟩:=hs.IC i _ hg;rw [hm] at h2;simp only [Zh] at h2;subst h2;have tE:=h4 rfl;subst tE;obtain⟨u,h6,_⟩:=h5 k cs[k] (q9 hk);have bY:p.base+k<jy.size:=(Zf.1 h6).1;have hcell:w.cell? ⟨p.block,p.base+k,qh⟩=qc u:=by simp [World.cell?,h3,h6]
 have hfz:w.frozen? ⟨p.block,p.base+k,qh⟩=qk:=by simp [World.frozen?,h3]
 refine⟨w.setCell ⟨p.block,p.base+k,qh⟩ v',?_,?_⟩;rw [run_store P w _ _ _ (by rw [hv.Ca];exact h1),hcell];simp [hfz];refine lb.set hs (Hn:=jy.setIfInBounds (p.base+k) v') (e:=e) hg hm hu Yb rfl rfl rfl ?_ (by simpa using Bj) ?_ ?_;simp only [World.setCell,kaY,h3];simp;intro j hj;simp only [World.setCell,kaY];rw [aw Ya];intro j x hx;by_cases hjk:k=j;subst hjk;rw [ZV hk] at hx;simp only [Zh] at hx;subst hx;exact⟨v',by simp [bY],hv⟩;rw [Z6 hjk] at hx;obtain⟨x',h7,h8⟩:=h5 j x hx;exact⟨x',by rw [kbs Ya];exact h7,h8⟩
theorem sS {P:ql} {m:Mp} {i o unit:Nat} {p:Pl} (hm:m i=qc p):∀(vs D0:List qd) (k:Nat) (cs:List qd) (A:AW) (w:qs),
 k7 m A w->A.bk i=qc (.cells cs qg unit)->jB m vs D0->(∀v∈vs,v.oneCell'=qg)->o+k+vs.length<=cs.length->
 ∃w',(storeCells ⟨p.block,p.base+o,qh⟩ D0 k).run P w=qH () w'/\lb m A w m (A.set i (qc (.cells (fY cs (o+k) vs) qg unit))) w'
 | [],D0,k,cs,A,w,hs,hg,hl,_,_=>by
   have e:=hl.sj;subst e;refine⟨w,rfl,?_⟩;rw [fY,AW.U3 hg];exact lb.refl hs
 | v::vs,D0,k,cs,A,w,hs,hg,hl,h1,bW=>by
   obtain⟨v',t',rfl,hv,ht⟩:=hl.nj;simp only [Zy] at bW;obtain⟨w1,Ln,ev1⟩:=O0 (P:=P) hs hg hm (k:=o+k) Ya hv (h1 v Yb)
   obtain⟨w2,hr2,Qs⟩:=sS (P:=P) (o:=o) hm vs t' (k+1) (cs.set (o+k) v) _ w1 ev1.HX AW.bV ht (λx hx=>h1 x YB)
    Yg
   refine⟨w2,?_,?_⟩;have ea:(⟨p.block,p.base+o,qh⟩:qL).add k=⟨p.block,p.base+(o+k),qh⟩:=(by rw [oP _ _ rfl];simp [ZD]);simp only [storeCells,Zj,ea,Ln,Zi,hr2];have:=ev1.trans Qs;rw [AW.set_set] at this;rw [fY,show o+k+1=o+(k+1) by omega];exact this
theorem Cy (w:qs) (o:Obj) (i:Nat) (h:i<w.heap.size):(w.alloc o).heap[i]? = w.heap[i]?:=by
 show (w.heap.push o)[i]? = _;rw [Array.getElem?_push,aw Ya]
theorem Cz (w:qs) (o:Obj):(w.alloc o).heap[w.heap.size]? = qc o:=by
 show (w.heap.push o)[w.heap.size]? = _;simp
def Mp.ext (m:Mp) (i:Nat) (x:Pl):Mp:=λj=>if j=i then qc x else m j
theorem k7.GE {m:Mp} {A:AW} {w:qs} (hs:k7 m A w) (x:Pl):Mp.le m (m.ext A.next x):=by
 intro i y h;unfold Mp.ext;split;rename_i e;rw [e,hs.ur A.next (qZ _)] at h;cases h;exact h
theorem k7.jz {m:Mp} {A:AW} {w:qs} (hs:k7 m A w) {j:Nat} {o:eh} {p:Pl} (h:A.bk j=qc o) (hm:m j=qc p):p.block<w.heap.size:=by
 obtain⟨p1,h1,h2⟩:=hs.IC j o h;rw [hm] at h1;simp only [Zh] at h1;subst h1;exact h2.lt
theorem lb.WH {m:Mp} {A:AW} {w w':qs} (hs:k7 m A w) (o1:eh) (p:Pl)
 (RM:w'.os=w.os) (ht:w'.tape=w.tape) (ho:w'.output=w.output) (xQ:w.heap.size<=w'.heap.size)
 (Wb:∀b,b<w.heap.size->w'.heap[b]? = w.heap[b]?) (hp:w.heap.size<=p.block) (hb:oS m w' p o1) :
 lb m A w (m.ext A.next p) (A.alloc o1) w':=by
 have fA:=hs.GE p;have ey:∀{j o},A.bk j=qc o->j≠A.next:=λ{j o} h e=>by
  subst e;rw [hs.zQ _ (qZ _)] at h;cases h
 have tJ:∀{j},j≠A.next->(m.ext A.next p) j=m j:=λ{j} h=>by simp [Mp.ext,h]
 have uL:∀{j},j≠A.next->(A.alloc o1).bk j=A.bk j:=λ{j} h=>by simp [AW.alloc,h]
 have Be:(m.ext A.next p) A.next=qc p:=by simp [Mp.ext]
 have Ty:(A.alloc o1).bk A.next=qc o1:=by simp [AW.alloc]
 refine⟨fA,⟨?_,?_,?_,?_,?_,?_,hs.yB.mono fA⟩,by simp [AW.alloc],RM,ht,ho,xQ,λb hb _=>Wb b hb,?_,λi hi=>tJ Ya,?_⟩
 rotate_left 4
 intro b x yz;have h1:=hs.laid b x yz;rw [Wb b (Zf.1 h1).1];exact h1;intro j o p' hj C6 uZ;by_cases hn:j=A.next
 . subst hn;rw [Be] at uZ;simp only [Zh] at uZ;subst uZ;cases hB:Gl.B p.block with
   | none=>rfl
   | some x=>have h1:=(Zf.1 (hs.laid _ x hB)).1;omega
 rw [uL hn] at hj;rw [tJ hn] at uZ;exact hs.Cp j o p' hj C6 uZ
 rotate_left 2
 intro j o hj;by_cases hn:j=A.next;subst hn;rw [Ty] at hj;simp only [Zh] at hj;subst hj;exact⟨p,Be,hb.mono fA⟩;rw [uL hn] at hj;obtain⟨p',h1,h2⟩:=hs.IC j o hj;have bY:=hs.jz hj h1;exact⟨p',by rw [tJ hn];exact h1,(h2.heap (Wb _ bY)).mono fA⟩;intro i j o o' p1 p2 hi C6 hj gZ Dz uZ;by_cases wZ:i=A.next;subst wZ;rw [Be] at Dz;simp only [Zh] at Dz;subst Dz;rw [uL (Zm gZ)] at hj;rw [tJ (Zm gZ)] at uZ;have:=hs.jz hj uZ;omega;rw [uL wZ] at hi;rw [tJ wZ] at Dz;by_cases hjn:j=A.next;subst hjn;rw [Be] at uZ;simp only [Zh] at uZ;subst uZ;have:=hs.jz hi Dz;omega;rw [uL hjn] at hj;rw [tJ hjn] at uZ;exact hs.inj i j o o' p1 p2 hi C6 hj gZ Dz uZ;intro i hi;have:i≠A.next:=by simp [AW.alloc] at hi;omega
 rw [tJ this];exact hs.ur i (by simp [AW.alloc] at hi;omega);intro i hi;have:i≠A.next:=by simp [AW.alloc] at hi;omega
 rw [uL this];exact hs.zQ i (by simp [AW.alloc] at hi;omega);rintro b ⟨i,o,p',hi,C6,hm,hb⟩;by_cases hn:i=A.next;subst hn;rw [Be] at hm;simp only [Zh] at hm;subst hm;exact qt Ya;rw [uL hn] at hi;rw [tJ hn] at hm;exact qq ⟨i,o,p',hi,C6,hm,hb⟩;rintro b ⟨i,o,p',hi,hm,hb⟩;by_cases hn:i=A.next;subst hn;rw [Be] at hm;simp only [Zh] at hm;subst hm;exact qt (qq Ya);rw [uL hn] at hi;rw [tJ hn] at hm;exact qq ⟨i,o,p',hi,hm,hb⟩
theorem lb.ur {m:Mp} {A:AW} {w w':qs} (hs:k7 m A w) (cs:List qd) (own:Bool) (p:Pl) {jy:Array qd} {e:qr} (unit:Nat)
 (RM:w'.os=w.os) (ht:w'.tape=w.tape) (ho:w'.output=w.output) (xQ:w.heap.size<=w'.heap.size)
 (Wb:∀b,b<w.heap.size->w'.heap[b]? = w.heap[b]?) (hp:w.heap.size<=p.block) (hu:unit=p.unit)
 (hb:w'.heap[p.block]? = qc (.cells jy e (0,0))) (Bj:jy.size=p.BN)
 (yr:∀(k:Nat) (v:qd),cs[k]? = qc v->∃v',jy[p.base+k]? = qc v'/\bP m v v') :
 lb m A w (m.ext A.next p) (A.alloc (.cells cs own unit)) w':=
 lb.WH hs _ p RM ht ho xQ Wb hp ⟨jy,e,(0,0),hb,λ_=>rfl,hu,Bj,yr⟩
theorem lb.alloc {m:Mp} {A:AW} {w:qs} (hs:k7 m A w) (cs:List qd) (jy:Array qd) (e:qr) (unit:Nat)
 (yr:∀(k:Nat) (v:qd),cs[k]? = qc v->∃v',jy[k]? = qc v'/\bP m v v') :
 lb m A w (m.ext A.next ⟨w.heap.size,0,unit,jy.size⟩) (A.alloc (.cells cs qg unit)) (w.alloc (.cells jy e)):=
 lb.ur hs cs qg ⟨w.heap.size,0,unit,jy.size⟩ unit rfl rfl rfl Yb (λb hb=>Cy w _ b hb) (qZ _) rfl
  (Cz w _) rfl (by simpa using yr)
theorem sB.mR (m:Mp) (i:Nat) (p:Pl) (o:Nat):sB (m.ext i p) ⟨i,o,qh⟩ ⟨p.block,p.base+o,qh⟩:=⟨rfl,rfl,p,by simp [Mp.ext],rfl,rfl⟩
end Go.Stx
namespace Go.Stx
open Go
variable [Gl]
theorem lb.PP {m:Mp} {A:AW} {w:qs} (hs:k7 m A w) (i:Nat):lb m A w m (A.set i qh) w:=by
 have key:∀{j o},(A.set i qh).bk j=qc o->A.bk j=qc o:=λ{j o} h=>by
  by_cases hj:j=i;subst hj;rw [AW.bV] at h;cases h;rwa [AW.aZ hj] at h
 refine⟨Mp.le_refl m,⟨λj o h=>hs.IC j o (key h),λa b o o' p p' h1 h2 h3 h4 h5 h6=>hs.inj a b o o' p p' (key h1) h2 (key h3) h4 h5 h6,hs.ur,?_,hs.laid,λa o p h1 h2 h3=>hs.Cp a o p (key h1) h2 h3,hs.yB⟩,
  qZ _,rfl,rfl,rfl,qZ _,λ_ _ _=>rfl,?_,λ_ _=>rfl,?_⟩
 intro j hj;by_cases lf:j=i;subst lf;exact AW.bV;rw [AW.aZ lf];exact hs.zQ j hj;rintro b ⟨j,o,p,h1,h2,h3,h4⟩;exact qq ⟨j,o,p,key h1,h2,h3,h4⟩;rintro b ⟨j,o,p,h1,h2,h3⟩;exact qq ⟨j,o,p,key h1,h2,h3⟩
theorem lb.adopt {m:Mp} {A:AW} {w w':qs} (hs:k7 m A w) {i:Nat} {p p':Pl} {cs uP:List qd} {unit:Nat} {Hn:Array qd} {e:qr}
 (hg:A.bk i=qc (.cells cs qg unit)) (hm:m i=qc p) (IR:p'.block=p.block) (hu:unit=p'.unit)
 (xQ:w'.heap.size=w.heap.size) (RM:w'.os=w.os) (ht:w'.tape=w.tape) (ho:w'.output=w.output)
 (hb:w'.heap[p.block]? = qc (.cells Hn e (0,0))) (Bj:Hn.size=p'.BN) (wX:∀j,j≠p.block->w'.heap[j]? = w.heap[j]?)
 (yr:∀(k:Nat) (v:qd),uP[k]? = qc v->∃v',Hn[p'.base+k]? = qc v'/\bP m v v') :
 lb m A w (m.ext A.next p') ((A.set i qh).alloc (.cells uP qg unit)) w':=by
 have fA:=hs.GE p';have ey:∀{j o},A.bk j=qc o->j≠A.next:=λ{j o} h e=>by
  subst e;rw [hs.zQ _ (qZ _)] at h;cases h
 have tJ:∀{j},j≠A.next->(m.ext A.next p') j=m j:=λ{j} h=>by simp [Mp.ext,h]
 have Be:(m.ext A.next p') A.next=qc p':=by simp [Mp.ext]
 have Ty:((A.set i qh).alloc (.cells uP qg unit)).bk A.next=qc (.cells uP qg unit):=by simp [AW.alloc,AW.set]
 have uL:∀{j o},j≠A.next->((A.set i qh).alloc (.cells uP qg unit)).bk j=qc o->A.bk j=qc o/\j≠i:=λ{j o} h1 h2=>by
  have e:((A.set i qh).alloc (.cells uP qg unit)).bk j=(A.set i qh).bk j:=by
   exact aw h1
  rw [e] at h2;by_cases lf:j=i;subst lf;rw [AW.bV] at h2;cases h2;rw [AW.aZ lf] at h2;exact⟨h2,lf⟩
 refine⟨fA,⟨?_,?_,?_,?_,?_,?_,hs.yB.mono fA⟩,by simp [AW.alloc,AW.set],RM,ht,ho,by omega,?_,?_,λj hj=>tJ Ya,?_⟩
 rotate_left 4
 intro b x yz;rw [wX b (λe=>by have:=hs.Cp i _ p hg rfl hm;rw [<-e,yz] at this;cases this)];exact hs.laid b x yz;intro j o q hj C6 uZ;by_cases hn:j=A.next;subst hn;rw [Be] at uZ;simp only [Zh] at uZ;subst uZ;rw [IR];exact hs.Cp i _ p hg rfl hm;rw [tJ hn] at uZ;exact hs.Cp j o q (uL hn hj).1 C6 uZ
 rotate_left 3
 intro j o hj;by_cases hn:j=A.next;subst hn;rw [Ty] at hj;simp only [Zh] at hj;subst hj;refine⟨p',Be,Hn,e,(0,0),by rw [IR];exact hb,λ_=>rfl,hu,Bj,λk v hv=>?_⟩;obtain⟨v',h1,h2⟩:=yr k v hv;exact⟨v',h1,h2.mono fA⟩;obtain⟨kh,lf⟩:=uL hn hj;obtain⟨q,h1,h2⟩:=hs.IC j o kh;have gZ:q.block≠p.block:=λe'=>hs.inj i j _ o p q hg rfl kh (Zm lf) hm h1 e'.symm;exact⟨q,by rw [tJ hn];exact h1,(h2.heap (wX _ gZ)).mono fA⟩;intro a b o o' p1 p2 ha C6 yz gZ hma hmb;by_cases han:a=A.next;subst han;rw [Be] at hma;simp only [Zh] at hma;subst hma;obtain⟨H3,Aa⟩:=uL (Zm gZ) yz;rw [tJ (Zm gZ)] at hmb;rw [IR];exact hs.inj i b _ o' p p2 hg rfl H3 (Zm Aa) hm hmb;obtain⟨ha1,hai⟩:=uL han ha;rw [tJ han] at hma;by_cases IV:b=A.next;subst IV;rw [Be] at hmb;simp only [Zh] at hmb;subst hmb;rw [IR];exact hs.inj a i o _ p1 p ha1 C6 hg hai hma hm;obtain⟨H3,_⟩:=uL IV yz
 rw [tJ IV] at hmb;exact hs.inj a b o o' p1 p2 ha1 C6 H3 gZ hma hmb;intro j hj;have:j≠A.next:=by simp [AW.alloc,AW.set] at hj;omega
 rw [tJ this];exact hs.ur j (by simp [AW.alloc,AW.set] at hj;omega)
 . intro j hj;have h0:A.next+1<=j:=by simpa [AW.alloc,AW.set] using hj
   have h1:j≠A.next:=Ya;cases hx:((A.set i qh).alloc (.cells uP qg unit)).bk j with
   | none=>rfl
   | some o=>
     have:=(uL h1 hx).1;rw [hs.zQ j Ya] at this;cases this
 intro b' _ ho';refine wX b' (λe'=>ho' ?_);subst e';exact⟨i,_,p,hg,rfl,hm,rfl⟩;rintro b ⟨j,o,q,hj,C6,uZ,hbj⟩;by_cases hn:j=A.next;subst hn;rw [Be] at uZ;simp only [Zh] at uZ;subst uZ;exact qq ⟨i,_,p,hg,rfl,hm,by rw [<-IR];exact hbj⟩;obtain⟨kh,_⟩:=uL hn hj;rw [tJ hn] at uZ;exact qq ⟨j,o,q,kh,C6,uZ,hbj⟩;rintro b ⟨j,o,q,hj,uZ,hbj⟩;by_cases hn:j=A.next;subst hn;rw [Be] at uZ;simp only [Zh] at uZ;subst uZ;exact qq ⟨i,_,p,hg,hm,by rw [<-IR];exact hbj⟩;obtain⟨kh,_⟩:=uL hn hj;rw [tJ hn] at uZ;exact qq ⟨j,o,q,kh,uZ,hbj⟩
theorem Ah (cs:List qd) (o n:Nat) (j:Nat) (v:qd) (h:((cs.drop o).take n)[j]? = qc v):cs[o+j]? = qc v/\j<n:=by
 rw [List.getElem?_take] at h;split at h;rename_i hj;rw [Z7] at h;exact⟨h,hj⟩;cases h
theorem BR {m:Mp} {A:AW} {w:qs} (hs:k7 m A w) {a a':qL} (ha:sB m a a') {cs:List qd} (hr:A.bS a.block=qc cs) (n:Nat) (hn:a.off+n<=cs.length) :
 ∃l',l'.length=n/\jB m ((cs.drop a.off).take n) l'/\∀(j:Nat) (v:qd),l'[j]? = qc v->w.cell? (a'.add j)=qc v:=by
 have h:∀j,j<n->∃v',w.cell? (a'.add j)=qc v'/\bP m (cs.getD (a.off+j) qz) v':=λj hj=>
  CL hs ha hr (by rw [Za,q9 Ya];rfl)
 refine⟨(Zp n).map λj=>(w.cell? (a'.add j)).getD qz,by simp,⟨by simp;omega,?_⟩,?_⟩;intro i v v' h1 h2;obtain⟨h3,hi⟩:=Ah _ _ _ _ _ h1;obtain⟨v1,h4,h5⟩:=h i hi;rw [Za,h3] at h5;simp [hi,h4] at h2;subst h2;exact h5;intro j v hv;have hj:j<n:=by
  have:=(ZC.1 hv).1
  simpa using this
 obtain⟨v1,h4,_⟩:=h j hj;simp [hj,h4] at hv;subst hv;exact h4
def gN (A:AW) (size:Nat) (x:qd):Option (Nat×List qd):=
 match x with
 | .slice qh 0 0=>qc (0,[])
 | .slice (qc b) n _=>
   if n=0 then qc (0,[]) else
   match A.bS b.block with
   | some cs=>if b.off+n*size<=cs.length then qc (n,(cs.drop b.off).take (n*size)) else qh
   | none=>qh
 | _=>qh
def iv (A:AW) (size:Nat) (s:qd):Option (Option qL×Nat×List qd):=
 match s with
 | .slice qh 0 0=>qc (qh,0,[])
 | .slice (qc a) n c=>
   if a.spot.isSome/\c=0/\n=0 then qc (qh,0,[]) else
   match A.bk a.block with
   | some (.cells cs qg unit)=>if unit=size/\a.off+n*size<=cs.length then qc (qc a,n,(cs.drop a.off).take (n*size)) else qh
   | _=>qh
 | _=>qh
def fI (P:ql) (A:AW) (t u:qr) (s x:qd):Option (qd×AW):=
 match P.underlying t with
 | some (.slice e)=>
   match P.info? e with
   | some i=>
     match i.zero with
     | some z=>
       if z.cells.size=i.size/\0<i.size/\t=u then
        match gN A i.size x,iv A i.size s with
        | some (n,pd),qc (base,k,wI)=>
          if n=0 then qc (s,A)
          else if k+n<=140737488355328/\(k+n)*i.bytes<=140737488355328/\pd.all Zz then
           qc (.slice (qc ⟨A.next,0,qh⟩) (k+n) (k+n),
            ((match base with|some a=>A.set a.block qh|none=>A)).alloc (.cells (wI++pd) qg i.size))
          else qh
        | _,_=>qh
       else qh
     | none=>qh
   | none=>qh
 | _=>qh
theorem EO {P:ql} (w:qs) (t ty e:qr) (i:qP) (ht:P.underlying t=qc (.slice e)) (hi:P.info? e=qc i)
 (base:Option qL) (n c:Nat) (hc:n<=c) (xb:Option qL) (xc:Nat) :
 (kaa #[t,t] ty #[.slice base n c,.slice xb 0 xc]).run P w=qH (.slice base n c) w:=by
 cases base<;>cases xb<;>simp [kaa,qp ht,sizeOf,qN,hi,Builtin.lenOf,hc,Builtin.firstCells,loadCells,loadCellsFrom,storeCells]
theorem LV {m:Mp} {A:AW} {w:qs} (hs:k7 m A w) {size n:Nat} {x x':qd} {pd:List qd} (h:gN A size x=qc (n,pd)) (hx:bP m x x') :
 (n=0/\∃xb xc,x'=.slice xb 0 xc) \/
 (∃a c l',x'=.slice (qc a) n c/\l'.length=n*size/\jB m pd l'/\∀(j:Nat) (v:qd),l'[j]? = qc v->w.cell? (a.add j)=qc v):=by
 unfold gN at h;split at h;simp only [Zh,ZE] at h;obtain⟨rfl,rfl⟩:=h;cases hx;exact qq ⟨rfl,_,_,rfl⟩;rename_i b k c;split at h;rename_i h0;simp only [Zh,ZE] at h;obtain⟨rfl,rfl⟩:=h;subst h0;cases hx;exact qq ⟨rfl,_,_,rfl⟩;rename_i h0;split at h;rename_i cs hr;split at h
 . rename_i fA;simp only [Zh,ZE] at h;obtain⟨rfl,rfl⟩:=h;cases hx with
   | slice hh h1 h2=>
     rename_i a' jH;have ha:sB m b a':=by
      rcases hh with hh|hh;exact hh.aad;exact absurd hh.1 h0
     obtain⟨l',e1,e2,e3⟩:=BR hs ha hr (k*size) fA;exact qt ⟨a',jH,l',rfl,e1,e2,e3⟩
 cases h;cases h;cases h
theorem jB.aM {m:Mp} {l l':List qd} (h:jB m l l') (h1:∀v∈l,v.oneCell'=qg):∀v∈l',v.oneCell'=qg:=by
 intro v hv;obtain⟨i,hi⟩:=List.getElem?_of_mem hv;have bY:=(ZC.1 hi).1;rw [<-h.1] at bY;have e:=q9 bY;rw [(h.2 i _ v e hi).Ca];exact h1 _ (List.getElem_mem bY)
theorem AT {P:ql} (w:qs) (t ty e:qr) (i:qP) (ht:P.underlying t=qc (.slice e)) (hi:P.info? e=qc i)
 (g o kc rC:Nat) (jy:Array qd) (e':qr) (hg:w.heap[g]? = qc (.cells jy e' (0,0)))
 (a:qL) (m c:Nat) (pd:List qd) (hl:pd.length=m*i.size) (jI:∀j u,pd[j]? = qc u->w.cell? (a.add j)=qc u) (h1:∀u∈pd,u.oneCell'=qg)
 (GO:kc+m<=rC) (pf:o+kc*i.size+pd.length<=jy.size) :
 (kaa #[t,t] ty #[.slice (qc ⟨g,o,qh⟩) kc rC,.slice (qc a) m c]).run P w =
  qH (.slice (qc ⟨g,o,qh⟩) (kc+m) rC) (w.setRow g (jy.toList.take (o+kc*i.size)++pd++jy.toList.drop (o+kc*i.size+pd.length)).toArray):=by
 have hf:=run_firstCells_some (P:=P) w i.size m a m c pd hl jI;have dw:=run_storeCells_at P g (o+kc*i.size) e' pd 0 jy w hg YU h1;simp only [Nat.add_zero] at dw;have ea:(⟨g,o,qh⟩:qL).add (kc*i.size)=⟨g,o+kc*i.size,qh⟩:=oP _ _ rfl;simp [kaa,qp ht,sizeOf,qN,hi,Builtin.lenOf,GO,hf,ea,dw]
theorem Ey {P:ql} {m:Mp} {A:AW} {w:qs} (hs:k7 m A w) {ty e:qr} {i:qP} {z:qd} {ts:Array qr} {X:qd} {s s':qd} {n k:Nat} {pd l' wI:List qd} {base:Option qL}
 (pq:z.cells.size=i.size)
 (GR:¬n=0) (H3:k+n<=140737488355328) (lF:(k+n)*i.bytes<=140737488355328) (nU:∀v∈pd,v.oneCell'=qg) (hl:l'.length=n*i.size) (P8:jB m pd l')
 (ho:iv A i.size s=qc (base,k,wI)) (PY:bP m s s')
 (Hnil:∀k',k'=0->k=0->(kaa ts ty #[.slice qh 0 0,X]).run P w=qH (.slice (qc ⟨w.heap.size,0,qh⟩) n (qQ w n 0 e)) (w.drew.alloc (.cells (l'.toArray++ZW z.cells (qQ w n 0 e-n)) e)))
 (Hgrow:∀(b:qL) (kc rC:Nat) (wI:List qd),kc=k->wI.length=kc*i.size->(∀(j:Nat) (v:qd),wI[j]? = qc v->w.cell? (b.add j)=qc v)->rC<kc+n->
  (kaa ts ty #[.slice (qc b) kc rC,X]).run P w=qH (.slice (qc ⟨w.heap.size,0,qh⟩) (kc+n) (qQ w (kc+n) rC e))
   (w.drew.alloc (.cells (wI.toArray++l'.toArray++ZW z.cells (qQ w (kc+n) rC e-(kc+n))) e)))
 (Hroom:∀(g o kc rC:Nat) (jy:Array qd) (e':qr),w.heap[g]? = qc (.cells jy e' (0,0))->kc+n<=rC->o+kc*i.size+l'.length<=jy.size->
  (kaa ts ty #[.slice (qc ⟨g,o,qh⟩) kc rC,X]).run P w=qH (.slice (qc ⟨g,o,qh⟩) (kc+n) rC)
   (w.setRow g (jy.toList.take (o+kc*i.size)++l'++jy.toList.drop (o+kc*i.size+l'.length)).toArray)) :
 ∃v' w' m',(kaa ts ty #[s',X]).run P w=qH v' w'/\
  lb m A w m' ((match base with|some a=>A.set a.block qh|none=>A).alloc (.cells (wI++pd) qg i.size)) w'/\bP m' (.slice (qc ⟨A.next,0,qh⟩) (k+n) (k+n)) v':=by
 have hone':=P8.aM nU
 have N3:∀(ey:Nat) (A0:AW) (Mq:k7 m A0 w) (GR:A0.next=A.next) (lo:List qd) (zF:jB m wI lo) (bW:lo.length=k*i.size),
  lb m A0 w (m.ext A.next ⟨w.heap.size,0,i.size,(lo.toArray++l'.toArray++ZW z.cells (qQ w (k+n) ey e-(k+n))).size⟩)
   (A0.alloc (.cells (wI++pd) qg i.size)) (w.drew.alloc (.cells (lo.toArray++l'.toArray++ZW z.cells (qQ w (k+n) ey e-(k+n))) e))/\
   bP (m.ext A.next ⟨w.heap.size,0,i.size,(lo.toArray++l'.toArray++ZW z.cells (qQ w (k+n) ey e-(k+n))).size⟩)
    (.slice (qc ⟨A.next,0,qh⟩) (k+n) (k+n)) (.slice (qc ⟨w.heap.size,0,qh⟩) (k+n) (qQ w (k+n) ey e)):=by
  intro ey A0 Mq hnx lo zF bW;have hge:=grownCap_ge w (k+n) ey e;constructor;have NK:k7 m A0 w.drew:=Mq.KY rfl;have ev:=lb.alloc NK (wI++pd) (lo.toArray++l'.toArray++ZW z.cells (qQ w (k+n) ey e-(k+n))) e i.size (λj v hv=>by
   obtain⟨v',h1,h2⟩:=(zF.append P8).bk hv;refine⟨v',?_,h2⟩;have bY:=(ZC.1 h1).1;rw [kbU (by simpa using bY)]
   simpa using h1)
  rw [hnx] at ev;exact(lb.drew Mq).trans ev;refine .slice (qq ⟨rfl,rfl,⟨w.heap.size,0,i.size,(lo.toArray++l'.toArray++ZW z.cells (qQ w (k+n) ey e-(k+n))).size⟩,ay rfl,rfl,rfl,?_⟩) (qZ _) hge;simp only [Array.size_append,List.size_toArray,size_zeroCells,bW,hl,pq,<-kao];rw [show k+n+(qQ w (k+n) ey e-(k+n))=qQ w (k+n) ey e by omega];omega
 unfold iv at ho;split at ho
 .
  simp only [Zh,ZE] at ho;obtain⟨rfl,rfl,rfl⟩:=ho;cases PY;have hr:=Hnil 0 rfl rfl;obtain⟨g1,g2⟩:=N3 0 A hs rfl [] jB.nil Yb;simp only [ZZ,ah,Array.empty_append] at g1 g2 ⊢;exact⟨_,_,_,hr,g1,g2⟩
 . rename_i sa k0 c0;split at ho
   .
    rename_i NH;obtain⟨hx1,hx2,hx3⟩:=NH;subst hx2;subst hx3;simp only [Zh,ZE] at ho;obtain⟨rfl,rfl,rfl⟩:=ho;cases PY with
    | slice hh h1 h2=>
      rename_i a' jH;have Lx:jH=0:=by
       rcases hh with hh|hh;have h9:=hh.1;rw [h9] at hx1;cases hx1;exact hh.2.1
      subst Lx;have hr:=Hgrow a' 0 0 [] rfl Yb (λj u h=>by simp at h) Ya;obtain⟨g1,g2⟩:=N3 0 A hs rfl [] jB.nil Yb;simp only [ZZ,ah,Array.empty_append] at g1 g2 hr ⊢;exact⟨_,_,_,hr,g1,g2⟩
   split at ho<;>try(cases ho;done)
   rename_i cs unit hg;split at ho<;>try(cases ho;done)
   rename_i yx;obtain⟨rfl,pf⟩:=yx;simp only [Zh,ZE] at ho;obtain⟨rfl,rfl,rfl⟩:=ho;cases PY with
   | slice hh h1 h2=>
     rename_i a' jH;have bO:A.bS sa.block=qc cs:=(by unfold AW.bS;rw [hg]);have holds:∃lo,lo.length=k0*i.size/\jB m ((cs.drop sa.off).take (k0*i.size)) lo/\∀(j:Nat) (v:qd),lo[j]? = qc v->w.cell? (a'.add j)=qc v:=by
      rcases hh with hh|⟨rfl,_⟩;exact BR hs hh.aad bO (k0*i.size) pf;exact⟨[],by simp,by simp [jB.nil],by simp⟩
     obtain⟨lo,hlo1,hlo2,hlo3⟩:=holds;by_cases GO:k0+n<=jH
     .
      have hh':DW m sa a' jH:=by
       rcases hh with hh|⟨_,hc0⟩;exact hh;omega
      obtain⟨BG,NJ,p,hm,IR,hpo,hpt⟩:=hh';obtain⟨p',P7,jy,e',fr,hw,tE,hpu,Bj,Bk⟩:=hs.IC _ _ hg;rw [hm] at P7;simp only [Zh] at P7;subst P7;obtain rfl:=tE rfl;obtain⟨sb,so,ss⟩:=a';simp only at IR hpo hpt NJ;subst NJ;have hfit2:so+k0*i.size+l'.length<=jy.size:=by
       rw [Bj,hl,ZD,<-kao];have:=Nat.mul_le_mul_right i.size GO;rw [<-hpu] at hpt;omega
      have jN:w.heap[sb]? = qc (.cells jy e' (0,0)):=(by rw [IR];exact hw);have hr:=Hroom sb so k0 jH jy e' jN GO hfit2;have hcz:(jy.toList.take (so+k0*i.size)++l'++jy.toList.drop (so+k0*i.size+l'.length)).length=jy.size:=by
       simp only [List.length_append,Z9,List.length_drop,Array.length_toList];omega
      refine⟨_,_,m.ext A.next ⟨p.block,so,i.size,p.BN⟩,hr,?_,?_⟩
      refine lb.adopt hs (p':=⟨p.block,so,i.size,p.BN⟩) (e:=e') hg hm rfl rfl Yb rfl rfl rfl
       (Hn:=(jy.toList.take (so+k0*i.size)++l'++jy.toList.drop (so+k0*i.size+l'.length)).toArray) ?_ ?_ ?_ ?_
      rw [<-IR];exact setRow_heap w sb jy _ e' _ jN
      simpa [Bj] using hcz
      intro j hj;exact setRow_other w sb j _ (by rw [IR];exact hj);intro j v hv;rw [kbv] at hv;simp only [Z9,List.length_drop] at hv;have e1:min (k0*i.size) (cs.length-sa.off)=k0*i.size:=Ya;rw [e1] at hv;by_cases hj:j<k0*i.size;rw [ay hj] at hv;obtain⟨h3,_⟩:=Ah _ _ _ _ _ hv;obtain⟨v',h4,h5⟩:=Bk _ _ h3;refine⟨v',?_,h5⟩;have bY:=(Zf.1 h4).1;simp only [kaK,kaS];rw [kaf Yg,Z5 Ya,kbc,hpo,ZD];exact h4;rw [aw hj] at hv;obtain⟨v',h4,h5⟩:=P8.bk hv;refine⟨v',?_,h5⟩;have bY:=(ZC.1 h4).1;simp only [kaK,kaS];have e2:(jy.toList.take (so+k0*i.size)).length=so+k0*i.size:=Yg;rw [kaX Ya,e2,kaf Ya]
      rw [show so+j-(so+k0*i.size)=j-k0*i.size by omega];exact h4;refine .slice (qq ⟨rfl,rfl,⟨p.block,so,i.size,p.BN⟩,by simp [Mp.ext],IR,rfl,?_⟩) (qZ _) GO
      simpa [hpu] using hpt
     .
      have hr:=Hgrow a' k0 jH lo rfl hlo1 hlo3 Ya;have ek:=lb.PP hs sa.block;obtain⟨g1,g2⟩:=N3 jH (A.set sa.block qh) ek.HX rfl lo hlo2 hlo1;exact⟨_,_,_,hr,ek.trans g1,g2⟩
 cases ho
theorem LT {P:ql} {m:Mp} {A A1:AW} {w:qs} (hs:k7 m A w) {t u ty:qr} {s x s' x' v:qd} (h:fI P A t u s x=qc (v,A1))
 (PY:bP m s s') (hvx:bP m x x') :
 ∃v' w' m',(kaa #[t,u] ty #[s',x']).run P w=qH v' w'/\lb m A w m' A1 w'/\bP m' v v':=by
 unfold fI at h;split at h<;>try(cases h;done)
 rename_i e hu;split at h<;>try(cases h;done)
 rename_i i hi;split at h<;>try(cases h;done)
 rename_i z hz;split at h<;>try(cases h;done)
 rename_i CA;obtain⟨pq,xQ,rfl⟩:=CA;split at h<;>try(cases h;done)
 rename_i n pd base k wI hn ho;have jI:=LV hs hn hvx;by_cases GR:n=0
 .
  subst GR;rw [ay rfl] at h;simp only [Zh,ZE] at h;obtain⟨rfl,rfl⟩:=h;have NH:∃xb xc,x'=.slice xb 0 xc:=by
   rcases jI with ⟨_,h1⟩|⟨a,c,l',h1,_⟩;exact h1;exact⟨_,_,h1⟩
  obtain⟨xb,xc,rfl⟩:=NH;have Mq:∃b' n' c',s'=.slice b' n' c'/\n'<=c':=by
   unfold iv at ho;split at ho;cases PY;exact⟨_,_,_,rfl,qZ _⟩
   . cases PY with
     | slice _ h1 h2=>exact⟨_,_,_,rfl,ZA h1 h2⟩
   cases ho
  obtain⟨b',n',c',rfl,fA⟩:=Mq;exact⟨_,w,m,EO w t ty e i hu hi b' n' c' fA xb xc,lb.refl hs,PY⟩
 rw [aw GR] at h;split at h
 case isFalse=>cases h
 rename_i hb;obtain⟨H3,lF,xS⟩:=hb;simp only [Zh,ZE] at h;obtain⟨rfl,rfl⟩:=h;rcases jI with ⟨h0,_⟩|⟨a,c,l',rfl,hl,P8,To⟩;exact absurd h0 GR;have nU:∀v∈pd,v.oneCell'=qg:=by simpa using xS
 have hone':=P8.aM nU
 refine Ey hs (e:=e) (i:=i) (z:=z) pq GR H3 lF nU hl P8 ho PY
  (λ_ _ hk=>run_append_nil (P:=P) w t ty e i z hu hi hz a n c l' hl To Ya Ya (by subst hk;simp only [ZZ] at lF;omega))
  (λb kc rC lo hk h1 h2 h3=>run_append_grow (P:=P) w t ty e i z hu hi hz b kc rC lo h1 h2 a n c l' hl To h3 Ya (growslice_fits h3 (by subst hk;exact lF)))
  (λg o kc rC jy e' h1 h2 h3=>AT (P:=P) w t ty e i hu hi g o kc rC jy e' h1 a n c l' hl To hone' h2 h3)
end Go.Stx
namespace Go.Stx
open Go
variable [Gl]
def E3 (op:BinOp) (k:qw) (x y:Int):Option qd:=
 match op with
 | .add=>qc (.int k (k.wrap (x+y)))
 | .sub=>qc (.int k (k.wrap (x-y)))
 | .mul=>qc (.int k (k.wrap (x*y)))
 | .quo=>if y=0 then qh else qc (.int k (k.wrap (x.tdiv y)))
 | .rem=>if y=0 then qh else qc (.int k (x.tmod y))
 | .eql=>qc (.bool (decide (x=y)))
 | .neq=>qc (.bool (!decide (x=y)))
 | .lss=>qc (.bool (decide (x<y)))
 | .leq=>qc (.bool (decide (x<=y)))
 | .gtr=>qc (.bool (decide (y<x)))
 | .geq=>qc (.bool (decide (y<=x)))
 | .and=>qc (.int k (k.wrap (kan k.bits x &&& kan k.bits y).toNat))
 | .or=>qc (.int k (k.wrap (kan k.bits x ||| kan k.bits y).toNat))
 | .xor=>qc (.int k (k.wrap (kan k.bits x ^^^ kan k.bits y).toNat))
 | .andNot=>qc (.int k (k.wrap (kan k.bits x &&& ~~~kan k.bits y).toNat))
 | _=>qh
def rL (op:BinOp) (k:qw) (x y:Int):Option qd:=
 if y<0 then qh else
 match op with
 | .shl=>qc (.int k (k.wrap (x*2 ^ (min y.toNat k.bits))))
 | .shr=>qc (.int k (x.fdiv (2 ^ (min y.toNat k.bits))))
 | _=>qh
def Lj:BinOp->Bool
 | .shl | .shr=>qg
 | _=>qk
def abin (P:ql) (op:BinOp) (t:qr) (x y:qd):Option qd:=
 match x,y with
 | .int k a,.int k' b=>if Lj op then rL op k a b else if k=k' then E3 op k a b else qh
 | .string a,.string b=>
   match op with
   | .eql=>qc (.bool (a.toList == b.toList))
   | .neq=>qc (.bool (!(a.toList == b.toList)))
   | .add=>if a.size+b.size<=9223372036854775807 then qc (.string (a++b)) else qh
   | _=>qh
 | .bool a,.bool b=>
   match op,P.underlying t with
   | .eql,qc .bool=>qc (.bool (a == b))
   | .neq,qc .bool=>qc (.bool (!(a == b)))
   | _,_=>qh
 | .pointer a,.pointer b=>
   if a.isSome && b.isSome then qh else
   match op,P.underlying t with
   | .eql,qc (.pointer _)=>qc (.bool (a.isNone && b.isNone))
   | .neq,qc (.pointer _)=>qc (.bool (!(a.isNone && b.isNone)))
   | _,_=>qh
 | _,_=>qh
theorem U7 {P:ql} {op:BinOp} {k:qw} {a b:Int} {t:qr} {v:qd} (h0:Lj op=qk) (h:E3 op k a b=qc v) (w:qs) :
 (qC op t (.int k a) (.int k b)).run P w=qH v w:=by
 cases op
 case add=>injection h with h;subst h;simp [qC,kbP]
 case sub=>injection h with h;subst h;simp [qC,kbP]
 case mul=>injection h with h;subst h;simp [qC,kbP]
 case quo=>
  by_cases hb:b=0;simp [E3,hb] at h;simp [E3,hb] at h;subst h;simp [qC,Op.intDiv,hb]
 case rem=>
  by_cases hb:b=0;simp [E3,hb] at h;simp [E3,hb] at h;subst h;simp [qC,Op.intDiv,hb]
 case and=>injection h with h;subst h;simp [qC,kbp]
 case or=>injection h with h;subst h;simp [qC,kbp]
 case xor=>injection h with h;subst h;simp [qC,kbp]
 case andNot=>injection h with h;subst h;simp [qC,kbp]
 case shl=>cases h0
 case shr=>cases h0
 case eql=>injection h with h;subst h;simp [qC,kba];rfl
 case neq=>injection h with h;subst h;simp [qC,kba];rfl
 case lss=>injection h with h;subst h;simp [qC,kba]
 case leq=>injection h with h;subst h;simp [qC,kba]
 case gtr=>injection h with h;subst h;simp [qC,kba]
 case geq=>injection h with h;subst h;simp [qC,kba]
theorem Pa {P:ql} {op:BinOp} {k k':qw} {a b:Int} {t:qr} {v:qd} (h:rL op k a b=qc v) (w:qs) :
 (qC op t (.int k a) (.int k' b)).run P w=qH v w:=by
 by_cases hb:b<0;simp [rL,hb] at h;cases op
 case shl=>simp [rL,hb] at h;subst h;simp [qC,Op.shift,hb]
 case shr=>simp [rL,hb] at h;subst h;simp [qC,Op.shift,hb]
 all_goals simp [rL] at h
theorem OD {op:BinOp} {k:qw} {a b:Int} {v:qd} (h:E3 op k a b=qc v) (m:Mp):bP m v v:=by
 cases op
 case quo=>
  by_cases hb:b=0;simp [E3,hb] at h;simp [E3,hb] at h;subst h;constructor
 case rem=>
  by_cases hb:b=0;simp [E3,hb] at h;simp [E3,hb] at h;subst h;constructor
 case shl=>cases h
 case shr=>cases h
 all_goals(injection h with h;subst h;constructor)
theorem I5 {op:BinOp} {k:qw} {a b:Int} {v:qd} (h:rL op k a b=qc v) (m:Mp):bP m v v:=by
 by_cases hb:b<0;simp [rL,hb] at h;cases op
 case shl=>simp [rL,hb] at h;subst h;constructor
 case shr=>simp [rL,hb] at h;subst h;constructor
 all_goals simp [rL] at h
theorem vu {P:ql} {t:qr} (d:Nat) (a b:Bool) (hu:P.underlying t=qc .bool) (w:qs) :
 (ZK (d+1) t (.bool a) (.bool b)).run P w=qH (a == b) w:=by
 simp [ZK,qp hu]
theorem kK {P:ql} {t e:qr} (d:Nat) (b:Option qL) (hu:P.underlying t=qc (.pointer e)) (w:qs) :
 (ZK (d+1) t (.pointer qh) (.pointer b)).run P w=qH b.isNone w:=by
 simp [ZK,qp hu]
theorem rP {P:ql} {t e:qr} (d:Nat) (a:qL) (hu:P.underlying t=qc (.pointer e)) (w:qs) :
 (ZK (d+1) t (.pointer (qc a)) (.pointer qh)).run P w=qH qk w:=by
 simp [ZK,qp hu]
theorem gQ {P:ql} {t:qr} {x y:qd} {r:Bool} {w:qs} (h:(ZK (9999+1) t x y).run P w=qH r w):(Op.equal t x y).run P w=qH r w:=h
theorem EN {P:ql} (op:BinOp) (t:qr) (xo yo:qy) (k k':qw) (a b:Int) (w:qs) :
 (qD op t xo yo (.int k a) (.int k' b)).run P w=qH () w:=by
 cases op<;>simp [qD]
theorem Q1 {P:ql} {op:BinOp} {t:qr} {x y v:qd} (h:abin P op t x y=qc v) {m:Mp} {x' y':qd} (hx:bP m x x') (hy:bP m y y') (xo yo:qy) (w:qs) :
 (do qD op t xo yo x' y';qC op t x' y':Sem qd).run P w=qH v w/\bP m v v:=by
 unfold abin at h;split at h
 .
  cases hx;cases hy;rw [Zj,EN,Zi];split at h;exact⟨Pa h w,I5 h m⟩;rename_i hs;split at h;rename_i hk;subst hk;exact⟨U7 (by simpa using hs) h w,OD h m⟩;cases h
 .
  cases hx;cases hy;cases op
  case eql=>injection h with h;subst h;exact⟨by simp [qD,qC,Op.stringOp],by constructor⟩
  case neq=>injection h with h;subst h;exact⟨by simp [qD,qC,Op.stringOp],by constructor⟩
  case add=>
   rename_i a b;replace h:(if a.size+b.size<=9223372036854775807 then qc (Value.string (a++b)) else qh)=qc v:=h;by_cases fA:a.size+b.size<=9223372036854775807;rw [ay fA] at h;injection h with h;subst h;refine⟨?_,by constructor⟩;have:¬(((a.size+b.size:Nat):Int)>qY.max):=by
    have e:qY.max=9223372036854775807:=rfl;rw [e];omega
   simp only [qD,qC,Op.stringOp,aw this];rfl;rw [aw fA] at h;cases h
  all_goals cases h
 .
  cases hx;cases hy;split at h;rename_i hu;injection h with h;subst h;exact⟨by simp [qD,qC,gQ (vu _ _ _ hu w)],by constructor⟩
  rename_i hu;injection h with h;subst h;exact⟨by simp [qD,qC,gQ (vu _ _ _ hu w)],by constructor⟩
  cases h
 .
  rename_i a b;cases a with
  | none=>
    cases hx;cases b with
    | none=>
      cases hy;simp only [kbw,Zg,if_false,Bool.and_self] at h;split at h;rename_i hu;injection h with h;subst h;exact⟨by simp [qD,qC,gQ (kK _ _ hu w)],by constructor⟩
      rename_i hu;injection h with h;subst h;exact⟨by simp [qD,qC,gQ (kK _ _ hu w)],by constructor⟩
      cases h
    | some b=>
      cases hy;simp only [kbw,Bool.false_and,Zg,if_false] at h;split at h;rename_i hu;injection h with h;subst h;exact⟨by simp [qD,qC,gQ (kK _ _ hu w)],by constructor⟩
      rename_i hu;injection h with h;subst h;exact⟨by simp [qD,qC,gQ (kK _ _ hu w)],by constructor⟩
      cases h
  | some a=>
    cases b with
    | some b=>simp at h
    | none=>
      cases hx;cases hy;simp only [kbw,Bool.and_false,Zg,if_false] at h;split at h;rename_i hu;injection h with h;subst h;exact⟨by simp [qD,qC,gQ (rP _ _ hu w)],by constructor⟩
      rename_i hu;injection h with h;subst h;exact⟨by simp [qD,qC,gQ (rP _ _ hu w)],by constructor⟩
      cases h
 cases h
def aun (op:UnOp) (x:qd):Option qd:=
 match op,x with
 | .not,.bool b=>qc (.bool !b)
 | .neg,.int k n=>qc (.int k (k.wrap (0-n)))
 | .xor,.int k n=>qc (.int k (k.wrap (kan k.bits (if k.signed then -1 else k.max) ^^^ kan k.bits n).toNat))
 | _,_=>qh
theorem JY {P:ql} {op:UnOp} {x v:qd} (h:aun op x=qc v) {m:Mp} {x':qd} (hx:bP m x x') (w:qs) :
 (Op.unary op x').run P w=qH v w/\bP m v v:=by
 unfold aun at h;split at h;injection h with h;subst h;cases hx;exact⟨by simp [Op.unary],by constructor⟩;injection h with h;subst h;cases hx;exact⟨by simp [Op.unary,kbP],by constructor⟩;injection h with h;subst h;cases hx;exact⟨by simp [Op.unary,kbp],by constructor⟩;cases h
def Sd (P:ql) (src dst:qr) (x:qd):Option qd:=
 match P.underlying src,P.underlying dst,x with
 | some _,qc (.int k),.int _ n=>qc (.int k (k.wrap n))
 | some _,qc .string,.string s=>qc (.string s)
 | _,_,_=>qh
theorem EC {P:ql} {src dst:qr} {x v:qd} (h:Sd P src dst x=qc v) {m:Mp} {x':qd} (hx:bP m x x') (w:qs) :
 (convert src dst x').run P w=qH v w/\bP m v v:=by
 unfold Sd at h;split at h;rename_i h1 h2;injection h with h;subst h;cases hx;exact⟨by simp [convert,qp h1,qp h2,Conv.intToInt],by constructor⟩
 rename_i h1 h2;injection h with h;subst h;cases hx;exact⟨by simp [convert,qp h1,qp h2],by constructor⟩
 cases h
end Go.Stx
namespace Go.Stx
open Go
variable [Gl]
def GH (P:ql) (t:qr):Option Bool:=
 match P.underlying t with
 | some (.struct _)=>qc qg
 | some (.array _ _)=>qc qg
 | some _=>qc qk
 | none=>qh
theorem sF {P:ql} {t:qr} {b:Bool} (h:GH P t=qc b) (w:qs):(isAgg t).run P w=qH b w:=by
 unfold GH at h;cases hu:P.underlying t with
 | none=>simp [hu] at h
 | some d=>
   rw [hu] at h;simp only [isAgg,Zj,qp hu,Zi];cases d<;>simp only [Zh] at h<;>subst h<;>rfl
theorem gP {P:ql} {t:qr} {i:qP} (h:P.info? t=qc i) (w:qs):(sizeOf t).run P w=qH i.size w:=by
 simp [sizeOf,qN,h]
def ir (P:ql) (A:AW) (t:qr) (p:qL):Option qd:=
 match A.bS p.block,GH P t with
 | some cs,qc qk=>cs[p.off]?
 | some cs,qc qg=>
   match P.info? t with
   | some i=>if p.off+i.size<=cs.length then qc (.agg ((cs.drop p.off).take i.size).toArray) else qh
   | none=>qh
 | _,_=>qh
theorem bP.tY {m:Mp} {l l':List qd} (h:jB m l l'):bP m (.agg l.toArray) (.agg l'.toArray):=
 .agg (by simpa using h.1) λi v v' a b=>h.2 i v v' YV Yq
theorem OB {P:ql} {m:Mp} {A:AW} {w:qs} (hs:k7 m A w) {t:qr} {p p':qL} {v:qd} (h:ir P A t p=qc v) (hp:sB m p p') :
 ∃v',(loadVar t p').run P w=qH v' w/\bP m v v':=by
 unfold ir at h;split at h;rename_i cs hr ha;obtain⟨v',h1,h2⟩:=VQ (P:=P) hs hp hr h;exact⟨v',by simp only [loadVar,Zj,sF ha,Zi,Zg,if_false,h1],h2⟩;rename_i cs hr ha;split at h;rename_i i hi;split at h;rename_i fA;injection h with h;subst h;obtain⟨l',h1,h2⟩:=IL (P:=P) hs hp hr i.size fA;refine⟨.agg l'.toArray,?_,.tY h2⟩;simp only [loadVar,Zj,sF ha,Zi,if_true,gP hi,h1,Zu];cases h;cases h;cases h
def aG (P:ql) (A:AW) (t:qr) (p:qL) (v:qd):Option AW:=
 match A.bk p.block,P.info? t with
 | some (.cells cs qg unit),qc i=>
   if v.cells.size=i.size/\p.off+i.size<=cs.length/\v.cells.toList.all Zz then
    qc (A.set p.block (qc (.cells (fY cs p.off v.cells.toList) qg unit)))
   else qh
 | _,_=>qh
theorem LR {P:ql} {m:Mp} {A A1:AW} {w:qs} (hs:k7 m A w) {t:qr} {p p':qL} {v v':qd} (h:aG P A t p v=qc A1) (hp:sB m p p') (hv:bP m v v') :
 ∃w',(storeVar t p' v').run P w=qH () w'/\lb m A w m A1 w':=by
 unfold aG at h;split at h;rename_i cs unit i hg hi;split at h;rename_i hc;obtain⟨h1,h2,h3⟩:=hc;injection h with h;subst h;obtain⟨BG,NJ,q,hm,hb,ho⟩:=hp;have lh:=hv.cells;obtain⟨w',hr,ev⟩:=sS (P:=P) (o:=p.off) hm v.cells.toList v'.cells.toList 0 cs A w hs hg lh (λx hx=>Zr.1 h3 x hx) Yg;refine⟨w',?_,by simpa using ev⟩;have xQ:v'.cells.size=i.size:=by have:=lh.1;simp at this;omega
 have ea:p'=⟨q.block,q.base+p.off,qh⟩:=by rw [CZ p' NJ,hb,ho]
 subst ea;simp only [storeVar,Zj,gP hi,Zi,xQ,ne_eq,not_true_eq_false,if_false,hr];cases h;cases h
theorem wQ {P:ql} {m:Mp} {A:AW} {w:qs} (hs:k7 m A w) (e:qr) (unit:Nat) {l:List qd} {jy:Array qd} (hl:jB m l jy.toList) :
 ∃w' m',(newRow e jy).run P w=qH ⟨w.heap.size,0,qh⟩ w'/\lb m A w m' (A.alloc (.cells l qg unit)) w'/\m'=m.ext A.next ⟨w.heap.size,0,unit,jy.size⟩:=by
 refine⟨w.alloc (.cells jy e),_,?_,lb.alloc hs l jy e unit (λk v hv=>?_),rfl⟩;simp only [newRow,Zj,run_newObj,Zi,Zu];rfl;obtain⟨v',h1,h2⟩:=hl.bk hv;exact⟨v',by simpa using h1,h2⟩
def aal (A:AW) (v:qd):qd×AW:=(.pointer (qc ⟨A.next,0,qh⟩),A.alloc (.cells v.cells.toList qg 1))
theorem HO {P:ql} {m:Mp} {A:AW} {w:qs} (hs:k7 m A w) (e:qr) {v v':qd} (hv:bP m v v') :
 ∃p' w' m',(Instr.box e v').run P w=qH p' w'/\lb m A w m' (aal A v).2 w'/\bP m' (aal A v).1 p':=by
 obtain⟨w',m',h1,h2,h3⟩:=wQ (P:=P) hs e 1 hv.cells;refine⟨.pointer (qc ⟨w.heap.size,0,qh⟩),w',m',?_,h2,?_⟩;simp only [Instr.box,newVar,Zj,h1,Zi,Zu];rw [h3];exact .M5 (sB.mR m A.next ⟨w.heap.size,0,1,_⟩ 0)
def xj (P:ql) (s:qr) (x:qd) (f:Nat):Option qd:=
 match P.underlying s,x with
 | some (.struct fs),.pointer (qc p)=>
   match fs[f]? with
   | some fd=>
     match P.info? fd.type with
     | some i=>if i.size=0 then qh else qc (.pointer (qc ⟨p.block,p.off+fd.offset,qh⟩))
     | none=>qh
   | none=>qh
 | _,_=>qh
theorem sB.plus {m:Mp} {a a':qL} (h:sB m a a') (n:Nat):sB m ⟨a.block,a.off+n,qh⟩ (a'.add n):=by
 obtain⟨h1,h2,p,h3,h4,h5⟩:=h;rw [oP _ _ h2];exact⟨rfl,rfl,p,h3,h4,by simp only [h5,ZD]⟩
theorem DT {P:ql} {m:Mp} {s:qr} {x x' v:qd} {f:Nat} (h:xj P s x f=qc v) (hx:bP m x x') :
 ∃v',bP m v v'/\∀w,(Instr.fieldAt s x' f).run P w=qH v' w:=by
 unfold xj at h;split at h
 . rename_i fs p hu;cases hx with
   | M5 ha=>
     rename_i p';split at h;rename_i fd hf;split at h;rename_i i hi;split at h;cases h;rename_i h0;injection h with h;subst h;refine⟨.pointer (qc (p'.add fd.offset)),.M5 (ha.plus _),λw=>?_⟩;simp [Instr.fieldAt,qp hu,hf,kbD,fieldPlace,gP hi,h0];cases h;cases h
 cases h
def apart (P:ql) (t:qr) (cs:Array qd) (off:Nat):Option qd:=
 match GH P t with
 | some qk=>cs[off]?
 | some qg=>
   match P.info? t with
   | some i=>qc (.agg (cs.extract off (off+i.size)))
   | none=>qh
 | none=>qh
theorem nS {P:ql} {m:Mp} {t:qr} {cs uP:Array qd} {off:Nat} {v:qd} (h:apart P t cs off=qc v) (hc:bP m (.agg cs) (.agg uP)) :
 ∃v',bP m v v'/\∀w,(part t uP off).run P w=qH v' w:=by
 cases hc with
 | agg hx h1=>
   unfold apart at h;split at h;rename_i ha;have bY:off<uP.size:=(by rw [<-hx];exact(Zf.1 h).1);have e:=ZL bY;refine⟨uP[off],h1 off v _ h e,λw=>?_⟩;simp only [part,Zj,sF ha,Zi,Zg,if_false];rw [e];rfl;rename_i ha;split at h;rename_i i hi;injection h with h;subst h;refine⟨.agg (uP.extract off (off+i.size)),.agg YB ?_,λw=>?_⟩;intro j v v' h2 h3;rw [Array.getElem?_extract] at h2 h3;split at h2;rename_i hj;rw [ay (by rw [<-hx];exact hj)] at h3;exact h1 _ v v' h2 h3;cases h2;simp only [part,Zj,sF ha,Zi,if_true,gP hi,Zu];cases h;cases h
def L0 (P:ql) (t:qr) (x:qd) (f:Nat):Option qd:=
 match P.underlying t,x with
 | some (.struct fs),.agg cs=>
   match fs[f]? with
   | some fd=>apart P fd.type cs fd.offset
   | none=>qh
 | _,_=>qh
theorem LZ {P:ql} {m:Mp} {t:qr} {x x' v:qd} {f:Nat} (h:L0 P t x f=qc v) (hx:bP m x x') :
 ∃v',bP m v v'/\∀w,(Instr.field t x' f).run P w=qH v' w:=by
 unfold L0 at h;split at h;rename_i fs cs hu;split at h
 . rename_i fd hf;have NH:=hx;cases hx with
   | agg xQ h1=>
     obtain⟨v',h3,h2⟩:=nS (P:=P) h NH;refine⟨v',h3,λw=>?_⟩;simp only [Instr.field,Zj,qp hu,Zi,hf,asAgg,Zu,h2]
 cases h;cases h
def xh (P:ql) (t:qr) (x ix:qd):Option qd:=
 match P.underlying t,x,ix with
 | some (.slice e),.slice (qc p) len _,.int _ n=>
   match P.info? e with
   | some i=>if 0<=n/\n<len then qc (.pointer (qc ⟨p.block,p.off+n.toNat*i.size,qh⟩)) else qh
   | none=>qh
 | some (.array len e),.pointer (qc p),.int _ n=>
   match P.info? e with
   | some i=>if 0<=n/\n<len then qc (.pointer (qc ⟨p.block,p.off+n.toNat*i.size,qh⟩)) else qh
   | none=>qh
 | _,_,_=>qh
theorem DS {P:ql} {m:Mp} {t:qr} {x x' y y' v:qd} (h:xh P t x y=qc v) (hx:bP m x x') (hy:bP m y y') :
 ∃v',bP m v v'/\∀w,(Instr.indexAt t x' y').run P w=qH v' w:=by
 unfold xh at h;split at h;rename_i e p len eV k n hu;cases hy;split at h;rename_i i hi;split at h
 . rename_i hb;injection h with h;subst h;cases hx with
   | slice hh h1 h2=>
     rename_i p' jH;have ha:sB m p p':=by
      rcases hh with hh|hh;exact hh.aad;omega
     refine⟨.pointer (qc (p'.add (n.toNat*i.size))),.M5 (ha.plus _),λw=>?_⟩;simp [Instr.indexAt,qp hu,asIntOf,gP hi,hb.1,hb.2]
 cases h;cases h;rename_i len e p k n hu;cases hy;split at h;rename_i i hi;split at h
 . rename_i hb;injection h with h;subst h;cases hx with
   | M5 ha=>
     rename_i p';refine⟨.pointer (qc (p'.add (n.toNat*i.size))),.M5 (ha.plus _),λw=>?_⟩;simp [Instr.indexAt,qp hu,asIntOf,gP hi,hb.1,hb.2,kbD]
 cases h;cases h;cases h
def LY (P:ql) (t:qr) (x ix:qd):Option qd:=
 match P.underlying t,x,ix with
 | some (.array len e),.agg cs,.int _ n=>
   match P.info? e with
   | some i=>if 0<=n/\n<len then apart P e cs (n.toNat*i.size) else qh
   | none=>qh
 | some .string,.string s,.int _ n=>
   if 0<=n then
    match s[n.toNat]? with
    | some b=>qc (.int .u8 b.toNat)
    | none=>qh
   else qh
 | _,_,_=>qh
theorem LX {P:ql} {m:Mp} {t:qr} {x x' y y' v:qd} (h:LY P t x y=qc v) (hx:bP m x x') (hy:bP m y y') :
 ∃v',bP m v v'/\∀w,(Instr.index t x' y').run P w=qH v' w:=by
 unfold LY at h;split at h;rename_i len e cs k n hu;cases hy;split at h;rename_i i hi;split at h
 . rename_i hb;have NH:=hx;cases hx with
   | agg xQ h1=>
     obtain⟨v',h3,h2⟩:=nS (P:=P) h NH;exact⟨v',h3,λw=>by simp [Instr.index,qp hu,asIntOf,gP hi,hb.1,hb.2,h2]⟩
 cases h;cases h;rename_i s k n hu;cases hx;cases hy;split at h;rename_i h0;split at h;rename_i b hb;injection h with h;subst h;exact⟨.int .u8 b.toNat,by constructor,λw=>by simp [Instr.index,qp hu,asIntOf,h0,hb]⟩;cases h;cases h;cases h
def tA (v:Option qd) (d pn:Nat):Option Nat:=
 match v with
 | none=>qc d
 | some (.int _ n)=>if 0<=n/\n<=pn then qc n.toNat else qh
 | some _=>qh
def fC (P:ql) (A:AW) (e:qr) (p:qL) (l:Nat):Option qL:=
 if l=0 then qc p else
 match P.info? e,A.bk p.block with
 | some i,qc (.cells _ _ unit)=>if unit=i.size then qc ⟨p.block,p.off+l*i.size,qh⟩ else qh
 | _,_=>qh
def Bx (P:ql) (A:AW) (t:qr) (x:qd) (lo hi mx:Option qd):Option qd:=
 match P.underlying t,x,mx with
 | some (.slice e),.slice a len eV,qh=>
   match tA hi len eV with
   | some h=>
     match tA lo 0 h with
     | some l=>
       match P.info? e,a with
       | some _,qh=>qc (.slice qh (h-l) (eV-l))
       | some _,qc p=>
         match fC P A e p l with
         | some q=>qc (.slice (qc q) (h-l) (eV-l))
         | none=>qh
       | none,_=>qh
     | none=>qh
   | none=>qh
 | some .string,.string s,qh=>
   match tA hi s.size s.size with
   | some h=>
     match tA lo 0 h with
     | some l=>qc (.string (s.extract l h))
     | none=>qh
   | none=>qh
 | _,_,_=>qh
end Go.Stx
namespace Go.Stx
open Go
variable [Gl]
def Af (m:Mp):Option qd->Option qd->Prop
 | none,qh=>True
 | some v,qc v'=>bP m v v'
 | _,_=>False
theorem kR {P:ql} {w:qs} {k:qw} {n:Int} {y:Nat} {aD:BoundsCode} (h0:0<=n) (h1:n<=y) :
 (Instr.sliceBound (.int k n) y aD).run P w=qH n.toNat w:=by
 simp [Instr.sliceBound,asIntOf,h0,h1]
theorem EG {m:Mp} {v v':Option qd} {d pn h:Nat} (hb:tA v d pn=qc h) (hv:Af m v v') :
 (v'=qh/\h=d)\/∃k n,v'=qc (.int k n)/\0<=n/\n<=pn/\h=n.toNat:=by
 unfold tA at hb;split at hb
 . injection hb with hb;cases v' with
   | none=>exact qq ⟨rfl,hb.symm⟩
   | some _=>exact hv.elim
 rename_i k n;split at hb
 . rename_i hc;injection hb with hb;cases v' with
   | none=>exact hv.elim
   | some _=>cases hv;exact qt ⟨k,n,rfl,hc.1,hc.2,hb.symm⟩
 cases hb;cases hb
theorem rD {P:ql} {m:Mp} {lo hi lo' BI:Option qd} {len eV jH h l:Nat} (isS:Bool) (hh:tA hi len eV=qc h) (hl:tA lo 0 h=qc l)
 (hc:eV<=jH) (zF:Af m lo lo') (hhi:Af m hi BI) (w:qs):(kaT isS len jH lo' BI qh).run P w=qH (l,h,jH) w:=by
 rcases EG hh hhi with ⟨rfl,rfl⟩|⟨k,n,rfl,h0,h1,rfl⟩<;>rcases EG hl zF with ⟨rfl,rfl⟩|⟨k',n',rfl,h0',h1',rfl⟩;simp [kaT];simp [kaT,kR h0' h1'];have h2:n<=(jH:Int):=Ya
 simp [kaT,kR h0 h2];have h2:n<=(jH:Int):=Ya
 simp [kaT,kR h0 h2,kR h0' h1']
theorem Kb {v:Option qd} {d pn h:Nat} (hb:tA v d pn=qc h):h=d\/h<=pn:=by
 unfold tA at hb;split at hb;injection hb with hb;exact qq hb.symm;split at hb;rename_i hc;injection hb with hb;exact qt Ya
 cases hb;cases hb
theorem LS {P:ql} {m:Mp} {A:AW} {w:qs} (hs:k7 m A w) {t:qr} {x x' v:qd} {lo hi mx lo' BI mx':Option qd} (h:Bx P A t x lo hi mx=qc v)
 (hx:bP m x x') (zF:Af m lo lo') (hhi:Af m hi BI) (hmx:Af m mx mx'):∃v',bP m v v'/\∀w',(kaU t x' lo' BI mx').run P w'=qH v' w':=by
 unfold Bx at h;split at h
 . rename_i e a len eV hu;cases mx' with
   | some _=>exact hmx.elim
   | none=>
   split at h
   . rename_i hh ehi;split at h
     . rename_i l elo;have hlh:l=0\/l<=hh:=Kb elo;have hhc:hh=len\/hh<=eV:=Kb ehi;split at h;rename_i i hi;injection h with h;subst h;cases hx;have hr:=rD (P:=P) (m:=m) qg ehi elo (qZ 0) zF hhi;have h1:hh=0:=Ya;have h2:l=0:=Ya;subst h1;subst h2;refine⟨.slice qh 0 0,.mC,λw'=>?_⟩;simp [kaU,kbo,qp hu,hr,gP hi]
       . rename_i i p hi;split at h
         . rename_i q hq;injection h with h;subst h;cases hx with
           | slice Fg h1 h2=>
             rename_i p' jH;have hr:=rD (P:=P) (m:=m) qg ehi elo h2 zF hhi;refine⟨.slice (qc (if jH=l then p' else p'.add (l*i.size))) (hh-l) (jH-l),?_,λw'=>?_⟩
             rotate_left
             simp only [kaU,Zj,qp hu,Zi,kbo,hr,gP hi,Zu,kaN];split<;>rfl;refine .slice ?_ Ya Ya;by_cases lh:jH=l;refine qt ⟨by omega,by omega,?_⟩;unfold fC at hq;split at hq;injection hq with hq;subst hq;rcases Fg with ⟨_,_,pl,g3,_⟩|⟨_,_,g⟩;exact qt (by rw [g3];exact kbf _);exact g;split at hq;rename_i hg;split at hq;injection hq with hq;subst hq;obtain⟨pl,g7,_⟩:=hs.IC _ _ hg;exact qt (by simp only;rw [g7];exact kbf _);cases hq;cases hq;rw [aw lh];have hsr':DW m p p' jH:=by
              rcases Fg with Fg|Fg;exact Fg;omega
             obtain⟨g1,g2,pl,g3,g4,g5,g6⟩:=hsr';unfold fC at hq;split at hq;rename_i EV;subst EV;injection hq with hq;subst hq;rw [Nat.zero_mul,show p'.add 0=p' by unfold Addr.add;simp];exact qq ⟨g1,g2,pl,g3,g4,g5,by simpa using g6⟩;rename_i EV;split at hq;rename_i i' cs own unit BI hg;rw [hi] at BI;injection BI with BI;subst BI;split at hq;rename_i hun;injection hq with hq;subst hq;obtain⟨pl',g7,jy,e',fr,g8,_,g9,_⟩:=hs.IC _ _ hg;rw [g3] at g7;injection g7 with g7;subst g7;rw [oP _ _ g2];refine qq ⟨rfl,rfl,pl,g3,g4,by simp only [g5,ZD],?_⟩;rw [<-g9,hun] at g6 ⊢;simp only;have:l*i.size+(jH-l)*i.size=jH*i.size:=by
              rw [<-kao];congr 1;omega
             omega;cases hq;cases hq
         cases h
       cases h
     cases h
   cases h
 . rename_i s hu;cases mx' with
   | some _=>exact hmx.elim
   | none=>
   cases hx;split at h;rename_i hh ehi;split at h;rename_i l elo;injection h with h;subst h;have hr:=rD (P:=P) (m:=m) qk ehi elo (qZ _) zF hhi;refine⟨.string (s.extract l hh),.string _,λw'=>?_⟩;simp [kaU,kbo,qp hu,hr];cases h;cases h
 cases h
def Fv (P:ql) (t:qr) (x:qd) (lo hi:Option qd) (mx:qd):Option qd:=
 match P.underlying t,x,lo,hi,mx with
 | some (.slice e),.slice a _ _,qh,qc (.int _ h),.int _ q=>
   match P.info? e with
   | some _=>if h=0/\q=0 then qc (match a with|none=>.slice qh 0 0|some _=>.slice (qc ⟨0,0,qc 0⟩) 0 0) else qh
   | none=>qh
 | _,_,_,_,_=>qh
theorem I4 {P:ql} {m:Mp} {t:qr} {x x' v mx mx':qd} {lo hi lo' BI:Option qd} (h:Fv P t x lo hi mx=qc v)
 (hx:bP m x x') (zF:Af m lo lo') (hhi:Af m hi BI) (hmx:bP m mx mx'):∃v',bP m v v'/\∀w',(kaU t x' lo' BI (qc mx')).run P w'=qH v' w':=by
 unfold Fv at h;split at h<;>try(cases h;done)
 rename_i e a len eV k h0 k' q hu;split at h<;>try(cases h;done)
 rename_i i hi0;split at h<;>try(cases h;done)
 rename_i hc;obtain⟨rfl,rfl⟩:=hc;injection h with h;subst h;cases lo' with
 | some _=>exact zF.elim
 | none=>
 cases BI with
 | none=>exact hhi.elim
 | some hv=>
 have hhi':bP m (.int k 0) hv:=hhi;cases hhi';cases hmx;have hb:∀(jH:Nat) (w':qs),(kaT qg len jH qh (qc (.int k 0)) (qc (.int k' 0))).run P w'=qH (0,0,0) w':=λjH w'=>by
  simp [kaT,kR (P:=P) (w:=w') (k:=k') (n:=0) (y:=jH) (aD:=.slice3Acap) Ya Ya,
   kR (P:=P) (w:=w') (k:=k) (n:=0) (y:=0) (aD:=.slice3B) Ya Ya]
 cases a with
 | none=>
   cases hx;exact⟨.slice qh 0 0,.mC,λw'=>by simp [kaU,kbo,qp hu,hb,gP hi0]⟩
 | some a=>
   cases hx with
   | slice hh h1 h2=>
     rename_i a' jH;exact⟨.slice (qc a') 0 0,.slice (qt ⟨rfl,rfl,qq rfl⟩) (qZ _) (qZ _),λw'=>by simp [kaU,kbo,qp hu,hb,gP hi0]⟩
def Ou (size:Nat):List (Nat×qd)->List qd->Option (List qd)
 | [],cs=>qc cs
 | (i,v)::fE,cs=>if v.cells.size=size/\i*size+size<=cs.length then Ou size fE (fY cs (i*size) v.cells.toList) else qh
def fB (z:List qd):Nat->List qd
 | 0=>[]
 | n+1=>z++fB z n
theorem CD (l:List qd):∀(cs:Array qd) (off k:Nat),off+k+l.length<=cs.size->
 ((l.zipIdx k).foldl (λcs (c,j)=>cs.setIfInBounds (off+j) c) cs).toList=fY cs.toList (off+k) l:=by
 induction l with
 | nil=>intro cs off k _;rfl
 | cons v l ih=>
   intro cs off k h;simp only [List.zipIdx_cons,List.foldl_cons,fY];rw [ih _ off (k+1) (by simp at h ⊢;omega)];simp [ZD]
theorem wm {m:Mp}:∀(l l':List qd) (off:Nat) (cs uP:List qd),jB m cs uP->jB m l l'->off+l.length<=cs.length->
 jB m (fY cs off l) (fY uP off l')
 | [],l',off,cs,uP,h,hl,_=>by
   have e:=hl.sj;subst e;exact h
 | v::l,l',off,cs,uP,h,hl,fA=>by
   obtain⟨v',t',rfl,hv,ht⟩:=hl.nj;simp only [Zy] at fA;refine wm l t' (off+1) _ _ ⟨by simp [h.1],λi x x' h1 h2=>?_⟩ ht Yg;by_cases hi:off=i;subst hi;rw [ZV Ya] at h1;rw [ZV (by rw [<-h.1];omega)] at h2;injection h1 with h1;injection h2 with h2;subst h1;subst h2;exact hv;rw [Z6 hi] at h1 h2;exact h.2 i x x' h1 h2
theorem Ew {m:Mp} {size:Nat}:∀(lE iP:List (Nat×qd)) (cs r:List qd) (uP:Array qd),Ou size lE cs=qc r->jB m cs uP.toList->
 lE.length=iP.length->(∀(k:Nat) (p p':Nat×qd),lE[k]? = qc p->iP[k]? = qc p'->p.1=p'.1/\bP m p.2 p'.2)->
 ∃r',ka9 (λi=>qc (i*size,size)) uP iP=qc r'/\jB m r r'.toList
 | [],iP,cs,r,uP,h,hc,hl,_=>by
   cases iP with
   | cons _ _=>simp at hl
   | nil=>
     injection h with h;subst h;exact⟨uP,rfl,hc⟩
 | (i,v)::fE,iP,cs,r,uP,h,hc,hl,hp=>by
   cases iP with
   | nil=>simp at hl
   | cons p' rest'=>
     obtain⟨i',v'⟩:=p';obtain⟨h1,h2⟩:=hp 0 _ _ rfl rfl;simp only at h1 h2;subst h1;unfold Ou at h;split at h;rename_i CA;obtain⟨hz,fA⟩:=CA;have lh:=h2.cells;have hz':v'.cells.size=size:=by have:=lh.1;simp at this;omega
     have xQ:uP.size=cs.length:=by have:=hc.1;simp at this;omega
     have Wn:=CD v'.cells.toList uP (i*size) 0 Yg;obtain⟨r',h3,h4⟩:=Ew fE rest' _ r (v'.cells.zipIdx.foldl (λcs (c,j)=>cs.setIfInBounds (i*size+j) c) uP) h (by
      rw [<-kbY,Array.toList_zipIdx,Wn];exact wm _ _ _ _ _ hc lh Yg) Yt (λk p p' a b=>hp (k+1) p p' YV Yq)
     refine⟨r',?_,h4⟩;simp only [ka9,hz',ne_eq,not_true_eq_false,decide_false,Bool.false_or,xQ,decide_eq_true_eq];rw [aw Ya];exact h3;cases h
theorem kw (z:List qd) (n:Nat):(fB z n).length=n*z.length:=by
 induction n with
 | zero=>simp [fB]
 | succ n ih=>simp [fB,ih,kao];omega
theorem QG (z:List qd) (n j:Nat) (h:j<n*z.length):(fB z n)[j]? = z[j % z.length]?:=by
 induction n generalizing j with
 | zero=>simp at h
 | succ n ih=>
   simp only [fB];by_cases hj:j<z.length;rw [kaf hj,Nat.mod_eq_of_lt hj];rw [kaX Ya,ih _ (by simp [kao] at h;omega)];rw [Nat.mod_eq_sub_mod (by omega:z.length<=j)]
theorem uu (z:Array qd) (n:Nat) (h:0<z.size):((kaJ (n*z.size)).map (λj=>z[j % z.size]!)).toList=fB z.toList n:=by
 apply List.ext_getElem?;intro j;by_cases hj:j<n*z.size;rw [QG _ _ _ (by simpa using hj)];have hm:j % z.size<z.size:=Nat.mod_lt _ h;simp [hj,hm];rw [Zx Yg,Zx (by rw [kw];simp;omega)]
def gg:qd->Bool
 | .bool _ | .int _ _ | .float _ _ | .complex _ _ _ | .string _ | .pointer qh | .slice qh 0 0 | .map qh | .chan qh | .nilFunc | .nilIface=>qg
 | _=>qk
def zI:qd->Bool
 | .agg cs=>cs.all gg
 | .tuple cs=>cs.all gg
 | v=>gg v
theorem bP.kS {v:qd} (h:gg v=qg) (m:Mp):bP m v v:=by
 unfold gg at h;split at h<;>first|(cases h;done)|constructor
theorem bP.zp {v:qd} (h:zI v=qg) (m:Mp):bP m v v:=by
 unfold zI at h;split at h;refine .agg rfl λi v v' h1 h2=>?_;rw [h1] at h2;injection h2 with h2;subst h2;exact .kS (kaz.1 h _ (kaA h1)) m;refine .tuple rfl λi v v' h1 h2=>?_;rw [h1] at h2;injection h2 with h2;subst h2;exact .kS (kaz.1 h _ (kaA h1)) m;exact .kS h m
theorem jB.pC {l:List qd} (h:l.all gg=qg) (m:Mp):jB m l l:=
 ⟨rfl,λi v v' h1 h2=>by
  rw [h1] at h2;injection h2 with h2;subst h2;exact .kS (Zr.1 h _ (kaC h1)) m⟩
theorem pX {z:List qd} (h:z.all gg=qg) (n:Nat):(fB z n).all gg=qg:=by
 induction n with
 | zero=>rfl
 | succ n ih=>simp only [fB,List.all_append,h,ih,Bool.and_self]
def uv (P:ql) (A:AW) (t:qr) (len:Nat) (lE:List (Nat×qd)):Option (qd×AW):=
 match P.underlying t with
 | some (.slice e)=>
   match P.info? e with
   | some i=>
     match i.zero with
     | some z=>
       if z.cells.size=i.size/\0<i.size/\len*i.size<=2 ^ 24/\z.cells.toList.all gg then
        match Ou i.size lE (fB z.cells.toList len) with
        | some cs=>qc (.slice (qc ⟨A.next,0,qh⟩) len len,A.alloc (.cells cs qg i.size))
        | none=>qh
       else qh
     | none=>qh
   | none=>qh
 | _=>qh
theorem JU (size:Nat):∀(lE:List (Nat×qd)) (cs r:Array qd),ka9 (λi=>qc (i*size,size)) cs lE=qc r->r.size=cs.size
 | [],cs,r,h=>by injection h with h;subst h;rfl
 | (i,v)::fE,cs,r,h=>by
   unfold ka9 at h;simp only at h;split at h;cases h;rw [JU size fE _ r h];have:∀(l:List (qd×Nat)) (cs:Array qd),(l.foldl (λcs (c,j)=>cs.setIfInBounds (i*size+j) c) cs).size=cs.size:=by
    intro l
    induction l with
    | nil=>intro cs;rfl
    | cons x l ih=>intro cs;simp [List.foldl_cons,ih]
   rw [<-kbY];exact this _ _
theorem C1 {P:ql} {m:Mp} {A A1:AW} {w:qs} (hs:k7 m A w) {t:qr} {len:Nat} {lE:List (Nat×qd)} {iP:Array (Nat×qd)} {v:qd}
 (h:uv P A t len lE=qc (v,A1)) (hl:lE.length=iP.size)
 (hp:∀(k:Nat) (p p':Nat×qd),lE[k]? = qc p->iP[k]? = qc p'->p.1=p'.1/\bP m p.2 p'.2) :
 ∃v' w' m',(Instr.buildSlice t len iP).run P w=qH v' w'/\lb m A w m' A1 w'/\bP m' v v':=by
 unfold uv at h;split at h<;>try(cases h;done)
 rename_i e hu;split at h<;>try(cases h;done)
 rename_i i hi;split at h<;>try(cases h;done)
 rename_i z hz;split at h<;>try(cases h;done)
 rename_i hc;obtain⟨pq,h0,h24,jn⟩:=hc;split at h<;>try(cases h;done)
 rename_i cs hputs;simp only [Zh,ZE] at h;obtain⟨rfl,rfl⟩:=h;have VW:=uu z.cells len Ya;rw [pq] at VW
 obtain⟨r',h1,h2⟩:=Ew (m:=m) lE iP.toList _ cs ((kaJ (len*i.size)).map (λj=>z.cells[j % i.size]!)) hputs
  (by rw [VW];exact .pC (pX jn len) m) Yt (λk p p' a b=>hp k p p' a Yq)
 have Uj:r'.size=len*i.size:=by rw [JU _ _ _ _ h1];simp
 obtain⟨w',m',h3,h4,h5⟩:=wQ (P:=P) hs e i.size h2;refine⟨.slice (qc ⟨w.heap.size,0,qh⟩) len len,w',m',?_,h4,?_⟩;simp only [Instr.buildSlice,Zj,qp hu,Zi,gP hi];rw [aw Ya];by_cases EV:len*i.size=0;rw [ay EV];have hfun:((kaJ (len*i.size)).map λj=>(#[]:Array qd)[j % (#[]:Array qd).size]!)=(kaJ (len*i.size)).map (λj=>z.cells[j % i.size]!):=by
  simp [EV]
 simp only [Zj,Zu,Zi,hfun,h1,h3];rw [aw EV];have Th:(qI e).run P w=qH z w:=by simp [qI,qN,hi,hz]
 simp only [Zj,Zu,Zi,Th,pq,h1,h3];refine .slice (qq ⟨rfl,rfl,⟨w.heap.size,0,i.size,r'.size⟩,by rw [h5];simp [Mp.ext],rfl,rfl,?_⟩) (qZ _) (qZ _);show 0+len*i.size<=r'.size;omega
end Go.Stx
namespace Go.Stx
open Go
variable [Gl]
theorem Jt {P:ql} {w:qs} {k:qw} {n:Int}:(asInt (.int k n)).run P w=qH n w:=by simp [asInt,asIntOf]
theorem af {x:Int} (h0:-9223372036854775808<=x) (h1:x<=9223372036854775807):qY.wrap x=x:=by
 simp only [IntKind.wrap,IntKind.bits,kbj,Bool.true_and];split;rename_i h;have:=of_decide_eq_true h;omega;rename_i h;have:=of_decide_eq_false (eq_false_of_ne_true h);omega
theorem an {x:Int} (h0:0<=x) (h1:x<18446744073709551616):IntKind.u64.wrap x=x:=by
 simp only [IntKind.wrap,IntKind.bits,kbj,Bool.false_and,Zg,if_false];omega
def pw (P:ql) (A:AW) (t:qr) (l c:qd):Option (qd×AW):=
 match P.underlying t,l,c with
 | some (.slice e),.int _ l,.int _ c=>
   match P.info? e with
   | some i=>
     match i.zero with
     | some z=>
       if z.cells.size=i.size/\0<i.size/\z.cells.toList.all gg/\0<=l/\l<=c/\c<=140737488355328/\c*i.bytes<=140737488355328 then
        qc (.slice (qc ⟨A.next,0,qh⟩) l.toNat c.toNat,A.alloc (.cells (fB z.cells.toList c.toNat) qg i.size))
       else qh
     | none=>qh
   | none=>qh
 | _,_,_=>qh
theorem Oz {P:ql} {m:Mp} {A A1:AW} {w:qs} (hs:k7 m A w) {t:qr} {l c l' c' v:qd} (h:pw P A t l c=qc (v,A1)) (hl:bP m l l') (hc:bP m c c') :
 ∃v' w' m',(Instr.makeSlice t l' c').run P w=qH v' w'/\lb m A w m' A1 w'/\bP m' v v':=by
 unfold pw at h;split at h<;>try(cases h;done)
 rename_i e k n k' q hu;cases hl;cases hc;split at h<;>try(cases h;done)
 rename_i i hi;split at h<;>try(cases h;done)
 rename_i z hz;split at h<;>try(cases h;done)
 rename_i CA;obtain⟨pq,h0,jn,GR,hnq,hq,hqb⟩:=CA;simp only [Zh,ZE] at h;obtain⟨rfl,rfl⟩:=h;have VW:=uu z.cells q.toNat Ya;rw [pq] at VW;obtain⟨w',m',h3,h4,h5⟩:=wQ (P:=P) hs e i.size (jy:=(kaJ (q.toNat*i.size)).map (λj=>z.cells[j % i.size]!)) (by rw [VW];exact .pC (pX jn q.toNat) m);have iZ:qY.wrap n=n:=af Ya Ya;have jE:qY.wrap q=q:=af Ya Ya;refine⟨.slice (qc ⟨w.heap.size,0,qh⟩) n.toNat q.toNat,w',m',?_,h4,?_⟩;have hty:(qN e).run P w=qH i w:=by simp [qN,hi]
 have hb:(i.bytes:Int)*q<=140737488355328:=by rw [Int.mul_comm];exact hqb
 have c1:(decide (q<0) || decide ((i.bytes:Int)*q>2 ^ 48))=qk:=by
  simp only [Bool.or_eq_false_iff,decide_eq_false_iff_not];constructor<;>omega
 simp only [Instr.makeSlice,Zj,qp hu,Zi,Jt,hty,iZ,jE,c1];rw [aw Yg];simp only [Zj,run_askRoom,Zi,gP hi];by_cases hn:q.toNat*i.size=0;rw [ay hn];have hfun:((kaJ (q.toNat*i.size)).map λj=>(#[]:Array qd)[j % (#[]:Array qd).size]!)=(kaJ (q.toNat*i.size)).map (λj=>z.cells[j % i.size]!):=by
  simp [hn]
 simp only [Zj,Zu,Zi,hfun,h3];rw [aw hn];have Th:(qI e).run P w=qH z w:=by simp [qI,qN,hi,hz]
 simp only [Zj,Zu,Zi,Th,pq,h3];refine .slice (qq ⟨rfl,rfl,⟨w.heap.size,0,i.size,((kaJ (q.toNat*i.size)).map (λj=>z.cells[j % i.size]!)).size⟩,by rw [h5];simp [Mp.ext],rfl,rfl,?_⟩) Ya (qZ _);show 0+q.toNat*i.size<=((kaJ (q.toNat*i.size)).map (λj=>z.cells[j % i.size]!)).size;simp
def Mc (P:ql) (A:AW) (t:qr):Option (qd×AW):=
 match P.info? t with
 | some i=>
   match i.zero with
   | some z=>if zI z then qc (aal A z) else qh
   | none=>qh
 | none=>qh
theorem Mb {P:ql} {m:Mp} {A A1:AW} {w:qs} (hs:k7 m A w) {t:qr} {v:qd} (h:Mc P A t=qc (v,A1)) :
 ∃v' w' m',(Instr.alloc t qg (.tuple #[])).run P w=qH v' w'/\lb m A w m' A1 w'/\bP m' v v':=by
 unfold Mc at h;split at h<;>try(cases h;done)
 rename_i i hi;split at h<;>try(cases h;done)
 rename_i z hz;split at h<;>try(cases h;done)
 rename_i hg;injection h with h;obtain⟨p',w',m',h1,h2,h3⟩:=HO (P:=P) hs t (bP.zp hg m);rw [h] at h2 h3;refine⟨p',w',m',?_,h2,h3⟩;have Th:(qI t).run P w=qH z w:=by simp [qI,qN,hi,hz]
 simp only [Instr.alloc,Zj,Th,Zi];exact h1
def DP (M7:Nat->Option (Nat×Nat)):List (Nat×qd)->List qd->Option (List qd)
 | [],cs=>qc cs
 | (i,v)::fE,cs=>
   match M7 i with
   | some (off,size)=>if v.cells.size=size/\off+size<=cs.length then DP M7 fE (fY cs off v.cells.toList) else qh
   | none=>qh
theorem xf {m:Mp} {M7:Nat->Option (Nat×Nat)}:∀(lE iP:List (Nat×qd)) (cs r:List qd) (uP:Array qd),DP M7 lE cs=qc r->jB m cs uP.toList->
 lE.length=iP.length->(∀(k:Nat) (p p':Nat×qd),lE[k]? = qc p->iP[k]? = qc p'->p.1=p'.1/\bP m p.2 p'.2)->
 ∃r',ka9 M7 uP iP=qc r'/\jB m r r'.toList
 | [],iP,cs,r,uP,h,hc,hl,_=>by
   cases iP with
   | cons _ _=>simp at hl
   | nil=>
     injection h with h;subst h;exact⟨uP,rfl,hc⟩
 | (i,v)::fE,iP,cs,r,uP,h,hc,hl,hp=>by
   cases iP with
   | nil=>simp at hl
   | cons p' rest'=>
     obtain⟨i',v'⟩:=p';obtain⟨h1,h2⟩:=hp 0 _ _ rfl rfl;simp only at h1 h2;subst h1;unfold DP at h;split at h;rename_i off size mV;split at h;rename_i CA;obtain⟨hz,fA⟩:=CA;have lh:=h2.cells;have hz':v'.cells.size=size:=by have:=lh.1;simp at this;omega
     have xQ:uP.size=cs.length:=by have:=hc.1;simp at this;omega
     have Wn:=CD v'.cells.toList uP off 0 Yg;obtain⟨r',h3,h4⟩:=xf fE rest' _ r (v'.cells.zipIdx.foldl (λcs (c,j)=>cs.setIfInBounds (off+j) c) uP) h (by
      rw [<-kbY,Array.toList_zipIdx,Wn];exact wm _ _ _ _ _ hc lh Yg) Yt (λk p p' a b=>hp (k+1) p p' YV Yq)
     refine⟨r',?_,h4⟩;simp only [ka9,mV,hz',ne_eq,not_true_eq_false,decide_false,Bool.false_or,xQ,decide_eq_true_eq];rw [aw Ya];exact h3;cases h;cases h
def CP (P:ql) (fs:List Field):Option (List (Nat×Nat)):=
 match fs with
 | []=>qc []
 | f::r=>
   match P.info? f.type,CP P r with
   | some i,qc l=>qc ((f.offset,i.size)::l)
   | _,_=>qh
theorem Ez {P:ql} {w:qs}:∀(fs:List Field) (l:List (Nat×Nat)),CP P fs=qc l->
 (fs.mapM λf=>(do pure (f.offset,<-sizeOf f.type):Sem (Nat×Nat))).run P w=qH l w
 | [],l,h=>by injection h with h;subst h;rfl
 | f::r,l,h=>by
   unfold CP at h;split at h;rename_i i l' hi hl;injection h with h;subst h;simp only [List.mapM_cons,Zj,gP hi,Zi,Zu,Ez r l' hl];cases h
theorem ya {P:ql} {w w':qs} {α β:Type} (f:α->Sem β) (l:Array α) (r:List β) (h:(l.toList.mapM f).run P w=qH r w') :
 (l.mapM f).run P w=qH r.toArray w':=by
 rw [Array.mapM_eq_mapM_toList];simp only [Sem.run_map,h,Zi]
def Ma (P:ql) (t:qr) (lE:List (Nat×qd)):Option qd:=
 match P.info? t with
 | some i=>
   match i.zero with
   | some z=>
     if z.cells.toList.all gg then
      match P.underlying t with
      | some (.struct fs)=>
        match CP P fs.toList with
        | some l=>
          match DP (λk=>l[k]?) lE z.cells.toList with
          | some cs=>qc (.agg cs.toArray)
          | none=>qh
        | none=>qh
      | some (.array _ e)=>
        match P.info? e with
        | some ie=>
          match DP (λk=>qc (k*ie.size,ie.size)) lE z.cells.toList with
          | some cs=>qc (.agg cs.toArray)
          | none=>qh
        | none=>qh
      | _=>qh
     else qh
   | none=>qh
 | none=>qh
theorem L9 {P:ql} {m:Mp} {t:qr} {lE:List (Nat×qd)} {iP:Array (Nat×qd)} {v:qd}
 (h:Ma P t lE=qc v) (hl:lE.length=iP.size)
 (hp:∀(k:Nat) (p p':Nat×qd),lE[k]? = qc p->iP[k]? = qc p'->p.1=p'.1/\bP m p.2 p'.2) :
 ∃v',bP m v v'/\∀w,(Instr.build t iP).run P w=qH v' w:=by
 unfold Ma at h;split at h<;>try(cases h;done)
 rename_i i hi;split at h<;>try(cases h;done)
 rename_i z hz;split at h<;>try(cases h;done)
 rename_i jn;have Th:∀w,(qI t).run P w=qH z w:=λw=>by simp [qI,qN,hi,hz]
 split at h<;>try(cases h;done)
 . rename_i fs hu;split at h<;>try(cases h;done)
   rename_i l mV;split at h<;>try(cases h;done)
   rename_i cs hcs;injection h with h;subst h;obtain⟨r',h1,h2⟩:=xf (m:=m) lE iP.toList _ cs z.cells hcs (.pC jn m) Yt (λk p p' a b=>hp k p p' a Yq);refine⟨.agg r',?_,λw=>?_⟩;have:=bP.tY h2
   simpa using this
   have hm:=ya _ fs l (Ez (w:=w) fs.toList l mV);simp only [Instr.build,Zj,Th,Zi,qp hu,hm];have e:(λ(x:Nat)=>l.toArray[x]?)=fun(k:Nat)=>l[k]?:=by funext k;simp
   rw [e,h1];rfl
 rename_i n e hu;split at h<;>try(cases h;done)
 rename_i ie Lu;split at h<;>try(cases h;done)
 rename_i cs hcs;injection h with h;subst h;obtain⟨r',h1,h2⟩:=xf (m:=m) lE iP.toList _ cs z.cells hcs (.pC jn m) Yt (λk p p' a b=>hp k p p' a Yq);refine⟨.agg r',?_,λw=>?_⟩;have:=bP.tY h2
 simpa using this
 simp only [Instr.build,Zj,Th,Zi,qp hu,gP Lu,h1,Zu]
def oO (P:ql) (t:qr) (x:qd):Option qd:=
 match P.underlying t,x with
 | some .string,.string s=>qc (.int .i64 s.size)
 | some (.slice _),.slice _ n _=>qc (.int .i64 n)
 | some (.array n _),_=>qc (.int .i64 n)
 | _,_=>qh
theorem QY {P:ql} {m:Mp} {t ty:qr} {x x' v:qd} (h:oO P t x=qc v) (hx:bP m x x') :
 bP m v v/\∀w,(kbK #[t] ty #[x']).run P w=qH v w:=by
 unfold oO at h;split at h;rename_i s hu;injection h with h;subst h;cases hx
 exact⟨by constructor,λw=>by simp [kbK,qp hu,goInt]⟩;rename_i e a n c hu;injection h with h;subst h
 cases hx<;>exact⟨by constructor,λw=>by simp [kbK,qp hu,goInt]⟩;rename_i n e hu;injection h with h;subst h
 exact⟨by constructor,λw=>by simp [kbK,qp hu,goInt]⟩;cases h
def aag (mx:Bool):List qd->Option qd
 | [.int k a,.int k' b]=>if k=k' then qc (.int k (if mx then (if a<b then b else a) else (if b<a then b else a))) else qh
 | _=>qh
theorem HG {P:ql} {m:Mp} {ts:Array qr} {ty:qr} {mx:Bool} {l:List qd} {l':Array qd} {v:qd} (h:aag mx l=qc v) (hl:jB m l l'.toList) :
 bP m v v/\∀w,((if mx then Builtin.max_ ts ty l' else Builtin.min_ ts ty l')).run P w=qH v w:=by
 unfold aag at h;split at h;rename_i k a k' b;obtain⟨x',t',e1,h1,h2⟩:=hl.nj;obtain⟨y',t'',e2,h3,h4⟩:=h2.nj;have e3:=h4.sj;cases h1;cases h3;subst e3;subst e2;have hl':l' = #[.int k a,.int k' b]:=by apply Array.ext';exact e1
 subst hl';split at h;injection h with h;subst h;cases mx;exact⟨by constructor,λw=>by simp [Builtin.min_,Builtin.min2]⟩;refine⟨by constructor,λw=>?_⟩;simp [Builtin.max_,Builtin.max2];cases h;cases h
def xg (P:ql) (t:qr) (x:qd):Option qd:=
 match P.underlying t with
 | some (qU _)=>qh
 | some _=>qc (.iface t x)
 | none=>qh
theorem DQ {P:ql} {m:Mp} {t:qr} {x x' v:qd} (h:xg P t x=qc v) (hx:bP m x x') :
 ∃v',bP m v v'/\∀w,(Instr.makeInterface t x').run P w=qH v' w:=by
 unfold xg at h;cases hu:P.underlying t with
 | none=>simp [hu] at h
 | some d=>
   rw [hu] at h
   cases d<;>simp only [Zh] at h<;>(try (cases h;done))<;>subst h <;>
    exact⟨.iface t x',.iface t hx,λw=>by simp [Instr.makeInterface,qp hu]⟩
end Go.Stx
namespace Go.Stx
open Go
variable [Gl]
open Go.MapKept (run_findKey)
def nN:qO->Bool
 | .int _=>qg
 | .string=>qg
 | _=>qk
def rg (d:qO) (k:qd):List (qd×qd)->Bool
 | []=>qg
 | e::es=>
   match kab d k e.1 with
   | some qk=>rg d k es
   | _=>qk
def fw (d:qO) (k:qd):List (qd×qd)->Nat->Option (Option (Nat×qd))
 | [],_=>qc qh
 | e::es,i=>
   match kab d k e.1 with
   | some qg=>match rg d k es with|true=>qc (qc (i,e.2))|false=>qh
   | some qk=>fw d k es (i+1)
   | none=>qh
theorem wO {d:qO} {k:qd}:∀{es:List (qd×qd)},rg d k es=qg↔∀x∈es,kab d k x.1=qc qk
 | []=>by simp [rg]
 | e::es=>by
   unfold rg;split;rename_i h;rw [wO];simp [h];rename_i h;simp only [Zg,false_iff];intro hx;exact h (hx e Yb)
theorem uT {d:qO} {k:qd}:∀{es:List (qd×qd)} {n:Nat},fw d k es n=qc qh↔∀x∈es,kab d k x.1=qc qk
 | [],n=>by simp [fw]
 | e::es,n=>by
   unfold fw;split;rename_i h;constructor;intro h1;split at h1<;>cases h1;intro h1;have:=h1 e Yb;rw [h] at this;cases this;rename_i h;rw [uT];simp [h];rename_i h;constructor;intro h1;cases h1;intro h1;have:=h1 e Yb;rw [h] at this;cases this
theorem pY {d:qO} {k v:qd}:∀{es:List (qd×qd)} {n m:Nat},fw d k es n=qc (qc (m,v)) ↔
 ∃l x r,es=l++x::r/\m=n+l.length/\x.2=v/\kab d k x.1=qc qg/\∀y∈l++r,kab d k y.1=qc qk
 | [],n,m=>by
   constructor;intro h;cases h;rintro ⟨l,x,r,h,_⟩;cases l<;>cases h
 | e::es,n,m=>by
   unfold fw;constructor;intro h;split at h;rename_i h1;split at h;rename_i h2;simp only [Zh,ZE] at h;exact⟨[],e,es,rfl,by simp [h.1],h.2,h1,wO.1 h2⟩;cases h;rename_i h1;obtain⟨l,x,r,rfl,rfl,h3,h4,h5⟩:=pY.1 h;refine⟨e::l,x,r,rfl,by simp;omega,h3,h4,λy hy=>?_⟩;simp only [aa,List.mem_cons] at hy;rcases hy with rfl|hy;exact h1;exact h5 y hy;cases h;rintro ⟨l,x,r,h,rfl,h3,h4,h5⟩;cases l with
   | nil=>
     simp only [ah,List.cons.injEq] at h;obtain⟨rfl,rfl⟩:=h;rw [h4];simp only;rw [wO.2 YW];simp [h3]
   | cons y l=>
     simp only [aa,List.cons.injEq] at h;obtain⟨rfl,rfl⟩:=h;rw [h5 e Yb];simp only;rw [pY];exact⟨l,x,r,rfl,by simp;omega,h3,h4,λz hz=>h5 z (by simp only [aa,List.mem_cons];exact qt hz)⟩
theorem tx {d:qO} {k:qd} {es Bp:List (qd×qd)} (hp:es.Perm Bp) (h:fw d k es 0=qc qh):fw d k Bp 0=qc qh:=
 uT.2 λx hx=>uT.1 h x (hp.mem_iff.2 hx)
theorem AG {d:qO} {k v:qd} {es Bp:List (qd×qd)} (hp:es.Perm Bp) {i:Nat} (h:fw d k es 0=qc (qc (i,v))) :
 ∃i',fw d k Bp 0=qc (qc (i',v))/\∀y,(es.set i y).Perm (Bp.set i' y):=by
 obtain⟨l,x,r,rfl,rfl,h3,h4,h5⟩:=pY.1 h;obtain⟨l',r',rfl⟩:=List.append_of_mem (hp.mem_iff.1 (show x∈l++x::r by simp));have IS:(l++r).Perm (l'++r'):=(kbz.symm.trans (hp.trans kbz)).cons_inv;refine⟨0+l'.length,pY.2 ⟨l',x,r',rfl,rfl,h3,h4,λy hy=>h5 y (IS.mem_iff.2 hy)⟩,λy=>?_⟩;have e1:∀(a b:List (qd×qd)),(a++x::b).set (0+a.length) y=a++y::b:=λa b=>by simp
 rw [e1,e1];exact kbz.trans ((IS.cons y).trans kbz.symm)
theorem D6 {m:Mp} {d:qO} {a a' b b':qd} {r:Bool} (h:kab d a b=qc r) (ha:bP m a a') (hb:bP m b b'):kab d a' b'=qc r:=by
 unfold kab at h;split at h;cases ha;cases hb;exact h;cases ha;cases hb;exact h;cases ha;cases hb;exact h;cases h
theorem KI {d:qO} {a b:qd} (h:kab d a b=qc qg):kb3 10000 b a=qg:=by
 unfold kab at h;split at h;rename_i k x k' y;split at h;rename_i e;subst e;simp only [Zh,beq_iff_eq] at h;subst h;simp [kb3];cases h;rename_i x y;simp only [Zh] at h;have e:x.data=y.data:=eq_of_beq (show (x.data == y.data)=qg from h);show (y.data == x.data)=qg;rw [e];exact beq_self_eq_true _;simp only [Zh] at h;have:=LawfulBEq.eq_of_beq h;subst this;simp [kb3];cases h
theorem nu {m:Mp} {d:qO} {k k':qd} (hk:bP m k k'):∀(es:List (qd×qd)) (mf:List MapEntry) (i:Nat) (r:Option (Nat×qd)),
 es.length=mf.length->(∀(j:Nat) (x:qd×qd) (e:MapEntry),es[j]? = qc x->mf[j]? = qc e->bP m x.1 e.key/\bP m x.2 e.val)->
 fw d k es i=qc r->∃r',kbI d k' mf i=qc r'/\
  ((r=qh/\r'=qh)\/∃j v v' e,r=qc (i+j,v)/\r'=qc (i+j,v')/\bP m v v'/\mf[j]? = qc e/\kab d k' e.key=qc qg)
 | [],mf,i,r,hl,_,h=>by
   cases mf with
   | cons _ _=>simp at hl
   | nil=>injection h with h;subst h;exact⟨qh,rfl,qq ⟨rfl,rfl⟩⟩
 | x::es,mf,i,r,hl,hr,h=>by
   cases mf with
   | nil=>simp at hl
   | cons e mf=>
     obtain⟨h1,h2⟩:=hr 0 x e rfl rfl;unfold fw at h;split at h
     . rename_i hs;split at h<;>try(cases h;done)
       injection h with h;subst h;have Tj:=D6 hs hk h1;exact⟨qc (i,e.val),by simp [kbI,Tj],qt ⟨0,x.2,e.val,e,rfl,rfl,h2,rfl,Tj⟩⟩
     rename_i hs;have Tj:=D6 hs hk h1;obtain⟨r',h3,h4⟩:=nu hk es mf (i+1) r Yt (λj y f a b=>hr (j+1) y f YV Yq) h;refine⟨r',by simp [kbI,Tj,h3],?_⟩;rcases h4 with h4|⟨j,v,v',e',h5,h6,h7,h8,h9⟩;exact qq h4;refine qt ⟨j+1,v,v',e',?_,?_,h7,by simpa using h8,h9⟩;rw [h5,show i+1+j=i+(j+1) by omega];rw [h6,show i+1+j=i+(j+1) by omega];cases h
theorem Iv {P:ql} {w:qs} {kt:qr} {d:qO} {k:qd} (hd:P.underlying kt=qc d) (hk:nN d=qg) (e:Bool) (n:Nat) :
 (kb4 e (n+1) kt k).run P w=qH () w:=by
 have:d=.string\/∃i,d=.int i:=by
  unfold nN at hk;split at hk;exact qt ⟨_,rfl⟩;exact qq rfl;cases hk
 unfold kb4;rw [Zj,qp hd];rcases this with rfl|⟨i,rfl⟩<;>rfl
theorem m9 {P:ql} {w:qs} {kt:qr} {d:qO} {k:qd} (hd:P.underlying kt=qc d) (hk:nN d=qg) (e:Bool) :
 (kb4 e 10000 kt k).run P w=qH () w:=Iv hd hk e 9999
def yV (P:ql) (e:qr) (CK:Bool):Option qd:=
 match P.info? e with
 | some i=>
   match i.zero with
   | some z=>if zI z then (if CK then (if gg z then qc (.tuple #[z,.bool qk]) else qh) else qc z) else qh
   | none=>qh
 | none=>qh
def CT (P:ql) (A:AW) (t:qr) (x ix:qd) (CK:Bool):Option qd:=
 match P.underlying t with
 | some (.map kt e)=>
   match P.underlying kt with
   | some d=>
     if nN d then
      match x with
      | .map qh=>yV P e CK
      | .map (qc r)=>
        match A.bk r with
        | some (.map es _)=>
          match fw d ix es 0 with
          | some (qc (_,v))=>qc (if CK then .tuple #[v,.bool qg] else v)
          | some qh=>yV P e CK
          | none=>qh
        | _=>qh
      | _=>qh
     else qh
   | none=>qh
 | _=>qh
theorem AE {P:ql} {e:qr} {c:Bool} {v:qd} (h:yV P e c=qc v) (m:Mp) :
 bP m v v/\∃z,v=(if c then .tuple #[z,.bool qk] else z)/\∀w,(qI e).run P w=qH z w:=by
 unfold yV at h;split at h<;>try(cases h;done)
 rename_i i hi;split at h<;>try(cases h;done)
 rename_i z hz;split at h<;>try(cases h;done)
 rename_i hg;have Th:∀w,(qI e).run P w=qH z w:=λw=>by simp [qI,qN,hi,hz]
 cases c;simp only [Zg,if_false,Zh] at h;subst h;exact⟨.zp hg m,z,rfl,Th⟩;simp only [if_true] at h;split at h<;>try(cases h;done)
 rename_i hs;injection h with h;subst h;exact⟨.zp (v:=.tuple #[z,.bool qk]) (show (#[z,Value.bool qk]:Array qd).all gg=qg by simp [hs];rfl) m,z,rfl,Th⟩
theorem bP.pair {m:Mp} {a a' b b':qd} (h:bP m a a') (k:bP m b b'):bP m (.tuple #[a,b]) (.tuple #[a',b']):=by
 refine .tuple rfl λi v v' h1 h2=>?_
 match i with
 | 0=>simp at h1 h2;subst h1;subst h2;exact h
 | 1=>simp at h1 h2;subst h1;subst h2;exact k
 | i+2=>simp at h1
theorem I9 {P:ql} {m:Mp} {A:AW} {w:qs} (hs:k7 m A w) {t:qr} {x x' ix ix' v:qd} {c:Bool} (h:CT P A t x ix c=qc v)
 (hx:bP m x x') (hix:bP m ix ix'):∃v',bP m v v'/\∀w',(∀b,b<w.heap.size->w'.heap[b]? = w.heap[b]?)->(kbL t x' ix' c).run P w'=qH v' w':=by
 unfold CT at h;split at h<;>try(cases h;done)
 rename_i kt e hu;split at h<;>try(cases h;done)
 rename_i d hd;split at h<;>try(cases h;done)
 rename_i xz;split at h<;>try(cases h;done)
 cases hx;obtain⟨h1,z,rfl,h2⟩:=AE h m;refine⟨_,h1,λw' _=>?_⟩;simp only [kbL,Zj,qp hu,Zi,Zu,m9 hd xz,run_findKey hd (l:=(#[]:Array MapEntry).toList) (k:=ix') (a:=qh) (show kbI d ix' [] 0=qc qh from rfl),h2];rename_i r;split at h<;>try(cases h;done)
 rename_i es own hg;obtain⟨p,hp,mf,aC,Bp,hpm,hh,hl,yr⟩:=hs.IC _ _ hg;cases hx with
 | map hx=>
   rename_i r';obtain⟨p',Wa,rfl⟩:=hx;rw [hp] at Wa;injection Wa with Wa;subst Wa;have hb:p.block<w.heap.size:=(Zf.1 hh).1;split at h;rename_i i v0 hf0;obtain⟨i',hf,_⟩:=AG hpm hf0;obtain⟨r',h3,h4⟩:=nu hix Bp mf.toList 0 _ Yt (λj y f a b=>yr j y f a Yq) hf;rcases h4 with ⟨h4,_⟩|⟨j,v1,v',e',h5,rfl,h7,_,_⟩;cases h4;injection h5 with h5;injection h5 with h5 h6;subst h6;injection h with h;subst h;refine⟨if c then .tuple #[v',.bool qg] else v',?_,λw' he=>?_⟩;cases c;exact h7;exact .pair h7 (.bool qg);have hh':w'.heap[p.block]? = qc (.map mf aC):=(by rw [he _ hb];exact hh);simp only [kbL,Zj,qp hu,Zi,Zu,kbt hh',m9 hd xz,run_findKey hd h3];rename_i hf0;have hf:=tx hpm hf0;obtain⟨r',h3,h4⟩:=nu hix Bp mf.toList 0 _ Yt (λj y f a b=>yr j y f a Yq) hf
   rcases h4 with ⟨_,rfl⟩|⟨j,v1,v',e',h5,_⟩;obtain⟨h1,z,rfl,h2⟩:=AE h m;refine⟨_,h1,λw' he=>?_⟩;have hh':w'.heap[p.block]? = qc (.map mf aC):=(by rw [he _ hb];exact hh);simp only [kbL,Zj,qp hu,Zi,Zu,kbt hh',m9 hd xz,run_findKey hd h3,h2];cases h5;cases h
def CS (P:ql) (A:AW) (t:qr) (x:Option qd):Option (qd×AW):=
 match x with
 | none=>qc (.map (qc A.next),A.alloc (.map [] qg))
 | some (.int _ _)=>
   match P.underlying t with
   | some (.map _ _)=>qc (.map (qc A.next),A.alloc (.map [] qg))
   | _=>qh
 | _=>qh
theorem Gw {m:Mp} {A:AW} {w:qs} (hs:k7 m A w) :
 lb m A w (m.ext A.next ⟨w.heap.size,0,0,0⟩) (A.alloc (.map [] qg)) (w.alloc (.map #[] 0)):=
 lb.WH hs (.map [] qg) ⟨w.heap.size,0,0,0⟩ rfl rfl rfl Yb (λb hb=>Cy w _ b hb) (qZ _)
  ⟨#[],0,[],List.Perm.nil,Cz w _,rfl,λk x e h=>by simp at h⟩
theorem HI {P:ql} {m:Mp} {A A1:AW} {w:qs} (hs:k7 m A w) {t:qr} {x x':Option qd} {v:qd} (h:CS P A t x=qc (v,A1)) (hx:Af m x x') :
 ∃v' w' m',(Instr.makeMap t x').run P w=qH v' w'/\lb m A w m' A1 w'/\bP m' v v':=by
 unfold CS at h;split at h
 . cases x' with
   | some _=>exact hx.elim
   | none=>
     simp only [Zh,ZE] at h;obtain⟨rfl,rfl⟩:=h;refine⟨.map (qc w.heap.size),_,_,?_,Gw hs,.map ⟨⟨w.heap.size,0,0,0⟩,by simp [Mp.ext],rfl⟩⟩;simp only [Instr.makeMap,Zj,Zu,Zi,run_newObj];rfl
 . rename_i k n;cases x' with
   | none=>exact hx.elim
   | some x'=>
     split at h<;>try(cases h;done)
     rename_i kt e hu;simp only [Zh,ZE] at h;obtain⟨rfl,rfl⟩:=h;have hx':bP m (.int k n) x':=hx;cases hx';refine⟨.map (qc w.heap.size),_,_,?_,Gw hs,.map ⟨⟨w.heap.size,0,0,0⟩,by simp [Mp.ext],rfl⟩⟩;simp only [Instr.makeMap,Zj,qp hu,Zi,Jt,Zu,run_newObj];rfl
 cases h
def gS (P:ql) (A:AW) (t:qr) (x k v:qd):Option AW:=
 match P.underlying t,x with
 | some (.map kt _),.map (qc r)=>
   match P.underlying kt,A.bk r with
   | some d,qc (.map es qg)=>
     if nN d then
      match fw d k es 0 with
      | some (qc (i,_))=>qc (A.set r (qc (.map (es.set i (k,v)) qg)))
      | some qh=>qc (A.set r (qc (.map (es++[(k,v)]) qg)))
      | none=>qh
     else qh
   | _,_=>qh
 | _,_=>qh
theorem vU {P:ql} {m:Mp} {A A1:AW} {w:qs} (hs:k7 m A w) {t:qr} {x x' k k' v v':qd} (h:gS P A t x k v=qc A1)
 (hx:bP m x x') (hk:bP m k k') (hv:bP m v v'):∃w',(kb1 t x' k' v').run P w=qH () w'/\lb m A w m A1 w':=by
 unfold gS at h;split at h<;>try(cases h;done)
 rename_i kt e r hu;split at h<;>try(cases h;done)
 rename_i d es hd hg;split at h<;>try(cases h;done)
 rename_i xz;obtain⟨p,hp,mf,aC,Bp,hpm,hh,hl,yr⟩:=hs.IC _ _ hg;have hb:p.block<w.heap.size:=(Zf.1 hh).1;cases hx with
 | map hx=>
   rename_i r';obtain⟨p',Wa,rfl⟩:=hx;rw [hp] at Wa;injection Wa with Wa;subst Wa;have iM:∀(o:Obj) (j:Nat),j≠p.block->(w.heap.setIfInBounds p.block o)[j]? = w.heap[j]?:=λo j hj=>by rw [kbs Ya]
   have sT:∀(o:Obj),(w.heap.setIfInBounds p.block o)[p.block]? = qc o:=λo=>by simp [hb]
   split at h;rename_i i0 v0 hf0;injection h with h;subst h;obtain⟨i,hf,jx⟩:=AG hpm hf0;obtain⟨r',h3,h4⟩:=nu hk Bp mf.toList 0 _ Yt (λj y f a b=>yr j y f a Yq) hf;rcases h4 with ⟨h4,_⟩|⟨j,v1,v'',e',h5,rfl,h7,h8,h9⟩;cases h4;injection h5 with h5;injection h5 with h5 h6;simp only [ZZ] at h5 h3;subst h5;have hi:i<mf.size:=by
    have:=(ZC.1 h8).1
    simpa using this
   have h8':mf[i]? = qc e':=by simpa using h8
   have hkts:(Instr.keyThatStays (((mf[i]?).map (·.key)).getD k') k').run P w=qH k' w:=by
    simp [h8',Instr.keyThatStays,KI h9]
   refine⟨{ w with heap:=w.heap.setIfInBounds p.block (.map (mf.modify i λe=>{ e with key:=k',val:=v' }) aC) },?_,?_⟩;simp only [kb1,Zj,qp hu,Zi,kbt hh,m9 hd xz,run_findKey hd h3,hkts,kb7 _ hh];refine lb.xZ hs hg rfl rfl hp Yb rfl rfl rfl ⟨_,aC,Bp.set i (k,v),jx _,sT _,by simp [hl],λj y f a b=>?_⟩ (iM _);by_cases lf:i=j;subst lf;rw [ZV Ya] at a;injection a with a;subst a;simp [kaY,h8'] at b;subst b;exact⟨hk,hv⟩;rw [Z6 lf] at a;rw [kaY,aw lf] at b;exact yr j y f a b;rename_i hf0;injection h with h;subst h;have hf:=tx hpm hf0;obtain⟨r',h3,h4⟩:=nu hk Bp mf.toList 0 _ Yt (λj y f a b=>yr j y f a Yq) hf;rcases h4 with ⟨_,rfl⟩|⟨j,v1,v'',e',h5,_⟩;refine⟨{ w with heap:=w.heap.setIfInBounds p.block (.map (mf.push { key:=k',val:=v',born:=aC }) (aC+1)) },?_,?_⟩
   simp only [kb1,Zj,qp hu,Zi,kbt hh,m9 hd xz,run_findKey hd h3,kb7 _ hh];refine lb.xZ hs hg rfl rfl hp Yb rfl rfl rfl ⟨_,aC+1,Bp++[(k,v)],hpm.append_right _,sT _,by simp [hl],λj y f a b=>?_⟩ (iM _);rw [kbv] at a;rw [Array.getElem?_push] at b;by_cases hj:j<Bp.length;rw [ay hj] at a;rw [aw Ya] at b;exact yr j y f a b;rw [aw hj] at a;have kh:j=Bp.length:=by
    have:=(ZC.1 a).1;simp at this;omega
   subst kh;rw [ay hl] at b;simp at a b;subst a;subst b;exact⟨hk,hv⟩;cases h5;cases h
theorem gg.Ca {v:qd} (h:gg v=qg):v.oneCell'=qg:=by
 unfold gg at h;split at h<;>first|rfl|(cases h;done)
def L4 (P:ql) (A:AW) (t:qr) (x:qd):Option AW:=
 match P.underlying t,x with
 | some (.slice _),.slice qh 0 0=>qc A
 | some (.slice e),.slice (qc p) n _=>
   if n=0 then qc A else
   match P.info? e,A.bk p.block with
   | some i,qc (.cells cs qg unit)=>
     match i.zero with
     | some z=>
       if z.cells.size=i.size/\0<i.size/\z.cells.toList.all gg/\p.off+n*i.size<=cs.length then
        qc (A.set p.block (qc (.cells (fY cs p.off (fB z.cells.toList n)) qg unit)))
       else qh
     | none=>qh
   | _,_=>qh
 | _,_=>qh
theorem L3 {P:ql} {m:Mp} {A A1:AW} {w:qs} (hs:k7 m A w) {t ty:qr} {x x':qd} (h:L4 P A t x=qc A1) (hx:bP m x x') :
 ∃w',(kbE #[t] ty #[x']).run P w=qH qz w'/\lb m A w m A1 w':=by
 unfold L4 at h;split at h<;>try(cases h;done)
 rename_i e hu;cases hx;injection h with h;subst h;exact⟨w,by simp [kbE,qp hu,qz],lb.refl hs⟩;rename_i e p n c hu;split at h;rename_i h0;subst h0;injection h with h;subst h;cases hx;exact⟨w,by simp [kbE,qp hu,qz],lb.refl hs⟩;rename_i h0;split at h<;>try(cases h;done)
 rename_i i cs unit hi hg;split at h<;>try(cases h;done)
 rename_i z hz;split at h<;>try(cases h;done)
 rename_i hc;obtain⟨pq,tK,jn,pf⟩:=hc;injection h with h;subst h;cases hx with
 | slice hh h1 h2=>
   rename_i p' jH;have ha:sB m p p':=by
    rcases hh with hh|hh;exact hh.aad;omega
   obtain⟨BG,NJ,q,hm,hb,ho⟩:=ha;have VW:=uu z.cells n Ya;have kU:=pX jn n;have bW:(fB z.cells.toList n).length=n*i.size:=(by rw [kw];simp [pq])
   obtain⟨w',hr,ev⟩:=sS (P:=P) (o:=p.off) hm (fB z.cells.toList n) (fB z.cells.toList n) 0 cs A w hs hg (.pC kU m)
    (λv hv=>gg.Ca (Zr.1 kU v hv)) Ya
   have ea:p'=⟨q.block,q.base+p.off,qh⟩:=(by rw [CZ p' NJ,hb,ho]);subst ea;refine⟨w',?_,by simpa using ev⟩;have Th:(qI e).run P w=qH z w:=(by simp [qI,qN,hi,hz]);obtain⟨n,rfl⟩:=Nat.exists_eq_succ_of_ne_zero h0;have hzc':(ZW z.cells (n+1)).toList=fB z.cells.toList (n+1):=VW;simp only [kbE,kaK,List.getElem?_cons_zero,Zj,qp hu,Zi,Th,hzc',hr,Zu];rfl
def rt (P:ql) (A:AW) (t u:qr) (s x:qd):Option (qd×AW):=
 match P.underlying t,P.underlying u,x with
 | some (.slice e),qc (.int _),.int _ q=>
   match P.info? e with
   | some i=>
     match i.zero with
     | some z=>
       match iv A i.size s with
       | some (base,k,wI)=>
         if z.cells.size=i.size/\0<i.size/\z.cells.toList.all gg/\0<=q/\k+q.toNat<=140737488355328/\(k+q.toNat)*i.bytes<=140737488355328 then
          if q.toNat=0 then qc (s,A)
          else qc (.slice (qc ⟨A.next,0,qh⟩) (k+q.toNat) (k+q.toNat),((match base with|some a=>A.set a.block qh|none=>A)).alloc (.cells (wI++fB z.cells.toList q.toNat) qg i.size))
         else qh
       | none=>qh
     | none=>qh
   | none=>qh
 | _,_,_=>qh
theorem Di {P:ql} (w:qs) (t tn ty e:qr) (i:qP) (kn kq:qw) (ht:P.underlying t=qc (.slice e)) (htn:P.underlying tn=qc (.int kn)) (hi:P.info? e=qc i)
 (base:Option qL) (n c:Nat) (hc:n<=c):(kaa #[t,tn] ty #[.slice base n c,.int kq 0]).run P w=qH (.slice base n c) w:=by
 have hw:qY.wrap (0:Int)=0:=rfl;cases base<;>simp [kaa,qp ht,qp htn,sizeOf,qN,hi,asInt,asIntOf,hw,hc,storeCells]
theorem Dj {P:ql} (w:qs) (t tn ty e:qr) (i:qP) (z:qd) (kn kq:qw) (ht:P.underlying t=qc (.slice e)) (htn:P.underlying tn=qc (.int kn)) (hi:P.info? e=qc i) (hz:i.zero=qc z)
 (g o kc rC m:Nat) (jy:Array qd) (e':qr) (hg:w.heap[g]? = qc (.cells jy e' (0,0))) (h0:0<m) (hs:0<i.size) (h48:m*i.bytes<=281474976710656) (h63:(m:Int)<=9223372036854775807)
 (h1:∀u∈(ZW z.cells m).toList,u.oneCell'=qg) (GO:kc+m<=rC) (pf:o+kc*i.size+(ZW z.cells m).toList.length<=jy.size) :
 (kaa #[t,tn] ty #[.slice (qc ⟨g,o,qh⟩) kc rC,.int kq m]).run P w =
  qH (.slice (qc ⟨g,o,qh⟩) (kc+m) rC) (w.setRow g (jy.toList.take (o+kc*i.size)++(ZW z.cells m).toList++jy.toList.drop (o+kc*i.size+(ZW z.cells m).toList.length)).toArray):=by
 have hk:m≠0:=Ya
 have hw:qY.wrap (m:Int)=m:=af Ya h63;have h48i:¬(281474976710656<(m:Int)*(i.bytes:Int)):=by
  rw [<-Int.natCast_mul];omega
 have NQ:¬((m:Int)<0):=Ya
 have hns:¬(m*i.size=0):=Nat.mul_ne_zero hk Ya;have dw:=run_storeCells_at P g (o+kc*i.size) e' (ZW z.cells m).toList 0 jy w hg YU h1;simp only [Nat.add_zero] at dw;have ea:(⟨g,o,qh⟩:qL).add (kc*i.size)=⟨g,o+kc*i.size,qh⟩:=oP _ _ rfl;simp [kaa,qp ht,qp htn,sizeOf,qN,qI,hi,hz,asInt,asIntOf,hw,NQ,hns,h48i,GO,ea,dw]
theorem I6 {P:ql} {m:Mp} {A A1:AW} {w:qs} (hs:k7 m A w) {t u ty:qr} {s x s' x' v:qd} (h:rt P A t u s x=qc (v,A1))
 (PY:bP m s s') (hvx:bP m x x') :
 ∃v' w' m',(kaa #[t,u] ty #[s',x']).run P w=qH v' w'/\lb m A w m' A1 w'/\bP m' v v':=by
 unfold rt at h;split at h<;>try(cases h;done)
 rename_i e kn kq q hu hun;cases hvx;split at h<;>try(cases h;done)
 rename_i i hi;split at h<;>try(cases h;done)
 rename_i z hz;split at h<;>try(cases h;done)
 rename_i base k wI ho;split at h<;>try(cases h;done)
 rename_i CA;obtain⟨pq,xQ,jn,Fh,H3,lF⟩:=CA;obtain⟨n,rfl⟩:=Int.eq_ofNat_of_zero_le Fh;simp only [Int.toNat_natCast] at h H3 lF;by_cases GR:n=0;subst GR;rw [ay rfl] at h;simp only [Zh,ZE] at h;obtain⟨rfl,rfl⟩:=h;have Mq:∃b' n' c',s'=.slice b' n' c'/\n'<=c':=by
  unfold iv at ho;split at ho;cases PY;exact⟨_,_,_,rfl,qZ _⟩
  . cases PY with
    | slice _ h1 h2=>exact⟨_,_,_,rfl,ZA h1 h2⟩
  cases ho
 obtain⟨b',n',c',rfl,fA⟩:=Mq;exact⟨_,w,m,Di w t u ty e i kn kq hu hun hi b' n' c' fA,lb.refl hs,PY⟩;rw [aw GR] at h;simp only [Zh,ZE] at h;obtain⟨rfl,rfl⟩:=h;have VW:(ZW z.cells n).toList=fB z.cells.toList n:=uu z.cells n Ya;have kU:=pX jn n;have nU:∀v∈fB z.cells.toList n,v.oneCell'=qg:=λv hv=>gg.Ca (Zr.1 kU v hv);have ES:n*i.bytes<=140737488355328:=ZA (Nat.mul_le_mul_right _ (Nat.le_add_left n k)) lF;have hl:(ZW z.cells n).toList.length=n*i.size:=by rw [VW,kw];simp [pq]
 refine Ey hs (ts:=#[t,u]) (X:=.int kq n) (l':=(ZW z.cells n).toList) (e:=e) (i:=i) (z:=z) pq GR H3 lF nU hl (by rw [VW];exact .pC kU m) ho PY ?_ ?_ ?_;intro _ _ hk;have:=Go.Lib.run_append_nil_zeros (P:=P) w t u ty e i z kq kn hu hun hi hz n Ya xQ Ya Ya
 simpa using this
 intro b kc rC lo hk h1 h2 h3;have hf:=run_firstCells_some (P:=P) w.drew i.size kc b kc rC lo h1 Yu;have:=Go.Lib.run_append_grow_zeros (P:=P) w t u ty e i z kq kn hu hun hi hz (qc b) kc rC lo hf n Ya xQ h3 Ya Ya (growslice_fits h3 (by subst hk;exact lF))
 simpa using this
 intro g o kc rC jy e' h1 h2 h3;exact Dj w t u ty e i z kn kq hu hun hi hz g o kc rC n jy e' h1 Ya xQ Ya Ya (by rw [VW];exact nU) h2 h3
end Go.Stx
namespace Go.Stx
open Go
variable [Gl]
def sL (P:ql) (eq:qr->qd->qd->Option Bool) (xs ys:Array qd):List Field->Option Bool
 | []=>qc qg
 | f::r=>
   if f.name = "_" then sL P eq xs ys r else
   match apart P f.type xs f.offset,apart P f.type ys f.offset with
   | some a,qc b=>
     match eq f.type a b,sL P eq xs ys r with
     | some p,qc q=>qc (p && q)
     | _,_=>qh
   | _,_=>qh
def yW (P:ql) (eq:qd->qd->Option Bool) (e:qr) (size:Nat) (xs ys:Array qd):List Nat->Option Bool
 | []=>qc qg
 | i::r=>
   match apart P e xs (i*size),apart P e ys (i*size) with
   | some a,qc b=>
     match eq a b,yW P eq e size xs ys r with
     | some p,qc q=>qc (p && q)
     | _,_=>qh
   | _,_=>qh
def xk (P:ql):Nat->qr->qd->qd->Option Bool
 | 0,_,_,_=>qh
 | d+1,t,x,y=>
   match P.underlying t,x,y with
   | some .bool,.bool a,.bool b=>qc (a == b)
   | some (.int _),.int k a,.int k' b=>if k=k' then qc (decide (a=b)) else qh
   | some .string,.string a,.string b=>qc (a.toList == b.toList)
   | some (.struct fs),.agg xs,.agg ys=>if P.stoodInHeld t then qh else sL P (xk P d) xs ys fs.toList
   | some (.array n e),.agg xs,.agg ys=>
     match P.info? e with
     | some i=>yW P (xk P d e) e i.size xs ys (Zp n)
     | none=>qh
   | _,_,_=>qh
theorem tq {P:ql} {m:Mp} {n d:Nat} (ih:∀(t:qr) (x y x' y':qd) (r:Bool),xk P n t x y=qc r->bP m x x'->bP m y y'->∀w,(ZK d t x' y').run P w=qH r w)
 {xs ys xs' ys':Array qd} (hx:bP m (.agg xs) (.agg xs')) (hy:bP m (.agg ys) (.agg ys')) (w:qs):∀(fs:List Field) (r:Bool),sL P (xk P n) xs ys fs=qc r->
 (Op.eqFields d xs' ys' fs).run P w=qH r w
 | [],r,h=>by injection h with h;subst h;rfl
 | f::fs,r,h=>by
   unfold sL at h;split at h;rename_i hn;simp only [Op.eqFields,hn,ne_eq,not_true_eq_false,if_false];exact tq ih hx hy w fs r h;rename_i hn;split at h<;>try(cases h;done)
   rename_i a b ha hb;split at h<;>try(cases h;done)
   rename_i p q hp hq;injection h with h;subst h;obtain⟨a',h1,h2⟩:=nS (P:=P) ha hx;obtain⟨b',h3,h4⟩:=nS (P:=P) hb hy;have h5:=ih _ _ _ _ _ _ hp h1 h3 w;have h6:=tq ih hx hy w fs q hq;simp only [Op.eqFields,ne_eq,hn,not_false_eq_true,if_true,Zj,h2,h4,h5,Zi];cases p;rfl;simp only [Bool.not_true,Zg,if_false,h6,Bool.true_and]
theorem Az {P:ql} {m:Mp} {d size:Nat} {e:qr} {eq:qd->qd->Option Bool}
 (ih:∀(x y x' y':qd) (r:Bool),eq x y=qc r->bP m x x'->bP m y y'->∀w,(ZK d e x' y').run P w=qH r w)
 {xs ys xs' ys':Array qd} (hx:bP m (.agg xs) (.agg xs')) (hy:bP m (.agg ys) (.agg ys')) (w:qs):∀(is:List Nat) (r:Bool),yW P eq e size xs ys is=qc r->
 (Op.eqItems d e size xs' ys' is).run P w=qH r w
 | [],r,h=>by injection h with h;subst h;simp [Op.eqItems]
 | i::is,r,h=>by
   unfold yW at h;split at h<;>try(cases h;done)
   rename_i a b ha hb;split at h<;>try(cases h;done)
   rename_i p q hp hq;injection h with h;subst h;obtain⟨a',h1,h2⟩:=nS (P:=P) ha hx;obtain⟨b',h3,h4⟩:=nS (P:=P) hb hy;have h5:=ih _ _ _ _ _ hp h1 h3 w;have h6:=Az ih hx hy w is q hq;simp only [Op.eqItems,Zj,h2,h4,h5,Zi];cases p;simp;simp [h6]
theorem su {P:ql} {m:Mp}:∀(n d:Nat) (t:qr) (x y x' y':qd) (r:Bool),n<=d->xk P n t x y=qc r->bP m x x'->bP m y y'->
 ∀w,(ZK d t x' y').run P w=qH r w
 | 0,d,t,x,y,x',y',r,_,h,_,_,w=>by cases h
 | n+1,0,t,x,y,x',y',r,hd,h,hx,hy,w=>by omega
 | n+1,d+1,t,x,y,x',y',r,hd,h,hx,hy,w=>by
   unfold xk at h;split at h<;>try(cases h;done)
   rename_i hu;cases hx;cases hy;injection h with h;subst h;simp [ZK,qp hu]
   . rename_i hu;cases hx;cases hy;split at h<;>try(cases h;done)
     rename_i hk;injection h with h;subst h;subst hk;simp [ZK,qp hu];rfl
   rename_i hu;cases hx;cases hy;injection h with h;subst h;exact run_equalIn_string w d t _ _ hu
   . rename_i fs xs ys hu;split at h<;>try(cases h;done)
     rename_i hp;have NH:=hx;have hy0:=hy;cases hx;cases hy;have hfo:P.fieldsOf t=fs:=(by simp [Program.fieldsOf,hu]);rw [run_equalIn_struct w d t _ _ (by rw [hfo];exact hu) (by simpa using hp),hfo];exact tq (λt x y x' y' r h1 h2 h3 w=>su n d t x y x' y' r Ya h1 h2 h3 w) NH hy0 w _ _ h
   rename_i k e xs ys hu;split at h<;>try(cases h;done)
   rename_i i hi;have NH:=hx;have hy0:=hy;cases hx;cases hy;rw [run_equalIn_array w d _ _ hu hi];have hce:P.cellsOf e=i.size:=(by simp [Program.cellsOf,hi]);rw [hce];exact Az (λx y x' y' r h1 h2 h3 w=>su n d e x y x' y' r Ya h1 h2 h3 w) NH hy0 w _ _ h
theorem sU {P:ql} {t:qr} {x y:Array qr} {b:Bool} (d:Nat) (fn:Fn) (p q:Array qd) (hu:P.underlying t=qc (.func x y b)) (w:qs) :
 (ZK (d+1) t (.func fn p q) .nilFunc).run P w=qH qk w:=by
 simp [ZK,qp hu]
theorem rQ {P:ql} {t:qr} {x y:Array qr} {b:Bool} (d:Nat) (hu:P.underlying t=qc (.func x y b)) (w:qs) :
 (ZK (d+1) t .nilFunc .nilFunc).run P w=qH qg w:=by
 simp [ZK,qp hu]
def Se (P:ql) (op:BinOp) (t:qr) (x y:qd):Option qd:=
 match x,y with
 | .agg xs,.agg ys=>
   if P.eqGuardType P.depth t then qh else
   match op with
   | .eql=>(xk P 8 t (.agg xs) (.agg ys)).map .bool
   | .neq=>(xk P 8 t (.agg xs) (.agg ys)).map λb=>.bool (!b)
   | _=>qh
 | .slice a _ _,.slice qh 0 0=>
   match op,P.underlying t with
   | .eql,qc (.slice _)=>qc (.bool a.isNone)
   | .neq,qc (.slice _)=>qc (.bool (!a.isNone))
   | _,_=>qh
 | .map a,.map qh=>
   match op,P.underlying t with
   | .eql,qc (.map _ _)=>qc (.bool a.isNone)
   | .neq,qc (.map _ _)=>qc (.bool (!a.isNone))
   | _,_=>qh
 | .func _ _ _,.nilFunc=>
   match op,P.underlying t with
   | .eql,qc (.func _ _ _)=>qc (.bool qk)
   | .neq,qc (.func _ _ _)=>qc (.bool qg)
   | _,_=>qh
 | .nilFunc,.nilFunc=>
   match op,P.underlying t with
   | .eql,qc (.func _ _ _)=>qc (.bool qg)
   | .neq,qc (.func _ _ _)=>qc (.bool qk)
   | _,_=>qh
 | x,y=>abin P op t x y
theorem EH {P:ql} {op:BinOp} {t:qr} {x y v:qd} (h:Se P op t x y=qc v) {m:Mp} {x' y':qd} (hx:bP m x x') (hy:bP m y y') (xo yo:qy) (w:qs) :
 (do qD op t xo yo x' y';qC op t x' y':Sem qd).run P w=qH v w/\bP m v v:=by
 unfold Se at h;split at h
 . rename_i xs ys;split at h<;>try(cases h;done)
   rename_i hg;have NH:=hx;have hy0:=hy;cases hx;cases hy;have RO:P.eqGuardType P.depth t=qk:=by simpa using hg
   rw [Zj,run_eqGuard_agg w op t xo yo _ _ RO,Zi];cases op<;>simp only at h<;>(try (cases h;done));obtain⟨r,h1,rfl⟩:=kag.1 h;exact⟨by rw [run_eql_struct,su 8 10000 t _ _ _ _ r Ya h1 NH hy0 w];rfl,by constructor⟩;obtain⟨r,h1,rfl⟩:=kag.1 h;exact⟨by rw [run_neq_struct,su 8 10000 t _ _ _ _ r Ya h1 NH hy0 w];rfl,by constructor⟩
 rename_i a n c;have key:∀(a':Option qL) (n' c':Nat) (e:qr),P.underlying t=qc (.slice e)->(Op.equal t (.slice a' n' c') (.slice qh 0 0)).run P w=qH a'.isNone w:=λa' n' c' e hu=>run_equal_slice_nil w t e a' n' c' hu;have hx':∃a' n' c',x'=.slice a' n' c'/\a'.isNone=a.isNone:=by
  cases hx<;>exact⟨_,_,_,rfl,rfl⟩
 obtain⟨a',n',c',rfl,ha⟩:=hx';cases hy;split at h;rename_i hu;injection h with h;subst h;exact⟨by simp [qD,qC,key _ _ _ _ hu,ha],by constructor⟩
 rename_i hu;injection h with h;subst h;exact⟨by simp [qD,qC,key _ _ _ _ hu,ha],by constructor⟩
 cases h;rename_i a;have key:∀(a':Option Nat) (k e:qr),P.underlying t=qc (.map k e)->(Op.equal t (.map a') (.map qh)).run P w=qH a'.isNone w:=λa' k e hu=>run_equal_map_nil w t k e a' hu;have hx':∃a',x'=.map a'/\a'.isNone=a.isNone:=by
  cases hx<;>exact⟨_,rfl,rfl⟩
 obtain⟨a',rfl,ha⟩:=hx';cases hy;split at h;rename_i hu;injection h with h;subst h;exact⟨by simp [qD,qC,key _ _ _ hu,ha],by constructor⟩
 rename_i hu;injection h with h;subst h;exact⟨by simp [qD,qC,key _ _ _ hu,ha],by constructor⟩
 cases h;cases hy;cases hx;split at h;rename_i hu;injection h with h;subst h;exact⟨by simp [qD,qC,gQ (sU _ _ _ _ hu w)],by constructor⟩
 rename_i hu;injection h with h;subst h;exact⟨by simp [qD,qC,gQ (sU _ _ _ _ hu w)],by constructor⟩
 cases h;cases hy;cases hx;split at h;rename_i hu;injection h with h;subst h;exact⟨by simp [qD,qC,gQ (rQ _ hu w)],by constructor⟩
 rename_i hu;injection h with h;subst h;exact⟨by simp [qD,qC,gQ (rQ _ hu w)],by constructor⟩
 cases h;exact Q1 h hx hy xo yo w
end Go.Stx
namespace Go.Stx
open Go
variable [Gl]
abbrev Fr:=Nat->qd
def lQ (a:Fr) (i:Nat) (v:qd):Fr:=λj=>if j=i then v else a j
def fk (a:Fr) (d:Option Tmp) (v:qd):Fr:=
 match d with
 | some i=>lQ a i v
 | none=>a
def jt (a:Fr):qy->qd
 | .tmp t=>a t
 | .const v=>v
 | .global g=>.pointer (qc ⟨g,0,qh⟩)
 | .func f=>.func (.func f) #[] #[]
def Ud (w w':qs):Prop:=∀b,b<w.heap.size->w'.heap[b]? = w.heap[b]?
theorem Ud.refl (w:qs):Ud w w:=λ_ _=>rfl
theorem Ud.cell {w w':qs} (h:Ud w w') {a:qL} {v:qd} (hc:w.cell? a=qc v):w'.cell? a=qc v:=by
 have hb:=World.block_lt_of_cell? w a hc;rw [World.cell?_of_block (h _ hb)];exact hc
theorem Ud.HX {m:Mp} {A:AW} {w w':qs} (h:Ud w w') (hs:k7 m A w):k7 m A w':=by
 refine⟨λi o hi=>?_,hs.inj,hs.ur,hs.zQ,λb x hb=>?_,hs.Cp,hs.yB⟩
 rotate_left
 have h1:=hs.laid b x hb;rw [h b (Zf.1 h1).1];exact h1;obtain⟨p,h1,h2⟩:=hs.IC i o hi;have hb:=hs.jz hi h1;exact⟨p,h1,h2.heap (h _ hb)⟩
theorem T8 {P:ql} {m:Mp} {A:AW} {w:qs} (hs:k7 m A w) {t:qr} {p p':qL} {v:qd} (h:ir P A t p=qc v) (hp:sB m p p') :
 ∃v',bP m v v'/\∀w',Ud w w'->(loadVar t p').run P w'=qH v' w':=by
 unfold ir at h;split at h;rename_i cs hr ha;obtain⟨v',h1,h2⟩:=CL hs hp hr (k:=0) (by simpa using h);have e:p'.add 0=p':=by unfold Addr.add;simp
 rw [e] at h1;refine⟨v',h2,λw' hx=>?_⟩;simp only [loadVar,Zj,sF ha,Zi,Zg,if_false,run_load,hx.cell h1];rename_i cs hr ha;split at h;rename_i i hi;split at h;rename_i fA;injection h with h;subst h;obtain⟨l',hl,h1,h2⟩:=BR hs hp hr i.size fA;refine⟨.agg l'.toArray,.tY h1,λw' hx=>?_⟩;have h3:=run_loadCells_list (P:=P) w' p' l' (λj v hv=>hx.cell (h2 j v hv));rw [hl] at h3;simp only [loadVar,Zj,sF ha,Zi,if_true,gP hi,h3,Zu];cases h;cases h;cases h
def QZ (P:ql) (op:BinOp) (t:qr) (x:qd):Option qd:=
 match P.underlying t,op,x with
 | some (qU _),.eql,.nilIface=>qc (.bool qg)
 | some (qU _),.neq,.nilIface=>qc (.bool qk)
 | some (qU _),.eql,.iface _ _=>qc (.bool qk)
 | some (qU _),.neq,.iface _ _=>qc (.bool qg)
 | _,_,_=>qh
theorem pj {P:ql} {t:qr} {ms:Array (String×qr)} (d:Nat) (hu:P.underlying t=qc (qU ms)) (w:qs) :
 (ZK (d+1) t .nilIface .nilIface).run P w=qH qg w:=by simp [ZK,qp hu]
theorem pm {P:ql} {t u:qr} {v:qd} {ms:Array (String×qr)} (d:Nat) (hu:P.underlying t=qc (qU ms)) (w:qs) :
 (ZK (d+1) t (.iface u v) .nilIface).run P w=qH qk w:=by simp [ZK,qp hu]
theorem CW {P:ql} {m:Mp} {op:BinOp} {t:qr} {x x' v:qd} (h:QZ P op t x=qc v) (hx:bP m x x') (xo:qy) (w:qs) :
 (do qD op t xo (.const .nilIface) x' .nilIface;qC op t x' .nilIface:Sem qd).run P w=qH v w/\bP m v v:=by
 unfold QZ at h;split at h;rename_i hu;injection h with h;subst h;cases hx
 exact⟨by rw [eqGuard_nil_constR];simp [qC,gQ (pj _ hu w)],by constructor⟩;rename_i hu;injection h with h;subst h;cases hx
 exact⟨by rw [eqGuard_nil_constR];simp [qC,gQ (pj _ hu w)],by constructor⟩;rename_i hu;injection h with h;subst h;cases hx
 exact⟨by simp [qD,qC,gQ (pm _ hu w)],by constructor⟩;rename_i hu;injection h with h;subst h;cases hx
 exact⟨by simp [qD,qC,gQ (pm _ hu w)],by constructor⟩;cases h
def au8s:List qd->Option (List Int)
 | []=>qc []
 | .int .u8 n::l=>(au8s l).map (n::·)
 | _::_=>qh
theorem au8s_eq (l:List qd):∀(xs:List Int),au8s l=qc xs->l=xs.map (Zb .u8):=by
 induction l with
 | nil=>intro xs h;injection h with h;subst h;rfl
 | cons v l ih=>
   intro xs h;unfold au8s at h;split at h;rename_i e;cases e;rename_i n l' e;injection e with e1 e2;subst e1;subst e2;obtain⟨ys,h1,rfl⟩:=kag.1 h;rw [ih ys h1];rfl;cases h
def L8 (P:ql) (A:AW) (s d:qr) (x:qd):Option qd:=
 match P.underlying s,P.underlying d,x with
 | some (.slice e),qc .string,.slice (qc p) n _=>
   match P.underlying e,A.bS p.block with
   | some (.int .u8),qc bS=>
     if p.off+n<=bS.length then
      match au8s ((bS.drop p.off).take n) with
      | some xs=>qc (.string (strOfNums xs))
      | none=>qh
     else qh
   | _,_=>qh
 | _,_,_=>qh
theorem L7 {P:ql} {m:Mp} {A:AW} {w:qs} (hs:k7 m A w) {s d:qr} {x x' v:qd} (h:L8 P A s d x=qc v) (hx:bP m x x') :
 ∃v',bP m v v'/\∀w',Ud w w'->(convert s d x').run P w'=qH v' w':=by
 unfold L8 at h;split at h;rename_i e p n c Mq xC;split at h;rename_i bS he bO;split at h;rename_i fA;split at h
 . rename_i xs hxs;injection h with h;subst h;have e1:=au8s_eq _ _ hxs;have bW:xs.length=n:=by
    have:=congrArg List.length e1;simp at this;omega
   cases hx with
   | slice hr h1 h2=>
     rename_i a' jH;refine⟨_,by constructor,λw' hw=>?_⟩;rcases hr with hr|⟨rfl,rfl,_⟩;obtain⟨l',h3,h4,h5⟩:=BR hs hr.aad bO n fA;have ha:=CZ a' hr.2.1;rw [ha];refine run_convert_bytes_arg w' s e Mq he a'.block a'.off n jH xs bW (λi hi=>?_) d xC;have hv:=h4.2 i (.int .u8 (xs.getD i 0)) (l'[i]'Ya) (by rw [e1];simp [List.getD,q9 (show i<xs.length by omega)]) (q9 Ya);have h6:=h5 i _ (q9 Ya);rw [oP _ _ hr.2.1] at h6;generalize l'[i]=z at hv h6;cases hv;exact hw.cell h6;have:xs=[]:=ZP Ya;subst this;have ha:(convert s d (.slice (qc a') 0 0)).run P w'=qH (.string (strOfNums [])) w':=by
      rw [run_convert_bytes_string w' s d e _ 0 0 Mq he xC,run_bytesToString w' _ 0 0 [] rfl];rfl
     exact ha
 cases h;cases h;cases h;cases h
def uR (r:qy->qd) (ps:Array (Nat×qy)):List (Nat×qd):=ps.toList.map λx=>(x.1,r x.2)
def aq (P:ql) (A:AW) (r:qy->qd):Op->Option qd
 | .move x=>qc (r x)
 | .assign x=>qc (r x)
 | .pick c x y=>
   match r c with
   | .bool b=>qc (if b then r x else r y)
   | _=>qh
 | .build t ps=>Ma P t (uR r ps)
 | .load t x=>
   match r x with
   | .pointer (qc p)=>ir P A t p
   | _=>qh
 | .nilCheck x=>
   match r x with
   | .pointer (qc p)=>qc (.pointer (qc p))
   | _=>qh
 | .binOp op t x y _=>
   match y,r y with
   | .const .nilIface,.nilIface=>QZ P op t (r x)
   | _,_=>Se P op t (r x) (r y)
 | .unOp op _ x=>aun op (r x)
 | .convert s d x=>
   match Sd P s d (r x) with
   | some v=>qc v
   | none=>L8 P A s d (r x)
 | .makeInterface t x=>xg P t (r x)
 | .slice t x lo hi mx=>
   match mx with
   | none=>Bx P A t (r x) (lo.map r) (hi.map r) qh
   | some q=>Fv P t (r x) (lo.map r) (hi.map r) (r q)
 | .lookup t x ix c=>CT P A t (r x) (r ix) c
 | .fieldAddr s x f=>xj P s (r x) f
 | .field t x f=>L0 P t (r x) f
 | .indexAddr t x ix=>xh P t (r x) (r ix)
 | .index t x ix=>LY P t (r x) (r ix)
 | .extract t i=>
   match r t with
   | .tuple vs=>vs[i]?
   | _=>qh
 | .makeFunc fn fs cs=>qc (.func fn (fs.map r) (cs.map r))
 | qT c=>
   match c.callee,c.args.toList,c.argTypes.toList with
   | qB .len,[x],[t]=>oO P t (r x)
   | qB .min,[x,y],_=>aag qk [r x,r y]
   | qB .max,[x,y],_=>aag qg [r x,r y]
   | _,_,_=>qh
 | _=>qh
theorem Af.map {m:Mp} {r r':qy->qd} (x:Option qy) (h:∀y,x=qc y->bP m (r y) (r' y)):Af m (x.map r) (x.map r'):=by
 cases x with
 | none=>trivial
 | some y=>exact h y rfl
theorem arr2 {α:Type} {a:Array α} {x y:α} (h:a.toList=[x,y]):a = #[x,y]:=by
 apply Array.ext';exact h
theorem arr1 {α:Type} {a:Array α} {x:α} (h:a.toList=[x]):a = #[x]:=by
 apply Array.ext';exact h
theorem aae {P:ql} {m:Mp} {A:AW} {w:qs} (hs:k7 m A w) {o:qx} {r r':qy->qd} {v:qd} (hr:∀x∈o.op.operands,bP m (r x) (r' x))
 (h:aq P A r o.op=qc v):∃v',bP m v v'/\∀w',Ud w w'->(qM r' o).run P w'=qH (.value v') w':=by
 obtain⟨dst,op,ty,pos,after,guard⟩:=o;have vH:∀{s:Sem qd} {v':qd} {w':qs},s.run P w'=qH v' w'->(do pure (.value (<-s)):Sem Next).run P w'=qH (.value v') w':=λ{s v' w'} e=>by
  simp only [Zj,e,Zi,Zu]
 cases op<;>simp only [aq] at h<;>(try (cases h;done))
 case move x=>
  injection h with h;subst h;exact⟨r' x,hr x Yh,λw' _=>by simp [qM]⟩
 case assign x=>
  injection h with h;subst h;exact⟨r' x,hr x Yh,λw' _=>by simp [qM]⟩
 case pick c x y=>
  have hc:=hr c Yh;split at h;rename_i b hb;rw [hb] at hc;injection h with h;subst h;generalize yz:r' c=c' at hc;cases hc;refine⟨if b then r' x else r' y,?_,λw' _=>by simp [qM,yz,asBool]⟩;cases b;exact hr y Yh;exact hr x Yh;cases h
 case build t ps=>
  obtain⟨v',h1,h2⟩:=L9 (P:=P) (m:=m) (iP:=ps.map fun(i,x)=>(i,r' x)) h (by simp [uR]) (λk p p' h1 h2=>by
   simp only [uR,ZX,kbc,kag,kbx] at h1 h2;obtain⟨q,h3,rfl⟩:=h1;obtain⟨q',h4,rfl⟩:=h2;rw [h3] at h4;injection h4 with h4;subst h4;exact⟨rfl,hr q.2 Xp⟩)
  exact⟨v',h1,λw' _=>vH (h2 w')⟩
 case load t x=>
  have hx:=hr x Yh;split at h
  . rename_i p hp;rw [hp] at hx;generalize yz:r' x=x' at hx;cases hx with
    | M5 ha=>
      obtain⟨v',h1,h2⟩:=T8 (P:=P) hs h ha;exact⟨v',h1,λw' hw=>by simp [qM,yz,Instr.loadAt,kbD,h2 w' hw]⟩
  cases h
 case nilCheck x=>
  have hx:=hr x Yh;split at h
  . rename_i p hp;rw [hp] at hx;generalize yz:r' x=x' at hx;injection h with h;subst h;cases hx with
    | M5 ha=>exact⟨_,.M5 ha,λw' hw=>by simp [qM,yz]⟩
  cases h
 case binOp op t x y ty'=>
  have hx:=hr x Yh;have hy:=hr y Yh;split at h;rename_i e;rw [e] at hy;have hy':r' (.const .nilIface)=.nilIface:=by generalize r' (.const .nilIface)=z at hy;cases hy;rfl
  exact⟨v,(CW h hx x w).2,λw' _=>vH (by rw [hy'];exact(CW h hx x w').1)⟩;exact⟨v,(EH h hx hy x x w).2,λw' _=>vH (EH h hx hy x _ w').1⟩
 case unOp op t x=>
  have hx:=hr x Yh;exact⟨v,(JY (P:=P) h hx w).2,λw' _=>vH (JY h hx w').1⟩
 case convert s d x=>
  have hx:=hr x Yh;split at h;rename_i v0 h0;injection h with h;subst h;exact⟨v0,(EC h0 hx w).2,λw' _=>vH (EC h0 hx w').1⟩;obtain⟨v',h1,h2⟩:=L7 hs h hx;exact⟨v',h1,λw' hw=>vH (h2 w' hw)⟩
 case makeInterface t x=>
  obtain⟨v',h1,h2⟩:=DQ h (hr x Yh);exact⟨v',h1,λw' _=>vH (h2 w')⟩
 case slice t x lo hi mx=>
  cases mx with
  | none=>
    obtain⟨v',h1,h2⟩:=LS hs (mx':=qh) h (hr x Yh) (Af.map (r':=r') lo λy e=>hr y YO) (Af.map (r':=r') hi λy e=>hr y YO) trivial;exact⟨v',h1,λw' _=>vH (h2 w')⟩
  | some q=>
    obtain⟨v',h1,h2⟩:=I4 h (hr x Yh) (Af.map (r':=r') lo λy e=>hr y YO) (Af.map (r':=r') hi λy e=>hr y YO) (hr q Yh);exact⟨v',h1,λw' _=>vH (h2 w')⟩
 case lookup t x ix c=>
  obtain⟨v',h1,h2⟩:=I9 (P:=P) hs h (hr x Yh) (hr ix Yh);exact⟨v',h1,λw' hw=>vH (h2 w' hw)⟩
 case fieldAddr s x f=>
  obtain⟨v',h1,h2⟩:=DT h (hr x Yh);exact⟨v',h1,λw' _=>vH (h2 w')⟩
 case field t x f=>
  obtain⟨v',h1,h2⟩:=LZ h (hr x Yh);exact⟨v',h1,λw' _=>vH (h2 w')⟩
 case indexAddr t x ix=>
  obtain⟨v',h1,h2⟩:=DS h (hr x Yh) (hr ix Yh);exact⟨v',h1,λw' _=>vH (h2 w')⟩
 case index t x ix=>
  obtain⟨v',h1,h2⟩:=LX h (hr x Yh) (hr ix Yh);exact⟨v',h1,λw' _=>vH (h2 w')⟩
 case extract t i=>
  have hx:=hr t Yh;split at h
  . rename_i vs hp;rw [hp] at hx;generalize yz:r' t=x' at hx;cases hx with
    | tuple xQ h1=>
      rename_i D0;have bY:i<D0.size:=(by rw [<-xQ];exact(Zf.1 h).1);have e:=ZL bY;exact⟨D0[i],h1 i v _ h e,λw' _=>by simp [qM,yz,Instr.extract,e]⟩
  cases h
 case makeFunc fn fs cs=>
  injection h with h;subst h;refine⟨.func fn (fs.map r') (cs.map r'),?_,λw' _=>by simp [qM,Instr.makeFunc]⟩;refine .func fn Yb Yb (λi v v' h1 h2=>?_) (λi v v' h1 h2=>?_);simp only [kbx,kag] at h1 h2;obtain⟨q,h3,rfl⟩:=h1;obtain⟨q',h4,rfl⟩:=h2;rw [h3] at h4;injection h4 with h4;subst h4;exact hr q (by simp only [kaW,kbA];exact qq (kaA h3));simp only [kbx,kag] at h1 h2;obtain⟨q,h3,rfl⟩:=h1;obtain⟨q',h4,rfl⟩:=h2;rw [h3] at h4;injection h4 with h4;subst h4;exact hr q (by simp only [kaW,kbA];exact qt (kaA h3))
 case call c=>
  obtain⟨callee,args,argTypes⟩:=c;split at h;rename_i x t h1 h2 h3;simp only at h1 h2 h3;subst h1;have e2:=arr1 h2;have e3:=arr1 h3;subst e2;subst e3;have hx:=hr x Yv;have hl:=QY (P:=P) (ty:=ty) h hx;refine⟨v,hl.1,λw' _=>?_⟩;have:=hl.2 w';simp [qM,resolve,invoke,builtin,this];rename_i x y h1 h2;simp only at h1 h2;subst h1;have e2:=arr2 h2;subst e2;have hx:=hr x Yv;have hy:=hr y Yv;have hl:=HG (P:=P) (ts:=argTypes) (ty:=ty) (l':=#[r' x,r' y]) h (.cons hx (.cons hy .nil));refine⟨v,hl.1,λw' _=>?_⟩;have:=hl.2 w';simp only [Zg,if_false] at this;simp [qM,resolve,invoke,builtin,this];rename_i x y h1 h2;simp only at h1 h2;subst h1;have e2:=arr2 h2;subst e2;have hx:=hr x Yv;have hy:=hr y Yv;have hl:=HG (P:=P) (ts:=argTypes) (ty:=ty) (l':=#[r' x,r' y]) h (.cons hx (.cons hy .nil))
  refine⟨v,hl.1,λw' _=>?_⟩;have:=hl.2 w';simp only [if_true] at this;simp [qM,resolve,invoke,builtin,this];cases h
def ae (P:ql) (A:AW) (r:qy->qd):Op->Option (qd×AW)
 | .alloc t=>Mc P A t
 | .box _ x=>qc (aal A (r x))
 | .buildSlice t len ps=>uv P A t len (uR r ps)
 | .store t x y=>
   match r x with
   | .pointer (qc p)=>
     match aG P A t p (r y) with
     | some A1=>qc (qz,A1)
     | none=>qh
   | _=>qh
 | .makeSlice t l c=>pw P A t (r l) (r c)
 | .makeMap t x=>CS P A t (x.map r)
 | .mapUpdate t x k v=>
   match gS P A t (r x) (r k) (r v) with
   | some A1=>qc (qz,A1)
   | none=>qh
 | .insert t x k v=>
   match gS P A t (r x) (r k) (r v) with
   | some A1=>qc (qz,A1)
   | none=>qh
 | qT c=>
   match c.callee,c.args.toList,c.argTypes.toList with
   | qB .append,[s,x],[t,u]=>if t=u then fI P A t u (r s) (r x) else rt P A t u (r s) (r x)
   | qB .clear,[x],[t]=>
     match L4 P A t (r x) with
     | some A1=>qc (qz,A1)
     | none=>qh
   | _,_,_=>qh
 | _=>qh
def Yield (P:ql) (r':qy->qd) (o:qx) (w w':qs) (v':qd):Prop:=
 (qM r' o).run P w=qH (.value v') w'\/((qM r' o).run P w=qH .skip w'/\v'=qz)
theorem aai {P:ql} {m:Mp} {A A1:AW} {w:qs} (hs:k7 m A w) {o:qx} {r r':qy->qd} {v:qd} (hr:∀x∈o.op.operands,bP m (r x) (r' x))
 (h:ae P A r o.op=qc (v,A1)):∃v' w' m',Yield P r' o w w' v'/\lb m A w m' A1 w'/\bP m' v v':=by
 obtain⟨dst,op,ty,pos,after,guard⟩:=o;have vH:∀{s:Sem qd} {v':qd} {w w':qs},s.run P w=qH v' w'->(do pure (.value (<-s)):Sem Next).run P w=qH (.value v') w':=λ{s v' w w'} e=>by
  simp only [Zj,e,Zi,Zu]
 cases op<;>simp only [ae] at h<;>(try (cases h;done))
 case alloc t=>
  obtain⟨v',w',m',h1,h2,h3⟩:=Mb hs h;exact⟨v',w',m',qq (vH h1),h2,h3⟩
 case box t x=>
  injection h with h;obtain⟨v',w',m',h1,h2,h3⟩:=HO (P:=P) hs t (hr x Yh);rw [h] at h2 h3;exact⟨v',w',m',qq (vH h1),h2,h3⟩
 case buildSlice t len ps=>
  obtain⟨v',w',m',h1,h2,h3⟩:=C1 (P:=P) (m:=m) hs (iP:=ps.map fun(i,x)=>(i,r' x)) h (by simp [uR]) (λk p p' h1 h2=>by
   simp only [uR,ZX,kbc,kag,kbx] at h1 h2;obtain⟨q,h3,rfl⟩:=h1;obtain⟨q',h4,rfl⟩:=h2;rw [h3] at h4;injection h4 with h4;subst h4;exact⟨rfl,hr q.2 Xp⟩)
  exact⟨v',w',m',qq (vH h1),h2,h3⟩
 case store t x y=>
  have hx:=hr x Yh;split at h
  . rename_i p hp;rw [hp] at hx;generalize yz:r' x=x' at hx;cases hx with
    | M5 ha=>
      rename_i p';split at h;rename_i A2 dw;simp only [Zh,ZE] at h;obtain⟨rfl,rfl⟩:=h;obtain⟨w',h1,h2⟩:=LR (P:=P) hs dw ha (hr y Yh);refine⟨qz,w',m,qt ⟨?_,rfl⟩,h2,.tuple rfl (λi v v' h=>by simp at h)⟩;simp only [qM,Instr.storeAt,yz,kbD,Zj,Zu,Zi,h1];cases h
  cases h
 case makeSlice t l c=>
  obtain⟨v',w',m',h1,h2,h3⟩:=Oz hs h (hr l Yh) (hr c Yh);exact⟨v',w',m',qq (vH h1),h2,h3⟩
 case makeMap t x=>
  obtain⟨v',w',m',h1,h2,h3⟩:=HI (P:=P) hs h (Af.map (r':=r') x λy e=>hr y YO);exact⟨v',w',m',qq (vH h1),h2,h3⟩
 case mapUpdate t x k y=>
  split at h;rename_i A2 dw;simp only [Zh,ZE] at h;obtain⟨rfl,rfl⟩:=h;obtain⟨w',h1,h2⟩:=vU (P:=P) hs dw (hr x Yh) (hr k Yh) (hr y Yh);refine⟨qz,w',m,qt ⟨?_,rfl⟩,h2,.tuple rfl (λi v v' h=>by simp at h)⟩;simp only [qM,Zj,Zu,Zi,h1];cases h
 case insert t x k y=>
  split at h;rename_i A2 dw;simp only [Zh,ZE] at h;obtain⟨rfl,rfl⟩:=h;obtain⟨w',h1,h2⟩:=vU (P:=P) hs dw (hr x Yh) (hr k Yh) (hr y Yh);refine⟨qz,w',m,qt ⟨?_,rfl⟩,h2,.tuple rfl (λi v v' h=>by simp at h)⟩;simp only [qM,Zj,Zu,Zi,h1];cases h
 case call c=>
  obtain⟨callee,args,argTypes⟩:=c;split at h
  rotate_left
  . rename_i x t h1 h2 h3;simp only at h1 h2 h3;subst h1;have e2:=arr1 h2;have e3:=arr1 h3;subst e2;subst e3;split at h<;>try(cases h;done)
    rename_i A2 dw;simp only [Zh,ZE] at h;obtain⟨rfl,rfl⟩:=h;obtain⟨w',h1,h2⟩:=L3 (P:=P) (ty:=ty) hs dw (hr x Yv);refine⟨qz,w',m,qq ?_,h2,.tuple rfl (λi v v' h=>by simp at h)⟩;simp [qM,resolve,invoke,builtin,h1]
  rotate_left
  rename_i s x t u h1 h2 h3;simp only at h1 h2 h3;subst h1;have e2:=arr2 h2;have e3:=arr2 h3;subst e2;subst e3;have V1:=hr s Yv;have hxv:=hr x Yv;split at h;obtain⟨v',w',m',h1,h2,h3⟩:=LT (P:=P) (ty:=ty) hs h V1 hxv;refine⟨v',w',m',qq ?_,h2,h3⟩;simp [qM,resolve,invoke,builtin,h1];obtain⟨v',w',m',h1,h2,h3⟩:=I6 (P:=P) (ty:=ty) hs h V1 hxv;refine⟨v',w',m',qq ?_,h2,h3⟩;simp [qM,resolve,invoke,builtin,h1];cases h
end Go.Stx
namespace Go.Stx
open Go
variable [Gl]
structure uV (m:Mp) (n:Nat) (a:Fr) (ca:Act):Prop where
 size:ca.tmps.size=n
 defers:ca.defers=[]
 rel:∀i,i<n->bP m (a i) (ca.tmps.getD i undef)
 yB:OI m
theorem uV.mono {m m':Mp} (hm:Mp.le m m') {n:Nat} {a:Fr} {ca:Act} (h:uV m n a ca):uV m' n a ca:=⟨h.size,h.defers,λi hi=>(h.rel i hi).mono hm,h.yB.mono hm⟩
theorem bP.undef (m:Mp):bP m qz qz:=.tuple rfl λi v v' h=>by simp at h
def AX (n:Nat):qy->Bool
 | .tmp t=>decide (t<n)
 | .const v=>zI v
 | .global g=>Gl.ok g
 | .func _=>qg
def oy (n:Nat) (o:qx):Bool:=
 o.op.operands.all (AX n) && (match o.dst with|some d=>decide (d<n)|none=>qg)
def mu (n:Nat):Code->Bool
 | .region _ bQ _=>bQ.all (oy n)
 | .seq a b=>mu n a && mu n b
 | .cond c a b=>AX n c && mu n a && mu n b
 | .block _ b=>mu n b
 | .loop b=>mu n b
 | .skip=>qg
 | .exit _=>qg
 | .ret=>qg
 | _=>qk
theorem uV.eval {m:Mp} {n:Nat} {a:Fr} {ca:Act} (h:uV m n a ca) {x:qy} (hx:AX n x=qg):bP m (jt a x) (ca.eval x):=by
 cases x with
 | tmp t=>exact h.rel t (by simpa [AX] using hx)
 | const v=>exact bP.zp (v:=v) (by simpa [AX] using hx) m
 | global g=>
   exact .M5 ⟨rfl,rfl,_,h.yB g hx,rfl,(ZZ 0).symm⟩
 | func f=>exact .func _ rfl rfl (λi v v' h=>by simp at h) (λi v v' h=>by simp at h)
theorem uV.put {m:Mp} {n:Nat} {a:Fr} {ca:Act} (h:uV m n a ca) {d:Option Tmp} (hd:∀i,d=qc i->i<n) {v v':qd} (hv:bP m v v') :
 uV m n (fk a d v) (ca.put d v'):=by
 cases d with
 | none=>exact h
 | some i=>
   refine⟨by simp [Act.put,h.size],by simp [Act.put,h.defers],λj hj=>?_,h.yB⟩;have hi:=hd i rfl;simp only [fk,lQ,Act.put];by_cases e:j=i;subst e;rw [ay rfl];simp [kar,h.size,hi];exact hv;rw [aw e];have:=h.rel j hj;rw [kar] at this ⊢;rw [kbs Ya];exact this
def kW (P:ql) (f:qJ):Bool:=
 match P.funcs[f]? with
 | some fn=>!(fn.name == "runtime.NumGoroutine") && fn.body.isSome
 | none=>qk
def aB (P:ql) (f:qJ) (args:List qd) (A:AW) (R:qd->AW->Prop):Prop:=
 kW P f=qg/\∀(m:Mp) (w:qs) (iq:Array qd),k7 m A w->jB m args iq.toList->
  Calls P f iq w λe w'=>∃v v' m' A',e=.returned v'/\lb m A w m' A' w'/\bP m' v v'/\R v A'
theorem aB.mono {P:ql} {f:qJ} {args:List qd} {A:AW} {R R':qd->AW->Prop} (h:aB P f args A R) (hR:∀v A',R v A'->R' v A'):aB P f args A R':=
 ⟨h.1,λm w iq hs hl=>(h.2 m w iq hs hl).mono λ_ _ ⟨v,v',m',A',h1,h2,h3,h4⟩=>⟨v,v',m',A',h1,h2,h3,hR _ _ h4⟩⟩
def BC (P:ql) (op:Op) (r:qy->qd) (A:AW) (k:qd->AW->Prop):Prop:=
 match op with
 | qT c=>
   match c.callee with
   | .value x=>
     match r x with
     | .func (.func f) fs cs=>aB P f (fs.toList++c.args.toList.map r++cs.toList) A k
     | _=>False
   | _=>False
 | _=>False
def jL (P:ql) (op:Op) (r:qy->qd) (A:AW) (k:qd->AW->Prop):Prop:=
 match aq P A r op with
 | some v=>k v A
 | none=>
   match ae P A r op with
   | some (v,A1)=>k v A1
   | none=>BC P op r A k
theorem KJ {P:ql} {f:qJ} {args:Array qd} (h:kW P f=qg) (w:qs):(callFunc f args).run P w=qH (.enter f args) w:=by
 unfold kW at h;cases hf:P.funcs[f]? with
 | none=>rw [hf] at h;cases h
 | some fn=>
   rw [hf] at h;simp only [Zd,kac] at h;obtain⟨h1,h2⟩:=h;cases hb:fn.body with
   | none=>rw [hb] at h2;cases h2
   | some c=>
     have h1':¬fn.name = "runtime.NumGoroutine":=by simpa using h1
     simp [callFunc,hf,h1',hb]
theorem DZ {P:ql} {m:Mp} {A:AW} {w:qs} (hs:k7 m A w) {o:qx} {n:Nat} {a:Fr} {ca:Act} (hf:uV m n a ca) (ho:oy n o=qg)
 {k:qd->AW->Prop} (h:jL P o.op (jt a) A k) {K:Act->qs->Prop} {Q:Exit->Act->qs->Prop}
 (hK:∀v A' m' w' C9,k v A'->lb m A w m' A' w'->uV m' n (fk a o.dst v) C9->K C9 w'):o.wp P ca w K Q:=by
 simp only [oy,Zd] at ho;obtain⟨ho1,ho2⟩:=ho;have hd:∀i,o.dst=qc i->i<n:=λi e=>by rw [e] at ho2;simpa using ho2
 have hr:∀x∈o.op.operands,bP m (jt a x) (ca.eval x):=λx hx=>hf.eval (kaz.1 ho1 x hx);unfold jL at h;split at h;rename_i v hv;obtain⟨v',h1,h2⟩:=aae hs hr hv;unfold Oper.wp;rw [h2 w (Ud.refl w)];exact hK v A m w _ h (lb.refl hs) (hf.put hd h1);split at h;rename_i v A1 hv;obtain⟨v',w',m',h1,h2,h3⟩:=aai hs hr hv;unfold Oper.wp;rcases h1 with h1|⟨h1,rfl⟩;rw [h1];exact hK v A1 m' w' _ h h2 ((hf.mono h2.ext).put hd h3);rw [h1];exact hK v A1 m' w' _ h h2 ((hf.mono h2.ext).put hd h3);unfold BC at h;split at h;rename_i c hc;split at h;rename_i x hx;split at h
 . rename_i f fs cs hfv;obtain⟨dT,h⟩:=h;have hxv:=hr x (by rw [hc];simp [kaW,Call.operands,hx]);rw [hfv] at hxv;generalize hg:ca.eval x=x' at hxv;cases hxv with
   | func _ hx1 hx2 hx3 hx4=>
     rename_i fs' uP;have P3:(qM ca.eval o).run P w=qH (.enter f (fs'++c.args.map ca.eval++uP)) w:=by
      obtain⟨dst,op,ty,pos,after,guard⟩:=o;simp only at hc;subst hc;obtain⟨callee,args,argTypes⟩:=c;simp only at hx;subst hx;simp only [qM,resolve,hg,Deferred.ofValue,invoke,Zj,Zu,Zi,KJ dT]
     unfold Oper.wp;rw [P3,Oper.upon_enter];have hargs:jB m (fs.toList++c.args.toList.map (jt a)++cs.toList) (fs'++c.args.map ca.eval++uP).toList:=by
      simp only [Array.toList_append,Array.toList_map];refine(jB.append (jB.append ⟨by simpa using hx1,λi v v' h1 h2=>hx3 i v v' YC Yu⟩ ⟨by simp,λi v v' h1 h2=>?_⟩) ⟨by simpa using hx2,λi v v' h1 h2=>hx4 i v v' YC Yu⟩);simp only [ZX,kag] at h1 h2;obtain⟨q,h3,rfl⟩:=h1;obtain⟨q',h4,rfl⟩:=h2;rw [h3] at h4;injection h4 with h4;subst h4;refine hr q ?_;rw [hc];simp only [kaW,Call.operands,kbA];exact qt (kah.1 (kaC h3))
     refine(h m w _ hs hargs).mono ?_;rintro e w' ⟨v,v',m',A',rfl,ev,hv,hk⟩;exact hK v A' m' w' _ hk ev ((hf.mono ev.ext).put hd hv)
 exact h.elim;exact h.elim;exact h.elim
def oJ (bQ:Array qx) (a:Fr) (o:qx):Bool:=
 match o.guard with
 | none=>qg
 | some (j,UD)=>
   match (bQ[j]?).bind (·.dst) with
   | some d=>
     match a d with
     | .bool b=>b == UD
     | _=>qk
   | none=>qk
theorem JS {m:Mp} {n:Nat} {a:Fr} {ca:Act} (hf:uV m n a ca) {bQ:Array qx} (GQ:bQ.all (oy n)=qg) (o:qx) :
 Region.wanted o (yielded bQ ca.tmps)=oJ bQ a o:=by
 unfold Region.wanted oJ;cases o.guard with
 | none=>rfl
 | some g=>
   obtain⟨j,UD⟩:=g;simp only [yielded];cases hj:bQ[j]? with
   | none=>simp
   | some oj=>
     simp only [Option.bind_some];cases hd:oj.dst with
     | none=>simp
     | some d=>
       simp only [Option.bind_some];have mF:=kaz.1 GQ oj (kaA hj);simp only [oy,hd,Zd,decide_eq_true_eq] at mF;have bY:d<ca.tmps.size:=(by rw [hf.size];exact mF.2);have hv:=hf.rel d mF.2;rw [kar,ZL bY,Option.getD_some] at hv;rw [ZL bY];generalize a d=x at hv ⊢;generalize ca.tmps[d]=y at hv ⊢;cases hv<;>simp
def Q4 (P:ql) (bQ:Array qx) (K:Fr->AW->Prop):List qx->Fr->AW->Prop
 | [],a,A=>K a A
 | o::fE,a,A=>
   if oJ bQ a o=qg then jL P o.op (jt a) A (λv A'=>Q4 P bQ K fE (fk a o.dst v) A')
   else Q4 P bQ K fE (fk a o.dst qz) A
theorem sM {P:ql} {bQ:Array qx} {n:Nat} (GQ:bQ.all (oy n)=qg) {K:Fr->AW->Prop} {Q:Exit->Act->qs->Prop}:∀(l:List qx) (a:Fr) (A:AW) (m:Mp) (w:qs) (ca:Act),
 (∀o∈l,oy n o=qg)->Q4 P bQ K l a A->k7 m A w->uV m n a ca->
 (∀a' A' m' w' C9,K a' A'->lb m A w m' A' w'->uV m' n a' C9->Q qG C9 w')->wpList P bQ Q l ca w
 | [],a,A,m,w,ca,_,h,hs,hf,hK=>hK a A m w ca h (lb.refl hs) hf
 | o::fE,a,A,m,w,ca,hl,h,hs,hf,hK=>by
   unfold Q4 at h;unfold wpList;rw [JS hf GQ o];split at h;rename_i hg;rw [ay hg];refine qq (DZ hs hf (hl o Yb) h ?_);intro v A' m' w' C9 hk ev EX;exact sM GQ fE _ _ m' w' C9 (λx hx=>hl x YB) hk ev.HX EX (λa2 A2 m2 w2 ca2 h1 h2 h3=>hK a2 A2 m2 w2 ca2 h1 (ev.trans h2) h3);rename_i hg;rw [aw hg];have ho:=hl o Yb;simp only [oy,Zd] at ho;have hd:∀i,o.dst=qc i->i<n:=λi e=>by have:=ho.2;rw [e] at this;simpa using this
   exact sM GQ fE _ _ m w _ (λx hx=>hl x YB) h hs (hf.put hd (bP.undef m)) hK
def cM (P:ql) (n:Nat) (c:Code) (Q:Exit->Fr->AW->Prop) (a:Fr) (A:AW):Prop:=
 mu n c=qg->∀(m:Mp) (w:qs) (ca:Act),k7 m A w->uV m n a ca->
  c.wp P (λe C9 w'=>∃m' a' A',lb m A w m' A' w'/\uV m' n a' C9/\Q e a' A') ca w
section
variable {P:ql} {n:Nat} {Q:Exit->Fr->AW->Prop} {a:Fr} {A:AW}
theorem CN {c:Code} {Q':Exit->Fr->AW->Prop} (h:cM P n c Q a A) (hq:∀e a A,Q e a A->Q' e a A):cM P n c Q' a A:=
 λmF m w ca hs hf=>wp_mono (h mF m w ca hs hf) λe C9 w' ⟨m',a',A',h1,h2,h3⟩=>⟨m',a',A',h1,h2,hq _ _ _ h3⟩
theorem QH {id:Nat} {bQ:Array qx} (h:Q4 P bQ (Q qG) bQ.toList a A):cM P n (.region id bQ qk) Q a A:=by
 intro mF m w ca hs hf;have GQ:bQ.all (oy n)=qg:=mF;refine wp_region_list (sM GQ _ _ _ m w ca (λo ho=>kaz.1 GQ o (kah.1 ho)) h hs hf ?_);intro a' A' m' w' C9 hk ev EX;exact⟨m',a',A',ev,EX,hk⟩
theorem W8 (h:Q qG a A):cM P n .skip Q a A:=λ_ m w ca hs hf=>wp_skip ⟨m,a,A,lb.refl hs,hf,h⟩
theorem aab {id:Nat} (h:Q (.exit id) a A):cM P n (.exit id) Q a A:=λ_ m w ca hs hf=>wp_exit ⟨m,a,A,lb.refl hs,hf,h⟩
theorem R7 (h:Q .ret a A):cM P n .ret Q a A:=λ_ m w ca hs hf=>wp_ret ⟨m,a,A,lb.refl hs,hf,h⟩
def aS (next:Fr->AW->Prop) (Q:Exit->Fr->AW->Prop):Exit->Fr->AW->Prop
 | qG,a,A=>next a A
 | e,a,A=>Q e a A
theorem aT {x y:Code} (h:cM P n x (aS (cM P n y Q) Q) a A):cM P n (.seq x y) Q a A:=by
 intro mF m w ca hs hf;simp only [mu,Zd] at mF;refine wp_seq (wp_mono (h mF.1 m w ca hs hf) ?_);rintro e C9 w' ⟨m',a',A',ev,EX,hq⟩;cases e with
 | normal=>
   refine wp_mono (hq mF.2 m' w' C9 ev.HX EX) ?_;rintro e ca2 w2 ⟨m2,a2,A2,Qs,Lv,RJ⟩;exact⟨m2,a2,A2,ev.trans Qs,Lv,RJ⟩
 | exit id=>exact⟨m',a',A',ev,EX,hq⟩
 | goto l=>exact⟨m',a',A',ev,EX,hq⟩
 | ret=>exact⟨m',a',A',ev,EX,hq⟩
 | panic ch=>exact⟨m',a',A',ev,EX,hq⟩
 | outgrown=>exact⟨m',a',A',ev,EX,hq⟩
theorem aac {c:qy} {x y:Code} {b:Bool} (hc:jt a c=.bool b) (h1:b=qg->cM P n x Q a A) (h2:b=qk->cM P n y Q a A):cM P n (.cond c x y) Q a A:=by
 intro mF m w ca hs hf;simp only [mu,Zd] at mF;have hv:=hf.eval mF.1.1;rw [hc] at hv;generalize hg:ca.eval c=x' at hv;cases hv;exact wp_cond_split hg (λe=>h1 e mF.1.2 m w ca hs hf) (λe=>h2 e mF.2 m w ca hs hf)
def cZ (id:Nat) (Q:Exit->Fr->AW->Prop):Exit->Fr->AW->Prop
 | .exit id',a,A=>if id'=id then Q qG a A else Q (.exit id') a A
 | e,a,A=>Q e a A
theorem TZ {id:Nat} {c:Code} (h:cM P n c (cZ id Q) a A):cM P n (.block id c) Q a A:=by
 intro mF m w ca hs hf;refine wp_block (wp_mono (h mF m w ca hs hf) ?_);rintro e C9 w' ⟨m',a',A',ev,EX,hq⟩;cases e with
 | exit id'=>
   simp only [Exit.inBlock];simp only [cZ] at hq;split;rename_i e;rw [ay e] at hq;exact⟨m',a',A',ev,EX,hq⟩;rename_i e;rw [aw e] at hq;exact⟨m',a',A',ev,EX,hq⟩
 | normal=>exact⟨m',a',A',ev,EX,hq⟩
 | goto l=>exact⟨m',a',A',ev,EX,hq⟩
 | ret=>exact⟨m',a',A',ev,EX,hq⟩
 | panic ch=>exact⟨m',a',A',ev,EX,hq⟩
 | outgrown=>exact⟨m',a',A',ev,EX,hq⟩
theorem df {c:Code} (I:Nat->Fr->AW->Prop) (n₀:Nat) (h₀:I n₀ a A)
 (round:∀k a A,I k a A->cM P n c (aS (λa' A'=>∃k',k'<k/\I k' a' A') Q) a A):cM P n (.loop c) Q a A:=by
 intro mF m w ca hs hf;refine wp_loop_ghost (λk C9 w'=>∃m' a' A',lb m A w m' A' w'/\uV m' n a' C9/\I k a' A') n₀ ⟨m,a,A,lb.refl hs,hf,h₀⟩ ?_;rintro k C9 w' ⟨m',a',A',ev,EX,hI⟩;refine wp_mono (round k a' A' hI mF m' w' C9 ev.HX EX) ?_;rintro e ca2 w2 ⟨m2,a2,A2,Qs,Lv,hq⟩;cases e with
 | normal=>
   obtain⟨k',bY,hI'⟩:=hq;exact⟨k',bY,m2,a2,A2,ev.trans Qs,Lv,hI'⟩
 | exit id=>exact⟨m2,a2,A2,ev.trans Qs,Lv,hq⟩
 | goto l=>exact⟨m2,a2,A2,ev.trans Qs,Lv,hq⟩
 | ret=>exact⟨m2,a2,A2,ev.trans Qs,Lv,hq⟩
 | panic ch=>exact⟨m2,a2,A2,ev.trans Qs,Lv,hq⟩
 | outgrown=>exact⟨m2,a2,A2,ev.trans Qs,Lv,hq⟩
end
def aR (P:ql) (a:Fr) (A:AW):ResultVar->Option qd
 | .tmp t=>qc (a t)
 | .cell p t=>
   match a p with
   | .pointer (qc q)=>ir P A t q
   | _=>qh
def aQ (P:ql) (a:Fr) (A:AW):List ResultVar->Option (List qd)
 | []=>qc []
 | r::rs=>
   match aR P a A r,aQ P a A rs with
   | some v,qc vs=>qc (v::vs)
   | _,_=>qh
def bA (P:ql) (a:Fr) (A:AW) (rs:List ResultVar):Option qd:=
 match aQ P a A rs with
 | some [v]=>qc v
 | some vs=>qc (.tuple vs.toArray)
 | none=>qh
def Ju (n:Nat):ResultVar->Bool
 | .tmp t=>decide (t<n)
 | .cell p _=>decide (p<n)
def KL (tmps:Array qd):ResultVar->Sem qd
 | .tmp t=>pure (tmps.getD t qz)
 | .cell a t=>do loadVar t (<-asAddr (tmps.getD a qz))
theorem Pd (fn:Func) (tmps:Array qd) :
 results fn tmps=(fn.results.mapM (KL tmps) >>= λvs=>pure (if h:vs.size=1 then vs[0] else .tuple vs):Sem qd):=by
 unfold results;congr 2
theorem Ot {P:ql} {m:Mp} {A:AW} {w:qs} (hs:k7 m A w) {n:Nat} {a:Fr} {ca:Act} (hf:uV m n a ca) {r:ResultVar} (mF:Ju n r=qg) {v:qd} (h:aR P a A r=qc v) :
 ∃v',bP m v v'/\(KL ca.tmps r).run P w=qH v' w:=by
 cases r with
 | tmp t=>
   injection h with h;subst h;exact⟨_,hf.rel t (by simpa [Ju] using mF),rfl⟩
 | cell p t=>
   simp only [aR] at h;split at h
   . rename_i q hq;have hv:=hf.rel p (by simpa [Ju] using mF);rw [hq] at hv;generalize hg:ca.tmps.getD p qz=x' at hv;cases hv with
     | M5 ha=>
       obtain⟨v',h1,h2⟩:=OB (P:=P) hs h ha;refine⟨v',h2,?_⟩;simp only [KL,hg,asAddr,Zj,Zu,Zi,h1]
   cases h
theorem Ev {P:ql} {m:Mp} {A:AW} {w:qs} (hs:k7 m A w) {n:Nat} {a:Fr} {ca:Act} (hf:uV m n a ca):∀(rs:List ResultVar) (vs:List qd),rs.all (Ju n)=qg->
 aQ P a A rs=qc vs->∃D0,jB m vs D0/\(rs.mapM (KL ca.tmps)).run P w=qH D0 w
 | [],vs,_,h=>by injection h with h;subst h;exact⟨[],.nil,rfl⟩
 | r::rs,vs,mF,h=>by
   unfold aQ at h;simp only [List.all_cons,Zd] at mF;split at h;rename_i v vs1 hv PY;injection h with h;subst h;obtain⟨v',h1,h2⟩:=Ot (P:=P) hs hf mF.1 hv;obtain⟨D0,h3,h4⟩:=Ev hs hf rs vs1 mF.2 PY;refine⟨v'::D0,.cons h1 h3,?_⟩;simp only [List.mapM_cons,Zj,h2,Zi,h4,Zu];cases h
theorem QQ {P:ql} {m:Mp} {A:AW} {w:qs} (hs:k7 m A w) {fn:Func} {n:Nat} {a:Fr} {ca:Act} (hf:uV m n a ca) (mF:fn.results.toList.all (Ju n)=qg) {v:qd}
 (h:bA P a A fn.results.toList=qc v):∃v',bP m v v'/\(results fn ca.tmps).run P w=qH v' w:=by
 unfold bA at h;cases hl:aQ P a A fn.results.toList with
 | none=>rw [hl] at h;cases h
 | some vs=>
   obtain⟨D0,h1,h2⟩:=Ev (P:=P) hs hf _ _ mF hl;have h3:=ya (P:=P) _ fn.results D0 h2;rw [hl] at h;have P3:∀(x:qd),(if h:D0.toArray.size=1 then D0.toArray[0] else .tuple D0.toArray)=x->(results fn ca.tmps).run P w=qH x w:=λx e=>by
    rw [Pd,Zj,h3];simp only [Zi,Zu,e]
   split at h;rename_i u hu;injection hu with hu;injection h with h;subst hu;subst h;obtain⟨v',t',rfl,hv,ht⟩:=h1.nj;have:=ht.sj;subst this;exact⟨v',hv,P3 v' Yb⟩;rename_i us gZ hu;injection hu with hu;injection h with h;subst hu;subst h;refine⟨.tuple D0.toArray,.tuple (by simpa using h1.1) (λi x x' e1 e2=>h1.2 i x x' (by simpa using e1) (by simpa using e2)),P3 _ ?_⟩;rw [dif_neg];intro e;have e1:D0.length=1:=by simpa using e
   rw [<-h1.1] at e1;obtain⟨x,rfl⟩:=List.length_eq_one_iff.1 e1;exact gZ x rfl;rename_i hu;cases hu
def GM (args:List qd):Fr:=λi=>args.getD i qz
def N9 (fn:Func) (nargs:Nat):Bool:=
 decide (nargs<=fn.ntmps) && !(fn.name == "runtime.NumGoroutine") && fn.results.toList.all (Ju fn.ntmps) && (match fn.body with|some c=>mu fn.ntmps c|none=>qk)
def aX (P:ql) (fn:Func) (R:qd->AW->Prop):Exit->Fr->AW->Prop
 | qG,a,A=>∃v,bA P a A fn.results.toList=qc v/\R v A
 | .ret,a,A=>∃v,bA P a A fn.results.toList=qc v/\R v A
 | _,_,_=>False
theorem L6 {P:ql} {f:qJ} {fn:Func} {c:Code} {args:List qd} {A:AW} {R:qd->AW->Prop} (hf:P.funcs[f]? = qc fn) (hb:fn.body=qc c) (mF:N9 fn args.length=qg)
 (h:cM P fn.ntmps c (aX P fn R) (GM args) A):aB P f args A R:=by
 simp only [N9,hb,Zd,decide_eq_true_eq,kac] at mF;obtain⟨⟨⟨h1,h2⟩,h3⟩,h4⟩:=mF;refine⟨by simp [kW,hf,h2,hb],λm w iq hs hl=>?_⟩;refine calls_of_wp hf hb (wp_mono (h h4 m w _ hs ?_) ?_);have xQ:iq.size=args.length:=by have:=hl.1;simp at this;omega
 refine⟨by simp [xQ];omega,rfl,λi hi=>?_,hs.yB⟩;simp only [GM,Za,kar];by_cases bY:i<args.length;have e1:=q9 bY;have hlt':i<iq.size:=Ya
 have e2:iq.toList[i]? = qc iq[i]:=by simp [hlt']
 rw [e1,kbU hlt',ZL hlt'];exact hl.2 i _ _ e1 e2;rw [Zx Ya,Array.getElem?_append_right Ya];simp only [Option.getD_none];rw [Array.getElem?_replicate];split;exact bP.undef m;exact bP.undef m;rintro e C9 w' ⟨m',a',A',ev,EX,hq⟩
 have bX:∀(hx:∃v,bA P a' A' fn.results.toList=qc v/\R v A'),C9.defers=[]/\∃v,(results fn C9.tmps).run P w'=qH v w'/\
  ∃v0 v' m' A',Ending.returned v=.returned v'/\lb m A w m' A' w'/\bP m' v0 v'/\R v0 A':=by
  rintro ⟨v,hv,hR⟩;obtain⟨v',h5,h6⟩:=QQ ev.HX EX h3 hv;exact⟨EX.defers,v',h6,v,v',m',A',rfl,ev,h5,hR⟩
 cases e with
 | normal=>exact bX hq
 | ret=>exact bX hq
 | exit id=>exact hq.elim
 | goto l=>exact hq.elim
 | panic ch=>exact hq.elim
 | outgrown=>exact hq.elim
theorem k7.look {m:Mp} {A:AW} {w:qs} (hs:k7 m A w) {g:Nat} {cs:List qd} {jy:Array qd} {e:qr} {fr:Nat×Nat} (hg:Gl.ok g=qg) (hB:Gl.B g=qc (.cells jy e fr))
 (hc:∀(k:Nat) (v:qd),cs[k]? = qc v->jy[k]? = qc v/\gg v=qg):k7 m (A.set g (qc (.cells cs qk 1))) w/\∀i o p,A.bk i=qc o->o.own=qg->m i=qc p->i≠g:=by
 have hmg:=hs.yB g hg;have gZ:∀i o p,A.bk i=qc o->o.own=qg->m i=qc p->i≠g:=λi o p hi ho hm e=>by
  subst e;rw [hmg] at hm;injection hm with hm;have:=hs.Cp i o _ hi ho hmg;rw [hB] at this;cases this
 have bY:g<A.next:=by
  rcases Nat.lt_or_ge g A.next with h|h;exact h;rw [hs.ur g h] at hmg;cases hmg
 have ey:∀{i o},(A.set g (qc (.cells cs qk 1))).bk i=qc o->i≠g->A.bk i=qc o:=λ{i o} h hi=>by rwa [AW.aZ hi] at h
 have mR:∀{i o},(A.set g (qc (.cells cs qk 1))).bk i=qc o->o.own=qg->i≠g:=λ{i o} h ho e=>by
  subst e;rw [AW.bV] at h;injection h with h;subst h;cases ho
 refine⟨⟨?_,?_,hs.ur,?_,hs.laid,?_,hs.yB⟩,gZ⟩;intro i o hi;by_cases e1:i=g;subst e1;rw [AW.bV] at hi;injection hi with hi;subst hi;refine⟨_,hmg,jy,e,fr,hs.laid _ _ hB,λh=>YD,rfl,by simp [Qj,hB],λk v hv=>?_⟩;obtain⟨h1,h2⟩:=hc k v hv;exact⟨v,by rw [ZZ];exact h1,.kS h2 m⟩;exact hs.IC i o (ey hi e1);intro i j o o' p p' hi ho hj hij V9 hpj;have BI:=ey hi (mR hi ho);by_cases e1:j=g;subst e1;rw [hmg] at hpj;injection hpj with hpj;subst hpj;intro e2;have:=hs.Cp i o p BI ho V9;rw [e2] at this;rw [hB] at this;cases this;exact hs.inj i j o o' p p' BI ho (ey hj e1) hij V9 hpj;intro i hi;have wZ:A.next<=i:=hi;rw [AW.aZ Ya];exact hs.zQ i wZ;intro i o p hi ho hm;exact hs.Cp i o p (ey hi (mR hi ho)) ho hm
theorem aB.look {P:ql} {f:qJ} {args:List qd} {A:AW} {g:Nat} {cs:List qd} {jy:Array qd} {e:qr} {fr:Nat×Nat} (hg:Gl.ok g=qg) (hB:Gl.B g=qc (.cells jy e fr))
 (hc:∀(k:Nat) (v:qd),cs[k]? = qc v->jy[k]? = qc v/\gg v=qg) {R:qd->AW->Prop} (h:aB P f args (A.set g (qc (.cells cs qk 1))) R):aB P f args A R:=by
 refine⟨h.1,λm w iq hs hl=>?_⟩;obtain⟨Tj,gZ⟩:=hs.look hg hB hc;have own:∀b,OwnB m (A.set g (qc (.cells cs qk 1))) b↔OwnB m A b:=λb=>by
  constructor;rintro ⟨i,o,p,hi,ho,hm,hb⟩;by_cases e1:i=g;subst e1;rw [AW.bV] at hi;injection hi with hi;subst hi;cases ho;rw [AW.aZ e1] at hi;exact⟨i,o,p,hi,ho,hm,hb⟩;rintro ⟨i,o,p,hi,ho,hm,hb⟩;exact⟨i,o,p,by rw [AW.aZ (gZ i o p hi ho hm)];exact hi,ho,hm,hb⟩
 have hused:∀b,Sh m (A.set g (qc (.cells cs qk 1))) b->Sh m A b\/Gl.B b≠qh:=by
  rintro b ⟨i,o,p,hi,hm,hb⟩;by_cases e1:i=g;subst e1;rw [hs.yB i hg] at hm;injection hm with hm;subst hm;exact qt (by rw [<-hb];show Gl.B i≠qh;rw [hB];exact kbf _);rw [AW.aZ e1] at hi;exact qq ⟨i,o,p,hi,hm,hb⟩
 refine(h.2 m w iq Tj hl).mono ?_;rintro e' w' ⟨v,v',m',A',rfl,ev,hv,hR⟩;exact⟨v,v',m',A',rfl,⟨ev.ext,ev.HX,ev.next,ev.os,ev.tape,ev.output,ev.size,λb hb ho=>ev.uY b hb (λh=>ho ((own b).1 h)),λb hb=>(ev.grow b hb).imp (own b).1 id,ev.mS,λb hb=>match ev.used b hb with | qq h1=>(hused b h1).imp id qt | qt h1=>qt h1⟩,hv,hR⟩
end Go.Stx
namespace Go.Stx
open Go
variable [Gl]
def eh.ro:eh->eh
 | .cells cs _ u=>.cells cs qk u
 | .map es _=>.map es qk
theorem eh.Pc (o:eh):o.ro.own=qk:=by cases o<;>rfl
theorem oS.ro {m:Mp} {w:qs} {p:Pl} {o:eh} (h:oS m w p o):oS m w p o.ro:=by
 cases o with
 | cells cs own u=>
   obtain⟨jy,e,fr,h2,h3,h4⟩:=h;exact⟨jy,e,fr,h2,λh=>YD,h4⟩
 | map es own=>exact h
def AW.ro (A:AW):AW:={ A with bk:=λi=>(A.bk i).map eh.ro }
theorem AW.KK {A:AW} {i:Nat} {o:eh} (h:A.ro.bk i=qc o):∃o',A.bk i=qc o'/\o=o'.ro:=by
 simp only [AW.ro,kag] at h;obtain⟨o',h1,h2⟩:=h;exact⟨o',h1,h2.symm⟩
theorem k7.ro {m:Mp} {A:AW} {w:qs} (hs:k7 m A w):k7 m A.ro w:=by
 refine⟨λi o hi=>?_,λi j o o' p p' hi ho=>?_,hs.ur,λi hi=>?_,hs.laid,λi o p hi ho=>?_,hs.yB⟩;obtain⟨o',hg,rfl⟩:=AW.KK hi;obtain⟨p,h1,h2⟩:=hs.IC _ _ hg;exact⟨p,h1,h2.ro⟩;obtain⟨o',hg,rfl⟩:=AW.KK hi;rw [eh.Pc] at ho;cases ho;simp [AW.ro,hs.zQ i hi];obtain⟨o',hg,rfl⟩:=AW.KK hi;rw [eh.Pc] at ho;cases ho
structure Jc (w w':World):Prop where
 ext:Ud w w'
 os:w'.os=w.os
 tape:w'.tape=w.tape
 output:w'.output=w.output
 size:w.heap.size<=w'.heap.size
theorem Jc.refl (w:qs):Jc w w:=⟨Ud.refl w,rfl,rfl,rfl,qZ _⟩
theorem Jc.evo {m:Mp} {A:AW} {w w':qs} (hs:k7 m A w) (h:Jc w w'):lb m A w m A w':=
 ⟨Mp.le_refl m,h.ext.HX hs,qZ _,h.os,h.tape,h.output,h.size,λb hb _=>h.ext b hb,λ_ h=>qq h,λ_ _=>rfl,λ_ h=>qq h⟩
theorem Jc.drew (w:qs):Jc w w.drew:=⟨λ_ _=>rfl,rfl,rfl,rfl,qZ _⟩
def za (P:ql) (f:qJ) (args:List qd) (A:AW) (v:qd):Prop:=
 kW P f=qg/\gg v=qg/\∀(m:Mp) (w:qs) (iq:Array qd),k7 m A w->jB m args iq.toList->Calls P f iq w λe w'=>e=.returned v/\Jc w w'
theorem bP.oM {m:Mp} {v v':qd} (hv:gg v=qg) (h:bP m v v'):v'=v:=by
 cases h<;>first|rfl|(simp [gg] at hv;done)
theorem za.of_call {P:ql} {f:qJ} {args:List qd} {A:AW} {v:qd} (hv:gg v=qg) (h:aB P f args A.ro λv' _=>v'=v):za P f args A v:=by
 refine⟨h.1,hv,λm w iq hs hl=>(h.2 m w iq hs.ro hl).mono ?_⟩;rintro e w' ⟨u,u',m',A',rfl,ev,hr,rfl⟩;have:=hr.oM hv;subst this;refine⟨rfl,⟨λb hb=>ev.uY b hb ?_,ev.os,ev.tape,ev.output,ev.size⟩⟩;rintro ⟨i,o,p,hi,C6,_⟩;obtain⟨o',_,rfl⟩:=AW.KK hi;rw [eh.Pc] at C6;cases C6
theorem za.call {P:ql} {f:qJ} {args:List qd} {A:AW} {v:qd} (h:za P f args A v) {R:qd->AW->Prop} (hR:R v A):aB P f args A R:=by
 refine⟨h.1,λm w iq hs hl=>(h.2.2 m w iq hs hl).mono ?_⟩;rintro e w' ⟨rfl,hk⟩;exact⟨v,v,m,A,rfl,hk.evo hs,.kS h.2.1 m,hR⟩
def APureK (P:ql) (op:Op) (r:qy->qd) (A:AW) (k:qd->Prop):Prop:=
 match op with
 | qT c=>
   match c.callee with
   | .value x=>
     match r x with
     | .func (.func f) fs cs=>∃v,za P f (fs.toList++c.args.toList.map r++cs.toList) A v/\k v
     | _=>False
   | _=>False
 | _=>False
def AQStep (P:ql) (op:Op) (r:qy->qd) (A:AW) (k:qd->Prop):Prop:=
 match aq P A r op with
 | some v=>k v
 | none=>APureK P op r A k
end Go.Stx
namespace Go.Stx
open Go
variable [Gl]
@[simp] theorem Sm (a:Fr) (i j:Nat) (v:qd):lQ a i v j=if j=i then v else a j:=rfl
@[simp] theorem initF_zero (v:qd) (l:List qd):GM (v::l) 0=v:=rfl
@[simp] theorem initF_succ (v:qd) (l:List qd) (i:Nat):GM (v::l) (i+1)=GM l i:=rfl
@[simp] theorem putF_some (a:Fr) (i:Nat) (v:qd):fk a (qc i) v=lQ a i v:=rfl
@[simp] theorem putF_none (a:Fr) (v:qd):fk a qh v=a:=rfl
@[simp] theorem evF_tmp (a:Fr) (t:Nat):jt a (.tmp t)=a t:=rfl
@[simp] theorem evF_const (a:Fr) (v:qd):jt a (.const v)=v:=rfl
@[simp] theorem evF_func (a:Fr) (f:qJ):jt a (.func f)=.func (.func f) #[] #[]:=rfl
@[simp] theorem cells_int (k:qw) (n:Int):(Zb k n).cells = #[.int k n]:=rfl
@[simp] theorem cells_bool (b:Bool):(Value.bool b).cells = #[.bool b]:=rfl
@[simp] theorem cells_string (s:ByteArray):(Value.string s).cells = #[.string s]:=rfl
@[simp] theorem cells_pointer (a:Option qL):(Value.pointer a).cells = #[.pointer a]:=rfl
@[simp] theorem cells_slice (a:Option qL) (n c:Nat):(Value.slice a n c).cells = #[.slice a n c]:=rfl
@[simp] theorem cells_map (r:Option Nat):(Value.map r).cells = #[.map r]:=rfl
@[simp] theorem cells_func (fn:Fn) (x y:Array qd):(Value.func fn x y).cells = #[.func fn x y]:=rfl
@[simp] theorem cells_nilFunc:Value.nilFunc.cells = #[.nilFunc]:=rfl
@[simp] theorem W5:Value.nilIface.cells = #[.nilIface]:=rfl
@[simp] theorem cells_iface (t:qr) (v:qd):(Value.iface t v).cells = #[.iface t v]:=rfl
@[simp] theorem cells_agg (cs:Array qd):(Value.agg cs).cells=cs:=rfl
attribute [simp] fY Ou fB uR uv Mc Ma DP CP gg zI
attribute [simp] oO xh LY GH ir L0 xj apart Bx tA pw aal aag xg
attribute [simp] Se Fv CT CS gS fw yV nN L4 xk sL yW
attribute [simp] jL AQStep aq ae aS cZ aX bA aQ aR abin E3 Lj aun Sd
@[simp] theorem D7 (k0 k:qw) (a b:Int):kab (.int k0) (.int k a) (.int k b)=qc (a == b):=by simp [kab]
@[simp] theorem Mj (K:Fr->AW->Prop) (Q:Exit->Fr->AW->Prop):aS K Q qG=K:=rfl
structure SOp where
 dst:Option Tmp
 op:Op
 guard:Option (Option Tmp×Bool)
def mJ (bQ:Array qx) (g:Option (Nat×Bool)):Option (Option Tmp×Bool):=g.map λx=>((bQ[x.1]?).bind (·.dst),x.2)
def sg (a:Fr) (g:Option (Option Tmp×Bool)):Bool:=
 match g with
 | none=>qg
 | some (qc d,UD)=>
   match a d with
   | .bool b=>b == UD
   | _=>qk
 | some (qh,_)=>qk
theorem Rc (bQ:Array qx) (a:Fr) (o:qx):oJ bQ a o=sg a (mJ bQ o.guard):=by
 unfold oJ sg mJ;cases o.guard with
 | none=>rfl
 | some g=>
   obtain⟨j,UD⟩:=g;simp only [kaN];cases (bQ[j]?).bind (·.dst)<;>rfl
theorem jL.mono {P:ql} {op:Op} {r:qy->qd} {A:AW} {k k':qd->AW->Prop} (h:∀v A',k v A'->k' v A') (hh:jL P op r A k):jL P op r A k':=by
 unfold jL at *;split at hh;exact h _ _ hh;split at hh;exact h _ _ hh;unfold BC at *;split at hh;split at hh;split at hh;exact hh.mono h;exact hh;exact hh;exact hh
attribute [simp] sg
theorem VU {c:Prop} [Decidable c] {p q:Prop} (h1:c->p) (h2:¬c->q):if c then p else q:=by
 split;exact h1 ‹_›;exact h2 ‹_›
def AW.Wf (A:AW):Prop:=∀i,A.next<=i->A.bk i=qh
theorem AW.Wf.lt {A:AW} (h:A.Wf) {i:Nat} {o:eh} (hg:A.bk i=qc o):i<A.next:=by
 rcases Nat.lt_or_ge i A.next with h1|h1;exact h1;rw [h i h1] at hg;cases hg
@[simp] theorem AW.be (A:AW) (o:eh):(A.alloc o).next=A.next+1:=rfl
@[simp] theorem AW.lC (A:AW) (i:Nat) (o:Option eh):(A.set i o).next=A.next:=rfl
@[simp] theorem AW.bN (A:AW) (o:eh):(A.alloc o).bk A.next=qc o:=by simp [AW.alloc]
theorem AW.gl (A:AW) (o:eh) {i:Nat} (h:i≠A.next):(A.alloc o).bk i=A.bk i:=by simp [AW.alloc,h]
@[simp] theorem AW.set_get_eq (A:AW) (i:Nat) (o:Option eh):(A.set i o).bk i=o:=AW.bV
theorem AW.yc {A:AW} {i:Nat} {cs:List qd} {own:Bool} {u:Nat} (h:A.bk i=qc (.cells cs own u)):A.bS i=qc cs:=by simp [AW.bS,h]
theorem AW.Wf.alloc {A:AW} (h:A.Wf) (o:eh):(A.alloc o).Wf:=λi hi=>by
 simp only [AW.be] at hi;rw [AW.gl _ _ Ya];exact h i Ya
theorem AW.Wf.set {A:AW} (h:A.Wf) {i:Nat} (o:Option eh) (hi:i<A.next):(A.set i o).Wf:=λj hj=>by
 simp only [AW.lC] at hj;rw [AW.aZ Ya];exact h j hj
structure AW.le (A A':AW):Prop where
 next:A.next<=A'.next
 bk:∀i,i<A.next->A'.bk i=A.bk i
theorem AW.le.refl (A:AW):A.le A:=⟨qZ _,λ_ _=>rfl⟩
theorem AW.le.trans {A B C:AW} (h:A.le B) (k:B.le C):A.le C:=⟨ZA h.next k.next,λi hi=>(k.bk i (kaR hi h.next)).trans (h.bk i hi)⟩
theorem AW.le.alloc (A:AW) (o:eh):A.le (A.alloc o):=⟨by simp,λi hi=>AW.gl _ _ Ya⟩
theorem AW.le.set {A B:AW} (h:A.le B) {i:Nat} (hi:A.next<=i) (o:Option eh):A.le (B.set i o):=
 ⟨h.next,λj hj=>by rw [AW.aZ Ya];exact h.bk j hj⟩
theorem AW.le.mS {A B:AW} (h:A.le B) (hw:A.Wf) {i:Nat} {o:eh} (hg:A.bk i=qc o):B.bk i=qc o:=by rw [h.bk i (hw.lt hg)];exact hg
theorem aB.wf {P:ql} {f:qJ} {args:List qd} {A:AW} {R:qd->AW->Prop} (h:aB P f args A R):aB P f args A (λv A'=>R v A'/\A'.Wf/\A.next<=A'.next):=
 ⟨h.1,λm w iq hs hl=>(h.2 m w iq hs hl).mono λ_ _ ⟨v,v',m',A',h1,h2,h3,h4⟩=>⟨v,v',m',A',h1,h2,h3,h4,h2.HX.zQ,h2.next⟩⟩
theorem EF {P:ql} {f:qJ} {fn:Func} {c:Code} {args:List qd} {A:AW} {R:qd->AW->Prop} (hf:P.funcs[f]? = qc fn) (hb:fn.body=qc c) (mF:N9 fn args.length=qg)
 (h:A.Wf->cM P fn.ntmps c (aX P fn R) (GM args) A):aB P f args A R:=by
 have dT:kW P f=qg:=by
  simp only [N9,hb,Zd,decide_eq_true_eq,kac] at mF;simp [kW,hf,mF.1.1.2,hb]
 exact⟨dT,λm w iq hs hl=>(L6 hf hb mF (h hs.zQ)).2 m w iq hs hl⟩
theorem bD {P:ql} {f:qJ} {args:List qd} {A:AW} {R k:qd->AW->Prop} (h:aB P f args A R) (hk:∀v A',R v A'->A'.Wf->A.next<=A'.next->k v A'):aB P f args A k:=
 h.wf.mono λv A' ⟨h1,h2,h3⟩=>hk v A' h1 h2 h3
@[congr] theorem ACall_congr {P:ql} {f:qJ} {args Oq:List qd} {A:AW} {R:qd->AW->Prop} (h:args=Oq):aB P f args A R=aB P f Oq A R:=by rw [h]
@[congr] theorem APure_congr {P:ql} {f:qJ} {args Oq:List qd} {A:AW} {v:qd} (h:args=Oq):za P f args A v=za P f Oq A v:=by rw [h]
@[simp] theorem ACallK_call (P:ql) (x:qy) (args:Array qy) (ts:Array qr) (r:qy->qd) (A:AW) (k:qd->AW->Prop) :
 BC P (qT ⟨.value x,args,ts⟩) r A k=match r x with
  | .func (.func f) fs cs=>aB P f (fs.toList++args.toList.map r++cs.toList) A k
  | _=>False:=rfl
@[simp] theorem APureK_call (P:ql) (x:qy) (args:Array qy) (ts:Array qr) (r:qy->qd) (A:AW) (k:qd->Prop) :
 APureK P (qT ⟨.value x,args,ts⟩) r A k=match r x with
  | .func (.func f) fs cs=>∃v,za P f (fs.toList++args.toList.map r++cs.toList) A v/\k v
  | _=>False:=rfl
def fL (A:AW) (size:Nat) (v:qd) (n:Nat) (cs:List qd):Prop:=
 ((∃o,v=.slice o 0 0)/\n=0/\cs=[]) \/
 ∃p c bS own u,v=.slice (qc p) n c/\n<=c/\A.bk p.block=qc (.cells bS own u)/\u=size/\p.off+n*size<=bS.length/\cs=(bS.drop p.off).take (n*size)
theorem fL.length {A:AW} {size:Nat} {v:qd} {n:Nat} {cs:List qd} (h:fL A size v n cs):cs.length=n*size:=by
 rcases h with ⟨_,rfl,rfl⟩|⟨p,c,bS,own,u,_,_,_,_,h1,rfl⟩;simp;simp;omega
theorem fL.le {A B:AW} (hl:A.le B) (hw:A.Wf) {size:Nat} {v:qd} {n:Nat} {cs:List qd} (h:fL A size v n cs):fL B size v n cs:=by
 rcases h with h|⟨p,c,bS,own,u,h1,h2,h3,h4⟩;exact qq h;exact qt ⟨p,c,bS,own,u,h1,h2,hl.mS hw h3,h4⟩
def bK (A:AW) (k:qw) (v:qd) (l:List Int):Prop:=fL A 1 v l.length (l.map (Zb k))
theorem bK.le {A B:AW} (hl:A.le B) (hw:A.Wf) {k:qw} {v:qd} {l:List Int} (h:bK A k v l):bK B k v l:=fL.le hl hw h
theorem bK.nil (A:AW) (k:qw):bK A k (.slice qh 0 0) []:=qq ⟨⟨qh,rfl⟩,rfl,rfl⟩
theorem fL.bR {A:AW} {size:Nat} {v:qd} {n:Nat} {cs:List qd} (h:fL A size v n cs):∃o c,v=.slice o n c/\n<=c:=by
 rcases h with ⟨⟨o,rfl⟩,rfl,_⟩|⟨p,c,_,_,_,rfl,h,_⟩;exact⟨_,_,rfl,qZ _⟩;exact⟨_,_,rfl,h⟩
theorem bK.cases {A:AW} {k:qw} {v:qd} {l:List Int} (h:bK A k v l) :
 ((∃o,v=.slice o 0 0)/\l=[])\/∃p c bS own,v=.slice (qc p) l.length c/\l.length<=c/\A.bk p.block=qc (.cells bS own 1)/\p.off+l.length<=bS.length/\
   ∀j (hj:j<l.length),bS[p.off+j]? = qc (.int k l[j]):=by
 rcases h with ⟨h1,h2,h3⟩|⟨p,c,bS,own,u,h1,h2,h3,h4,h5,h6⟩;exact qq ⟨h1,ZP h2⟩;subst h4;rw [Nat.mul_one] at h5 h6;refine qt ⟨p,c,bS,own,h1,h2,h3,h5,λj hj=>?_⟩;have h7:(l.map (Zb k))[j]? = ((bS.drop p.off).take l.length)[j]?:=by rw [h6]
 rw [ZX,q9 hj,Z5 hj,Z7] at h7;exact h7.symm
theorem bK.bR {A:AW} {k:qw} {v:qd} {l:List Int} (h:bK A k v l):∃o c,v=.slice o l.length c/\l.length<=c:=fL.bR h
theorem bK.at {A:AW} {k:qw} {o:Option qL} {c n:Nat} {l:List Int} (h:bK A k (.slice o n c) l) {i:Nat} (hi:i<l.length) :
 ∃p bS,o=qc p/\A.bS p.block=qc bS/\bS[p.off+i]? = qc (.int k l[i]):=by
 rcases h.cases with ⟨h1,rfl⟩|⟨p,c,bS,own,h1,_,hg,_,hr⟩;simp at hi;injection h1 with h1 h2 h3;exact⟨p,bS,h1,AW.yc hg,hr i hi⟩
end Go.Stx
