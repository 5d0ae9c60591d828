import Derived.WalkKit
import Derived.MapKept
import Derived.Lib.AppendZerosOnto
import Derived.ChangeKeysEq
import Derived.Laws.StructEq
import Derived.Laws.Cover3
import Derived.Laws.BytesArg
import Derived.Deep.LoopGhost
import Derived.Deep.Quiet
set_option linter.all false
open List renaming length->U
open Array renaming all_eq_true_iff_forall_mem->kaE,foldl_toList->kcf,getD_eq_getD_getElem?->Z8,getElem?_append_left->kcb,getElem?_eq_getElem->ZQ,getElem?_eq_some_iff->Zj,getElem?_map->kbT,getElem?_modify->kbj,getElem?_setIfInBounds_ne->kby,getElem?_toList->kbA,mem_append->kbW,mem_of_getElem?->kaH,mem_toList_iff->kau,range->kaW
open BitVec renaming ofInt->kaz
open Bool renaming and_eq_true->Zg,false_eq_true->Zq,not_eq_true'->kae
open Go.Builtin renaming append_->kao,clear_->kbZ,lenOf->kcp,len_->kb3,zeroCells->kad
open Go.Instr renaming checkKey->kbf,fill->kbv,findNow->kbG,lookup->kbi,mapUpdate->kck,sameBits->kcm,sameNow->Z7,slice->kbJ,sliceAt->kbg,sliceBounds->kbb,sureAddr->kbY
open Go.IntKind renaming i64->Zb
open Go.MapKept renaming run_getObj_map->kbz,run_setObj_map->kcq
open Go.Op renaming equalIn->kan,intArith->kb7,intBits->kbM,intCmp->kbw,operands->kaX
open Go.Result renaming andThen_ok->Zn
open Go.Sem renaming run_bind->Zo,run_pure->ZA
open Go.Value renaming int->Zl,oneCell'->ZK
open List renaming all_eq_true->Zs,eq_nil_of_length_eq_zero->kab,getD_eq_getElem?_getD->Ze,getElem?_append->kbQ,getElem?_append_left->kac,getElem?_append_right->kaK,getElem?_cons_zero->ka7,getElem?_drop->kam,getElem?_eq_getElem->Zf,getElem?_eq_none->ZL,getElem?_eq_some_iff->Zy,getElem?_map->Z6,getElem?_set_ne->ZT,getElem?_set_self->ZN,getElem?_take_of_lt->kak,getElem?_toArray->kaL,length_cons->ZI,length_drop->kaw,length_take->kaf,mem_of_getElem?->kal,perm_middle->kbV,range->Zt
open Nat renaming add_assoc->ZW,add_mul->kaA,le_refl->Za,le_trans->ZE,lt_of_lt_of_le->kaq,min->ka5,zero_add->kag
open Ne renaming symm->Zp
open Option renaming isSome_none->kbS,map_eq_some_iff->kas,map_some->kaR,some_ne_none->kbB
open Option.some renaming injEq->Zd
open Prod.mk renaming injEq->Zk
open Bool renaming false->qn,true->qj
open Go renaming Addr->qM,FuncId->qN,IntKind->qD,Oper->qC,Operand->qA,Program->qp,TypeDesc->qU,TypeId->qy,TypeInfo->qX,Value->qi,World->qz,binOp->qJ,eqGuard->qK,execOp->qR,grownCap->qV,run_underlying->qx,typeInfo->qT,undef->qE,zeroValue->qQ
open Go.Callee renaming builtin->qH
open Go.Exit renaming normal->qG
open Go.Op renaming call->qW
open Go.Result renaming ok->qL
open Go.TypeDesc renaming interface->qY
open Option renaming none->qk,some->qf
open Or renaming inl->qw,inr->qB
namespace Go.Stx
def Ya{p:Prop}(h:p:=by omega):p:=h
def Yb{p:Prop}(h:p:=by simp):p:=h
def Yc{p:Prop}(h:p:=by decide +kernel):p:=h
def Yd{p:Prop}(h:p:=by decide):p:=h
def Ye{p:Prop}(h:p:=by ac_rfl):p:=h
def Yf{p:Prop}(h:p:=by kernel_rfl):p:=h
def Yg{p:Prop}(h:p:=by (simp;omega)):p:=h
def Yh{p:Prop}(h:p:=by simp[Op.operands]):p:=h
def Yi{p:Prop}(h:p:=by (unfold bE;rw[az h0];rfl)):p:=h
def Yj{p:Prop}(h:p:=by (simp<;>omega)):p:=h
def Yk{p:Prop}(h:p:=by rw[wV]):p:=h
def Yl{p:Prop}(h:p:=by simp[aA]):p:=h
def Ym{p:Prop}(h:p:=by cases e):p:=h
def Yn{p:Prop}(h:p:=by (rw[e];trivial)):p:=h
def Yo{p:Prop}(h:p:=by (rw[<-vB];simp;omega)):p:=h
def Yp{p:Prop}(h:p:=by rw[yS]):p:=h
def Yq{p:Prop}(h:p:=by simpa using b):p:=h
def Yr{p:Prop}(h:p:=by simp[Op.operands,Call.operands]):p:=h
def Ys{p:Prop}(h:p:=by (unfold fV;rfl)):p:=h
def Yt{p:Prop}(h:p:=by (rw[h];rfl)):p:=h
def Yu{p:Prop}(h:p:=by simp[hx]):p:=h
def Yv{p:Prop}(h:p:=by simpa using hl):p:=h
def Yw{p:Prop}(h:p:=by simpa using h2):p:=h
def Yy{p:Prop}(h:p:=by (rw[<-vB];simp[yc0])):p:=h
def Yz{p:Prop}(h:p:=by (dsimp only;omega)):p:=h
def YA{p:Prop}(h:p:=by (unfold pF;rw[e])):p:=h
def YB{p:Prop}(h:p:=by simp[hy]):p:=h
def YC{p:Prop}(h:p:=by simpa using h1):p:=h
def YD{p:Prop}(h:p:=by cases h):p:=h
def YE{p:Prop}(h:p:=by simpa using uo):p:=h
def YF{p:Prop}(h:p:=by simp[cy]):p:=h
def YG{p:Prop}(h:p:=by simpa[Nat.ble_eq]using F9):p:=h
def YH{p:Prop}(h:p:=by simp[pb]):p:=h
def YI{p:Prop}(h:p:=by (rw[<-zN];exact hJ2.grow (AW.le.mu A2 _ _) (hz _ _))):p:=h
def YJ{p:Prop}(h:p:=by (rw[<-zN];simp)):p:=h
def YK{p:Prop}(h:p:=by (rw[List.length_append,List.length_singleton];omega)):p:=h
def YL{p:Prop}(h:p:=by (rw[<-IM];simp;omega)):p:=h
def YM{p:Prop}(h:p:=by (simp only[AW.bn];ac_rfl)):p:=h
def YN{p:Prop}(h:p:=by (rw[h2];rfl)):p:=h
def YO{p:Prop}(h:p:=by simp[Op.operands,e]):p:=h
def YP{p:Prop}(h:p:=by simpa using hi):p:=h
def YQ{p:Prop}(h:p:=by (rw[cJ];simp[bj.v])):p:=h
def YR{p:Prop}(h:p:=by (have:=h.kl;omega)):p:=h
def YS{p:Prop}(h:p:=by simpa using ur):p:=h
def YT{p:Prop}(h:p:=by simpa using a):p:=h
def YU{p:Prop}(h:p:=by simpa using h5):p:=h
def YV{p:Prop}(h:p:=by simpa using h):p:=h
def YW{p:Prop}(h:p:=by (unfold eS;rw[az ⟨h0,by dsimp only;omega⟩])):p:=h
def YX{p:Prop}(h:p:=by (rw[AW.bn];omega)):p:=h
def YY{p:Prop}(h:p:=by (rw[<-IM];simp[yb0])):p:=h
def YZ{p:Prop}(h:p:=by simp[bj.v]):p:=h
def Y0{p:Prop}(h:p:=by simp[AW.cU,n1]):p:=h
def Y1{p:Prop}(h:p:=by (rw[h1];decide)):p:=h
def Y4{p:Prop}(h:p:=by (rw[hf]at e;cases e)):p:=h
def Y5{p:Prop}(h:p:=by (rw[hs];decide)):p:=h
def Y9{p:Prop}(h:p:=by (rw[he _ hb];exact hh)):p:=h
def Xa{p:Prop}(h:p:=by (rw[<-hx];exact(Array.getElem?_eq_some_iff.1 e1).1)):p:=h
def Xc{p:Prop}(h:p:=by (rw[<-Rz];simp;omega)):p:=h
def Xd{p:Prop}(h:p:=by simp[bj.v,bj.zero]):p:=h
def Xe{p:Prop}(h:p:=by (have h9:=aj.Th wY<;>simp only[ba,mZ]at h9<;>simp only[h9])):p:=h
def Xf{p:Prop}(h:p:=by (rw[g2]at e;cases e)):p:=h
def Xg{p:Prop}(h:p:=by (show (0:Int)<(U (M 2):Int);rw[hM.l2];decide)):p:=h
def Xh{p:Prop}(h:p:=by (simp only[jS.done,decide_eq_true_eq];omega)):p:=h
def Xi{p:Prop}(h:p:=by (rw[ha]at e;cases e)):p:=h
def Xk{p:Prop}(h:p:=by (unfold pF;dsimp only;rw[e])):p:=h
def Xl{p:Prop}(h:p:=by (rw[List.map_append,hq];rfl)):p:=h
def Xm{p:Prop}(h:p:=by (show -9223372036854775808<=t.pc+1+i.cg;omega)):p:=h
def Xn{p:Prop}(h:p:=by (show t.pc+1+i.cg<=9223372036854775807;omega)):p:=h
def Xo{p:Prop}(h:p:=by (unfold mcI;dsimp only;(exact pA))):p:=h
def Xq{p:Prop}(h:p:=by (simp only[Op.operands,List.mem_toArray,List.mem_map];exact⟨q,Array.mem_toList_iff.2 (Array.mem_of_getElem? h3),rfl⟩)):p:=h
def Xr{p:Prop}(h:p:=by (rw[<-k2];exact(List.getElem?_eq_some_iff.1 U3).1)):p:=h
def Xs{p:Prop}(h:p:=by (simp only[Call.operands,Array.mem_append];exact .inr (Array.mem_toList_iff.1 hx))):p:=h
def Xu{p:Prop}(h:p:=by (unfold eS;rw[ar (λh=>by have:=h.2;dsimp only at this;omega)])):p:=h
def Xv{p:Prop}(h:p:=by (show _=pt A2.next (.cells [.slice o1 (U l) c1,.slice o2 (U ws) c2] true 1)*(ay .i64 (.slice o1 (U l) c1) l*(ay .u64 (.slice o2 (U ws) c2) ws*F));ac_rfl)):p:=h
def Xw{p:Prop}(h:p:=by (simp only[jS.done,decide_eq_true_eq,List.length_drop];omega)):p:=h
def Xx{p:Prop}(h:p:=by (show (0:Int)<(U (M 3):Int);rw[hM.l3];decide)):p:=h
def Xy{p:Prop}(h:p:=by (show (0:Int)<(U (M 4):Int);rw[hM.l4];decide)):p:=h
def Xz{p:Prop}(h:p:=by (show _<(U (M 1):Int);rw[hl1];exact hxr.2)):p:=h
def XA{p:Prop}(h:p:=by (simp only[aV.eV,aV.io,List.length_append,List.length_singleton];omega)):p:=h
def XB{p:Prop}(h:p:=by (rw[show t.aZ=true from e]at hs;cases hs)):p:=h
def XC{p:Prop}(h:p:=by (rw[show t.dP=some l from e]at fM;cases fM)):p:=h
def XD{p:Prop}(h:p:=by (have e2:t.aZ=true:=e;rw[hR.Ui]at e2;cases e2)):p:=h
def XE{p:Prop}(h:p:=by (rw[show t.aZ=false from e]at hs;cases hs)):p:=h
def XF{p:Prop}(h:p:=by (rw[List.take_succ_eq_append_getElem b9,List.map_append,Ry];rfl)):p:=h
def XH{p:Prop}(h:p:=by (refine⟨_,by rfl,by trivial,?_⟩;apply aj.bZ;(·exact sA);(·exact pA))):p:=h
def XI{p:Prop}(h:p:=by (have h9:(eT cf.reads.toNat set c.gz).2=l2:=Yk;have h8:(eT cf.reads.toNat set c.gz).1=q:=Yk;rw[<-h9];rw[DT]at h8;unfold eT at h8 ⊢;split;rfl;split;rfl;rename_i g1 g2;rw[ar g1,ar g2]at h8;cases h8)):p:=h
def XJ{p:Prop}(h:p:=by (dsimp only[jP,aV.pQ,aV.to,aV.sY,aV.io,aV.eV,aV.lK,aV.d];(try simp only[eh,fM]);(·exact pA))):p:=h
def XK{p:Prop}(h:p:=by (revert hS hw;refine Wp (J1 (Tg.mk (n:=10) (λ{A L K k}=>gg (A:=A) (L:=L) (K:=K) (k:=k) hr))) (J1 bL) ?_<;>(unhygienic intros);rw[e];refine⟨_,by rfl,rfl,?_⟩;apply aj.bZ;(·exact sA);(·exact pP))):p:=h
def XL{p:Prop}(h:p:=by (obtain⟨x0,hS⟩:=jZ.open hS .z;(unhygienic cases x0);dsimp only[de,aa,ah]at hS;have hq:=fF hS hw;revert hq hS hw;clear hS;refine Wp db (J1 @AW.ab) ?_<;>intros;exact⟨_,rfl,rfl,rfl⟩)):p:=h
def XM{p:Prop}(h:p:=by (apply aj.bZ;(·exact sA);(·exact pP))):p:=h
def XN{p:Prop}(h:p:=by (have h9:(eT cf.reads.toNat set c.gz).2=l2:=Yk;rw[<-h9];unfold eT;split;exact jM;split;exact jM;simp;omega)):p:=h
def XO{p:Prop}(h:p:=by (refine⟨v',A',h1,h2,λA0 ha hl=>h3 A0 ha (hl.trans (AW.le.alloc A _)),h4,by rw[AW.bn]at h5;omega,λj hj fL=>?_,λj hj=>?_⟩;rw[h6 j Yg fL,AW.gJ _ _ Ya];rcases h7 with rfl|h7;exact .inl hj;rw[h7]at hj;injection hj with hj;simp at hj;exact .inr Ya)):p:=h
def XP{p:Prop}(h:p:=by (obtain⟨o,c,rfl,_⟩:=h1.is.cL;exact hk o c A' (ay.jh hS hw h2 h1) lC h2)):p:=h
def XQ{p:Prop}(h:p:=by (unfold da;rw[hr];dsimp only;rw[h2,h4,wV,h7];rfl)):p:=h
def XR{p:Prop}(h:p:=by (dsimp only[eI,gT,eH,gS,gV,na];(·repeat' (first|apply bd.z|apply bd.s|apply aF.z|apply aF.pt|apply aF.s)))):p:=h
def XS{p:Prop}(h:p:=by (refine W db (J2 hg @AW.ab) ?_<;>intros;exact⟨_,rfl,rfl,rfl⟩)):p:=h
def XT{p:Prop}(h:p:=by (refine⟨U p-(i+1),by omega,iQ.trans (AW.le.mu A' _ _),i+1,none,rfl,by omega,?_,?_,?_,?_,he⟩<;>simp[h0,h4,gm]<;>first|omega|(intro d hd;have:=Bs d hd;omega)|(have:=Bs;simp at this;omega))):p:=h
def XU{p:Prop}(h:p:=by exact⟨_,rfl,rfl,rfl⟩):p:=h
def XV{p:Prop}(h:p:=by (dsimp only[jP,aV.pQ,aV.to,aV.sY,aV.io,aV.eV,aV.lK,aV.d];(try simp only[dI,eh,fM]);(·exact pA))):p:=h
def XW{p:Prop}(h:p:=by (refine⟨U p-(i+1),by omega,iQ.trans (AW.le.mu A' _ _),i+1,some d,rfl,by omega,?_,?_,?_,?_,he⟩<;>simp[h0,h4,gm]<;>omega)):p:=h
def XX{p:Prop}(h:p:=by (apply aj.bZ;(·exact sA);(·exact sH))):p:=h
def XY{p:Prop}(h:p:=by (rcases h with ⟨⟨o,h0⟩,h2,h3⟩|⟨p,c',bO,own,u,h0,_⟩;injection h0 with h4 h5 h6;exact⟨h2,h6,h3⟩;cases h0)):p:=h
def XZ{p:Prop}(h:p:=by (rw[az Yb];exact JB hu hi hz iP rR CH e1 e2 hw hS hp hn cy λo c A' h1 h2 h3=>⟨hs A' h1.tail,hk o c A' h1 h2 h3⟩)):p:=h
def X0{p:Prop}(h:p:=by exact⟨v',h1,λw' _=>wT (h2 w')⟩):p:=h
def X1{p:Prop}(h:p:=by (simp only[IntKind.wrap,IntKind.bits,IntKind.signed,Bool.false_and,Bool.false_eq_true,if_false];omega)):p:=h
def X2{p:Prop}(h:p:=by (dsimp only[eI,gT,eH,gS,gV,na];(·repeat' (first|apply bd.z|apply bd.s|apply aF.z|apply aF.s)))):p:=h
def X3{p:Prop}(h:p:=by (refine ay.mk Yb Yb YF ?_ (h.alloc hw _);rw[hcs,List.drop_zero,List.take_of_length_le YF])):p:=h
def X5{p:Prop}(h:p:=by (rw[hr];dsimp only;rw[h2];simp[h])):p:=h
def X6{p:Prop}(h:p:=by (unfold aj at hS;rw[hp.aP]at hS;exact hS)):p:=h
def X7{p:Prop}(h:p:=by exact⟨v',w',m',.inl (wT h1),h2,h3⟩):p:=h
def X8{p:Prop}(h:p:=by (unfold aj at hS;rw[hp.aP]at hS;exact bD.bk hS)):p:=h
def X9{p:Prop}(h:p:=by simpa using this):p:=h
def Yab{p:Prop}(h:p:=by (injection h with h;injection h with h1 h2;rw[<-h2];exact oO hj)):p:=h
def Yac{p:Prop}(h:p:=by simp[Op.equalIn,run_underlying hu]):p:=h
def ar {c:Prop}[h:Decidable c]{α:Sort _}{a b:α}(hc:¬c):(if c then a else b)=b:=if_neg hc
def az {c:Prop}[h:Decidable c]{α:Sort _}{a b:α}(hc:c):(if c then a else b)=a:=if_pos hc
def aa {α:Type _}{a:α}{as bs:List α}:(a::as)++bs=a::(as++bs):=rfl
def ah {α:Type _}{as:List α}:[]++as=as:=rfl
open Go
structure Pl where
 block:Nat
 base:Nat
 unit:Nat
 C7:Nat
abbrev Mp:=Nat->Option Pl
def sC (m:Mp)(a a':qM):Prop:=
 a.spot=qk/\a'.spot=qk/\∃p,m a.block=qf p/\a'.block=p.block/\a'.off=p.base+a.off
def Fv (m:Mp)(a a':qM)(jJ:Nat):Prop:=
 a.spot=qk/\a'.spot=qk/\∃p,m a.block=qf p/\a'.block=p.block/\a'.off=p.base+a.off/\a'.off+jJ*p.unit<=p.C7
def Fv.TR {m:Mp}{a a':qM}{c:Nat}(h:Fv m a a' c):sC m a a':=by obtain⟨h1,h2,p,h3,h4,h5,_⟩:=h;exact⟨h1,h2,p,h3,h4,h5⟩
inductive bH (m:Mp):Value->Value->Prop
 | bool (b:Bool):bH m (.bool b) (.bool b)
 | int (k:IntKind) (n:Int):bH m (.int k n) (.int k n)
 | float (k:FloatKind) (n:Nat):bH m (.float k n) (.float k n)
 | complex (k:FloatKind) (x y:Nat):bH m (.complex k x y) (.complex k x y)
 | string (s:ByteArray):bH m (.string s) (.string s)
 | Do:bH m (.pointer none) (.pointer none)
 | G0 {a a':Addr} (h:sC m a a'):bH m (.pointer (some a)) (.pointer (some a'))
 | mW:bH m (.slice none 0 0) (.slice none 0 0)
 | slice {a a':Addr} {len fg jJ:Nat} (h:Fv m a a' jJ\/(len=0/\jJ=0/\(a.spot.isSome=true\/m a.block≠none))) (h1:len<=fg) (h2:fg<=jJ) :
  bH m (.slice (some a) len fg) (.slice (some a') len jJ)
 | DI:bH m (.map none) (.map none)
 | map {r r':Nat} (h:∃p,m r=some p/\p.block=r'):bH m (.map (some r)) (.map (some r'))
 | Js:bH m (.chan none) (.chan none)
 | func (fn:Fn) {x x' y y':Array Value} (hx:x.size=x'.size) (hy:y.size=y'.size)
  (h1:∀(i:Nat) (v v':Value),x[i]? = some v->x'[i]? = some v'->bH m v v')
  (h2:∀(i:Nat) (v v':Value),y[i]? = some v->y'[i]? = some v'->bH m v v') :
  bH m (.func fn x y) (.func fn x' y')
 | nilFunc:bH m .nilFunc .nilFunc
 | iface (t:TypeId) {v v':Value} (h:bH m v v'):bH m (.iface t v) (.iface t v')
 | nilIface:bH m .nilIface .nilIface
 | agg {x x':Array Value} (hx:x.size=x'.size)
  (h1:∀(i:Nat) (v v':Value),x[i]? = some v->x'[i]? = some v'->bH m v v'):bH m (.agg x) (.agg x')
 | tuple {x x':Array Value} (hx:x.size=x'.size)
  (h1:∀(i:Nat) (v v':Value),x[i]? = some v->x'[i]? = some v'->bH m v v'):bH m (.tuple x) (.tuple x')
def Mp.le (m m':Mp):Prop:=∀i x,m i=qf x->m' i=qf x
def Mp.le_refl (m:Mp):Mp.le m m:=λ_ _ h=>h
def Mp.le_trans {a b c:Mp}(h:Mp.le a b)(k:Mp.le b c):Mp.le a c:=λi x e=>k i x (h i x e)
def Mp.le_some {m m':Mp}(hm:Mp.le m m'){i:Nat}(h:m i≠qk):m' i≠qk:=λe=>by
 cases hi:m i with
 |none=>exact h hi
 |some p=>rw[hm i p hi]at e;cases e
def sC.mono {m m':Mp}(hm:Mp.le m m'){a a':qM}(h:sC m a a'):sC m' a a':=by obtain⟨h1,h2,p,h3,h4⟩:=h;exact⟨h1,h2,p,hm _ _ h3,h4⟩
def Fv.mono {m m':Mp}(hm:Mp.le m m'){a a':qM}{c:Nat}(h:Fv m a a' c):Fv m' a a' c:=by obtain⟨h1,h2,p,h3,h4⟩:=h;exact⟨h1,h2,p,hm _ _ h3,h4⟩
def bH.mono {m m':Mp}(hm:Mp.le m m'){v v':qi}(h:bH m v v'):bH m' v v':=by
 induction h with
 |bool b=>exact .bool b
 |int k n=>exact .int k n
 |float k n=>exact .float k n
 |complex k x y=>exact .complex k x y
 |string s=>exact .string s
 |Do=>exact .Do
 |G0 h=>exact .G0 (h.mono hm)
 |mW=>exact .mW
 |slice h h1 h2=>exact .slice (h.imp (λx=>x.mono hm) fun⟨e1,e2,e3⟩=>⟨e1,e2,e3.imp id (Mp.le_some hm)⟩) h1 h2
 |DI=>exact .DI
 |map h=>obtain⟨p,h1,h2⟩:=h;exact .map ⟨p,hm _ _ h1,h2⟩
 |Js=>exact .Js
 |func fn hx hy _ _ ih1 ih2=>exact .func fn hx hy ih1 ih2
 |nilFunc=>exact .nilFunc
 |iface t _ ih=>exact .iface t ih
 |nilIface=>exact .nilIface
 |agg hx _ ih=>exact .agg hx ih
 |tuple hx _ ih=>exact .tuple hx ih
def jE (m:Mp)(l l':List qi):Prop:=U l=U l'/\∀(i:Nat)(v v':qi),l[i]?=qf v->l'[i]?=qf v'->bH m v v'
def jE.nil {m:Mp}:jE m [] []:=⟨rfl,λi v v' h=>by simp at h⟩
def jE.cons {m:Mp}{v v':qi}{l l':List qi}(h:bH m v v')(t:jE m l l'):jE m (v::l) (v'::l'):=by
 refine⟨by simp[t.1],λi x x' h1 h2=>?_⟩;cases i with
 |zero=>simp at h1 h2;subst h1;subst h2;exact h
 |succ i=>simp at h1 h2;exact t.2 i x x' h1 h2
def jE.append {m:Mp}{a a' b b':List qi}(h:jE m a a')(k:jE m b b'):jE m (a++b) (a'++b'):=by refine⟨by simp[h.1,k.1],λi v v' h1 h2=>?_⟩;rw[kbQ]at h1 h2;rw[<-h.1]at h2;by_cases hi:i<U a;rw[az hi]at h1 h2;exact h.2 i v v' h1 h2;rw[ar hi]at h1 h2;exact k.2 _ v v' h1 h2
def jE.bk {m:Mp}{l l':List qi}(h:jE m l l'){i:Nat}{v:qi}(hi:l[i]?=qf v):∃v',l'[i]?=qf v'/\bH m v v':=by
 have b9:i<U l':=by rw[<-h.1];exact(Zy.1 hi).1
 exact⟨l'[i],Zf b9,h.2 i v _ hi (Zf b9)⟩
def jE.nP {m:Mp}{v:qi}{l l':List qi}(h:jE m (v::l) l'):∃v' t',l'=v'::t'/\bH m v v'/\jE m l t':=by
 cases l' with
 |nil=>have:=h.1;simp at this
 |cons v' t'=>refine⟨v',t',rfl,h.2 0 v v' rfl rfl,⟨by have:=h.1;simpa using this,λi x x' h1 h2=>h.2 (i+1) x x' YC Yw⟩⟩
def jE.tt {m:Mp}{l':List qi}(h:jE m [] l'):l'=[]:=by exact kab h.1.symm
inductive dt where
 | cells (cs:List Value) (own:Bool) (unit:Nat)
 | map (es:List (Value×Value)) (own:Bool)
structure AW where
 next:Nat
 bk:Nat->Option dt
def AW.set (A:AW)(i:Nat)(o:Option dt):AW:={ A with bk:=λj=>if j=i then o else A.bk j }
def AW.alloc (A:AW)(o:dt):AW:={ next:=A.next+1,bk:=λj=>if j=A.next then qf o else A.bk j }
def dt.own:dt->Bool
 | .cells _ o _=>o
 | .map _ o=>o
def iH (m:Mp)(w:qz)(p:Pl):dt->Prop
 | .cells cs own unit=>∃ik e fr,w.heap[p.block]?=qf (.cells ik e fr)/\(own=qj->fr=(0,0))/\unit=p.unit/\ik.size=p.C7/\
  ∀(k:Nat)(v:qi),cs[k]?=qf v->∃v',ik[p.base+k]?=qf v'/\bH m v v'
 | .map es0 _=>∃kw aC es,es0.Perm es/\w.heap[p.block]?=qf (.map kw aC)/\U es=kw.size/\
  ∀(k:Nat)(x:qi×qi)(e:MapEntry),es[k]?=qf x->kw[k]?=qf e->bH m x.1 e.key/\bH m x.2 e.val
def iH.heap {m:Mp}{w w':qz}{p:Pl}{o:dt}(h:iH m w p o)(e:w'.heap[p.block]?=w.heap[p.block]?):iH m w' p o:=by
 cases o with
 |cells cs own unit=>obtain⟨ik,e',fr,h3,h4⟩:=h;exact⟨ik,e',fr,by rw[e];exact h3,h4⟩
 |map es own=>obtain⟨kw,aC,yg,hp,h3,h4⟩:=h;exact⟨kw,aC,yg,hp,by rw[e];exact h3,h4⟩
def iH.mono {m m':Mp}{w:qz}{p:Pl}{o:dt}(hm:Mp.le m m')(h:iH m w p o):iH m' w p o:=by
 cases o with
 |cells cs own unit=>obtain⟨ik,e',fr,h3,h4,h5,h6,h7⟩:=h;refine⟨ik,e',fr,h3,h4,h5,h6,λk v hv=>?_⟩;obtain⟨v',h8,h9⟩:=h7 k v hv;exact⟨v',h8,h9.mono hm⟩
 |map es own=>obtain⟨kw,aC,yg,hp,h3,h4,h5⟩:=h;exact⟨kw,aC,yg,hp,h3,h4,λk x e a b=>⟨(h5 k x e a b).1.mono hm,(h5 k x e a b).2.mono hm⟩⟩
def iH.lt {m:Mp}{w:qz}{p:Pl}{o:dt}(h:iH m w p o):p.block<w.heap.size:=by
 cases o with
 |cells cs own unit=>obtain⟨ik,e',fr,h3,_⟩:=h;exact(Zj.1 h3).1
 |map es own=>obtain⟨kw,aC,yg,_,h3,_⟩:=h;exact(Zj.1 h3).1
class Gl where
 B:Nat->Option Obj
 ok:Nat->Bool:=λ_=>false
 N:Nat:=0
 lt:∀g,ok g=true->g<N:=by simp
variable [Gl]
def Tf (g:Nat):Nat:=match Gl.B g with|some (.cells ik _ _)=>ik.size|_=>0
def Rt (m:Mp):Prop:=∀g,Gl.ok g=qj->m g=qf ⟨g,0,1,Tf g⟩
def Rt.mono {m m':Mp}(hm:Mp.le m m')(h:Rt m):Rt m':=λg hg=>hm _ _ (h g hg)
structure jN (m:Mp) (A:AW) (w:World):Prop where
 Dv:∀i o,A.bk i=some o->∃p,m i=some p/\iH m w p o
 inj:∀i j o o' p p',A.bk i=some o->o.own=true->A.bk j=some o'->i≠j->m i=some p->m j=some p'->p.block≠p'.block
 nS:∀i,A.next<=i->m i=none
 tO:∀i,A.next<=i->A.bk i=none
 laid:∀b x,Gl.B b=some x->w.heap[b]? = some x
 yP:∀i o p,A.bk i=some o->o.own=true->m i=some p->Gl.B p.block=none
 w5:Rt m
def Ox (m:Mp)(A:AW)(b:Nat):Prop:=∃i o p,A.bk i=qf o/\o.own=qj/\m i=qf p/\p.block=b
def yM (m:Mp)(A:AW)(b:Nat):Prop:=∃i o p,A.bk i=qf o/\m i=qf p/\p.block=b
structure jf (m:Mp) (A:AW) (w:World) (m':Mp) (A':AW) (w':World):Prop where
 ext:Mp.le m m'
 vL:jN m' A' w'
 next:A.next<=A'.next
 os:w'.os=w.os
 tape:w'.tape=w.tape
 output:w'.output=w.output
 size:w.heap.size<=w'.heap.size
 sD:∀b,b<w.heap.size->¬Ox m A b->w'.heap[b]? = w.heap[b]?
 grow:∀b,Ox m' A' b->Ox m A b\/w.heap.size<=b
 jp:∀i,i<A.next->m' i=m i
 Km:∀b,yM m' A' b->yM m A b\/w.heap.size<=b\/Gl.B b≠none
def jf.refl {m:Mp}{A:AW}{w:qz}(h:jN m A w):jf m A w m A w:=
 ⟨Mp.le_refl m,h,Za _,rfl,rfl,rfl,Za _,λ_ _ _=>rfl,λ_ h=>qw h,λ_ _=>rfl,λ_ h=>qw h⟩
def jf.trans {m m1 m2:Mp}{A A1 A2:AW}{w w1 w2:qz}(h:jf m A w m1 A1 w1)(k:jf m1 A1 w1 m2 A2 w2):jf m A w m2 A2 w2:=by refine⟨Mp.le_trans h.ext k.ext,k.vL,ZE h.next k.next,k.os.trans h.os,k.tape.trans h.tape,k.output.trans h.output,ZE h.size k.size,?_,?_,λi hi=>(k.jp i (kaq hi h.next)).trans (h.jp i hi),?_⟩;intro b hb ho;rw[k.sD b (kaq hb h.size) (λhx=>?_),h.sD b hb ho];rcases h.grow b hx with h1|h1;exact ho h1;omega;intro b hb;rcases k.grow b hb with h1|h1;exact h.grow b h1;exact qB (ZE h.size h1);intro b hb;rcases k.Km b hb with h1|h1|h1;exact h.Km b h1;exact qB (qw (ZE h.size h1));exact qB (qB h1)
def jN.G3 {m:Mp}{A:AW}{w w':qz}(h:jN m A w)(e:w'.heap=w.heap):jN m A w':=by refine⟨λi o hi=>?_,h.inj,h.nS,h.tO,λb x hb=>by rw[e];exact h.laid b x hb,h.yP,h.w5⟩;obtain⟨p,h1,h2⟩:=h.Dv i o hi;exact⟨p,h1,h2.heap (by rw[e])⟩
def jf.drew {m:Mp}{A:AW}{w:qz}(h:jN m A w):jf m A w m A w.drew:=
 ⟨Mp.le_refl m,h.G3 rfl,Za _,rfl,rfl,rfl,Za _,λ_ _ _=>rfl,λ_ h=>qw h,λ_ _=>rfl,λ_ h=>qw h⟩
end Go.Stx
namespace Go.Stx
open Go
variable [Gl]
def pI (a:qM)(n:Nat)(h:a.spot=qk):a.add n=⟨a.block,a.off+n,qk⟩:=by obtain⟨b,o,s⟩:=a;simp only at h;subst h;unfold Addr.add;split;rename_i h0;subst h0;rfl;rfl
def Av (a:qM)(h:a.spot=qk):a=⟨a.block,a.off,qk⟩:=by obtain⟨b,o,s⟩:=a;simp only at h;subst h;rfl
def bH.Du {m:Mp}{v v':qi}(h:bH m v v'):v'.oneCell'=v.oneCell':=by cases h<;>rfl
def bH.cells {m:Mp}{v v':qi}(h:bH m v v'):jE m v.cells.toList v'.cells.toList:=by
 have h0:=h;cases h with
 |agg hx h1=>exact⟨by simpa[Value.cells]using hx,λi x x' a b=>h1 i x x' (by simpa[Value.cells]using a) (by simpa[Value.cells]using b)⟩
 |_=>exact .cons h0 .nil
def AW.bO (A:AW)(i:Nat):Option (List qi):=
 match A.bk i with
 |some (.cells cs _ _)=>qf cs
 |_=>qk
def Eg {m:Mp}{A:AW}{w:qz}(hs:jN m A w){a a':qM}(ha:sC m a a'){cs:List qi}(hr:A.bO a.block=qf cs){k:Nat}{v:qi}(hv:cs[a.off+k]?=qf v):∃v',w.cell? (a'.add k)=qf v'/\bH m v v':=by obtain⟨h1,h2,p,h3,hb,h4⟩:=ha;unfold AW.bO at hr;split at hr;rename_i uP own unit hg;simp only[Zd]at hr;subst hr;obtain⟨p',h5,ik,e,fr,h6,_,_,_,h7⟩:=hs.Dv _ _ hg;rw[h3]at h5;simp only[Zd]at h5;subst h5;obtain⟨v',h8,h9⟩:=h7 _ _ hv;refine⟨v',?_,h9⟩;rw[pI _ _ h2];simp only[World.cell?,hb,h6,kbS,Zq,if_false];rw[h4,ZW];exact h8;simp at hr
def load_rel {P:qp}{m:Mp}{A:AW}{w:qz}(hs:jN m A w){a a':qM}(ha:sC m a a'){cs:List qi}(hr:A.bO a.block=qf cs){v:qi}(hv:cs[a.off]?=qf v):∃v',(load a').run P w=qL v' w/\bH m v v':=by
 obtain⟨v',h1,h2⟩:=Eg hs ha hr (k:=0) (by simpa using hv);refine⟨v',?_,h2⟩;have e:a'.add 0=a':=by unfold Addr.add;simp
 rw[e]at h1;rw[run_load,h1]
def KT {P:qp}{m:Mp}{A:AW}{w:qz}(hs:jN m A w){a a':qM}(ha:sC m a a'){cs:List qi}(hr:A.bO a.block=qf cs)(n:Nat)(hn:a.off+n<=U cs):∃l',(loadCells a' n).run P w=qL l'.toArray w/\jE m ((cs.drop a.off).take n) l':=by
 have h:∀j,j<n->∃v',w.cell? (a'.add j)=qf v'/\bH m (cs.getD (a.off+j) qE) v':=λj hj=>Eg hs ha hr (by rw[Ze,Zf Ya];rfl)
 let f:Nat->qi:=λj=>(w.cell? (a'.add j)).getD qE
 have hf:∀j,j<n->w.cell? (a'.add j)=qf (f j):=λj hj=>by obtain⟨v',h1,_⟩:=h j hj;simp[f,h1]
 refine⟨(Zt n).map f,run_loadCells w a' n f hf,?_,?_⟩;simp;omega;intro i v v' h1 h2;have hi:i<n:=by
  have:=(Zy.1 h2).1
  exact X9
 obtain⟨v1,h3,h4⟩:=h i hi;have e1:cs.getD (a.off+i) qE=v:=by rw[kak hi,kam]at h1;rw[Ze,h1];rfl
 have e2:v'=v1:=by simp[hi,f,h3]at h2;exact h2.symm
 rw[e1]at h4;rw[e2];exact h4
def dS (cs:List qi)(off:Nat):List qi->List qi
 |[]=>cs
 |v::vs=>dS (cs.set off v) (off+1) vs
def yC (vs:List qi):∀(cs:List qi)(off:Nat),U (dS cs off vs)=U cs:=by
 induction vs with
 |nil=>intro cs off;rfl
 |cons v vs ih=>intro cs off;simp[dS,ih]
def AW.cM {A:AW}{i:Nat}{o:Option dt}:(A.set i o).bk i=o:=by simp[AW.set]
def AW.bh {A:AW}{i j:Nat}{o:Option dt}(h:j≠i):(A.set i o).bk j=A.bk j:=by simp[AW.set,h]
def AW.set_set {A:AW}{i:Nat}{o o':Option dt}:(A.set i o).set i o'=A.set i o':=by unfold AW.set;congr 1;funext j;dsimp only;split<;>rfl
def AW.Pd {A:AW}{i:Nat}{o:Option dt}(h:A.bk i=o):A.set i o=A:=by obtain⟨n,g⟩:=A;unfold AW.set;simp only at h ⊢;congr 1;funext j;split;rename_i e;rw[e,h];rfl
def jf.zg {m:Mp}{A:AW}{w w':qz}(hs:jN m A w){i:Nat}{p:Pl}{o0 o1:dt}(hg:A.bk i=qf o0)(OG:o0.own=qj)(jt:o1.own=qj)(hm:m i=qf p)(uo:w'.heap.size=w.heap.size)(OI:w'.os=w.os)(ht:w'.tape=w.tape)(ho:w'.output=w.output)(hb:iH m w' p o1)(uq:∀j,j≠p.block->w'.heap[j]?=w.heap[j]?):
 jf m A w m (A.set i (qf o1)) w':=by
 refine⟨Mp.le_refl m,⟨?_,?_,hs.nS,?_,?_,?_,hs.w5⟩,Za _,OI,ht,ho,by omega,?_,?_,λ_ _=>rfl,?_⟩
 rotate_left 3
 intro b x yb;rw[uq b (λe=>by have:=hs.yP i o0 p hg OG hm;rw[<-e,yb]at this;cases this)];exact hs.laid b x yb;intro j o p' hj AT oy;by_cases lm:j=i;subst lm;exact hs.yP j o0 p' hg OG oy;rw[AW.bh lm]at hj;exact hs.yP j o p' hj AT oy
 rotate_left 3
 intro j o hj;by_cases lm:j=i;subst lm;rw[AW.cM]at hj;simp only[Zd]at hj;subst hj;exact⟨p,hm,hb⟩;rw[AW.bh lm]at hj;obtain⟨p',h1,h2⟩:=hs.Dv j o hj;have fL:p'.block≠p.block:=λe'=>hs.inj i j _ o p p' hg OG hj (Zp lm) hm h1 e'.symm;exact⟨p',h1,h2.heap (uq _ fL)⟩;intro j j' o o' p1 p2 hj AT BP fL F9 hm2;by_cases lm:j=i;subst lm;rw[AW.bh (Zp fL)]at BP;exact hs.inj j j' _ o' p1 p2 hg OG BP fL F9 hm2;rw[AW.bh lm]at hj;by_cases hj'i:j'=i;subst hj'i;exact hs.inj j j' o _ p1 p2 hj AT hg fL F9 hm2;rw[AW.bh hj'i]at BP;exact hs.inj j j' o o' p1 p2 hj AT BP fL F9 hm2;intro j hj;have lm:j≠i:=λe=>by subst e;rw[hs.tO j hj]at hg;cases hg
 rw[AW.bh lm];exact hs.tO j hj;intro b' _ ho';refine uq b' (λe'=>ho' ?_);subst e';exact⟨i,_,p,hg,OG,hm,rfl⟩;rintro b'⟨j,o,p',hj,AT,oy,yb⟩;by_cases lm:j=i;subst lm;exact qw ⟨j,_,p',hg,OG,oy,yb⟩;rw[AW.bh lm]at hj;exact qw ⟨j,o,p',hj,AT,oy,yb⟩;rintro b'⟨j,o,p',hj,oy,yb⟩;by_cases lm:j=i;subst lm;exact qw ⟨j,_,p',hg,oy,yb⟩;rw[AW.bh lm]at hj;exact qw ⟨j,o,p',hj,oy,yb⟩
def jf.set {m:Mp}{A:AW}{w w':qz}(hs:jN m A w){i:Nat}{p:Pl}{cs uP:List qi}{unit:Nat}{Jm:Array qi}{e:qy}(hg:A.bk i=qf (.cells cs qj unit))(hm:m i=qf p)(hu:unit=p.unit)(uo:w'.heap.size=w.heap.size)(OI:w'.os=w.os)(ht:w'.tape=w.tape)(ho:w'.output=w.output)(hb:w'.heap[p.block]?=qf (.cells Jm e (0,0)))(CB:Jm.size=p.C7)(uq:∀j,j≠p.block->w'.heap[j]?=w.heap[j]?)(yQ:∀(k:Nat)(v:qi),uP[k]?=qf v->∃v',Jm[p.base+k]?=qf v'/\bH m v v'):
 jf m A w m (A.set i (qf (.cells uP qj unit))) w':=
 jf.zg hs hg rfl rfl hm uo OI ht ho ⟨Jm,e,(0,0),hb,λ_=>rfl,hu,CB,yQ⟩ uq
def RP {P:qp}{m:Mp}{A:AW}{w:qz}(hs:jN m A w){i k unit:Nat}{p:Pl}{cs:List qi}(hg:A.bk i=qf (.cells cs qj unit))(hm:m i=qf p)(hk:k<U cs){v v':qi}(hv:bH m v v')(h1:v.oneCell'=qj):
 ∃w',(store ⟨p.block,p.base+k,qk⟩ v').run P w=qL () w'/\jf m A w m (A.set i (qf (.cells (cs.set k v) qj unit))) w':=by
 obtain⟨p1,h2,ik,e,fr,h3,h4,hu,CB,h5⟩:=hs.Dv i _ hg;rw[hm]at h2;simp only[Zd]at h2;subst h2;have rx:=h4 rfl;subst rx;obtain⟨u,h6,_⟩:=h5 k cs[k] (Zf hk);have b9:p.base+k<ik.size:=(Zj.1 h6).1;have hcell:w.cell? ⟨p.block,p.base+k,qk⟩=qf u:=by simp[World.cell?,h3,h6]
 have hfz:w.frozen? ⟨p.block,p.base+k,qk⟩=qn:=by simp[World.frozen?,h3]
 refine⟨w.setCell ⟨p.block,p.base+k,qk⟩ v',?_,?_⟩;rw[run_store P w _ _ _ (by rw[hv.Du];exact h1),hcell];simp[hfz];refine jf.set hs (Jm:=ik.setIfInBounds (p.base+k) v') (e:=e) hg hm hu Yb rfl rfl rfl ?_ (by simpa using CB) ?_ ?_;simp only[World.setCell,kbj,h3];simp;intro j hj;simp only[World.setCell,kbj];rw[ar Ya];intro j x hx;by_cases hjk:k=j;subst hjk;rw[ZN hk]at hx;simp only[Zd]at hx;subst hx;exact⟨v',by simp[b9],hv⟩;rw[ZT hjk]at hx;obtain⟨x',h7,h8⟩:=h5 j x hx;exact⟨x',by rw[kby Ya];exact h7,h8⟩
def oX {P:qp}{m:Mp}{i o unit:Nat}{p:Pl}(hm:m i=qf p):∀(vs FA:List qi)(k:Nat)(cs:List qi)(A:AW)(w:qz),
 jN m A w->A.bk i=qf (.cells cs qj unit)->jE m vs FA->(∀v∈vs,v.oneCell'=qj)->o+k+U vs<=U cs->
 ∃w',(storeCells ⟨p.block,p.base+o,qk⟩ FA k).run P w=qL () w'/\jf m A w m (A.set i (qf (.cells (dS cs (o+k) vs) qj unit))) w'
 |[],FA,k,cs,A,w,hs,hg,hl,_,_=>by have e:=hl.tt;subst e;refine⟨w,rfl,?_⟩;rw[dS,AW.Pd hg];exact jf.refl hs
 |v::vs,FA,k,cs,A,w,hs,hg,hl,h1,cy=>by
   obtain⟨v',t',rfl,hv,ht⟩:=hl.nP;simp only[ZI]at cy;obtain⟨w1,P5,ev1⟩:=RP (P:=P) hs hg hm (k:=o+k) Ya hv (h1 v Yb)
   obtain⟨w2,hr2,NQ⟩:=oX (P:=P) (o:=o) hm vs t' (k+1) (cs.set (o+k) v) _ w1 ev1.vL AW.cM ht (λx hx=>h1 x Yu)
    Yg
   refine⟨w2,?_,?_⟩;have ea:(⟨p.block,p.base+o,qk⟩:qM).add k=⟨p.block,p.base+(o+k),qk⟩:=(by rw[pI _ _ rfl];simp[ZW]);simp only[storeCells,Zo,ea,P5,Zn,hr2];have:=ev1.trans NQ;rw[AW.set_set]at this;rw[dS,show o+k+1=o+(k+1) by omega];exact this
def DW (w:qz)(o:Obj)(i:Nat)(h:i<w.heap.size):(w.alloc o).heap[i]?=w.heap[i]?:=by show (w.heap.push o)[i]?=_;rw[Array.getElem?_push,ar Ya]
def DX (w:qz)(o:Obj):(w.alloc o).heap[w.heap.size]?=qf o:=by show (w.heap.push o)[w.heap.size]?=_;simp
def Mp.ext (m:Mp)(i:Nat)(x:Pl):Mp:=λj=>if j=i then qf x else m j
def jN.Iz {m:Mp}{A:AW}{w:qz}(hs:jN m A w)(x:Pl):Mp.le m (m.ext A.next x):=by intro i y h;unfold Mp.ext;split;rename_i e;rw[e,hs.nS A.next (Za _)]at h;cases h;exact h
def jN.jj {m:Mp}{A:AW}{w:qz}(hs:jN m A w){j:Nat}{o:dt}{p:Pl}(h:A.bk j=qf o)(hm:m j=qf p):p.block<w.heap.size:=by obtain⟨p1,h1,h2⟩:=hs.Dv j o h;rw[hm]at h1;simp only[Zd]at h1;subst h1;exact h2.lt
def jf.freshO {m:Mp}{A:AW}{w w':qz}(hs:jN m A w)(o1:dt)(p:Pl)(OI:w'.os=w.os)(ht:w'.tape=w.tape)(ho:w'.output=w.output)(uo:w.heap.size<=w'.heap.size)(Qa:∀b,b<w.heap.size->w'.heap[b]?=w.heap[b]?)(hp:w.heap.size<=p.block)(hb:iH m w' p o1):
 jf m A w (m.ext A.next p) (A.alloc o1) w':=by
 have gb:=hs.Iz p;have eD:∀{j o},A.bk j=qf o->j≠A.next:=λ{j o} h e=>by subst e;rw[hs.tO _ (Za _)]at h;cases h
 have uQ:∀{j},j≠A.next->(m.ext A.next p) j=m j:=λ{j} h=>by simp[Mp.ext,h]
 have vZ:∀{j},j≠A.next->(A.alloc o1).bk j=A.bk j:=λ{j} h=>by simp[AW.alloc,h]
 have Cw:(m.ext A.next p) A.next=qf p:=by simp[Mp.ext]
 have WJ:(A.alloc o1).bk A.next=qf o1:=by simp[AW.alloc]
 refine⟨gb,⟨?_,?_,?_,?_,?_,?_,hs.w5.mono gb⟩,by simp[AW.alloc],OI,ht,ho,uo,λb hb _=>Qa b hb,?_,λi hi=>uQ Ya,?_⟩
 rotate_left 4
 intro b x yb;have h1:=hs.laid b x yb;rw[Qa b (Zj.1 h1).1];exact h1;intro j o p' hj AT oy;by_cases hn:j=A.next
 . subst hn;rw[Cw]at oy;simp only[Zd]at oy;subst oy;cases hB:Gl.B p.block with
   |none=>rfl
   |some x=>have h1:=(Zj.1 (hs.laid _ x hB)).1;omega
 rw[vZ hn]at hj;rw[uQ hn]at oy;exact hs.yP j o p' hj AT oy
 rotate_left 2
 intro j o hj;by_cases hn:j=A.next;subst hn;rw[WJ]at hj;simp only[Zd]at hj;subst hj;exact⟨p,Cw,hb.mono gb⟩;rw[vZ hn]at hj;obtain⟨p',h1,h2⟩:=hs.Dv j o hj;have b9:=hs.jj hj h1;exact⟨p',by rw[uQ hn];exact h1,(h2.heap (Qa _ b9)).mono gb⟩;intro i j o o' p1 p2 hi AT hj fL E8 oy;by_cases xj:i=A.next;subst xj;rw[Cw]at E8;simp only[Zd]at E8;subst E8;rw[vZ (Zp fL)]at hj;rw[uQ (Zp fL)]at oy;have:=hs.jj hj oy;omega;rw[vZ xj]at hi;rw[uQ xj]at E8;by_cases hjn:j=A.next;subst hjn;rw[Cw]at oy;simp only[Zd]at oy;subst oy;have:=hs.jj hi E8;omega;rw[vZ hjn]at hj;rw[uQ hjn]at oy;exact hs.inj i j o o' p1 p2 hi AT hj fL E8 oy;intro i hi;have:i≠A.next:=by simp[AW.alloc]at hi;omega
 rw[uQ this];exact hs.nS i (by simp[AW.alloc]at hi;omega);intro i hi;have:i≠A.next:=by simp[AW.alloc]at hi;omega
 rw[vZ this];exact hs.tO i (by simp[AW.alloc]at hi;omega);rintro b⟨i,o,p',hi,AT,hm,hb⟩;by_cases hn:i=A.next;subst hn;rw[Cw]at hm;simp only[Zd]at hm;subst hm;exact qB Ya;rw[vZ hn]at hi;rw[uQ hn]at hm;exact qw ⟨i,o,p',hi,AT,hm,hb⟩;rintro b⟨i,o,p',hi,hm,hb⟩;by_cases hn:i=A.next;subst hn;rw[Cw]at hm;simp only[Zd]at hm;subst hm;exact qB (qw Ya);rw[vZ hn]at hi;rw[uQ hn]at hm;exact qw ⟨i,o,p',hi,hm,hb⟩
def jf.nS {m:Mp}{A:AW}{w w':qz}(hs:jN m A w)(cs:List qi)(own:Bool)(p:Pl){ik:Array qi}{e:qy}(unit:Nat)(OI:w'.os=w.os)(ht:w'.tape=w.tape)(ho:w'.output=w.output)(uo:w.heap.size<=w'.heap.size)(Qa:∀b,b<w.heap.size->w'.heap[b]?=w.heap[b]?)(hp:w.heap.size<=p.block)(hu:unit=p.unit)(hb:w'.heap[p.block]?=qf (.cells ik e (0,0)))(CB:ik.size=p.C7)(yQ:∀(k:Nat)(v:qi),cs[k]?=qf v->∃v',ik[p.base+k]?=qf v'/\bH m v v'):
 jf m A w (m.ext A.next p) (A.alloc (.cells cs own unit)) w':=
 jf.freshO hs _ p OI ht ho uo Qa hp ⟨ik,e,(0,0),hb,λ_=>rfl,hu,CB,yQ⟩
def jf.alloc {m:Mp}{A:AW}{w:qz}(hs:jN m A w)(cs:List qi)(ik:Array qi)(e:qy)(unit:Nat)(yQ:∀(k:Nat)(v:qi),cs[k]?=qf v->∃v',ik[k]?=qf v'/\bH m v v'):
 jf m A w (m.ext A.next ⟨w.heap.size,0,unit,ik.size⟩) (A.alloc (.cells cs qj unit)) (w.alloc (.cells ik e)):=
 jf.nS hs cs qj ⟨w.heap.size,0,unit,ik.size⟩ unit rfl rfl rfl Yb (λb hb=>DW w _ b hb) (Za _) rfl
  (DX w _) rfl (by simpa using yQ)
def sC.nF (m:Mp)(i:Nat)(p:Pl)(o:Nat):sC (m.ext i p) ⟨i,o,qk⟩ ⟨p.block,p.base+o,qk⟩:=⟨rfl,rfl,p,by simp[Mp.ext],rfl,rfl⟩
end Go.Stx
namespace Go.Stx
open Go
variable [Gl]
def jf.PY {m:Mp}{A:AW}{w:qz}(hs:jN m A w)(i:Nat):jf m A w m (A.set i qk) w:=by
 have key:∀{j o},(A.set i qk).bk j=qf o->A.bk j=qf o:=λ{j o} h=>by by_cases hj:j=i;subst hj;rw[AW.cM]at h;cases h;rwa [AW.bh hj]at h
 refine⟨Mp.le_refl m,⟨λj o h=>hs.Dv j o (key h),λa b o o' p p' h1 h2 h3 h4 h5 h6=>hs.inj a b o o' p p' (key h1) h2 (key h3) h4 h5 h6,hs.nS,?_,hs.laid,λa o p h1 h2 h3=>hs.yP a o p (key h1) h2 h3,hs.w5⟩,
  Za _,rfl,rfl,rfl,Za _,λ_ _ _=>rfl,?_,λ_ _=>rfl,?_⟩
 intro j hj;by_cases lm:j=i;subst lm;exact AW.cM;rw[AW.bh lm];exact hs.tO j hj;rintro b⟨j,o,p,h1,h2,h3,h4⟩;exact qw ⟨j,o,p,key h1,h2,h3,h4⟩;rintro b⟨j,o,p,h1,h2,h3⟩;exact qw ⟨j,o,p,key h1,h2,h3⟩
def jf.adopt {m:Mp}{A:AW}{w w':qz}(hs:jN m A w){i:Nat}{p p':Pl}{cs uP:List qi}{unit:Nat}{Jm:Array qi}{e:qy}(hg:A.bk i=qf (.cells cs qj unit))(hm:m i=qf p)(K9:p'.block=p.block)(hu:unit=p'.unit)(uo:w'.heap.size=w.heap.size)(OI:w'.os=w.os)(ht:w'.tape=w.tape)(ho:w'.output=w.output)(hb:w'.heap[p.block]?=qf (.cells Jm e (0,0)))(CB:Jm.size=p'.C7)(uq:∀j,j≠p.block->w'.heap[j]?=w.heap[j]?)(yQ:∀(k:Nat)(v:qi),uP[k]?=qf v->∃v',Jm[p'.base+k]?=qf v'/\bH m v v'):
 jf m A w (m.ext A.next p') ((A.set i qk).alloc (.cells uP qj unit)) w':=by
 have gb:=hs.Iz p';have eD:∀{j o},A.bk j=qf o->j≠A.next:=λ{j o} h e=>by subst e;rw[hs.tO _ (Za _)]at h;cases h
 have uQ:∀{j},j≠A.next->(m.ext A.next p') j=m j:=λ{j} h=>by simp[Mp.ext,h]
 have Cw:(m.ext A.next p') A.next=qf p':=by simp[Mp.ext]
 have WJ:((A.set i qk).alloc (.cells uP qj unit)).bk A.next=qf (.cells uP qj unit):=by simp[AW.alloc,AW.set]
 have vZ:∀{j o},j≠A.next->((A.set i qk).alloc (.cells uP qj unit)).bk j=qf o->A.bk j=qf o/\j≠i:=λ{j o} h1 h2=>by
  have e:((A.set i qk).alloc (.cells uP qj unit)).bk j=(A.set i qk).bk j:=by exact ar h1
  rw[e]at h2;by_cases lm:j=i;subst lm;rw[AW.cM]at h2;cases h2;rw[AW.bh lm]at h2;exact⟨h2,lm⟩
 refine⟨gb,⟨?_,?_,?_,?_,?_,?_,hs.w5.mono gb⟩,by simp[AW.alloc,AW.set],OI,ht,ho,by omega,?_,?_,λj hj=>uQ Ya,?_⟩
 rotate_left 4
 intro b x yb;rw[uq b (λe=>by have:=hs.yP i _ p hg rfl hm;rw[<-e,yb]at this;cases this)];exact hs.laid b x yb;intro j o q hj AT oy;by_cases hn:j=A.next;subst hn;rw[Cw]at oy;simp only[Zd]at oy;subst oy;rw[K9];exact hs.yP i _ p hg rfl hm;rw[uQ hn]at oy;exact hs.yP j o q (vZ hn hj).1 AT oy
 rotate_left 3
 intro j o hj;by_cases hn:j=A.next;subst hn;rw[WJ]at hj;simp only[Zd]at hj;subst hj;refine⟨p',Cw,Jm,e,(0,0),by rw[K9];exact hb,λ_=>rfl,hu,CB,λk v hv=>?_⟩;obtain⟨v',h1,h2⟩:=yQ k v hv;exact⟨v',h1,h2.mono gb⟩;obtain⟨BP,lm⟩:=vZ hn hj;obtain⟨q,h1,h2⟩:=hs.Dv j o BP;have fL:q.block≠p.block:=λe'=>hs.inj i j _ o p q hg rfl BP (Zp lm) hm h1 e'.symm;exact⟨q,by rw[uQ hn];exact h1,(h2.heap (uq _ fL)).mono gb⟩;intro a b o o' p1 p2 ha AT yb fL hma hmb;by_cases han:a=A.next;subst han;rw[Cw]at hma;simp only[Zd]at hma;subst hma;obtain⟨Kf,Bs⟩:=vZ (Zp fL) yb;rw[uQ (Zp fL)]at hmb;rw[K9];exact hs.inj i b _ o' p p2 hg rfl Kf (Zp Bs) hm hmb;obtain⟨ha1,hai⟩:=vZ han ha;rw[uQ han]at hma;by_cases Tb:b=A.next;subst Tb;rw[Cw]at hmb;simp only[Zd]at hmb;subst hmb;rw[K9];exact hs.inj a i o _ p1 p ha1 AT hg hai hma hm;obtain⟨Kf,_⟩:=vZ Tb yb
 rw[uQ Tb]at hmb;exact hs.inj a b o o' p1 p2 ha1 AT Kf fL hma hmb;intro j hj;have:j≠A.next:=by simp[AW.alloc,AW.set]at hj;omega
 rw[uQ this];exact hs.nS j (by simp[AW.alloc,AW.set]at hj;omega)
 . intro j hj;have h0:A.next+1<=j:=by simpa[AW.alloc,AW.set]using hj
   have h1:j≠A.next:=Ya;cases hx:((A.set i qk).alloc (.cells uP qj unit)).bk j with
   |none=>rfl
   |some o=>have:=(vZ h1 hx).1;rw[hs.tO j Ya]at this;cases this
 intro b' _ ho';refine uq b' (λe'=>ho' ?_);subst e';exact⟨i,_,p,hg,rfl,hm,rfl⟩;rintro b⟨j,o,q,hj,AT,oy,hbj⟩;by_cases hn:j=A.next;subst hn;rw[Cw]at oy;simp only[Zd]at oy;subst oy;exact qw ⟨i,_,p,hg,rfl,hm,by rw[<-K9];exact hbj⟩;obtain⟨BP,_⟩:=vZ hn hj;rw[uQ hn]at oy;exact qw ⟨j,o,q,BP,AT,oy,hbj⟩;rintro b⟨j,o,q,hj,oy,hbj⟩;by_cases hn:j=A.next;subst hn;rw[Cw]at oy;simp only[Zd]at oy;subst oy;exact qw ⟨i,_,p,hg,hm,by rw[<-K9];exact hbj⟩;obtain⟨BP,_⟩:=vZ hn hj;rw[uQ hn]at oy;exact qw ⟨j,o,q,BP,oy,hbj⟩
def BB (cs:List qi)(o n:Nat)(j:Nat)(v:qi)(h:((cs.drop o).take n)[j]?=qf v):cs[o+j]?=qf v/\j<n:=by rw[List.getElem?_take]at h;split at h;rename_i hj;rw[kam]at h;exact⟨h,hj⟩;cases h
def zj {m:Mp}{A:AW}{w:qz}(hs:jN m A w){a a':qM}(ha:sC m a a'){cs:List qi}(hr:A.bO a.block=qf cs)(n:Nat)(hn:a.off+n<=U cs):
 ∃l',U l'=n/\jE m ((cs.drop a.off).take n) l'/\∀(j:Nat)(v:qi),l'[j]?=qf v->w.cell? (a'.add j)=qf v:=by
 have h:∀j,j<n->∃v',w.cell? (a'.add j)=qf v'/\bH m (cs.getD (a.off+j) qE) v':=λj hj=>Eg hs ha hr (by rw[Ze,Zf Ya];rfl)
 refine⟨(Zt n).map λj=>(w.cell? (a'.add j)).getD qE,by simp,⟨by simp;omega,?_⟩,?_⟩;intro i v v' h1 h2;obtain⟨h3,hi⟩:=BB _ _ _ _ _ h1;obtain⟨v1,h4,h5⟩:=h i hi;rw[Ze,h3]at h5;simp[hi,h4]at h2;subst h2;exact h5;intro j v hv;have hj:j<n:=by
  have:=(Zy.1 hv).1
  exact X9
 obtain⟨v1,h4,_⟩:=h j hj;simp[hj,h4]at hv;subst hv;exact h4
def iv (A:AW)(size:Nat)(x:qi):Option (Nat×List qi):=
 match x with
 | .slice qk 0 0=>qf (0,[])
 | .slice (qf b) n _=>
   if n=0 then qf (0,[]) else
   match A.bO b.block with
   |some cs=>if b.off+n*size<=U cs then qf (n,(cs.drop b.off).take (n*size)) else qk
   |none=>qk
 |_=>qk
def gU (A:AW)(size:Nat)(s:qi):Option (Option qM×Nat×List qi):=
 match s with
 | .slice qk 0 0=>qf (qk,0,[])
 | .slice (qf a) n c=>
   if a.spot.isSome/\c=0/\n=0 then qf (qk,0,[]) else
   match A.bk a.block with
   |some (.cells cs qj unit)=>if unit=size/\a.off+n*size<=U cs then qf (qf a,n,(cs.drop a.off).take (n*size)) else qk
   |_=>qk
 |_=>qk
def fD (P:qp)(A:AW)(t u:qy)(s x:qi):Option (qi×AW):=
 match P.underlying t with
 |some (.slice e)=>
   match P.info? e with
   |some i=>
     match i.zero with
     |some z=>
       if z.cells.size=i.size/\0<i.size/\t=u then
        match iv A i.size x,gU A i.size s with
        |some (n,pR),qf (base,k,ug)=>
          if n=0 then qf (s,A)
          else if k+n<=140737488355328/\(k+n)*i.bytes<=140737488355328/\pR.all ZK then
           qf (.slice (qf ⟨A.next,0,qk⟩) (k+n) (k+n),
            ((match base with|some a=>A.set a.block qk|none=>A)).alloc (.cells (ug++pR) qj i.size))
          else qk
        |_,_=>qk
       else qk
     |none=>qk
   |none=>qk
 |_=>qk
def GG {P:qp}(w:qz)(t ty e:qy)(i:qX)(ht:P.underlying t=qf (.slice e))(hi:P.info? e=qf i)(base:Option qM)(n c:Nat)(hc:n<=c)(xb:Option qM)(xc:Nat):
 (kao #[t,t] ty #[.slice base n c,.slice xb 0 xc]).run P w=qL (.slice base n c) w:=by cases base<;>cases xb<;>simp[kao,qx ht,sizeOf,qT,hi,kcp,hc,Builtin.firstCells,loadCells,loadCellsFrom,storeCells]
def Of {m:Mp}{A:AW}{w:qz}(hs:jN m A w){size n:Nat}{x x':qi}{pR:List qi}(h:iv A size x=qf (n,pR))(hx:bH m x x'):
 (n=0/\∃xb xc,x'=.slice xb 0 xc) \/
 (∃a c l',x'=.slice (qf a) n c/\U l'=n*size/\jE m pR l'/\∀(j:Nat)(v:qi),l'[j]?=qf v->w.cell? (a.add j)=qf v):=by
 unfold iv at h;split at h;simp only[Zd,Zk]at h;obtain⟨rfl,rfl⟩:=h;cases hx;exact qw ⟨rfl,_,_,rfl⟩;rename_i b k c;split at h;rename_i h0;simp only[Zd,Zk]at h;obtain⟨rfl,rfl⟩:=h;subst h0;cases hx;exact qw ⟨rfl,_,_,rfl⟩;rename_i h0;split at h;rename_i cs hr;split at h
 . rename_i gb;simp only[Zd,Zk]at h;obtain⟨rfl,rfl⟩:=h;cases hx with
   |slice hh h1 h2=>
     rename_i a' jJ;have ha:sC m b a':=by rcases hh with hh|hh;exact hh.TR;exact absurd hh.1 h0
     obtain⟨l',e1,e2,e3⟩:=zj hs ha hr (k*size) gb;exact qB ⟨a',jJ,l',rfl,e1,e2,e3⟩
 cases h;cases h;cases h
def jE.aM {m:Mp}{l l':List qi}(h:jE m l l')(h1:∀v∈l,v.oneCell'=qj):∀v∈l',v.oneCell'=qj:=by intro v hv;obtain⟨i,hi⟩:=List.getElem?_of_mem hv;have b9:=(Zy.1 hi).1;rw[<-h.1]at b9;have e:=Zf b9;rw[(h.2 i _ v e hi).Du];exact h1 _ (List.getElem_mem b9)
def Cj {P:qp}(w:qz)(t ty e:qy)(i:qX)(ht:P.underlying t=qf (.slice e))(hi:P.info? e=qf i)(g o j8 sJ:Nat)(ik:Array qi)(e':qy)(hg:w.heap[g]?=qf (.cells ik e' (0,0)))(a:qM)(m c:Nat)(pR:List qi)(hl:U pR=m*i.size)(j5:∀j u,pR[j]?=qf u->w.cell? (a.add j)=qf u)(h1:∀u∈pR,u.oneCell'=qj)(IK:j8+m<=sJ)(ur:o+j8*i.size+U pR<=ik.size):
 (kao #[t,t] ty #[.slice (qf ⟨g,o,qk⟩) j8 sJ,.slice (qf a) m c]).run P w =
  qL (.slice (qf ⟨g,o,qk⟩) (j8+m) sJ) (w.setRow g (ik.toList.take (o+j8*i.size)++pR++ik.toList.drop (o+j8*i.size+U pR)).toArray):=by have hf:=run_firstCells_some (P:=P) w i.size m a m c pR hl j5;have cJ:=run_storeCells_at P g (o+j8*i.size) e' pR 0 ik w hg YS h1;simp only[Nat.add_zero]at cJ;have ea:(⟨g,o,qk⟩:qM).add (j8*i.size)=⟨g,o+j8*i.size,qk⟩:=pI _ _ rfl;simp[kao,qx ht,sizeOf,qT,hi,kcp,IK,hf,ea,cJ]
def Gs {P:qp}{m:Mp}{A:AW}{w:qz}(hs:jN m A w){ty e:qy}{i:qX}{z:qi}{ts:Array qy}{X:qi}{s s':qi}{n k:Nat}{pR l' ug:List qi}{base:Option qM}(rR:z.cells.size=i.size)(IQ:¬n=0)(Kf:k+n<=140737488355328)(lW:(k+n)*i.bytes<=140737488355328)(nQ:∀v∈pR,v.oneCell'=qj)(hl:U l'=n*i.size)(Qg:jE m pR l')(ho:gU A i.size s=qf (base,k,ug))(SO:bH m s s')(Hnil:∀k',k'=0->k=0->(kao ts ty #[.slice qk 0 0,X]).run P w=qL (.slice (qf ⟨w.heap.size,0,qk⟩) n (qV w n 0 e)) (w.drew.alloc (.cells (l'.toArray++kad z.cells (qV w n 0 e-n)) e)))(Hgrow:∀(b:qM)(j8 sJ:Nat)(ug:List qi),j8=k->U ug=j8*i.size->(∀(j:Nat)(v:qi),ug[j]?=qf v->w.cell? (b.add j)=qf v)->sJ<j8+n->
  (kao ts ty #[.slice (qf b) j8 sJ,X]).run P w=qL (.slice (qf ⟨w.heap.size,0,qk⟩) (j8+n) (qV w (j8+n) sJ e))
   (w.drew.alloc (.cells (ug.toArray++l'.toArray++kad z.cells (qV w (j8+n) sJ e-(j8+n))) e)))(Hroom:∀(g o j8 sJ:Nat)(ik:Array qi)(e':qy),w.heap[g]?=qf (.cells ik e' (0,0))->j8+n<=sJ->o+j8*i.size+U l'<=ik.size->
  (kao ts ty #[.slice (qf ⟨g,o,qk⟩) j8 sJ,X]).run P w=qL (.slice (qf ⟨g,o,qk⟩) (j8+n) sJ)
   (w.setRow g (ik.toList.take (o+j8*i.size)++l'++ik.toList.drop (o+j8*i.size+U l')).toArray)):
 ∃v' w' m',(kao ts ty #[s',X]).run P w=qL v' w'/\
  jf m A w m' ((match base with|some a=>A.set a.block qk|none=>A).alloc (.cells (ug++pR) qj i.size)) w'/\bH m' (.slice (qf ⟨A.next,0,qk⟩) (k+n) (k+n)) v':=by
 have hone':=Qg.aM nQ
 have Qy:∀(eD:Nat)(A0:AW)(Kb:jN m A0 w)(IQ:A0.next=A.next)(lo:List qi)(AU:jE m ug lo)(cy:U lo=k*i.size),
  jf m A0 w (m.ext A.next ⟨w.heap.size,0,i.size,(lo.toArray++l'.toArray++kad z.cells (qV w (k+n) eD e-(k+n))).size⟩)
   (A0.alloc (.cells (ug++pR) qj i.size)) (w.drew.alloc (.cells (lo.toArray++l'.toArray++kad z.cells (qV w (k+n) eD e-(k+n))) e))/\
   bH (m.ext A.next ⟨w.heap.size,0,i.size,(lo.toArray++l'.toArray++kad z.cells (qV w (k+n) eD e-(k+n))).size⟩)
    (.slice (qf ⟨A.next,0,qk⟩) (k+n) (k+n)) (.slice (qf ⟨w.heap.size,0,qk⟩) (k+n) (qV w (k+n) eD e)):=by
  intro eD A0 Kb hnx lo AU cy;have U4:=grownCap_ge w (k+n) eD e;constructor;have ED:jN m A0 w.drew:=Kb.G3 rfl;have ev:=jf.alloc ED (ug++pR) (lo.toArray++l'.toArray++kad z.cells (qV w (k+n) eD e-(k+n))) e i.size (λj v hv=>by
   obtain⟨v',h1,h2⟩:=(AU.append Qg).bk hv;refine⟨v',?_,h2⟩;have b9:=(Zy.1 h1).1;rw[kcb (by simpa using b9)]
   simpa using h1)
  rw[hnx]at ev;exact(jf.drew Kb).trans ev;refine .slice (qw ⟨rfl,rfl,⟨w.heap.size,0,i.size,(lo.toArray++l'.toArray++kad z.cells (qV w (k+n) eD e-(k+n))).size⟩,az rfl,rfl,rfl,?_⟩) (Za _) U4;simp only[Array.size_append,List.size_toArray,size_zeroCells,cy,hl,rR,<-kaA];rw[show k+n+(qV w (k+n) eD e-(k+n))=qV w (k+n) eD e by omega];omega
 unfold gU at ho;split at ho
 .
  simp only[Zd,Zk]at ho;obtain⟨rfl,rfl,rfl⟩:=ho;cases SO;have hr:=Hnil 0 rfl rfl;obtain⟨g1,g2⟩:=Qy 0 A hs rfl [] jE.nil Yb;simp only[kag,ah,Array.empty_append]at g1 g2 ⊢;exact⟨_,_,_,hr,g1,g2⟩
 . rename_i sa k0 c0;split at ho
   .
    rename_i P2;obtain⟨hx1,hx2,hx3⟩:=P2;subst hx2;subst hx3;simp only[Zd,Zk]at ho;obtain⟨rfl,rfl,rfl⟩:=ho;cases SO with
    |slice hh h1 h2=>
      rename_i a' jJ;have NH:jJ=0:=by rcases hh with hh|hh;have h9:=hh.1;rw[h9]at hx1;cases hx1;exact hh.2.1
      subst NH;have hr:=Hgrow a' 0 0 [] rfl Yb (λj u h=>by simp at h) Ya;obtain⟨g1,g2⟩:=Qy 0 A hs rfl [] jE.nil Yb;simp only[kag,ah,Array.empty_append]at g1 g2 hr ⊢;exact⟨_,_,_,hr,g1,g2⟩
   split at ho<;>try(cases ho;done)
   rename_i cs unit hg;split at ho<;>try(cases ho;done)
   rename_i AV;obtain⟨rfl,ur⟩:=AV;simp only[Zd,Zk]at ho;obtain⟨rfl,rfl,rfl⟩:=ho;cases SO with
   |slice hh h1 h2=>
     rename_i a' jJ;have bP:A.bO sa.block=qf cs:=(by unfold AW.bO;rw[hg]);have holds:∃lo,U lo=k0*i.size/\jE m ((cs.drop sa.off).take (k0*i.size)) lo/\∀(j:Nat)(v:qi),lo[j]?=qf v->w.cell? (a'.add j)=qf v:=by rcases hh with hh|⟨rfl,_⟩;exact zj hs hh.TR bP (k0*i.size) ur;exact⟨[],by simp,by simp[jE.nil],by simp⟩
     obtain⟨lo,hlo1,hlo2,hlo3⟩:=holds;by_cases IK:k0+n<=jJ
     .
      have hh':Fv m sa a' jJ:=by rcases hh with hh|⟨_,hc0⟩;exact hh;omega
      obtain⟨zI,KZ,p,hm,K9,hpo,hpt⟩:=hh';obtain⟨p',SY,ik,e',fr,hw,rx,hpu,CB,CG⟩:=hs.Dv _ _ hg;rw[hm]at SY;simp only[Zd]at SY;subst SY;obtain rfl:=rx rfl;obtain⟨sb,so,ss⟩:=a';simp only at K9 hpo hpt KZ;subst KZ;have hfit2:so+k0*i.size+U l'<=ik.size:=by rw[CB,hl,ZW,<-kaA];have:=Nat.mul_le_mul_right i.size IK;rw[<-hpu]at hpt;omega
      have lC:w.heap[sb]?=qf (.cells ik e' (0,0)):=(by rw[K9];exact hw);have hr:=Hroom sb so k0 jJ ik e' lC IK hfit2;have hcz:(ik.toList.take (so+k0*i.size)++l'++ik.toList.drop (so+k0*i.size+U l')).length=ik.size:=by simp only[List.length_append,kaf,kaw,Array.length_toList];omega
      refine⟨_,_,m.ext A.next ⟨p.block,so,i.size,p.C7⟩,hr,?_,?_⟩
      refine jf.adopt hs (p':=⟨p.block,so,i.size,p.C7⟩) (e:=e') hg hm rfl rfl Yb rfl rfl rfl
       (Jm:=(ik.toList.take (so+k0*i.size)++l'++ik.toList.drop (so+k0*i.size+U l')).toArray) ?_ ?_ ?_ ?_
      rw[<-K9];exact setRow_heap w sb ik _ e' _ lC
      simpa[CB]using hcz
      intro j hj;exact setRow_other w sb j _ (by rw[K9];exact hj);intro j v hv;rw[kbQ]at hv;simp only[kaf,kaw]at hv;have e1:min (k0*i.size) (U cs-sa.off)=k0*i.size:=Ya;rw[e1]at hv;by_cases hj:j<k0*i.size;rw[az hj]at hv;obtain⟨h3,_⟩:=BB _ _ _ _ _ hv;obtain⟨v',h4,h5⟩:=CG _ _ h3;refine⟨v',?_,h5⟩;have b9:=(Zj.1 h4).1;simp only[kaL,List.append_assoc];rw[kac Yg,kak Ya,kbA,hpo,ZW];exact h4;rw[ar hj]at hv;obtain⟨v',h4,h5⟩:=Qg.bk hv;refine⟨v',?_,h5⟩;have b9:=(Zy.1 h4).1;simp only[kaL,List.append_assoc];have e2:U (ik.toList.take (so+k0*i.size))=so+k0*i.size:=Yg;rw[kaK Ya,e2,kac Ya]
      rw[show so+j-(so+k0*i.size)=j-k0*i.size by omega];exact h4;refine .slice (qw ⟨rfl,rfl,⟨p.block,so,i.size,p.C7⟩,by simp[Mp.ext],K9,rfl,?_⟩) (Za _) IK
      simpa[hpu]using hpt
     .
      have hr:=Hgrow a' k0 jJ lo rfl hlo1 hlo3 Ya;have ek:=jf.PY hs sa.block;obtain⟨g1,g2⟩:=Qy jJ (A.set sa.block qk) ek.vL rfl lo hlo2 hlo1;exact⟨_,_,_,hr,ek.trans g1,g2⟩
 cases ho
def Oe {P:qp}{m:Mp}{A A1:AW}{w:qz}(hs:jN m A w){t u ty:qy}{s x s' x' v:qi}(h:fD P A t u s x=qf (v,A1))(SO:bH m s s')(hvx:bH m x x'):
 ∃v' w' m',(kao #[t,u] ty #[s',x']).run P w=qL v' w'/\jf m A w m' A1 w'/\bH m' v v':=by
 unfold fD at h;split at h<;>try(cases h;done)
 rename_i e hu;split at h<;>try(cases h;done)
 rename_i i hi;split at h<;>try(cases h;done)
 rename_i z hz;split at h<;>try(cases h;done)
 rename_i DY;obtain⟨rR,uo,rfl⟩:=DY;split at h<;>try(cases h;done)
 rename_i n pR base k ug hn ho;have j5:=Of hs hn hvx;by_cases IQ:n=0
 .
  subst IQ;rw[az rfl]at h;simp only[Zd,Zk]at h;obtain⟨rfl,rfl⟩:=h;have P2:∃xb xc,x'=.slice xb 0 xc:=by rcases j5 with ⟨_,h1⟩|⟨a,c,l',h1,_⟩;exact h1;exact⟨_,_,h1⟩
  obtain⟨xb,xc,rfl⟩:=P2;have Kb:∃b' n' c',s'=.slice b' n' c'/\n'<=c':=by
   unfold gU at ho;split at ho;cases SO;exact⟨_,_,_,rfl,Za _⟩
   . cases SO with
     |slice _ h1 h2=>exact⟨_,_,_,rfl,ZE h1 h2⟩
   cases ho
  obtain⟨b',n',c',rfl,gb⟩:=Kb;exact⟨_,w,m,GG w t ty e i hu hi b' n' c' gb xb xc,jf.refl hs,SO⟩
 rw[ar IQ]at h;split at h
 case isFalse=>cases h
 rename_i hb;obtain⟨Kf,lW,xl⟩:=hb;simp only[Zd,Zk]at h;obtain⟨rfl,rfl⟩:=h;rcases j5 with ⟨h0,_⟩|⟨a,c,l',rfl,hl,Qg,Wv⟩;exact absurd h0 IQ;have nQ:∀v∈pR,v.oneCell'=qj:=by simpa using xl
 have hone':=Qg.aM nQ
 refine Gs hs (e:=e) (i:=i) (z:=z) rR IQ Kf lW nQ hl Qg ho SO
  (λ_ _ hk=>run_append_nil (P:=P) w t ty e i z hu hi hz a n c l' hl Wv Ya Ya (by subst hk;simp only[kag]at lW;omega))
  (λb j8 sJ lo hk h1 h2 h3=>run_append_grow (P:=P) w t ty e i z hu hi hz b j8 sJ lo h1 h2 a n c l' hl Wv h3 Ya (growslice_fits h3 (by subst hk;exact lW)))
  (λg o j8 sJ ik e' h1 h2 h3=>Cj (P:=P) w t ty e i hu hi g o j8 sJ ik e' h1 a n c l' hl Wv hone' h2 h3)
end Go.Stx
namespace Go.Stx
open Go
variable [Gl]
def GS (op:BinOp)(k:qD)(x y:Int):Option qi:=
 match op with
 | .add=>qf (.int k (k.wrap (x+y)))
 | .sub=>qf (.int k (k.wrap (x-y)))
 | .mul=>qf (.int k (k.wrap (x*y)))
 | .quo=>if y=0 then qk else qf (.int k (k.wrap (x.tdiv y)))
 | .rem=>if y=0 then qk else qf (.int k (x.tmod y))
 | .eql=>qf (.bool (decide (x=y)))
 | .neq=>qf (.bool (!decide (x=y)))
 | .lss=>qf (.bool (decide (x<y)))
 | .leq=>qf (.bool (decide (x<=y)))
 | .gtr=>qf (.bool (decide (y<x)))
 | .geq=>qf (.bool (decide (y<=x)))
 | .and=>qf (.int k (k.wrap (kaz k.bits x &&& kaz k.bits y).toNat))
 | .or=>qf (.int k (k.wrap (kaz k.bits x ||| kaz k.bits y).toNat))
 | .xor=>qf (.int k (k.wrap (kaz k.bits x ^^^ kaz k.bits y).toNat))
 | .andNot=>qf (.int k (k.wrap (kaz k.bits x &&& ~~~kaz k.bits y).toNat))
 |_=>qk
def sS (op:BinOp)(k:qD)(x y:Int):Option qi:=
 if y<0 then qk else
 match op with
 | .shl=>qf (.int k (k.wrap (x*2 ^ (min y.toNat k.bits))))
 | .shr=>qf (.int k (x.fdiv (2 ^ (min y.toNat k.bits))))
 |_=>qk
def Nu:BinOp->Bool
 | .shl | .shr=>qj
 |_=>qn
def abin (P:qp)(op:BinOp)(t:qy)(x y:qi):Option qi:=
 match x,y with
 | .int k a,.int k' b=>if Nu op then sS op k a b else if k=k' then GS op k a b else qk
 | .string a,.string b=>
   match op with
   | .eql=>qf (.bool (a.toList == b.toList))
   | .neq=>qf (.bool (!(a.toList == b.toList)))
   | .add=>if a.size+b.size<=9223372036854775807 then qf (.string (a++b)) else qk
   |_=>qk
 | .bool a,.bool b=>
   match op,P.underlying t with
   | .eql,qf .bool=>qf (.bool (a == b))
   | .neq,qf .bool=>qf (.bool (!(a == b)))
   |_,_=>qk
 | .pointer a,.pointer b=>
   if a.isSome && b.isSome then qk else
   match op,P.underlying t with
   | .eql,qf (.pointer _)=>qf (.bool (a.isNone && b.isNone))
   | .neq,qf (.pointer _)=>qf (.bool (!(a.isNone && b.isNone)))
   |_,_=>qk
 |_,_=>qk
def run_aint {P:qp}{op:BinOp}{k:qD}{a b:Int}{t:qy}{v:qi}(h0:Nu op=qn)(h:GS op k a b=qf v)(w:qz):
 (qJ op t (.int k a) (.int k b)).run P w=qL v w:=by
 cases op
 case add=>injection h with h;subst h;simp[qJ,kb7]
 case sub=>injection h with h;subst h;simp[qJ,kb7]
 case mul=>injection h with h;subst h;simp[qJ,kb7]
 case quo=>by_cases hb:b=0;simp[GS,hb]at h;simp[GS,hb]at h;subst h;simp[qJ,Op.intDiv,hb]
 case rem=>by_cases hb:b=0;simp[GS,hb]at h;simp[GS,hb]at h;subst h;simp[qJ,Op.intDiv,hb]
 case and=>injection h with h;subst h;simp[qJ,kbM]
 case or=>injection h with h;subst h;simp[qJ,kbM]
 case xor=>injection h with h;subst h;simp[qJ,kbM]
 case andNot=>injection h with h;subst h;simp[qJ,kbM]
 case shl=>cases h0
 case shr=>cases h0
 case eql=>injection h with h;subst h;simp[qJ,kbw];rfl
 case neq=>injection h with h;subst h;simp[qJ,kbw];rfl
 case lss=>injection h with h;subst h;simp[qJ,kbw]
 case leq=>injection h with h;subst h;simp[qJ,kbw]
 case gtr=>injection h with h;subst h;simp[qJ,kbw]
 case geq=>injection h with h;subst h;simp[qJ,kbw]
def R3 {P:qp}{op:BinOp}{k k':qD}{a b:Int}{t:qy}{v:qi}(h:sS op k a b=qf v)(w:qz):
 (qJ op t (.int k a) (.int k' b)).run P w=qL v w:=by
 by_cases hb:b<0;simp[sS,hb]at h;cases op
 case shl=>simp[sS,hb]at h;subst h;simp[qJ,Op.shift,hb]
 case shr=>simp[sS,hb]at h;subst h;simp[qJ,Op.shift,hb]
 all_goals simp[sS]at h
def Rg {op:BinOp}{k:qD}{a b:Int}{v:qi}(h:GS op k a b=qf v)(m:Mp):bH m v v:=by
 cases op
 case quo=>by_cases hb:b=0;simp[GS,hb]at h;simp[GS,hb]at h;subst h;constructor
 case rem=>by_cases hb:b=0;simp[GS,hb]at h;simp[GS,hb]at h;subst h;constructor
 case shl=>cases h
 case shr=>cases h
 all_goals(injection h with h;subst h;constructor)
def Lj {op:BinOp}{k:qD}{a b:Int}{v:qi}(h:sS op k a b=qf v)(m:Mp):bH m v v:=by
 by_cases hb:b<0;simp[sS,hb]at h;cases op
 case shl=>simp[sS,hb]at h;subst h;constructor
 case shr=>simp[sS,hb]at h;subst h;constructor
 all_goals simp[sS]at h
def wH {P:qp}{t:qy}(d:Nat)(a b:Bool)(hu:P.underlying t=qf .bool)(w:qz):
 (kan (d+1) t (.bool a) (.bool b)).run P w=qL (a == b) w:=by exact Yac
def kR {P:qp}{t e:qy}(d:Nat)(b:Option qM)(hu:P.underlying t=qf (.pointer e))(w:qz):
 (kan (d+1) t (.pointer qk) (.pointer b)).run P w=qL b.isNone w:=by exact Yac
def sZ {P:qp}{t e:qy}(d:Nat)(a:qM)(hu:P.underlying t=qf (.pointer e))(w:qz):
 (kan (d+1) t (.pointer (qf a)) (.pointer qk)).run P w=qL qn w:=by exact Yac
def ic {P:qp}{t:qy}{x y:qi}{r:Bool}{w:qz}(h:(kan (9999+1) t x y).run P w=qL r w):(Op.equal t x y).run P w=qL r w:=h
def GF {P:qp}(op:BinOp)(t:qy)(xo yo:qA)(k k':qD)(a b:Int)(w:qz):
 (qK op t xo yo (.int k a) (.int k' b)).run P w=qL () w:=by cases op<;>simp[qK]
def T9 {P:qp}{op:BinOp}{t:qy}{x y v:qi}(h:abin P op t x y=qf v){m:Mp}{x' y':qi}(hx:bH m x x')(hy:bH m y y')(xo yo:qA)(w:qz):
 (do qK op t xo yo x' y';qJ op t x' y':Sem qi).run P w=qL v w/\bH m v v:=by
 unfold abin at h;split at h
 .
  cases hx;cases hy;rw[Zo,GF,Zn];split at h;exact⟨R3 h w,Lj h m⟩;rename_i hs;split at h;rename_i hk;subst hk;exact⟨run_aint (by simpa using hs) h w,Rg h m⟩;cases h
 .
  cases hx;cases hy;cases op
  case eql=>injection h with h;subst h;exact⟨by simp[qK,qJ,Op.stringOp],by constructor⟩
  case neq=>injection h with h;subst h;exact⟨by simp[qK,qJ,Op.stringOp],by constructor⟩
  case add=>
   rename_i a b;replace h:(if a.size+b.size<=9223372036854775807 then qf (Value.string (a++b)) else qk)=qf v:=h;by_cases gb:a.size+b.size<=9223372036854775807;rw[az gb]at h;injection h with h;subst h;refine⟨?_,by constructor⟩;have:¬(((a.size+b.size:Nat):Int)>Zb.max):=by have e:Zb.max=9223372036854775807:=rfl;rw[e];omega
   simp only[qK,qJ,Op.stringOp,ar this];rfl;rw[ar gb]at h;cases h
  all_goals cases h
 .
  cases hx;cases hy;split at h;rename_i hu;injection h with h;subst h;exact⟨by simp[qK,qJ,ic (wH _ _ _ hu w)],by constructor⟩
  rename_i hu;injection h with h;subst h;exact⟨by simp[qK,qJ,ic (wH _ _ _ hu w)],by constructor⟩
  cases h
 .
  rename_i a b;cases a with
  |none=>
    cases hx;cases b with
    |none=>
      cases hy;simp only[kbS,Zq,if_false,Bool.and_self]at h;split at h;rename_i hu;injection h with h;subst h;exact⟨by simp[qK,qJ,ic (kR _ _ hu w)],by constructor⟩
      rename_i hu;injection h with h;subst h;exact⟨by simp[qK,qJ,ic (kR _ _ hu w)],by constructor⟩
      cases h
    |some b=>
      cases hy;simp only[kbS,Bool.false_and,Zq,if_false]at h;split at h;rename_i hu;injection h with h;subst h;exact⟨by simp[qK,qJ,ic (kR _ _ hu w)],by constructor⟩
      rename_i hu;injection h with h;subst h;exact⟨by simp[qK,qJ,ic (kR _ _ hu w)],by constructor⟩
      cases h
  |some a=>
    cases b with
    |some b=>simp at h
    |none=>
      cases hx;cases hy;simp only[kbS,Bool.and_false,Zq,if_false]at h;split at h;rename_i hu;injection h with h;subst h;exact⟨by simp[qK,qJ,ic (sZ _ _ hu w)],by constructor⟩
      rename_i hu;injection h with h;subst h;exact⟨by simp[qK,qJ,ic (sZ _ _ hu w)],by constructor⟩
      cases h
 cases h
def aun (op:UnOp)(x:qi):Option qi:=
 match op,x with
 | .not,.bool b=>qf (.bool !b)
 | .neg,.int k n=>qf (.int k (k.wrap (0-n)))
 | .xor,.int k n=>qf (.int k (k.wrap (kaz k.bits (if k.signed then -1 else k.max) ^^^ kaz k.bits n).toNat))
 |_,_=>qk
def Mf {P:qp}{op:UnOp}{x v:qi}(h:aun op x=qf v){m:Mp}{x':qi}(hx:bH m x x')(w:qz):
 (Op.unary op x').run P w=qL v w/\bH m v v:=by unfold aun at h;split at h;injection h with h;subst h;cases hx;exact⟨by simp[Op.unary],by constructor⟩;injection h with h;subst h;cases hx;exact⟨by simp[Op.unary,kb7],by constructor⟩;injection h with h;subst h;cases hx;exact⟨by simp[Op.unary,kbM],by constructor⟩;cases h
def Rj (P:qp)(src dst:qy)(x:qi):Option qi:=
 match P.underlying src,P.underlying dst,x with
 |some _,qf (.int k),.int _ n=>qf (.int k (k.wrap n))
 |some _,qf .string,.string s=>qf (.string s)
 |_,_,_=>qk
def Gv {P:qp}{src dst:qy}{x v:qi}(h:Rj P src dst x=qf v){m:Mp}{x':qi}(hx:bH m x x')(w:qz):
 (convert src dst x').run P w=qL v w/\bH m v v:=by
 unfold Rj at h;split at h;rename_i h1 h2;injection h with h;subst h;cases hx;exact⟨by simp[convert,qx h1,qx h2,Conv.intToInt],by constructor⟩
 rename_i h1 h2;injection h with h;subst h;cases hx;exact⟨by simp[convert,qx h1,qx h2],by constructor⟩
 cases h
end Go.Stx
namespace Go.Stx
open Go
variable [Gl]
def IC (P:qp)(t:qy):Option Bool:=
 match P.underlying t with
 |some (.struct _)=>qf qj
 |some (.array _ _)=>qf qj
 |some _=>qf qn
 |none=>qk
def tL {P:qp}{t:qy}{b:Bool}(h:IC P t=qf b)(w:qz):(isAgg t).run P w=qL b w:=by
 unfold IC at h;cases hu:P.underlying t with
 |none=>simp[hu]at h
 |some d=>rw[hu]at h;simp only[isAgg,Zo,qx hu,Zn];cases d<;>simp only[Zd]at h<;>subst h<;>rfl
def gH {P:qp}{t:qy}{i:qX}(h:P.info? t=qf i)(w:qz):(sizeOf t).run P w=qL i.size w:=by simp[sizeOf,qT,h]
def ja (P:qp)(A:AW)(t:qy)(p:qM):Option qi:=
 match A.bO p.block,IC P t with
 |some cs,qf qn=>cs[p.off]?
 |some cs,qf qj=>
   match P.info? t with
   |some i=>if p.off+i.size<=U cs then qf (.agg ((cs.drop p.off).take i.size).toArray) else qk
   |none=>qk
 |_,_=>qk
def bH.u4 {m:Mp}{l l':List qi}(h:jE m l l'):bH m (.agg l.toArray) (.agg l'.toArray):=
 .agg (by simpa using h.1) λi v v' a b=>h.2 i v v' YT Yq
def Re {P:qp}{m:Mp}{A:AW}{w:qz}(hs:jN m A w){t:qy}{p p':qM}{v:qi}(h:ja P A t p=qf v)(hp:sC m p p'):
 ∃v',(loadVar t p').run P w=qL v' w/\bH m v v':=by unfold ja at h;split at h;rename_i cs hr ha;obtain⟨v',h1,h2⟩:=load_rel (P:=P) hs hp hr h;exact⟨v',by simp only[loadVar,Zo,tL ha,Zn,Zq,if_false,h1],h2⟩;rename_i cs hr ha;split at h;rename_i i hi;split at h;rename_i gb;injection h with h;subst h;obtain⟨l',h1,h2⟩:=KT (P:=P) hs hp hr i.size gb;refine⟨.agg l'.toArray,?_,.u4 h2⟩;simp only[loadVar,Zo,tL ha,Zn,if_true,gH hi,h1,ZA];cases h;cases h;cases h
def aI (P:qp)(A:AW)(t:qy)(p:qM)(v:qi):Option AW:=
 match A.bk p.block,P.info? t with
 |some (.cells cs qj unit),qf i=>
   if v.cells.size=i.size/\p.off+i.size<=U cs/\v.cells.toList.all ZK then
    qf (A.set p.block (qf (.cells (dS cs p.off v.cells.toList) qj unit)))
   else qk
 |_,_=>qk
def Oa {P:qp}{m:Mp}{A A1:AW}{w:qz}(hs:jN m A w){t:qy}{p p':qM}{v v':qi}(h:aI P A t p v=qf A1)(hp:sC m p p')(hv:bH m v v'):
 ∃w',(storeVar t p' v').run P w=qL () w'/\jf m A w m A1 w':=by
 unfold aI at h;split at h;rename_i cs unit i hg hi;split at h;rename_i hc;obtain⟨h1,h2,h3⟩:=hc;injection h with h;subst h;obtain⟨zI,KZ,q,hm,hb,ho⟩:=hp;have jv:=hv.cells;obtain⟨w',hr,ev⟩:=oX (P:=P) (o:=p.off) hm v.cells.toList v'.cells.toList 0 cs A w hs hg jv (λx hx=>Zs.1 h3 x hx) Yg;refine⟨w',?_,by simpa using ev⟩;have uo:v'.cells.size=i.size:=by have:=jv.1;simp at this;omega
 have ea:p'=⟨q.block,q.base+p.off,qk⟩:=by rw[Av p' KZ,hb,ho]
 subst ea;simp only[storeVar,Zo,gH hi,Zn,uo,ne_eq,not_true_eq_false,if_false,hr];cases h;cases h
def xT {P:qp}{m:Mp}{A:AW}{w:qz}(hs:jN m A w)(e:qy)(unit:Nat){l:List qi}{ik:Array qi}(hl:jE m l ik.toList):
 ∃w' m',(newRow e ik).run P w=qL ⟨w.heap.size,0,qk⟩ w'/\jf m A w m' (A.alloc (.cells l qj unit)) w'/\m'=m.ext A.next ⟨w.heap.size,0,unit,ik.size⟩:=by refine⟨w.alloc (.cells ik e),_,?_,jf.alloc hs l ik e unit (λk v hv=>?_),rfl⟩;simp only[newRow,Zo,run_newObj,Zn,ZA];rfl;obtain⟨v',h1,h2⟩:=hl.bk hv;exact⟨v',by simpa using h1,h2⟩
def Rl (A:AW)(v:qi):qi×AW:=(.pointer (qf ⟨A.next,0,qk⟩),A.alloc (.cells v.cells.toList qj 1))
def JR {P:qp}{m:Mp}{A:AW}{w:qz}(hs:jN m A w)(e:qy){v v':qi}(hv:bH m v v'):
 ∃p' w' m',(Instr.box e v').run P w=qL p' w'/\jf m A w m' (Rl A v).2 w'/\bH m' (Rl A v).1 p':=by obtain⟨w',m',h1,h2,h3⟩:=xT (P:=P) hs e 1 hv.cells;refine⟨.pointer (qf ⟨w.heap.size,0,qk⟩),w',m',?_,h2,?_⟩;simp only[Instr.box,newVar,Zo,h1,Zn,ZA];rw[h3];exact .G0 (sC.nF m A.next ⟨w.heap.size,0,1,_⟩ 0)
def uJ (P:qp)(s:qy)(x:qi)(f:Nat):Option qi:=
 match P.underlying s,x with
 |some (.struct fs),.pointer (qf p)=>
   match fs[f]? with
   |some fd=>
     match P.info? fd.type with
     |some i=>if i.size=0 then qk else qf (.pointer (qf ⟨p.block,p.off+fd.offset,qk⟩))
     |none=>qk
   |none=>qk
 |_,_=>qk
def sC.plus {m:Mp}{a a':qM}(h:sC m a a')(n:Nat):sC m ⟨a.block,a.off+n,qk⟩ (a'.add n):=by obtain⟨h1,h2,p,h3,h4,h5⟩:=h;rw[pI _ _ h2];exact⟨rfl,rfl,p,h3,h4,by simp only[h5,ZW]⟩
def Fs {P:qp}{m:Mp}{s:qy}{x x' v:qi}{f:Nat}(h:uJ P s x f=qf v)(hx:bH m x x'):
 ∃v',bH m v v'/\∀w,(Instr.fieldAt s x' f).run P w=qL v' w:=by
 unfold uJ at h;split at h
 . rename_i fs p hu;cases hx with
   |G0 ha=>rename_i p';split at h;rename_i fd hf;split at h;rename_i i hi;split at h;cases h;rename_i h0;injection h with h;subst h;refine⟨.pointer (qf (p'.add fd.offset)),.G0 (ha.plus _),λw=>?_⟩;simp[Instr.fieldAt,qx hu,hf,kbY,fieldPlace,gH hi,h0];cases h;cases h
 cases h
def apart (P:qp)(t:qy)(cs:Array qi)(off:Nat):Option qi:=
 match IC P t with
 |some qn=>cs[off]?
 |some qj=>
   match P.info? t with
   |some i=>qf (.agg (cs.extract off (off+i.size)))
   |none=>qk
 |none=>qk
def mL {P:qp}{m:Mp}{t:qy}{cs uP:Array qi}{off:Nat}{v:qi}(h:apart P t cs off=qf v)(hc:bH m (.agg cs) (.agg uP)):
 ∃v',bH m v v'/\∀w,(part t uP off).run P w=qL v' w:=by
 cases hc with
 |agg hx h1=>unfold apart at h;split at h;rename_i ha;have b9:off<uP.size:=(by rw[<-hx];exact(Zj.1 h).1);have e:=ZQ b9;refine⟨uP[off],h1 off v _ h e,λw=>?_⟩;simp only[part,Zo,tL ha,Zn,Zq,if_false];rw[e];rfl;rename_i ha;split at h;rename_i i hi;injection h with h;subst h;refine⟨.agg (uP.extract off (off+i.size)),.agg Yu ?_,λw=>?_⟩;intro j v v' h2 h3;rw[Array.getElem?_extract]at h2 h3;split at h2;rename_i hj;rw[az (by rw[<-hx];exact hj)]at h3;exact h1 _ v v' h2 h3;cases h2;simp only[part,Zo,tL ha,Zn,if_true,gH hi,ZA];cases h;cases h
def JL (P:qp)(t:qy)(x:qi)(f:Nat):Option qi:=
 match P.underlying t,x with
 |some (.struct fs),.agg cs=>
   match fs[f]? with
   |some fd=>apart P fd.type cs fd.offset
   |none=>qk
 |_,_=>qk
def Oi {P:qp}{m:Mp}{t:qy}{x x' v:qi}{f:Nat}(h:JL P t x f=qf v)(hx:bH m x x'):
 ∃v',bH m v v'/\∀w,(Instr.field t x' f).run P w=qL v' w:=by
 unfold JL at h;split at h;rename_i fs cs hu;split at h
 . rename_i fd hf;have P2:=hx;cases hx with
   |agg uo h1=>obtain⟨v',h3,h2⟩:=mL (P:=P) h P2;refine⟨v',h3,λw=>?_⟩;simp only[Instr.field,Zo,qx hu,Zn,hf,asAgg,ZA,h2]
 cases h;cases h
def uH (P:qp)(t:qy)(x ix:qi):Option qi:=
 match P.underlying t,x,ix with
 |some (.slice e),.slice (qf p) len _,.int _ n=>
   match P.info? e with
   |some i=>if 0<=n/\n<len then qf (.pointer (qf ⟨p.block,p.off+n.toNat*i.size,qk⟩)) else qk
   |none=>qk
 |some (.array len e),.pointer (qf p),.int _ n=>
   match P.info? e with
   |some i=>if 0<=n/\n<len then qf (.pointer (qf ⟨p.block,p.off+n.toNat*i.size,qk⟩)) else qk
   |none=>qk
 |_,_,_=>qk
def Fq {P:qp}{m:Mp}{t:qy}{x x' y y' v:qi}(h:uH P t x y=qf v)(hx:bH m x x')(hy:bH m y y'):
 ∃v',bH m v v'/\∀w,(Instr.indexAt t x' y').run P w=qL v' w:=by
 unfold uH at h;split at h;rename_i e p len fg k n hu;cases hy;split at h;rename_i i hi;split at h
 . rename_i hb;injection h with h;subst h;cases hx with
   |slice hh h1 h2=>
     rename_i p' jJ;have ha:sC m p p':=by rcases hh with hh|hh;exact hh.TR;omega
     refine⟨.pointer (qf (p'.add (n.toNat*i.size))),.G0 (ha.plus _),λw=>?_⟩;simp[Instr.indexAt,qx hu,asIntOf,gH hi,hb.1,hb.2]
 cases h;cases h;rename_i len e p k n hu;cases hy;split at h;rename_i i hi;split at h
 . rename_i hb;injection h with h;subst h;cases hx with
   |G0 ha=>rename_i p';refine⟨.pointer (qf (p'.add (n.toNat*i.size))),.G0 (ha.plus _),λw=>?_⟩;simp[Instr.indexAt,qx hu,asIntOf,gH hi,hb.1,hb.2,kbY]
 cases h;cases h;cases h
def JK (P:qp)(t:qy)(x ix:qi):Option qi:=
 match P.underlying t,x,ix with
 |some (.array len e),.agg cs,.int _ n=>
   match P.info? e with
   |some i=>if 0<=n/\n<len then apart P e cs (n.toNat*i.size) else qk
   |none=>qk
 |some .string,.string s,.int _ n=>
   if 0<=n then
    match s[n.toNat]? with
    |some b=>qf (.int .u8 b.toNat)
    |none=>qk
   else qk
 |_,_,_=>qk
def Oh {P:qp}{m:Mp}{t:qy}{x x' y y' v:qi}(h:JK P t x y=qf v)(hx:bH m x x')(hy:bH m y y'):
 ∃v',bH m v v'/\∀w,(Instr.index t x' y').run P w=qL v' w:=by
 unfold JK at h;split at h;rename_i len e cs k n hu;cases hy;split at h;rename_i i hi;split at h
 . rename_i hb;have P2:=hx;cases hx with
   |agg uo h1=>obtain⟨v',h3,h2⟩:=mL (P:=P) h P2;exact⟨v',h3,λw=>by simp[Instr.index,qx hu,asIntOf,gH hi,hb.1,hb.2,h2]⟩
 cases h;cases h;rename_i s k n hu;cases hx;cases hy;split at h;rename_i h0;split at h;rename_i b hb;injection h with h;subst h;exact⟨.int .u8 b.toNat,by constructor,λw=>by simp[Instr.index,qx hu,asIntOf,h0,hb]⟩;cases h;cases h;cases h
def uL (v:Option qi)(d p9:Nat):Option Nat:=
 match v with
 |none=>qf d
 |some (.int _ n)=>if 0<=n/\n<=p9 then qf n.toNat else qk
 |some _=>qk
def fO (P:qp)(A:AW)(e:qy)(p:qM)(l:Nat):Option qM:=
 if l=0 then qf p else
 match P.info? e,A.bk p.block with
 |some i,qf (.cells _ _ unit)=>if unit=i.size then qf ⟨p.block,p.off+l*i.size,qk⟩ else qk
 |_,_=>qk
def Ap (P:qp)(A:AW)(t:qy)(x:qi)(lo hi mx:Option qi):Option qi:=
 match P.underlying t,x,mx with
 |some (.slice e),.slice a len fg,qk=>
   match uL hi len fg with
   |some h=>
     match uL lo 0 h with
     |some l=>
       match P.info? e,a with
       |some _,qk=>qf (.slice qk (h-l) (fg-l))
       |some _,qf p=>
         match fO P A e p l with
         |some q=>qf (.slice (qf q) (h-l) (fg-l))
         |none=>qk
       |none,_=>qk
     |none=>qk
   |none=>qk
 |some .string,.string s,qk=>
   match uL hi s.size s.size with
   |some h=>
     match uL lo 0 h with
     |some l=>qf (.string (s.extract l h))
     |none=>qk
   |none=>qk
 |_,_,_=>qk
end Go.Stx
namespace Go.Stx
open Go
variable [Gl]
def By (m:Mp):Option qi->Option qi->Prop
 |none,qk=>True
 |some v,qf v'=>bH m v v'
 |_,_=>False
def kY {P:qp}{w:qz}{k:qD}{n:Int}{y:Nat}{aD:BoundsCode}(h0:0<=n)(h1:n<=y):
 (Instr.sliceBound (.int k n) y aD).run P w=qL n.toNat w:=by simp[Instr.sliceBound,asIntOf,h0,h1]
def Gz {m:Mp}{v v':Option qi}{d p9 h:Nat}(hb:uL v d p9=qf h)(hv:By m v v'):
 (v'=qk/\h=d)\/∃k n,v'=qf (.int k n)/\0<=n/\n<=p9/\h=n.toNat:=by
 unfold uL at hb;split at hb
 . injection hb with hb;cases v' with
   |none=>exact qw ⟨rfl,hb.symm⟩
   |some _=>exact hv.elim
 rename_i k n;split at hb
 . rename_i hc;injection hb with hb;cases v' with
   |none=>exact hv.elim
   |some _=>cases hv;exact qB ⟨k,n,rfl,hc.1,hc.2,hb.symm⟩
 cases hb;cases hb
def sK {P:qp}{m:Mp}{lo hi lo' ww:Option qi}{len fg jJ h l:Nat}(isS:Bool)(hh:uL hi len fg=qf h)(hl:uL lo 0 h=qf l)(hc:fg<=jJ)(AU:By m lo lo')(hhi:By m hi ww)(w:qz):(kbb isS len jJ lo' ww qk).run P w=qL (l,h,jJ) w:=by
 rcases Gz hh hhi with ⟨rfl,rfl⟩|⟨k,n,rfl,h0,h1,rfl⟩<;>rcases Gz hl AU with ⟨rfl,rfl⟩|⟨k',n',rfl,h0',h1',rfl⟩;simp[kbb];simp[kbb,kY h0' h1'];have h2:n<=(jJ:Int):=Ya
 simp[kbb,kY h0 h2];have h2:n<=(jJ:Int):=Ya
 simp[kbb,kY h0 h2,kY h0' h1']
def Ml {v:Option qi}{d p9 h:Nat}(hb:uL v d p9=qf h):h=d\/h<=p9:=by
 unfold uL at hb;split at hb;injection hb with hb;exact qw hb.symm;split at hb;rename_i hc;injection hb with hb;exact qB Ya
 cases hb;cases hb
def Ob {P:qp}{m:Mp}{A:AW}{w:qz}(hs:jN m A w){t:qy}{x x' v:qi}{lo hi mx lo' ww mx':Option qi}(h:Ap P A t x lo hi mx=qf v)(hx:bH m x x')(AU:By m lo lo')(hhi:By m hi ww)(EF:By m mx mx'):∃v',bH m v v'/\∀w',(kbg t x' lo' ww mx').run P w'=qL v' w':=by
 unfold Ap at h;split at h
 . rename_i e a len fg hu;cases mx' with
   |some _=>exact EF.elim
   |none=>
   split at h
   . rename_i hh ehi;split at h
     . rename_i l elo;have hlh:l=0\/l<=hh:=Ml elo;have hhc:hh=len\/hh<=fg:=Ml ehi;split at h;rename_i i hi;injection h with h;subst h;cases hx;have hr:=sK (P:=P) (m:=m) qj ehi elo (Za 0) AU hhi;have h1:hh=0:=Ya;have h2:l=0:=Ya;subst h1;subst h2;refine⟨.slice qk 0 0,.mW,λw'=>?_⟩;simp[kbg,kbJ,qx hu,hr,gH hi]
       . rename_i i p hi;split at h
         . rename_i q hq;injection h with h;subst h;cases hx with
           |slice Hb h1 h2=>
             rename_i p' jJ;have hr:=sK (P:=P) (m:=m) qj ehi elo h2 AU hhi;refine⟨.slice (qf (if jJ=l then p' else p'.add (l*i.size))) (hh-l) (jJ-l),?_,λw'=>?_⟩
             rotate_left
             simp only[kbg,Zo,qx hu,Zn,kbJ,hr,gH hi,ZA,kaR];split<;>rfl;refine .slice ?_ Ya Ya;by_cases jv:jJ=l;refine qB ⟨by omega,by omega,?_⟩;unfold fO at hq;split at hq;injection hq with hq;subst hq;rcases Hb with ⟨_,_,pl,g3,_⟩|⟨_,_,g⟩;exact qB (by rw[g3];exact kbB _);exact g;split at hq;rename_i hg;split at hq;injection hq with hq;subst hq;obtain⟨pl,g7,_⟩:=hs.Dv _ _ hg;exact qB (by simp only;rw[g7];exact kbB _);cases hq;cases hq;rw[ar jv];have hsr':Fv m p p' jJ:=by rcases Hb with Hb|Hb;exact Hb;omega
             obtain⟨g1,g2,pl,g3,g4,g5,g6⟩:=hsr';unfold fO at hq;split at hq;rename_i ND;subst ND;injection hq with hq;subst hq;rw[Nat.zero_mul,show p'.add 0=p' by unfold Addr.add;simp];exact qw ⟨g1,g2,pl,g3,g4,g5,by simpa using g6⟩;rename_i ND;split at hq;rename_i i' cs own unit ww hg;rw[hi]at ww;injection ww with ww;subst ww;split at hq;rename_i hun;injection hq with hq;subst hq;obtain⟨pl',g7,ik,e',fr,g8,_,g9,_⟩:=hs.Dv _ _ hg;rw[g3]at g7;injection g7 with g7;subst g7;rw[pI _ _ g2];refine qw ⟨rfl,rfl,pl,g3,g4,by simp only[g5,ZW],?_⟩;rw[<-g9,hun]at g6 ⊢;simp only;have:l*i.size+(jJ-l)*i.size=jJ*i.size:=by rw[<-kaA];congr 1;omega
             omega;cases hq;cases hq
         cases h
       cases h
     cases h
   cases h
 . rename_i s hu;cases mx' with
   |some _=>exact EF.elim
   |none=>cases hx;split at h;rename_i hh ehi;split at h;rename_i l elo;injection h with h;subst h;have hr:=sK (P:=P) (m:=m) qn ehi elo (Za _) AU hhi;refine⟨.string (s.extract l hh),.string _,λw'=>?_⟩;simp[kbg,kbJ,qx hu,hr];cases h;cases h
 cases h
def Ei (P:qp)(t:qy)(x:qi)(lo hi:Option qi)(mx:qi):Option qi:=
 match P.underlying t,x,lo,hi,mx with
 |some (.slice e),.slice a _ _,qk,qf (.int _ h),.int _ q=>
   match P.info? e with
   |some _=>if h=0/\q=0 then qf (match a with|none=>.slice qk 0 0|some _=>.slice (qf ⟨0,0,qf 0⟩) 0 0) else qk
   |none=>qk
 |_,_,_,_,_=>qk
def Li {P:qp}{m:Mp}{t:qy}{x x' v mx mx':qi}{lo hi lo' ww:Option qi}(h:Ei P t x lo hi mx=qf v)(hx:bH m x x')(AU:By m lo lo')(hhi:By m hi ww)(EF:bH m mx mx'):∃v',bH m v v'/\∀w',(kbg t x' lo' ww (qf mx')).run P w'=qL v' w':=by
 unfold Ei at h;split at h<;>try(cases h;done)
 rename_i e a len fg k h0 k' q hu;split at h<;>try(cases h;done)
 rename_i i hi0;split at h<;>try(cases h;done)
 rename_i hc;obtain⟨rfl,rfl⟩:=hc;injection h with h;subst h;cases lo' with
 |some _=>exact AU.elim
 |none=>
 cases ww with
 |none=>exact hhi.elim
 |some hv=>
 have hhi':bH m (.int k 0) hv:=hhi;cases hhi';cases EF;have hb:∀(jJ:Nat)(w':qz),(kbb qj len jJ qk (qf (.int k 0)) (qf (.int k' 0))).run P w'=qL (0,0,0) w':=λjJ w'=>by
  simp[kbb,kY (P:=P) (w:=w') (k:=k') (n:=0) (y:=jJ) (aD:=.slice3Acap) Ya Ya,
   kY (P:=P) (w:=w') (k:=k) (n:=0) (y:=0) (aD:=.slice3B) Ya Ya]
 cases a with
 |none=>cases hx;exact⟨.slice qk 0 0,.mW,λw'=>by simp[kbg,kbJ,qx hu,hb,gH hi0]⟩
 |some a=>
   cases hx with
   |slice hh h1 h2=>rename_i a' jJ;exact⟨.slice (qf a') 0 0,.slice (qB ⟨rfl,rfl,qw rfl⟩) (Za _) (Za _),λw'=>by simp[kbg,kbJ,qx hu,hb,gH hi0]⟩
def Gq (size:Nat):List (Nat×qi)->List qi->Option (List qi)
 |[],cs=>qf cs
 | (i,v)::dE,cs=>if v.cells.size=size/\i*size+size<=U cs then Gq size dE (dS cs (i*size) v.cells.toList) else qk
def fH (z:List qi):Nat->List qi
 |0=>[]
 |n+1=>z++fH z n
def D3 (l:List qi):∀(cs:Array qi)(off k:Nat),off+k+U l<=cs.size->
 ((l.zipIdx k).foldl (λcs (c,j)=>cs.setIfInBounds (off+j) c) cs).toList=dS cs.toList (off+k) l:=by
 induction l with
 |nil=>intro cs off k _;rfl
 |cons v l ih=>intro cs off k h;simp only[List.zipIdx_cons,List.foldl_cons,dS];rw[ih _ off (k+1) (by simp at h ⊢;omega)];simp[ZW]
def xy {m:Mp}:∀(l l':List qi)(off:Nat)(cs uP:List qi),jE m cs uP->jE m l l'->off+U l<=U cs->
 jE m (dS cs off l) (dS uP off l')
 |[],l',off,cs,uP,h,hl,_=>by have e:=hl.tt;subst e;exact h
 |v::l,l',off,cs,uP,h,hl,gb=>by obtain⟨v',t',rfl,hv,ht⟩:=hl.nP;simp only[ZI]at gb;refine xy l t' (off+1) _ _ ⟨by simp[h.1],λi x x' h1 h2=>?_⟩ ht Yg;by_cases hi:off=i;subst hi;rw[ZN Ya]at h1;rw[ZN (by rw[<-h.1];omega)]at h2;injection h1 with h1;injection h2 with h2;subst h1;subst h2;exact hv;rw[ZT hi]at h1 h2;exact h.2 i x x' h1 h2
def Gp {m:Mp}{size:Nat}:∀(lO iU:List (Nat×qi))(cs r:List qi)(uP:Array qi),Gq size lO cs=qf r->jE m cs uP.toList->
 U lO=U iU->(∀(k:Nat)(p p':Nat×qi),lO[k]?=qf p->iU[k]?=qf p'->p.1=p'.1/\bH m p.2 p'.2)->
 ∃r',kbv (λi=>qf (i*size,size)) uP iU=qf r'/\jE m r r'.toList
 |[],iU,cs,r,uP,h,hc,hl,_=>by
   cases iU with
   |cons _ _=>simp at hl
   |nil=>injection h with h;subst h;exact⟨uP,rfl,hc⟩
 | (i,v)::dE,iU,cs,r,uP,h,hc,hl,hp=>by
   cases iU with
   |nil=>simp at hl
   |cons p' rest'=>
     obtain⟨i',v'⟩:=p';obtain⟨h1,h2⟩:=hp 0 _ _ rfl rfl;simp only at h1 h2;subst h1;unfold Gq at h;split at h;rename_i DY;obtain⟨hz,gb⟩:=DY;have jv:=h2.cells;have hz':v'.cells.size=size:=by have:=jv.1;simp at this;omega
     have uo:uP.size=U cs:=by have:=hc.1;simp at this;omega
     have hfold:=D3 v'.cells.toList uP (i*size) 0 Yg;obtain⟨r',h3,h4⟩:=Gp dE rest' _ r (v'.cells.zipIdx.foldl (λcs (c,j)=>cs.setIfInBounds (i*size+j) c) uP) h (by rw[<-kcf,Array.toList_zipIdx,hfold];exact xy _ _ _ _ _ hc jv Yg) Yv (λk p p' a b=>hp (k+1) p p' YT Yq)
     refine⟨r',?_,h4⟩;simp only[kbv,hz',ne_eq,not_true_eq_false,decide_false,Bool.false_or,uo,decide_eq_true_eq];rw[ar Ya];exact h3;cases h
def kG (z:List qi)(n:Nat):U (fH z n)=n*U z:=by
 induction n with
 |zero=>simp[fH]
 |succ n ih=>simp[fH,ih,kaA];omega
def TI (z:List qi)(n j:Nat)(h:j<n*U z):(fH z n)[j]?=z[j % U z]?:=by
 induction n generalizing j with
 |zero=>simp at h
 |succ n ih=>simp only[fH];by_cases hj:j<U z;rw[kac hj,Nat.mod_eq_of_lt hj];rw[kaK Ya,ih _ (by simp[kaA]at h;omega)];rw[Nat.mod_eq_sub_mod (by omega:U z<=j)]
def vF (z:Array qi)(n:Nat)(h:0<z.size):((kaW (n*z.size)).map (λj=>z[j % z.size]!)).toList=fH z.toList n:=by apply List.ext_getElem?;intro j;by_cases hj:j<n*z.size;rw[TI _ _ _ (by simpa using hj)];have hm:j % z.size<z.size:=Nat.mod_lt _ h;simp[hj,hm];rw[ZL Yg,ZL (by rw[kG];simp;omega)]
def fJ:qi->Bool
 | .bool _ | .int _ _ | .float _ _ | .complex _ _ _ | .string _ | .pointer qk | .slice qk 0 0 | .map qk | .chan qk | .nilFunc | .nilIface=>qj
 |_=>qn
def yc:qi->Bool
 | .agg cs=>cs.all fJ
 | .tuple cs=>cs.all fJ
 |v=>fJ v
def bH.kZ {v:qi}(h:fJ v=qj)(m:Mp):bH m v v:=by unfold fJ at h;split at h<;>first|(cases h;done)|constructor
def bH.wM {v:qi}(h:yc v=qj)(m:Mp):bH m v v:=by unfold yc at h;split at h;refine .agg rfl λi v v' h1 h2=>?_;rw[h1]at h2;injection h2 with h2;subst h2;exact .kZ (kaE.1 h _ (kaH h1)) m;refine .tuple rfl λi v v' h1 h2=>?_;rw[h1]at h2;injection h2 with h2;subst h2;exact .kZ (kaE.1 h _ (kaH h1)) m;exact .kZ h m
def jE.rk {l:List qi}(h:l.all fJ=qj)(m:Mp):jE m l l:=
 ⟨rfl,λi v v' h1 h2=>by rw[h1]at h2;injection h2 with h2;subst h2;exact .kZ (Zs.1 h _ (kal h1)) m⟩
def rU {z:List qi}(h:z.all fJ=qj)(n:Nat):(fH z n).all fJ=qj:=by
 induction n with
 |zero=>rfl
 |succ n ih=>simp only[fH,List.all_append,h,ih,Bool.and_self]
def mO (P:qp)(A:AW)(t:qy)(len:Nat)(lO:List (Nat×qi)):Option (qi×AW):=
 match P.underlying t with
 |some (.slice e)=>
   match P.info? e with
   |some i=>
     match i.zero with
     |some z=>
       if z.cells.size=i.size/\0<i.size/\len*i.size<=2 ^ 24/\z.cells.toList.all fJ then
        match Gq i.size lO (fH z.cells.toList len) with
        |some cs=>qf (.slice (qf ⟨A.next,0,qk⟩) len len,A.alloc (.cells cs qj i.size))
        |none=>qk
       else qk
     |none=>qk
   |none=>qk
 |_=>qk
def L9 (size:Nat):∀(lO:List (Nat×qi))(cs r:Array qi),kbv (λi=>qf (i*size,size)) cs lO=qf r->r.size=cs.size
 |[],cs,r,h=>by injection h with h;subst h;rfl
 | (i,v)::dE,cs,r,h=>by
   unfold kbv at h;simp only at h;split at h;cases h;rw[L9 size dE _ r h];have:∀(l:List (qi×Nat))(cs:Array qi),(l.foldl (λcs (c,j)=>cs.setIfInBounds (i*size+j) c) cs).size=cs.size:=by
    intro l
    induction l with
    |nil=>intro cs;rfl
    |cons x l ih=>intro cs;simp[List.foldl_cons,ih]
   rw[<-kcf];exact this _ _
def Eu {P:qp}{m:Mp}{A A1:AW}{w:qz}(hs:jN m A w){t:qy}{len:Nat}{lO:List (Nat×qi)}{iU:Array (Nat×qi)}{v:qi}(h:mO P A t len lO=qf (v,A1))(hl:U lO=iU.size)(hp:∀(k:Nat)(p p':Nat×qi),lO[k]?=qf p->iU[k]?=qf p'->p.1=p'.1/\bH m p.2 p'.2):
 ∃v' w' m',(Instr.buildSlice t len iU).run P w=qL v' w'/\jf m A w m' A1 w'/\bH m' v v':=by
 unfold mO at h;split at h<;>try(cases h;done)
 rename_i e hu;split at h<;>try(cases h;done)
 rename_i i hi;split at h<;>try(cases h;done)
 rename_i z hz;split at h<;>try(cases h;done)
 rename_i hc;obtain⟨rR,h0,h24,je⟩:=hc;split at h<;>try(cases h;done)
 rename_i cs hputs;simp only[Zd,Zk]at h;obtain⟨rfl,rfl⟩:=h;have hzc:=vF z.cells len Ya;rw[rR]at hzc
 obtain⟨r',h1,h2⟩:=Gp (m:=m) lO iU.toList _ cs ((kaW (len*i.size)).map (λj=>z.cells[j % i.size]!)) hputs
  (by rw[hzc];exact .rk (rU je len) m) Yv (λk p p' a b=>hp k p p' a Yq)
 have EE:r'.size=len*i.size:=by rw[L9 _ _ _ _ h1];simp
 obtain⟨w',m',h3,h4,h5⟩:=xT (P:=P) hs e i.size h2;refine⟨.slice (qf ⟨w.heap.size,0,qk⟩) len len,w',m',?_,h4,?_⟩;simp only[Instr.buildSlice,Zo,qx hu,Zn,gH hi];rw[ar Ya];by_cases ND:len*i.size=0;rw[az ND];have hfun:((kaW (len*i.size)).map λj=>(#[]:Array qi)[j % (#[]:Array qi).size]!)=(kaW (len*i.size)).map (λj=>z.cells[j % i.size]!):=by simp[ND]
 simp only[Zo,ZA,Zn,hfun,h1,h3];rw[ar ND];have Wj:(qQ e).run P w=qL z w:=by simp[qQ,qT,hi,hz]
 simp only[Zo,ZA,Zn,Wj,rR,h1,h3];refine .slice (qw ⟨rfl,rfl,⟨w.heap.size,0,i.size,r'.size⟩,by rw[h5];simp[Mp.ext],rfl,rfl,?_⟩) (Za _) (Za _);show 0+len*i.size<=r'.size;omega
end Go.Stx
namespace Go.Stx
open Go
variable [Gl]
def LJ {P:qp}{w:qz}{k:qD}{n:Int}:(asInt (.int k n)).run P w=qL n w:=by simp[asInt,asIntOf]
def an {x:Int}(h0:-9223372036854775808<=x)(h1:x<=9223372036854775807):Zb.wrap x=x:=by simp only[IntKind.wrap,IntKind.bits,IntKind.signed,Bool.true_and];split;rename_i h;have:=of_decide_eq_true h;omega;rename_i h;have:=of_decide_eq_false (eq_false_of_ne_true h);omega
def ax {x:Int}(h0:0<=x)(h1:x<18446744073709551616):IntKind.u64.wrap x=x:=by exact X1
def mM (P:qp)(A:AW)(t:qy)(l c:qi):Option (qi×AW):=
 match P.underlying t,l,c with
 |some (.slice e),.int _ l,.int _ c=>
   match P.info? e with
   |some i=>
     match i.zero with
     |some z=>
       if z.cells.size=i.size/\0<i.size/\z.cells.toList.all fJ/\0<=l/\l<=c/\c<=140737488355328/\c*i.bytes<=140737488355328 then
        qf (.slice (qf ⟨A.next,0,qk⟩) l.toNat c.toNat,A.alloc (.cells (fH z.cells.toList c.toNat) qj i.size))
       else qk
     |none=>qk
   |none=>qk
 |_,_,_=>qk
def Rc {P:qp}{m:Mp}{A A1:AW}{w:qz}(hs:jN m A w){t:qy}{l c l' c' v:qi}(h:mM P A t l c=qf (v,A1))(hl:bH m l l')(hc:bH m c c'):
 ∃v' w' m',(Instr.makeSlice t l' c').run P w=qL v' w'/\jf m A w m' A1 w'/\bH m' v v':=by
 unfold mM at h;split at h<;>try(cases h;done)
 rename_i e k n k' q hu;cases hl;cases hc;split at h<;>try(cases h;done)
 rename_i i hi;split at h<;>try(cases h;done)
 rename_i z hz;split at h<;>try(cases h;done)
 rename_i DY;obtain⟨rR,h0,je,IQ,hnq,hq,hqb⟩:=DY;simp only[Zd,Zk]at h;obtain⟨rfl,rfl⟩:=h;have hzc:=vF z.cells q.toNat Ya;rw[rR]at hzc;obtain⟨w',m',h3,h4,h5⟩:=xT (P:=P) hs e i.size (ik:=(kaW (q.toNat*i.size)).map (λj=>z.cells[j % i.size]!)) (by rw[hzc];exact .rk (rU je q.toNat) m);have jt:Zb.wrap n=n:=an Ya Ya;have jG:Zb.wrap q=q:=an Ya Ya;refine⟨.slice (qf ⟨w.heap.size,0,qk⟩) n.toNat q.toNat,w',m',?_,h4,?_⟩;have hty:(qT e).run P w=qL i w:=by simp[qT,hi]
 have hb:(i.bytes:Int)*q<=140737488355328:=by rw[Int.mul_comm];exact hqb
 have c1:(decide (q<0) || decide ((i.bytes:Int)*q>2 ^ 48))=qn:=by simp only[Bool.or_eq_false_iff,decide_eq_false_iff_not];constructor<;>omega
 simp only[Instr.makeSlice,Zo,qx hu,Zn,LJ,hty,jt,jG,c1];rw[ar Yg];simp only[Zo,run_askRoom,Zn,gH hi];by_cases hn:q.toNat*i.size=0;rw[az hn];have hfun:((kaW (q.toNat*i.size)).map λj=>(#[]:Array qi)[j % (#[]:Array qi).size]!)=(kaW (q.toNat*i.size)).map (λj=>z.cells[j % i.size]!):=by simp[hn]
 simp only[Zo,ZA,Zn,hfun,h3];rw[ar hn];have Wj:(qQ e).run P w=qL z w:=by simp[qQ,qT,hi,hz]
 simp only[Zo,ZA,Zn,Wj,rR,h3];refine .slice (qw ⟨rfl,rfl,⟨w.heap.size,0,i.size,((kaW (q.toNat*i.size)).map (λj=>z.cells[j % i.size]!)).size⟩,by rw[h5];simp[Mp.ext],rfl,rfl,?_⟩) Ya (Za _);show 0+q.toNat*i.size<=((kaW (q.toNat*i.size)).map (λj=>z.cells[j % i.size]!)).size;simp
def CW (P:qp)(A:AW)(t:qy):Option (qi×AW):=
 match P.info? t with
 |some i=>
   match i.zero with
   |some z=>if yc z then qf (Rl A z) else qk
   |none=>qk
 |none=>qk
def Ou {P:qp}{m:Mp}{A A1:AW}{w:qz}(hs:jN m A w){t:qy}{v:qi}(h:CW P A t=qf (v,A1)):
 ∃v' w' m',(Instr.alloc t qj (.tuple #[])).run P w=qL v' w'/\jf m A w m' A1 w'/\bH m' v v':=by
 unfold CW at h;split at h<;>try(cases h;done)
 rename_i i hi;split at h<;>try(cases h;done)
 rename_i z hz;split at h<;>try(cases h;done)
 rename_i hg;injection h with h;obtain⟨p',w',m',h1,h2,h3⟩:=JR (P:=P) hs t (bH.wM hg m);rw[h]at h2 h3;refine⟨p',w',m',?_,h2,h3⟩;have Wj:(qQ t).run P w=qL z w:=by simp[qQ,qT,hi,hz]
 simp only[Instr.alloc,Zo,Wj,Zn];exact h1
def Fm (Pq:Nat->Option (Nat×Nat)):List (Nat×qi)->List qi->Option (List qi)
 |[],cs=>qf cs
 | (i,v)::dE,cs=>
   match Pq i with
   |some (off,size)=>if v.cells.size=size/\off+size<=U cs then Fm Pq dE (dS cs off v.cells.toList) else qk
   |none=>qk
def yl {m:Mp}{Pq:Nat->Option (Nat×Nat)}:∀(lO iU:List (Nat×qi))(cs r:List qi)(uP:Array qi),Fm Pq lO cs=qf r->jE m cs uP.toList->
 U lO=U iU->(∀(k:Nat)(p p':Nat×qi),lO[k]?=qf p->iU[k]?=qf p'->p.1=p'.1/\bH m p.2 p'.2)->
 ∃r',kbv Pq uP iU=qf r'/\jE m r r'.toList
 |[],iU,cs,r,uP,h,hc,hl,_=>by
   cases iU with
   |cons _ _=>simp at hl
   |nil=>injection h with h;subst h;exact⟨uP,rfl,hc⟩
 | (i,v)::dE,iU,cs,r,uP,h,hc,hl,hp=>by
   cases iU with
   |nil=>simp at hl
   |cons p' rest'=>
     obtain⟨i',v'⟩:=p';obtain⟨h1,h2⟩:=hp 0 _ _ rfl rfl;simp only at h1 h2;subst h1;unfold Fm at h;split at h;rename_i off size mT;split at h;rename_i DY;obtain⟨hz,gb⟩:=DY;have jv:=h2.cells;have hz':v'.cells.size=size:=by have:=jv.1;simp at this;omega
     have uo:uP.size=U cs:=by have:=hc.1;simp at this;omega
     have hfold:=D3 v'.cells.toList uP off 0 Yg;obtain⟨r',h3,h4⟩:=yl dE rest' _ r (v'.cells.zipIdx.foldl (λcs (c,j)=>cs.setIfInBounds (off+j) c) uP) h (by rw[<-kcf,Array.toList_zipIdx,hfold];exact xy _ _ _ _ _ hc jv Yg) Yv (λk p p' a b=>hp (k+1) p p' YT Yq)
     refine⟨r',?_,h4⟩;simp only[kbv,mT,hz',ne_eq,not_true_eq_false,decide_false,Bool.false_or,uo,decide_eq_true_eq];rw[ar Ya];exact h3;cases h;cases h
def El (P:qp)(fs:List Field):Option (List (Nat×Nat)):=
 match fs with
 |[]=>qf []
 |f::r=>
   match P.info? f.type,El P r with
   |some i,qf l=>qf ((f.offset,i.size)::l)
   |_,_=>qk
def Gt {P:qp}{w:qz}:∀(fs:List Field)(l:List (Nat×Nat)),El P fs=qf l->
 (fs.mapM λf=>(do pure (f.offset,<-sizeOf f.type):Sem (Nat×Nat))).run P w=qL l w
 |[],l,h=>by injection h with h;subst h;rfl
 |f::r,l,h=>by unfold El at h;split at h;rename_i i l' hi hl;injection h with h;subst h;simp only[List.mapM_cons,Zo,gH hi,Zn,ZA,Gt r l' hl];cases h
def zh {P:qp}{w w':qz}{α β:Type}(f:α->Sem β)(l:Array α)(r:List β)(h:(l.toList.mapM f).run P w=qL r w'):
 (l.mapM f).run P w=qL r.toArray w':=by rw[Array.mapM_eq_mapM_toList];simp only[Sem.run_map,h,Zn]
def JQ (P:qp)(t:qy)(lO:List (Nat×qi)):Option qi:=
 match P.info? t with
 |some i=>
   match i.zero with
   |some z=>
     if z.cells.toList.all fJ then
      match P.underlying t with
      |some (.struct fs)=>
        match El P fs.toList with
        |some l=>
          match Fm (λk=>l[k]?) lO z.cells.toList with
          |some cs=>qf (.agg cs.toArray)
          |none=>qk
        |none=>qk
      |some (.array _ e)=>
        match P.info? e with
        |some ie=>
          match Fm (λk=>qf (k*ie.size,ie.size)) lO z.cells.toList with
          |some cs=>qf (.agg cs.toArray)
          |none=>qk
        |none=>qk
      |_=>qk
     else qk
   |none=>qk
 |none=>qk
def Ot {P:qp}{m:Mp}{t:qy}{lO:List (Nat×qi)}{iU:Array (Nat×qi)}{v:qi}(h:JQ P t lO=qf v)(hl:U lO=iU.size)(hp:∀(k:Nat)(p p':Nat×qi),lO[k]?=qf p->iU[k]?=qf p'->p.1=p'.1/\bH m p.2 p'.2):
 ∃v',bH m v v'/\∀w,(Instr.build t iU).run P w=qL v' w:=by
 unfold JQ at h;split at h<;>try(cases h;done)
 rename_i i hi;split at h<;>try(cases h;done)
 rename_i z hz;split at h<;>try(cases h;done)
 rename_i je;have Wj:∀w,(qQ t).run P w=qL z w:=λw=>by simp[qQ,qT,hi,hz]
 split at h<;>try(cases h;done)
 . rename_i fs hu;split at h<;>try(cases h;done)
   rename_i l mT;split at h<;>try(cases h;done)
   rename_i cs hcs;injection h with h;subst h;obtain⟨r',h1,h2⟩:=yl (m:=m) lO iU.toList _ cs z.cells hcs (.rk je m) Yv (λk p p' a b=>hp k p p' a Yq);refine⟨.agg r',?_,λw=>?_⟩;have:=bH.u4 h2
   simpa using this
   have hm:=zh _ fs l (Gt (w:=w) fs.toList l mT);simp only[Instr.build,Zo,Wj,Zn,qx hu,hm];have e:(λ(x:Nat)=>l.toArray[x]?)=fun(k:Nat)=>l[k]?:=by funext k;simp
   rw[e,h1];rfl
 rename_i n e hu;split at h<;>try(cases h;done)
 rename_i ie NE;split at h<;>try(cases h;done)
 rename_i cs hcs;injection h with h;subst h;obtain⟨r',h1,h2⟩:=yl (m:=m) lO iU.toList _ cs z.cells hcs (.rk je m) Yv (λk p p' a b=>hp k p p' a Yq);refine⟨.agg r',?_,λw=>?_⟩;have:=bH.u4 h2
 simpa using this
 simp only[Instr.build,Zo,Wj,Zn,qx hu,gH NE,h1,ZA]
def oQ (P:qp)(t:qy)(x:qi):Option qi:=
 match P.underlying t,x with
 |some .string,.string s=>qf (.int .i64 s.size)
 |some (.slice _),.slice _ n _=>qf (.int .i64 n)
 |some (.array n _),_=>qf (.int .i64 n)
 |_,_=>qk
def T1 {P:qp}{m:Mp}{t ty:qy}{x x' v:qi}(h:oQ P t x=qf v)(hx:bH m x x'):
 bH m v v/\∀w,(kb3 #[t] ty #[x']).run P w=qL v w:=by
 unfold oQ at h;split at h;rename_i s hu;injection h with h;subst h;cases hx
 exact⟨by constructor,λw=>by simp[kb3,qx hu,goInt]⟩;rename_i e a n c hu;injection h with h;subst h
 cases hx<;>exact⟨by constructor,λw=>by simp[kb3,qx hu,goInt]⟩;rename_i n e hu;injection h with h;subst h
 exact⟨by constructor,λw=>by simp[kb3,qx hu,goInt]⟩;cases h
def TT (mx:Bool):List qi->Option qi
 |[.int k a,.int k' b]=>if k=k' then qf (.int k (if mx then (if a<b then b else a) else (if b<a then b else a))) else qk
 |_=>qk
def JD {P:qp}{m:Mp}{ts:Array qy}{ty:qy}{mx:Bool}{l:List qi}{l':Array qi}{v:qi}(h:TT mx l=qf v)(hl:jE m l l'.toList):
 bH m v v/\∀w,((if mx then Builtin.max_ ts ty l' else Builtin.min_ ts ty l')).run P w=qL v w:=by
 unfold TT at h;split at h;rename_i k a k' b;obtain⟨x',t',e1,h1,h2⟩:=hl.nP;obtain⟨y',t'',e2,h3,h4⟩:=h2.nP;have e3:=h4.tt;cases h1;cases h3;subst e3;subst e2;have hl':l' = #[.int k a,.int k' b]:=by apply Array.ext';exact e1
 subst hl';split at h;injection h with h;subst h;cases mx;exact⟨by constructor,λw=>by simp[Builtin.min_,Builtin.min2]⟩;refine⟨by constructor,λw=>?_⟩;simp[Builtin.max_,Builtin.max2];cases h;cases h
def uG (P:qp)(t:qy)(x:qi):Option qi:=
 match P.underlying t with
 |some (qY _)=>qk
 |some _=>qf (.iface t x)
 |none=>qk
def Fo {P:qp}{m:Mp}{t:qy}{x x' v:qi}(h:uG P t x=qf v)(hx:bH m x x'):
 ∃v',bH m v v'/\∀w,(Instr.makeInterface t x').run P w=qL v' w:=by
 unfold uG at h;cases hu:P.underlying t with
 |none=>simp[hu]at h
 |some d=>
   rw[hu]at h
   cases d<;>simp only[Zd]at h<;>(try (cases h;done))<;>subst h <;>
    exact⟨.iface t x',.iface t hx,λw=>by simp[Instr.makeInterface,qx hu]⟩
end Go.Stx
namespace Go.Stx
open Go
variable [Gl]
open Go.MapKept (run_findKey)
def lU:qU->Bool
 | .int _=>qj
 | .string=>qj
 |_=>qn
def r8 (d:qU)(k:qi):List (qi×qi)->Bool
 |[]=>qj
 |e::es=>
   match Z7 d k e.1 with
   |some qn=>r8 d k es
   |_=>qn
def fy (d:qU)(k:qi):List (qi×qi)->Nat->Option (Option (Nat×qi))
 |[],_=>qf qk
 |e::es,i=>
   match Z7 d k e.1 with
   |some qj=>match r8 d k es with|true=>qf (qf (i,e.2))|false=>qk
   |some qn=>fy d k es (i+1)
   |none=>qk
def xR {d:qU}{k:qi}:∀{es:List (qi×qi)},r8 d k es=qj↔∀x∈es,Z7 d k x.1=qf qn
 |[]=>by simp[r8]
 |e::es=>by unfold r8;split;rename_i h;rw[xR];simp[h];rename_i h;simp only[Zq,false_iff];intro hx;exact h (hx e Yb)
def rX {d:qU}{k:qi}:∀{es:List (qi×qi)}{n:Nat},fy d k es n=qf qk↔∀x∈es,Z7 d k x.1=qf qn
 |[],n=>by simp[fy]
 |e::es,n=>by unfold fy;split;rename_i h;constructor;intro h1;split at h1<;>cases h1;intro h1;have:=h1 e Yb;rw[h]at this;cases this;rename_i h;rw[rX];simp[h];rename_i h;constructor;intro h1;cases h1;intro h1;have:=h1 e Yb;rw[h]at this;cases this
def rW {d:qU}{k v:qi}:∀{es:List (qi×qi)}{n m:Nat},fy d k es n=qf (qf (m,v)) ↔
 ∃l x r,es=l++x::r/\m=n+U l/\x.2=v/\Z7 d k x.1=qf qj/\∀y∈l++r,Z7 d k y.1=qf qn
 |[],n,m=>by constructor;intro h;cases h;rintro ⟨l,x,r,h,_⟩;cases l<;>cases h
 |e::es,n,m=>by
   unfold fy;constructor;intro h;split at h;rename_i h1;split at h;rename_i h2;simp only[Zd,Zk]at h;exact⟨[],e,es,rfl,by simp[h.1],h.2,h1,xR.1 h2⟩;cases h;rename_i h1;obtain⟨l,x,r,rfl,rfl,h3,h4,h5⟩:=rW.1 h;refine⟨e::l,x,r,rfl,by simp;omega,h3,h4,λy hy=>?_⟩;simp only[aa,List.mem_cons]at hy;rcases hy with rfl|hy;exact h1;exact h5 y hy;cases h;rintro ⟨l,x,r,h,rfl,h3,h4,h5⟩;cases l with
   |nil=>simp only[ah,List.cons.injEq]at h;obtain⟨rfl,rfl⟩:=h;rw[h4];simp only;rw[xR.2 YU];simp[h3]
   |cons y l=>simp only[aa,List.cons.injEq]at h;obtain⟨rfl,rfl⟩:=h;rw[h5 e Yb];simp only;rw[rW];exact⟨l,x,r,rfl,by simp;omega,h3,h4,λz hz=>h5 z (by simp only[aa,List.mem_cons];exact qB hz)⟩
def uI {d:qU}{k:qi}{es yg:List (qi×qi)}(hp:es.Perm yg)(h:fy d k es 0=qf qk):fy d k yg 0=qf qk:=
 rX.2 λx hx=>rX.1 h x (hp.mem_iff.2 hx)
def B5 {d:qU}{k v:qi}{es yg:List (qi×qi)}(hp:es.Perm yg){i:Nat}(h:fy d k es 0=qf (qf (i,v))):
 ∃i',fy d k yg 0=qf (qf (i',v))/\∀y,(es.set i y).Perm (yg.set i' y):=by
 obtain⟨l,x,r,rfl,rfl,h3,h4,h5⟩:=rW.1 h;obtain⟨l',r',rfl⟩:=List.append_of_mem (hp.mem_iff.1 (show x∈l++x::r by simp));have yY:(l++r).Perm (l'++r'):=(kbV.symm.trans (hp.trans kbV)).cons_inv;refine⟨0+U l',rW.2 ⟨l',x,r',rfl,rfl,h3,h4,λy hy=>h5 y (yY.mem_iff.2 hy)⟩,λy=>?_⟩;have e1:∀(a b:List (qi×qi)),(a++x::b).set (0+U a) y=a++y::b:=λa b=>by simp
 rw[e1,e1];exact kbV.trans ((yY.cons y).trans kbV.symm)
def FN {m:Mp}{d:qU}{a a' b b':qi}{r:Bool}(h:Z7 d a b=qf r)(ha:bH m a a')(hb:bH m b b'):Z7 d a' b'=qf r:=by unfold Z7 at h;split at h;cases ha;cases hb;exact h;cases ha;cases hb;exact h;cases ha;cases hb;exact h;cases h
def M1 {d:qU}{a b:qi}(h:Z7 d a b=qf qj):kcm 10000 b a=qj:=by unfold Z7 at h;split at h;rename_i k x k' y;split at h;rename_i e;subst e;simp only[Zd,beq_iff_eq]at h;subst h;simp[kcm];cases h;rename_i x y;simp only[Zd]at h;have e:x.data=y.data:=eq_of_beq (show (x.data == y.data)=qj from h);show (y.data == x.data)=qj;rw[e];exact beq_self_eq_true _;simp only[Zd]at h;have:=LawfulBEq.eq_of_beq h;subst this;simp[kcm];cases h
def nU {m:Mp}{d:qU}{k k':qi}(hk:bH m k k'):∀(es:List (qi×qi))(kw:List MapEntry)(i:Nat)(r:Option (Nat×qi)),
 U es=U kw->(∀(j:Nat)(x:qi×qi)(e:MapEntry),es[j]?=qf x->kw[j]?=qf e->bH m x.1 e.key/\bH m x.2 e.val)->
 fy d k es i=qf r->∃r',kbG d k' kw i=qf r'/\
  ((r=qk/\r'=qk)\/∃j v v' e,r=qf (i+j,v)/\r'=qf (i+j,v')/\bH m v v'/\kw[j]?=qf e/\Z7 d k' e.key=qf qj)
 |[],kw,i,r,hl,_,h=>by
   cases kw with
   |cons _ _=>simp at hl
   |nil=>injection h with h;subst h;exact⟨qk,rfl,qw ⟨rfl,rfl⟩⟩
 |x::es,kw,i,r,hl,hr,h=>by
   cases kw with
   |nil=>simp at hl
   |cons e kw=>
     obtain⟨h1,h2⟩:=hr 0 x e rfl rfl;unfold fy at h;split at h
     . rename_i hs;split at h<;>try(cases h;done)
       injection h with h;subst h;have CD:=FN hs hk h1;exact⟨qf (i,e.val),by simp[kbG,CD],qB ⟨0,x.2,e.val,e,rfl,rfl,h2,rfl,CD⟩⟩
     rename_i hs;have CD:=FN hs hk h1;obtain⟨r',h3,h4⟩:=nU hk es kw (i+1) r Yv (λj y f a b=>hr (j+1) y f YT Yq) h;refine⟨r',by simp[kbG,CD,h3],?_⟩;rcases h4 with h4|⟨j,v,v',e',h5,h6,h7,h8,h9⟩;exact qw h4;refine qB ⟨j+1,v,v',e',?_,?_,h7,by simpa using h8,h9⟩;rw[h5,show i+1+j=i+(j+1) by omega];rw[h6,show i+1+j=i+(j+1) by omega];cases h
def BE {P:qp}{w:qz}{kt:qy}{d:qU}{k:qi}(hd:P.underlying kt=qf d)(hk:lU d=qj)(e:Bool)(n:Nat):
 (kbf e (n+1) kt k).run P w=qL () w:=by
 have:d=.string\/∃i,d=.int i:=by unfold lU at hk;split at hk;exact qB ⟨_,rfl⟩;exact qw rfl;cases hk
 unfold kbf;rw[Zo,qx hd];rcases this with rfl|⟨i,rfl⟩<;>rfl
def nK {P:qp}{w:qz}{kt:qy}{d:qU}{k:qi}(hd:P.underlying kt=qf d)(hk:lU d=qj)(e:Bool):
 (kbf e 10000 kt k).run P w=qL () w:=BE hd hk e 9999
def uE (P:qp)(e:qy)(tz:Bool):Option qi:=
 match P.info? e with
 |some i=>
   match i.zero with
   |some z=>if yc z then (if tz then (if fJ z then qf (.tuple #[z,.bool qn]) else qk) else qf z) else qk
   |none=>qk
 |none=>qk
def DO (P:qp)(cs:Array qi):List Field->Bool
 |[]=>qj
 |f::fs=>
   match P.underlying f.type with
   |some (.int _)=>
     match apart P f.type cs f.offset with
     |some _=>DO P cs fs
     |none=>qn
   |_=>qn
def Em (P:qp)(A:AW)(kt e:qy)(x ix:qi)(tz:Bool):Option qi:=
 match P.underlying kt,ix with
 |some (.struct fs),.agg cs=>
   if DO P cs fs.toList then
    match x with
    | .map qk=>uE P e tz
    | .map (qf r)=>
      match A.bk r with
      |some (.map [] _)=>uE P e tz
      |_=>qk
    |_=>qk
   else qk
 |_,_=>qk
def KF {P:qp}{m:Mp}{w:qz}{kt:qy}{fs:Array Field}{cs uP:Array qi}(hd:P.underlying kt=qf (.struct fs))(hk:DO P cs fs.toList=qj)(hc:bH m (.agg cs) (.agg uP))(e:Bool):(kbf e 10000 kt (.agg uP)).run P w=qL () w:=by
 rw[show 10000=9998+1+1 from rfl,kbf];simp only[Zo,qx hd,Zn];rw[<-Array.forIn_toList];generalize fs.toList=L at hk
 induction L with
 |nil=>simp
 |cons f L ih=>
   unfold DO at hk;split at hk<;>try(cases hk;done)
   rename_i k hf;split at hk<;>try(cases hk;done)
   rename_i v hv;obtain⟨v',_,p1⟩:=mL hv hc;have p2:(kbf e (9998+1) f.type v').run P w=qL () w:=BE hf rfl e 9998;by_cases hn:f.name = "_";simp only[List.forIn_cons,Zo,hn,ne_eq,not_true_eq_false,if_false,Zn,ZA];exact ih hk;simp only[List.forIn_cons,Zo,hn,ne_eq,not_false_eq_true,if_true,Zn,p1,p2,ZA];exact ih hk
def Bf (P:qp)(A:AW)(t:qy)(x ix:qi)(tz:Bool):Option qi:=
 match P.underlying t with
 |some (.map kt e)=>
   match P.underlying kt with
   |some d=>
     if lU d then
      match x with
      | .map qk=>uE P e tz
      | .map (qf r)=>
        match A.bk r with
        |some (.map es _)=>
          match fy d ix es 0 with
          |some (qf (_,v))=>qf (if tz then .tuple #[v,.bool qj]else v)
          |some qk=>uE P e tz
          |none=>qk
        |_=>qk
      |_=>qk
     else Em P A kt e x ix tz
   |none=>qk
 |_=>qk
def rV {P:qp}{e:qy}{c:Bool}{v:qi}(h:uE P e c=qf v)(m:Mp):
 bH m v v/\∃z,v=(if c then .tuple #[z,.bool qn]else z)/\∀w,(qQ e).run P w=qL z w:=by
 unfold uE at h;split at h<;>try(cases h;done)
 rename_i i hi;split at h<;>try(cases h;done)
 rename_i z hz;split at h<;>try(cases h;done)
 rename_i hg;have Wj:∀w,(qQ e).run P w=qL z w:=λw=>by simp[qQ,qT,hi,hz]
 cases c;simp only[Zq,if_false,Zd]at h;subst h;exact⟨.wM hg m,z,rfl,Wj⟩;simp only[if_true]at h;split at h<;>try(cases h;done)
 rename_i hs;injection h with h;subst h;exact⟨.wM (v:=.tuple #[z,.bool qn]) (show (#[z,Value.bool qn]:Array qi).all fJ=qj by simp[hs];rfl) m,z,rfl,Wj⟩
def bH.pair {m:Mp}{a a' b b':qi}(h:bH m a a')(k:bH m b b'):bH m (.tuple #[a,b]) (.tuple #[a',b']):=by
 refine .tuple rfl λi v v' h1 h2=>?_
 match i with
 |0=>simp at h1 h2;subst h1;subst h2;exact h
 |1=>simp at h1 h2;subst h1;subst h2;exact k
 |i+2=>simp at h1
def JH {P:qp}{m:Mp}{A:AW}{w:qz}(hs:jN m A w){t kt e:qy}{x x' ix ix' v:qi}{c:Bool}(hu:P.underlying t=qf (.map kt e))(h:Em P A kt e x ix c=qf v)(hx:bH m x x')(hix:bH m ix ix'):
 ∃v',bH m v v'/\∀w',(∀b,b<w.heap.size->w'.heap[b]?=w.heap[b]?)->(kbi t x' ix' c).run P w'=qL v' w':=by
 unfold Em at h;split at h<;>try(cases h;done)
 rename_i fs cs hd;split at h<;>try(cases h;done)
 rename_i hkp
 have hfn:∀w',(Instr.findKey kt ix' (#[]:Array MapEntry).toList).run P w'=qL qk w':=λw'=>run_findKey hd (l:=(#[]:Array MapEntry).toList) (k:=ix') (a:=qk) (show kbG (.struct fs) ix' [] 0=qf qk from rfl)
 have CF:∀e w',(kbf e 10000 kt ix').run P w'=qL () w':=λe w'=>by
  cases hix with
  |agg h1 h2=>exact KF hd hkp (.agg h1 h2) e
 split at h<;>try(cases h;done)
 cases hx;obtain⟨h1,z,rfl,h2⟩:=rV h m;refine⟨_,h1,λw' _=>?_⟩;simp only[kbi,Zo,qx hu,Zn,ZA,CF,hfn,h2];rename_i r;split at h<;>try(cases h;done)
 rename_i own hg;obtain⟨p,hp,kw,aC,yg,hpm,hh,hl,yQ⟩:=hs.Dv _ _ hg;cases hx with
 |map hx=>
   rename_i r';obtain⟨p',UZ,rfl⟩:=hx;rw[hp]at UZ;injection UZ with UZ;subst UZ;have hb:p.block<w.heap.size:=(Zj.1 hh).1;have he0:yg=[]:=List.nil_perm.1 hpm;subst he0;have hents:kw = #[]:=by
    apply Array.eq_empty_of_size_eq_zero
    simpa using hl.symm
   subst hents;obtain⟨h1,z,rfl,h2⟩:=rV h m;refine⟨_,h1,λw' he=>?_⟩;have hh':w'.heap[p.block]?=qf (.map #[] aC):=Y9;simp only[kbi,Zo,qx hu,Zn,ZA,kbz hh',CF,hfn,h2]
def Ln {P:qp}{m:Mp}{A:AW}{w:qz}(hs:jN m A w){t:qy}{x x' ix ix' v:qi}{c:Bool}(h:Bf P A t x ix c=qf v)(hx:bH m x x')(hix:bH m ix ix'):∃v',bH m v v'/\∀w',(∀b,b<w.heap.size->w'.heap[b]?=w.heap[b]?)->(kbi t x' ix' c).run P w'=qL v' w':=by
 unfold Bf at h;split at h<;>try(cases h;done)
 rename_i kt e hu;split at h<;>try(cases h;done)
 rename_i d hd;split at h
 case' isFalse=>exact JH hs hu h hx hix
 rename_i xh;split at h<;>try(cases h;done)
 cases hx;obtain⟨h1,z,rfl,h2⟩:=rV h m;refine⟨_,h1,λw' _=>?_⟩;simp only[kbi,Zo,qx hu,Zn,ZA,nK hd xh,run_findKey hd (l:=(#[]:Array MapEntry).toList) (k:=ix') (a:=qk) (show kbG d ix' [] 0=qf qk from rfl),h2];rename_i r;split at h<;>try(cases h;done)
 rename_i es own hg;obtain⟨p,hp,kw,aC,yg,hpm,hh,hl,yQ⟩:=hs.Dv _ _ hg;cases hx with
 |map hx=>
   rename_i r';obtain⟨p',UZ,rfl⟩:=hx;rw[hp]at UZ;injection UZ with UZ;subst UZ;have hb:p.block<w.heap.size:=(Zj.1 hh).1;split at h;rename_i i v0 hf0;obtain⟨i',hf,_⟩:=B5 hpm hf0;obtain⟨r',h3,h4⟩:=nU hix yg kw.toList 0 _ Yv (λj y f a b=>yQ j y f a Yq) hf;rcases h4 with ⟨h4,_⟩|⟨j,v1,v',e',h5,rfl,h7,_,_⟩;cases h4;injection h5 with h5;injection h5 with h5 h6;subst h6;injection h with h;subst h;refine⟨if c then .tuple #[v',.bool qj]else v',?_,λw' he=>?_⟩;cases c;exact h7;exact .pair h7 (.bool qj);have hh':w'.heap[p.block]?=qf (.map kw aC):=Y9;simp only[kbi,Zo,qx hu,Zn,ZA,kbz hh',nK hd xh,run_findKey hd h3];rename_i hf0;have hf:=uI hpm hf0;obtain⟨r',h3,h4⟩:=nU hix yg kw.toList 0 _ Yv (λj y f a b=>yQ j y f a Yq) hf
   rcases h4 with ⟨_,rfl⟩|⟨j,v1,v',e',h5,_⟩;obtain⟨h1,z,rfl,h2⟩:=rV h m;refine⟨_,h1,λw' he=>?_⟩;have hh':w'.heap[p.block]?=qf (.map kw aC):=Y9;simp only[kbi,Zo,qx hu,Zn,ZA,kbz hh',nK hd xh,run_findKey hd h3,h2];cases h5;cases h
def uF (P:qp)(A:AW)(t:qy)(x:Option qi):Option (qi×AW):=
 match x with
 |none=>qf (.map (qf A.next),A.alloc (.map [] qj))
 |some (.int _ _)=>
   match P.underlying t with
   |some (.map _ _)=>qf (.map (qf A.next),A.alloc (.map [] qj))
   |_=>qk
 |_=>qk
def Io {m:Mp}{A:AW}{w:qz}(hs:jN m A w):
 jf m A w (m.ext A.next ⟨w.heap.size,0,0,0⟩) (A.alloc (.map [] qj)) (w.alloc (.map #[] 0)):=
 jf.freshO hs (.map [] qj) ⟨w.heap.size,0,0,0⟩ rfl rfl rfl Yb (λb hb=>DW w _ b hb) (Za _)
  ⟨#[],0,[],List.Perm.nil,DX w _,rfl,λk x e h=>by simp at h⟩
def JF {P:qp}{m:Mp}{A A1:AW}{w:qz}(hs:jN m A w){t:qy}{x x':Option qi}{v:qi}(h:uF P A t x=qf (v,A1))(hx:By m x x'):
 ∃v' w' m',(Instr.makeMap t x').run P w=qL v' w'/\jf m A w m' A1 w'/\bH m' v v':=by
 unfold uF at h;split at h
 . cases x' with
   |some _=>exact hx.elim
   |none=>simp only[Zd,Zk]at h;obtain⟨rfl,rfl⟩:=h;refine⟨.map (qf w.heap.size),_,_,?_,Io hs,.map ⟨⟨w.heap.size,0,0,0⟩,by simp[Mp.ext],rfl⟩⟩;simp only[Instr.makeMap,Zo,ZA,Zn,run_newObj];rfl
 . rename_i k n;cases x' with
   |none=>exact hx.elim
   |some x'=>
     split at h<;>try(cases h;done)
     rename_i kt e hu;simp only[Zd,Zk]at h;obtain⟨rfl,rfl⟩:=h;have hx':bH m (.int k n) x':=hx;cases hx';refine⟨.map (qf w.heap.size),_,_,?_,Io hs,.map ⟨⟨w.heap.size,0,0,0⟩,by simp[Mp.ext],rfl⟩⟩;simp only[Instr.makeMap,Zo,qx hu,Zn,LJ,ZA,run_newObj];rfl
 cases h
def fv (P:qp)(A:AW)(t:qy)(x k v:qi):Option AW:=
 match P.underlying t,x with
 |some (.map kt _),.map (qf r)=>
   match P.underlying kt,A.bk r with
   |some d,qf (.map es qj)=>
     if lU d then
      match fy d k es 0 with
      |some (qf (i,_))=>qf (A.set r (qf (.map (es.set i (k,v)) qj)))
      |some qk=>qf (A.set r (qf (.map (es++[(k,v)]) qj)))
      |none=>qk
     else qk
   |_,_=>qk
 |_,_=>qk
def xe {P:qp}{m:Mp}{A A1:AW}{w:qz}(hs:jN m A w){t:qy}{x x' k k' v v':qi}(h:fv P A t x k v=qf A1)(hx:bH m x x')(hk:bH m k k')(hv:bH m v v'):∃w',(kck t x' k' v').run P w=qL () w'/\jf m A w m A1 w':=by
 unfold fv at h;split at h<;>try(cases h;done)
 rename_i kt e r hu;split at h<;>try(cases h;done)
 rename_i d es hd hg;split at h<;>try(cases h;done)
 rename_i xh;obtain⟨p,hp,kw,aC,yg,hpm,hh,hl,yQ⟩:=hs.Dv _ _ hg;have hb:p.block<w.heap.size:=(Zj.1 hh).1;cases hx with
 |map hx=>
   rename_i r';obtain⟨p',UZ,rfl⟩:=hx;rw[hp]at UZ;injection UZ with UZ;subst UZ;have km:∀(o:Obj)(j:Nat),j≠p.block->(w.heap.setIfInBounds p.block o)[j]?=w.heap[j]?:=λo j hj=>by rw[kby Ya]
   have HY:∀(o:Obj),(w.heap.setIfInBounds p.block o)[p.block]?=qf o:=λo=>by simp[hb]
   split at h;rename_i i0 v0 hf0;injection h with h;subst h;obtain⟨i,hf,jM⟩:=B5 hpm hf0;obtain⟨r',h3,h4⟩:=nU hk yg kw.toList 0 _ Yv (λj y f a b=>yQ j y f a Yq) hf;rcases h4 with ⟨h4,_⟩|⟨j,v1,v'',e',h5,rfl,h7,h8,h9⟩;cases h4;injection h5 with h5;injection h5 with h5 h6;simp only[kag]at h5 h3;subst h5;have hi:i<kw.size:=by
    have:=(Zy.1 h8).1
    exact X9
   have h8':kw[i]?=qf e':=by simpa using h8
   have hkts:(Instr.keyThatStays (((kw[i]?).map (·.key)).getD k') k').run P w=qL k' w:=by simp[h8',Instr.keyThatStays,M1 h9]
   refine⟨{ w with heap:=w.heap.setIfInBounds p.block (.map (kw.modify i λe=>{ e with key:=k',val:=v' }) aC) },?_,?_⟩;simp only[kck,Zo,qx hu,Zn,kbz hh,nK hd xh,run_findKey hd h3,hkts,kcq _ hh];refine jf.zg hs hg rfl rfl hp Yb rfl rfl rfl ⟨_,aC,yg.set i (k,v),jM _,HY _,by simp[hl],λj y f a b=>?_⟩ (km _);by_cases lm:i=j;subst lm;rw[ZN Ya]at a;injection a with a;subst a;simp[kbj,h8']at b;subst b;exact⟨hk,hv⟩;rw[ZT lm]at a;rw[kbj,ar lm]at b;exact yQ j y f a b;rename_i hf0;injection h with h;subst h;have hf:=uI hpm hf0;obtain⟨r',h3,h4⟩:=nU hk yg kw.toList 0 _ Yv (λj y f a b=>yQ j y f a Yq) hf;rcases h4 with ⟨_,rfl⟩|⟨j,v1,v'',e',h5,_⟩;refine⟨{ w with heap:=w.heap.setIfInBounds p.block (.map (kw.push { key:=k',val:=v',born:=aC }) (aC+1)) },?_,?_⟩
   simp only[kck,Zo,qx hu,Zn,kbz hh,nK hd xh,run_findKey hd h3,kcq _ hh];refine jf.zg hs hg rfl rfl hp Yb rfl rfl rfl ⟨_,aC+1,yg++[(k,v)],hpm.append_right _,HY _,by simp[hl],λj y f a b=>?_⟩ (km _);rw[kbQ]at a;rw[Array.getElem?_push]at b;by_cases hj:j<U yg;rw[az hj]at a;rw[ar Ya]at b;exact yQ j y f a b;rw[ar hj]at a;have BP:j=U yg:=by have:=(Zy.1 a).1;simp at this;omega
   subst BP;rw[az hl]at b;simp at a b;subst a;subst b;exact⟨hk,hv⟩;cases h5;cases h
def fJ.Du {v:qi}(h:fJ v=qj):v.oneCell'=qj:=by unfold fJ at h;split at h<;>first|rfl|(cases h;done)
def CU (P:qp)(A:AW)(t:qy)(x:qi):Option AW:=
 match P.underlying t,x with
 |some (.slice _),.slice qk 0 0=>qf A
 |some (.slice e),.slice (qf p) n _=>
   if n=0 then qf A else
   match P.info? e,A.bk p.block with
   |some i,qf (.cells cs qj unit)=>
     match i.zero with
     |some z=>
       if z.cells.size=i.size/\0<i.size/\z.cells.toList.all fJ/\p.off+n*i.size<=U cs then
        qf (A.set p.block (qf (.cells (dS cs p.off (fH z.cells.toList n)) qj unit)))
       else qk
     |none=>qk
   |_,_=>qk
 |_,_=>qk
def On {P:qp}{m:Mp}{A A1:AW}{w:qz}(hs:jN m A w){t ty:qy}{x x':qi}(h:CU P A t x=qf A1)(hx:bH m x x'):
 ∃w',(kbZ #[t] ty #[x']).run P w=qL qE w'/\jf m A w m A1 w':=by
 unfold CU at h;split at h<;>try(cases h;done)
 rename_i e hu;cases hx;injection h with h;subst h;exact⟨w,by simp[kbZ,qx hu,qE],jf.refl hs⟩;rename_i e p n c hu;split at h;rename_i h0;subst h0;injection h with h;subst h;cases hx;exact⟨w,by simp[kbZ,qx hu,qE],jf.refl hs⟩;rename_i h0;split at h<;>try(cases h;done)
 rename_i i cs unit hi hg;split at h<;>try(cases h;done)
 rename_i z hz;split at h<;>try(cases h;done)
 rename_i hc;obtain⟨rR,vU,je,ur⟩:=hc;injection h with h;subst h;cases hx with
 |slice hh h1 h2=>
   rename_i p' jJ;have ha:sC m p p':=by rcases hh with hh|hh;exact hh.TR;omega
   obtain⟨zI,KZ,q,hm,hb,ho⟩:=ha;have hzc:=vF z.cells n Ya;have gQ:=rU je n;have cy:U (fH z.cells.toList n)=n*i.size:=(by rw[kG];simp[rR])
   obtain⟨w',hr,ev⟩:=oX (P:=P) (o:=p.off) hm (fH z.cells.toList n) (fH z.cells.toList n) 0 cs A w hs hg (.rk gQ m)
    (λv hv=>fJ.Du (Zs.1 gQ v hv)) Ya
   have ea:p'=⟨q.block,q.base+p.off,qk⟩:=(by rw[Av p' KZ,hb,ho]);subst ea;refine⟨w',?_,by simpa using ev⟩;have Wj:(qQ e).run P w=qL z w:=(by simp[qQ,qT,hi,hz]);obtain⟨n,rfl⟩:=Nat.exists_eq_succ_of_ne_zero h0;have hzc':(kad z.cells (n+1)).toList=fH z.cells.toList (n+1):=hzc;simp only[kbZ,kaL,ka7,Zo,qx hu,Zn,Wj,hzc',hr,ZA];rfl
def Mk (P:qp)(A:AW)(t:qy)(x y:qi):Option (qi×AW):=
 match P.underlying t,x,y with
 |some (.slice e),.slice (qf p) n _,.slice (qf b) m _=>
   if n=0\/m=0 then qk else
   match P.info? e,A.bk p.block,A.bO b.block with
   |some i,qf (.cells cs qj unit),qf ds=>
     if b.off+ka5 m n*i.size<=U ds/\p.off+ka5 m n*i.size<=U cs/\((ds.drop b.off).take (ka5 m n*i.size)).all ZK then
      qf (.int .i64 (ka5 m n:Nat),A.set p.block (qf (.cells (dS cs p.off ((ds.drop b.off).take (ka5 m n*i.size))) qj unit)))
     else qk
   |_,_,_=>qk
 |_,_,_=>qk
def Ri {P:qp}{m:Mp}{A A1:AW}{w:qz}(hs:jN m A w){t u ty:qy}{x x' y y' v:qi}(h:Mk P A t x y=qf (v,A1))(hx:bH m x x')(hy:bH m y y'):
 ∃w',(Builtin.copy_ #[t,u] ty #[x',y']).run P w=qL v w'/\jf m A w m A1 w'/\bH m v v:=by
 unfold Mk at h;split at h<;>try(cases h;done)
 rename_i e p n c b k d hu;split at h<;>try(cases h;done)
 rename_i h0;split at h<;>try(cases h;done)
 rename_i i cs unit ds hi hg hr;split at h<;>try(cases h;done)
 rename_i hc;obtain⟨h1,h2,h3⟩:=hc;simp only[Zd,Zk]at h;obtain⟨rfl,rfl⟩:=h;cases hx with
 |slice hh qa qb=>
   rename_i p' c';have ha:sC m p p':=by rcases hh with hh|hh;exact hh.TR;omega
   cases hy with
   |slice hk qc qd=>
     rename_i b' d';have hb:sC m b b':=by rcases hk with hk|hk;exact hk.TR;omega
     obtain⟨l',e1,e2,e3⟩:=zj hs hb hr (ka5 k n*i.size) h1;have hf:=run_firstCells_some (P:=P) w i.size (ka5 k n) b' k d' l' e1 e3;obtain⟨zI,KZ,q,hm,RE,ho⟩:=ha
     obtain⟨w',hrn,ev⟩:=oX (P:=P) (o:=p.off) hm ((ds.drop b.off).take (ka5 k n*i.size)) l' 0 cs A w hs hg e2
      (λv hv=>Zs.1 h3 v hv) (by rw[kaf,kaw];omega)
     have ea:p'=⟨q.block,q.base+p.off,qk⟩:=(by rw[Av p' KZ,RE,ho]);subst ea;refine⟨w',?_,by simpa using ev,.int _ _⟩;simp only[Builtin.copy_,kaL,ka7,List.getElem?_cons_succ,Zo,qx hu,Zn,kcp,ZA,gH hi,hf,hrn];rfl
def mP (P:qp)(A:AW)(t u:qy)(s x:qi):Option (qi×AW):=
 match P.underlying t,P.underlying u,x with
 |some (.slice e),qf (.int _),.int _ q=>
   match P.info? e with
   |some i=>
     match i.zero with
     |some z=>
       match gU A i.size s with
       |some (base,k,ug)=>
         if z.cells.size=i.size/\0<i.size/\z.cells.toList.all fJ/\0<=q/\k+q.toNat<=140737488355328/\(k+q.toNat)*i.bytes<=140737488355328 then
          if q.toNat=0 then qf (s,A)
          else qf (.slice (qf ⟨A.next,0,qk⟩) (k+q.toNat) (k+q.toNat),((match base with|some a=>A.set a.block qk|none=>A)).alloc (.cells (ug++fH z.cells.toList q.toNat) qj i.size))
         else qk
       |none=>qk
     |none=>qk
   |none=>qk
 |_,_,_=>qk
def EQ {P:qp}(w:qz)(t tn ty e:qy)(i:qX)(kn kq:qD)(ht:P.underlying t=qf (.slice e))(htn:P.underlying tn=qf (.int kn))(hi:P.info? e=qf i)(base:Option qM)(n c:Nat)(hc:n<=c):(kao #[t,tn] ty #[.slice base n c,.int kq 0]).run P w=qL (.slice base n c) w:=by have hw:Zb.wrap (0:Int)=0:=rfl;cases base<;>simp[kao,qx ht,qx htn,sizeOf,qT,hi,asInt,asIntOf,hw,hc,storeCells]
def ER {P:qp}(w:qz)(t tn ty e:qy)(i:qX)(z:qi)(kn kq:qD)(ht:P.underlying t=qf (.slice e))(htn:P.underlying tn=qf (.int kn))(hi:P.info? e=qf i)(hz:i.zero=qf z)(g o j8 sJ m:Nat)(ik:Array qi)(e':qy)(hg:w.heap[g]?=qf (.cells ik e' (0,0)))(h0:0<m)(hs:0<i.size)(h48:m*i.bytes<=281474976710656)(h63:(m:Int)<=9223372036854775807)(h1:∀u∈(kad z.cells m).toList,u.oneCell'=qj)(IK:j8+m<=sJ)(ur:o+j8*i.size+(kad z.cells m).toList.length<=ik.size):
 (kao #[t,tn] ty #[.slice (qf ⟨g,o,qk⟩) j8 sJ,.int kq m]).run P w =
  qL (.slice (qf ⟨g,o,qk⟩) (j8+m) sJ) (w.setRow g (ik.toList.take (o+j8*i.size)++(kad z.cells m).toList++ik.toList.drop (o+j8*i.size+(kad z.cells m).toList.length)).toArray):=by
 have hk:m≠0:=Ya
 have hw:Zb.wrap (m:Int)=m:=an Ya h63;have h48i:¬(281474976710656<(m:Int)*(i.bytes:Int)):=by rw[<-Int.natCast_mul];omega
 have Qe:¬((m:Int)<0):=Ya
 have hns:¬(m*i.size=0):=Nat.mul_ne_zero hk Ya;have cJ:=run_storeCells_at P g (o+j8*i.size) e' (kad z.cells m).toList 0 ik w hg YS h1;simp only[Nat.add_zero]at cJ;have ea:(⟨g,o,qk⟩:qM).add (j8*i.size)=⟨g,o+j8*i.size,qk⟩:=pI _ _ rfl;simp[kao,qx ht,qx htn,sizeOf,qT,qQ,hi,hz,asInt,asIntOf,hw,Qe,hns,h48i,IK,ea,cJ]
def Lk {P:qp}{m:Mp}{A A1:AW}{w:qz}(hs:jN m A w){t u ty:qy}{s x s' x' v:qi}(h:mP P A t u s x=qf (v,A1))(SO:bH m s s')(hvx:bH m x x'):
 ∃v' w' m',(kao #[t,u] ty #[s',x']).run P w=qL v' w'/\jf m A w m' A1 w'/\bH m' v v':=by
 unfold mP at h;split at h<;>try(cases h;done)
 rename_i e kn kq q hu hun;cases hvx;split at h<;>try(cases h;done)
 rename_i i hi;split at h<;>try(cases h;done)
 rename_i z hz;split at h<;>try(cases h;done)
 rename_i base k ug ho;split at h<;>try(cases h;done)
 rename_i DY;obtain⟨rR,uo,je,DT,Kf,lW⟩:=DY;obtain⟨n,rfl⟩:=Int.eq_ofNat_of_zero_le DT;simp only[Int.toNat_natCast]at h Kf lW;by_cases IQ:n=0;subst IQ;rw[az rfl]at h;simp only[Zd,Zk]at h;obtain⟨rfl,rfl⟩:=h;have Kb:∃b' n' c',s'=.slice b' n' c'/\n'<=c':=by
  unfold gU at ho;split at ho;cases SO;exact⟨_,_,_,rfl,Za _⟩
  . cases SO with
    |slice _ h1 h2=>exact⟨_,_,_,rfl,ZE h1 h2⟩
  cases ho
 obtain⟨b',n',c',rfl,gb⟩:=Kb;exact⟨_,w,m,EQ w t u ty e i kn kq hu hun hi b' n' c' gb,jf.refl hs,SO⟩;rw[ar IQ]at h;simp only[Zd,Zk]at h;obtain⟨rfl,rfl⟩:=h;have hzc:(kad z.cells n).toList=fH z.cells.toList n:=vF z.cells n Ya;have gQ:=rU je n;have nQ:∀v∈fH z.cells.toList n,v.oneCell'=qj:=λv hv=>fJ.Du (Zs.1 gQ v hv);have IP:n*i.bytes<=140737488355328:=ZE (Nat.mul_le_mul_right _ (Nat.le_add_left n k)) lW;have hl:(kad z.cells n).toList.length=n*i.size:=by rw[hzc,kG];simp[rR]
 refine Gs hs (ts:=#[t,u]) (X:=.int kq n) (l':=(kad z.cells n).toList) (e:=e) (i:=i) (z:=z) rR IQ Kf lW nQ hl (by rw[hzc];exact .rk gQ m) ho SO ?_ ?_ ?_;intro _ _ hk;have:=Go.Lib.run_append_nil_zeros (P:=P) w t u ty e i z kq kn hu hun hi hz n Ya uo Ya Ya
 simpa using this
 intro b j8 sJ lo hk h1 h2 h3;have hf:=run_firstCells_some (P:=P) w.drew i.size j8 b j8 sJ lo h1 Yw;have:=Go.Lib.run_append_grow_zeros (P:=P) w t u ty e i z kq kn hu hun hi hz (qf b) j8 sJ lo hf n Ya uo h3 Ya Ya (growslice_fits h3 (by subst hk;exact lW))
 simpa using this
 intro g o j8 sJ ik e' h1 h2 h3;exact ER w t u ty e i z kn kq hu hun hi hz g o j8 sJ n ik e' h1 Ya uo Ya Ya (by rw[hzc];exact nQ) h2 h3
end Go.Stx
namespace Go.Stx
open Go
variable [Gl]
def tQ (P:qp)(eq:qy->qi->qi->Option Bool)(xs ys:Array qi):List Field->Option Bool
 |[]=>qf qj
 |f::r=>
   if f.name = "_" then tQ P eq xs ys r else
   match apart P f.type xs f.offset,apart P f.type ys f.offset with
   |some a,qf b=>
     match eq f.type a b,tQ P eq xs ys r with
     |some p,qf q=>qf (p && q)
     |_,_=>qk
   |_,_=>qk
def Ar (P:qp)(eq:qi->qi->Option Bool)(e:qy)(size:Nat)(xs ys:Array qi):List Nat->Option Bool
 |[]=>qf qj
 |i::r=>
   match apart P e xs (i*size),apart P e ys (i*size) with
   |some a,qf b=>
     match eq a b,Ar P eq e size xs ys r with
     |some p,qf q=>qf (p && q)
     |_,_=>qk
   |_,_=>qk
def yp (P:qp):Nat->qy->qi->qi->Option Bool
 |0,_,_,_=>qk
 |d+1,t,x,y=>
   match P.underlying t,x,y with
   |some .bool,.bool a,.bool b=>qf (a == b)
   |some (.int _),.int k a,.int k' b=>if k=k' then qf (decide (a=b)) else qk
   |some .string,.string a,.string b=>qf (a.toList == b.toList)
   |some (.struct fs),.agg xs,.agg ys=>if P.stoodInHeld t then qk else tQ P (yp P d) xs ys fs.toList
   |some (.array n e),.agg xs,.agg ys=>
     match P.info? e with
     |some i=>Ar P (yp P d e) e i.size xs ys (Zt n)
     |none=>qk
   |_,_,_=>qk
def uz {P:qp}{m:Mp}{n d:Nat}(ih:∀(t:qy)(x y x' y':qi)(r:Bool),yp P n t x y=qf r->bH m x x'->bH m y y'->∀w,(kan d t x' y').run P w=qL r w){xs ys xs' ys':Array qi}(hx:bH m (.agg xs) (.agg xs'))(hy:bH m (.agg ys) (.agg ys'))(w:qz):∀(fs:List Field)(r:Bool),tQ P (yp P n) xs ys fs=qf r->
 (Op.eqFields d xs' ys' fs).run P w=qL r w
 |[],r,h=>by injection h with h;subst h;rfl
 |f::fs,r,h=>by
   unfold tQ at h;split at h;rename_i hn;simp only[Op.eqFields,hn,ne_eq,not_true_eq_false,if_false];exact uz ih hx hy w fs r h;rename_i hn;split at h<;>try(cases h;done)
   rename_i a b ha hb;split at h<;>try(cases h;done)
   rename_i p q hp hq;injection h with h;subst h;obtain⟨a',h1,h2⟩:=mL (P:=P) ha hx;obtain⟨b',h3,h4⟩:=mL (P:=P) hb hy;have h5:=ih _ _ _ _ _ _ hp h1 h3 w;have h6:=uz ih hx hy w fs q hq;simp only[Op.eqFields,ne_eq,hn,not_false_eq_true,if_true,Zo,h2,h4,h5,Zn];cases p;rfl;simp only[Bool.not_true,Zq,if_false,h6,Bool.true_and]
def BV {P:qp}{m:Mp}{d size:Nat}{e:qy}{eq:qi->qi->Option Bool}(ih:∀(x y x' y':qi)(r:Bool),eq x y=qf r->bH m x x'->bH m y y'->∀w,(kan d e x' y').run P w=qL r w){xs ys xs' ys':Array qi}(hx:bH m (.agg xs) (.agg xs'))(hy:bH m (.agg ys) (.agg ys'))(w:qz):∀(is:List Nat)(r:Bool),Ar P eq e size xs ys is=qf r->
 (Op.eqItems d e size xs' ys' is).run P w=qL r w
 |[],r,h=>by injection h with h;subst h;simp[Op.eqItems]
 |i::is,r,h=>by
   unfold Ar at h;split at h<;>try(cases h;done)
   rename_i a b ha hb;split at h<;>try(cases h;done)
   rename_i p q hp hq;injection h with h;subst h;obtain⟨a',h1,h2⟩:=mL (P:=P) ha hx;obtain⟨b',h3,h4⟩:=mL (P:=P) hb hy;have h5:=ih _ _ _ _ _ hp h1 h3 w;have h6:=BV ih hx hy w is q hq;simp only[Op.eqItems,Zo,h2,h4,h5,Zn];cases p;simp;simp[h6]
def tE {P:qp}{m:Mp}:∀(n d:Nat)(t:qy)(x y x' y':qi)(r:Bool),n<=d->yp P n t x y=qf r->bH m x x'->bH m y y'->
 ∀w,(kan d t x' y').run P w=qL r w
 |0,d,t,x,y,x',y',r,_,h,_,_,w=>by cases h
 |n+1,0,t,x,y,x',y',r,hd,h,hx,hy,w=>by omega
 |n+1,d+1,t,x,y,x',y',r,hd,h,hx,hy,w=>by
   unfold yp at h;split at h<;>try(cases h;done)
   rename_i hu;cases hx;cases hy;injection h with h;subst h;simp[kan,qx hu]
   . rename_i hu;cases hx;cases hy;split at h<;>try(cases h;done)
     rename_i hk;injection h with h;subst h;subst hk;simp[kan,qx hu];rfl
   rename_i hu;cases hx;cases hy;injection h with h;subst h;exact run_equalIn_string w d t _ _ hu
   . rename_i fs xs ys hu;split at h<;>try(cases h;done)
     rename_i hp;have P2:=hx;have hy0:=hy;cases hx;cases hy;have hfo:P.fieldsOf t=fs:=(by simp[Program.fieldsOf,hu]);rw[run_equalIn_struct w d t _ _ (by rw[hfo];exact hu) (by simpa using hp),hfo];exact uz (λt x y x' y' r h1 h2 h3 w=>tE n d t x y x' y' r Ya h1 h2 h3 w) P2 hy0 w _ _ h
   rename_i k e xs ys hu;split at h<;>try(cases h;done)
   rename_i i hi;have P2:=hx;have hy0:=hy;cases hx;cases hy;rw[run_equalIn_array w d _ _ hu hi];have hce:P.cellsOf e=i.size:=(by simp[Program.cellsOf,hi]);rw[hce];exact BV (λx y x' y' r h1 h2 h3 w=>tE n d e x y x' y' r Ya h1 h2 h3 w) P2 hy0 w _ _ h
def tW {P:qp}{t:qy}{x y:Array qy}{b:Bool}(d:Nat)(fn:Fn)(p q:Array qi)(hu:P.underlying t=qf (.func x y b))(w:qz):
 (kan (d+1) t (.func fn p q) .nilFunc).run P w=qL qn w:=by exact Yac
def s3 {P:qp}{t:qy}{x y:Array qy}{b:Bool}(d:Nat)(hu:P.underlying t=qf (.func x y b))(w:qz):
 (kan (d+1) t .nilFunc .nilFunc).run P w=qL qj w:=by exact Yac
def Rm (P:qp)(op:BinOp)(t:qy)(x y:qi):Option qi:=
 match x,y with
 | .agg xs,.agg ys=>
   if P.eqGuardType P.depth t then qk else
   match op with
   | .eql=>(yp P 8 t (.agg xs) (.agg ys)).map .bool
   | .neq=>(yp P 8 t (.agg xs) (.agg ys)).map λb=>.bool (!b)
   |_=>qk
 | .slice a _ _,.slice qk 0 0=>
   match op,P.underlying t with
   | .eql,qf (.slice _)=>qf (.bool a.isNone)
   | .neq,qf (.slice _)=>qf (.bool (!a.isNone))
   |_,_=>qk
 | .map a,.map qk=>
   match op,P.underlying t with
   | .eql,qf (.map _ _)=>qf (.bool a.isNone)
   | .neq,qf (.map _ _)=>qf (.bool (!a.isNone))
   |_,_=>qk
 | .func _ _ _,.nilFunc=>
   match op,P.underlying t with
   | .eql,qf (.func _ _ _)=>qf (.bool qn)
   | .neq,qf (.func _ _ _)=>qf (.bool qj)
   |_,_=>qk
 | .nilFunc,.nilFunc=>
   match op,P.underlying t with
   | .eql,qf (.func _ _ _)=>qf (.bool qj)
   | .neq,qf (.func _ _ _)=>qf (.bool qn)
   |_,_=>qk
 |x,y=>abin P op t x y
def GA {P:qp}{op:BinOp}{t:qy}{x y v:qi}(h:Rm P op t x y=qf v){m:Mp}{x' y':qi}(hx:bH m x x')(hy:bH m y y')(xo yo:qA)(w:qz):
 (do qK op t xo yo x' y';qJ op t x' y':Sem qi).run P w=qL v w/\bH m v v:=by
 unfold Rm at h;split at h
 . rename_i xs ys;split at h<;>try(cases h;done)
   rename_i hg;have P2:=hx;have hy0:=hy;cases hx;cases hy;have Ke:P.eqGuardType P.depth t=qn:=by simpa using hg
   rw[Zo,run_eqGuard_agg w op t xo yo _ _ Ke,Zn];cases op<;>simp only at h<;>(try (cases h;done));obtain⟨r,h1,rfl⟩:=kas.1 h;exact⟨by rw[run_eql_struct,tE 8 10000 t _ _ _ _ r Ya h1 P2 hy0 w];rfl,by constructor⟩;obtain⟨r,h1,rfl⟩:=kas.1 h;exact⟨by rw[run_neq_struct,tE 8 10000 t _ _ _ _ r Ya h1 P2 hy0 w];rfl,by constructor⟩
 rename_i a n c;have key:∀(a':Option qM)(n' c':Nat)(e:qy),P.underlying t=qf (.slice e)->(Op.equal t (.slice a' n' c') (.slice qk 0 0)).run P w=qL a'.isNone w:=λa' n' c' e hu=>run_equal_slice_nil w t e a' n' c' hu;have hx':∃a' n' c',x'=.slice a' n' c'/\a'.isNone=a.isNone:=by cases hx<;>exact⟨_,_,_,rfl,rfl⟩
 obtain⟨a',n',c',rfl,ha⟩:=hx';cases hy;split at h;rename_i hu;injection h with h;subst h;exact⟨by simp[qK,qJ,key _ _ _ _ hu,ha],by constructor⟩
 rename_i hu;injection h with h;subst h;exact⟨by simp[qK,qJ,key _ _ _ _ hu,ha],by constructor⟩
 cases h;rename_i a;have key:∀(a':Option Nat)(k e:qy),P.underlying t=qf (.map k e)->(Op.equal t (.map a') (.map qk)).run P w=qL a'.isNone w:=λa' k e hu=>run_equal_map_nil w t k e a' hu;have hx':∃a',x'=.map a'/\a'.isNone=a.isNone:=by cases hx<;>exact⟨_,rfl,rfl⟩
 obtain⟨a',rfl,ha⟩:=hx';cases hy;split at h;rename_i hu;injection h with h;subst h;exact⟨by simp[qK,qJ,key _ _ _ hu,ha],by constructor⟩
 rename_i hu;injection h with h;subst h;exact⟨by simp[qK,qJ,key _ _ _ hu,ha],by constructor⟩
 cases h;cases hy;cases hx;split at h;rename_i hu;injection h with h;subst h;exact⟨by simp[qK,qJ,ic (tW _ _ _ _ hu w)],by constructor⟩
 rename_i hu;injection h with h;subst h;exact⟨by simp[qK,qJ,ic (tW _ _ _ _ hu w)],by constructor⟩
 cases h;cases hy;cases hx;split at h;rename_i hu;injection h with h;subst h;exact⟨by simp[qK,qJ,ic (s3 _ hu w)],by constructor⟩
 rename_i hu;injection h with h;subst h;exact⟨by simp[qK,qJ,ic (s3 _ hu w)],by constructor⟩
 cases h;exact T9 h hx hy xo yo w
end Go.Stx
namespace Go.Stx
open Go
variable [Gl]
abbrev Fr:=Nat->qi
def mu (a:Fr)(i:Nat)(v:qi):Fr:=λj=>if j=i then v else a j
def d8 (a:Fr)(d:Option Tmp)(v:qi):Fr:=
 match d with
 |some i=>mu a i v
 |none=>a
def gZ (a:Fr):qA->qi
 | .tmp t=>a t
 | .const v=>v
 | .global g=>.pointer (qf ⟨g,0,qk⟩)
 | .func f=>.func (.func f) #[] #[]
def Ext (w w':qz):Prop:=∀b,b<w.heap.size->w'.heap[b]?=w.heap[b]?
def Ext.refl (w:qz):Ext w w:=λ_ _=>rfl
def Ext.cell {w w':qz}(h:Ext w w'){a:qM}{v:qi}(hc:w.cell? a=qf v):w'.cell? a=qf v:=by have hb:=World.block_lt_of_cell? w a hc;rw[World.cell?_of_block (h _ hb)];exact hc
def Ext.vL {m:Mp}{A:AW}{w w':qz}(h:Ext w w')(hs:jN m A w):jN m A w':=by
 refine⟨λi o hi=>?_,hs.inj,hs.nS,hs.tO,λb x hb=>?_,hs.yP,hs.w5⟩
 rotate_left
 have h1:=hs.laid b x hb;rw[h b (Zj.1 h1).1];exact h1;obtain⟨p,h1,h2⟩:=hs.Dv i o hi;have hb:=hs.jj hi h1;exact⟨p,h1,h2.heap (h _ hb)⟩
def aae {P:qp}{m:Mp}{A:AW}{w:qz}(hs:jN m A w){t:qy}{p p':qM}{v:qi}(h:ja P A t p=qf v)(hp:sC m p p'):
 ∃v',bH m v v'/\∀w',Ext w w'->(loadVar t p').run P w'=qL v' w':=by
 unfold ja at h;split at h;rename_i cs hr ha;obtain⟨v',h1,h2⟩:=Eg hs hp hr (k:=0) YV;have e:p'.add 0=p':=by unfold Addr.add;simp
 rw[e]at h1;refine⟨v',h2,λw' hx=>?_⟩;simp only[loadVar,Zo,tL ha,Zn,Zq,if_false,run_load,hx.cell h1];rename_i cs hr ha;split at h;rename_i i hi;split at h;rename_i gb;injection h with h;subst h;obtain⟨l',hl,h1,h2⟩:=zj hs hp hr i.size gb;refine⟨.agg l'.toArray,.u4 h1,λw' hx=>?_⟩;have h3:=run_loadCells_list (P:=P) w' p' l' (λj v hv=>hx.cell (h2 j v hv));rw[hl]at h3;simp only[loadVar,Zo,tL ha,Zn,if_true,gH hi,h3,ZA];cases h;cases h;cases h
def Oj (P:qp)(op:BinOp)(t:qy)(x:qi):Option qi:=
 match P.underlying t,op,x with
 |some (qY _),.eql,.nilIface=>qf (.bool qj)
 |some (qY _),.neq,.nilIface=>qf (.bool qn)
 |some (qY _),.eql,.iface _ _=>qf (.bool qn)
 |some (qY _),.neq,.iface _ _=>qf (.bool qj)
 |_,_,_=>qk
def pY {P:qp}{t:qy}{ms:Array (String×qy)}(d:Nat)(hu:P.underlying t=qf (qY ms))(w:qz):
 (kan (d+1) t .nilIface .nilIface).run P w=qL qj w:=by simp[kan,qx hu]
def pZ {P:qp}{t u:qy}{v:qi}{ms:Array (String×qy)}(d:Nat)(hu:P.underlying t=qf (qY ms))(w:qz):
 (kan (d+1) t (.iface u v) .nilIface).run P w=qL qn w:=by simp[kan,qx hu]
def Eo {P:qp}{m:Mp}{op:BinOp}{t:qy}{x x' v:qi}(h:Oj P op t x=qf v)(hx:bH m x x')(xo:qA)(w:qz):
 (do qK op t xo (.const .nilIface) x' .nilIface;qJ op t x' .nilIface:Sem qi).run P w=qL v w/\bH m v v:=by
 unfold Oj at h;split at h;rename_i hu;injection h with h;subst h;cases hx
 exact⟨by rw[eqGuard_nil_constR];simp[qJ,ic (pY _ hu w)],by constructor⟩;rename_i hu;injection h with h;subst h;cases hx
 exact⟨by rw[eqGuard_nil_constR];simp[qJ,ic (pY _ hu w)],by constructor⟩;rename_i hu;injection h with h;subst h;cases hx
 exact⟨by simp[qK,qJ,ic (pZ _ hu w)],by constructor⟩;rename_i hu;injection h with h;subst h;cases hx
 exact⟨by simp[qK,qJ,ic (pZ _ hu w)],by constructor⟩;cases h
def au8s:List qi->Option (List Int)
 |[]=>qf []
 | .int .u8 n::l=>(au8s l).map (n::·)
 |_::_=>qk
def au8s_eq (l:List qi):∀(xs:List Int),au8s l=qf xs->l=xs.map (Zl .u8):=by
 induction l with
 |nil=>intro xs h;injection h with h;subst h;rfl
 |cons v l ih=>intro xs h;unfold au8s at h;split at h;rename_i e;cases e;rename_i n l' e;injection e with e1 e2;subst e1;subst e2;obtain⟨ys,h1,rfl⟩:=kas.1 h;rw[ih ys h1];rfl;cases h
def JP (P:qp)(A:AW)(s d:qy)(x:qi):Option qi:=
 match P.underlying s,P.underlying d,x with
 |some (.slice e),qf .string,.slice (qf p) n _=>
   match P.underlying e,A.bO p.block with
   |some (.int .u8),qf bO=>
     if p.off+n<=U bO then
      match au8s ((bO.drop p.off).take n) with
      |some xs=>qf (.string (strOfNums xs))
      |none=>qk
     else qk
   |_,_=>qk
 |_,_,_=>qk
def Oq {P:qp}{m:Mp}{A:AW}{w:qz}(hs:jN m A w){s d:qy}{x x' v:qi}(h:JP P A s d x=qf v)(hx:bH m x x'):
 ∃v',bH m v v'/\∀w',Ext w w'->(convert s d x').run P w'=qL v' w':=by
 unfold JP at h;split at h;rename_i e p n c Kb uv;split at h;rename_i bO he bP;split at h;rename_i gb;split at h
 . rename_i xs hxs;injection h with h;subst h;have e1:=au8s_eq _ _ hxs;have cy:U xs=n:=by have:=congrArg List.length e1;simp at this;omega
   cases hx with
   |slice hr h1 h2=>
     rename_i a' jJ;refine⟨_,by constructor,λw' hw=>?_⟩;rcases hr with hr|⟨rfl,rfl,_⟩;obtain⟨l',h3,h4,h5⟩:=zj hs hr.TR bP n gb;have ha:=Av a' hr.2.1;rw[ha];refine run_convert_bytes_arg w' s e Kb he a'.block a'.off n jJ xs cy (λi hi=>?_) d uv;have hv:=h4.2 i (.int .u8 (xs.getD i 0)) (l'[i]'Ya) (by rw[e1];simp[List.getD,Zf (show i<U xs by omega)]) (Zf Ya);have h6:=h5 i _ (Zf Ya);rw[pI _ _ hr.2.1]at h6;generalize l'[i]=z at hv h6;cases hv;exact hw.cell h6;have:xs=[]:=kab Ya;subst this;have ha:(convert s d (.slice (qf a') 0 0)).run P w'=qL (.string (strOfNums [])) w':=by rw[run_convert_bytes_string w' s d e _ 0 0 Kb he uv,run_bytesToString w' _ 0 0 [] rfl];rfl
     exact ha
 cases h;cases h;cases h;cases h
def pH (r:qA->qi)(ps:Array (Nat×qA)):List (Nat×qi):=ps.toList.map λx=>(x.1,r x.2)
def aq (P:qp)(A:AW)(r:qA->qi):Op->Option qi
 | .move x=>qf (r x)
 | .assign x=>qf (r x)
 | .pick c x y=>
   match r c with
   | .bool b=>qf (if b then r x else r y)
   |_=>qk
 | .build t ps=>JQ P t (pH r ps)
 | .load t x=>
   match r x with
   | .pointer (qf p)=>ja P A t p
   |_=>qk
 | .nilCheck x=>
   match r x with
   | .pointer (qf p)=>qf (.pointer (qf p))
   |_=>qk
 | .binOp op t x y _=>
   match y,r y with
   | .const .nilIface,.nilIface=>Oj P op t (r x)
   |_,_=>Rm P op t (r x) (r y)
 | .unOp op _ x=>aun op (r x)
 | .convert s d x=>
   match Rj P s d (r x) with
   |some v=>qf v
   |none=>JP P A s d (r x)
 | .makeInterface t x=>uG P t (r x)
 | .slice t x lo hi mx=>
   match mx with
   |none=>Ap P A t (r x) (lo.map r) (hi.map r) qk
   |some q=>Ei P t (r x) (lo.map r) (hi.map r) (r q)
 | .lookup t x ix c=>Bf P A t (r x) (r ix) c
 | .fieldAddr s x f=>uJ P s (r x) f
 | .field t x f=>JL P t (r x) f
 | .indexAddr t x ix=>uH P t (r x) (r ix)
 | .index t x ix=>JK P t (r x) (r ix)
 | .extract t i=>
   match r t with
   | .tuple vs=>vs[i]?
   |_=>qk
 | .makeFunc fn fs cs=>qf (.func fn (fs.map r) (cs.map r))
 |qW c=>
   match c.callee,c.args.toList,c.argTypes.toList with
   |qH .len,[x],[t]=>oQ P t (r x)
   |qH .min,[x,y],_=>TT qn [r x,r y]
   |qH .max,[x,y],_=>TT qj [r x,r y]
   |_,_,_=>qk
 |_=>qk
def By.map {m:Mp}{r r':qA->qi}(x:Option qA)(h:∀y,x=qf y->bH m (r y) (r' y)):By m (x.map r) (x.map r'):=by
 cases x with
 |none=>trivial
 |some y=>exact h y rfl
def aaa {α:Type}{a:Array α}{x y:α}(h:a.toList=[x,y]):a = #[x,y]:=by apply Array.ext';exact h
def arr1 {α:Type}{a:Array α}{x:α}(h:a.toList=[x]):a = #[x]:=by apply Array.ext';exact h
def aq_sound {P:qp}{m:Mp}{A:AW}{w:qz}(hs:jN m A w){o:qC}{r r':qA->qi}{v:qi}(hr:∀x∈o.op.operands,bH m (r x) (r' x))(h:aq P A r o.op=qf v):∃v',bH m v v'/\∀w',Ext w w'->(qR r' o).run P w'=qL (.value v') w':=by
 obtain⟨dst,op,ty,pos,after,guard⟩:=o;have wT:∀{s:Sem qi}{v':qi}{w':qz},s.run P w'=qL v' w'->(do pure (.value (<-s)):Sem Next).run P w'=qL (.value v') w':=λ{s v' w'} e=>by simp only[Zo,e,Zn,ZA]
 cases op<;>simp only[aq]at h<;>(try (cases h;done))
 case move x=>injection h with h;subst h;exact⟨r' x,hr x Yh,λw' _=>by simp[qR]⟩
 case assign x=>injection h with h;subst h;exact⟨r' x,hr x Yh,λw' _=>by simp[qR]⟩
 case pick c x y=>have hc:=hr c Yh;split at h;rename_i b hb;rw[hb]at hc;injection h with h;subst h;generalize yb:r' c=c' at hc;cases hc;refine⟨if b then r' x else r' y,?_,λw' _=>by simp[qR,yb,asBool]⟩;cases b;exact hr y Yh;exact hr x Yh;cases h
 case build t ps=>
  obtain⟨v',h1,h2⟩:=Ot (P:=P) (m:=m) (iU:=ps.map fun(i,x)=>(i,r' x)) h (by simp[pH]) (λk p p' h1 h2=>by simp only[pH,Z6,kbA,kas,kbT]at h1 h2;obtain⟨q,h3,rfl⟩:=h1;obtain⟨q',h4,rfl⟩:=h2;rw[h3]at h4;injection h4 with h4;subst h4;exact⟨rfl,hr q.2 Xq⟩)
  exact X0
 case load t x=>
  have hx:=hr x Yh;split at h
  . rename_i p hp;rw[hp]at hx;generalize yb:r' x=x' at hx;cases hx with
    |G0 ha=>obtain⟨v',h1,h2⟩:=aae (P:=P) hs h ha;exact⟨v',h1,λw' hw=>by simp[qR,yb,Instr.loadAt,kbY,h2 w' hw]⟩
  cases h
 case nilCheck x=>
  have hx:=hr x Yh;split at h
  . rename_i p hp;rw[hp]at hx;generalize yb:r' x=x' at hx;injection h with h;subst h;cases hx with
    |G0 ha=>exact⟨_,.G0 ha,λw' hw=>by simp[qR,yb]⟩
  cases h
 case binOp op t x y ty'=>
  have hx:=hr x Yh;have hy:=hr y Yh;split at h;rename_i e;rw[e]at hy;have hy':r' (.const .nilIface)=.nilIface:=by generalize r' (.const .nilIface)=z at hy;cases hy;rfl
  exact⟨v,(Eo h hx x w).2,λw' _=>wT (by rw[hy'];exact(Eo h hx x w').1)⟩;exact⟨v,(GA h hx hy x x w).2,λw' _=>wT (GA h hx hy x _ w').1⟩
 case unOp op t x=>have hx:=hr x Yh;exact⟨v,(Mf (P:=P) h hx w).2,λw' _=>wT (Mf h hx w').1⟩
 case convert s d x=>have hx:=hr x Yh;split at h;rename_i v0 h0;injection h with h;subst h;exact⟨v0,(Gv h0 hx w).2,λw' _=>wT (Gv h0 hx w').1⟩;obtain⟨v',h1,h2⟩:=Oq hs h hx;exact⟨v',h1,λw' hw=>wT (h2 w' hw)⟩
 case makeInterface t x=>obtain⟨v',h1,h2⟩:=Fo h (hr x Yh);exact X0
 case slice t x lo hi mx=>
  cases mx with
  |none=>obtain⟨v',h1,h2⟩:=Ob hs (mx':=qk) h (hr x Yh) (By.map (r':=r') lo λy e=>hr y YO) (By.map (r':=r') hi λy e=>hr y YO) trivial;exact X0
  |some q=>obtain⟨v',h1,h2⟩:=Li h (hr x Yh) (By.map (r':=r') lo λy e=>hr y YO) (By.map (r':=r') hi λy e=>hr y YO) (hr q Yh);exact X0
 case lookup t x ix c=>obtain⟨v',h1,h2⟩:=Ln (P:=P) hs h (hr x Yh) (hr ix Yh);exact⟨v',h1,λw' hw=>wT (h2 w' hw)⟩
 case fieldAddr s x f=>obtain⟨v',h1,h2⟩:=Fs h (hr x Yh);exact X0
 case field t x f=>obtain⟨v',h1,h2⟩:=Oi h (hr x Yh);exact X0
 case indexAddr t x ix=>obtain⟨v',h1,h2⟩:=Fq h (hr x Yh) (hr ix Yh);exact X0
 case index t x ix=>obtain⟨v',h1,h2⟩:=Oh h (hr x Yh) (hr ix Yh);exact X0
 case extract t i=>
  have hx:=hr t Yh;split at h
  . rename_i vs hp;rw[hp]at hx;generalize yb:r' t=x' at hx;cases hx with
    |tuple uo h1=>rename_i FA;have b9:i<FA.size:=(by rw[<-uo];exact(Zj.1 h).1);have e:=ZQ b9;exact⟨FA[i],h1 i v _ h e,λw' _=>by simp[qR,yb,Instr.extract,e]⟩
  cases h
 case makeFunc fn fs cs=>injection h with h;subst h;refine⟨.func fn (fs.map r') (cs.map r'),?_,λw' _=>by simp[qR,Instr.makeFunc]⟩;refine .func fn Yb Yb (λi v v' h1 h2=>?_) (λi v v' h1 h2=>?_);simp only[kbT,kas]at h1 h2;obtain⟨q,h3,rfl⟩:=h1;obtain⟨q',h4,rfl⟩:=h2;rw[h3]at h4;injection h4 with h4;subst h4;exact hr q (by simp only[kaX,kbW];exact qw (kaH h3));simp only[kbT,kas]at h1 h2;obtain⟨q,h3,rfl⟩:=h1;obtain⟨q',h4,rfl⟩:=h2;rw[h3]at h4;injection h4 with h4;subst h4;exact hr q (by simp only[kaX,kbW];exact qB (kaH h3))
 case call c=>
  obtain⟨callee,args,argTypes⟩:=c;split at h;rename_i x t h1 h2 h3;simp only at h1 h2 h3;subst h1;have e2:=arr1 h2;have e3:=arr1 h3;subst e2;subst e3;have hx:=hr x Yr;have hl:=T1 (P:=P) (ty:=ty) h hx;refine⟨v,hl.1,λw' _=>?_⟩;have:=hl.2 w';simp[qR,resolve,invoke,builtin,this];rename_i x y h1 h2;simp only at h1 h2;subst h1;have e2:=aaa h2;subst e2;have hx:=hr x Yr;have hy:=hr y Yr;have hl:=JD (P:=P) (ts:=argTypes) (ty:=ty) (l':=#[r' x,r' y]) h (.cons hx (.cons hy .nil));refine⟨v,hl.1,λw' _=>?_⟩;have:=hl.2 w';simp only[Zq,if_false]at this;simp[qR,resolve,invoke,builtin,this];rename_i x y h1 h2;simp only at h1 h2;subst h1;have e2:=aaa h2;subst e2;have hx:=hr x Yr;have hy:=hr y Yr;have hl:=JD (P:=P) (ts:=argTypes) (ty:=ty) (l':=#[r' x,r' y]) h (.cons hx (.cons hy .nil))
  refine⟨v,hl.1,λw' _=>?_⟩;have:=hl.2 w';simp only[if_true]at this;simp[qR,resolve,invoke,builtin,this];cases h
def ae (P:qp)(A:AW)(r:qA->qi):Op->Option (qi×AW)
 | .alloc t=>CW P A t
 | .box _ x=>qf (Rl A (r x))
 | .buildSlice t len ps=>mO P A t len (pH r ps)
 | .store t x y=>
   match r x with
   | .pointer (qf p)=>
     match aI P A t p (r y) with
     |some A1=>qf (qE,A1)
     |none=>qk
   |_=>qk
 | .makeSlice t l c=>mM P A t (r l) (r c)
 | .makeMap t x=>uF P A t (x.map r)
 | .mapUpdate t x k v=>
   match fv P A t (r x) (r k) (r v) with
   |some A1=>qf (qE,A1)
   |none=>qk
 | .insert t x k v=>
   match fv P A t (r x) (r k) (r v) with
   |some A1=>qf (qE,A1)
   |none=>qk
 |qW c=>
   match c.callee,c.args.toList,c.argTypes.toList with
   |qH .append,[s,x],[t,u]=>if t=u then fD P A t u (r s) (r x) else mP P A t u (r s) (r x)
   |qH .clear,[x],[t]=>
     match CU P A t (r x) with
     |some A1=>qf (qE,A1)
     |none=>qk
   |qH .copy,[x,y],[t,_]=>Mk P A t (r x) (r y)
   |_,_,_=>qk
 |_=>qk
def Yield (P:qp)(r':qA->qi)(o:qC)(w w':qz)(v':qi):Prop:=
 (qR r' o).run P w=qL (.value v') w'\/((qR r' o).run P w=qL .skip w'/\v'=qE)
def Rh {P:qp}{m:Mp}{A A1:AW}{w:qz}(hs:jN m A w){o:qC}{r r':qA->qi}{v:qi}(hr:∀x∈o.op.operands,bH m (r x) (r' x))(h:ae P A r o.op=qf (v,A1)):∃v' w' m',Yield P r' o w w' v'/\jf m A w m' A1 w'/\bH m' v v':=by
 obtain⟨dst,op,ty,pos,after,guard⟩:=o;have wT:∀{s:Sem qi}{v':qi}{w w':qz},s.run P w=qL v' w'->(do pure (.value (<-s)):Sem Next).run P w=qL (.value v') w':=λ{s v' w w'} e=>by simp only[Zo,e,Zn,ZA]
 cases op<;>simp only[ae]at h<;>(try (cases h;done))
 case alloc t=>obtain⟨v',w',m',h1,h2,h3⟩:=Ou hs h;exact X7
 case box t x=>injection h with h;obtain⟨v',w',m',h1,h2,h3⟩:=JR (P:=P) hs t (hr x Yh);rw[h]at h2 h3;exact X7
 case buildSlice t len ps=>
  obtain⟨v',w',m',h1,h2,h3⟩:=Eu (P:=P) (m:=m) hs (iU:=ps.map fun(i,x)=>(i,r' x)) h (by simp[pH]) (λk p p' h1 h2=>by simp only[pH,Z6,kbA,kas,kbT]at h1 h2;obtain⟨q,h3,rfl⟩:=h1;obtain⟨q',h4,rfl⟩:=h2;rw[h3]at h4;injection h4 with h4;subst h4;exact⟨rfl,hr q.2 Xq⟩)
  exact X7
 case store t x y=>
  have hx:=hr x Yh;split at h
  . rename_i p hp;rw[hp]at hx;generalize yb:r' x=x' at hx;cases hx with
    |G0 ha=>rename_i p';split at h;rename_i A2 cJ;simp only[Zd,Zk]at h;obtain⟨rfl,rfl⟩:=h;obtain⟨w',h1,h2⟩:=Oa (P:=P) hs cJ ha (hr y Yh);refine⟨qE,w',m,qB ⟨?_,rfl⟩,h2,.tuple rfl (λi v v' h=>by simp at h)⟩;simp only[qR,Instr.storeAt,yb,kbY,Zo,ZA,Zn,h1];cases h
  cases h
 case makeSlice t l c=>obtain⟨v',w',m',h1,h2,h3⟩:=Rc hs h (hr l Yh) (hr c Yh);exact X7
 case makeMap t x=>obtain⟨v',w',m',h1,h2,h3⟩:=JF (P:=P) hs h (By.map (r':=r') x λy e=>hr y YO);exact X7
 case mapUpdate t x k y=>split at h;rename_i A2 cJ;simp only[Zd,Zk]at h;obtain⟨rfl,rfl⟩:=h;obtain⟨w',h1,h2⟩:=xe (P:=P) hs cJ (hr x Yh) (hr k Yh) (hr y Yh);refine⟨qE,w',m,qB ⟨?_,rfl⟩,h2,.tuple rfl (λi v v' h=>by simp at h)⟩;simp only[qR,Zo,ZA,Zn,h1];cases h
 case insert t x k y=>split at h;rename_i A2 cJ;simp only[Zd,Zk]at h;obtain⟨rfl,rfl⟩:=h;obtain⟨w',h1,h2⟩:=xe (P:=P) hs cJ (hr x Yh) (hr k Yh) (hr y Yh);refine⟨qE,w',m,qB ⟨?_,rfl⟩,h2,.tuple rfl (λi v v' h=>by simp at h)⟩;simp only[qR,Zo,ZA,Zn,h1];cases h
 case call c=>
  obtain⟨callee,args,argTypes⟩:=c;split at h
  rotate_left
  . rename_i x t h1 h2 h3;simp only at h1 h2 h3;subst h1;have e2:=arr1 h2;have e3:=arr1 h3;subst e2;subst e3;split at h<;>try(cases h;done)
    rename_i A2 cJ;simp only[Zd,Zk]at h;obtain⟨rfl,rfl⟩:=h;obtain⟨w',h1,h2⟩:=On (P:=P) (ty:=ty) hs cJ (hr x Yr);refine⟨qE,w',m,qw ?_,h2,.tuple rfl (λi v v' h=>by simp at h)⟩;simp[qR,resolve,invoke,builtin,h1]
  rename_i s x t u h1 h2 h3;simp only at h1 h2 h3;subst h1;have e2:=aaa h2;have e3:=aaa h3;subst e2;subst e3;obtain⟨w',h1,h2,h3⟩:=Ri (P:=P) (ty:=ty) (u:=u) hs h (hr s Yr) (hr x Yr);refine⟨v,w',m,qw ?_,h2,h3⟩;simp[qR,resolve,invoke,builtin,h1]
  rotate_left
  rename_i s x t u h1 h2 h3;simp only at h1 h2 h3;subst h1;have e2:=aaa h2;have e3:=aaa h3;subst e2;subst e3;have SR:=hr s Yr;have hxv:=hr x Yr;split at h;obtain⟨v',w',m',h1,h2,h3⟩:=Oe (P:=P) (ty:=ty) hs h SR hxv;refine⟨v',w',m',qw ?_,h2,h3⟩;simp[qR,resolve,invoke,builtin,h1];obtain⟨v',w',m',h1,h2,h3⟩:=Lk (P:=P) (ty:=ty) hs h SR hxv;refine⟨v',w',m',qw ?_,h2,h3⟩;simp[qR,resolve,invoke,builtin,h1];cases h
end Go.Stx
namespace Go.Stx
open Go
variable [Gl]
structure sW (m:Mp) (n:Nat) (a:Fr) (ca:Act):Prop where
 size:ca.tmps.size=n
 defers:ca.defers=[]
 rel:∀i,i<n->bH m (a i) (ca.tmps.getD i undef)
 w5:Rt m
def sW.mono {m m':Mp}(hm:Mp.le m m'){n:Nat}{a:Fr}{ca:Act}(h:sW m n a ca):sW m' n a ca:=⟨h.size,h.defers,λi hi=>(h.rel i hi).mono hm,h.w5.mono hm⟩
def bH.undef (m:Mp):bH m qE qE:=.tuple rfl λi v v' h=>by simp at h
def Cm (n:Nat):qA->Bool
 | .tmp t=>decide (t<n)
 | .const v=>yc v
 | .global g=>Gl.ok g
 | .func _=>qj
def ma (n:Nat)(o:qC):Bool:=
 o.op.operands.all (Cm n) && (match o.dst with|some d=>decide (d<n)|none=>qj)
def mg (n:Nat):Code->Bool
 | .region _ bf _=>bf.all (ma n)
 | .seq a b=>mg n a && mg n b
 | .cond c a b=>Cm n c && mg n a && mg n b
 | .block _ b=>mg n b
 | .loop b=>mg n b
 | .skip=>qj
 | .exit _=>qj
 | .ret=>qj
 |_=>qn
def sW.eval {m:Mp}{n:Nat}{a:Fr}{ca:Act}(h:sW m n a ca){x:qA}(hx:Cm n x=qj):bH m (gZ a x) (ca.eval x):=by
 cases x with
 |tmp t=>exact h.rel t (by simpa[Cm]using hx)
 |const v=>exact bH.wM (v:=v) (by simpa[Cm]using hx) m
 |global g=>exact .G0 ⟨rfl,rfl,_,h.w5 g hx,rfl,(kag 0).symm⟩
 |func f=>exact .func _ rfl rfl (λi v v' h=>by simp at h) (λi v v' h=>by simp at h)
def sW.put {m:Mp}{n:Nat}{a:Fr}{ca:Act}(h:sW m n a ca){d:Option Tmp}(hd:∀i,d=qf i->i<n){v v':qi}(hv:bH m v v'):
 sW m n (d8 a d v) (ca.put d v'):=by
 cases d with
 |none=>exact h
 |some i=>refine⟨by simp[Act.put,h.size],by simp[Act.put,h.defers],λj hj=>?_,h.w5⟩;have hi:=hd i rfl;simp only[d8,mu,Act.put];by_cases e:j=i;subst e;rw[az rfl];simp[Z8,h.size,hi];exact hv;rw[ar e];have:=h.rel j hj;rw[Z8]at this ⊢;rw[kby Ya];exact this
def lh (P:qp)(f:qN):Bool:=
 match P.funcs[f]? with
 |some fn=>!(fn.name == "runtime.NumGoroutine") && fn.body.isSome
 |none=>qn
def aE (P:qp)(f:qN)(args:List qi)(A:AW)(R:qi->AW->Prop):Prop:=
 lh P f=qj/\∀(m:Mp)(w:qz)(iE:Array qi),jN m A w->jE m args iE.toList->
  Calls P f iE w λe w'=>∃v v' m' A',e=.returned v'/\jf m A w m' A' w'/\bH m' v v'/\R v A'
def aE.mono {P:qp}{f:qN}{args:List qi}{A:AW}{R R':qi->AW->Prop}(h:aE P f args A R)(hR:∀v A',R v A'->R' v A'):aE P f args A R':=
 ⟨h.1,λm w iE hs hl=>(h.2 m w iE hs hl).mono λ_ _ ⟨v,v',m',A',h1,h2,h3,h4⟩=>⟨v,v',m',A',h1,h2,h3,hR _ _ h4⟩⟩
def AB (P:qp)(op:Op)(r:qA->qi)(A:AW)(k:qi->AW->Prop):Prop:=
 match op with
 |qW c=>
   match c.callee with
   | .value x=>
     match r x with
     | .func (.func f) fs cs=>aE P f (fs.toList++c.args.toList.map r++cs.toList) A k
     |_=>False
   |_=>False
 |_=>False
def iJ (P:qp)(op:Op)(r:qA->qi)(A:AW)(k:qi->AW->Prop):Prop:=
 match aq P A r op with
 |some v=>k v A
 |none=>
   match ae P A r op with
   |some (v,A1)=>k v A1
   |none=>AB P op r A k
def M2 {P:qp}{f:qN}{args:Array qi}(h:lh P f=qj)(w:qz):(callFunc f args).run P w=qL (.enter f args) w:=by
 unfold lh at h;cases hf:P.funcs[f]? with
 |none=>rw[hf]at h;cases h
 |some fn=>
   rw[hf]at h;simp only[Zg,kae]at h;obtain⟨h1,h2⟩:=h;cases hb:fn.body with
   |none=>rw[hb]at h2;cases h2
   |some c=>
     have h1':¬fn.name = "runtime.NumGoroutine":=by simpa using h1
     simp[callFunc,hf,h1',hb]
def uW {P:qp}{m:Mp}{A:AW}{w:qz}(hs:jN m A w){o:qC}{n:Nat}{a:Fr}{ca:Act}(hf:sW m n a ca)(ho:ma n o=qj){k:qi->AW->Prop}(h:iJ P o.op (gZ a) A k){K:Act->qz->Prop}{Q:Exit->Act->qz->Prop}(hK:∀v A' m' w' yK,k v A'->jf m A w m' A' w'->sW m' n (d8 a o.dst v) yK->K yK w'):o.wp P ca w K Q:=by
 simp only[ma,Zg]at ho;obtain⟨ho1,ho2⟩:=ho;have hd:∀i,o.dst=qf i->i<n:=λi e=>by rw[e]at ho2;simpa using ho2
 have hr:∀x∈o.op.operands,bH m (gZ a x) (ca.eval x):=λx hx=>hf.eval (kaE.1 ho1 x hx);unfold iJ at h;split at h;rename_i v hv;obtain⟨v',h1,h2⟩:=aq_sound hs hr hv;unfold Oper.wp;rw[h2 w (Ext.refl w)];exact hK v A m w _ h (jf.refl hs) (hf.put hd h1);split at h;rename_i v A1 hv;obtain⟨v',w',m',h1,h2,h3⟩:=Rh hs hr hv;unfold Oper.wp;rcases h1 with h1|⟨h1,rfl⟩;rw[h1];exact hK v A1 m' w' _ h h2 ((hf.mono h2.ext).put hd h3);rw[h1];exact hK v A1 m' w' _ h h2 ((hf.mono h2.ext).put hd h3);unfold AB at h;split at h;rename_i c hc;split at h;rename_i x hx;split at h
 . rename_i f fs cs hfv;obtain⟨dT,h⟩:=h;have hxv:=hr x (by rw[hc];simp[kaX,Call.operands,hx]);rw[hfv]at hxv;generalize hg:ca.eval x=x' at hxv;cases hxv with
   |func _ hx1 hx2 hx3 hx4=>
     rename_i fs' uP;have Wn:(qR ca.eval o).run P w=qL (.enter f (fs'++c.args.map ca.eval++uP)) w:=by obtain⟨dst,op,ty,pos,after,guard⟩:=o;simp only at hc;subst hc;obtain⟨callee,args,argTypes⟩:=c;simp only at hx;subst hx;simp only[qR,resolve,hg,Deferred.ofValue,invoke,Zo,ZA,Zn,M2 dT]
     unfold Oper.wp;rw[Wn,Oper.upon_enter];have hargs:jE m (fs.toList++c.args.toList.map (gZ a)++cs.toList) (fs'++c.args.map ca.eval++uP).toList:=by simp only[Array.toList_append,Array.toList_map];refine(jE.append (jE.append ⟨by simpa using hx1,λi v v' h1 h2=>hx3 i v v' YC Yw⟩ ⟨by simp,λi v v' h1 h2=>?_⟩) ⟨by simpa using hx2,λi v v' h1 h2=>hx4 i v v' YC Yw⟩);simp only[Z6,kas]at h1 h2;obtain⟨q,h3,rfl⟩:=h1;obtain⟨q',h4,rfl⟩:=h2;rw[h3]at h4;injection h4 with h4;subst h4;refine hr q ?_;rw[hc];simp only[kaX,Call.operands,kbW];exact qB (kau.1 (kal h3))
     refine(h m w _ hs hargs).mono ?_;rintro e w'⟨v,v',m',A',rfl,ev,hv,hk⟩;exact hK v A' m' w' _ hk ev ((hf.mono ev.ext).put hd hv)
 exact h.elim;exact h.elim;exact h.elim
def iX (bf:Array qC)(a:Fr)(o:qC):Bool:=
 match o.guard with
 |none=>qj
 |some (j,want)=>
   match (bf[j]?).bind (·.dst) with
   |some d=>
     match a d with
     | .bool b=>b == want
     |_=>qn
   |none=>qn
def wZ {m:Mp}{n:Nat}{a:Fr}{ca:Act}(hf:sW m n a ca){bf:Array qC}(Bo:bf.all (ma n)=qj)(o:qC):
 Region.wanted o (yielded bf ca.tmps)=iX bf a o:=by
 unfold Region.wanted iX;cases o.guard with
 |none=>rfl
 |some g=>
   obtain⟨j,want⟩:=g;simp only[yielded];cases hj:bf[j]? with
   |none=>simp
   |some oj=>
     simp only[Option.bind_some];cases hd:oj.dst with
     |none=>simp
     |some d=>simp only[Option.bind_some];have ki:=kaE.1 Bo oj (kaH hj);simp only[ma,hd,Zg,decide_eq_true_eq]at ki;have b9:d<ca.tmps.size:=(by rw[hf.size];exact ki.2);have hv:=hf.rel d ki.2;rw[Z8,ZQ b9,Option.getD_some]at hv;rw[ZQ b9];generalize a d=x at hv ⊢;generalize ca.tmps[d]=y at hv ⊢;cases hv<;>simp
def OB (P:qp)(bf:Array qC)(K:Fr->AW->Prop):List qC->Fr->AW->Prop
 |[],a,A=>K a A
 |o::dE,a,A=>
   if iX bf a o=qj then iJ P o.op (gZ a) A (λv A'=>OB P bf K dE (d8 a o.dst v) A')
   else OB P bf K dE (d8 a o.dst qE) A
def tR {P:qp}{bf:Array qC}{n:Nat}(Bo:bf.all (ma n)=qj){K:Fr->AW->Prop}{Q:Exit->Act->qz->Prop}:∀(l:List qC)(a:Fr)(A:AW)(m:Mp)(w:qz)(ca:Act),
 (∀o∈l,ma n o=qj)->OB P bf K l a A->jN m A w->sW m n a ca->
 (∀a' A' m' w' yK,K a' A'->jf m A w m' A' w'->sW m' n a' yK->Q qG yK w')->wpList P bf Q l ca w
 |[],a,A,m,w,ca,_,h,hs,hf,hK=>hK a A m w ca h (jf.refl hs) hf
 |o::dE,a,A,m,w,ca,hl,h,hs,hf,hK=>by
   unfold OB at h;unfold wpList;rw[wZ hf Bo o];split at h;rename_i hg;rw[az hg];refine qw (uW hs hf (hl o Yb) h ?_);intro v A' m' w' yK hk ev IU;exact tR Bo dE _ _ m' w' yK (λx hx=>hl x Yu) hk ev.vL IU (λa2 A2 m2 w2 ca2 h1 h2 h3=>hK a2 A2 m2 w2 ca2 h1 (ev.trans h2) h3);rename_i hg;rw[ar hg];have ho:=hl o Yb;simp only[ma,Zg]at ho;have hd:∀i,o.dst=qf i->i<n:=λi e=>by have:=ho.2;rw[e]at this;simpa using this
   exact tR Bo dE _ _ m w _ (λx hx=>hl x Yu) h hs (hf.put hd (bH.undef m)) hK
def df (P:qp)(n:Nat)(c:Code)(Q:Exit->Fr->AW->Prop)(a:Fr)(A:AW):Prop:=
 mg n c=qj->∀(m:Mp)(w:qz)(ca:Act),jN m A w->sW m n a ca->
  c.wp P (λe yK w'=>∃m' a' A',jf m A w m' A' w'/\sW m' n a' yK/\Q e a' A') ca w
section
variable {P:qp} {n:Nat} {Q:Exit->Fr->AW->Prop} {a:Fr} {A:AW}
def An {c:Code}{Q':Exit->Fr->AW->Prop}(h:df P n c Q a A)(hq:∀e a A,Q e a A->Q' e a A):df P n c Q' a A:=
 λki m w ca hs hf=>wp_mono (h ki m w ca hs hf) λe yK w' ⟨m',a',A',h1,h2,h3⟩=>⟨m',a',A',h1,h2,hq _ _ _ h3⟩
def Jx {id:Nat}{bf:Array qC}(h:OB P bf (Q qG) bf.toList a A):df P n (.region id bf qn) Q a A:=by intro ki m w ca hs hf;have Bo:bf.all (ma n)=qj:=ki;refine wp_region_list (tR Bo _ _ _ m w ca (λo ho=>kaE.1 Bo o (kau.1 ho)) h hs hf ?_);intro a' A' m' w' yK hk ev IU;exact⟨m',a',A',ev,IU,hk⟩
def Q3 (h:Q qG a A):df P n .skip Q a A:=λ_ m w ca hs hf=>wp_skip ⟨m,a,A,jf.refl hs,hf,h⟩
def Q5 {id:Nat}(h:Q (.exit id) a A):df P n (.exit id) Q a A:=λ_ m w ca hs hf=>wp_exit ⟨m,a,A,jf.refl hs,hf,h⟩
def N7 (h:Q .ret a A):df P n .ret Q a A:=λ_ m w ca hs hf=>wp_ret ⟨m,a,A,jf.refl hs,hf,h⟩
def aT (next:Fr->AW->Prop)(Q:Exit->Fr->AW->Prop):Exit->Fr->AW->Prop
 |qG,a,A=>next a A
 |e,a,A=>Q e a A
def aU {x y:Code}(h:df P n x (aT (df P n y Q) Q) a A):df P n (.seq x y) Q a A:=by
 intro ki m w ca hs hf;simp only[mg,Zg]at ki;refine wp_seq (wp_mono (h ki.1 m w ca hs hf) ?_);rintro e yK w'⟨m',a',A',ev,IU,hq⟩;cases e with
 |normal=>refine wp_mono (hq ki.2 m' w' yK ev.vL IU) ?_;rintro e ca2 w2⟨m2,a2,A2,NQ,IT,L0⟩;exact⟨m2,a2,A2,ev.trans NQ,IT,L0⟩
 |exit id=>exact⟨m',a',A',ev,IU,hq⟩
 |goto l=>exact⟨m',a',A',ev,IU,hq⟩
 |ret=>exact⟨m',a',A',ev,IU,hq⟩
 |panic ch=>exact⟨m',a',A',ev,IU,hq⟩
 |outgrown=>exact⟨m',a',A',ev,IU,hq⟩
def Jy {c:qA}{x y:Code}{b:Bool}(hc:gZ a c=.bool b)(h1:b=qj->df P n x Q a A)(h2:b=qn->df P n y Q a A):df P n (.cond c x y) Q a A:=by intro ki m w ca hs hf;simp only[mg,Zg]at ki;have hv:=hf.eval ki.1.1;rw[hc]at hv;generalize hg:ca.eval c=x' at hv;cases hv;exact wp_cond_split hg (λe=>h1 e ki.1.2 m w ca hs hf) (λe=>h2 e ki.2 m w ca hs hf)
def b6 (id:Nat)(Q:Exit->Fr->AW->Prop):Exit->Fr->AW->Prop
 | .exit id',a,A=>if id'=id then Q qG a A else Q (.exit id') a A
 |e,a,A=>Q e a A
def Me {id:Nat}{c:Code}(h:df P n c (b6 id Q) a A):df P n (.block id c) Q a A:=by
 intro ki m w ca hs hf;refine wp_block (wp_mono (h ki m w ca hs hf) ?_);rintro e yK w'⟨m',a',A',ev,IU,hq⟩;cases e with
 |exit id'=>simp only[Exit.inBlock];simp only[b6]at hq;split;rename_i e;rw[az e]at hq;exact⟨m',a',A',ev,IU,hq⟩;rename_i e;rw[ar e]at hq;exact⟨m',a',A',ev,IU,hq⟩
 |normal=>exact⟨m',a',A',ev,IU,hq⟩
 |goto l=>exact⟨m',a',A',ev,IU,hq⟩
 |ret=>exact⟨m',a',A',ev,IU,hq⟩
 |panic ch=>exact⟨m',a',A',ev,IU,hq⟩
 |outgrown=>exact⟨m',a',A',ev,IU,hq⟩
def dO {c:Code}(I:Nat->Fr->AW->Prop)(n₀:Nat)(h₀:I n₀ a A)(round:∀k a A,I k a A->df P n c (aT (λa' A'=>∃k',k'<k/\I k' a' A') Q) a A):df P n (.loop c) Q a A:=by
 intro ki m w ca hs hf;refine wp_loop_ghost (λk yK w'=>∃m' a' A',jf m A w m' A' w'/\sW m' n a' yK/\I k a' A') n₀ ⟨m,a,A,jf.refl hs,hf,h₀⟩ ?_;rintro k yK w'⟨m',a',A',ev,IU,hI⟩;refine wp_mono (round k a' A' hI ki m' w' yK ev.vL IU) ?_;rintro e ca2 w2⟨m2,a2,A2,NQ,IT,hq⟩;cases e with
 |normal=>obtain⟨k',b9,hI'⟩:=hq;exact⟨k',b9,m2,a2,A2,ev.trans NQ,IT,hI'⟩
 |exit id=>exact⟨m2,a2,A2,ev.trans NQ,IT,hq⟩
 |goto l=>exact⟨m2,a2,A2,ev.trans NQ,IT,hq⟩
 |ret=>exact⟨m2,a2,A2,ev.trans NQ,IT,hq⟩
 |panic ch=>exact⟨m2,a2,A2,ev.trans NQ,IT,hq⟩
 |outgrown=>exact⟨m2,a2,A2,ev.trans NQ,IT,hq⟩
end
def aS (P:qp)(a:Fr)(A:AW):ResultVar->Option qi
 | .tmp t=>qf (a t)
 | .cell p t=>
   match a p with
   | .pointer (qf q)=>ja P A t q
   |_=>qk
def aR (P:qp)(a:Fr)(A:AW):List ResultVar->Option (List qi)
 |[]=>qf []
 |r::rs=>
   match aS P a A r,aR P a A rs with
   |some v,qf vs=>qf (v::vs)
   |_,_=>qk
def bA (P:qp)(a:Fr)(A:AW)(rs:List ResultVar):Option qi:=
 match aR P a A rs with
 |some [v]=>qf v
 |some vs=>qf (.tuple vs.toArray)
 |none=>qk
def H3 (n:Nat):ResultVar->Bool
 | .tmp t=>decide (t<n)
 | .cell p _=>decide (p<n)
def M4 (tmps:Array qi):ResultVar->Sem qi
 | .tmp t=>pure (tmps.getD t qE)
 | .cell a t=>do loadVar t (<-asAddr (tmps.getD a qE))
def R6 (fn:Func)(tmps:Array qi):
 results fn tmps=(fn.results.mapM (M4 tmps) >>= λvs=>pure (if h:vs.size=1 then vs[0]else .tuple vs):Sem qi):=by unfold results;congr 2
def Q7 {P:qp}{m:Mp}{A:AW}{w:qz}(hs:jN m A w){n:Nat}{a:Fr}{ca:Act}(hf:sW m n a ca){r:ResultVar}(ki:H3 n r=qj){v:qi}(h:aS P a A r=qf v):
 ∃v',bH m v v'/\(M4 ca.tmps r).run P w=qL v' w:=by
 cases r with
 |tmp t=>injection h with h;subst h;exact⟨_,hf.rel t (by simpa[H3]using ki),rfl⟩
 |cell p t=>
   simp only[aS]at h;split at h
   . rename_i q hq;have hv:=hf.rel p (by simpa[H3]using ki);rw[hq]at hv;generalize hg:ca.tmps.getD p qE=x' at hv;cases hv with
     |G0 ha=>obtain⟨v',h1,h2⟩:=Re (P:=P) hs h ha;refine⟨v',h2,?_⟩;simp only[M4,hg,asAddr,Zo,ZA,Zn,h1]
   cases h
def Gn {P:qp}{m:Mp}{A:AW}{w:qz}(hs:jN m A w){n:Nat}{a:Fr}{ca:Act}(hf:sW m n a ca):∀(rs:List ResultVar)(vs:List qi),rs.all (H3 n)=qj->
 aR P a A rs=qf vs->∃FA,jE m vs FA/\(rs.mapM (M4 ca.tmps)).run P w=qL FA w
 |[],vs,_,h=>by injection h with h;subst h;exact⟨[],.nil,rfl⟩
 |r::rs,vs,ki,h=>by unfold aR at h;simp only[List.all_cons,Zg]at ki;split at h;rename_i v vs1 hv SO;injection h with h;subst h;obtain⟨v',h1,h2⟩:=Q7 (P:=P) hs hf ki.1 hv;obtain⟨FA,h3,h4⟩:=Gn hs hf rs vs1 ki.2 SO;refine⟨v'::FA,.cons h1 h3,?_⟩;simp only[List.mapM_cons,Zo,h2,Zn,h4,ZA];cases h
def TQ {P:qp}{m:Mp}{A:AW}{w:qz}(hs:jN m A w){fn:Func}{n:Nat}{a:Fr}{ca:Act}(hf:sW m n a ca)(ki:fn.results.toList.all (H3 n)=qj){v:qi}(h:bA P a A fn.results.toList=qf v):∃v',bH m v v'/\(results fn ca.tmps).run P w=qL v' w:=by
 unfold bA at h;cases hl:aR P a A fn.results.toList with
 |none=>rw[hl]at h;cases h
 |some vs=>
   obtain⟨FA,h1,h2⟩:=Gn (P:=P) hs hf _ _ ki hl;have h3:=zh (P:=P) _ fn.results FA h2;rw[hl]at h;have Wn:∀(x:qi),(if h:FA.toArray.size=1 then FA.toArray[0]else .tuple FA.toArray)=x->(results fn ca.tmps).run P w=qL x w:=λx e=>by rw[R6,Zo,h3];simp only[Zn,ZA,e]
   split at h;rename_i u hu;injection hu with hu;injection h with h;subst hu;subst h;obtain⟨v',t',rfl,hv,ht⟩:=h1.nP;have:=ht.tt;subst this;exact⟨v',hv,Wn v' Yb⟩;rename_i us fL hu;injection hu with hu;injection h with h;subst hu;subst h;refine⟨.tuple FA.toArray,.tuple (by simpa using h1.1) (λi x x' e1 e2=>h1.2 i x x' (by simpa using e1) (by simpa using e2)),Wn _ ?_⟩;rw[dif_neg];intro e;have e1:U FA=1:=by simpa using e
   rw[<-h1.1]at e1;obtain⟨x,rfl⟩:=List.length_eq_one_iff.1 e1;exact fL x rfl;rename_i hu;cases hu
def DQ (args:List qi):Fr:=λi=>args.getD i qE
def NJ (fn:Func)(nargs:Nat):Bool:=
 decide (nargs<=fn.ntmps) && !(fn.name == "runtime.NumGoroutine") && fn.results.toList.all (H3 fn.ntmps) && (match fn.body with|some c=>mg fn.ntmps c|none=>qn)
def aX (P:qp)(fn:Func)(R:qi->AW->Prop):Exit->Fr->AW->Prop
 |qG,a,A=>∃v,bA P a A fn.results.toList=qf v/\R v A
 | .ret,a,A=>∃v,bA P a A fn.results.toList=qf v/\R v A
 |_,_,_=>False
def Et {P:qp}{f:qN}{fn:Func}{c:Code}{args:List qi}{A:AW}{R:qi->AW->Prop}(hf:P.funcs[f]?=qf fn)(hb:fn.body=qf c)(ki:NJ fn (U args)=qj)(h:df P fn.ntmps c (aX P fn R) (DQ args) A):aE P f args A R:=by
 simp only[NJ,hb,Zg,decide_eq_true_eq,kae]at ki;obtain⟨⟨⟨h1,h2⟩,h3⟩,h4⟩:=ki;refine⟨by simp[lh,hf,h2,hb],λm w iE hs hl=>?_⟩;refine calls_of_wp hf hb (wp_mono (h h4 m w _ hs ?_) ?_);have uo:iE.size=U args:=by have:=hl.1;simp at this;omega
 refine⟨by simp[uo];omega,rfl,λi hi=>?_,hs.w5⟩;simp only[DQ,Ze,Z8];by_cases b9:i<U args;have e1:=Zf b9;have hlt':i<iE.size:=Ya
 have e2:iE.toList[i]?=qf iE[i]:=by simp[hlt']
 rw[e1,kcb hlt',ZQ hlt'];exact hl.2 i _ _ e1 e2;rw[ZL Ya,Array.getElem?_append_right Ya];simp only[Option.getD_none];rw[Array.getElem?_replicate];split;exact bH.undef m;exact bH.undef m;rintro e yK w'⟨m',a',A',ev,IU,hq⟩
 have bZ:∀(hx:∃v,bA P a' A' fn.results.toList=qf v/\R v A'),yK.defers=[]/\∃v,(results fn yK.tmps).run P w'=qL v w'/\
  ∃v0 v' m' A',Ending.returned v=.returned v'/\jf m A w m' A' w'/\bH m' v0 v'/\R v0 A':=by rintro ⟨v,hv,hR⟩;obtain⟨v',h5,h6⟩:=TQ ev.vL IU h3 hv;exact⟨IU.defers,v',h6,v,v',m',A',rfl,ev,h5,hR⟩
 cases e with
 |normal=>exact bZ hq
 |ret=>exact bZ hq
 |exit id=>exact hq.elim
 |goto l=>exact hq.elim
 |panic ch=>exact hq.elim
 |outgrown=>exact hq.elim
def jN.lI {m:Mp}{A:AW}{w:qz}(hs:jN m A w){g:Nat}{cs:List qi}{ik:Array qi}{e:qy}{fr:Nat×Nat}(hg:Gl.ok g=qj)(hB:Gl.B g=qf (.cells ik e fr))(hc:∀(k:Nat)(v:qi),cs[k]?=qf v->ik[k]?=qf v/\fJ v=qj):jN m (A.set g (qf (.cells cs qn 1))) w/\∀i o p,A.bk i=qf o->o.own=qj->m i=qf p->i≠g:=by
 have hmg:=hs.w5 g hg;have fL:∀i o p,A.bk i=qf o->o.own=qj->m i=qf p->i≠g:=λi o p hi ho hm e=>by subst e;rw[hmg]at hm;injection hm with hm;have:=hs.yP i o _ hi ho hmg;rw[hB]at this;cases this
 have b9:g<A.next:=by rcases Nat.lt_or_ge g A.next with h|h;exact h;rw[hs.nS g h]at hmg;cases hmg
 have eD:∀{i o},(A.set g (qf (.cells cs qn 1))).bk i=qf o->i≠g->A.bk i=qf o:=λ{i o} h hi=>by rwa [AW.bh hi]at h
 have nF:∀{i o},(A.set g (qf (.cells cs qn 1))).bk i=qf o->o.own=qj->i≠g:=λ{i o} h ho e=>by subst e;rw[AW.cM]at h;injection h with h;subst h;cases ho
 refine⟨⟨?_,?_,hs.nS,?_,hs.laid,?_,hs.w5⟩,fL⟩;intro i o hi;by_cases e1:i=g;subst e1;rw[AW.cM]at hi;injection hi with hi;subst hi;refine⟨_,hmg,ik,e,fr,hs.laid _ _ hB,λh=>YD,rfl,by simp[Tf,hB],λk v hv=>?_⟩;obtain⟨h1,h2⟩:=hc k v hv;exact⟨v,by rw[kag];exact h1,.kZ h2 m⟩;exact hs.Dv i o (eD hi e1);intro i j o o' p p' hi ho hj hij hpi hpj;have ww:=eD hi (nF hi ho);by_cases e1:j=g;subst e1;rw[hmg]at hpj;injection hpj with hpj;subst hpj;intro e2;have:=hs.yP i o p ww ho hpi;rw[e2]at this;rw[hB]at this;cases this;exact hs.inj i j o o' p p' ww ho (eD hj e1) hij hpi hpj;intro i hi;have xj:A.next<=i:=hi;rw[AW.bh Ya];exact hs.tO i xj;intro i o p hi ho hm;exact hs.yP i o p (eD hi (nF hi ho)) ho hm
def aE.lI {P:qp}{f:qN}{args:List qi}{A:AW}{g:Nat}{cs:List qi}{ik:Array qi}{e:qy}{fr:Nat×Nat}(hg:Gl.ok g=qj)(hB:Gl.B g=qf (.cells ik e fr))(hc:∀(k:Nat)(v:qi),cs[k]?=qf v->ik[k]?=qf v/\fJ v=qj){R:qi->AW->Prop}(h:aE P f args (A.set g (qf (.cells cs qn 1))) R):aE P f args A R:=by
 refine⟨h.1,λm w iE hs hl=>?_⟩;obtain⟨CD,fL⟩:=hs.lI hg hB hc;have own:∀b,Ox m (A.set g (qf (.cells cs qn 1))) b↔Ox m A b:=λb=>by constructor;rintro ⟨i,o,p,hi,ho,hm,hb⟩;by_cases e1:i=g;subst e1;rw[AW.cM]at hi;injection hi with hi;subst hi;cases ho;rw[AW.bh e1]at hi;exact⟨i,o,p,hi,ho,hm,hb⟩;rintro ⟨i,o,p,hi,ho,hm,hb⟩;exact⟨i,o,p,by rw[AW.bh (fL i o p hi ho hm)];exact hi,ho,hm,hb⟩
 have UU:∀b,yM m (A.set g (qf (.cells cs qn 1))) b->yM m A b\/Gl.B b≠qk:=by rintro b⟨i,o,p,hi,hm,hb⟩;by_cases e1:i=g;subst e1;rw[hs.w5 i hg]at hm;injection hm with hm;subst hm;exact qB (by rw[<-hb];show Gl.B i≠qk;rw[hB];exact kbB _);rw[AW.bh e1]at hi;exact qw ⟨i,o,p,hi,hm,hb⟩
 refine(h.2 m w iE CD hl).mono ?_;rintro e' w'⟨v,v',m',A',rfl,ev,hv,hR⟩;exact⟨v,v',m',A',rfl,⟨ev.ext,ev.vL,ev.next,ev.os,ev.tape,ev.output,ev.size,λb hb ho=>ev.sD b hb (λh=>ho ((own b).1 h)),λb hb=>(ev.grow b hb).imp (own b).1 id,ev.jp,λb hb=>match ev.Km b hb with |qw h1=>(UU b h1).imp id qB |qB h1=>qB h1⟩,hv,hR⟩
end Go.Stx
namespace Go.Stx
open Go
variable [Gl]
def dt.ro:dt->dt
 | .cells cs _ u=>.cells cs qn u
 | .map es _=>.map es qn
def dt.R5 (o:dt):o.ro.own=qn:=by cases o<;>rfl
def iH.ro {m:Mp}{w:qz}{p:Pl}{o:dt}(h:iH m w p o):iH m w p o.ro:=by
 cases o with
 |cells cs own u=>obtain⟨ik,e,fr,h2,h3,h4⟩:=h;exact⟨ik,e,fr,h2,λh=>YD,h4⟩
 |map es own=>exact h
def AW.ro (A:AW):AW:={ A with bk:=λi=>(A.bk i).map dt.ro }
def AW.M3 {A:AW}{i:Nat}{o:dt}(h:A.ro.bk i=qf o):∃o',A.bk i=qf o'/\o=o'.ro:=by simp only[AW.ro,kas]at h;obtain⟨o',h1,h2⟩:=h;exact⟨o',h1,h2.symm⟩
def jN.ro {m:Mp}{A:AW}{w:qz}(hs:jN m A w):jN m A.ro w:=by refine⟨λi o hi=>?_,λi j o o' p p' hi ho=>?_,hs.nS,λi hi=>?_,hs.laid,λi o p hi ho=>?_,hs.w5⟩;obtain⟨o',hg,rfl⟩:=AW.M3 hi;obtain⟨p,h1,h2⟩:=hs.Dv _ _ hg;exact⟨p,h1,h2.ro⟩;obtain⟨o',hg,rfl⟩:=AW.M3 hi;rw[dt.R5]at ho;cases ho;simp[AW.ro,hs.tO i hi];obtain⟨o',hg,rfl⟩:=AW.M3 hi;rw[dt.R5]at ho;cases ho
structure Lr (w w':World):Prop where
 ext:Ext w w'
 os:w'.os=w.os
 tape:w'.tape=w.tape
 output:w'.output=w.output
 size:w.heap.size<=w'.heap.size
def Lr.refl (w:qz):Lr w w:=⟨Ext.refl w,rfl,rfl,rfl,Za _⟩
def Lr.evo {m:Mp}{A:AW}{w w':qz}(hs:jN m A w)(h:Lr w w'):jf m A w m A w':=
 ⟨Mp.le_refl m,h.ext.vL hs,Za _,h.os,h.tape,h.output,h.size,λb hb _=>h.ext b hb,λ_ h=>qw h,λ_ _=>rfl,λ_ h=>qw h⟩
def Lr.drew (w:qz):Lr w w.drew:=⟨λ_ _=>rfl,rfl,rfl,rfl,Za _⟩
def AA (P:qp)(f:qN)(args:List qi)(A:AW)(v:qi):Prop:=
 lh P f=qj/\fJ v=qj/\∀(m:Mp)(w:qz)(iE:Array qi),jN m A w->jE m args iE.toList->Calls P f iE w λe w'=>e=.returned v/\Lr w w'
def bH.pE {m:Mp}{v v':qi}(hv:fJ v=qj)(h:bH m v v'):v'=v:=by cases h<;>first|rfl|(simp[fJ]at hv;done)
def AA.of_call {P:qp}{f:qN}{args:List qi}{A:AW}{v:qi}(hv:fJ v=qj)(h:aE P f args A.ro λv' _=>v'=v):AA P f args A v:=by refine⟨h.1,hv,λm w iE hs hl=>(h.2 m w iE hs.ro hl).mono ?_⟩;rintro e w'⟨u,u',m',A',rfl,ev,hr,rfl⟩;have:=hr.pE hv;subst this;refine⟨rfl,⟨λb hb=>ev.sD b hb ?_,ev.os,ev.tape,ev.output,ev.size⟩⟩;rintro ⟨i,o,p,hi,AT,_⟩;obtain⟨o',_,rfl⟩:=AW.M3 hi;rw[dt.R5]at AT;cases AT
def AA.call {P:qp}{f:qN}{args:List qi}{A:AW}{v:qi}(h:AA P f args A v){R:qi->AW->Prop}(hR:R v A):aE P f args A R:=by refine⟨h.1,λm w iE hs hl=>(h.2.2 m w iE hs hl).mono ?_⟩;rintro e w'⟨rfl,hk⟩;exact⟨v,v,m,A,rfl,hk.evo hs,.kZ h.2.1 m,hR⟩
def APureK (P:qp)(op:Op)(r:qA->qi)(A:AW)(k:qi->Prop):Prop:=
 match op with
 |qW c=>
   match c.callee with
   | .value x=>
     match r x with
     | .func (.func f) fs cs=>∃v,AA P f (fs.toList++c.args.toList.map r++cs.toList) A v/\k v
     |_=>False
   |_=>False
 |_=>False
def AQStep (P:qp)(op:Op)(r:qA->qi)(A:AW)(k:qi->Prop):Prop:=
 match aq P A r op with
 |some v=>k v
 |none=>APureK P op r A k
end Go.Stx
namespace Go.Stx
open Go
variable [Gl]
@[simp] def upd_apply (a:Fr)(i j:Nat)(v:qi):mu a i v j=if j=i then v else a j:=rfl
@[simp] def initF_zero (v:qi)(l:List qi):DQ (v::l) 0=v:=rfl
@[simp] def initF_succ (v:qi)(l:List qi)(i:Nat):DQ (v::l) (i+1)=DQ l i:=rfl
@[simp] def putF_some (a:Fr)(i:Nat)(v:qi):d8 a (qf i) v=mu a i v:=rfl
@[simp] def putF_none (a:Fr)(v:qi):d8 a qk v=a:=rfl
@[simp] def evF_tmp (a:Fr)(t:Nat):gZ a (.tmp t)=a t:=rfl
@[simp] def evF_const (a:Fr)(v:qi):gZ a (.const v)=v:=rfl
@[simp] def evF_func (a:Fr)(f:qN):gZ a (.func f)=.func (.func f) #[] #[]:=rfl
@[simp] def cells_int (k:qD)(n:Int):(Zl k n).cells = #[.int k n]:=rfl
@[simp] def cells_bool (b:Bool):(Value.bool b).cells = #[.bool b]:=rfl
@[simp] def cells_string (s:ByteArray):(Value.string s).cells = #[.string s]:=rfl
@[simp] def cells_pointer (a:Option qM):(Value.pointer a).cells = #[.pointer a]:=rfl
@[simp] def cells_slice (a:Option qM)(n c:Nat):(Value.slice a n c).cells = #[.slice a n c]:=rfl
@[simp] def cells_map (r:Option Nat):(Value.map r).cells = #[.map r]:=rfl
@[simp] def cells_func (fn:Fn)(x y:Array qi):(Value.func fn x y).cells = #[.func fn x y]:=rfl
@[simp] def cells_nilFunc:Value.nilFunc.cells = #[.nilFunc]:=rfl
@[simp] def cells_nilIface:Value.nilIface.cells = #[.nilIface]:=rfl
@[simp] def cells_iface (t:qy)(v:qi):(Value.iface t v).cells = #[.iface t v]:=rfl
@[simp] def cells_agg (cs:Array qi):(Value.agg cs).cells=cs:=rfl
attribute [simp] dS Gq fH pH mO CW JQ Fm El fJ yc
attribute [simp] oQ uH JK IC ja JL uJ apart Ap uL mM Rl TT uG
attribute [simp] Rm Ei Bf uF fv fy uE lU CU yp tQ Ar
attribute [simp] iJ AQStep aq ae aT b6 aX bA aR aS abin GS Nu aun Rj
@[simp] def FO (k0 k:qD)(a b:Int):Z7 (.int k0) (.int k a) (.int k b)=qf (a == b):=by simp[Z7]
@[simp] def OA (K:Fr->AW->Prop)(Q:Exit->Fr->AW->Prop):aT K Q qG=K:=rfl
structure SOp where
 dst:Option Tmp
 op:Op
 guard:Option (Option Tmp×Bool)
def ml (bf:Array qC)(g:Option (Nat×Bool)):Option (Option Tmp×Bool):=g.map λx=>((bf[x.1]?).bind (·.dst),x.2)
def sg (a:Fr)(g:Option (Option Tmp×Bool)):Bool:=
 match g with
 |none=>qj
 |some (qf d,want)=>
   match a d with
   | .bool b=>b == want
   |_=>qn
 |some (qk,_)=>qn
def Pc (bf:Array qC)(a:Fr)(o:qC):iX bf a o=sg a (ml bf o.guard):=by
 unfold iX sg ml;cases o.guard with
 |none=>rfl
 |some g=>obtain⟨j,want⟩:=g;simp only[kaR];cases (bf[j]?).bind (·.dst)<;>rfl
def iJ.mono {P:qp}{op:Op}{r:qA->qi}{A:AW}{k k':qi->AW->Prop}(h:∀v A',k v A'->k' v A')(hh:iJ P op r A k):iJ P op r A k':=by unfold iJ at *;split at hh;exact h _ _ hh;split at hh;exact h _ _ hh;unfold AB at *;split at hh;split at hh;split at hh;exact hh.mono h;exact hh;exact hh;exact hh
attribute [simp] sg
def ite_both {c:Prop}[Decidable c]{p q:Prop}(h1:c->p)(h2:¬c->q):if c then p else q:=by split;exact h1 ‹_›;exact h2 ‹_›
def AW.Wf (A:AW):Prop:=∀i,A.next<=i->A.bk i=qk
def AW.Wf.lt {A:AW}(h:A.Wf){i:Nat}{o:dt}(hg:A.bk i=qf o):i<A.next:=by rcases Nat.lt_or_ge i A.next with h1|h1;exact h1;rw[h i h1]at hg;cases hg
@[simp] def AW.bn (A:AW)(o:dt):(A.alloc o).next=A.next+1:=rfl
@[simp] def AW.lN (A:AW)(i:Nat)(o:Option dt):(A.set i o).next=A.next:=rfl
@[simp] def AW.cD (A:AW)(o:dt):(A.alloc o).bk A.next=qf o:=by simp[AW.alloc]
def AW.gJ (A:AW)(o:dt){i:Nat}(h:i≠A.next):(A.alloc o).bk i=A.bk i:=by simp[AW.alloc,h]
@[simp] def AW.set_get_eq (A:AW)(i:Nat)(o:Option dt):(A.set i o).bk i=o:=AW.cM
def AW.ES {A:AW}{i:Nat}{cs:List qi}{own:Bool}{u:Nat}(h:A.bk i=qf (.cells cs own u)):A.bO i=qf cs:=by simp[AW.bO,h]
def AW.Wf.alloc {A:AW}(h:A.Wf)(o:dt):(A.alloc o).Wf:=λi hi=>by simp only[AW.bn]at hi;rw[AW.gJ _ _ Ya];exact h i Ya
def AW.Wf.set {A:AW}(h:A.Wf){i:Nat}(o:Option dt)(hi:i<A.next):(A.set i o).Wf:=λj hj=>by simp only[AW.lN]at hj;rw[AW.bh Ya];exact h j hj
structure AW.le (A A':AW):Prop where
 next:A.next<=A'.next
 bk:∀i,i<A.next->A'.bk i=A.bk i
def AW.le.refl (A:AW):A.le A:=⟨Za _,λ_ _=>rfl⟩
def AW.le.trans {A B C:AW}(h:A.le B)(k:B.le C):A.le C:=⟨ZE h.next k.next,λi hi=>(k.bk i (kaq hi h.next)).trans (h.bk i hi)⟩
def AW.le.alloc (A:AW)(o:dt):A.le (A.alloc o):=⟨by simp,λi hi=>AW.gJ _ _ Ya⟩
def AW.le.set {A B:AW}(h:A.le B){i:Nat}(hi:A.next<=i)(o:Option dt):A.le (B.set i o):=
 ⟨h.next,λj hj=>by rw[AW.bh Ya];exact h.bk j hj⟩
def AW.le.jp {A B:AW}(h:A.le B)(hw:A.Wf){i:Nat}{o:dt}(hg:A.bk i=qf o):B.bk i=qf o:=by rw[h.bk i (hw.lt hg)];exact hg
def aE.wf {P:qp}{f:qN}{args:List qi}{A:AW}{R:qi->AW->Prop}(h:aE P f args A R):aE P f args A (λv A'=>R v A'/\A'.Wf/\A.next<=A'.next):=
 ⟨h.1,λm w iE hs hl=>(h.2 m w iE hs hl).mono λ_ _ ⟨v,v',m',A',h1,h2,h3,h4⟩=>⟨v,v',m',A',h1,h2,h3,h4,h2.vL.tO,h2.next⟩⟩
def Gy {P:qp}{f:qN}{fn:Func}{c:Code}{args:List qi}{A:AW}{R:qi->AW->Prop}(hf:P.funcs[f]?=qf fn)(hb:fn.body=qf c)(ki:NJ fn (U args)=qj)(h:A.Wf->df P fn.ntmps c (aX P fn R) (DQ args) A):aE P f args A R:=by
 have dT:lh P f=qj:=by simp only[NJ,hb,Zg,decide_eq_true_eq,kae]at ki;simp[lh,hf,ki.1.1.2,hb]
 exact⟨dT,λm w iE hs hl=>(Et hf hb ki (h hs.tO)).2 m w iE hs hl⟩
def bT {P:qp}{f:qN}{args:List qi}{A:AW}{R k:qi->AW->Prop}(h:aE P f args A R)(hk:∀v A',R v A'->A'.Wf->A.next<=A'.next->k v A'):aE P f args A k:=
 h.wf.mono λv A' ⟨h1,h2,h3⟩=>hk v A' h1 h2 h3
@[congr] def ACall_congr {P:qp}{f:qN}{args Q6:List qi}{A:AW}{R:qi->AW->Prop}(h:args=Q6):aE P f args A R=aE P f Q6 A R:=by rw[h]
@[congr] def APure_congr {P:qp}{f:qN}{args Q6:List qi}{A:AW}{v:qi}(h:args=Q6):AA P f args A v=AA P f Q6 A v:=by rw[h]
@[simp] def ACallK_call (P:qp)(x:qA)(args:Array qA)(ts:Array qy)(r:qA->qi)(A:AW)(k:qi->AW->Prop):
 AB P (qW ⟨.value x,args,ts⟩) r A k=match r x with
  | .func (.func f) fs cs=>aE P f (fs.toList++args.toList.map r++cs.toList) A k
  |_=>False:=rfl
@[simp] def APureK_call (P:qp)(x:qA)(args:Array qA)(ts:Array qy)(r:qA->qi)(A:AW)(k:qi->Prop):
 APureK P (qW ⟨.value x,args,ts⟩) r A k=match r x with
  | .func (.func f) fs cs=>∃v,AA P f (fs.toList++args.toList.map r++cs.toList) A v/\k v
  |_=>False:=rfl
def gW (A:AW)(size:Nat)(v:qi)(n:Nat)(cs:List qi):Prop:=
 ((∃o,v=.slice o 0 0)/\n=0/\cs=[]) \/
 ∃p c bO own u,v=.slice (qf p) n c/\n<=c/\A.bk p.block=qf (.cells bO own u)/\u=size/\p.off+n*size<=U bO/\cs=(bO.drop p.off).take (n*size)
def gW.length {A:AW}{size:Nat}{v:qi}{n:Nat}{cs:List qi}(h:gW A size v n cs):U cs=n*size:=by rcases h with ⟨_,rfl,rfl⟩|⟨p,c,bO,own,u,_,_,_,_,h1,rfl⟩;simp;simp;omega
def gW.le {A B:AW}(hl:A.le B)(hw:A.Wf){size:Nat}{v:qi}{n:Nat}{cs:List qi}(h:gW A size v n cs):gW B size v n cs:=by rcases h with h|⟨p,c,bO,own,u,h1,h2,h3,h4⟩;exact qw h;exact qB ⟨p,c,bO,own,u,h1,h2,hl.jp hw h3,h4⟩
def b5 (A:AW)(k:qD)(v:qi)(l:List Int):Prop:=gW A 1 v (U l) (l.map (Zl k))
def b5.le {A B:AW}(hl:A.le B)(hw:A.Wf){k:qD}{v:qi}{l:List Int}(h:b5 A k v l):b5 B k v l:=gW.le hl hw h
def b5.nil (A:AW)(k:qD):b5 A k (.slice qk 0 0) []:=qw ⟨⟨qk,rfl⟩,rfl,rfl⟩
def gW.cL {A:AW}{size:Nat}{v:qi}{n:Nat}{cs:List qi}(h:gW A size v n cs):∃o c,v=.slice o n c/\n<=c:=by rcases h with ⟨⟨o,rfl⟩,rfl,_⟩|⟨p,c,_,_,_,rfl,h,_⟩;exact⟨_,_,rfl,Za _⟩;exact⟨_,_,rfl,h⟩
def b5.cases {A:AW}{k:qD}{v:qi}{l:List Int}(h:b5 A k v l):
 ((∃o,v=.slice o 0 0)/\l=[])\/∃p c bO own,v=.slice (qf p) (U l) c/\U l<=c/\A.bk p.block=qf (.cells bO own 1)/\p.off+U l<=U bO/\
   ∀j (hj:j<U l),bO[p.off+j]?=qf (.int k l[j]):=by
 rcases h with ⟨h1,h2,h3⟩|⟨p,c,bO,own,u,h1,h2,h3,h4,h5,h6⟩;exact qw ⟨h1,kab h2⟩;subst h4;rw[Nat.mul_one]at h5 h6;refine qB ⟨p,c,bO,own,h1,h2,h3,h5,λj hj=>?_⟩;have h7:(l.map (Zl k))[j]?=((bO.drop p.off).take (U l))[j]?:=by rw[h6]
 rw[Z6,Zf hj,kak hj,kam]at h7;exact h7.symm
def b5.cL {A:AW}{k:qD}{v:qi}{l:List Int}(h:b5 A k v l):∃o c,v=.slice o (U l) c/\U l<=c:=gW.cL h
def b5.at {A:AW}{k:qD}{o:Option qM}{c n:Nat}{l:List Int}(h:b5 A k (.slice o n c) l){i:Nat}(hi:i<U l):
 ∃p bO,o=qf p/\A.bO p.block=qf bO/\bO[p.off+i]?=qf (.int k l[i]):=by rcases h.cases with ⟨h1,rfl⟩|⟨p,c,bO,own,h1,_,hg,_,hr⟩;simp at hi;injection h1 with h1 h2 h3;exact⟨p,bO,h1,AW.ES hg,hr i hi⟩
end Go.Stx
