/-
 Parameters of the machine laws in the model's own world.
-/
import Derived.Lib.LaidU8
import Derived.Shelf.Vars
import Derived.LaidMore
import Derived.Test.YtipomeafemoelaaGreatDoorRows
import Derived.Deep.Slices
import Derived.Deep.Matrix
import Derived.SizedLaws
import Derived.Lib.SmallJoins
import Derived.Test.YtipomeafemoelaaGreatDoorG20
set_option linter.unusedVariables false
set_option linter.unusedSimpArgs false
set_option linter.unusedSectionVars false
set_option maxRecDepth 20000
set_option maxHeartbeats 4000000
open Array renaming getElem?_eq_some_iff->qr,getElem?_toList->kaD
open Go.DataW renaming trod->kbh,weights->ka9
open Go.Deep renaming intRow->kbt
open Go.Proofs.Tryz renaming prog->qa
open Go.Stx.AW.le renaming refl->qi
open Go.World renaming cell?->Z7
open List renaming ext_getElem?->kab,getElem?_eq_getElem->qk,getElem?_eq_none->qN,getElem?_eq_some_iff->qK,length_take->Zx,mem_append->qQ,mem_cons->qW,mem_range->qy
open Nat renaming le_refl->qf
open Option renaming map_some->qR
open Option.some renaming inj->Zs,injEq->qs
namespace Go.Stx
open Go Go.Proofs
attribute [local irreducible] c8 aY aD aO cK da
section
open Go.RowKit
theorem KP {α β:Type} {f:α->Option β}:∀(L:List α) (ys:List β),L.mapM f=some ys->∀x∈L,∃y,f x=some y
 | [],_,_,x,hx=>by simp at hx
 | a::L,ys,h,x,hx=>by
   rw [List.mapM_cons] at h;simp only [bind,Option.bind_eq_some_iff,pure,qs] at h;obtain⟨y,hy,zs,hz,_⟩:=h;rcases qW.1 hx with rfl|hx;exact⟨y,hy⟩;exact KP L zs hz x hx
theorem array5 {α:Type} {cs:Array α} (h:cs.size=5):∃c0 c1 c2 c3 c4,cs = #[c0,c1,c2,c3,c4]:=by
 obtain⟨l⟩:=cs
 match l,h with
 | [c0,c1,c2,c3,c4],_=>exact⟨c0,c1,c2,c3,c4,rfl⟩
theorem okWide_arr5 {P:Program} {W:World} {k e:TypeId} (hu:P.underlying k=some (.array 5 e)) (size:P.cellsOf k=5) {r:Reach} {b0:Nat} {v:Value} (h:Value.okWide P W r b0 k v):∃xs:Array Value,v=.agg xs/\xs.size=5:=by
 simp only [Value.okWide,hu] at h;obtain⟨cs,h1,h2,_⟩:=h;exact⟨cs,h1,by rw [h2,size]⟩
theorem open_arr5 {H:Type} {enc:TypeId×Value->H} {P:Program} {W:World} {base:Nat} {sp:Nat->Bool} {held:Bool} {k e:TypeId} {q:IntKind} (hu:P.underlying k=some (.array 5 e)) (he:P.underlying e=some (.int q)) (aK:P.cellsOf e=1) (size:P.cellsOf k=5)
 {xs:Array Value} (hn:xs.size=5) {d:DataW H} {ps:List MemPlace} (hd:DataW.Trod enc P W base sp held k (.agg xs) d ps):∃a0 a1 a2 a3 a4,xs = #[.int q a0,.int q a1,.int q a2,.int q a3,.int q a4]:=by
 obtain⟨c0,c1,c2,c3,c4,rfl⟩:=array5 hn;obtain⟨fuel,hf⟩:=hd;cases fuel with
 | zero=>simp [kbh] at hf
 | succ m=>
   rw [DataW.trod_step] at hf;unfold DataW.trodStep at hf;simp only [hu,Value.cells] at hf;rw [aA (by rw [size];rfl)] at hf;simp only [Option.map_eq_some_iff] at hf;obtain⟨ys,hy,_⟩:=hf;have hm:=KP _ ys hy;rw [aK] at hm;have g:∀i,i<5->∃a,([c0,c1,c2,c3,c4].drop (i*1)).take 1=[Value.int q a]:=λi hi=>by
    obtain⟨y,h1⟩:=hm i (qy.2 hi);obtain⟨a,h2,_⟩:=DataW.trod_int he h1;exact⟨a,h2⟩
   obtain⟨a0,e0⟩:=g 0 (by omega);obtain⟨a1,e1⟩:=g 1 (by omega);obtain⟨a2,e2⟩:=g 2 (by omega);obtain⟨a3,e3⟩:=g 3 (by omega);obtain⟨a4,e4⟩:=g 4 (by omega);simp at e0 e1 e2 e3 e4;subst e0 e1 e2 e3 e4;exact⟨a0,a1,a2,a3,a4,rfl⟩
theorem NO:(YtipomeafemoelaaGreatDoor.Rows.laid_strongtx_isa_forms:DataW Unit)=.agg (jX.map λx=>.agg [.lit (.string x.1),.lit (.string x.2)]):=by rfl
theorem E7 {W:World} (h:Lib.VarReads qa W "strongtx/isa.forms" YtipomeafemoelaaGreatDoor.Rows.laid_strongtx_isa_forms):∃e fr,W.heap[0]? = some (.cells gx.toArray e fr):=by
 rw [NO] at h;obtain⟨g,t,cs,fuel,p,hg,ht,hv,hd⟩:=h;have Bv:qa.globalNamed "strongtx/isa.forms" = some 0:=by kernel_rfl
 obtain rfl:=Zs (Bv.symm.trans hg);have ht0:(qa.globals[0]?).map (·.type)=some 242:=by kernel_rfl
 obtain rfl:=Zs (ht0.symm.trans ht);have hcs:∃e fr,W.heap[0]? = some (.cells cs e fr):=by
  unfold World.var? at hv;rw [Bv] at hv;simp only [Option.bind_some] at hv;split at hv;rename_i c e fr hh;injection hv with hv;subst hv;exact⟨e,fr,hh⟩;cases hv
 obtain⟨e,fr,hh⟩:=hcs;refine⟨e,fr,?_⟩;rw [hh];congr 2;obtain⟨xs,m,_,hx,hl,bX,hf⟩:=DataW.trod_array (P:=qa) (n:=18) (e:=241) Tryz.underlying242 hd;have c89:qa.cellsOf 241=2:=by kernel_rfl
 have c9:qa.cellsOf 9=1:=by kernel_rfl
 have c90:qa.cellsOf 242=36:=by kernel_rfl
 rw [c89] at hf;injection hx with hx _;injection hx with hx;have key:∀i (hi:i<18),cs.toList[i*2]? = some (.string (bs (jX.getD i ([],[])).1))/\cs.toList[i*2+1]? = some (.string (bs (jX.getD i ([],[])).2)):=by
  intro i hi;obtain⟨y,hy⟩:∃y,xs[i]? = some y:=⟨_,qk (by rw [bX];exact hi)⟩;have h1:=(hf i hi).trans hy;obtain⟨zs,m2,_,hz,JN,Tc,IW⟩:=DataW.trod_struct Tryz.underlying241 h1;have oK:∀i,i<2->∃y,zs[i]? = some y:=λi hi=>⟨_,qk (by rw [Tc];exact hi)⟩;obtain⟨z0,d0⟩:=oK 0 (by omega);obtain⟨z1,d1⟩:=oK 1 (by omega);have r0:kbh (λ_=>()) qa W 0 (λ_=>true) false m2 9 ((((cs.toList.drop (i*2)).take 2).drop 0).take (qa.cellsOf 9))=some z0:=(IW 0 _ rfl).trans d0;have r1:kbh (λ_=>()) qa W 0 (λ_=>true) false m2 9 ((((cs.toList.drop (i*2)).take 2).drop 1).take (qa.cellsOf 9))=some z1:=(IW 1 _ rfl).trans d1;rw [c9] at r0 r1;obtain⟨s0,q0,x0,_⟩:=DataW.trod_string Tryz.underlying9 r0;obtain⟨s1,q1,x1,_⟩:=DataW.trod_string Tryz.underlying9 r1;have g0:=congrArg (·[0]?) q0;have g1:=congrArg (·[0]?) q1;simp [List.getElem?_take,List.getElem?_drop] at g0 g1
  have hyz:y.1=.agg [.lit (.string s0.data.toList),.lit (.string s1.data.toList)]:=by
   rw [hz];have:zs=[z0,z1]:=by
    apply kab;intro j;have hl3:zs.length=2:=Tc;by_cases h0:j=0;subst h0;rw [d0];rfl;by_cases h1:j=1;subst h1;rw [d1];rfl;rw [qN (by omega),qN (by simp;omega)]
   rw [this,x0,x1];rfl
  have hxi:=congrArg (·[i]?) hx;simp only [List.getElem?_map,hy,qR] at hxi;have hfi:jX[i]? = some (jX.getD i ([],[])):=by
   rw [List.getD_eq_getElem?_getD,qk (show i<jX.length from hi)];rfl
  rw [hfi] at hxi;simp only [qR,qs] at hxi;have Yx:=hxi.trans hyz;generalize jX.getD i ([],[])=nm at Yx ⊢;simp only [DataW.agg.injEq,List.cons.injEq,DataW.lit.injEq,Lit.string.injEq,and_true] at Yx;obtain⟨u0,u1⟩:=Yx;rw [u0,u1];exact⟨by rw [kaD];exact g0,by rw [kaD];exact g1⟩
 have kJ:cs.toList.length=36:=by rw [hl,c90]
 apply Array.ext';show cs.toList=gx;apply kab;intro j;by_cases hj:j<36;have hk:=key (j / 2) (by omega);have VN:∀i,i<18->gx[i*2]? = some (.string (bs (jX.getD i ([],[])).1))/\gx[i*2+1]? = some (.string (bs (jX.getD i ([],[])).2)):=by
  intro i hi;have:i=0\/i=1\/i=2\/i=3\/i=4\/i=5\/i=6\/i=7\/i=8\/i=9\/i=10\/i=11\/i=12\/i=13\/i=14\/i=15\/i=16\/i=17:=by omega
  rcases this with rfl|rfl|rfl|rfl|rfl|rfl|rfl|rfl|rfl|rfl|rfl|rfl|rfl|rfl|rfl|rfl|rfl|rfl<;>exact⟨rfl,rfl⟩
 have hf:=VN (j / 2) (by omega);by_cases hm:j % 2=0;have e:j=j / 2*2:=by omega
 rw [e,hk.1,hf.1];have e:j=j / 2*2+1:=by omega
 rw [e,hk.2,hf.2];rw [qN (by omega),qN (by show gx.length<=j;have:gx.length=36:=rfl;omega)]
@[reducible] def glOf (W:World):Gl:={ B:=λb=>if b<4 then W.heap[b]? else none,ok:=λg=>g == 0,N:=4,lt:=λg h=>by have:=eq_of_beq h;omega }
theorem laid_self (W:World):∀b x,(glOf W).B b=some x->W.heap[b]? = some x:=λb x h=>by
 have h':(if b<4 then W.heap[b]? else none)=some x:=h;split at h';exact h';cases h'
theorem fok_of {W:World} (h:Lib.VarReads qa W "strongtx/isa.forms" YtipomeafemoelaaGreatDoor.Rows.laid_strongtx_isa_forms):@FOK (glOf W):=by
 obtain⟨e,fr,hh⟩:=E7 h;exact @FOK.mk (glOf W) rfl rfl ⟨e,fr,hh⟩
section
variable [Gl]
theorem Nk {m:Mp} (a0 a1 a2 a3 a4:Int):bI m (.agg #[.int .i64 a0,.int .i64 a1,.int .i64 a2,.int .i64 a3,.int .i64 a4]) (.agg #[.int .i64 a0,.int .i64 a1,.int .i64 a2,.int .i64 a3,.int .i64 a4]):=by
 refine .agg rfl λi v v' h1 h2=>?_;rw [h1] at h2;injection h2 with h2;subst h2;have hi:=(qr.1 h1).1;have:i=0\/i=1\/i=2\/i=3\/i=4:=by simp at hi;omega
 rcases this with rfl|rfl|rfl|rfl|rfl<;>simp at h1<;>subst h1<;>exact .int _ _
def IntsIn (k:IntKind) (w:World) (a:Option Addr) (len eA:Nat) (zs:List Int):Prop:=
 (a=none/\len=0/\eA=0/\zs=[])\/∃x,a=some x/\len<=eA/\eA<=maxLen/\zs.length=eA/\(∀i,i<zs.length->w.cell? (x.add i)=some (.int k (zs.getD i 0)))/\∀n∈zs,(Lit.int k n).wf=true
def RowsZ (w:World) (a:Option Addr) (len eA:Nat):Prop:=
 (a=none/\len=0/\eA=0)\/∃x,a=some x/\len<=eA/\eA<=maxLen/\∃(R:Nat->Option Addr) (L C:Nat->Nat) (Z:Nat->List Int),∀r,r<eA->w.cell? (x.add r)=some (.slice (R r) (L r) (C r))/\L r<=17592186044415/\
  ((R r=none/\L r=0/\C r=0/\Z r=[])\/∃y,R r=some y/\L r<=C r/\C r<=maxLen/\(Z r).length=C r/\(∀i,i<(Z r).length->w.cell? (y.add i)=some (.int .i64 ((Z r).getD i 0)))/\∀n∈Z r,(Lit.int .i64 n).wf=true)
theorem KX {m:Mp} {A:AW} {w:World} (hs:j6 m A w) (AJ:A.vL) {a:Option Addr} {len eA:Nat} (h:RowsZ w a len eA) :
 ∃m' A' v ls,Mp.le m m'/\A.le A'/\j6 m' A' w/\A'.vL/\bI m' v (.slice a len eA)/\r9 A' v ls/\ls.length<=maxLen/\∀x∈ls,x.length<=17592186044415:=by
 rcases h with ⟨rfl,rfl,rfl⟩|⟨x,rfl,Qx,VR,R,L,C,Z,hr⟩;exact⟨m,A,.slice none 0 0,[],Mp.le_refl m,qi A,hs,AJ,.lC,⟨[],.inl ⟨⟨none,rfl⟩,rfl,rfl⟩,λi hi=>by simp at hi⟩,Nat.zero_le _,by simp⟩;by_cases hc0:eA=0;subst hc0;have:len=0:=by omega
 subst this;exact⟨m,A,.slice (some ⟨0,0,some 0⟩) 0 0,[],Mp.le_refl m,qi A,hs,AJ,.slice (.inr ⟨rfl,rfl,.inl rfl⟩) (qf _) (qf _),⟨[],.inl ⟨⟨_,rfl⟩,rfl,rfl⟩,λi hi=>by simp at hi⟩,Nat.zero_le _,by simp⟩
 have sf:∀n,n<=eA->∃(m':Mp) (A':AW) (us:List Value) (ls:List (List Int)),Mp.le m m'/\A.le A'/\j6 m' A' w/\A'.vL/\us.length=n/\ls.length=n/\(∀x∈ls,x.length<=17592186044415)/\(∀i v,us[i]? = some v->bI m' v (.slice (R i) (L i) (C i)))/\
  ∀i (hi:i<ls.length),∃u,us[i]? = some u/\cd A' .i64 u ls[i]:=by
  intro n
  induction n with
  | zero=>intro _;exact⟨m,A,[],[],Mp.le_refl m,qi A,hs,AJ,rfl,rfl,by simp,λi v h=>by simp at h,λi hi=>by simp at hi⟩
  | succ n ih=>
    intro hn;obtain⟨m1,A1,us,ls,h1,h2,h3,h4,h5,h6,hB,h7,h8⟩:=ih (by omega);obtain⟨_,NB,bV⟩:=hr n (by omega);obtain⟨m2,A2,u,g1,g2,g3,g4,g5,g6,_⟩:=EG h3 h4 (k:=.i64) bV;have hk:=kg.sE g2 h3.zL;refine⟨m2,A2,us++[u],ls++[(Z n).take (L n)],Mp.le_trans h1 g1,h2.trans g2,g3,g4,by simp [h5],by simp [h6],λx hx=>?_,λi v hv=>?_,λi hi=>?_⟩;rcases qQ.1 hx with hx|hx;exact hB x hx;simp only [List.mem_singleton] at hx;subst hx;rw [Zx];omega;rw [List.getElem?_append] at hv;split at hv;exact(h7 i v hv).mono g1;rename_i hi;have:i=n:=by
     have:=(qK.1 hv).1;simp at this;omega
    subst this;rw [h5] at hv;simp at hv;subst hv;exact g5;by_cases e:i<ls.length;obtain⟨v,q1,q2⟩:=h8 i e;refine⟨v,by rw [List.getElem?_append_left (by omega)];exact q1,?_⟩;rw [List.getElem_append_left e];exact q2.keeps hk;have:i=n:=by simp at hi;omega
    subst this;refine⟨u,by rw [List.getElem?_append_right (by omega),h5];simp,?_⟩;rw [List.getElem_append_right (by omega)]
    simpa using g6
 obtain⟨m1,A1,us,ls,h1,h2,h3,h4,h5,h6,hB,h7,h8⟩:=sf eA (qf _);have h0:=(hr 0 (by omega)).1;rw [show x.add 0=x by unfold Addr.add;simp] at h0;have zN:x.spot=none:=by
  unfold Z7 at h0;split at h0;split at h0;cases h0;rename_i zN;simpa using zN;cases h0
 have E0:∃iT e fr,w.heap[x.block]? = some (.cells iT e fr):=by
  unfold Z7 at h0;split at h0;rename_i c e fr hh;exact⟨c,e,fr,hh⟩;cases h0
 obtain⟨iT,e,fr,E0⟩:=E0;have Tn:∀i,i<eA->iT[x.off+i]? = some (.slice (R i) (L i) (C i)):=λi hi=>by
  have h1:=(hr i hi).1;rw [nD _ _ zN] at h1
  simpa [Z7,E0] using h1
 obtain⟨Qr,Ny⟩:=j6.Pj h3 h4 us ⟨x.block,x.off,1,iT.size⟩ E0 rfl (λj v hv=>by
  have hj:=(qK.1 hv).1;exact⟨_,Tn j (by omega),h7 j v hv⟩)
 have Th:=(qr.1 (Tn (eA-1) (by omega))).1;have hk:=kg.sE (AW.le.alloc A1 (.cells us false 1)) h3.zL;refine⟨_,_,.slice (some ⟨A1.next,0,none⟩) len len,ls.take len,Mp.le_trans h1 (h3.ED _),h2.trans (AW.le.alloc A1 _),Qr,Ny,?_,⟨us.take len,?_,λi hi=>?_⟩,by rw [Zx];omega,λx hx=>hB x (List.mem_of_mem_take hx)⟩;refine .slice (.inl ⟨rfl,zN,⟨x.block,x.off,1,iT.size⟩,by simp [Mp.ext],rfl,rfl,?_⟩) (qf _) Qx;show x.off+eA*1<=iT.size;omega;refine .inr ⟨⟨A1.next,0,none⟩,len,us,false,1,?_,?_,AW.bY _ _,rfl,?_,?_⟩;rw [Zx,Nat.min_eq_left (by omega)];simp;omega;simp;omega;rw [List.drop_zero,Zx,Nat.min_eq_left (by omega),Nat.mul_one];rw [Zx] at hi;obtain⟨u,q1,q2⟩:=h8 i (by omega);refine⟨u,by rw [List.getElem?_take_of_lt (by omega)];exact q1,?_⟩;rw [List.getElem_take];exact q2.keeps hk
end
section
open Go.ChangeShapes Go.WideShapes
theorem wa {H:Type} {P:Program} {e:TypeId} {x:DataW H} {n:Nat} (hn:n∈x.weights P e):∀{l:List (DataW H)},x∈l->n∈DataW.weightsAll P e l
 | [],h=>by cases h
 | y::l,h=>by
   rw [DataW.weightsAll,qQ];rcases qW.1 h with rfl|h;exact .inl hn;exact .inr (wa hn h)
theorem P3 {H:Type} {P:Program} {ts:List TypeId} {ds:List (DataW H)} (h:(DataW.weightsEach P ts ds).all (·<=reachBytes)=true) {j:Nat} {t e q:TypeId} {elems spare es sp:List (DataW H)} (ht:ts[j]? = some t) (hd:ds[j]? = some (.slice elems spare)) (hu:P.underlying t=some (.slice e)) (he:P.underlying e=some (.slice q)) (hm:.slice es sp∈elems++spare):(es.length+sp.length)*P.bytesOf q<=reachBytes:=by
 have h1:(es.length+sp.length)*P.bytesOf q∈ka9 P e (.slice es sp:DataW H):=by simp [ka9,he]
 have h2:(es.length+sp.length)*P.bytesOf q∈ka9 P t (.slice elems spare:DataW H):=by
  simp only [ka9,hu,qW,qQ];rcases qQ.1 hm with hm|hm;exact .inr (.inl (wa h1 hm));exact .inr (.inr (wa h1 hm))
 have:=List.all_eq_true.1 h _ (DataW.weights_mem_each ht hd _ h2)
 simpa using this
theorem open_rowsZ {H:Type} {enc:TypeId×Value->H} {P:Program} {w:World} {t e q:TypeId} {fuel:Nat} {a:Option Addr} {len eA:Nat} {d:DataW H} {p:List MemPlace} (ht:P.underlying t=some (.slice e)) (he:P.underlying e=some (.slice q)) (hq:P.underlying q=some (.int .i64))
 (ce:P.cellsOf e=1) (cq:P.cellsOf q=1) (hb:P.bytesOf q=8) (hf:kbh enc P w 0 (λ_=>true) true fuel t [.slice a len eA]=some (d,p))
 {ts:List TypeId} {ds:List (DataW H)} (hz:(DataW.weightsEach P ts ds).all (·<=reachBytes)=true) {j:Nat} (hj:ts[j]? = some t) (hd:ds[j]? = some d):RowsZ w a len eA:=by
 rcases Go.Deep.open_int_rows ht he hq ce cq hf with ⟨hcs,_⟩|⟨x,l,c,R,L,C,Z,hcs,_,hl,hm,hx,hr⟩;simp at hcs;obtain⟨rfl,rfl,rfl⟩:=hcs;exact .inl ⟨rfl,rfl,rfl⟩;simp at hcs;obtain⟨rfl,rfl,rfl⟩:=hcs;injection hx with hx _;subst hx;refine .inr ⟨_,rfl,hl,hm,R,L,C,Z,λr xN=>?_⟩;obtain⟨g1,g2,g3,g4,g5,g6,g7⟩:=hr r xN;have xP:kbt (H:=H) .i64 (R r) (L r) (Z r)∈((List.range len).map λr=>kbt .i64 (R r) (L r) (Z r))++((List.range (eA-len)).map λj=>kbt .i64 (R (len+j)) (L (len+j)) (Z (len+j))):=by
  rw [qQ];by_cases h:r<len;exact .inl (List.mem_map.2 ⟨r,qy.2 h,rfl⟩);exact .inr (List.mem_map.2 ⟨r-len,qy.2 (by omega),by rw [show len+(r-len)=r by omega]⟩)
 cases hR:R r with
 | none=>
   have hC:=g6 hR;exact⟨hR▸g1,by omega,.inl ⟨rfl,by omega,hC,List.eq_nil_of_length_eq_zero (by omega)⟩⟩
 | some y=>
   refine⟨hR▸g1,?_,.inr ⟨y,rfl,g2,g3,g4,λc hc=>(g7 y hR).2 c (by omega),g5⟩⟩;rw [hR] at xP;have h1:=P3 hz hj hd ht he xP;rw [hb] at h1;have h47:=reachBytes_lt;simp only [lits,List.length_map,Zx,List.length_drop] at h1;omega
end
end
section
open Go.RowKit
variable [Gl]
theorem tu_world (hF:FOK) (W:World) (Lm:∀b x,Gl.B b=some x->W.heap[b]? = some x) (b0 b1 b2 b3 b4:Int) (a1:Option Addr) (len1 cap1:Nat) (w1:RowsZ W a1 len1 cap1) (a2:Option Addr) (len2 cap2:Nat) (z2:List Int) (w2:IntsIn .i64 W a2 len2 cap2 z2) (pm:len2<=17592186044415) (a3:Bool) :
 Calls qa 5 #[.agg #[.int .i64 b0,.int .i64 b1,.int .i64 b2,.int .i64 b3,.int .i64 b4],.slice a1 len1 cap1,.slice a2 len2 cap2,.bool a3] W λe w'=>e=.returned (.bool true)/\Below W.heap.size W w':=by
 have s0:=j6.mM W Lm;have n0:=AW.vL.mM;obtain⟨m1,A1,v1,ls,le1,g1,s1,n1,r1,h1,JP,kS⟩:=KX s0 n0 w1;obtain⟨m2,A2,v2,le2,g2,s2,n2,r2,h2,_⟩:=EG s1 n1 (k:=.i64) w2;refine Ft (Az hF (Jf hF) b0 b1 b2 b3 b4 v1 v2 ls (z2.take len2) a3 A2 (h1.keeps (kg.sE g2 s1.zL)) h2 JP kS (by rw [Zx];omega)) (λv A' h=>h) s2 n2 ?_;exact .cons (Nk _ _ _ _ _) (.cons (r1.mono le2) (.cons r2 (.cons (.bool _) .nil)))
end
end Go.Stx
