/-
 Parameters of the machine laws in the model's own world.
-/
import Derived.Test.YtpealkdhmnomhaaGreatDoorG05
import Derived.Lib.LaidU8
import Derived.Shelf.Vars
import Derived.LaidMore
import Derived.Test.YtpealkdhmnomhaaGreatDoorRows
import Derived.Deep.Slices
import Derived.Deep.Matrix
import Derived.SizedLaws
import Derived.Lib.SmallJoins
set_option linter.unusedVariables false
set_option linter.unusedSimpArgs false
set_option linter.unusedSectionVars false
set_option maxRecDepth 20000
set_option maxHeartbeats 4000000
open Array renaming getElem?_eq_some_iff->Zf,getElem?_toList->kbc
open Go.DataW renaming trod->kbR,weights->kbJ
open Go.Deep renaming intRow->kb6
open Go.Proofs.Tryz renaming prog->qV
open Go.Proofs.YtpealkdhmnomhaaGreatDoor.Rows renaming laid_strongtx_isa_forms->kbS
open Go.Stx.AW.le renaming refl->Zl
open Go.World renaming cell?->kaI
open List renaming ext_getElem?->kaD,getElem?_eq_getElem->q9,getElem?_eq_none->Zx,getElem?_eq_some_iff->ZC,length_take->Z9,mem_append->ZH,mem_cons->ZM,mem_range->Zn
open Nat renaming le_refl->qZ
open Option renaming map_some->kaN
open Option.some renaming inj->kau,injEq->Zh
open Bool renaming false->qk,true->qg
open Go renaming Program->ql,TypeId->qr,Value->qd,World->qs
open Go.IntKind renaming i64->qa
open Option renaming none->qh,some->qc
open Or renaming inl->qq,inr->qt
namespace Go.Stx
open Go Go.Proofs
attribute [local irreducible] cM aV aB aL cU dh
section
open Go.RowKit
theorem Nu {α β:Type} {f:α->Option β}:∀(L:List α) (ys:List β),L.mapM f=qc ys->∀x∈L,∃y,f x=qc y
 | [],_,_,x,hx=>by simp at hx
 | a::L,ys,h,x,hx=>by
   rw [List.mapM_cons] at h;simp only [bind,Option.bind_eq_some_iff,pure,Zh] at h;obtain⟨y,hy,zs,hz,_⟩:=h;rcases ZM.1 hx with rfl|hx;exact⟨y,hy⟩;exact Nu L zs hz x hx
theorem array5 {α:Type} {cs:Array α} (h:cs.size=5):∃c0 c1 c2 c3 c4,cs = #[c0,c1,c2,c3,c4]:=by
 obtain⟨l⟩:=cs
 match l,h with
 | [c0,c1,c2,c3,c4],_=>exact⟨c0,c1,c2,c3,c4,rfl⟩
theorem okWide_arr5 {P:ql} {W:qs} {k e:qr} (hu:P.underlying k=qc (.array 5 e)) (size:P.cellsOf k=5) {r:Reach} {b0:Nat} {v:qd} (h:Value.okWide P W r b0 k v):∃xs:Array qd,v=.agg xs/\xs.size=5:=by
 simp only [Value.okWide,hu] at h;obtain⟨cs,h1,h2,_⟩:=h;exact⟨cs,h1,by rw [h2,size]⟩
theorem open_arr5 {H:Type} {enc:qr×qd->H} {P:ql} {W:qs} {base:Nat} {sp:Nat->Bool} {held:Bool} {k e:qr} {q:IntKind} (hu:P.underlying k=qc (.array 5 e)) (he:P.underlying e=qc (.int q)) (aM:P.cellsOf e=1) (size:P.cellsOf k=5)
 {xs:Array qd} (hn:xs.size=5) {d:DataW H} {ps:List MemPlace} (hd:DataW.Trod enc P W base sp held k (.agg xs) d ps):∃a0 a1 a2 a3 a4,xs = #[.int q a0,.int q a1,.int q a2,.int q a3,.int q a4]:=by
 obtain⟨c0,c1,c2,c3,c4,rfl⟩:=array5 hn;obtain⟨fuel,hf⟩:=hd;cases fuel with
 | zero=>simp [kbR] at hf
 | succ m=>
   rw [DataW.trod_step] at hf;unfold DataW.trodStep at hf;simp only [hu,Value.cells] at hf;rw [ay (by rw [size];rfl)] at hf;simp only [Option.map_eq_some_iff] at hf;obtain⟨ys,hy,_⟩:=hf;have hm:=Nu _ ys hy;rw [aM] at hm;have g:∀i,i<5->∃a,([c0,c1,c2,c3,c4].drop (i*1)).take 1=[Value.int q a]:=λi hi=>by
    obtain⟨y,h1⟩:=hm i (Zn.2 hi);obtain⟨a,h2,_⟩:=DataW.trod_int he h1;exact⟨a,h2⟩
   obtain⟨a0,e0⟩:=g 0 Ya;obtain⟨a1,e1⟩:=g 1 Ya;obtain⟨a2,e2⟩:=g 2 Ya;obtain⟨a3,e3⟩:=g 3 Ya;obtain⟨a4,e4⟩:=g 4 Ya;simp at e0 e1 e2 e3 e4;subst e0 e1 e2 e3 e4;exact⟨a0,a1,a2,a3,a4,rfl⟩
theorem Qm:(kbS:DataW Unit)=.agg (kV.map λx=>.agg [.lit (.string x.1),.lit (.string x.2)]):=by rfl
theorem Hd {W:qs} (h:Lib.VarReads qV W "strongtx/isa.forms" kbS):∃e fr,W.heap[0]? = qc (.cells gY.toArray e fr):=by
 rw [Qm] at h;obtain⟨g,t,cs,fuel,p,hg,ht,hv,hd⟩:=h;have C8:qV.globalNamed "strongtx/isa.forms" = qc 0:=Ye
 obtain rfl:=kau (C8.symm.trans hg);have ht0:(qV.globals[0]?).map (·.type)=qc 309:=Ye
 obtain rfl:=kau (ht0.symm.trans ht);have hcs:∃e fr,W.heap[0]? = qc (.cells cs e fr):=by
  unfold World.var? at hv;rw [C8] at hv;simp only [Option.bind_some] at hv;split at hv;rename_i c e fr hh;injection hv with hv;subst hv;exact⟨e,fr,hh⟩;cases hv
 obtain⟨e,fr,hh⟩:=hcs;refine⟨e,fr,?_⟩;rw [hh];congr 2;obtain⟨xs,m,_,hx,hl,bW,hf⟩:=DataW.trod_array (P:=qV) (n:=18) (e:=308) Tryz.underlying309 hd;have c89:qV.cellsOf 308=2:=Ye
 have c9:qV.cellsOf 9=1:=Ye
 have c90:qV.cellsOf 309=36:=Ye
 rw [c89] at hf;injection hx with hx _;injection hx with hx;have key:∀i (hi:i<18),cs.toList[i*2]? = qc (.string (bs (kV.getD i ([],[])).1))/\cs.toList[i*2+1]? = qc (.string (bs (kV.getD i ([],[])).2)):=by
  intro i hi;obtain⟨y,hy⟩:∃y,xs[i]? = qc y:=⟨_,q9 (by rw [bW];exact hi)⟩;have h1:=(hf i hi).trans hy;obtain⟨zs,m2,_,hz,HZ,NS,Lv⟩:=DataW.trod_struct Tryz.underlying308 h1;have pq:∀i,i<2->∃y,zs[i]? = qc y:=λi hi=>⟨_,q9 (by rw [NS];exact hi)⟩;obtain⟨z0,d0⟩:=pq 0 Ya;obtain⟨z1,d1⟩:=pq 1 Ya;have r0:kbR (λ_=>()) qV W 0 (λ_=>qg) qk m2 9 ((((cs.toList.drop (i*2)).take 2).drop 0).take (qV.cellsOf 9))=qc z0:=(Lv 0 _ rfl).trans d0;have r1:kbR (λ_=>()) qV W 0 (λ_=>qg) qk m2 9 ((((cs.toList.drop (i*2)).take 2).drop 1).take (qV.cellsOf 9))=qc z1:=(Lv 1 _ rfl).trans d1;rw [c9] at r0 r1;obtain⟨s0,q0,x0,_⟩:=DataW.trod_string Tryz.underlying9 r0;obtain⟨s1,q1,x1,_⟩:=DataW.trod_string Tryz.underlying9 r1;have g0:=congrArg (·[0]?) q0;have g1:=congrArg (·[0]?) q1;simp [List.getElem?_drop] at g0 g1
  have hyz:y.1=.agg [.lit (.string s0.data.toList),.lit (.string s1.data.toList)]:=by
   rw [hz];have:zs=[z0,z1]:=by
    apply kaD;intro j;have hl3:zs.length=2:=NS;by_cases h0:j=0;subst h0;rw [d0];rfl;by_cases h1:j=1;subst h1;rw [d1];rfl;rw [Zx Ya,Zx Yg]
   rw [this,x0,x1];rfl
  have hxi:=congrArg (·[i]?) hx;simp only [List.getElem?_map,hy,kaN] at hxi;have hfi:kV[i]? = qc (kV.getD i ([],[])):=by
   rw [List.getD_eq_getElem?_getD,q9 (show i<kV.length from hi)];rfl
  rw [hfi] at hxi;simp only [kaN,Zh] at hxi;have hxi':=hxi.trans hyz;generalize kV.getD i ([],[])=nm at hxi' ⊢;simp only [DataW.agg.injEq,List.cons.injEq,DataW.lit.injEq,Lit.string.injEq,and_true] at hxi';obtain⟨u0,u1⟩:=hxi';rw [u0,u1];exact⟨by rw [kbc];exact g0,by rw [kbc];exact g1⟩
 have lh:cs.toList.length=36:=by rw [hl,c90]
 apply Array.ext';show cs.toList=gY;apply kaD;intro j;by_cases hj:j<36;have hk:=key (j / 2) Ya;have hfc:∀i,i<18->gY[i*2]? = qc (.string (bs (kV.getD i ([],[])).1))/\gY[i*2+1]? = qc (.string (bs (kV.getD i ([],[])).2)):=by
  intro i hi;have:i=0\/i=1\/i=2\/i=3\/i=4\/i=5\/i=6\/i=7\/i=8\/i=9\/i=10\/i=11\/i=12\/i=13\/i=14\/i=15\/i=16\/i=17:=Ya
  rcases this with rfl|rfl|rfl|rfl|rfl|rfl|rfl|rfl|rfl|rfl|rfl|rfl|rfl|rfl|rfl|rfl|rfl|rfl<;>exact⟨rfl,rfl⟩
 have hf:=hfc (j / 2) Ya;by_cases hm:j % 2=0;have e:j=j / 2*2:=Ya
 rw [e,hk.1,hf.1];have e:j=j / 2*2+1:=Ya
 rw [e,hk.2,hf.2];rw [Zx Ya,Zx (by show gY.length<=j;have:gY.length=36:=rfl;omega)]
@[reducible] def glOf (W:qs):Gl:={ B:=λb=>if b<4 then W.heap[b]? else qh,ok:=λg=>g == 0,N:=4,lt:=λg h=>by have:=eq_of_beq h;omega }
theorem laid_self (W:qs):∀b x,(glOf W).B b=qc x->W.heap[b]? = qc x:=λb x h=>by
 have h':(if b<4 then W.heap[b]? else qh)=qc x:=h;split at h';exact h';cases h'
theorem fok_of {W:qs} (h:Lib.VarReads qV W "strongtx/isa.forms" kbS):@FOK (glOf W):=by
 obtain⟨e,fr,hh⟩:=Hd h;exact @FOK.mk (glOf W) rfl rfl ⟨e,fr,hh⟩
section
variable [Gl]
theorem GI {m:Mp} (a0 a1 a2 a3 a4:Int):bP m (.agg #[.int qa a0,.int qa a1,.int qa a2,.int qa a3,.int qa a4]) (.agg #[.int qa a0,.int qa a1,.int qa a2,.int qa a3,.int qa a4]):=by
 refine .agg rfl λi v v' h1 h2=>?_;rw [h1] at h2;injection h2 with h2;subst h2;have hi:=(Zf.1 h1).1;have:i=0\/i=1\/i=2\/i=3\/i=4:=by simp at hi;omega
 rcases this with rfl|rfl|rfl|rfl|rfl<;>simp at h1<;>subst h1<;>exact .int _ _
def IntsIn (k:IntKind) (w:qs) (a:Option Addr) (len eV:Nat) (zs:List Int):Prop:=
 (a=qh/\len=0/\eV=0/\zs=[])\/∃x,a=qc x/\len<=eV/\eV<=maxLen/\zs.length=eV/\(∀i,i<zs.length->w.cell? (x.add i)=qc (.int k (zs.getD i 0)))/\∀n∈zs,(Lit.int k n).wf=qg
def RowsZ (w:qs) (a:Option Addr) (len eV:Nat):Prop:=
 (a=qh/\len=0/\eV=0)\/∃x,a=qc x/\len<=eV/\eV<=maxLen/\∃(R:Nat->Option Addr) (L C:Nat->Nat) (Z:Nat->List Int),∀r,r<eV->w.cell? (x.add r)=qc (.slice (R r) (L r) (C r))/\L r<=17592186044415/\
  ((R r=qh/\L r=0/\C r=0/\Z r=[])\/∃y,R r=qc y/\L r<=C r/\C r<=maxLen/\(Z r).length=C r/\(∀i,i<(Z r).length->w.cell? (y.add i)=qc (.int qa ((Z r).getD i 0)))/\∀n∈Z r,(Lit.int qa n).wf=qg)
theorem Ek {m:Mp} {A:AW} {w:qs} (hs:k7 m A w) (zW:A.vY) {a:Option Addr} {len eV:Nat} (h:RowsZ w a len eV) :
 ∃m' A' v ls,Mp.le m m'/\A.le A'/\k7 m' A' w/\A'.vY/\bP m' v (.slice a len eV)/\pH A' v ls/\ls.length<=maxLen/\∀x∈ls,x.length<=17592186044415:=by
 rcases h with ⟨rfl,rfl,rfl⟩|⟨x,rfl,To,EY,R,L,C,Z,hr⟩;exact⟨m,A,.slice qh 0 0,[],Mp.le_refl m,Zl A,hs,zW,.mC,⟨[],qq ⟨⟨qh,rfl⟩,rfl,rfl⟩,λi hi=>by simp at hi⟩,Nat.zero_le _,by simp⟩;by_cases hc0:eV=0;subst hc0;have:len=0:=Ya
 subst this;exact⟨m,A,.slice (qc ⟨0,0,qc 0⟩) 0 0,[],Mp.le_refl m,Zl A,hs,zW,.slice (qt ⟨rfl,rfl,qq rfl⟩) (qZ _) (qZ _),⟨[],qq ⟨⟨_,rfl⟩,rfl,rfl⟩,λi hi=>by simp at hi⟩,Nat.zero_le _,by simp⟩
 have tI:∀n,n<=eV->∃(m':Mp) (A':AW) (us:List qd) (ls:List (List Int)),Mp.le m m'/\A.le A'/\k7 m' A' w/\A'.vY/\us.length=n/\ls.length=n/\(∀x∈ls,x.length<=17592186044415)/\(∀i v,us[i]? = qc v->bP m' v (.slice (R i) (L i) (C i)))/\
  ∀i (hi:i<ls.length),∃u,us[i]? = qc u/\bK A' qa u ls[i]:=by
  intro n
  induction n with
  | zero=>intro _;exact⟨m,A,[],[],Mp.le_refl m,Zl A,hs,zW,rfl,rfl,by simp,λi v h=>by simp at h,λi hi=>by simp at hi⟩
  | succ n ih=>
    intro hn;obtain⟨m1,A1,us,ls,h1,h2,h3,h4,h5,h6,hB,h7,h8⟩:=ih Ya;obtain⟨_,P8,bO⟩:=hr n Ya;obtain⟨m2,A2,u,g1,g2,g3,g4,g5,g6,_⟩:=Bi h3 h4 (k:=qa) bO;have hk:=gW.nd g2 h3.zQ;refine⟨m2,A2,us++[u],ls++[(Z n).take (L n)],Mp.le_trans h1 g1,h2.trans g2,g3,g4,by simp [h5],by simp [h6],λx hx=>?_,λi v hv=>?_,λi hi=>?_⟩;rcases ZH.1 hx with hx|hx;exact hB x hx;simp only [List.mem_singleton] at hx;subst hx;rw [Z9];omega;rw [List.getElem?_append] at hv;split at hv;exact(h7 i v hv).mono g1;rename_i hi;have:i=n:=by
     have:=(ZC.1 hv).1;simp at this;omega
    subst this;rw [h5] at hv;simp at hv;subst hv;exact g5;by_cases e:i<ls.length;obtain⟨v,q1,q2⟩:=h8 i e;refine⟨v,by rw [List.getElem?_append_left Ya];exact q1,?_⟩;rw [List.getElem_append_left e];exact q2.keeps hk;have:i=n:=by simp at hi;omega
    subst this;refine⟨u,by rw [List.getElem?_append_right Ya,h5];simp,?_⟩;rw [List.getElem_append_right Ya]
    simpa using g6
 obtain⟨m1,A1,us,ls,h1,h2,h3,h4,h5,h6,hB,h7,h8⟩:=tI eV (qZ _);have h0:=(hr 0 Ya).1;rw [show x.add 0=x by unfold Addr.add;simp] at h0;have BG:x.spot=qh:=by
  unfold kaI at h0;split at h0;split at h0;cases h0;rename_i BG;simpa using BG;cases h0
 have G4:∃jy e fr,w.heap[x.block]? = qc (.cells jy e fr):=by
  unfold kaI at h0;split at h0;rename_i c e fr hh;exact⟨c,e,fr,hh⟩;cases h0
 obtain⟨jy,e,fr,G4⟩:=G4;have Wr:∀i,i<eV->jy[x.off+i]? = qc (.slice (R i) (L i) (C i)):=λi hi=>by
  have h1:=(hr i hi).1;rw [oP _ _ BG] at h1
  simpa [kaI,G4] using h1
 obtain⟨Tj,P6⟩:=k7.RX h3 h4 us ⟨x.block,x.off,1,jy.size⟩ G4 rfl (λj v hv=>by
  have hj:=(ZC.1 hv).1;exact⟨_,Wr j Ya,h7 j v hv⟩)
 have NT:=(Zf.1 (Wr (eV-1) Ya)).1;have hk:=gW.nd (AW.le.alloc A1 (.cells us qk 1)) h3.zQ;refine⟨_,_,.slice (qc ⟨A1.next,0,qh⟩) len len,ls.take len,Mp.le_trans h1 (h3.GE _),h2.trans (AW.le.alloc A1 _),Tj,P6,?_,⟨us.take len,?_,λi hi=>?_⟩,by rw [Z9];omega,λx hx=>hB x (List.mem_of_mem_take hx)⟩;refine .slice (qq ⟨rfl,BG,⟨x.block,x.off,1,jy.size⟩,by simp [Mp.ext],rfl,rfl,?_⟩) (qZ _) To;show x.off+eV*1<=jy.size;omega;refine qt ⟨⟨A1.next,0,qh⟩,len,us,qk,1,?_,?_,AW.bN _ _,rfl,?_,?_⟩;rw [Z9,Nat.min_eq_left Ya];simp;omega;simp;omega;rw [List.drop_zero,Z9,Nat.min_eq_left Ya,Nat.mul_one];rw [Z9] at hi;obtain⟨u,q1,q2⟩:=h8 i Ya;refine⟨u,by rw [List.getElem?_take_of_lt Ya];exact q1,?_⟩;rw [List.getElem_take];exact q2.keeps hk
end
section
open Go.ChangeShapes Go.WideShapes
theorem xW {H:Type} {P:ql} {e:qr} {x:DataW H} {n:Nat} (hn:n∈x.weights P e):∀{l:List (DataW H)},x∈l->n∈DataW.weightsAll P e l
 | [],h=>by cases h
 | y::l,h=>by
   rw [DataW.weightsAll,ZH];rcases ZM.1 h with rfl|h;exact qq hn;exact qt (xW hn h)
theorem SH {H:Type} {P:ql} {ts:List qr} {ds:List (DataW H)} (h:(DataW.weightsEach P ts ds).all (·<=reachBytes)=qg) {j:Nat} {t e q:qr} {elems spare es sp:List (DataW H)} (ht:ts[j]? = qc t) (hd:ds[j]? = qc (.slice elems spare)) (hu:P.underlying t=qc (.slice e)) (he:P.underlying e=qc (.slice q)) (hm:.slice es sp∈elems++spare):(es.length+sp.length)*P.bytesOf q<=reachBytes:=by
 have h1:(es.length+sp.length)*P.bytesOf q∈kbJ P e (.slice es sp:DataW H):=by simp [kbJ,he]
 have h2:(es.length+sp.length)*P.bytesOf q∈kbJ P t (.slice elems spare:DataW H):=by
  simp only [kbJ,hu,ZM,ZH];rcases ZH.1 hm with hm|hm;exact qt (qq (xW h1 hm));exact qt (qt (xW h1 hm))
 have:=List.all_eq_true.1 h _ (DataW.weights_mem_each ht hd _ h2)
 simpa using this
theorem open_rowsZ {H:Type} {enc:qr×qd->H} {P:ql} {w:qs} {t e q:qr} {fuel:Nat} {a:Option Addr} {len eV:Nat} {d:DataW H} {p:List MemPlace} (ht:P.underlying t=qc (.slice e)) (he:P.underlying e=qc (.slice q)) (hq:P.underlying q=qc (.int qa))
 (ce:P.cellsOf e=1) (cq:P.cellsOf q=1) (hb:P.bytesOf q=8) (hf:kbR enc P w 0 (λ_=>qg) qg fuel t [.slice a len eV]=qc (d,p))
 {ts:List qr} {ds:List (DataW H)} (hz:(DataW.weightsEach P ts ds).all (·<=reachBytes)=qg) {j:Nat} (hj:ts[j]? = qc t) (hd:ds[j]? = qc d):RowsZ w a len eV:=by
 rcases Go.Deep.open_int_rows ht he hq ce cq hf with ⟨hcs,_⟩|⟨x,l,c,R,L,C,Z,hcs,_,hl,hm,hx,hr⟩;simp at hcs;obtain⟨rfl,rfl,rfl⟩:=hcs;exact qq ⟨rfl,rfl,rfl⟩;simp at hcs;obtain⟨rfl,rfl,rfl⟩:=hcs;injection hx with hx _;subst hx;refine qt ⟨_,rfl,hl,hm,R,L,C,Z,λr zU=>?_⟩;obtain⟨g1,g2,g3,g4,g5,g6,g7⟩:=hr r zU;have zX:kb6 (H:=H) qa (R r) (L r) (Z r)∈((List.range len).map λr=>kb6 qa (R r) (L r) (Z r))++((List.range (eV-len)).map λj=>kb6 qa (R (len+j)) (L (len+j)) (Z (len+j))):=by
  rw [ZH];by_cases h:r<len;exact qq (List.mem_map.2 ⟨r,Zn.2 h,rfl⟩);exact qt (List.mem_map.2 ⟨r-len,Zn.2 Ya,by rw [show len+(r-len)=r by omega]⟩)
 cases hR:R r with
 | none=>
   have hC:=g6 hR;exact⟨hR▸g1,by omega,qq ⟨rfl,by omega,hC,List.eq_nil_of_length_eq_zero Ya⟩⟩
 | some y=>
   refine⟨hR▸g1,?_,qt ⟨y,rfl,g2,g3,g4,λc hc=>(g7 y hR).2 c Ya,g5⟩⟩;rw [hR] at zX;have h1:=SH hz hj hd ht he zX;rw [hb] at h1;have h47:=reachBytes_lt;simp only [lits,List.length_map,Z9,List.length_drop] at h1;omega
end
end
end Go.Stx
