/-
 The sanity check of law 21, by the contracts.
-/
import Derived.Test.YtipomeafemoelaaGreatDoorG19
import Derived.Lib.LaidU8
import Derived.Shelf.Vars
import Derived.LaidMore
import Derived.Test.YtipomeafemoelaaGreatDoorRows
import Derived.Deep.Slices
import Derived.Deep.Matrix
import Derived.SizedLaws
import Derived.Lib.SmallJoins
set_option linter.unusedVariables false
set_option linter.unusedSimpArgs false
set_option linter.unusedSectionVars false
set_option maxRecDepth 20000
set_option maxHeartbeats 4000000
namespace Go.Stx
open Go Go.Proofs
attribute [local irreducible] TW bA cM aS ax aH cJ de
section
open T7
variable [Gl]
def c21:bq:=⟨1,1,0,0,0,0,0,1,1,0,0,0,false⟩
def Xa:aZ:=⟨0,0,0,0,0⟩
theorem Zt:qZ c21:=⟨⟨by decide,by decide,by decide,by decide,by decide,by decide,by decide,by decide,by decide,by decide,by decide,by decide,by decide,by decide⟩,by decide,by decide,rfl,rfl⟩
def Uh:r9:=jA Hk (vZ c21 [5] [[Xa],[Xa]]) [0,1,0]
theorem Vy:Uh.gJ.length=2/\Uh.cG.length=2/\Uh.M 0=[5]/\Uh.cG[1]? = some ⟨1,0,0,⟨0,0,0,0,0,false⟩⟩/\(Uh.gJ.map aU.d)[1]?.map r8.done=some true:=⟨by kernel_rfl,by kernel_rfl,by kernel_rfl,by kernel_rfl,by kernel_rfl⟩
theorem e21:(iZ c21 1 [[Xa],[Xa]] [0,1,0]).2.2=0:=by decide +kernel
theorem IE {A:AW} {n k size:Nat} {cs:List Value} (h:A.bg n=some (.cells cs true size)) (hl:cs.length=k*size):dM A size (.slice (some ⟨n,0,none⟩) k k) k cs:=
 .inr ⟨⟨n,0,none⟩,k,cs,true,size,rfl,Nat.le_refl _,h,rfl,by rw [Nat.zero_add,hl];exact Nat.le_refl _,by rw [<-hl];exact List.take_length.symm⟩
theorem ET (hF:FOK):ax Tryz.prog 7 [] AW.mu (λu A'=>u=.bool true):=by
 refine aF Tryz.func7 λhw=>?_;generalize AW.mu=A at *;have cR:=λB vi vp vk hi hp hk=>If Ad hF Zt vi vp vk [5] [[Xa],[Xa]] [0,1,0] B hi hp hk e21 (by decide) (λp hp x hx h3=>by
  simp only [List.mem_cons,List.not_mem_nil,or_false] at hp;rcases hp with rfl|rfl<;>(rw [List.mem_singleton] at hx;subst hx;cases h3))
 change ∀(B:AW) (vi vp vk:Value) (hi:_) (hp:_) (hk:_),ax _ _ _ _ (λu A'=>∃z,u=.tuple #[.agg (zB Uh z).toArray,.int .i64 0,.int .i64 0,.int .i64 0]/\ah A' (NA Uh z++[.h (ma B.bg)])) at cR;unfold HK jv bq.cells c21 zB j9 at cR;simp only [aa,ag] at cR;revert hw;refine W cd (J1 bz) ?_<;>(unhygienic intros);refine bD (cR _ _ _ _ ?_ ?_ ?_) ?_;exact IE (by simp [AW.eg,AW.dF,Nat.add_assoc]) rfl;refine⟨_,IE (by simp [AW.eg,AW.dF,Nat.add_assoc];rfl) rfl,λi hi=>?_⟩;have hi:i=0\/i=1:=by simp at hi;omega
 rcases hi with rfl|rfl;exact⟨_,rfl,IE (by simp [AW.eg,AW.dF,Nat.add_assoc];rfl) rfl⟩;exact⟨_,rfl,IE (by simp [AW.eg,AW.dF,Nat.add_assoc];rfl) rfl⟩;exact IE (by simp [AW.eg,AW.dF,Nat.add_assoc]) rfl;rintro _ A2 ⟨z,rfl,hS⟩ jR _;have hr:=hS.Up;obtain⟨h1,h2,h3,h4,h5⟩:=Vy;have kp:=λO O'=>ff.jC (AW.le.km A2 O O') jR;clear hS cR;generalize Uh=m at *;have hl:1<m.cG.length:=by omega
 have FD:1<(m.gJ.map aU.d).length:=by rw [List.length_map];omega
 rw [List.getElem?_eq_getElem hl] at h4;rw [List.getElem?_eq_getElem FD] at h5;injection h4 with h4;injection h5 with h5;obtain⟨v0,_,_,_,_,e,i0,_⟩:=hr.im;injection e with e;injection e with e;injection e with e _;subst e;unfold j9 at i0;rw [h3] at i0;obtain⟨p,XU,q1,q2,q3⟩:=i0.at (i:=0) (by decide);obtain⟨x1,c1,r1,w1,s1,s2,s3,s4⟩:=sy (f:=fR.cells) (λ_=>rfl) hr.st hl;obtain⟨x2,c2,r2,w2,t1,t2,t3,t4⟩:=sy (f:=r8.T3) (λ_=>rfl) hr.th FD;rw [h4] at s4;rw [h2] at s1;rw [List.length_map,h1] at t1;injection s1 with s1 _ s5;injection t1 with t1 _ t5;have t6:r2[x2.off+11+10]? = some (.bool true):=by
  have:=congrArg (λl=>l[10]?) t4;rw [List.getElem?_take_of_lt (by decide),List.getElem?_drop,r8.T3,h5] at this;exact this
 have t7:A2.bP x2.block=some r2:=AW.wQ t2;rw [q1];rw [h1,h2,h3];dsimp only [fR.cells] at s4;have n1:¬x1.block=A2.next:=by have:=jR.lt s2;omega
 have n2:¬x2.block=A2.next:=by have:=jR.lt t2;omega
 obtain⟨ow,un,q4⟩:∃ow un,A2.bg p.block=some (.cells XU ow un):=by
  rw [AW.bP] at q2;split at q2;rename_i cs ow un h;injection q2 with q2;exact⟨ow,un,q2▸h⟩;cases q2
 have q3:XU[p.off]? = some (.int .u64 5):=q3;have n3:¬p.block=A2.next:=by have:=jR.lt q4;omega
 refine W cd (JN n1 n2 n3 q4 q3 s2 s3 s4 t2 t3 t6 t7 s1 t1 q1 bz) ?_<;>intros
 all_goals exact⟨_,rfl,rfl⟩
theorem Hd (hF:FOK) (B:AW):ax Tryz.prog 7 [] B (λv A'=>v=.bool true/\B=A'):=
 (Ty (R:=λv=>v=.bool true) (ET hF) (λv h=>by rw [h];rfl) B).mono λv A' h=>⟨h.1,h.2.symm⟩
end
section
open Go.RowKit
theorem IP {α β:Type} {f:α->Option β}:∀(L:List α) (ys:List β),L.mapM f=some ys->∀x∈L,∃y,f x=some y
 | [],_,_,x,hx=>by simp at hx
 | a::L,ys,h,x,hx=>by
   rw [List.mapM_cons] at h;simp only [bind,Option.bind_eq_some_iff,pure,Option.some.injEq] at h;obtain⟨y,hy,zs,hz,_⟩:=h;rcases List.mem_cons.1 hx with rfl|hx;exact⟨y,hy⟩;exact IP L zs hz x hx
theorem WO {α:Type} {cs:Array α} (h:cs.size=5):∃c0 c1 c2 c3 c4,cs = #[c0,c1,c2,c3,c4]:=by
 obtain⟨l⟩:=cs
 match l,h with
 | [c0,c1,c2,c3,c4],_=>exact⟨c0,c1,c2,c3,c4,rfl⟩
theorem okWide_arr5 {P:Program} {W:World} {k e:TypeId} (hu:P.underlying k=some (.array 5 e)) (size:P.cellsOf k=5) {r:Reach} {b0:Nat} {v:Value} (h:Value.okWide P W r b0 k v):∃xs:Array Value,v=.agg xs/\xs.size=5:=by
 simp only [Value.okWide,hu] at h;obtain⟨cs,h1,h2,_⟩:=h;exact⟨cs,h1,by rw [h2,size]⟩
theorem open_arr5 {H:Type} {enc:TypeId×Value->H} {P:Program} {W:World} {base:Nat} {sp:Nat->Bool} {held:Bool} {k e:TypeId} {q:IntKind} (hu:P.underlying k=some (.array 5 e)) (he:P.underlying e=some (.int q)) (aD:P.cellsOf e=1) (size:P.cellsOf k=5)
 {xs:Array Value} (hn:xs.size=5) {d:DataW H} {ps:List MemPlace} (hd:DataW.Trod enc P W base sp held k (.agg xs) d ps):∃a0 a1 a2 a3 a4,xs = #[.int q a0,.int q a1,.int q a2,.int q a3,.int q a4]:=by
 obtain⟨c0,c1,c2,c3,c4,rfl⟩:=WO hn;obtain⟨fuel,hf⟩:=hd;cases fuel with
 | zero=>simp [DataW.trod] at hf
 | succ m=>
   rw [DataW.trod_step] at hf;unfold DataW.trodStep at hf;simp only [hu,Value.cells] at hf;rw [if_pos (by rw [size];rfl)] at hf;simp only [Option.map_eq_some_iff] at hf;obtain⟨ys,hy,_⟩:=hf;have hm:=IP _ ys hy;rw [aD] at hm;have g:∀i,i<5->∃a,([c0,c1,c2,c3,c4].drop (i*1)).take 1=[Value.int q a]:=λi hi=>by
    obtain⟨y,h1⟩:=hm i (List.mem_range.2 hi);obtain⟨a,h2,_⟩:=DataW.trod_int he h1;exact⟨a,h2⟩
   obtain⟨a0,e0⟩:=g 0 (by omega);obtain⟨a1,e1⟩:=g 1 (by omega);obtain⟨a2,e2⟩:=g 2 (by omega);obtain⟨a3,e3⟩:=g 3 (by omega);obtain⟨a4,e4⟩:=g 4 (by omega);simp at e0 e1 e2 e3 e4;subst e0 e1 e2 e3 e4;exact⟨a0,a1,a2,a3,a4,rfl⟩
theorem LE:(YtipomeafemoelaaGreatDoor.Rows.laid_strongtx_isa_forms:DataW Unit)=.agg (jE.map λx=>.agg [.lit (.string x.1),.lit (.string x.2)]):=by rfl
theorem Dg {W:World} (h:Lib.VarReads Tryz.prog W "strongtx/isa.forms" YtipomeafemoelaaGreatDoor.Rows.laid_strongtx_isa_forms):∃e fr,W.heap[0]? = some (.cells fW.toArray e fr):=by
 rw [LE] at h;obtain⟨g,t,cs,fuel,p,hg,ht,hv,hd⟩:=h;have y9:Tryz.prog.globalNamed "strongtx/isa.forms" = some 0:=by kernel_rfl
 obtain rfl:=Option.some.inj (y9.symm.trans hg);have ht0:(Tryz.prog.globals[0]?).map (·.type)=some 242:=by kernel_rfl
 obtain rfl:=Option.some.inj (ht0.symm.trans ht);have hcs:∃e fr,W.heap[0]? = some (.cells cs e fr):=by
  unfold World.var? at hv;rw [y9] at hv;simp only [Option.bind_some] at hv;split at hv;rename_i c e fr hh;injection hv with hv;subst hv;exact⟨e,fr,hh⟩;cases hv
 obtain⟨e,fr,hh⟩:=hcs;refine⟨e,fr,?_⟩;rw [hh];congr 2;obtain⟨xs,m,_,hx,hl,bG,hf⟩:=DataW.trod_array (P:=Tryz.prog) (n:=18) (e:=241) Tryz.underlying242 hd;have c89:Tryz.prog.cellsOf 241=2:=by kernel_rfl
 have c9:Tryz.prog.cellsOf 9=1:=by kernel_rfl
 have c90:Tryz.prog.cellsOf 242=36:=by kernel_rfl
 rw [c89] at hf;injection hx with hx _;injection hx with hx;have key:∀i (hi:i<18),cs.toList[i*2]? = some (.string (bs (jE.getD i ([],[])).1))/\cs.toList[i*2+1]? = some (.string (bs (jE.getD i ([],[])).2)):=by
  intro i hi;obtain⟨y,hy⟩:∃y,xs[i]? = some y:=⟨_,List.getElem?_eq_getElem (by rw [bG];exact hi)⟩;have h1:=(hf i hi).trans hy;obtain⟨zs,m2,_,hz,FD,Qy,GS⟩:=DataW.trod_struct Tryz.underlying241 h1;have nA:∀i,i<2->∃y,zs[i]? = some y:=λi hi=>⟨_,List.getElem?_eq_getElem (by rw [Qy];exact hi)⟩;obtain⟨z0,d0⟩:=nA 0 (by omega);obtain⟨z1,d1⟩:=nA 1 (by omega);have r0:DataW.trod (λ_=>()) Tryz.prog W 0 (λ_=>true) false m2 9 ((((cs.toList.drop (i*2)).take 2).drop 0).take (Tryz.prog.cellsOf 9))=some z0:=(GS 0 _ rfl).trans d0;have r1:DataW.trod (λ_=>()) Tryz.prog W 0 (λ_=>true) false m2 9 ((((cs.toList.drop (i*2)).take 2).drop 1).take (Tryz.prog.cellsOf 9))=some z1:=(GS 1 _ rfl).trans d1;rw [c9] at r0 r1;obtain⟨s0,q0,x0,_⟩:=DataW.trod_string Tryz.underlying9 r0;obtain⟨s1,q1,x1,_⟩:=DataW.trod_string Tryz.underlying9 r1;have g0:=congrArg (·[0]?) q0;have g1:=congrArg (·[0]?) q1;simp [List.getElem?_take,List.getElem?_drop] at g0 g1
  have hyz:y.1=.agg [.lit (.string s0.data.toList),.lit (.string s1.data.toList)]:=by
   rw [hz];have:zs=[z0,z1]:=by
    apply List.ext_getElem?;intro j;have hl3:zs.length=2:=Qy;by_cases h0:j=0;subst h0;rw [d0];rfl;by_cases h1:j=1;subst h1;rw [d1];rfl;rw [List.getElem?_eq_none (by omega),List.getElem?_eq_none (by simp;omega)]
   rw [this,x0,x1];rfl
  have hxi:=congrArg (·[i]?) hx;simp only [List.getElem?_map,hy,Option.map_some] at hxi;have hfi:jE[i]? = some (jE.getD i ([],[])):=by
   rw [List.getD_eq_getElem?_getD,List.getElem?_eq_getElem (show i<jE.length from hi)];rfl
  rw [hfi] at hxi;simp only [Option.map_some,Option.some.injEq] at hxi;have VI:=hxi.trans hyz;generalize jE.getD i ([],[])=nm at VI ⊢;simp only [DataW.agg.injEq,List.cons.injEq,DataW.lit.injEq,Lit.string.injEq,and_true] at VI;obtain⟨u0,u1⟩:=VI;rw [u0,u1];exact⟨by rw [Array.getElem?_toList];exact g0,by rw [Array.getElem?_toList];exact g1⟩
 have kv:cs.toList.length=36:=by rw [hl,c90]
 apply Array.ext';show cs.toList=fW;apply List.ext_getElem?;intro j;by_cases hj:j<36;have hk:=key (j / 2) (by omega);have Ta:∀i,i<18->fW[i*2]? = some (.string (bs (jE.getD i ([],[])).1))/\fW[i*2+1]? = some (.string (bs (jE.getD i ([],[])).2)):=by
  intro i hi;have:i=0\/i=1\/i=2\/i=3\/i=4\/i=5\/i=6\/i=7\/i=8\/i=9\/i=10\/i=11\/i=12\/i=13\/i=14\/i=15\/i=16\/i=17:=by omega
  rcases this with rfl|rfl|rfl|rfl|rfl|rfl|rfl|rfl|rfl|rfl|rfl|rfl|rfl|rfl|rfl|rfl|rfl|rfl<;>exact⟨rfl,rfl⟩
 have hf:=Ta (j / 2) (by omega);by_cases hm:j % 2=0;have e:j=j / 2*2:=by omega
 rw [e,hk.1,hf.1];have e:j=j / 2*2+1:=by omega
 rw [e,hk.2,hf.2];rw [List.getElem?_eq_none (by omega),List.getElem?_eq_none (by show fW.length<=j;have:fW.length=36:=rfl;omega)]
@[reducible] def glOf (W:World):Gl:={ B:=λb=>if b<4 then W.heap[b]? else none,ok:=λg=>g == 0,N:=4,lt:=λg h=>by have:=eq_of_beq h;omega }
theorem laid_self (W:World):∀b x,(glOf W).B b=some x->W.heap[b]? = some x:=λb x h=>by
 have h':(if b<4 then W.heap[b]? else none)=some x:=h;split at h';exact h';cases h'
theorem fok_of {W:World} (h:Lib.VarReads Tryz.prog W "strongtx/isa.forms" YtipomeafemoelaaGreatDoor.Rows.laid_strongtx_isa_forms):@FOK (glOf W):=by
 obtain⟨e,fr,hh⟩:=Dg h;exact @FOK.mk (glOf W) rfl rfl ⟨e,fr,hh⟩
section
variable [Gl]
theorem KZ {m:Mp} (a0 a1 a2 a3 a4:Int):bB m (.agg #[.int .i64 a0,.int .i64 a1,.int .i64 a2,.int .i64 a3,.int .i64 a4]) (.agg #[.int .i64 a0,.int .i64 a1,.int .i64 a2,.int .i64 a3,.int .i64 a4]):=by
 refine .agg rfl λi v v' h1 h2=>?_;rw [h1] at h2;injection h2 with h2;subst h2;have hi:=(Array.getElem?_eq_some_iff.1 h1).1;have:i=0\/i=1\/i=2\/i=3\/i=4:=by simp at hi;omega
 rcases this with rfl|rfl|rfl|rfl|rfl<;>simp at h1<;>subst h1<;>exact .int _ _
def IntsIn (k:IntKind) (w:World) (a:Option Addr) (len ef:Nat) (zs:List Int):Prop:=
 (a=none/\len=0/\ef=0/\zs=[])\/∃x,a=some x/\len<=ef/\ef<=maxLen/\zs.length=ef/\(∀i,i<zs.length->w.cell? (x.add i)=some (.int k (zs.getD i 0)))/\∀n∈zs,(Lit.int k n).wf=true
def RowsZ (w:World) (a:Option Addr) (len ef:Nat):Prop:=
 (a=none/\len=0/\ef=0)\/∃x,a=some x/\len<=ef/\ef<=maxLen/\∃(R:Nat->Option Addr) (L C:Nat->Nat) (Z:Nat->List Int),∀r,r<ef->w.cell? (x.add r)=some (.slice (R r) (L r) (C r))/\L r<=17592186044415/\
  ((R r=none/\L r=0/\C r=0/\Z r=[])\/∃y,R r=some y/\L r<=C r/\C r<=maxLen/\(Z r).length=C r/\(∀i,i<(Z r).length->w.cell? (y.add i)=some (.int .i64 ((Z r).getD i 0)))/\∀n∈Z r,(Lit.int .i64 n).wf=true)
theorem IW {m:Mp} {A:AW} {w:World} (hs:jM m A w) (zO:A.tz) {a:Option Addr} {len ef:Nat} (h:RowsZ w a len ef) :
 ∃m' A' v ls,Mp.le m m'/\A.le A'/\jM m' A' w/\A'.tz/\bB m' v (.slice a len ef)/\qr A' v ls/\ls.length<=maxLen/\∀x∈ls,x.length<=17592186044415:=by
 rcases h with ⟨rfl,rfl,rfl⟩|⟨x,rfl,N8,Y2,R,L,C,Z,hr⟩;exact⟨m,A,.slice none 0 0,[],Mp.le_refl m,AW.le.refl A,hs,zO,.li,⟨[],.inl ⟨⟨none,rfl⟩,rfl,rfl⟩,λi hi=>by simp at hi⟩,Nat.zero_le _,by simp⟩;by_cases Y4:ef=0;subst Y4;have:len=0:=by omega
 subst this;exact⟨m,A,.slice (some ⟨0,0,some 0⟩) 0 0,[],Mp.le_refl m,AW.le.refl A,hs,zO,.slice (.inr ⟨rfl,rfl,.inl rfl⟩) (Nat.le_refl _) (Nat.le_refl _),⟨[],.inl ⟨⟨_,rfl⟩,rfl,rfl⟩,λi hi=>by simp at hi⟩,Nat.zero_le _,by simp⟩
 have qx:∀n,n<=ef->∃(m':Mp) (A':AW) (us:List Value) (ls:List (List Int)),Mp.le m m'/\A.le A'/\jM m' A' w/\A'.tz/\us.length=n/\ls.length=n/\(∀x∈ls,x.length<=17592186044415)/\(∀i v,us[i]? = some v->bB m' v (.slice (R i) (L i) (C i)))/\
  ∀i (hi:i<ls.length),∃u,us[i]? = some u/\bx A' .i64 u ls[i]:=by
  intro n
  induction n with
  | zero=>intro _;exact⟨m,A,[],[],Mp.le_refl m,AW.le.refl A,hs,zO,rfl,rfl,by simp,λi v h=>by simp at h,λi hi=>by simp at hi⟩
  | succ n ih=>
    intro hn;obtain⟨m1,A1,us,ls,h1,h2,h3,h4,h5,h6,hB,h7,h8⟩:=ih (by omega);obtain⟨_,Lo,bI⟩:=hr n (by omega);obtain⟨m2,A2,u,g1,g2,g3,g4,g5,g6,_⟩:=CN h3 h4 (k:=.i64) bI;have hk:=ff.jC g2 h3.xz;refine⟨m2,A2,us++[u],ls++[(Z n).take (L n)],Mp.le_trans h1 g1,h2.trans g2,g3,g4,by simp [h5],by simp [h6],λx hx=>?_,λi v hv=>?_,λi hi=>?_⟩;rcases List.mem_append.1 hx with hx|hx;exact hB x hx;simp only [List.mem_singleton] at hx;subst hx;rw [List.length_take];omega;rw [List.getElem?_append] at hv;split at hv;exact(h7 i v hv).mono g1;rename_i hi;have:i=n:=by
     have:=(List.getElem?_eq_some_iff.1 hv).1;simp at this;omega
    subst this;rw [h5] at hv;simp at hv;subst hv;exact g5;by_cases e:i<ls.length;obtain⟨v,q1,q2⟩:=h8 i e;refine⟨v,by rw [List.getElem?_append_left (by omega)];exact q1,?_⟩;rw [List.getElem_append_left e];exact q2.keeps hk;have:i=n:=by simp at hi;omega
    subst this;refine⟨u,by rw [List.getElem?_append_right (by omega),h5];simp,?_⟩;rw [List.getElem_append_right (by omega)]
    simpa using g6
 obtain⟨m1,A1,us,ls,h1,h2,h3,h4,h5,h6,hB,h7,h8⟩:=qx ef (Nat.le_refl _);have h0:=(hr 0 (by omega)).1;rw [show x.add 0=x by unfold Addr.add;simp] at h0;have xB:x.spot=none:=by
  unfold World.cell? at h0;split at h0;split at h0;cases h0;rename_i xB;simpa using xB;cases h0
 have C9:∃io e fr,w.heap[x.block]? = some (.cells io e fr):=by
  unfold World.cell? at h0;split at h0;rename_i c e fr hh;exact⟨c,e,fr,hh⟩;cases h0
 obtain⟨io,e,fr,C9⟩:=C9;have QN:∀i,i<ef->io[x.off+i]? = some (.slice (R i) (L i) (C i)):=λi hi=>by
  have h1:=(hr i hi).1;rw [mX _ _ xB] at h1
  simpa [World.cell?,C9] using h1
 obtain⟨R0,Lm⟩:=jM.MV h3 h4 us ⟨x.block,x.off,1,io.size⟩ C9 rfl (λj v hv=>by
  have hj:=(List.getElem?_eq_some_iff.1 hv).1;exact⟨_,QN j (by omega),h7 j v hv⟩)
 have QC:=(Array.getElem?_eq_some_iff.1 (QN (ef-1) (by omega))).1;have hk:=ff.jC (AW.le.alloc A1 (.cells us false 1)) h3.xz;refine⟨_,_,.slice (some ⟨A1.next,0,none⟩) len len,ls.take len,Mp.le_trans h1 (h3.CJ _),h2.trans (AW.le.alloc A1 _),R0,Lm,?_,⟨us.take len,?_,λi hi=>?_⟩,by rw [List.length_take];omega,λx hx=>hB x (List.mem_of_mem_take hx)⟩;refine .slice (.inl ⟨rfl,xB,⟨x.block,x.off,1,io.size⟩,by simp [Mp.ext],rfl,rfl,?_⟩) (Nat.le_refl _) N8;show x.off+ef*1<=io.size;omega;refine .inr ⟨⟨A1.next,0,none⟩,len,us,false,1,?_,?_,AW.bM _ _,rfl,?_,?_⟩;rw [List.length_take,Nat.min_eq_left (by omega)];simp;omega;simp;omega;rw [List.drop_zero,List.length_take,Nat.min_eq_left (by omega),Nat.mul_one];rw [List.length_take] at hi;obtain⟨u,q1,q2⟩:=h8 i (by omega);refine⟨u,by rw [List.getElem?_take_of_lt (by omega)];exact q1,?_⟩;rw [List.getElem_take];exact q2.keeps hk
end
section
open Go.ChangeShapes Go.WideShapes
theorem tQ {H:Type} {P:Program} {e:TypeId} {x:DataW H} {n:Nat} (hn:n∈x.weights P e):∀{l:List (DataW H)},x∈l->n∈DataW.weightsAll P e l
 | [],h=>by cases h
 | y::l,h=>by
   rw [DataW.weightsAll,List.mem_append];rcases List.mem_cons.1 h with rfl|h;exact .inl hn;exact .inr (tQ hn h)
theorem Ny {H:Type} {P:Program} {ts:List TypeId} {ds:List (DataW H)} (h:(DataW.weightsEach P ts ds).all (·<=reachBytes)=true) {j:Nat} {t e q:TypeId} {elems spare es sp:List (DataW H)} (ht:ts[j]? = some t) (hd:ds[j]? = some (.slice elems spare)) (hu:P.underlying t=some (.slice e)) (he:P.underlying e=some (.slice q)) (hm:.slice es sp∈elems++spare):(es.length+sp.length)*P.bytesOf q<=reachBytes:=by
 have h1:(es.length+sp.length)*P.bytesOf q∈DataW.weights P e (.slice es sp:DataW H):=by simp [DataW.weights,he]
 have h2:(es.length+sp.length)*P.bytesOf q∈DataW.weights P t (.slice elems spare:DataW H):=by
  simp only [DataW.weights,hu,List.mem_cons,List.mem_append];rcases List.mem_append.1 hm with hm|hm;exact .inr (.inl (tQ h1 hm));exact .inr (.inr (tQ h1 hm))
 have:=List.all_eq_true.1 h _ (DataW.weights_mem_each ht hd _ h2)
 simpa using this
theorem open_rowsZ {H:Type} {enc:TypeId×Value->H} {P:Program} {w:World} {t e q:TypeId} {fuel:Nat} {a:Option Addr} {len ef:Nat} {d:DataW H} {p:List MemPlace} (ht:P.underlying t=some (.slice e)) (he:P.underlying e=some (.slice q)) (hq:P.underlying q=some (.int .i64))
 (ce:P.cellsOf e=1) (cq:P.cellsOf q=1) (hb:P.bytesOf q=8) (hf:DataW.trod enc P w 0 (λ_=>true) true fuel t [.slice a len ef]=some (d,p))
 {ts:List TypeId} {ds:List (DataW H)} (hz:(DataW.weightsEach P ts ds).all (·<=reachBytes)=true) {j:Nat} (hj:ts[j]? = some t) (hd:ds[j]? = some d):RowsZ w a len ef:=by
 rcases Go.Deep.open_int_rows ht he hq ce cq hf with ⟨hcs,_⟩|⟨x,l,c,R,L,C,Z,hcs,_,hl,hm,hx,hr⟩;simp at hcs;obtain⟨rfl,rfl,rfl⟩:=hcs;exact .inl ⟨rfl,rfl,rfl⟩;simp at hcs;obtain⟨rfl,rfl,rfl⟩:=hcs;injection hx with hx _;subst hx;refine .inr ⟨_,rfl,hl,hm,R,L,C,Z,λr vE=>?_⟩;obtain⟨g1,g2,g3,g4,g5,g6,g7⟩:=hr r vE;have GP:Go.Deep.intRow (H:=H) .i64 (R r) (L r) (Z r)∈((List.range len).map λr=>Go.Deep.intRow .i64 (R r) (L r) (Z r))++((List.range (ef-len)).map λj=>Go.Deep.intRow .i64 (R (len+j)) (L (len+j)) (Z (len+j))):=by
  rw [List.mem_append];by_cases h:r<len;exact .inl (List.mem_map.2 ⟨r,List.mem_range.2 h,rfl⟩);exact .inr (List.mem_map.2 ⟨r-len,List.mem_range.2 (by omega),by rw [show len+(r-len)=r by omega]⟩)
 cases hR:R r with
 | none=>
   have hC:=g6 hR;exact⟨hR▸g1,by omega,.inl ⟨rfl,by omega,hC,List.eq_nil_of_length_eq_zero (by omega)⟩⟩
 | some y=>
   refine⟨hR▸g1,?_,.inr ⟨y,rfl,g2,g3,g4,λc hc=>(g7 y hR).2 c (by omega),g5⟩⟩;rw [hR] at GP;have h1:=Ny hz hj hd ht he GP;rw [hb] at h1;have h47:=reachBytes_lt;simp only [lits,List.length_map,List.length_take,List.length_drop] at h1;omega
end
end
section
open Go.RowKit
variable [Gl]
theorem mp_world (hF:FOK) (W:World) (R1:∀b x,Gl.B b=some x->W.heap[b]? = some x) (b0 b1 b2 b3 b4:Int) (a1:Option Addr) (len1 cap1:Nat) (w1:RowsZ W a1 len1 cap1) (a2:Option Addr) (len2 cap2:Nat) (z2:List Int) (w2:IntsIn .i64 W a2 len2 cap2 z2) (oL:len2<=17592186044415) (a3:Bool) (a4:Int) :
 Calls Tryz.prog 3 #[.agg #[.int .i64 b0,.int .i64 b1,.int .i64 b2,.int .i64 b3,.int .i64 b4],.slice a1 len1 cap1,.slice a2 len2 cap2,.bool a3,.int .i64 a4] W λe w'=>e=.returned (.bool true)/\Below W.heap.size W w':=by
 have s0:=jM.mu W R1;have n0:=AW.tz.mu;obtain⟨m1,A1,v1,ls,le1,g1,s1,n1,r1,h1,HR,k7⟩:=IW s0 n0 w1;obtain⟨m2,A2,v2,le2,g2,s2,n2,r2,h2,_⟩:=CN s1 n1 (k:=.i64) w2;refine Dy (xe hF (Hd hF) b0 b1 b2 b3 b4 v1 v2 ls (z2.take len2) a3 a4 A2 (h1.keeps (ff.jC g2 s1.xz)) h2 HR k7 (by rw [List.length_take];omega)) (λv A' h=>h) s2 n2 ?_;exact .cons (KZ _ _ _ _ _) (.cons (r1.mono le2) (.cons r2 (.cons (.bool _) (.cons (.int _ _) .nil))))
end
end Go.Stx
