/-
 ThreadFaults, called in the model's own world.
-/
import Derived.Test.YtejgooipbmnioaaGreatDoorG40
import Derived.Lib.LaidU8
import Derived.Shelf.Vars
import Derived.LaidMore
import Derived.Test.YtejgooipbmnioaaGreatDoorRows
import Derived.Deep.Slices
import Derived.Lib.SmallJoins
set_option linter.unusedVariables false
set_option linter.unusedSimpArgs false
set_option linter.unusedSectionVars false
set_option maxRecDepth 20000
set_option maxHeartbeats 4000000
namespace Go.Stx
open Go Go.Proofs
attribute [local irreducible] eg bn aC aV cR df
section
open Go.RowKit
theorem EF {α β:Type} {f:α→Option β}:∀(L:List α) (ys:List β),L.mapM f=some ys→∀x∈L,∃y,f x=some y
 | [],_,_,x,hx=>by simp at hx
 | a::L,ys,h,x,hx=>by
   rw [List.mapM_cons] at h
   simp only [bind,Option.bind_eq_some_iff,pure,Option.some.injEq] at h
   obtain⟨y,hy,zs,hz,_⟩:=h
   rcases List.mem_cons.1 hx with rfl|hx
   · exact⟨y,hy⟩
   · exact EF L zs hz x hx
theorem Qr {α:Type} {cs:Array α} (h:cs.size=5):∃c0 c1 c2 c3 c4,cs = #[c0,c1,c2,c3,c4]:=by
 obtain⟨l⟩:=cs
 match l,h with
 | [c0,c1,c2,c3,c4],_=>exact⟨c0,c1,c2,c3,c4,rfl⟩
theorem okWide_arr5 {P:Program} {W:World} {k e:TypeId} (hu:P.underlying k=some (.array 5 e)) (size:P.cellsOf k=5) {r:Reach} {b0:Nat} {v:Value} (h:Value.okWide P W r b0 k v):∃xs:Array Value,v=.agg xs∧xs.size=5:=by
 simp only [Value.okWide,hu] at h
 obtain⟨cs,h1,h2,_⟩:=h
 exact⟨cs,h1,by rw [h2,size]⟩
theorem open_arr5 {H:Type} {enc:TypeId×Value→H} {P:Program} {W:World} {base:Nat} {sp:Nat→Bool} {VC:Bool} {k e:TypeId} {q:IntKind} (hu:P.underlying k=some (.array 5 e)) (he:P.underlying e=some (.int q)) (bh:P.cellsOf e=1) (size:P.cellsOf k=5)
 {xs:Array Value} (hn:xs.size=5) {d:DataW H} {ps:List MemPlace} (hd:DataW.Trod enc P W base sp VC k (.agg xs) d ps):∃a0 a1 a2 a3 a4,xs = #[.int q a0,.int q a1,.int q a2,.int q a3,.int q a4]:=by
 obtain⟨c0,c1,c2,c3,c4,rfl⟩:=Qr hn
 obtain⟨CX,hf⟩:=hd
 cases CX with
 | zero=>simp [DataW.trod] at hf
 | succ m=>
   rw [DataW.trod_step] at hf
   unfold DataW.trodStep at hf
   simp only [hu,Value.cells] at hf
   rw [if_pos (by rw [size];rfl)] at hf
   simp only [Option.map_eq_some_iff] at hf
   obtain⟨ys,hy,_⟩:=hf
   have hm:=EF _ ys hy
   rw [bh] at hm
   have g:∀i,i<5→∃a,([c0,c1,c2,c3,c4].drop (i*1)).take 1=[Value.int q a]:=fun i hi=>by
    obtain⟨y,h1⟩:=hm i (List.mem_range.2 hi)
    obtain⟨a,h2,_⟩:=DataW.trod_int he h1
    exact⟨a,h2⟩
   obtain⟨a0,e0⟩:=g 0 (by omega)
   obtain⟨a1,e1⟩:=g 1 (by omega)
   obtain⟨a2,e2⟩:=g 2 (by omega)
   obtain⟨a3,e3⟩:=g 3 (by omega)
   obtain⟨a4,e4⟩:=g 4 (by omega)
   simp at e0 e1 e2 e3 e4
   subst e0 e1 e2 e3 e4
   exact⟨a0,a1,a2,a3,a4,rfl⟩
theorem GX:(YtejgooipbmnioaaGreatDoor.Rows.laid_strongtx_isa_forms:DataW Unit)=.agg (iy.map fun x=>.agg [.lit (.string x.1),.lit (.string x.2)]):=by rfl
theorem y8 {W:World} (h:Lib.VarReads Tryz.prog W "strongtx/isa.forms" YtejgooipbmnioaaGreatDoor.Rows.laid_strongtx_isa_forms):∃e fr,W.heap[0]? = some (.cells fo.toArray e fr):=by
 rw [GX] at h
 obtain⟨g,t,cs,CX,p,hg,ht,hv,hd⟩:=h
 have uX:Tryz.prog.globalNamed "strongtx/isa.forms" = some 0:=by kernel_rfl
 obtain rfl:=Option.some.inj (uX.symm.trans hg)
 have YG:(Tryz.prog.globals[0]?).map (·.type)=some 321:=by kernel_rfl
 obtain rfl:=Option.some.inj (YG.symm.trans ht)
 have vE:∃e fr,W.heap[0]? = some (.cells cs e fr):=by
  unfold World.var? at hv
  rw [uX] at hv
  simp only [Option.bind_some] at hv
  split at hv
  · rename_i c e fr hh
    injection hv with hv
    subst hv
    exact⟨e,fr,hh⟩
  · cases hv
 obtain⟨e,fr,hh⟩:=vE
 refine⟨e,fr,?_⟩
 rw [hh]
 congr 2
 obtain⟨xs,m,_,hx,hl,bW,hf⟩:=DataW.trod_array (P:=Tryz.prog) (n:=18) (e:=320) Tryz.underlying321 hd
 have ZP:Tryz.prog.cellsOf 320=2:=by kernel_rfl
 have c9:Tryz.prog.cellsOf 9=1:=by kernel_rfl
 have ZO:Tryz.prog.cellsOf 321=36:=by kernel_rfl
 rw [ZP] at hf
 injection hx with hx _
 injection hx with hx
 have key:∀i (hi:i<18),cs.toList[i*2]? = some (.string (bs (iy.getD i ([],[])).1))∧cs.toList[i*2+1]? = some (.string (bs (iy.getD i ([],[])).2)):=by
  intro i hi
  obtain⟨y,hy⟩:∃y,xs[i]? = some y:=⟨_,List.getElem?_eq_getElem (by rw [bW];exact hi)⟩
  have h1:=(hf i hi).trans hy
  obtain⟨zs,m2,_,hz,GP,Ow,FE⟩:=DataW.trod_struct Tryz.underlying320 h1
  have mr:∀i,i<2→∃y,zs[i]? = some y:=fun i hi=>⟨_,List.getElem?_eq_getElem (by rw [Ow];exact hi)⟩
  obtain⟨z0,d0⟩:=mr 0 (by omega)
  obtain⟨z1,d1⟩:=mr 1 (by omega)
  have r0:DataW.trod (fun _=>()) Tryz.prog W 0 (fun _=>true) false m2 9 ((((cs.toList.drop (i*2)).take 2).drop 0).take (Tryz.prog.cellsOf 9))=some z0:=(FE 0 _ rfl).trans d0
  have r1:DataW.trod (fun _=>()) Tryz.prog W 0 (fun _=>true) false m2 9 ((((cs.toList.drop (i*2)).take 2).drop 1).take (Tryz.prog.cellsOf 9))=some z1:=(FE 1 _ rfl).trans d1
  rw [c9] at r0 r1
  obtain⟨s0,q0,x0,_⟩:=DataW.trod_string Tryz.underlying9 r0
  obtain⟨s1,q1,x1,_⟩:=DataW.trod_string Tryz.underlying9 r1
  have g0:=congrArg (·[0]?) q0
  have g1:=congrArg (·[0]?) q1
  simp [List.getElem?_take,List.getElem?_drop] at g0 g1
  have Yu:y.1=.agg [.lit (.string s0.data.toList),.lit (.string s1.data.toList)]:=by
   rw [hz]
   have:zs=[z0,z1]:=by
    apply List.ext_getElem?
    intro j
    have hl3:zs.length=2:=Ow
    by_cases h0:j=0
    · subst h0;rw [d0];rfl
    · by_cases h1:j=1
      · subst h1;rw [d1];rfl
      · rw [List.getElem?_eq_none (by omega),List.getElem?_eq_none (by simp;omega)]
   rw [this,x0,x1]
   rfl
  have Tz:=congrArg (·[i]?) hx
  simp only [List.getElem?_map,hy,Option.map_some] at Tz
  have Zg:iy[i]? = some (iy.getD i ([],[])):=by
   rw [List.getD_eq_getElem?_getD,List.getElem?_eq_getElem (show i<iy.length from hi)]
   rfl
  rw [Zg] at Tz
  simp only [Option.map_some,Option.some.injEq] at Tz
  have Px:=Tz.trans Yu
  generalize iy.getD i ([],[])=nm at Px ⊢
  simp only [DataW.agg.injEq,List.cons.injEq,DataW.lit.injEq,Lit.string.injEq,and_true] at Px
  obtain⟨u0,u1⟩:=Px
  rw [u0,u1]
  exact⟨by rw [Array.getElem?_toList];exact g0,by rw [Array.getElem?_toList];exact g1⟩
 have i8:cs.toList.length=36:=by rw [hl,ZO]
 apply Array.ext'
 show cs.toList=fo
 apply List.ext_getElem?
 intro j
 by_cases hj:j<36
 · have hk:=key (j / 2) (by omega)
   have Nl:∀i,i<18→fo[i*2]? = some (.string (bs (iy.getD i ([],[])).1))∧fo[i*2+1]? = some (.string (bs (iy.getD i ([],[])).2)):=by
    intro i hi
    have:i=0∨i=1∨i=2∨i=3∨i=4∨i=5∨i=6∨i=7∨i=8∨i=9∨i=10∨i=11∨i=12∨i=13∨i=14∨i=15∨i=16∨i=17:=by omega
    rcases this with rfl|rfl|rfl|rfl|rfl|rfl|rfl|rfl|rfl|rfl|rfl|rfl|rfl|rfl|rfl|rfl|rfl|rfl<;>exact⟨rfl,rfl⟩
   have hf:=Nl (j / 2) (by omega)
   by_cases hm:j % 2=0
   · have e:j=j / 2*2:=by omega
     rw [e,hk.1,hf.1]
   · have e:j=j / 2*2+1:=by omega
     rw [e,hk.2,hf.2]
 · rw [List.getElem?_eq_none (by omega),List.getElem?_eq_none (by show fo.length≤j;have:fo.length=36:=rfl;omega)]
@[reducible] def glOf (W:World):Gl:={ B:=fun b=>if b<4 then W.heap[b]? else none,ok:=fun g=>g == 0,N:=4,lt:=fun g h=>by have:=eq_of_beq h;omega }
theorem laid_self (W:World):∀b x,(glOf W).B b=some x→W.heap[b]? = some x:=fun b x h=>by
 have h':(if b<4 then W.heap[b]? else none)=some x:=h
 split at h'
 · exact h'
 · cases h'
theorem fok_of {W:World} (h:Lib.VarReads Tryz.prog W "strongtx/isa.forms" YtejgooipbmnioaaGreatDoor.Rows.laid_strongtx_isa_forms):@FOK (glOf W):=by
 obtain⟨e,fr,hh⟩:=y8 h
 exact @FOK.mk (glOf W) rfl rfl ⟨e,fr,hh⟩
section
variable [Gl]
theorem GC {m:Mp} (a0 a1 a2 a3 a4:Int):bG m (.agg #[.int .i64 a0,.int .i64 a1,.int .i64 a2,.int .i64 a3,.int .i64 a4]) (.agg #[.int .i64 a0,.int .i64 a1,.int .i64 a2,.int .i64 a3,.int .i64 a4]):=by
 refine .agg rfl fun i v v' h1 h2=>?_
 rw [h1] at h2
 injection h2 with h2
 subst h2
 have hi:=(Array.getElem?_eq_some_iff.1 h1).1
 have:i=0∨i=1∨i=2∨i=3∨i=4:=by simp at hi;omega
 rcases this with rfl|rfl|rfl|rfl|rfl<;>simp at h1<;>subst h1<;>exact .int _ _
theorem tf_world (hF:FOK) (W:World) (Ox:∀b x,Gl.B b=some x→W.heap[b]? = some x) (b0 b1 b2 b3 b4 a1 a2:Int) (a3:Bool) :
 Calls Tryz.prog 4 #[.agg #[.int .i64 b0,.int .i64 b1,.int .i64 b2,.int .i64 b3,.int .i64 b4],.int .i64 a1,.int .i64 a2,.bool a3] W fun e w'=>e=.returned (.bool true)∧Below W.heap.size W w':=by
 have s0:=jv.jS W Ox
 have n0:=AW.Iw.jS
 refine zr (u5 hF b0 b1 b2 b3 b4 a1 a2 a3 AW.jS) (fun v A' h=>h) s0 n0 ?_
 exact .cons (GC _ _ _ _ _) (.cons (.int _ _) (.cons (.int _ _) (.cons (.bool _) .nil)))
end
end
end Go.Stx
