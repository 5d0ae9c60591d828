/-
 The program's thread: how it lies in memory; records behind a slice.
-/
import Derived.Test.YtipomeafemoelaaGreatDoorG10
set_option linter.unusedVariables false
set_option linter.unusedSimpArgs false
set_option linter.unusedSectionVars false
set_option maxRecDepth 20000
set_option maxHeartbeats 4000000
namespace Go.Stx
open Go Go.Proofs
attribute [local irreducible] cM aS ax aH cJ de TW bA
section
open Go.Proofs Go
variable [Gl]
theorem cY.Hh {P:Program} {A:AW} {t e:TypeId} {i:TypeInfo} {z:Value} {v:Value} {size m:Nat} {cs lK:List Value} {F:HP} (n:Nat)
 (hu:P.underlying t=some (.slice e)) (hi:P.info? e=some i) (hz:i.zero=some z) (gv:i.size=size) (nA:z.cells.size=size) (h0:0<size)
 (hn:A.bg n=some (.cells lK true size)) (AI:lK.length=size) (lN:lK.all Value.oneCell'=true) (h:bk A (cY size v m cs*F)) (bG:m<2 ^ 30) (vJ:i.bytes<=2 ^ 16) (hw:A.Wf) :
 ∃v' A',eU P A t t v (.slice (some ⟨n,0,none⟩) 1 1)=some (v',A')/\bk A' (cY size v' (m+1) (cs++lK)*F)/\A'.Wf/\A.next<=A'.next:=by
 subst gv;have iF:fK A i.size (.slice (some ⟨n,0,none⟩) 1 1)=some (1,lK):=by
  have e1:lK.take i.size=lK:=List.take_of_length_le (by omega);simp [fK,AW.bP,hn,AI,e1]
 have hb:(m+1)*i.bytes<=140737488355328:=by
  have h1:=Nat.mul_le_mul (show m+1<=2 ^ 30 by omega) vJ;omega
 have k7:m+1<=140737488355328:=by omega
 rcases cY.cases h with ⟨rfl,rfl,rfl,h2⟩|⟨b,off,c,bP,rfl,h1,h2,h3,h4⟩
 . refine⟨.slice (some ⟨A.next,0,none⟩) (0+1) (0+1),A.alloc (.cells ([]++lK) true i.size),?_,?_,hw.alloc _,by simp⟩
   . simp only [eU,hu,hi,hz,iF,gr];rw [if_pos ⟨nA,h0,trivial⟩,if_neg (by omega),if_pos ⟨k7,hb,lN⟩]
     try simp
   have:=h2.alloc hw (.cells ([]++lK) true i.size);have h9:bk (A.alloc (.cells ([]++lK) true i.size)) (pt A.next (.cells lK true i.size)*F):=this;exact cY.mk (size:=i.size) (n:=1) (off:=0) (c:=1) (by simp) (by simp [AI]) (by simp [<-AI]) h9
 have hg:=h4.bg;have bL:=hw.lt hg;have kv:cs.length=m*i.size:=by rw [h3,List.length_take,List.length_drop];omega
 refine⟨.slice (some ⟨A.next,0,none⟩) (m+1) (m+1),(A.set b none).alloc (.cells ((bP.drop off).take (m*i.size)++lK) true i.size),?_,?_,
  (hw.set none bL).alloc _,by simp⟩
 simp only [eU,hu,hi,hz,iF,gr,hg];rw [if_pos ⟨nA,h0,trivial⟩,if_neg (by simp),if_pos ⟨trivial,h2⟩];simp only;rw [if_neg (by omega),if_pos ⟨k7,hb,lN⟩];have h5:=(h4.KW).alloc (hw.set none bL) (.cells ((bP.drop off).take (m*i.size)++lK) true i.size);have h6:bk ((A.set b none).alloc (.cells ((bP.drop off).take (m*i.size)++lK) true i.size)) (pt A.next (.cells (cs++lK) true i.size)*F):=by
  have:=h5;rw [<-h3] at this ⊢;exact this
 have h7:(cs++lK).length=(m+1)*i.size:=by rw [List.length_append,kv,AI,Nat.add_mul,Nat.one_mul]
 refine cY.mk (Nat.le_refl _) (by omega) ?_ h6;rw [List.drop_zero,List.take_of_length_le (by omega)]
theorem cY.TJ {P:Program} {A:AW} {t e:TypeId} {i:TypeInfo} {z:Value} {v x:Value} {size m m2:Nat} {cs lK:List Value} {F:HP}
 (hu:P.underlying t=some (.slice e)) (hi:P.info? e=some i) (hz:i.zero=some z) (gv:i.size=size) (nA:z.cells.size=size) (h0:0<size)
 (hx:dM A size x m2 lK) (lN:lK.all Value.oneCell'=true) (h:bk A (cY size v m cs*F)) (bG:m+m2<2 ^ 30) (vJ:i.bytes<=2 ^ 16) (hw:A.Wf) :
 ∃v' A',eU P A t t v x=some (v',A')/\bk A' (cY size v' (m+m2) (cs++lK)*F)/\A'.Wf/\A.next<=A'.next:=by
 subst gv;have iF:fK A i.size x=some (m2,lK):=dM.ng hx;have AI:lK.length=m2*i.size:=hx.length;have hb:(m+m2)*i.bytes<=140737488355328:=by
  have h1:=Nat.mul_le_mul (show m+m2<=2 ^ 30 by omega) vJ;omega
 have k7:m+m2<=140737488355328:=by omega
 by_cases hm:m2=0;subst hm;have N5:lK=[]:=List.eq_nil_of_length_eq_zero (by omega);subst N5;refine⟨v,A,?_,by simpa using h,hw,Nat.le_refl _⟩;have holds:∃b,gr A i.size v=some (b,m,cs):=by
  rcases cY.cases h with ⟨rfl,rfl,rfl,h2⟩|⟨b,off,c,bP,rfl,h1,h2,h3,h4⟩;exact⟨none,rfl⟩;refine⟨some ⟨b,off,none⟩,?_⟩;simp [gr,h4.bg,h2,h3]
 obtain⟨b,vG⟩:=holds;simp [eU,hu,hi,hz,nA,h0,iF,vG];rcases cY.cases h with ⟨rfl,rfl,rfl,h2⟩|⟨b,off,c,bP,rfl,h1,h2,h3,h4⟩;refine⟨.slice (some ⟨A.next,0,none⟩) (0+m2) (0+m2),A.alloc (.cells lK true i.size),?_,?_,hw.alloc _,by simp⟩;simp only [eU,hu,hi,hz,iF,gr];rw [if_pos ⟨nA,h0,trivial⟩,if_neg hm,if_pos ⟨k7,hb,lN⟩];simp;have h9:=h2.alloc hw (.cells lK true i.size);exact cY.mk (size:=i.size) (n:=0+m2) (off:=0) (c:=0+m2) (Nat.le_refl _) (by simp [AI]) (by simp [<-AI]) h9;have hg:=h4.bg;have bL:=hw.lt hg;have kv:cs.length=m*i.size:=by rw [h3,List.length_take,List.length_drop];omega
 refine⟨.slice (some ⟨A.next,0,none⟩) (m+m2) (m+m2),(A.set b none).alloc (.cells ((bP.drop off).take (m*i.size)++lK) true i.size),?_,?_,
  (hw.set none bL).alloc _,by simp⟩
 simp only [eU,hu,hi,hz,iF,gr,hg];rw [if_pos ⟨nA,h0,trivial⟩,if_neg (by simp),if_pos ⟨trivial,h2⟩];simp only;rw [if_neg hm,if_pos ⟨k7,hb,lN⟩];have h5:=(h4.KW).alloc (hw.set none bL) (.cells ((bP.drop off).take (m*i.size)++lK) true i.size);have h6:bk ((A.set b none).alloc (.cells ((bP.drop off).take (m*i.size)++lK) true i.size)) (pt A.next (.cells (cs++lK) true i.size)*F):=by
  have:=h5;rw [<-h3] at this ⊢;exact this
 have h7:(cs++lK).length=(m+m2)*i.size:=by rw [List.length_append,kv,AI,Nat.add_mul]
 refine cY.mk (Nat.le_refl _) (by omega) ?_ h6;rw [List.drop_zero,List.take_of_length_le (by omega)]
section
variable {P:Program} {S:AW->Prop} {K:Fr->AW->Prop} {fu:List xu} {a:Fr} {A:AW} {d:Option Tmp} {m:Nat} {x y:Operand} {t e:TypeId} {i:TypeInfo} {z:Value} {n size:Nat} {v:Value} {cs lK:List Value} {L K':List It}
theorem PE {k':Value->AW->Prop} (hu:P.underlying t=some (.slice e)) (hi:P.info? e=some i) (hz:i.zero=some z) (gv:i.size=size) (nA:z.cells.size=size) (h0:0<size) (vJ:i.bytes<=2 ^ 16)
 (e1:ia a x=v) (e2:ia a y=.slice (some ⟨n,0,none⟩) 1 1) (hw:A.Wf) (hS:ah A L) (hp:ay L (.h (cY size v m cs)) K') (hn:A.bg n=some (.cells lK true size)) (AI:lK.length=size) (lN:lK.all Value.oneCell'=true) (bG:m<2 ^ 30)
 (hk:∀o c A',ah A' (.h (cY size (.slice o (m+1) c) (m+1) (cs++lK))::K')->A'.Wf->A.next<=A'.next->k' (.slice o (m+1) c) A') :
 iI P (.call ⟨.builtin .append,#[x,y],#[t,t]⟩) (ia a) A k':=by
 have h1:bk A (cY size v m cs*aE K'):=by
  unfold ah at hS;rw [hp.aE] at hS;exact hS
 obtain⟨v',A',e3,h2,h3,h4⟩:=cY.Hh (P:=P) (t:=t) n hu hi hz gv nA h0 hn AI lN h1 bG vJ hw;obtain⟨o,c,h5,_⟩:=(cY.is h2).bE;subst h5;exact Aa e1 e2 e3 (hk o c A' h2 h3 h4)
theorem ye (hu:P.underlying t=some (.slice e)) (hi:P.info? e=some i) (hz:i.zero=some z) (gv:i.size=size) (nA:z.cells.size=size) (h0:0<size) (vJ:i.bytes<=2 ^ 16)
 (e1:ia a x=v) (e2:ia a y=.slice (some ⟨n,0,none⟩) 1 1) (hw:A.Wf) (hS:ah A L) (hp:ay L (.h (cY size v m cs)) K') (hn:A.bg n=some (.cells lK true size)) (AI:lK.length=size) (lN:lK.all Value.oneCell'=true) (bG:m<2 ^ 30)
 (hs:∀A',ah A' K'->S A')
 (hk:∀o c A',ah A' (.h (cY size (.slice o (m+1) c) (m+1) (cs++lK))::K')->A'.Wf->A.next<=A'.next->aS P S K fu (eA a d (.slice o (m+1) c)) A') :
 aS P S K (⟨d,.call ⟨.builtin .append,#[x,y],#[t,t]⟩,none,3⟩::fu) a A:=by
 unfold aS;rw [if_pos (by simp)];exact PE hu hi hz gv nA h0 vJ e1 e2 hw hS hp hn AI lN bG λo c A' h1 h2 h3=>⟨hs A' h1.tail,hk o c A' h1 h2 h3⟩
end
def iq.cells (o:iq):List Value:=[.int .i64 o.pc,.int .i64 o.gu,.int .u64 o.val]
def oJ (l:List iq):List Value:=l.flatMap iq.cells
def ir (v:Value) (l:List iq):HP:=cY 3 v l.length (oJ l)
theorem PV (l:List iq) (o:iq):oJ l++o.cells=oJ (l++[o]):=by simp [oJ]
section
variable {S:AW->Prop} {K:Fr->AW->Prop} {fu:List xu} {a:Fr} {A:AW} {d:Option Tmp} {x y:Operand} {l:List iq} {n:Nat} {v:Value} {L K' K2:List It} {y1 y2 y3:Int}
theorem Fx (e1:ia a x=v) (e2:ia a y=.slice (some ⟨n,0,none⟩) 1 1) (hw:A.Wf) (hS:ah A L) (hp:ay L (.h (ir v l)) K') (hn:A.bg n=some (.cells [.int .i64 y1,.int .i64 y2,.int .u64 y3] true 3)) (bG:l.length<2 ^ 30)
 (hs:∀A',ah A' K'->S A')
 (hk:∀o c A',ah A' (.h (ir (.slice o (l.length+1) c) (l++[⟨y1,y2,y3⟩]))::K')->A'.Wf->A.next<=A'.next->aS Tryz.prog S K fu (eA a d (.slice o (l.length+1) c)) A') :
 aS Tryz.prog S K (⟨d,.call ⟨.builtin .append,#[x,y],#[117,117]⟩,none,3⟩::fu) a A:=by
 refine ye (P:=Tryz.prog) (size:=3) (m:=l.length) (cs:=oJ l) Tryz.underlying117 Tryz.info159 Tryz.zero159 rfl rfl (by omega) (by decide) e1 e2 hw hS hp hn rfl rfl bG hs λo c A' h1 h2 h3=>hk o c A' ?_ h2 h3;have e:ir (.slice o (l.length+1) c) (l++[⟨y1,y2,y3⟩])=cY 3 (.slice o (l.length+1) c) (l.length+1) (oJ l++[.int .i64 y1,.int .i64 y2,.int .u64 y3]):=by
  unfold ir;rw [<-PV,List.length_append];rfl
 rw [e];exact h1
theorem Mo (l:List iq):(oJ l).all Value.oneCell'=true:=by
 rw [List.all_eq_true];intro v hv;obtain⟨x,_,hx⟩:=List.mem_flatMap.1 hv;simp only [iq.cells,List.mem_cons,List.not_mem_nil,or_false] at hx;rcases hx with rfl|rfl|rfl<;>rfl
theorem Qb {v2:Value} {l2:List iq} (e1:ia a x=v) (e2:ia a y=v2) (hw:A.Wf) (hS:ah A L) (hp:ay L (.h (ir v l)) K') (Bm:ay L (.h (ir v2 l2)) K2) (bG:l.length+l2.length<2 ^ 30)
 (hs:∀A',ah A' K'->S A')
 (hk:∀o c A',ah A' (.h (ir (.slice o (l.length+l2.length) c) (l++l2))::K')->A'.Wf->A.next<=A'.next->aS Tryz.prog S K fu (eA a d (.slice o (l.length+l2.length) c)) A') :
 aS Tryz.prog S K (⟨d,.call ⟨.builtin .append,#[x,y],#[117,117]⟩,none,3⟩::fu) a A:=by
 have h1:bk A (cY 3 v l.length (oJ l)*aE K'):=by
  have qh:=hS;unfold ah at qh;rw [hp.aE] at qh;exact qh
 have h2:dM A 3 v2 l2.length (oJ l2):=by
  have qh:=hS;unfold ah at qh;rw [Bm.aE] at qh;exact cY.is qh
 obtain⟨v',A',e3,h3,h4,h5⟩:=cY.TJ (P:=Tryz.prog) (size:=3) (t:=117) Tryz.underlying117 Tryz.info159 Tryz.zero159 rfl rfl (by omega) h2 (Mo l2) h1 bG (by decide) hw;obtain⟨o,c,h6,_⟩:=(cY.is h3).bE;subst h6;have h7:ah A' (.h (ir (.slice o (l.length+l2.length) c) (l++l2))::K'):=by
  have e:ir (.slice o (l.length+l2.length) c) (l++l2)=cY 3 (.slice o (l.length+l2.length) c) (l.length+l2.length) (oJ l++oJ l2):=by
   unfold ir;rw [List.length_append,show oJ (l++l2)=oJ l++oJ l2 by simp [oJ]]
  show bk A' (ir (.slice o (l.length+l2.length) c) (l++l2)*aE K');rw [e];exact h3
 unfold aS;rw [if_pos (by simp)];exact Aa e1 e2 e3 ⟨hs A' h7.tail,hk o c A' h7 h4 h5⟩
end
structure r8 where
 bJ:Int
 lG:R8
 iJ:Int
 aT:Bool
 fp:Int
 cf:bq
 id:Int
 nt:Int
 pc:Int
 dw:R8
 kC:Int
 done:Bool
 jj:Int
structure RL where
 va:Value
 vs:Value
 vf:Value
 vd:Value
 vc:Value
 vl:Value
 vo:Value
def aU.d (t:aU):r8:=⟨t.bJ,t.lG,t.iJ,t.aT,t.fp,t.cf,t.id,t.nt,t.pc,t.dw,t.kC,t.done,t.jj⟩
def nd (d:r8) (w:RL):List Value:=[w.va,.int .i64 d.bJ,.int .u64 d.lG.r0,.int .u64 d.lG.r1,.int .u64 d.lG.r2,.int .u64 d.lG.r3,.int .u64 d.lG.r4,.int .u64 d.lG.r5,.int .u64 d.lG.r6,.int .u64 d.lG.r7,.int .i64 d.iJ,w.vs,.bool d.aT,.int .i64 d.fp,w.vf,w.vd,.int .i64 d.cf.ba,.int .i64 d.cf.ao,.int .i64 d.cf.base,.int .i64 d.cf.c0,.int .i64 d.cf.c1,.int .i64 d.cf.c2,.int .i64 d.cf.c3,.int .i64 d.cf.reads,.int .i64 d.cf.bK,.int .i64 d.cf.ak,.int .i64 d.cf.av,.int .i64 d.cf.aw,.bool d.cf.aT,.int .i64 d.id,.int .i64 d.nt,w.vc,.int .i64 d.pc,.int .u64 d.dw.r0,.int .u64 d.dw.r1,.int .u64 d.dw.r2,.int .u64 d.dw.r3,.int .u64 d.dw.r4,.int .u64 d.dw.r5,.int .u64 d.dw.r6,.int .u64 d.dw.r7,.int .i64 d.kC,.bool d.done,w.vl,w.vo,.int .i64 d.jj]
abbrev rD (d:r8) (w:RL):dH:=.cells (nd d w) true 1
variable {d:r8} {w:RL}
@[simp] theorem Z4:(nd d w).length=46:=rfl
@[simp] theorem thC_g0:(nd d w)[0]? = some (w.va):=rfl
@[simp] theorem thC_g1:(nd d w)[1]? = some (.int .i64 d.bJ):=rfl
@[simp] theorem aal:(nd d w)[10]? = some (.int .i64 d.iJ):=rfl
@[simp] theorem aak:(nd d w)[11]? = some (w.vs):=rfl
@[simp] theorem aaj:(nd d w)[12]? = some (.bool d.aT):=rfl
@[simp] theorem aai:(nd d w)[13]? = some (.int .i64 d.fp):=rfl
@[simp] theorem aah:(nd d w)[14]? = some (w.vf):=rfl
@[simp] theorem aag:(nd d w)[15]? = some (w.vd):=rfl
@[simp] theorem aad:(nd d w)[29]? = some (.int .i64 d.id):=rfl
@[simp] theorem aac:(nd d w)[30]? = some (.int .i64 d.nt):=rfl
@[simp] theorem aab:(nd d w)[31]? = some (w.vc):=rfl
@[simp] theorem aaa:(nd d w)[32]? = some (.int .i64 d.pc):=rfl
@[simp] theorem Z9:(nd d w)[41]? = some (.int .i64 d.kC):=rfl
@[simp] theorem Z8:(nd d w)[42]? = some (.bool d.done):=rfl
@[simp] theorem Z7:(nd d w)[43]? = some (w.vl):=rfl
@[simp] theorem Z6:(nd d w)[44]? = some (w.vo):=rfl
@[simp] theorem Z5:(nd d w)[45]? = some (.int .i64 d.jj):=rfl
@[simp] theorem aaf:(nd d w)[16]? = some (.int .i64 d.cf.ba):=rfl
@[simp] theorem aae:(nd d w)[28]? = some (.bool d.cf.aT):=rfl
@[simp] theorem thC_cf:((nd d w).drop 16).take 13=[.int .i64 d.cf.ba,.int .i64 d.cf.ao,.int .i64 d.cf.base,.int .i64 d.cf.c0,.int .i64 d.cf.c1,.int .i64 d.cf.c2,.int .i64 d.cf.c3,.int .i64 d.cf.reads,.int .i64 d.cf.bK,.int .i64 d.cf.ak,.int .i64 d.cf.av,.int .i64 d.cf.aw,.bool d.cf.aT]:=rfl
@[simp] theorem thC_rg:((nd d w).drop 33).take 8=d.dw.cells:=rfl
@[simp] theorem thC_sv:((nd d w).drop 2).take 8=d.lG.cells:=rfl
@[simp] theorem thC_st:((nd d w).drop 32).take 11=.int .i64 d.pc::(d.dw.cells++[.int .i64 d.kC,.bool d.done]):=rfl
@[simp] theorem thC_s0 {x:Value}:(nd d w).set 0 (x)=nd d { w with va:=x }:=rfl
@[simp] theorem thC_s1 {x:Int}:(nd d w).set 1 (.int .i64 x)=nd { d with bJ:=x } w:=rfl
@[simp] theorem Z3 {x:Int}:(nd d w).set 10 (.int .i64 x)=nd { d with iJ:=x } w:=rfl
@[simp] theorem Z2 {x:Value}:(nd d w).set 11 (x)=nd d { w with vs:=x }:=rfl
@[simp] theorem Z1 {x:Bool}:(nd d w).set 12 (.bool x)=nd { d with aT:=x } w:=rfl
@[simp] theorem Z0 {x:Int}:(nd d w).set 13 (.int .i64 x)=nd { d with fp:=x } w:=rfl
@[simp] theorem ZZ {x:Value}:(nd d w).set 14 (x)=nd d { w with vf:=x }:=rfl
@[simp] theorem ZY {x:Value}:(nd d w).set 15 (x)=nd d { w with vd:=x }:=rfl
@[simp] theorem ZX {x:Int}:(nd d w).set 32 (.int .i64 x)=nd { d with pc:=x } w:=rfl
@[simp] theorem ZW {x:Int}:(nd d w).set 41 (.int .i64 x)=nd { d with kC:=x } w:=rfl
@[simp] theorem ZV {x:Bool}:(nd d w).set 42 (.bool x)=nd { d with done:=x } w:=rfl
@[simp] theorem ZU {x:Value}:(nd d w).set 44 (x)=nd d { w with vo:=x }:=rfl
@[simp] theorem ZT {x:Int}:(nd d w).set 45 (.int .i64 x)=nd { d with jj:=x } w:=rfl
@[simp] theorem ZR {r:R8}:fh (nd d w) 2 r.cells=nd { d with lG:=r } w:=rfl
@[simp] theorem ZS {r:R8}:fh (nd d w) 33 r.cells=nd { d with dw:=r } w:=rfl
theorem pO {i:Int} (h:0<=i/\i<8):(nd d w)[33+i.toNat]? = some (.int .u64 (d.dw.bg i)):=by
 have h1:i=0\/i=1\/i=2\/i=3\/i=4\/i=5\/i=6\/i=7:=by omega
 rcases h1 with rfl|rfl|rfl|rfl|rfl|rfl|rfl|rfl<;>rfl
theorem wL {i x:Int} (h:0<=i/\i<8):(nd d w).set (33+i.toNat) (.int .u64 x)=nd { d with dw:=d.dw.set i x } w:=by
 have h1:i=0\/i=1\/i=2\/i=3\/i=4\/i=5\/i=6\/i=7:=by omega
 rcases h1 with rfl|rfl|rfl|rfl|rfl|rfl|rfl|rfl<;>rfl
def lS (v:Value) (l:List aZ):HP:=cY 5 v l.length (l.flatMap au)
theorem wv {ι:Type} {φ ψ:ι->Prop} {x:ι} (h1:φ x) (h2:ψ x):∃x,φ x/\ψ x:=⟨x,h1,h2⟩
theorem ah.jQ {A:AW} {L K:List It} {size n:Nat} {v:Value} {cs:List Value} (h:ah A L) (hp:ay L (.h (cY size v n cs)) K):dM A size v n cs:=by
 unfold ah at h;rw [hp.aE] at h;exact cY.is h
end
section
abbrev Mv:List (Nat×Nat):=[(0,0),(1,0),(2,0),(3,0),(4,0),(5,0),(6,0),(7,0),(8,0),(9,0),(10,0),(11,0),(12,0),(13,2),(14,3),(15,0),(16,0),(17,3)]
open T7
variable [Gl]
theorem wK (b:Nat) (d:r8) (va vs vf vd vl vo:Value) (o:Option Addr) (n c:Nat) (pc:Int):bf Tryz.prog 62 [pv b,.int .i64 pc] [.at b (rD d ⟨va,vs,vf,vd,.slice o n c,vl,vo⟩)] (λ_=>True)
 (λ_=>[.at b (rD { d with pc:=pc,done:=decide (pc=n) } ⟨va,vs,vf,vd,.slice o n c,vl,vo⟩)]):=by
 intro A F hw hS;refine aF Tryz.func62 λ_=>?_;dsimp only [aa,ag] at hS;have hq:=fm hS hw;revert hq hS hw;refine W cd (J1 bz) ?_<;>(unhygienic intros);refine⟨_,by first|rfl|(simp;rfl),by first|trivial|rfl|(simp;done),?_⟩;apply ah.bO
 (·exact sA)
 (·first|exact pA|exact kA)
theorem kS (b:Nat) (d:r8) (va vs vf vd vl vo:Value) (o:Option Addr) (n c:Nat) (h:0<=d.pc/\d.pc<2^40):bf Tryz.prog 86 [pv b] [.at b (rD d ⟨va,vs,vf,vd,.slice o n c,vl,vo⟩)] (λ_=>True)
 (λ_=>[.at b (rD { d with pc:=d.pc+1,done:=decide (d.pc+1=n) } ⟨va,vs,vf,vd,.slice o n c,vl,vo⟩)]):=by
 intro A F hw hS;refine aF Tryz.func86 λ_=>?_;dsimp only [aa,ag] at hS;have hq:=fm hS hw;have MG:IntKind.i64.wrap (d.pc+1)=d.pc+1:=ai (by omega) (by omega);revert hq hS hw;refine W (J1 (wK b d va vs vf vd vl vo o n c (d.pc+1))) (J2 MG bz) ?_<;>(unhygienic intros);refine⟨_,by first|rfl|(simp;rfl),by first|trivial|rfl|(simp;done),?_⟩;apply ah.bO
 (·exact sA)
 (·first|exact pA|exact kA)
theorem jc (b:Nat) (d:r8) (w:RL) (l:List iq) (kd v:Int) (hl:l.length<2^30):dT Tryz.prog 85 [pv b,.int .i64 kd,.int .u64 v] [.at b (rD d w),.h (ir w.vo l)] (λ_ _=>True)
 (λvo=>[.at b (rD d { w with vo:=vo }),.h (ir vo (l++[⟨d.pc,kd,v⟩]))]):=by
 intro A F hw hS;refine aF Tryz.func85 λ_=>?_;dsimp only [aa,ag] at hS;have hq:=fm hS hw
 repeat' (first|(with_reducible apply Fx;(·first|(simp;done)|(simp;rfl));(·first|(simp;done)|(simp;rfl));(·exact wA);(·exact sA);(·first|exact pA|exact kA);(·first|exact AW.bM _ _|((repeat' (first|apply ay.z|apply ay.s));done)|(simp [hq];(repeat' (first|rfl|refine⟨rfl,?_⟩));done)|(simp;done)|(simp;rfl)|(simp [hq];done)|(simp [hq];rfl));(·first|omega|(simp;omega));(·intro _ _;trivial);rintro _ _ _ hS hw _;(try dsimp only [AW.aV] at hS);have hq:=fm hS hw)|(refine jX λR hR=>?_;simp [ai,ar,hq,AW.af,aB];try simp (disch:=omega) only [if_pos,if_neg,ai,ar])|(refine hR _ _ ?_;clear hR R)|(refine hK _ _ ?_;clear hK K)|refine nx ?_|refine wn λK hK=>?_|simp only [wS,Mv]|refine wl Tryz.mx Mv (by decide +kernel) λK hK=>?_|(show cM _ _ _ _ _ _;refine nx ?_)|(refine wc rfl (λhc=>?_) (λhc=>?_)<;>(try simp at hc)<;>(try omega))|(refine ib (λhc=>?_) (λhc=>?_)<;>(try omega)<;>(try simp (disch:=omega) only [if_pos,if_neg])))
 refine⟨_,by first|rfl|(simp;rfl),?_⟩;apply wv
 (·first|trivial|rfl|(simp;done))
 apply ah.bO
 (·exact sA)
 (·first|exact pA|exact kA)
theorem s9 (b:Nat) (d:r8) (w:RL) (r bQ:Int) (h:0<=r/\r<8) (A:AW) (hg:A.bg b=some (rD d w)):eQ 145 [pv b,.int .i64 r,.int .i64 bQ] A (.int .u64 (IntKind.u64.wrap (d.dw.bg r+IntKind.u64.wrap bQ))):=by
 refine aF Tryz.func145 λ_=>?_;have vI:=pO (d:=d) (w:=w) h;refine W cd (J5 hg vI h.1 h.2 bz) ?_<;>intros;exact⟨_,by first|rfl|(simp;rfl),rfl,rfl⟩
def jJ (i:aZ):Value:=.agg #[.int .i64 i.op,.int .i64 i.a,.int .i64 i.b,.int .i64 i.c,.int .i64 i.bQ]
def pd (d:r8) (i:aZ):Int:=if i.op=12 then IntKind.u64.wrap (d.dw.bg i.b+IntKind.u64.wrap i.bQ) else IntKind.u64.wrap (d.dw.bg i.a+IntKind.u64.wrap i.bQ)
theorem F5 (b:Nat) (d:r8) (w:RL) (i:aZ) (ha:i.op=12\/i.op=13) (h:b8 i=0) (A:AW) (hg:A.bg b=some (rD d w)):eQ 94 [pv b,jJ i] A (.int .u64 (pd d i)):=by
 refine ax.qt (V:=.int .u64 (pd d i)) (by simp) (λhw=>?_) (by kernel_rfl);refine aF Tryz.func94 λ_=>?_;obtain⟨r1,r2,_⟩:=mB h;have bL:=hw.lt hg;have hU:¬b=A.next:=by omega
 unfold jJ pd;rcases ha with h2|h2
 . have hb:=r2 (by rw [h2];rfl)
   repeat' (first|(refine jX λR hR=>?_;simp [ai,ar,hg,h2,hU,AW.af,aB];try simp (disch:=omega) only [if_pos,if_neg,ai,ar])|(refine hR _ _ ?_;clear hR R)|(refine hK _ _ ?_;clear hK K)|refine nx ?_|refine wn λK hK=>?_|simp only [wS]|(refine bD (s9 b d w i.b i.bQ hb _ ((AW.fz _ _ hU).trans hg)) ?_;rintro _ _ ⟨rfl,rfl⟩ _ _)|(show cM _ _ _ _ _ _;refine nx ?_)|(refine wc rfl (λhc=>?_) (λhc=>?_)<;>(try simp at hc)<;>(try omega))|(refine ib (λhc=>?_) (λhc=>?_)<;>(try omega)<;>(try simp (disch:=omega) only [if_pos,if_neg])))
   exact⟨_,by first|(simp;done)|(simp;rfl),by simp [h2],AW.le.alloc _ _⟩
 have hb:=r1 (by rw [h2];rfl)
 repeat' (first|(refine jX λR hR=>?_;simp [ai,ar,hg,h2,hU,AW.af,aB];try simp (disch:=omega) only [if_pos,if_neg,ai,ar])|(refine hR _ _ ?_;clear hR R)|(refine hK _ _ ?_;clear hK K)|refine nx ?_|refine wn λK hK=>?_|simp only [wS]|(refine bD (s9 b d w i.a i.bQ hb _ ((AW.fz _ _ hU).trans hg)) ?_;rintro _ _ ⟨rfl,rfl⟩ _ _)|(show cM _ _ _ _ _ _;refine nx ?_)|(refine wc rfl (λhc=>?_) (λhc=>?_)<;>(try simp at hc)<;>(try omega))|(refine ib (λhc=>?_) (λhc=>?_)<;>(try omega)<;>(try simp (disch:=omega) only [if_pos,if_neg])))
 exact⟨_,by first|(simp;done)|(simp;rfl),by simp [h2],AW.le.alloc _ _⟩
end
section
abbrev Mu:List (Nat×Nat):=[(0,0),(1,0),(2,0),(3,0),(4,0),(5,0),(6,0),(7,0),(8,3)]
abbrev Mt:List (Nat×Nat):=[(0,0),(1,0),(2,0),(3,0),(4,0),(5,0),(6,0),(7,0),(8,0),(9,0),(10,0),(11,0),(12,0),(13,0),(14,2),(15,3),(16,0),(17,0),(18,0),(19,3)]
abbrev Ms:List (Nat×Nat):=[(0,0),(1,0),(2,0),(3,0),(4,0),(5,0),(6,0),(7,0),(8,0),(9,0),(10,3),(11,0),(12,0),(13,0),(14,3),(15,0),(16,0),(17,0),(18,3)]
abbrev u4:List (Nat×Nat):=[(0,0),(1,0),(2,0),(3,0),(4,0),(5,0),(6,0),(7,0),(8,0),(9,0),(10,2),(11,3)]
abbrev u3:List (Nat×Nat):=[(0,0),(1,0),(2,0),(3,0),(4,0),(5,0),(6,0),(7,0),(8,0),(9,0),(11,0),(12,0),(13,0),(14,0),(15,0),(16,0),(17,0),(18,0),(10,2),(19,3)]
abbrev uZ:List (Nat×Nat):=[(0,0),(1,0),(2,0),(3,0),(4,0),(5,0),(6,0),(7,3)]
abbrev uY:List (Nat×Nat):=[(0,0),(1,0),(2,0),(3,0),(4,0),(5,0),(6,0),(7,0),(8,0),(9,0),(10,0),(11,0),(12,0),(13,3)]
abbrev BA:List (Nat×Nat):=[(0,0),(1,0),(2,0),(3,0),(4,0),(5,0),(6,0),(7,2),(8,3)]
abbrev Bz:List (Nat×Nat):=[(0,0),(1,0),(2,0),(3,0),(4,0),(5,0),(6,0),(8,0),(9,0),(10,0),(11,0),(12,0),(13,0),(14,0),(15,0),(7,2),(16,3)]
open T7
variable [Gl]
theorem tw (n:Nat) (s:aM):∀A':AW,A'.Wf->ah A' [.h (aX n s)]->eQ 64 [pv n] A' (.bool s.kN):=λA' h1 h2=>FN n s s.aG A' h1 (aX.RS h2 .z)
theorem zj (n:Nat) (s:aM):∀A':AW,A'.Wf->ah A' [.h (aX n s)]->eQ 131 [pv n] A' (.int .i64 s.aA):=λA' h1 h2=>Kf n s _ s.aG A' h1 (aX.RS h2 .z)
theorem tu (n:Nat) (s:aM):∀A':AW,A'.Wf->ah A' [.h (aX n s)]->eQ 90 [pv n] A' (.int .i64 s.az):=λA' h1 h2=>Oz n s _ s.aG A' h1 (aX.RS h2 .z)
theorem BR (n:Nat) (s:aM):∀A':AW,A'.Wf->ah A' [.h (aX n s)]->eQ 203 [pv n] A' (.int .u64 s.value):=λA' h1 h2=>JX n s _ s.aG A' h1 (aX.RS h2 .z)
theorem Rh (n:Nat) (s:aM):∀A':AW,A'.Wf->ah A' [.h (aX n s)]->eQ 88 [pv n] A' (.bool s.aj):=λA' h1 h2=>G5 n s _ s.aG A' h1 (aX.RS h2 .z)
theorem HY (n:Nat) (s:aM):∀A':AW,A'.Wf->ah A' [.h (aX n s)]->eQ 198 [pv n] A' (.int .i64 s.tG):=λA' h1 h2=>oY n s _ s.aG A' h1 (aX.RS h2 .z)
theorem newE (c:bq) (hc:db c) (t:Int):dT Tryz.prog 148 [c.v,.int .i64 t] [] (λn v=>v=pv n) (λn=>[.h (aX n (fG c t))]):=
 λA F hw hS=>P6 c hc t A F hw hS
theorem AZ (b:Nat) (d:r8) (va vs vf vd vl vo:Value) (o:Option Addr) (n c:Nat) (i1 i2 i3 bQ:Int) (v:Int) (ga:List iq) (hi:b8 ⟨12,i1,i2,i3,bQ⟩=0) (ln:0<=d.pc/\d.pc<2^40) (hl:ga.length<2^30) :
 dT Tryz.prog 152 [pv b,jJ ⟨12,i1,i2,i3,bQ⟩,.int .u64 v] [.at b (rD d ⟨va,vs,vf,vd,.slice o n c,vl,vo⟩),.h (ir vo ga)] (λ_ _=>True)
  (λvo=>[.at b (rD { d with dw:=d.dw.set i1 v,pc:=d.pc+1,done:=decide (d.pc+1=n) } ⟨va,vs,vf,vd,.slice o n c,vl,vo⟩),.h (ir vo (ga++[⟨d.pc,4,v⟩]))]):=by
 unfold jJ;have ha:=(mB hi).1 rfl;dsimp only at ha;have BD:=λx=>wL (d:=d) (w:=⟨va,vs,vf,vd,.slice o n c,vl,vo⟩) (x:=x) ha;intro A F hw hS;refine aF Tryz.func152 λ_=>?_;dsimp only [aa,ag] at hS;have hq:=fm hS hw;revert hq hS hw;refine Wu (J3 (Tg.mk (n:=36) (λx1=>jc b { d with dw:=d.dw.set i1 v } x1 ga 4 v hl)) (Tg.mk (n:=37) (λx1 x2 x3 x4 x5 x6 x7 x8 x9=>kS b { d with dw:=d.dw.set i1 v } x1 x2 x3 x4 x5 x6 x7 x8 x9 ln)) (od Mu)) (J4 BD ha.1 ha.2 bz) ?_<;>(unhygienic intros);refine⟨_,by first|rfl|(simp;rfl),?_⟩;apply wv
 (·first|trivial|rfl|(simp;done))
 apply ah.bO
 (·exact sA)
 (·first|exact pA|exact kA)
theorem AY (b:Nat) (d:r8) (va vs vf vd vl vo:Value) (o:Option Addr) (n c:Nat) (i1 i2 i3 bQ:Int) (v:Int) (ga:List iq) (hi:b8 ⟨13,i1,i2,i3,bQ⟩=0) (ln:0<=d.pc/\d.pc<2^40) (hl:ga.length<2^30) :
 dT Tryz.prog 152 [pv b,jJ ⟨13,i1,i2,i3,bQ⟩,.int .u64 v] [.at b (rD d ⟨va,vs,vf,vd,.slice o n c,vl,vo⟩),.h (ir vo ga)] (λ_ _=>True)
  (λvo=>[.at b (rD { d with pc:=d.pc+1,done:=decide (d.pc+1=n) } ⟨va,vs,vf,vd,.slice o n c,vl,vo⟩),.h (ir vo (ga++[⟨d.pc,5,v⟩]))]):=by
 unfold jJ;intro A F hw hS;refine aF Tryz.func152 λ_=>?_;dsimp only [aa,ag] at hS;have hq:=fm hS hw;revert hq hS hw;refine Wu (J3 (Tg.mk (n:=36) (λx1=>jc b d x1 ga 5 v hl)) (Tg.mk (n:=37) (λx1 x2 x3 x4 x5 x6 x7 x8 x9=>kS b d x1 x2 x3 x4 x5 x6 x7 x8 x9 ln)) (od Mu)) (J1 bz) ?_<;>(unhygienic intros);refine⟨_,by first|rfl|(simp;rfl),?_⟩;apply wv
 (·first|trivial|rfl|(simp;done))
 apply ah.bO
 (·exact sA)
 (·first|exact pA|exact kA)
theorem Jg (b n:Nat) (d:r8) (vs vf vd vc vl vo:Value) (s:aM) (eF:List iq) (r kd:Int) (hr:0<=r/\r<8) (hl:eF.length<2^30) :
 dT Tryz.prog 134 [pv b,.int .i64 r,.int .i64 kd] [.at b (rD d ⟨pv n,vs,vf,vd,vc,vl,vo⟩),.h (aX n s),.h (ir vs eF)] (λ_ _=>True)
  (λvs=>[.at b (rD { d with dw:=d.dw.set r s.value } ⟨pv n,vs,vf,vd,vc,vl,vo⟩),.h (aX n s),.h (ir vs (eF++[⟨d.pc,kd,s.value⟩]))]):=by
 have BD:=λx=>wL (d:=d) (w:=⟨pv n,vs,vf,vd,vc,vl,vo⟩) (x:=x) hr;intro A F hw hS;refine aF Tryz.func134 λ_=>?_;dsimp only [aa,ag] at hS;have hq:=fm hS hw
 repeat' (first|(with_reducible apply Fx;(·first|(simp;done)|(simp;rfl));(·first|(simp;done)|(simp;rfl));(·exact wA);(·exact sA);(·first|exact pA|exact kA);(·first|exact AW.bM _ _|((repeat' (first|apply ay.z|apply ay.s));done)|(simp [hq];(repeat' (first|rfl|refine⟨rfl,?_⟩));done)|(simp;done)|(simp;rfl)|(simp [hq];done)|(simp [hq];rfl));(·first|omega|(simp;omega));(·intro _ _;trivial);rintro _ _ _ hS hw _;(try dsimp only [AW.aV] at hS);have hq:=fm hS hw)|(refine jX λR hR=>?_;simp [ai,ar,hq,BD,hr.1,hr.2,AW.af,aB];try simp (disch:=omega) only [if_pos,if_neg,ai,ar])|(refine hR _ _ ?_;clear hR R)|(refine hK _ _ ?_;clear hK K)|refine nx ?_|refine wn λK hK=>?_|simp only [wS,Mt]|refine wl Tryz.mx Mt (by decide +kernel) λK hK=>?_|(apply eY (BR n s);(·exact wA);(·exact sA);(·first|exact pA|exact kA);)|(show cM _ _ _ _ _ _;refine nx ?_)|(refine wc rfl (λhc=>?_) (λhc=>?_)<;>(try simp at hc)<;>(try omega))|(refine ib (λhc=>?_) (λhc=>?_)<;>(try omega)<;>(try simp (disch:=omega) only [if_pos,if_neg])))
 refine⟨_,by first|rfl|(simp;rfl),?_⟩;apply wv
 (·first|trivial|rfl|(simp;done))
 apply ah.bO
 (·exact sA)
 (·first|exact pA|exact kA)
theorem ah.Vu {A:AW} {L:List It} (h:ah A L):ah A (.h (ir (.slice none 0 0) [])::L):=cY.nil h
theorem Ap (b:Nat) (d:r8) (w:RL) (hc:db d.cf) (hct:0<=d.jj/\d.jj<2^40):dT Tryz.prog 96 [pv b] [.at b (rD d w)] (λ_ _=>True)
 (λn=>[.at b (rD { d with jj:=d.jj+1 } { w with va:=pv n,vs:=.slice none 0 0 }),.h (aX n (gO (fG d.cf d.id)).2),.h (ir (.slice none 0 0) [])]):=by
 have MG:IntKind.i64.wrap (d.jj+1)=d.jj+1:=ai (by omega) (by omega);intro A F hw hS;refine aF Tryz.func96 λ_=>?_;dsimp only [aa,ag] at hS;have hq:=fm hS hw
 repeat' (first|(refine jX λR hR=>?_;simp [ai,ar,hq,MG,AW.af,aB];try simp (disch:=omega) only [if_pos,if_neg,ai,ar])|(refine hR _ _ ?_;clear hR R)|(refine hK _ _ ?_;clear hK K)|refine nx ?_|refine wn λK hK=>?_|simp only [wS,Ms]|refine wl Tryz.mx Ms (by decide +kernel) λK hK=>?_|(apply dT.eZ (newE d.cf hc d.id);(·exact wA);(·exact sA);(·first|exact pA|exact kA);(rintro xw _ _ rfl hS hw _;have hS:=lA hS;(try (have hq:=fm hS hw))))|(apply bf.eZ (LT _ (fG d.cf d.id));(·exact wA);(·exact sA);(·first|exact pA|exact kA);rintro _ _ _ hS hw _;have hS:=lA hS;have hq:=fm hS hw)|(show cM _ _ _ _ _ _;refine nx ?_)|(refine wc rfl (λhc=>?_) (λhc=>?_)<;>(try simp at hc)<;>(try omega))|(refine ib (λhc=>?_) (λhc=>?_)<;>(try omega)<;>(try simp (disch:=omega) only [if_pos,if_neg])))
 refine⟨_,by first|rfl|(simp;rfl),?_⟩;apply wv
 (·trivial)
 apply ah.bO;apply ah.Vu
 (·exact sA)
 (·first|exact pA|exact kA)
def zC (d:r8) (i:aZ) (s:aM):aM:=
 if i.op=10 then (Ik s (IntKind.u64.wrap (d.dw.bg i.b+IntKind.u64.wrap i.bQ))).2 else if i.op=11 then (HJ s (IntKind.u64.wrap (d.dw.bg i.a+IntKind.u64.wrap i.bQ)) (d.dw.bg i.b)).2 else if i.op=14 then (M8 s i.bQ).2
 else if i.op=15 then (MU s (d.dw.bg i.a)).2 else if i.op=8 then (D1 s 1).2 else if i.op=9 then (D1 s 2).2 else s
theorem Pf (x:Int):0<=IntKind.u64.wrap x:=(kQ x).1
theorem UU (b:Nat) (d:r8) (w:RL) (r bQ:Int) (h:0<=r/\r<8) {A:AW} {L K:List It} {k:Value->AW->Prop} (hw:A.Wf) (hS:ah A L) (hp:ay L (.at b (rD d w)) K)
 (hk:k (.int .u64 (IntKind.u64.wrap (d.dw.bg r+IntKind.u64.wrap bQ))) A):ax Tryz.prog 145 [pv b,.int .i64 r,.int .i64 bQ] A k:=by
 have hg:A.bg b=some (rD d w):=by
  unfold ah at hS;rw [hp.aE] at hS;exact bk.bg hS
 refine bD (s9 b d w r bQ h A hg) ?_;rintro _ _ ⟨rfl,rfl⟩ _ _;exact hk
theorem B5 (b:Nat) (d:r8) (w:RL) (i:aZ) (ha:i.op=12\/i.op=13) (h:b8 i=0) {A:AW} {L K:List It} {k:Value->AW->Prop} (hw:A.Wf) (hS:ah A L) (hp:ay L (.at b (rD d w)) K)
 (hk:k (.int .u64 (pd d i)) A):ax Tryz.prog 94 [pv b,jJ i] A k:=by
 have hg:A.bg b=some (rD d w):=by
  unfold ah at hS;rw [hp.aE] at hS;exact bk.bg hS
 refine bD (F5 b d w i ha h A hg) ?_;rintro _ _ ⟨rfl,rfl⟩ _ _;exact hk
theorem Gu (b n:Nat) (d:r8) (vs vf vd vc vl vo:Value) (i:aZ) (s:aM) (hC:gq s) (mt:i.op=10\/i.op=11\/i.op=14\/i.op=15\/i.op=8\/i.op=9) (hi:b8 i=0) :
 bf Tryz.prog 97 [pv b,jJ i] [.at b (rD d ⟨pv n,vs,vf,vd,vc,vl,vo⟩),.h (aX n s)] (λ_=>True) (λ_=>[.at b (rD d ⟨pv n,vs,vf,vd,vc,vl,vo⟩),.h (aX n (zC d i s))]):=by
 obtain⟨r1,r2,_⟩:=mB hi;unfold jJ;rcases mt with h2|h2|h2|h2|h2|h2
 . have hb:=r2 (by rw [h2];rfl);have e:zC d i s=_:=if_pos h2;intro A F hw hS;refine aF Tryz.func97 λ_=>?_;dsimp only [aa,ag] at hS;have hq:=fm hS hw;revert hq hS hw;refine Wu (J6 (Tg.mk (n:=10) (λ{A L K k} x1=>UU (A:=A) (L:=L) (K:=K) (k:=k) b d x1 i.b i.bQ hb)) (Tg.mk (n:=37) (λx1=>Fp n s _ hC (Pf x1))) (od u4) (od u3) (od uZ) (od uY)) (J2 h2 bz) ?_<;>(unhygienic intros);rw [e];refine⟨_,by first|rfl|(simp;rfl),by first|trivial|rfl|(simp;done),?_⟩;apply ah.bO
   (·exact sA)
   (·first|exact pA|exact kA)
 . have ha:=r1 (by rw [h2];rfl);have hb:=r2 (by rw [h2];rfl);have vI:=pO (d:=d) (w:=⟨pv n,vs,vf,vd,vc,vl,vo⟩) hb;have e:zC d i s=(HJ s (IntKind.u64.wrap (d.dw.bg i.a+IntKind.u64.wrap i.bQ)) (d.dw.bg i.b)).2:=(by unfold zC;rw [if_neg (by omega),if_pos h2]);intro A F hw hS;refine aF Tryz.func97 λ_=>?_;dsimp only [aa,ag] at hS;have hq:=fm hS hw;revert hq hS hw;(repeat first|clear hq|clear hS|clear hw|revert hc|revert R|revert K);refine W (J6 (Tg.mk (n:=10) (λ{A L K k} x1=>UU (A:=A) (L:=L) (K:=K) (k:=k) b d x1 i.a i.bQ ha)) (od u4) (od u3) (od uZ) (od uY) (BP n s)) (J5 h2 vI hb.1 hb.2 bz) ?_<;>(unhygienic intros);rw [e];refine⟨_,by first|rfl|(simp;rfl),by first|trivial|rfl|(simp;done),?_⟩;apply ah.bO
   (·exact sA)
   (·first|exact pA|exact kA)
 . have e:zC d i s=(M8 s i.bQ).2:=(by unfold zC;rw [if_neg (by omega),if_neg (by omega),if_pos h2]);intro A F hw hS;refine aF Tryz.func97 λ_=>?_;dsimp only [aa,ag] at hS;have hq:=fm hS hw;revert hq hS hw;(repeat first|clear hq|clear hS|clear hw|revert hc|revert R|revert K);refine Wu (J5 (Tg.mk (n:=37) (λx1=>L1 n s x1 hC)) (od u4) (od u3) (od uZ) (od uY)) (J2 h2 bz) ?_<;>(unhygienic intros);rw [e];refine⟨_,by first|rfl|(simp;rfl),by first|trivial|rfl|(simp;done),?_⟩;apply ah.bO
   (·exact sA)
   (·first|exact pA|exact kA)
 . have ha:=r1 (by rw [h2];rfl);have vI:=pO (d:=d) (w:=⟨pv n,vs,vf,vd,vc,vl,vo⟩) ha;have e:zC d i s=(MU s (d.dw.bg i.a)).2:=(by unfold zC;rw [if_neg (by omega),if_neg (by omega),if_neg (by omega),if_pos h2]);intro A F hw hS;refine aF Tryz.func97 λ_=>?_;dsimp only [aa,ag] at hS;have hq:=fm hS hw;revert hq hS hw;(repeat first|clear hq|clear hS|clear hw|revert hc|revert R|revert K);refine Wu (J5 (Tg.mk (n:=37) (λx1=>Ok n s x1 hC)) (od u4) (od u3) (od uZ) (od uY)) (J5 h2 vI ha.1 ha.2 bz) ?_<;>(unhygienic intros);rw [e];refine⟨_,by first|rfl|(simp;rfl),by first|trivial|rfl|(simp;done),?_⟩;apply ah.bO
   (·exact sA)
   (·first|exact pA|exact kA)
 . have e:zC d i s=(D1 s 1).2:=(by unfold zC;rw [if_neg (by omega),if_neg (by omega),if_neg (by omega),if_neg (by omega),if_pos h2]);intro A F hw hS;refine aF Tryz.func97 λ_=>?_;dsimp only [aa,ag] at hS;have hq:=fm hS hw;revert hq hS hw;(repeat first|clear hq|clear hS|clear hw|revert hc|revert R|revert K);refine W (J5 (od u4) (od u3) (od uZ) (od uY) (uC n s 1)) (J2 h2 bz) ?_<;>(unhygienic intros);rw [e];refine⟨_,by first|rfl|(simp;rfl),by first|trivial|rfl|(simp;done),?_⟩;apply ah.bO
   (·exact sA)
   (·first|exact pA|exact kA)
 have e:zC d i s=(D1 s 2).2:=by unfold zC;rw [if_neg (by omega),if_neg (by omega),if_neg (by omega),if_neg (by omega),if_neg (by omega),if_pos h2]
 intro A F hw hS;refine aF Tryz.func97 λ_=>?_;dsimp only [aa,ag] at hS;have hq:=fm hS hw;revert hq hS hw;(repeat first|clear hq|clear hS|clear hw|revert hc|revert R|revert K);refine W (J5 (od u4) (od u3) (od uZ) (od uY) (uC n s 2)) (J2 h2 bz) ?_<;>(unhygienic intros);rw [e];refine⟨_,by first|rfl|(simp;rfl),by first|trivial|rfl|(simp;done),?_⟩;apply ah.bO
 (·exact sA)
 (·first|exact pA|exact kA)
def LX (d:r8) (i:aZ) (s:aM):aM:=if 1<d.fp+1 then (D1 s 1).2 else if i.op=12 then (Ik s (pd d i)).2 else (HJ s (pd d i) (d.dw.bg i.b)).2
theorem Pk (d:r8) (i:aZ):0<=pd d i:=by unfold pd;split<;>exact Pf _
theorem Ns (b n:Nat) (d:r8) (vs vf vd vc vl vo:Value) (i:aZ) (s:aM) (hC:gq s) (mt:i.op=12\/i.op=13) (hi:b8 i=0) (hak:0<=d.fp/\d.fp<2^40) :
 bf Tryz.prog 66 [pv b,jJ i] [.at b (rD d ⟨pv n,vs,vf,vd,vc,vl,vo⟩),.h (aX n s)] (λ_=>True) (λ_=>[.at b (rD { d with fp:=d.fp+1 } ⟨pv n,vs,vf,vd,vc,vl,vo⟩),.h (aX n (LX d i s))]):=by
 have MG:IntKind.i64.wrap (d.fp+1)=d.fp+1:=ai (by omega) (by omega);obtain⟨r1,r2,_⟩:=mB hi;obtain⟨op,i1,i2,i3,bQ⟩:=i;dsimp only at mt r2;unfold jJ;by_cases h1:1<d.fp+1
 . have e:LX d ⟨op,i1,i2,i3,bQ⟩ s=_:=if_pos h1;intro A F hw hS;refine aF Tryz.func66 λ_=>?_;dsimp only [aa,ag] at hS;have hq:=fm hS hw;revert hq hS hw;refine W (J3 (od BA) (od Bz) (uC n s 1)) (J3 MG h1 bz) ?_<;>(unhygienic intros);rw [e];refine⟨_,by first|rfl|(simp;rfl),by first|trivial|rfl|(simp;done),?_⟩;apply ah.bO
   (·exact sA)
   (·first|exact pA|exact kA)
 rcases mt with h2|h2
 . subst h2;have e:LX d ⟨12,i1,i2,i3,bQ⟩ s=(Ik s (pd { d with fp:=d.fp+1 } ⟨12,i1,i2,i3,bQ⟩)).2:=(by unfold LX;rw [if_neg h1,if_pos rfl];rfl);intro A F hw hS;refine aF Tryz.func66 λ_=>?_;dsimp only [aa,ag] at hS;have hq:=fm hS hw
   repeat' (first|(refine jX λR hR=>?_;simp [ai,ar,hq,MG,h1,AW.af,aB];try simp (disch:=omega) only [if_pos,if_neg,ai,ar])|(refine hR _ _ ?_;clear hR R)|(refine hK _ _ ?_;clear hK K)|refine nx ?_|refine wn λK hK=>?_|simp only [wS,BA,Bz]|refine wl Tryz.mx BA (by decide +kernel) λK hK=>?_|refine wl Tryz.mx Bz (by decide +kernel) λK hK=>?_|(apply B5 b { d with fp:=d.fp+1 } _ ⟨12,i1,i2,i3,bQ⟩ (.inl rfl) hi;(·exact wA);(·exact sA);(·first|exact pA|exact kA);)|(apply bf.eZ (Fp n s _ hC (Pk _ _));(·exact wA);(·exact sA);(·first|exact pA|exact kA);rintro _ _ _ hS hw _;have hS:=lA hS;have hq:=fm hS hw)|(show cM _ _ _ _ _ _;refine nx ?_)|(refine wc rfl (λhc=>?_) (λhc=>?_)<;>(try simp at hc)<;>(try omega))|(refine ib (λhc=>?_) (λhc=>?_)<;>(try omega)<;>(try simp (disch:=omega) only [if_pos,if_neg])))
   rw [e];refine⟨_,by first|rfl|(simp;rfl),by first|trivial|rfl|(simp;done),?_⟩;apply ah.bO
   (·exact sA)
   (·first|exact pA|exact kA)
 subst h2;have hb:=r2 rfl;have vI:=pO (d:={ d with fp:=d.fp+1 }) (w:=⟨pv n,vs,vf,vd,vc,vl,vo⟩) hb;have e:LX d ⟨13,i1,i2,i3,bQ⟩ s=(HJ s (pd { d with fp:=d.fp+1 } ⟨13,i1,i2,i3,bQ⟩) (d.dw.bg i2)).2:=by unfold LX;rw [if_neg h1,if_neg (show ¬(13:Int)=12 by decide)];rfl
 intro A F hw hS;refine aF Tryz.func66 λ_=>?_;dsimp only [aa,ag] at hS;have hq:=fm hS hw;revert hq hS hw;(repeat first|clear hq|clear hS|clear hw|revert hc|revert R|revert K);refine W (J4 (Tg.mk (n:=10) (λ{A L K k} x1=>B5 (A:=A) (L:=L) (K:=K) (k:=k) b { d with fp:=d.fp+1 } x1 ⟨13,i1,i2,i3,bQ⟩ (.inr rfl) hi)) (od BA) (od Bz) (BP n s)) (J6 MG h1 vI hb.1 hb.2 bz) ?_<;>(unhygienic intros);rw [e];refine⟨_,by first|rfl|(simp;rfl),by first|trivial|rfl|(simp;done),?_⟩;apply ah.bO
 (·exact sA)
 (·first|exact pA|exact kA)
end
section
abbrev Mr:List (Nat×Nat):=[(0,0),(1,0),(2,0),(3,0),(4,0),(5,0),(6,0),(7,0),(8,0),(9,0),(10,0),(11,0),(12,0),(13,0),(14,0),(15,0)]
abbrev Mq:List (Nat×Nat):=[(0,0),(1,0),(2,0),(3,0),(4,0),(5,0),(6,0),(7,0),(8,0)]
open T24
variable [Gl]
theorem mo {f:FuncId} {args:List Value} {V:Value} {b:Nat} {o:dH} (hC:∀A:AW,A.bg b=some o->eQ f args A V) {A:AW} {L K:List It} {k:Value->AW->Prop} (hw:A.Wf) (hS:ah A L) (hp:ay L (.at b o) K) (hk:k V A):ax Tryz.prog f args A k:=by
 have hg:A.bg b=some o:=by
  unfold ah at hS;rw [hp.aE] at hS;exact bk.bg hS
 refine bD (hC A hg) ?_;rintro _ _ ⟨rfl,rfl⟩ _ _;exact hk
def rU (f:jr):dH:=.cells [.int .i64 f.am,.int .i64 f.mA,.bool f.gi,.int .u64 f.yk,.int .i64 f.next] true 1
theorem Ex (t n:Int) (A:AW):ax Tryz.prog 99 [.int .i64 t,.int .i64 n] A (λv A'=>v=.pointer (some ⟨A.next,0,none⟩)/\A'=A.alloc (rU ⟨t,n,false,0,0⟩)):=by
 refine aF Tryz.func99 λ_=>?_;refine W cd cd ?_<;>intros;exact⟨_,rfl,rfl,rfl⟩
theorem mS (b:Nat) (s:jr) (A:AW) (hg:A.bg b=some (rU s)):eQ 79 [.pointer (some ⟨b,0,none⟩)] A (.bool s.done):=by
 refine aF Tryz.func79 λ_=>?_;dsimp only [rU] at hg;unfold jr.done;cases h:s.gi;refine W (J1 (od Mr)) (J3 hg h @AW.af) ?_<;>intros;exact⟨_,rfl,by simp,rfl⟩;refine W (J1 (od Mr)) (J3 hg h @AW.af) ?_<;>intros;exact⟨_,rfl,by simp,rfl⟩
theorem EP (b:Nat) (s:jr) (A:AW) (hg:A.bg b=some (rU s)):eQ 81 [.pointer (some ⟨b,0,none⟩)] A (.int .i64 s.nz):=by
 refine aF Tryz.func81 λ_=>?_;dsimp only [rU] at hg;unfold jr.nz;cases h:s.gi;refine W cd (J3 hg h @AW.af) ?_<;>intros;exact⟨_,rfl,by simp,rfl⟩;refine W cd (J3 hg h @AW.af) ?_<;>intros;exact⟨_,rfl,by simp,rfl⟩
theorem tO (x:Int) (A:AW):eQ 161 [.int .u64 x] A (.int .i64 (if x=0 then 0 else if x=1 then 1 else 2)):=by
 refine aF Tryz.func161 λ_=>?_;refine W cd cd (J3 ?_ ?_ ?_)<;>intros
 all_goals exact⟨_,rfl,by simp_all,rfl⟩
theorem uy (b:Nat) (s:jr) (x:Int) (A:AW) (hg:A.bg b=some (rU s)):eQ 110 [.pointer (some ⟨b,0,none⟩),.int .u64 x] A (.bool (s.zH x)):=by
 refine aF Tryz.func110 λ_=>?_;dsimp only [rU] at hg;unfold jr.zH;by_cases h0:x=0;have dv:=tO x;rw [if_pos h0] at dv;refine W (J1 @dv) (J2 hg @AW.af) ?_<;>intros;exact⟨_,rfl,by simp [h0],rfl⟩;by_cases h1:x=1;have dv:=tO x;rw [if_neg h0,if_pos h1] at dv;refine W (J1 @dv) (J2 hg @AW.af) ?_<;>intros;exact⟨_,rfl,by simp [h1],rfl⟩;have dv:=tO x;rw [if_neg h0,if_neg h1] at dv;refine W (J1 @dv) (J2 hg @AW.af) ?_<;>intros;exact⟨_,rfl,by simp [h0,h1],rfl⟩
theorem yB (b:Nat) (f:jr) (hn:0<=f.next/\f.next<2^40):bf Tryz.prog 109 [.pointer (some ⟨b,0,none⟩)] [.at b (rU f)] (λ_=>True) (λ_=>[.at b (rU f.skip)]):=by
 intro A F hw hS;refine aF Tryz.func109 λ_=>?_;dsimp only [aa,ag] at hS;have hq:=oU hS hw;have MG:IntKind.i64.wrap (f.next+1)=f.next+1:=ai (by omega) (by omega);unfold jr.skip;by_cases h:f.next=f.am
 . have e:(if f.next=f.am then ({ f with next:=f.next+1 }:jr) else f)={ f with next:=f.next+1 }:=if_pos h;rw [<-h] at hq;revert hq hS hw;refine W (J1 (od Mq)) (J2 MG bz) ?_<;>(unhygienic intros)
   all_goals(
    try rw [e]
    refine⟨_,by simp [hq,AW.af,aB];rfl,by first|trivial|(simp [aW.v,aW.zero,h];done),?_⟩;apply ah.bO
    (·exact sA)
    (·repeat' (first|apply aP.z|apply aP.s|apply ay.z|(apply ay.HI;simp [rU,h];done)|apply ay.s)))
 have e:(if f.next=f.am then ({ f with next:=f.next+1 }:jr) else f)=f:=if_neg h;revert hq hS hw;(repeat first|clear hq|clear hS|clear hw|revert hc|revert R|revert K);refine W (J1 (od Mq)) (J2 h bz) ?_<;>(unhygienic intros)
 all_goals(
  try rw [e]
  refine⟨_,by simp [hq,AW.af,aB];rfl,by first|trivial|(simp [aW.v,aW.zero,h];done),?_⟩;apply ah.bO
  (·exact sA)
  (·repeat' (first|apply aP.z|apply aP.s|apply ay.z|(apply ay.HI;simp [rU,h];done)|apply ay.s)))
theorem Oo (f:jr) (M:Mm):(f.done=true/\gI f M=(aW.zero,f)) \/
 ((f.done=false/\f.gi=false)/\gI f M=(iP M 3 0,({ f with gi:=true,yk:=(iP M 3 0).fA }:jr).skip)) \/
 ((f.done=false/\f.gi=true/\f.zH (iP M 6 f.next).fA=true)/\gI f M=(iP M 6 f.next,({ f with next:=f.next+1 }:jr).skip)) \/
 ((f.done=false/\f.gi=true/\f.zH (iP M 6 f.next).fA=false)/\gI f M=(iP M 6 f.next,f)):=by
 unfold gI;cases h0:f.done<;>cases h1:f.gi<;>cases h2:f.zH (iP M 6 f.next).fA<;>simp
theorem GX (b pb:Nat) (f:jr) (M:Mm) (hn:0<=f.next/\f.next<2^39) :
 bf Tryz.prog 78 [.pointer (some ⟨b,0,none⟩),.pointer (some ⟨pb,0,none⟩)] [.at b (rU f),dG pb M]
  (λv=>v=(gI f M).1.v) (λ_=>[.at b (rU (gI f M).2),dG pb M]):=by
 intro A F hw hS;refine aF Tryz.func78 λ_=>?_;dsimp only [aa,ag] at hS;have hq:=oU hS hw;have MG:IntKind.i64.wrap (f.next+1)=f.next+1:=ai (by omega) (by omega);have zP:0<=f.next/\f.next<2^40:=by omega
 have hn3:0<=f.next+1/\f.next+1<2^40:=by omega
 rcases Oo f M with ⟨h,e⟩|⟨h,e⟩|⟨h,e⟩|⟨h,e⟩
 . have hd:=λA hg=>mS b f A hg;rw [h] at hd;revert hq hS hw;refine W (J1 (Tg.mk (n:=10) (λ{A L K k}=>mo (A:=A) (L:=L) (K:=K) (k:=k) hd))) (J4 h bz @be.eq_1 @aW.v.eq_1) ?_<;>(unhygienic intros)
   all_goals(
    try rw [e]
    refine⟨_,by simp [hq,AW.af,aB];rfl,by first|trivial|(simp [aW.v,aW.zero,h];done),?_⟩;apply ah.bO
    (·exact sA)
    (·repeat' (first|apply aP.z|apply aP.s|apply ay.z|(apply ay.HI;simp [rU,h];done)|apply ay.s)))
 . have hd:=λA hg=>mS b f A hg;rw [h.1] at hd;revert hq hS hw;(repeat first|clear hq|clear hS|clear hw|revert hc|revert R|revert K);refine Wu (J4 (Tg.mk (n:=10) (λ{A L K k}=>mo (A:=A) (L:=L) (K:=K) (k:=k) hd)) (⟨⟩:Os (λA'=>A'.bg (A.next+1)=some (.cells (WT (iP M 3 0)) true 1)) [(0,0),(1,0),(2,0),(3,1),(4,0),(5,0),(6,3),(7,0),(8,0),(9,3)]) (Qh pb) (yB b { f with gi:=true,yk:=(iP M 3 0).fA } zP)) (J4 h bz @be.eq_1 @aW.v.eq_1) ?_<;>(unhygienic intros)
   all_goals(
    try rw [e]
    refine⟨_,by simp [hq,AW.af,aB];rfl,by first|trivial|(simp [aW.v,aW.zero,h];done),?_⟩;apply ah.bO
    (·exact sA)
    (·repeat' (first|apply aP.z|apply aP.s|apply ay.z|(apply ay.HI;simp [rU,h];done)|apply ay.s)))
 . have hd:=λA hg=>mS b f A hg;have hp:=λA hg=>uy b f (iP M 6 f.next).fA A hg;rw [h.1] at hd;rw [h.2.2] at hp;have e2:({ f with next:=f.next+1 }:jr)=⟨f.am,f.mA,true,f.yk,f.next+1⟩:=(by rw [<-h.2.1]);rw [e2] at e;revert hq hS hw;(repeat first|clear hq|clear hS|clear hw|revert hc|revert R|revert K);refine W (J4 (Tg.mk (n:=10) (λ{A L K k}=>mo (A:=A) (L:=L) (K:=K) (k:=k) hd)) (Tg.mk (n:=10) (λ{A L K k}=>mo (A:=A) (L:=L) (K:=K) (k:=k) hp)) (Qh pb) (yB b ⟨f.am,f.mA,true,f.yk,f.next+1⟩ hn3)) (J5 h MG bz @be.eq_1 @aW.v.eq_1) ?_<;>(unhygienic intros)
   all_goals(
    try rw [e]
    refine⟨_,by simp [hq,AW.af,aB];rfl,by first|trivial|(simp [aW.v,aW.zero,h];done),?_⟩;apply ah.bO
    (·exact sA)
    (·repeat' (first|apply aP.z|apply aP.s|apply ay.z|(apply ay.HI;simp [rU,h];done)|apply ay.s)))
 have hd:=λA hg=>mS b f A hg;have hp:=λA hg=>uy b f (iP M 6 f.next).fA A hg;rw [h.1] at hd;rw [h.2.2] at hp;revert hq hS hw;(repeat first|clear hq|clear hS|clear hw|revert hc|revert R|revert K);refine W (J3 (Tg.mk (n:=10) (λ{A L K k}=>mo (A:=A) (L:=L) (K:=K) (k:=k) hd)) (Tg.mk (n:=10) (λ{A L K k}=>mo (A:=A) (L:=L) (K:=K) (k:=k) hp)) (Qh pb)) (J4 h bz @be.eq_1 @aW.v.eq_1) ?_<;>(unhygienic intros)
 all_goals(
  try rw [e]
  refine⟨_,by simp [hq,AW.af,aB];rfl,by first|trivial|(simp [aW.v,aW.zero,h];done),?_⟩;apply ah.bO
  (·exact sA)
  (·repeat' (first|apply aP.z|apply aP.s|apply ay.z|(apply ay.HI;simp [rU,h];done)|apply ay.s)))
end
section
open Go.Proofs Go
variable [Gl]
def Ou (l:List (Int×Int)):List Value:=l.flatMap λx=>[.int .i64 x.1,.int .i64 x.2]
def Sc (v:Value) (l:List (Int×Int)):HP:=cY 2 v l.length (Ou l)
def mh (v:Value) (l:List Nat):HP:=cY 1 v l.length (l.map pv)
theorem dM.T9 {A:AW} {o:Option Addr} {c n m size:Nat} {cs x:List Value} (h:dM A size (.slice o n c) m cs) {i:Nat} (hi:i<m) (hx:(cs.drop (i*size)).take size=x) :
 ∃p bP,o=some p/\A.bP p.block=some bP/\p.off+i*size+size<=bP.length/\(bP.drop (p.off+i*size)).take size=x:=by
 rcases h with ⟨⟨o,h1⟩,h2,_⟩|⟨p,c,bP,own,u,h1,h2,h3,h4,h5,h6⟩;omega;injection h1 with h1 _ _;have h7:i*size+size<=m*size:=by
  have:=Nat.mul_le_mul_right size (show i+1<=m by omega);rwa [Nat.add_mul,Nat.one_mul] at this
 refine⟨p,bP,h1,AW.wQ h3,by omega,?_⟩;rw [<-hx,h6,<-List.drop_drop,List.drop_take,List.take_take];congr 1;omega
theorem sz {α:Type} (f:α->List Value) (k:Nat) (hf:∀x,(f x).length=k):∀(l:List α) (i:Nat) (hi:i<l.length),((l.flatMap f).drop (i*k)).take k=f l[i]
 | [],i,hi=>by simp at hi
 | x::l,0,hi=>by
   simp only [List.flatMap_cons,Nat.zero_mul,List.drop_zero,List.getElem_cons_zero];rw [<-hf x,List.take_left'];rfl
 | x::l,i+1,hi=>by
   rw [List.flatMap_cons,Nat.add_mul,Nat.one_mul,Nat.add_comm,<-List.drop_drop,List.drop_left' (hf x)];exact sz f k hf l i (by simpa using hi)
theorem ah.Zw {A:AW} {L K:List It} {o:Option Addr} {n c:Nat} {l:List (Int×Int)} (hS:ah A L) (hp:ay L (.h (Sc (.slice o n c) l)) K) {i:Nat} (hi:i<l.length) :
 ∃p bP,o=some p/\A.bP p.block=some bP/\p.off+i*2+2<=bP.length/\(bP.drop (p.off+i*2)).take 2=[.int .i64 l[i].1,.int .i64 l[i].2]:=
 dM.T9 (ah.jQ hS hp) hi (sz _ 2 (λ_=>rfl) l i hi)
section
variable {S:AW->Prop} {K:Fr->AW->Prop} {fu:List xu} {a:Fr} {A:AW} {d:Option Tmp} {x y:Operand} {n:Nat} {v:Value} {L K':List It}
theorem Um {l:List (Int×Int)} {y1 y2:Int} (e1:ia a x=v) (e2:ia a y=.slice (some ⟨n,0,none⟩) 1 1) (hw:A.Wf) (hS:ah A L) (hp:ay L (.h (Sc v l)) K') (hn:A.bg n=some (.cells [.int .i64 y1,.int .i64 y2] true 2)) (bG:l.length<2 ^ 30)
 (hs:∀A',ah A' K'->S A')
 (hk:∀o c A',ah A' (.h (Sc (.slice o (l.length+1) c) (l++[(y1,y2)]))::K')->A'.Wf->A.next<=A'.next->aS Tryz.prog S K fu (eA a d (.slice o (l.length+1) c)) A') :
 aS Tryz.prog S K (⟨d,.call ⟨.builtin .append,#[x,y],#[172,172]⟩,none,3⟩::fu) a A:=by
 refine ye (P:=Tryz.prog) (size:=2) (m:=l.length) (cs:=Ou l) Tryz.underlying172 Tryz.info221 Tryz.zero221 rfl rfl (by omega) (by decide) e1 e2 hw hS hp hn rfl rfl bG hs λo c A' h1 h2 h3=>hk o c A' ?_ h2 h3;have e:Sc (.slice o (l.length+1) c) (l++[(y1,y2)])=cY 2 (.slice o (l.length+1) c) (l.length+1) (Ou l++[.int .i64 y1,.int .i64 y2]):=by
  unfold Sc;rw [List.length_append,show Ou (l++[(y1,y2)])=Ou l++[.int .i64 y1,.int .i64 y2] by simp [Ou]];rfl
 rw [e];exact h1
theorem Vz {l:List Nat} {q:Nat} (e1:ia a x=v) (e2:ia a y=.slice (some ⟨n,0,none⟩) 1 1) (hw:A.Wf) (hS:ah A L) (hp:ay L (.h (mh v l)) K') (hn:A.bg n=some (.cells [pv q] true 1)) (bG:l.length<2 ^ 30)
 (hs:∀A',ah A' K'->S A')
 (hk:∀o c A',ah A' (.h (mh (.slice o (l.length+1) c) (l++[q]))::K')->A'.Wf->A.next<=A'.next->aS Tryz.prog S K fu (eA a d (.slice o (l.length+1) c)) A') :
 aS Tryz.prog S K (⟨d,.call ⟨.builtin .append,#[x,y],#[217,217]⟩,none,3⟩::fu) a A:=by
 refine ye (P:=Tryz.prog) (size:=1) (m:=l.length) (cs:=l.map pv) Tryz.underlying217 Tryz.info192 Tryz.zero192 rfl rfl (by omega) (by decide) e1 e2 hw hS hp hn rfl rfl bG hs λo c A' h1 h2 h3=>hk o c A' ?_ h2 h3;have e:mh (.slice o (l.length+1) c) (l++[q])=cY 1 (.slice o (l.length+1) c) (l.length+1) (l.map pv++[pv q]):=by
  unfold mh;rw [List.length_append,List.map_append];rfl
 rw [e];exact h1
end
def Qf (c:bq) (v:Value):dH:=.cells [.int .i64 c.ba,.int .i64 c.ao,.int .i64 c.base,.int .i64 c.c0,.int .i64 c.c1,.int .i64 c.c2,.int .i64 c.c3,.int .i64 c.reads,.int .i64 c.bK,.int .i64 c.ak,.int .i64 c.av,.int .i64 c.aw,.bool c.aT,v] true 1
def NT (p:Nat) (c:bq) (l:List (Int×Int)) (v:Value):List It:=[.at p (Qf c v),.h (Sc v l)]
def oO (p:Nat) (c:bq) (l:List (Int×Int)):HP:=pG λv:Value=>aE (NT p c l v)
def om (q:List (Nat×fM)):HP:=q.foldr (λx P=>pt x.1 (gK x.2)*P) eC
theorem Kw (q:List (Nat×fM)) (x:Nat×fM):om (q++[x])=pt x.1 (gK x.2)*om q:=by
 induction q with
 | nil=>rfl
 | cons y q ih=>
   show pt y.1 (gK y.2)*om (q++[x])=pt x.1 (gK x.2)*(pt y.1 (gK y.2)*om q);rw [ih]
   ac_rfl
theorem ah.XX {A:AW} {L K:List It} {n:Nat} {p:fM} {q:List (Nat×fM)} (h:ah A L) (h1:ay L (.h (om ((n,p)::q))) K):ah A (.at n (gK p)::.h (om q)::K):=by
 unfold ah at h ⊢;rw [h1.aE] at h;exact h.dK (by show (pt n (gK p)*om q)*aE K=pt n (gK p)*(om q*aE K);ac_rfl)
theorem ah.XY {A:AW} {L K K2:List It} {n:Nat} {p:fM} {q:List (Nat×fM)} (h:ah A L) (h1:ay L (.at n (gK p)) K) (h2:ay K (.h (om q)) K2):ah A (.h (om ((n,p)::q))::K2):=by
 unfold ah at h ⊢;rw [h1.aE,h2.aE] at h;exact h.dK (by show pt n (gK p)*(om q*aE K2)=(pt n (gK p)*om q)*aE K2;ac_rfl)
def Tw (p:Nat) (x:Value×List (Nat×fM)):List It:=[.at p (.cells [x.1] true 1),.h (mh x.1 (x.2.map Prod.fst)),.h (om x.2)]
def yY (p:Nat) (l:List fM):HP:=pG λx:Value×{ q:List (Nat×fM) // q.map Prod.snd=l }=>aE (Tw p (x.1,x.2.1))
section
variable {A:AW} {L K:List It} {p:Nat}
theorem oO.open {c:bq} {l:List (Int×Int)} (h:ah A L) (hp:ay L (.h (oO p c l)) K):∃v,ah A (NT p c l v++K):=i9 h hp
theorem oO.dA {c:bq} {l:List (Int×Int)} {v:Value} (h:ah A L) (e:aP L (NT p c l v) K):ah A (.h (oO p c l)::K):=gN v h e
theorem yY.open {l:List fM} (h:ah A L) (hp:ay L (.h (yY p l)) K):∃v q,q.map Prod.snd=l/\ah A (Tw p (v,q)++K):=by
 obtain⟨⟨v,q,hq⟩,h⟩:=i9 h hp;exact⟨v,q,hq,h⟩
theorem yY.dA {l:List fM} {v:Value} {q:List (Nat×fM)} (hq:q.map Prod.snd=l) (h:ah A L) (e:aP L (Tw p (v,q)) K):ah A (.h (yY p l)::K):=gN (g:=λx:Value×{ q:List (Nat×fM) // q.map Prod.snd=l }=>Tw p (x.1,x.2.1)) (v,⟨q,hq⟩) h e
theorem yY.nil (h:ah A L) (h1:ay L (.at p (.cells [.slice none 0 0] true 1)) K):ah A (.h (yY p [])::K):=by
 have h2:ah A (.at p (.cells [.slice none 0 0] true 1)::K):=by
  unfold ah at h ⊢;rw [h1.aE] at h;exact h
 have h3:ah A (.h eC::.at p (.cells [.slice none 0 0] true 1)::K):=ah.lP h2;have h4:ah A (.h (mh (.slice none 0 0) [])::.h eC::.at p (.cells [.slice none 0 0] true 1)::K):=cY.nil h3;exact yY.dA (v:=.slice none 0 0) (q:=[]) rfl h4 (.s (.s (.s .z)) (.s .z (.s .z .z)))
theorem yY.vy {K1 K2 K3:List It} {n:Nat} {v:Value} {q:List (Nat×fM)} {x:fM} {l:List fM} (hq:q.map Prod.snd=l) (h:ah A L) (h1:ay L (.at p (.cells [v] true 1)) K) (h2:ay K (.h (mh v (q.map Prod.fst++[n]))) K1) (h3:ay K1 (.h (om q)) K2) (h4:ay K2 (.at n (gK x)) K3) :
 ah A (.h (yY p (l++[x]))::K3):=by
 have h5:ah A (.h (om (q++[(n,x)]))::.at p (.cells [v] true 1)::.h (mh v ((q++[(n,x)]).map Prod.fst))::K3):=by
  unfold ah at h ⊢;rw [h1.aE,h2.aE,h3.aE,h4.aE] at h;show bk A (om (q++[(n,x)])*(pt p (.cells [v] true 1)*(mh v ((q++[(n,x)]).map Prod.fst)*aE K3)));rw [Kw,List.map_append];exact h.dK (by show pt p (.cells [v] true 1)*(mh v (q.map Prod.fst++[n])*(om q*(pt n (gK x)*aE K3)))=_;ac_rfl)
 exact yY.dA (v:=v) (q:=q++[(n,x)]) (by rw [List.map_append,hq];rfl) h5 (.s (.s .z) (.s (.s .z) (.s .z .z)))
theorem ah.Su {v:Value} {n:Nat} {ns:List Nat} (h:ah A L) (hp:ay L (.h (mh v (n::ns))) K) :
 ∃b off c bP,v=.slice (some ⟨b,off,none⟩) (ns.length+1) c/\ns.length+1<=c/\off+(ns.length+1)<=bP.length/\bP[off]? = some (pv n)/\ah A (.at b (.cells bP true 1)::K)/\
  (∀(A':AW) (L' K':List It),ah A' L'->ay L' (.at b (.cells bP true 1)) K'->ah A' (.h (mh (.slice (some ⟨b,off,none⟩) (ns.length+1) c) (n::ns))::K')/\ah A' (.h (mh (.slice (some ⟨b,off+1,none⟩) ns.length (c-1)) ns)::K')):=by
 unfold ah at h;rw [hp.aE] at h;rcases cY.cases h with ⟨_,h0,_⟩|⟨b,off,c,bP,rfl,h1,h2,h3,h4⟩;simp at h0;simp only [List.length_cons,Nat.mul_one] at h1 h2 h3;have MQ:=h3;rw [List.drop_eq_getElem_cons (by omega),List.map_cons,List.take_succ_cons] at MQ;obtain⟨h5,h6⟩:=List.cons.inj MQ;refine⟨b,off,c,bP,by simp,h1,h2,?_,h4,λA' L' K' hS hq=>?_⟩;rw [List.getElem?_eq_getElem (by omega),<-h5];unfold ah at hS;rw [hq.aE] at hS;refine⟨cY.mk (by simpa using h1) (by simpa using h2) (by simpa using h3) hS,?_⟩;exact cY.mk (by omega) (by omega) (by simpa using h6) hS
theorem ah.nilE (h:ah A L):ah A (.h (Sc (.slice none 0 0) [])::L):=cY.nil h
end
end
section
abbrev uX:List (Nat×Nat):=[(0,0),(1,0),(2,0),(3,0),(4,0),(5,0),(6,0),(7,0),(8,0),(9,0),(10,0),(12,0),(13,0),(11,2),(14,2),(15,2),(16,3),(17,0),(18,0),(19,3)]
open T26
variable [Gl]
theorem AV (c:bq) (l:List (Int×Int)) (tG:Int) (bs:List Int) (b:Int):mY c l tG (bs++[b])=if 0<=dL c b then mY c l tG bs++[(b,tG)] else mY c l tG bs:=by
 unfold mY;rw [List.filter_append];by_cases h:0<=dL c b;simp [h];simp [h]
theorem L4 (c:bq) (l:List (Int×Int)) (tG:Int) (bs:List Int):(mY c l tG bs).length<=l.length+bs.length:=by
 unfold mY;have:=List.length_filter_le (λb=>decide (0<=dL c b)) bs;rw [List.length_append,List.length_map];omega
theorem IU (p:Nat) (c:bq) (wo:db c) (l:List (Int×Int)) (tG:Int) (vb:Value) (bs:List Int) (hb:∀b∈bs,b<2^62) (hl:l.length<2^28) (QS:bs.length<2^28) :
 bf Tryz.prog 205 [pv p,.int .i64 tG,vb] [.h (oO p c l),.h (ap .i64 vb bs)] (λ_=>True) (λ_=>[.h (oO p c (mY c l tG bs)),.h (ap .i64 vb bs)]):=by
 intro A F hw hS;refine aF Tryz.func205 λ_=>?_;obtain⟨v0,hS⟩:=oO.open hS .z;dsimp only [NT,aa,ag] at hS;have hI:=ah.qT hS (.s (.s .z));obtain⟨ob,cb,rfl,_⟩:=hI.bE;have hq:=yn hS hw;revert hq hS hw;clear hS;refine W cd (J1 bz) ?_<;>(unhygienic intros)
 refine cW (λk fr A'=>A'.Wf/\∃(i:Nat),k=bs.length-i/\i<=bs.length/\fr 0=pv p/\fr 1=.int .i64 tG/\fr 10=.slice ob bs.length cb/\fr 11=.int .i64 bs.length/\fr 12=.int .i64 i/\
  ah A' [.h (oO p c (mY c l tG (bs.take i))),.h (ap .i64 (.slice ob bs.length cb) bs),.h F]) bs.length ?_ ?_
 refine⟨hw,0,by simp,by simp,by simp,by simp,by simp,by simp,by simp,?_⟩;have e:mY c l tG (bs.take 0)=l:=by simp [mY]
 rw [e];exact oO.dA (v:=v0) hS (.s .z (.s .z .z));clear hq hI hS hw;rintro k fr A' ⟨hw,i,rfl,hi,h0,h1,MS,D0,FI,hS⟩;obtain⟨v,hS⟩:=oO.open hS .z;dsimp only [NT,aa,ag] at hS;have hI:=ah.qT hS (.s (.s .z));have qz:=L4 c l tG (bs.take i);have htl:(bs.take i).length<=bs.length:=by simp;omega
 have hq:=yn hS hw;refine aO ?_;by_cases bL:i<bs.length
 . have gW:(i:Int)<bs.length:=(by omega);have fU:=uR (i:=i);obtain⟨pp,bP,rfl,bI,hcell⟩:=hI.at bL;have Us:bs.take (i+1)=bs.take i++[bs[i]]:=List.take_succ_eq_append_getElem bL;have kv:=sV c wo bs[i] (hb _ (List.getElem_mem bL));dsimp only [bq.v] at kv;by_cases h:0<=dL c bs[i]
   . repeat' (first|(with_reducible apply Um;(·first|(simp;done)|(simp;rfl));(·first|(simp;done)|(simp;rfl));(·exact wA);(·exact sA);(·first|exact pA|exact kA);(·first|exact AW.bM _ _|((repeat' (first|apply ay.z|apply ay.s));done)|(simp [hq];(repeat' (first|rfl|refine⟨rfl,?_⟩));done)|(simp;done)|(simp;rfl)|(simp [hq];done)|(simp [hq];rfl));(·first|omega|(simp;omega));(·intro _ _;trivial);rintro _ _ _ hS hw _;(try dsimp only [AW.aV] at hS);have hq:=yn hS hw)|(refine jX λR hR=>?_;simp [ai,ar,h0,h1,MS,D0,FI,hq,bI,hcell,h,bL,gW,fU,AW.af,aB];try simp (disch:=omega) only [if_pos,if_neg,ai,ar])|(refine hR _ _ ?_;clear hR R)|(refine hK _ _ ?_;clear hK K)|refine nx ?_|refine wn λK hK=>?_|simp only [wS]|(refine bD (kv _) ?_;rintro _ _ ⟨rfl,rfl⟩ _ _)|(show cM _ _ _ _ _ _;refine nx ?_)|(refine wc rfl (λhc=>?_) (λhc=>?_)<;>(try simp at hc)<;>(try omega))|(refine ib (λhc=>?_) (λhc=>?_)<;>(try omega)<;>(try simp (disch:=omega) only [if_pos,if_neg])))
     refine⟨bs.length-(i+1),by omega,?_,i+1,rfl,by omega,by simp [h0],by simp [h1],by simp [MS],by simp [D0],by simp,?_⟩
     first|exact hw|exact hw.set _ (hw.lt (hS.g 2 rfl))
     rw [Us,AV,if_pos h];apply ah.bO;apply oO.dA
     (·exact sA)
     (·first|exact pA|exact kA)
     (·first|exact pA|exact kA)
   revert hq hS hw;(repeat first|clear hq|clear hS|clear hw|revert hc|revert R|revert K);refine W (J1 @kv) (tA h0 h1 MS D0 FI bI hcell h bL gW fU bz) ?_<;>(unhygienic intros);refine⟨bs.length-(i+1),by omega,hw,i+1,rfl,by omega,by simp [h0],by simp [h1],by simp [MS],by simp [D0],by simp,?_⟩;rw [Us,AV,if_neg h];apply ah.bO;apply oO.dA
   (·exact sA)
   (·first|exact pA|exact kA)
   (·first|exact pA|exact kA)
 have Ls:i=bs.length:=by omega
 subst Ls;rw [List.take_length] at hS;revert hq hS hw;(repeat first|clear hq|clear hS|clear hw|revert hc|revert R|revert K);refine W cd (J6 h0 h1 MS D0 FI bz) ?_<;>(unhygienic intros);refine⟨_,by first|rfl|(simp;rfl),trivial,?_⟩;exact oO.dA (v:=v) hS (.s .z (.s .z .z))
theorem xI (l:List (Int×Int)) (nz:Int) (x:Int×Int):jV (l++[x]) nz=if nz<x.2 then jV l nz++[x] else jV l nz:=by
 unfold jV;rw [List.filter_append];by_cases h:nz<x.2<;>simp [h]
theorem xK (c:bq) (l:List (Int×Int)) (nz:Int) (x:Int×Int):lT c (l++[x]) nz=if nz<x.2 then lT c l nz else lT c l nz++[⟨dL c x.1,x.1,0,0⟩]:=by
 unfold lT;rw [List.filter_append];by_cases h:nz<x.2<;>simp [h]
theorem wa (p:Nat) (c:bq) (wo:db c) (l:List (Int×Int)) (nz:Int) (hb:∀x∈l,x.1<2^62) (hl:l.length<2^28) :
 dT Tryz.prog 80 [pv p,.int .i64 nz] [.h (oO p c l)] (λdp v=>v=pv dp) (λdp=>[.h (oO p c (jV l nz)),.h (yY dp (lT c l nz))]):=by
 intro A F hw hS;refine aF Tryz.func80 λ_=>?_;obtain⟨v0,hS⟩:=oO.open hS .z;dsimp only [NT,aa,ag] at hS;have hI:=ah.jQ hS (.s .z);obtain⟨ob,cb,rfl,_⟩:=hI.bE;have hq:=yn hS hw;revert hq hS hw;clear hS;refine W (J1 (od uX)) (J1 bz) ?_<;>(unhygienic intros)
 refine cW (λk fr A'=>A'.Wf/\∃(i:Nat),k=l.length-i/\i<=l.length/\fr 0=pv p/\fr 1=.int .i64 nz/\fr 5=pv A.next/\fr 17=.slice ob l.length cb/\fr 18=.int .i64 l.length/\fr 19=.int .i64 i/\
  ah A' [.h (Sc (fr 6) (jV (l.take i) nz)),.h (yY A.next (lT c (l.take i) nz)),.at p (Qf c (.slice ob l.length cb)),.h (Sc (.slice ob l.length cb) l),.h F]) l.length ?_ ?_
 have h1:=hS.alloc hw (.cells [.slice none 0 0] true 1);have h2:=ah.nilE (yY.nil h1 .z);refine⟨hw.alloc _,0,by simp,by simp,by simp,by simp,by simp,by simp,by simp,by simp,?_⟩;exact h2;clear hq hI hS;rintro k fr A' ⟨i8,i,rfl,hi,h0,h1,h5,Zm,Zl,h19,hS⟩;obtain⟨vl,q,OS,hS⟩:=yY.open hS (.s .z);dsimp only [Tw,aa,ag] at hS;have qz:(jV (l.take i) nz).length<=l.length:=by
  have e1:=List.length_filter_le (λx:Int×Int=>decide (nz<x.2)) (l.take i);have e2:(l.take i).length<=l.length:=by simp;omega
  unfold jV;omega
 have hal2:(q.map Prod.fst).length<=l.length:=by
  have e0:q.length=(lT c (l.take i) nz).length:=by rw [<-OS,List.length_map]
  have e1:=List.length_filter_le (λx:Int×Int=>!decide (nz<x.2)) (l.take i);have e2:(l.take i).length<=l.length:=by simp;omega
  unfold lT at e0;rw [List.length_map] at e0 ⊢;omega
 replace hw:=i8;refine aO ?_;by_cases bL:i<l.length
 . have gW:(i:Int)<l.length:=(by omega);have fU:=uR (i:=i);obtain⟨pp,bP,rfl,bI,eJ,hcell⟩:=ah.Zw hS (.s (.s (.s (.s (.s .z))))) bL;have Us:l.take (i+1)=l.take i++[l[i]]:=List.take_succ_eq_append_getElem bL;have kv:=sV c wo l[i].1 (hb _ (List.getElem_mem bL));dsimp only [bq.v] at kv;have hq:=yn hS hw;by_cases h:nz<l[i].2
   . repeat' (first|(with_reducible apply Um;(·first|(simp;done)|(simp;rfl));(·first|(simp;done)|(simp;rfl));(·exact wA);(·exact sA);(·first|exact pA|exact kA);(·first|exact AW.bM _ _|((repeat' (first|apply ay.z|apply ay.s));done)|(simp [hq];(repeat' (first|rfl|refine⟨rfl,?_⟩));done)|(simp;done)|(simp;rfl)|(simp [hq];done)|(simp [hq];rfl));(·first|omega|(simp;omega));(·intro _ _;trivial);rintro _ _ _ hS hw _;(try dsimp only [AW.aV] at hS);have hq:=yn hS hw)|(refine jX λR hR=>?_;simp [ai,ar,h0,h1,h5,Zm,Zl,h19,hq,bI,eJ,hcell,h,bL,gW,fU,AW.af,aB];try simp (disch:=omega) only [if_pos,if_neg,ai,ar])|(refine hR _ _ ?_;clear hR R)|(refine hK _ _ ?_;clear hK K)|refine nx ?_|refine wn λK hK=>?_|simp only [wS,uX]|refine wl Tryz.mx uX (by decide +kernel) λK hK=>?_|(show cM _ _ _ _ _ _;refine nx ?_)|(refine wc rfl (λhc=>?_) (λhc=>?_)<;>(try simp at hc)<;>(try omega))|(refine ib (λhc=>?_) (λhc=>?_)<;>(try omega)<;>(try simp (disch:=omega) only [if_pos,if_neg])))
     refine⟨l.length-(i+1),by omega,hw,i+1,rfl,by omega,by simp [h0],by simp [h1],by simp [h5],by simp [Zm],by simp [Zl],by simp,?_⟩;rw [Us,xI,if_pos h,xK,if_pos h];simp;apply ah.bO;apply yY.dA OS
     (·exact sA)
     (·first|exact pA|exact kA)
     (·first|exact pA|exact kA)
   . repeat' (first|(with_reducible apply Vz;(·first|(simp;done)|(simp;rfl));(·first|(simp;done)|(simp;rfl));(·exact wA);(·exact sA);(·first|exact pA|exact kA);(·first|exact AW.bM _ _|((repeat' (first|apply ay.z|apply ay.s));done)|(simp [hq];(repeat' (first|rfl|refine⟨rfl,?_⟩));done)|(simp;done)|(simp;rfl)|(simp [hq];done)|(simp [hq];rfl));(·first|omega|(simp;omega));(·intro _ _;trivial);rintro _ _ _ hS hw _;(try dsimp only [AW.aV] at hS);have hq:=yn hS hw)|(refine jX λR hR=>?_;simp [ai,ar,h0,h1,h5,Zm,Zl,h19,hq,bI,eJ,hcell,h,bL,gW,fU,AW.af,aB];try simp (disch:=omega) only [if_pos,if_neg,ai,ar])|(refine hR _ _ ?_;clear hR R)|(refine hK _ _ ?_;clear hK K)|refine nx ?_|refine wn λK hK=>?_|simp only [wS,uX]|refine wl Tryz.mx uX (by decide +kernel) λK hK=>?_|(refine bD (kv _) ?_;rintro _ _ ⟨rfl,rfl⟩ _ _)|(refine bD (yc _ _ _) ?_;rintro _ _ ⟨rfl,rfl⟩ _ _)|(show cM _ _ _ _ _ _;refine nx ?_)|(refine wc rfl (λhc=>?_) (λhc=>?_)<;>(try simp at hc)<;>(try omega))|(refine ib (λhc=>?_) (λhc=>?_)<;>(try omega)<;>(try simp (disch:=omega) only [if_pos,if_neg])))
     simp only [List.length_map] at hS;refine⟨l.length-(i+1),by omega,?_,i+1,rfl,by omega,by simp [h0],by simp [h1],by simp [h5],by simp [Zm],by simp [Zl],by simp,?_⟩;exact wA;rw [Us,xI,if_neg h,xK,if_neg h];simp;apply ah.bO;apply yY.vy OS
     (·exact sA)
     (·first|exact pA|exact kA)
     (·first|exact pA|exact kA)
     (·first|exact pA|exact kA)
     (·first|exact pA|exact kA)
     (·first|exact pA|exact kA)
 have Ls:i=l.length:=by omega
 subst Ls;rw [List.take_length] at hS OS;obtain⟨o6,c6,h6,_⟩:=(ah.jQ hS (.s (.s (.s .z)))).bE;rw [h6] at hS;have hq:=yn hS hw;revert hq hS hw;(repeat first|clear hq|clear hS|clear hw|revert hc|revert R|revert K);refine W (J1 (od uX)) (J8 h0 h1 h5 h6 Zm Zl h19 bz) ?_<;>(unhygienic intros);refine⟨_,by first|rfl|(simp [h5];rfl),?_⟩;apply wv
 (·first|rfl|(simp;done))
 apply ah.bO;apply oO.dA;apply yY.dA OS
 (·exact sA)
 (·first|exact pA|exact kA)
 (·first|exact pA|exact kA)
 (·first|exact pA|exact kA)
theorem MZ (p:Nat) (o:Option Addr) (n c:Nat) (A:AW) (hg:A.bg p=some (.cells [.slice o n c] true 1)):eQ 84 [pv p] A (.bool (decide (n=0))):=by
 refine aF Tryz.func84 λ_=>?_;refine W cd (J2 hg @AW.af) ?_<;>intros;exact⟨_,by first|rfl|(simp;rfl),by simp,rfl⟩
theorem Jt (p:Nat) (l:List fM):bf Tryz.prog 84 [pv p] [.h (yY p l)] (λv=>v=.bool (decide (l.length=0))) (λ_=>[.h (yY p l)]):=by
 intro A F hw hS;obtain⟨vl,q,OS,hS⟩:=yY.open hS .z;dsimp only [Tw,aa,ag] at hS;obtain⟨o,c,rfl,_⟩:=(ah.jQ hS (.s .z)).bE;have Xm:q.length=l.length:=by rw [<-OS,List.length_map]
 refine(MZ p o _ c A (hS.g 0 rfl)).mono ?_;rintro _ _ ⟨rfl,rfl⟩;exact⟨by simp [Xm],yY.dA OS hS (.s .z (.s .z (.s .z .z)))⟩
theorem Js (p pb:Nat) (x:fM) (l:List fM) (M:Mm) (hl:l.length<2^29) :
 bf Tryz.prog 82 [pv p,pv pb] [.h (yY p (x::l)),dG pb M] (λv=>v=(xq (x::l) M).1.v) (λ_=>[.h (yY p (xq (x::l) M).2.1),dG pb (xq (x::l) M).2.2]):=by
 intro A F hw dm;refine aF Tryz.func82 λ_=>?_;dsimp only [aa,ag] at dm;obtain⟨vl,q,OS,hS⟩:=yY.open dm .z;clear dm;dsimp only [Tw,aa,ag] at hS;cases q with
 | nil=>cases OS
 | cons y q=>
   obtain⟨n,x'⟩:=y;obtain⟨h1,hqn⟩:=List.cons.inj OS;clear OS;dsimp only at h1;subst h1;rw [List.map_cons] at hS;dsimp only at hS;have iz:=ah.XX hS (.s (.s .z));clear hS;obtain⟨bb,off,c,bP,rfl,HQ,yu,bI,hS,kv⟩:=ah.Su iz (.s (.s (.s .z)));clear iz;have hd:=λA hg=>MZ p (some ⟨bb,off,none⟩) ((q.map Prod.fst).length+1) c A hg;rw [decide_eq_false (by omega)] at hd;have hlq:(q.map Prod.fst).length=l.length:=(by rw [<-hqn,List.length_map,List.length_map]);rw [hlq] at hS hd kv HQ yu;have hc3:off<bP.length:=(by omega);have e1:(1:Int)<=(l.length:Int)+1:=(by omega);have e0:(0:Int)<(l.length:Int)+1:=(by omega);have hpd:=λA hg=>vW n (ej x' M).2.1 A hg;have hcl1:=λA' L' K' h1 h2=>(kv A' L' K' h1 h2).1;have hcl2:=λA' L' K' h1 h2=>(kv A' L' K' h1 h2).2;unfold xq;have hq:=yn hS hw;by_cases h:(ej x' M).2.1.bR=3
   . rw [decide_eq_true h] at hpd;revert hq hS hw;refine W (J3 (Tg.mk (n:=10) (λ{A L K k}=>mo (A:=A) (L:=L) (K:=K) (k:=k) hd)) (Tg.mk (n:=10) (λ{A L K k}=>mo (A:=A) (L:=L) (K:=K) (k:=k) hpd)) (ri n pb x' M)) (J9 bI HQ e1 e0 @mU.eq_1 @eu.eq_1 bz @be.eq_1 @aW.v.eq_1) ?_<;>(unhygienic intros);refine⟨_,by first|rfl|(simp [hq,AW.af,aB];rfl),by first|rfl|(simp [aW.v];done),?_⟩;rw [if_pos h];apply ah.bO;apply yY.dA hqn;apply hcl2
     (·exact sA)
     (·first|exact pA|exact kA)
     dsimp only [Tw]
     (·first|exact pA|exact kA)
     (·first|exact pA|exact kA)
   rw [decide_eq_false h] at hpd;revert hq hS hw;(repeat first|clear hq|clear hS|clear hw|revert hc|revert R|revert K);refine W (J3 (Tg.mk (n:=10) (λ{A L K k}=>mo (A:=A) (L:=L) (K:=K) (k:=k) hd)) (Tg.mk (n:=10) (λ{A L K k}=>mo (A:=A) (L:=L) (K:=K) (k:=k) hpd)) (ri n pb x' M)) (J9 bI HQ e1 e0 @mU.eq_1 @eu.eq_1 bz @be.eq_1 @aW.v.eq_1) ?_<;>(unhygienic intros);refine⟨_,by first|rfl|(simp [hq,AW.af,aB];rfl),by first|rfl|(simp [aW.v];done),?_⟩;rw [if_neg h];apply ah.bO;apply yY.dA (q:=(n,(ej x' M).2.1)::q) (by rw [List.map_cons,hqn]);apply ah.XY (n:=n) (p:=(ej x' M).2.1) (q:=q);apply hcl1
   (·exact sA)
   (·first|exact pA|exact kA)
   (·first|exact pA|exact kA)
   (·first|exact pA|exact kA)
   dsimp only [Tw,List.map_cons]
   (·first|exact pA|exact kA)
   (·first|exact pA|exact kA)
end
end Go.Stx
