/-
 The program's thread: how it lies in memory; records behind a slice.
-/
import Derived.Test.YtipomeafemoelaaGreatDoorG10
set_option linter.unusedVariables false
set_option linter.unusedSimpArgs false
set_option linter.unusedSectionVars false
set_option maxRecDepth 20000
set_option maxHeartbeats 4000000
open Go.IntKind renaming i64->qg,u64->qd
open Go.Proofs.Tryz renaming func97->kat,mx->qj,prog->qa
open Go.Value renaming oneCell'->qL
open List renaming drop_zero->Za,filter_append->kaH,flatMap_cons->kaI,getElem_mem->Zh,length_append->qm,length_drop->ZG,length_filter_le->Z2,length_map->qD,length_take->Zx,map_append->Zr,map_cons->Zi,take_length->ZY,take_of_length_le->ZD,take_succ_eq_append_getElem->ZX
open Nat renaming add_mul->ZS,le_refl->qf
open Prod renaming fst->qB,snd->Zm
namespace Go.Stx
open Go Go.Proofs
attribute [local irreducible] c8 aY aD aO cK da TW bG
section
open Go.Proofs Go
variable [Gl]
theorem dv.Jj {P:Program} {A:AW} {t e:TypeId} {i:TypeInfo} {z:Value} {v:Value} {size m:Nat} {cs mc:List Value} {F:HP} (n:Nat)
 (hu:P.underlying t=some (.slice e)) (hi:P.info? e=some i) (hz:i.zero=some z) (ii:i.size=size) (oK:z.cells.size=size) (h0:0<size)
 (hn:A.bp n=some (.cells mc true size)) (CI:mc.length=size) (mP:mc.all qL=true) (h:bB A (dv size v m cs*F)) (bX:m<2 ^ 30) (zj:i.bytes<=2 ^ 16) (hw:A.Wf) :
 ∃v' A',fy P A t t v (.slice (some ⟨n,0,none⟩) 1 1)=some (v',A')/\bB A' (dv size v' (m+1) (cs++mc)*F)/\A'.Wf/\A.next<=A'.next:=by
 subst ii;have jm:gD A i.size (.slice (some ⟨n,0,none⟩) 1 1)=some (1,mc):=by
  have e1:mc.take i.size=mc:=ZD (by omega);simp [gD,AW.b8,hn,CI,e1]
 have hb:(m+1)*i.bytes<=140737488355328:=by
  have h1:=Nat.mul_le_mul (show m+1<=2 ^ 30 by omega) zj;omega
 have kS:m+1<=140737488355328:=by omega
 rcases dv.cases h with ⟨rfl,rfl,rfl,h2⟩|⟨b,off,c,b8,rfl,h1,h2,h3,h4⟩
 . refine⟨.slice (some ⟨A.next,0,none⟩) (0+1) (0+1),A.alloc (.cells ([]++mc) true i.size),?_,?_,hw.alloc _,by simp⟩
   . simp only [fy,hu,hi,hz,jm,gO];rw [aA ⟨oK,h0,trivial⟩,aw (by omega),aA ⟨kS,hb,mP⟩]
     try simp
   have:=h2.alloc hw (.cells ([]++mc) true i.size);have h9:bB (A.alloc (.cells ([]++mc) true i.size)) (pt A.next (.cells mc true i.size)*F):=this;exact dv.mk (size:=i.size) (n:=1) (off:=0) (c:=1) (by simp) (by simp [CI]) (by simp [<-CI]) h9
 have hg:=h4.bp;have cD:=hw.lt hg;have kJ:cs.length=m*i.size:=by rw [h3,Zx,ZG];omega
 refine⟨.slice (some ⟨A.next,0,none⟩) (m+1) (m+1),(A.set b none).alloc (.cells ((b8.drop off).take (m*i.size)++mc) true i.size),?_,?_,
  (hw.set none cD).alloc _,by simp⟩
 simp only [fy,hu,hi,hz,jm,gO,hg];rw [aA ⟨oK,h0,trivial⟩,aw (by simp),aA ⟨trivial,h2⟩];simp only;rw [aw (by omega),aA ⟨kS,hb,mP⟩];have h5:=(h4.Nh).alloc (hw.set none cD) (.cells ((b8.drop off).take (m*i.size)++mc) true i.size);have h6:bB ((A.set b none).alloc (.cells ((b8.drop off).take (m*i.size)++mc) true i.size)) (pt A.next (.cells (cs++mc) true i.size)*F):=by
  have:=h5;rw [<-h3] at this ⊢;exact this
 have h7:(cs++mc).length=(m+1)*i.size:=by rw [qm,kJ,CI,ZS,Nat.one_mul]
 refine dv.mk (qf _) (by omega) ?_ h6;rw [Za,ZD (by omega)]
theorem dv.Wo {P:Program} {A:AW} {t e:TypeId} {i:TypeInfo} {z:Value} {v x:Value} {size m m2:Nat} {cs mc:List Value} {F:HP}
 (hu:P.underlying t=some (.slice e)) (hi:P.info? e=some i) (hz:i.zero=some z) (ii:i.size=size) (oK:z.cells.size=size) (h0:0<size)
 (hx:fW A size x m2 mc) (mP:mc.all qL=true) (h:bB A (dv size v m cs*F)) (bX:m+m2<2 ^ 30) (zj:i.bytes<=2 ^ 16) (hw:A.Wf) :
 ∃v' A',fy P A t t v x=some (v',A')/\bB A' (dv size v' (m+m2) (cs++mc)*F)/\A'.Wf/\A.next<=A'.next:=by
 subst ii;have jm:gD A i.size x=some (m2,mc):=fW.nM hx;have CI:mc.length=m2*i.size:=hx.length;have hb:(m+m2)*i.bytes<=140737488355328:=by
  have h1:=Nat.mul_le_mul (show m+m2<=2 ^ 30 by omega) zj;omega
 have kS:m+m2<=140737488355328:=by omega
 by_cases hm:m2=0;subst hm;have Qv:mc=[]:=List.eq_nil_of_length_eq_zero (by omega);subst Qv;refine⟨v,A,?_,by simpa using h,hw,qf _⟩;have holds:∃b,gO A i.size v=some (b,m,cs):=by
  rcases dv.cases h with ⟨rfl,rfl,rfl,h2⟩|⟨b,off,c,b8,rfl,h1,h2,h3,h4⟩;exact⟨none,rfl⟩;refine⟨some ⟨b,off,none⟩,?_⟩;simp [gO,h4.bp,h2,h3]
 obtain⟨b,AI⟩:=holds;simp [fy,hu,hi,hz,oK,h0,jm,AI];rcases dv.cases h with ⟨rfl,rfl,rfl,h2⟩|⟨b,off,c,b8,rfl,h1,h2,h3,h4⟩;refine⟨.slice (some ⟨A.next,0,none⟩) (0+m2) (0+m2),A.alloc (.cells mc true i.size),?_,?_,hw.alloc _,by simp⟩;simp only [fy,hu,hi,hz,jm,gO];rw [aA ⟨oK,h0,trivial⟩,aw hm,aA ⟨kS,hb,mP⟩];simp;have h9:=h2.alloc hw (.cells mc true i.size);exact dv.mk (size:=i.size) (n:=0+m2) (off:=0) (c:=0+m2) (qf _) (by simp [CI]) (by simp [<-CI]) h9;have hg:=h4.bp;have cD:=hw.lt hg;have kJ:cs.length=m*i.size:=by rw [h3,Zx,ZG];omega
 refine⟨.slice (some ⟨A.next,0,none⟩) (m+m2) (m+m2),(A.set b none).alloc (.cells ((b8.drop off).take (m*i.size)++mc) true i.size),?_,?_,
  (hw.set none cD).alloc _,by simp⟩
 simp only [fy,hu,hi,hz,jm,gO,hg];rw [aA ⟨oK,h0,trivial⟩,aw (by simp),aA ⟨trivial,h2⟩];simp only;rw [aw hm,aA ⟨kS,hb,mP⟩];have h5:=(h4.Nh).alloc (hw.set none cD) (.cells ((b8.drop off).take (m*i.size)++mc) true i.size);have h6:bB ((A.set b none).alloc (.cells ((b8.drop off).take (m*i.size)++mc) true i.size)) (pt A.next (.cells (cs++mc) true i.size)*F):=by
  have:=h5;rw [<-h3] at this ⊢;exact this
 have h7:(cs++mc).length=(m+m2)*i.size:=by rw [qm,kJ,CI,ZS]
 refine dv.mk (qf _) (by omega) ?_ h6;rw [Za,ZD (by omega)]
section
variable {P:Program} {S:AW->Prop} {K:Fr->AW->Prop} {fv:List zQ} {a:Fr} {A:AW} {d:Option Tmp} {m:Nat} {x y:Operand} {t e:TypeId} {i:TypeInfo} {z:Value} {n size:Nat} {v:Value} {cs mc:List Value} {L K':List It}
theorem R7 {k':Value->AW->Prop} (hu:P.underlying t=some (.slice e)) (hi:P.info? e=some i) (hz:i.zero=some z) (ii:i.size=size) (oK:z.cells.size=size) (h0:0<size) (zj:i.bytes<=2 ^ 16)
 (e1:iW a x=v) (e2:iW a y=.slice (some ⟨n,0,none⟩) 1 1) (hw:A.Wf) (hS:ah A L) (hp:aE L (.h (dv size v m cs)) K') (hn:A.bp n=some (.cells mc true size)) (CI:mc.length=size) (mP:mc.all qL=true) (bX:m<2 ^ 30)
 (hk:∀o c A',ah A' (.h (dv size (.slice o (m+1) c) (m+1) (cs++mc))::K')->A'.Wf->A.next<=A'.next->k' (.slice o (m+1) c) A') :
 i8 P (.call ⟨.builtin .append,#[x,y],#[t,t]⟩) (iW a) A k':=by
 have h1:bB A (dv size v m cs*aM K'):=by
  unfold ah at hS;rw [hp.aM] at hS;exact hS
 obtain⟨v',A',e3,h2,h3,h4⟩:=dv.Jj (P:=P) (t:=t) n hu hi hz ii oK h0 hn CI mP h1 bX zj hw;obtain⟨o,c,h5,_⟩:=(dv.is h2).cy;subst h5;exact Ca e1 e2 e3 (hk o c A' h2 h3 h4)
theorem CC (hu:P.underlying t=some (.slice e)) (hi:P.info? e=some i) (hz:i.zero=some z) (ii:i.size=size) (oK:z.cells.size=size) (h0:0<size) (zj:i.bytes<=2 ^ 16)
 (e1:iW a x=v) (e2:iW a y=.slice (some ⟨n,0,none⟩) 1 1) (hw:A.Wf) (hS:ah A L) (hp:aE L (.h (dv size v m cs)) K') (hn:A.bp n=some (.cells mc true size)) (CI:mc.length=size) (mP:mc.all qL=true) (bX:m<2 ^ 30)
 (hs:∀A',ah A' K'->S A')
 (hk:∀o c A',ah A' (.h (dv size (.slice o (m+1) c) (m+1) (cs++mc))::K')->A'.Wf->A.next<=A'.next->aY P S K fv (eK a d (.slice o (m+1) c)) A') :
 aY P S K (⟨d,.call ⟨.builtin .append,#[x,y],#[t,t]⟩,none,3⟩::fv) a A:=by
 unfold aY;rw [aA (by simp)];exact R7 hu hi hz ii oK h0 zj e1 e2 hw hS hp hn CI mP bX λo c A' h1 h2 h3=>⟨hs A' h1.tail,hk o c A' h1 h2 h3⟩
end
def j7.cells (o:j7):List Value:=[.int .i64 o.pc,.int .i64 o.fI,.int .u64 o.val]
def uL (l:List j7):List Value:=l.flatMap j7.cells
def iU (v:Value) (l:List j7):HP:=dv 3 v l.length (uL l)
theorem Sm (l:List j7) (o:j7):uL l++o.cells=uL (l++[o]):=by simp [uL]
section
variable {S:AW->Prop} {K:Fr->AW->Prop} {fv:List zQ} {a:Fr} {A:AW} {d:Option Tmp} {x y:Operand} {l:List j7} {n:Nat} {v:Value} {L K' K2:List It} {y1 y2 y3:Int}
theorem Hw (e1:iW a x=v) (e2:iW a y=.slice (some ⟨n,0,none⟩) 1 1) (hw:A.Wf) (hS:ah A L) (hp:aE L (.h (iU v l)) K') (hn:A.bp n=some (.cells [.int .i64 y1,.int .i64 y2,.int .u64 y3] true 3)) (bX:l.length<2 ^ 30)
 (hs:∀A',ah A' K'->S A')
 (hk:∀o c A',ah A' (.h (iU (.slice o (l.length+1) c) (l++[⟨y1,y2,y3⟩]))::K')->A'.Wf->A.next<=A'.next->aY qa S K fv (eK a d (.slice o (l.length+1) c)) A') :
 aY qa S K (⟨d,.call ⟨.builtin .append,#[x,y],#[117,117]⟩,none,3⟩::fv) a A:=by
 refine CC (P:=qa) (size:=3) (m:=l.length) (cs:=uL l) Tryz.underlying117 Tryz.info159 Tryz.zero159 rfl rfl (by omega) (by decide) e1 e2 hw hS hp hn rfl rfl bX hs λo c A' h1 h2 h3=>hk o c A' ?_ h2 h3;have e:iU (.slice o (l.length+1) c) (l++[⟨y1,y2,y3⟩])=dv 3 (.slice o (l.length+1) c) (l.length+1) (uL l++[.int .i64 y1,.int .i64 y2,.int .u64 y3]):=by
  unfold iU;rw [<-Sm,qm];rfl
 rw [e];exact h1
theorem OK (l:List j7):(uL l).all qL=true:=by
 rw [List.all_eq_true];intro v hv;obtain⟨x,_,hx⟩:=List.mem_flatMap.1 hv;simp only [j7.cells,List.mem_cons,List.not_mem_nil,or_false] at hx;rcases hx with rfl|rfl|rfl<;>rfl
theorem SF {v2:Value} {l2:List j7} (e1:iW a x=v) (e2:iW a y=v2) (hw:A.Wf) (hS:ah A L) (hp:aE L (.h (iU v l)) K') (GJ:aE L (.h (iU v2 l2)) K2) (bX:l.length+l2.length<2 ^ 30)
 (hs:∀A',ah A' K'->S A')
 (hk:∀o c A',ah A' (.h (iU (.slice o (l.length+l2.length) c) (l++l2))::K')->A'.Wf->A.next<=A'.next->aY qa S K fv (eK a d (.slice o (l.length+l2.length) c)) A') :
 aY qa S K (⟨d,.call ⟨.builtin .append,#[x,y],#[117,117]⟩,none,3⟩::fv) a A:=by
 have h1:bB A (dv 3 v l.length (uL l)*aM K'):=by
  have rQ:=hS;unfold ah at rQ;rw [hp.aM] at rQ;exact rQ
 have h2:fW A 3 v2 l2.length (uL l2):=by
  have rQ:=hS;unfold ah at rQ;rw [GJ.aM] at rQ;exact dv.is rQ
 obtain⟨v',A',e3,h3,h4,h5⟩:=dv.Wo (P:=qa) (size:=3) (t:=117) Tryz.underlying117 Tryz.info159 Tryz.zero159 rfl rfl (by omega) h2 (OK l2) h1 bX (by decide) hw;obtain⟨o,c,h6,_⟩:=(dv.is h3).cy;subst h6;have h7:ah A' (.h (iU (.slice o (l.length+l2.length) c) (l++l2))::K'):=by
  have e:iU (.slice o (l.length+l2.length) c) (l++l2)=dv 3 (.slice o (l.length+l2.length) c) (l.length+l2.length) (uL l++uL l2):=by
   unfold iU;rw [qm,show uL (l++l2)=uL l++uL l2 by simp [uL]]
  show bB A' (iU (.slice o (l.length+l2.length) c) (l++l2)*aM K');rw [e];exact h3
 unfold aY;rw [aA (by simp)];exact Ca e1 e2 e3 ⟨hs A' h7.tail,hk o c A' h7 h4 h5⟩
end
structure vO where
 bN:Int
 lH:R8
 iR:Int
 aW:Bool
 fC:Int
 cf:br
 id:Int
 nt:Int
 pc:Int
 dE:R8
 kR:Int
 done:Bool
 jB:Int
structure Up where
 va:Value
 vs:Value
 vf:Value
 vd:Value
 vc:Value
 vl:Value
 vo:Value
def aT.d (t:aT):vO:=⟨t.bN,t.lH,t.iR,t.aW,t.fC,t.cf,t.id,t.nt,t.pc,t.dE,t.kR,t.done,t.jB⟩
def nK (d:vO) (w:Up):List Value:=[w.va,.int .i64 d.bN,.int .u64 d.lH.r0,.int .u64 d.lH.r1,.int .u64 d.lH.r2,.int .u64 d.lH.r3,.int .u64 d.lH.r4,.int .u64 d.lH.r5,.int .u64 d.lH.r6,.int .u64 d.lH.r7,.int .i64 d.iR,w.vs,.bool d.aW,.int .i64 d.fC,w.vf,w.vd,.int .i64 d.cf.be,.int .i64 d.cf.ao,.int .i64 d.cf.base,.int .i64 d.cf.c0,.int .i64 d.cf.c1,.int .i64 d.cf.c2,.int .i64 d.cf.c3,.int .i64 d.cf.reads,.int .i64 d.cf.bP,.int .i64 d.cf.an,.int .i64 d.cf.ay,.int .i64 d.cf.aB,.bool d.cf.aW,.int .i64 d.id,.int .i64 d.nt,w.vc,.int .i64 d.pc,.int .u64 d.dE.r0,.int .u64 d.dE.r1,.int .u64 d.dE.r2,.int .u64 d.dE.r3,.int .u64 d.dE.r4,.int .u64 d.dE.r5,.int .u64 d.dE.r6,.int .u64 d.dE.r7,.int .i64 d.kR,.bool d.done,w.vl,w.vo,.int .i64 d.jB]
abbrev tD (d:vO) (w:Up):dQ:=.cells (nK d w) true 1
variable {d:vO} {w:Up}
@[simp] theorem thC_len:(nK d w).length=46:=rfl
@[simp] theorem thC_g0:(nK d w)[0]? = some (w.va):=rfl
@[simp] theorem thC_g1:(nK d w)[1]? = some (.int .i64 d.bN):=rfl
@[simp] theorem thC_g10:(nK d w)[10]? = some (.int .i64 d.iR):=rfl
@[simp] theorem thC_g11:(nK d w)[11]? = some (w.vs):=rfl
@[simp] theorem thC_g12:(nK d w)[12]? = some (.bool d.aW):=rfl
@[simp] theorem thC_g13:(nK d w)[13]? = some (.int .i64 d.fC):=rfl
@[simp] theorem thC_g14:(nK d w)[14]? = some (w.vf):=rfl
@[simp] theorem thC_g15:(nK d w)[15]? = some (w.vd):=rfl
@[simp] theorem thC_g29:(nK d w)[29]? = some (.int .i64 d.id):=rfl
@[simp] theorem thC_g30:(nK d w)[30]? = some (.int .i64 d.nt):=rfl
@[simp] theorem thC_g31:(nK d w)[31]? = some (w.vc):=rfl
@[simp] theorem thC_g32:(nK d w)[32]? = some (.int .i64 d.pc):=rfl
@[simp] theorem thC_g41:(nK d w)[41]? = some (.int .i64 d.kR):=rfl
@[simp] theorem thC_g42:(nK d w)[42]? = some (.bool d.done):=rfl
@[simp] theorem thC_g43:(nK d w)[43]? = some (w.vl):=rfl
@[simp] theorem thC_g44:(nK d w)[44]? = some (w.vo):=rfl
@[simp] theorem thC_g45:(nK d w)[45]? = some (.int .i64 d.jB):=rfl
@[simp] theorem thC_g16:(nK d w)[16]? = some (.int .i64 d.cf.be):=rfl
@[simp] theorem thC_g28:(nK d w)[28]? = some (.bool d.cf.aW):=rfl
@[simp] theorem thC_cf:((nK d w).drop 16).take 13=[.int .i64 d.cf.be,.int .i64 d.cf.ao,.int .i64 d.cf.base,.int .i64 d.cf.c0,.int .i64 d.cf.c1,.int .i64 d.cf.c2,.int .i64 d.cf.c3,.int .i64 d.cf.reads,.int .i64 d.cf.bP,.int .i64 d.cf.an,.int .i64 d.cf.ay,.int .i64 d.cf.aB,.bool d.cf.aW]:=rfl
@[simp] theorem thC_rg:((nK d w).drop 33).take 8=d.dE.cells:=rfl
@[simp] theorem thC_sv:((nK d w).drop 2).take 8=d.lH.cells:=rfl
@[simp] theorem thC_st:((nK d w).drop 32).take 11=.int .i64 d.pc::(d.dE.cells++[.int .i64 d.kR,.bool d.done]):=rfl
@[simp] theorem thC_s0 {x:Value}:(nK d w).set 0 (x)=nK d { w with va:=x }:=rfl
@[simp] theorem thC_s1 {x:Int}:(nK d w).set 1 (.int .i64 x)=nK { d with bN:=x } w:=rfl
@[simp] theorem thC_s10 {x:Int}:(nK d w).set 10 (.int .i64 x)=nK { d with iR:=x } w:=rfl
@[simp] theorem thC_s11 {x:Value}:(nK d w).set 11 (x)=nK d { w with vs:=x }:=rfl
@[simp] theorem thC_s12 {x:Bool}:(nK d w).set 12 (.bool x)=nK { d with aW:=x } w:=rfl
@[simp] theorem thC_s13 {x:Int}:(nK d w).set 13 (.int .i64 x)=nK { d with fC:=x } w:=rfl
@[simp] theorem thC_s14 {x:Value}:(nK d w).set 14 (x)=nK d { w with vf:=x }:=rfl
@[simp] theorem thC_s15 {x:Value}:(nK d w).set 15 (x)=nK d { w with vd:=x }:=rfl
@[simp] theorem thC_s32 {x:Int}:(nK d w).set 32 (.int .i64 x)=nK { d with pc:=x } w:=rfl
@[simp] theorem thC_s41 {x:Int}:(nK d w).set 41 (.int .i64 x)=nK { d with kR:=x } w:=rfl
@[simp] theorem thC_s42 {x:Bool}:(nK d w).set 42 (.bool x)=nK { d with done:=x } w:=rfl
@[simp] theorem thC_s44 {x:Value}:(nK d w).set 44 (x)=nK d { w with vo:=x }:=rfl
@[simp] theorem thC_s45 {x:Int}:(nK d w).set 45 (.int .i64 x)=nK { d with jB:=x } w:=rfl
@[simp] theorem thC_ssv {r:R8}:fA (nK d w) 2 r.cells=nK { d with lH:=r } w:=rfl
@[simp] theorem thC_srg {r:R8}:fA (nK d w) 33 r.cells=nK { d with dE:=r } w:=rfl
theorem ry {i:Int} (h:0<=i/\i<8):(nK d w)[33+i.toNat]? = some (.int .u64 (d.dE.bp i)):=by
 have h1:i=0\/i=1\/i=2\/i=3\/i=4\/i=5\/i=6\/i=7:=by omega
 rcases h1 with rfl|rfl|rfl|rfl|rfl|rfl|rfl|rfl<;>rfl
theorem yK {i x:Int} (h:0<=i/\i<8):(nK d w).set (33+i.toNat) (.int .u64 x)=nK { d with dE:=d.dE.set i x } w:=by
 have h1:i=0\/i=1\/i=2\/i=3\/i=4\/i=5\/i=6\/i=7:=by omega
 rcases h1 with rfl|rfl|rfl|rfl|rfl|rfl|rfl|rfl<;>rfl
def HS (v:Value) (l:List bm):HP:=dv 5 v l.length (l.flatMap az)
theorem yw {ι:Type} {φ ψ:ι->Prop} {x:ι} (h1:φ x) (h2:ψ x):∃x,φ x/\ψ x:=⟨x,h1,h2⟩
theorem ah.lm {A:AW} {L K:List It} {size n:Nat} {v:Value} {cs:List Value} (h:ah A L) (hp:aE L (.h (dv size v n cs)) K):fW A size v n cs:=by
 unfold ah at h;rw [hp.aM] at h;exact dv.is h
end
section
abbrev OQ:List (Nat×Nat):=[(0,0),(1,0),(2,0),(3,0),(4,0),(5,0),(6,0),(7,0),(8,0),(9,0),(10,0),(11,0),(12,0),(13,2),(14,3),(15,0),(16,0),(17,3)]
open T7
variable [Gl]
theorem yJ (b:Nat) (d:vO) (va vs vf vd vl vo:Value) (o:Option Addr) (n c:Nat) (pc:Int):bn qa 62 [pv b,.int .i64 pc] [.at b (tD d ⟨va,vs,vf,vd,.slice o n c,vl,vo⟩)] (λ_=>True)
 (λ_=>[.at b (tD { d with pc:=pc,done:=decide (pc=n) } ⟨va,vs,vf,vd,.slice o n c,vl,vo⟩)]):=by
 intro A F hw hS;refine aN Tryz.func62 λ_=>?_;dsimp only [aa,af] at hS;have hq:=fE hS hw;revert hq hS hw;refine W cF (J1 bE) ?_<;>(unhygienic intros);refine⟨_,by first|rfl|(simp;rfl),by first|trivial|rfl|(simp;done),?_⟩;apply ah.bS
 (·exact sA)
 (·first|exact pA|exact kA)
theorem lc (b:Nat) (d:vO) (va vs vf vd vl vo:Value) (o:Option Addr) (n c:Nat) (h:0<=d.pc/\d.pc<2^40):bn qa 86 [pv b] [.at b (tD d ⟨va,vs,vf,vd,.slice o n c,vl,vo⟩)] (λ_=>True)
 (λ_=>[.at b (tD { d with pc:=d.pc+1,done:=decide (d.pc+1=n) } ⟨va,vs,vf,vd,.slice o n c,vl,vo⟩)]):=by
 intro A F hw hS;refine aN Tryz.func86 λ_=>?_;dsimp only [aa,af] at hS;have hq:=fE hS hw;have O2:qg.wrap (d.pc+1)=d.pc+1:=ar (by omega) (by omega);revert hq hS hw;refine W (J1 (yJ b d va vs vf vd vl vo o n c (d.pc+1))) (J2 O2 bE) ?_<;>(unhygienic intros);refine⟨_,by first|rfl|(simp;rfl),by first|trivial|rfl|(simp;done),?_⟩;apply ah.bS
 (·exact sA)
 (·first|exact pA|exact kA)
theorem jw (b:Nat) (d:vO) (w:Up) (l:List j7) (kd v:Int) (hl:l.length<2^30):d7 qa 85 [pv b,.int .i64 kd,.int .u64 v] [.at b (tD d w),.h (iU w.vo l)] (λ_ _=>True)
 (λvo=>[.at b (tD d { w with vo:=vo }),.h (iU vo (l++[⟨d.pc,kd,v⟩]))]):=by
 intro A F hw hS;refine aN Tryz.func85 λ_=>?_;dsimp only [aa,af] at hS;have hq:=fE hS hw
 repeat' (first|(with_reducible apply Hw;(·first|(simp;done)|(simp;rfl));(·first|(simp;done)|(simp;rfl));(·exact wA);(·exact sA);(·first|exact pA|exact kA);(·first|exact AW.bY _ _|((repeat' (first|apply aE.z|apply aE.s));done)|(simp [hq];(repeat' (first|rfl|refine⟨rfl,?_⟩));done)|(simp;done)|(simp;rfl)|(simp [hq];done)|(simp [hq];rfl));(·first|omega|(simp;omega));(·intro _ _;trivial);rintro _ _ _ hS hw _;(try dsimp only [AW.bd] at hS);have hq:=fE hS hw)|(refine kY λR hR=>?_;simp [ar,ax,hq,AW.ab,aG];try simp (disch:=omega) only [aA,aw,ar,ax])|(refine hR _ _ ?_;clear hR R)|(refine hK _ _ ?_;clear hK K)|refine nx ?_|refine wn λK hK=>?_|simp only [wS,OQ]|refine wl qj OQ (by decide +kernel) λK hK=>?_|(show c8 _ _ _ _ _ _;refine nx ?_)|(refine wc rfl (λhc=>?_) (λhc=>?_)<;>(try simp at hc)<;>(try omega))|(refine ib (λhc=>?_) (λhc=>?_)<;>(try omega)<;>(try simp (disch:=omega) only [aA,aw])))
 refine⟨_,by first|rfl|(simp;rfl),?_⟩;apply yw
 (·first|trivial|rfl|(simp;done))
 apply ah.bS
 (·exact sA)
 (·first|exact pA|exact kA)
theorem vm (b:Nat) (d:vO) (w:Up) (r bR:Int) (h:0<=r/\r<8) (A:AW) (hg:A.bp b=some (tD d w)):fh 145 [pv b,.int .i64 r,.int .i64 bR] A (.int .u64 (qd.wrap (d.dE.bp r+qd.wrap bR))):=by
 refine aN Tryz.func145 λ_=>?_;have xR:=ry (d:=d) (w:=w) h;refine W cF (J5 hg xR h.1 h.2 bE) ?_<;>intros;exact⟨_,by first|rfl|(simp;rfl),rfl,rfl⟩
def j4 (i:bm):Value:=.agg #[.int .i64 i.op,.int .i64 i.a,.int .i64 i.b,.int .i64 i.c,.int .i64 i.bR]
def pN (d:vO) (i:bm):Int:=if i.op=12 then qd.wrap (d.dE.bp i.b+qd.wrap i.bR) else qd.wrap (d.dE.bp i.a+qd.wrap i.bR)
theorem H2 (b:Nat) (d:vO) (w:Up) (i:bm) (ha:i.op=12\/i.op=13) (h:cg i=0) (A:AW) (hg:A.bp b=some (tD d w)):fh 94 [pv b,j4 i] A (.int .u64 (pN d i)):=by
 refine aD.tG (V:=.int .u64 (pN d i)) (by simp) (λhw=>?_) (by kernel_rfl);refine aN Tryz.func94 λ_=>?_;obtain⟨r1,r2,_⟩:=mY h;have cD:=hw.lt hg;have gT:¬b=A.next:=by omega
 unfold j4 pN;rcases ha with h2|h2
 . have hb:=r2 (by rw [h2];rfl)
   repeat' (first|(refine kY λR hR=>?_;simp [ar,ax,hg,h2,gT,AW.ab,aG];try simp (disch:=omega) only [aA,aw,ar,ax])|(refine hR _ _ ?_;clear hR R)|(refine hK _ _ ?_;clear hK K)|refine nx ?_|refine wn λK hK=>?_|simp only [wS]|(refine bO (vm b d w i.b i.bR hb _ ((AW.fV _ _ gT).trans hg)) ?_;rintro _ _ ⟨rfl,rfl⟩ _ _)|(show c8 _ _ _ _ _ _;refine nx ?_)|(refine wc rfl (λhc=>?_) (λhc=>?_)<;>(try simp at hc)<;>(try omega))|(refine ib (λhc=>?_) (λhc=>?_)<;>(try omega)<;>(try simp (disch:=omega) only [aA,aw])))
   exact⟨_,by first|(simp;done)|(simp;rfl),by simp [h2],AW.le.alloc _ _⟩
 have hb:=r1 (by rw [h2];rfl)
 repeat' (first|(refine kY λR hR=>?_;simp [ar,ax,hg,h2,gT,AW.ab,aG];try simp (disch:=omega) only [aA,aw,ar,ax])|(refine hR _ _ ?_;clear hR R)|(refine hK _ _ ?_;clear hK K)|refine nx ?_|refine wn λK hK=>?_|simp only [wS]|(refine bO (vm b d w i.a i.bR hb _ ((AW.fV _ _ gT).trans hg)) ?_;rintro _ _ ⟨rfl,rfl⟩ _ _)|(show c8 _ _ _ _ _ _;refine nx ?_)|(refine wc rfl (λhc=>?_) (λhc=>?_)<;>(try simp at hc)<;>(try omega))|(refine ib (λhc=>?_) (λhc=>?_)<;>(try omega)<;>(try simp (disch:=omega) only [aA,aw])))
 exact⟨_,by first|(simp;done)|(simp;rfl),by simp [h2],AW.le.alloc _ _⟩
end
section
abbrev OP:List (Nat×Nat):=[(0,0),(1,0),(2,0),(3,0),(4,0),(5,0),(6,0),(7,0),(8,3)]
abbrev OO:List (Nat×Nat):=[(0,0),(1,0),(2,0),(3,0),(4,0),(5,0),(6,0),(7,0),(8,0),(9,0),(10,0),(11,0),(12,0),(13,0),(14,2),(15,3),(16,0),(17,0),(18,0),(19,3)]
abbrev ON:List (Nat×Nat):=[(0,0),(1,0),(2,0),(3,0),(4,0),(5,0),(6,0),(7,0),(8,0),(9,0),(10,3),(11,0),(12,0),(13,0),(14,3),(15,0),(16,0),(17,0),(18,3)]
abbrev xz:List (Nat×Nat):=[(0,0),(1,0),(2,0),(3,0),(4,0),(5,0),(6,0),(7,0),(8,0),(9,0),(10,2),(11,3)]
abbrev xy:List (Nat×Nat):=[(0,0),(1,0),(2,0),(3,0),(4,0),(5,0),(6,0),(7,0),(8,0),(9,0),(11,0),(12,0),(13,0),(14,0),(15,0),(16,0),(17,0),(18,0),(10,2),(19,3)]
abbrev xx:List (Nat×Nat):=[(0,0),(1,0),(2,0),(3,0),(4,0),(5,0),(6,0),(7,3)]
abbrev xv:List (Nat×Nat):=[(0,0),(1,0),(2,0),(3,0),(4,0),(5,0),(6,0),(7,0),(8,0),(9,0),(10,0),(11,0),(12,0),(13,3)]
abbrev Dv:List (Nat×Nat):=[(0,0),(1,0),(2,0),(3,0),(4,0),(5,0),(6,0),(7,2),(8,3)]
abbrev Du:List (Nat×Nat):=[(0,0),(1,0),(2,0),(3,0),(4,0),(5,0),(6,0),(8,0),(9,0),(10,0),(11,0),(12,0),(13,0),(14,0),(15,0),(7,2),(16,3)]
open T7
variable [Gl]
theorem vK (n:Nat) (s:aJ):∀A':AW,A'.Wf->ah A' [.h (bf n s)]->fh 64 [pv n] A' (.bool s.jN):=λA' h1 h2=>HJ n s s.aH A' h1 (bf.Uw h2 .z)
theorem BB (n:Nat) (s:aJ):∀A':AW,A'.Wf->ah A' [.h (bf n s)]->fh 131 [pv n] A' (.int .i64 s.aF):=λA' h1 h2=>My n s _ s.aH A' h1 (bf.Uw h2 .z)
theorem vI (n:Nat) (s:aJ):∀A':AW,A'.Wf->ah A' [.h (bf n s)]->fh 90 [pv n] A' (.int .i64 s.aC):=λA' h1 h2=>QU n s _ s.aH A' h1 (bf.Uw h2 .z)
theorem DR (n:Nat) (s:aJ):∀A':AW,A'.Wf->ah A' [.h (bf n s)]->fh 203 [pv n] A' (.int .u64 s.value):=λA' h1 h2=>Ml n s _ s.aH A' h1 (bf.Uw h2 .z)
theorem TS (n:Nat) (s:aJ):∀A':AW,A'.Wf->ah A' [.h (bf n s)]->fh 88 [pv n] A' (.bool s.am):=λA' h1 h2=>I7 n s _ s.aH A' h1 (bf.Uw h2 .z)
theorem JW (n:Nat) (s:aJ):∀A':AW,A'.Wf->ah A' [.h (bf n s)]->fh 198 [pv n] A' (.int .i64 s.nJ):=λA' h1 h2=>pL n s _ s.aH A' h1 (bf.Uw h2 .z)
theorem newE (c:br) (hc:cX c) (t:Int):d7 qa 148 [c.v,.int .i64 t] [] (λn v=>v=pv n) (λn=>[.h (bf n (eP c t))]):=
 λA F hw hS=>Sx c hc t A F hw hS
theorem C2 (b:Nat) (d:vO) (va vs vf vd vl vo:Value) (o:Option Addr) (n c:Nat) (i1 i2 i3 bR:Int) (v:Int) (gH:List j7) (hi:cg ⟨12,i1,i2,i3,bR⟩=0) (kO:0<=d.pc/\d.pc<2^40) (hl:gH.length<2^30) :
 d7 qa 152 [pv b,j4 ⟨12,i1,i2,i3,bR⟩,.int .u64 v] [.at b (tD d ⟨va,vs,vf,vd,.slice o n c,vl,vo⟩),.h (iU vo gH)] (λ_ _=>True)
  (λvo=>[.at b (tD { d with dE:=d.dE.set i1 v,pc:=d.pc+1,done:=decide (d.pc+1=n) } ⟨va,vs,vf,vd,.slice o n c,vl,vo⟩),.h (iU vo (gH++[⟨d.pc,4,v⟩]))]):=by
 unfold j4;have ha:=(mY hi).1 rfl;dsimp only at ha;have Dy:=λx=>yK (d:=d) (w:=⟨va,vs,vf,vd,.slice o n c,vl,vo⟩) (x:=x) ha;intro A F hw hS;refine aN Tryz.func152 λ_=>?_;dsimp only [aa,af] at hS;have hq:=fE hS hw;revert hq hS hw;refine Wu (J3 (Tg.mk (n:=36) (λx1=>jw b { d with dE:=d.dE.set i1 v } x1 gH 4 v hl)) (Tg.mk (n:=37) (λx1 x2 x3 x4 x5 x6 x7 x8 x9=>lc b { d with dE:=d.dE.set i1 v } x1 x2 x3 x4 x5 x6 x7 x8 x9 kO)) (od OP)) (J4 Dy ha.1 ha.2 bE) ?_<;>(unhygienic intros);refine⟨_,by first|rfl|(simp;rfl),?_⟩;apply yw
 (·first|trivial|rfl|(simp;done))
 apply ah.bS
 (·exact sA)
 (·first|exact pA|exact kA)
theorem C1 (b:Nat) (d:vO) (va vs vf vd vl vo:Value) (o:Option Addr) (n c:Nat) (i1 i2 i3 bR:Int) (v:Int) (gH:List j7) (hi:cg ⟨13,i1,i2,i3,bR⟩=0) (kO:0<=d.pc/\d.pc<2^40) (hl:gH.length<2^30) :
 d7 qa 152 [pv b,j4 ⟨13,i1,i2,i3,bR⟩,.int .u64 v] [.at b (tD d ⟨va,vs,vf,vd,.slice o n c,vl,vo⟩),.h (iU vo gH)] (λ_ _=>True)
  (λvo=>[.at b (tD { d with pc:=d.pc+1,done:=decide (d.pc+1=n) } ⟨va,vs,vf,vd,.slice o n c,vl,vo⟩),.h (iU vo (gH++[⟨d.pc,5,v⟩]))]):=by
 unfold j4;intro A F hw hS;refine aN Tryz.func152 λ_=>?_;dsimp only [aa,af] at hS;have hq:=fE hS hw;revert hq hS hw;refine Wu (J3 (Tg.mk (n:=36) (λx1=>jw b d x1 gH 5 v hl)) (Tg.mk (n:=37) (λx1 x2 x3 x4 x5 x6 x7 x8 x9=>lc b d x1 x2 x3 x4 x5 x6 x7 x8 x9 kO)) (od OP)) (J1 bE) ?_<;>(unhygienic intros);refine⟨_,by first|rfl|(simp;rfl),?_⟩;apply yw
 (·first|trivial|rfl|(simp;done))
 apply ah.bS
 (·exact sA)
 (·first|exact pA|exact kA)
theorem Lv (b n:Nat) (d:vO) (vs vf vd vc vl vo:Value) (s:aJ) (dF:List j7) (r kd:Int) (hr:0<=r/\r<8) (hl:dF.length<2^30) :
 d7 qa 134 [pv b,.int .i64 r,.int .i64 kd] [.at b (tD d ⟨pv n,vs,vf,vd,vc,vl,vo⟩),.h (bf n s),.h (iU vs dF)] (λ_ _=>True)
  (λvs=>[.at b (tD { d with dE:=d.dE.set r s.value } ⟨pv n,vs,vf,vd,vc,vl,vo⟩),.h (bf n s),.h (iU vs (dF++[⟨d.pc,kd,s.value⟩]))]):=by
 have Dy:=λx=>yK (d:=d) (w:=⟨pv n,vs,vf,vd,vc,vl,vo⟩) (x:=x) hr;intro A F hw hS;refine aN Tryz.func134 λ_=>?_;dsimp only [aa,af] at hS;have hq:=fE hS hw
 repeat' (first|(with_reducible apply Hw;(·first|(simp;done)|(simp;rfl));(·first|(simp;done)|(simp;rfl));(·exact wA);(·exact sA);(·first|exact pA|exact kA);(·first|exact AW.bY _ _|((repeat' (first|apply aE.z|apply aE.s));done)|(simp [hq];(repeat' (first|rfl|refine⟨rfl,?_⟩));done)|(simp;done)|(simp;rfl)|(simp [hq];done)|(simp [hq];rfl));(·first|omega|(simp;omega));(·intro _ _;trivial);rintro _ _ _ hS hw _;(try dsimp only [AW.bd] at hS);have hq:=fE hS hw)|(refine kY λR hR=>?_;simp [ar,ax,hq,Dy,hr.1,hr.2,AW.ab,aG];try simp (disch:=omega) only [aA,aw,ar,ax])|(refine hR _ _ ?_;clear hR R)|(refine hK _ _ ?_;clear hK K)|refine nx ?_|refine wn λK hK=>?_|simp only [wS,OO]|refine wl qj OO (by decide +kernel) λK hK=>?_|(apply fp (DR n s);(·exact wA);(·exact sA);(·first|exact pA|exact kA);)|(show c8 _ _ _ _ _ _;refine nx ?_)|(refine wc rfl (λhc=>?_) (λhc=>?_)<;>(try simp at hc)<;>(try omega))|(refine ib (λhc=>?_) (λhc=>?_)<;>(try omega)<;>(try simp (disch:=omega) only [aA,aw])))
 refine⟨_,by first|rfl|(simp;rfl),?_⟩;apply yw
 (·first|trivial|rfl|(simp;done))
 apply ah.bS
 (·exact sA)
 (·first|exact pA|exact kA)
theorem ah.Yk {A:AW} {L:List It} (h:ah A L):ah A (.h (iU (.slice none 0 0) [])::L):=dv.nil h
theorem Co (b:Nat) (d:vO) (w:Up) (hc:cX d.cf) (hct:0<=d.jB/\d.jB<2^40):d7 qa 96 [pv b] [.at b (tD d w)] (λ_ _=>True)
 (λn=>[.at b (tD { d with jB:=d.jB+1 } { w with va:=pv n,vs:=.slice none 0 0 }),.h (bf n (fU (eP d.cf d.id)).2),.h (iU (.slice none 0 0) [])]):=by
 have O2:qg.wrap (d.jB+1)=d.jB+1:=ar (by omega) (by omega);intro A F hw hS;refine aN Tryz.func96 λ_=>?_;dsimp only [aa,af] at hS;have hq:=fE hS hw
 repeat' (first|(refine kY λR hR=>?_;simp [ar,ax,hq,O2,AW.ab,aG];try simp (disch:=omega) only [aA,aw,ar,ax])|(refine hR _ _ ?_;clear hR R)|(refine hK _ _ ?_;clear hK K)|refine nx ?_|refine wn λK hK=>?_|simp only [wS,ON]|refine wl qj ON (by decide +kernel) λK hK=>?_|(apply d7.ft (newE d.cf hc d.id);(·exact wA);(·exact sA);(·first|exact pA|exact kA);(rintro xw _ _ rfl hS hw _;have hS:=lA hS;(try (have hq:=fE hS hw))))|(apply bn.ft (N6 _ (eP d.cf d.id));(·exact wA);(·exact sA);(·first|exact pA|exact kA);rintro _ _ _ hS hw _;have hS:=lA hS;have hq:=fE hS hw)|(show c8 _ _ _ _ _ _;refine nx ?_)|(refine wc rfl (λhc=>?_) (λhc=>?_)<;>(try simp at hc)<;>(try omega))|(refine ib (λhc=>?_) (λhc=>?_)<;>(try omega)<;>(try simp (disch:=omega) only [aA,aw])))
 refine⟨_,by first|rfl|(simp;rfl),?_⟩;apply yw
 (·trivial)
 apply ah.bS;apply ah.Yk
 (·exact sA)
 (·first|exact pA|exact kA)
def BJ (d:vO) (i:bm) (s:aJ):aJ:=
 if i.op=10 then (Hm s (qd.wrap (d.dE.bp i.b+qd.wrap i.bR))).2 else if i.op=11 then (F1 s (qd.wrap (d.dE.bp i.a+qd.wrap i.bR)) (d.dE.bp i.b)).2 else if i.op=14 then (L0 s i.bR).2
 else if i.op=15 then (LA s (d.dE.bp i.a)).2 else if i.op=8 then (Dk s 1).2 else if i.op=9 then (Dk s 2).2 else s
theorem RI (x:Int):0<=qd.wrap x:=(ja x).1
theorem XB (b:Nat) (d:vO) (w:Up) (r bR:Int) (h:0<=r/\r<8) {A:AW} {L K:List It} {k:Value->AW->Prop} (hw:A.Wf) (hS:ah A L) (hp:aE L (.at b (tD d w)) K)
 (hk:k (.int .u64 (qd.wrap (d.dE.bp r+qd.wrap bR))) A):aD qa 145 [pv b,.int .i64 r,.int .i64 bR] A k:=by
 have hg:A.bp b=some (tD d w):=by
  unfold ah at hS;rw [hp.aM] at hS;exact bB.bp hS
 refine bO (vm b d w r bR h A hg) ?_;rintro _ _ ⟨rfl,rfl⟩ _ _;exact hk
theorem DY (b:Nat) (d:vO) (w:Up) (i:bm) (ha:i.op=12\/i.op=13) (h:cg i=0) {A:AW} {L K:List It} {k:Value->AW->Prop} (hw:A.Wf) (hS:ah A L) (hp:aE L (.at b (tD d w)) K)
 (hk:k (.int .u64 (pN d i)) A):aD qa 94 [pv b,j4 i] A k:=by
 have hg:A.bp b=some (tD d w):=by
  unfold ah at hS;rw [hp.aM] at hS;exact bB.bp hS
 refine bO (H2 b d w i ha h A hg) ?_;rintro _ _ ⟨rfl,rfl⟩ _ _;exact hk
theorem Iq (b n:Nat) (d:vO) (vs vf vd vc vl vo:Value) (i:bm) (s:aJ) (hC:gL s) (mg:i.op=10\/i.op=11\/i.op=14\/i.op=15\/i.op=8\/i.op=9) (hi:cg i=0) :
 bn qa 97 [pv b,j4 i] [.at b (tD d ⟨pv n,vs,vf,vd,vc,vl,vo⟩),.h (bf n s)] (λ_=>True) (λ_=>[.at b (tD d ⟨pv n,vs,vf,vd,vc,vl,vo⟩),.h (bf n (BJ d i s))]):=by
 obtain⟨r1,r2,_⟩:=mY hi;unfold j4;rcases mg with h2|h2|h2|h2|h2|h2
 . have hb:=r2 (by rw [h2];rfl);have e:BJ d i s=_:=aA h2;intro A F hw hS;refine aN kat λ_=>?_;dsimp only [aa,af] at hS;have hq:=fE hS hw;revert hq hS hw;refine Wu (J6 (Tg.mk (n:=10) (λ{A L K k} x1=>XB (A:=A) (L:=L) (K:=K) (k:=k) b d x1 i.b i.bR hb)) (Tg.mk (n:=37) (λx1=>Hl n s _ hC (RI x1))) (od xz) (od xy) (od xx) (od xv)) (J2 h2 bE) ?_<;>(unhygienic intros);rw [e];refine⟨_,by first|rfl|(simp;rfl),by first|trivial|rfl|(simp;done),?_⟩;apply ah.bS
   (·exact sA)
   (·first|exact pA|exact kA)
 . have ha:=r1 (by rw [h2];rfl);have hb:=r2 (by rw [h2];rfl);have xR:=ry (d:=d) (w:=⟨pv n,vs,vf,vd,vc,vl,vo⟩) hb;have e:BJ d i s=(F1 s (qd.wrap (d.dE.bp i.a+qd.wrap i.bR)) (d.dE.bp i.b)).2:=(by unfold BJ;rw [aw (by omega),aA h2]);intro A F hw hS;refine aN kat λ_=>?_;dsimp only [aa,af] at hS;have hq:=fE hS hw;revert hq hS hw;(repeat first|clear hq|clear hS|clear hw|revert hc|revert R|revert K);refine W (J6 (Tg.mk (n:=10) (λ{A L K k} x1=>XB (A:=A) (L:=L) (K:=K) (k:=k) b d x1 i.a i.bR ha)) (od xz) (od xy) (od xx) (od xv) (DO n s)) (J5 h2 xR hb.1 hb.2 bE) ?_<;>(unhygienic intros);rw [e];refine⟨_,by first|rfl|(simp;rfl),by first|trivial|rfl|(simp;done),?_⟩;apply ah.bS
   (·exact sA)
   (·first|exact pA|exact kA)
 . have e:BJ d i s=(L0 s i.bR).2:=(by unfold BJ;rw [aw (by omega),aw (by omega),aA h2]);intro A F hw hS;refine aN kat λ_=>?_;dsimp only [aa,af] at hS;have hq:=fE hS hw;revert hq hS hw;(repeat first|clear hq|clear hS|clear hw|revert hc|revert R|revert K);refine Wu (J5 (Tg.mk (n:=37) (λx1=>Oi n s x1 hC)) (od xz) (od xy) (od xx) (od xv)) (J2 h2 bE) ?_<;>(unhygienic intros);rw [e];refine⟨_,by first|rfl|(simp;rfl),by first|trivial|rfl|(simp;done),?_⟩;apply ah.bS
   (·exact sA)
   (·first|exact pA|exact kA)
 . have ha:=r1 (by rw [h2];rfl);have xR:=ry (d:=d) (w:=⟨pv n,vs,vf,vd,vc,vl,vo⟩) ha;have e:BJ d i s=(LA s (d.dE.bp i.a)).2:=(by unfold BJ;rw [aw (by omega),aw (by omega),aw (by omega),aA h2]);intro A F hw hS;refine aN kat λ_=>?_;dsimp only [aa,af] at hS;have hq:=fE hS hw;revert hq hS hw;(repeat first|clear hq|clear hS|clear hw|revert hc|revert R|revert K);refine Wu (J5 (Tg.mk (n:=37) (λx1=>QH n s x1 hC)) (od xz) (od xy) (od xx) (od xv)) (J5 h2 xR ha.1 ha.2 bE) ?_<;>(unhygienic intros);rw [e];refine⟨_,by first|rfl|(simp;rfl),by first|trivial|rfl|(simp;done),?_⟩;apply ah.bS
   (·exact sA)
   (·first|exact pA|exact kA)
 . have e:BJ d i s=(Dk s 1).2:=(by unfold BJ;rw [aw (by omega),aw (by omega),aw (by omega),aw (by omega),aA h2]);intro A F hw hS;refine aN kat λ_=>?_;dsimp only [aa,af] at hS;have hq:=fE hS hw;revert hq hS hw;(repeat first|clear hq|clear hS|clear hw|revert hc|revert R|revert K);refine W (J5 (od xz) (od xy) (od xx) (od xv) (wR n s 1)) (J2 h2 bE) ?_<;>(unhygienic intros);rw [e];refine⟨_,by first|rfl|(simp;rfl),by first|trivial|rfl|(simp;done),?_⟩;apply ah.bS
   (·exact sA)
   (·first|exact pA|exact kA)
 have e:BJ d i s=(Dk s 2).2:=by unfold BJ;rw [aw (by omega),aw (by omega),aw (by omega),aw (by omega),aw (by omega),aA h2]
 intro A F hw hS;refine aN kat λ_=>?_;dsimp only [aa,af] at hS;have hq:=fE hS hw;revert hq hS hw;(repeat first|clear hq|clear hS|clear hw|revert hc|revert R|revert K);refine W (J5 (od xz) (od xy) (od xx) (od xv) (wR n s 2)) (J2 h2 bE) ?_<;>(unhygienic intros);rw [e];refine⟨_,by first|rfl|(simp;rfl),by first|trivial|rfl|(simp;done),?_⟩;apply ah.bS
 (·exact sA)
 (·first|exact pA|exact kA)
def Oc (d:vO) (i:bm) (s:aJ):aJ:=if 1<d.fC+1 then (Dk s 1).2 else if i.op=12 then (Hm s (pN d i)).2 else (F1 s (pN d i) (d.dE.bp i.b)).2
theorem RO (d:vO) (i:bm):0<=pN d i:=by unfold pN;split<;>exact RI _
theorem PT (b n:Nat) (d:vO) (vs vf vd vc vl vo:Value) (i:bm) (s:aJ) (hC:gL s) (mg:i.op=12\/i.op=13) (hi:cg i=0) (hak:0<=d.fC/\d.fC<2^40) :
 bn qa 66 [pv b,j4 i] [.at b (tD d ⟨pv n,vs,vf,vd,vc,vl,vo⟩),.h (bf n s)] (λ_=>True) (λ_=>[.at b (tD { d with fC:=d.fC+1 } ⟨pv n,vs,vf,vd,vc,vl,vo⟩),.h (bf n (Oc d i s))]):=by
 have O2:qg.wrap (d.fC+1)=d.fC+1:=ar (by omega) (by omega);obtain⟨r1,r2,_⟩:=mY hi;obtain⟨op,i1,i2,i3,bR⟩:=i;dsimp only at mg r2;unfold j4;by_cases h1:1<d.fC+1
 . have e:Oc d ⟨op,i1,i2,i3,bR⟩ s=_:=aA h1;intro A F hw hS;refine aN Tryz.func66 λ_=>?_;dsimp only [aa,af] at hS;have hq:=fE hS hw;revert hq hS hw;refine W (J3 (od Dv) (od Du) (wR n s 1)) (J3 O2 h1 bE) ?_<;>(unhygienic intros);rw [e];refine⟨_,by first|rfl|(simp;rfl),by first|trivial|rfl|(simp;done),?_⟩;apply ah.bS
   (·exact sA)
   (·first|exact pA|exact kA)
 rcases mg with h2|h2
 . subst h2;have e:Oc d ⟨12,i1,i2,i3,bR⟩ s=(Hm s (pN { d with fC:=d.fC+1 } ⟨12,i1,i2,i3,bR⟩)).2:=(by unfold Oc;rw [aw h1,aA rfl];rfl);intro A F hw hS;refine aN Tryz.func66 λ_=>?_;dsimp only [aa,af] at hS;have hq:=fE hS hw
   repeat' (first|(refine kY λR hR=>?_;simp [ar,ax,hq,O2,h1,AW.ab,aG];try simp (disch:=omega) only [aA,aw,ar,ax])|(refine hR _ _ ?_;clear hR R)|(refine hK _ _ ?_;clear hK K)|refine nx ?_|refine wn λK hK=>?_|simp only [wS,Dv,Du]|refine wl qj Dv (by decide +kernel) λK hK=>?_|refine wl qj Du (by decide +kernel) λK hK=>?_|(apply DY b { d with fC:=d.fC+1 } _ ⟨12,i1,i2,i3,bR⟩ (.inl rfl) hi;(·exact wA);(·exact sA);(·first|exact pA|exact kA);)|(apply bn.ft (Hl n s _ hC (RO _ _));(·exact wA);(·exact sA);(·first|exact pA|exact kA);rintro _ _ _ hS hw _;have hS:=lA hS;have hq:=fE hS hw)|(show c8 _ _ _ _ _ _;refine nx ?_)|(refine wc rfl (λhc=>?_) (λhc=>?_)<;>(try simp at hc)<;>(try omega))|(refine ib (λhc=>?_) (λhc=>?_)<;>(try omega)<;>(try simp (disch:=omega) only [aA,aw])))
   rw [e];refine⟨_,by first|rfl|(simp;rfl),by first|trivial|rfl|(simp;done),?_⟩;apply ah.bS
   (·exact sA)
   (·first|exact pA|exact kA)
 subst h2;have hb:=r2 rfl;have xR:=ry (d:={ d with fC:=d.fC+1 }) (w:=⟨pv n,vs,vf,vd,vc,vl,vo⟩) hb;have e:Oc d ⟨13,i1,i2,i3,bR⟩ s=(F1 s (pN { d with fC:=d.fC+1 } ⟨13,i1,i2,i3,bR⟩) (d.dE.bp i2)).2:=by unfold Oc;rw [aw h1,aw (show ¬(13:Int)=12 by decide)];rfl
 intro A F hw hS;refine aN Tryz.func66 λ_=>?_;dsimp only [aa,af] at hS;have hq:=fE hS hw;revert hq hS hw;(repeat first|clear hq|clear hS|clear hw|revert hc|revert R|revert K);refine W (J4 (Tg.mk (n:=10) (λ{A L K k} x1=>DY (A:=A) (L:=L) (K:=K) (k:=k) b { d with fC:=d.fC+1 } x1 ⟨13,i1,i2,i3,bR⟩ (.inr rfl) hi)) (od Dv) (od Du) (DO n s)) (J6 O2 h1 xR hb.1 hb.2 bE) ?_<;>(unhygienic intros);rw [e];refine⟨_,by first|rfl|(simp;rfl),by first|trivial|rfl|(simp;done),?_⟩;apply ah.bS
 (·exact sA)
 (·first|exact pA|exact kA)
end
section
abbrev OM:List (Nat×Nat):=[(0,0),(1,0),(2,0),(3,0),(4,0),(5,0),(6,0),(7,0),(8,0),(9,0),(10,0),(11,0),(12,0),(13,0),(14,0),(15,0)]
abbrev OL:List (Nat×Nat):=[(0,0),(1,0),(2,0),(3,0),(4,0),(5,0),(6,0),(7,0),(8,0)]
open T24
variable [Gl]
theorem mH {f:FuncId} {args:List Value} {V:Value} {b:Nat} {o:dQ} (hC:∀A:AW,A.bp b=some o->fh f args A V) {A:AW} {L K:List It} {k:Value->AW->Prop} (hw:A.Wf) (hS:ah A L) (hp:aE L (.at b o) K) (hk:k V A):aD qa f args A k:=by
 have hg:A.bp b=some o:=by
  unfold ah at hS;rw [hp.aM] at hS;exact bB.bp hS
 refine bO (hC A hg) ?_;rintro _ _ ⟨rfl,rfl⟩ _ _;exact hk
def uf (f:jC):dQ:=.cells [.int .i64 f.aj,.int .i64 f.mV,.bool f.fH,.int .u64 f.AG,.int .i64 f.next] true 1
theorem Gw (t n:Int) (A:AW):aD qa 99 [.int .i64 t,.int .i64 n] A (λv A'=>v=.pointer (some ⟨A.next,0,none⟩)/\A'=A.alloc (uf ⟨t,n,false,0,0⟩)):=by
 refine aN Tryz.func99 λ_=>?_;refine W cF cF ?_<;>intros;exact⟨_,rfl,rfl,rfl⟩
theorem nv (b:Nat) (s:jC) (A:AW) (hg:A.bp b=some (uf s)):fh 79 [.pointer (some ⟨b,0,none⟩)] A (.bool s.done):=by
 refine aN Tryz.func79 λ_=>?_;dsimp only [uf] at hg;unfold jC.done;cases h:s.fH;refine W (J1 (od OM)) (J3 hg h @AW.ab) ?_<;>intros;exact⟨_,rfl,by simp,rfl⟩;refine W (J1 (od OM)) (J3 hg h @AW.ab) ?_<;>intros;exact⟨_,rfl,by simp,rfl⟩
theorem GN (b:Nat) (s:jC) (A:AW) (hg:A.bp b=some (uf s)):fh 81 [.pointer (some ⟨b,0,none⟩)] A (.int .i64 s.nS):=by
 refine aN Tryz.func81 λ_=>?_;dsimp only [uf] at hg;unfold jC.nS;cases h:s.fH;refine W cF (J3 hg h @AW.ab) ?_<;>intros;exact⟨_,rfl,by simp,rfl⟩;refine W cF (J3 hg h @AW.ab) ?_<;>intros;exact⟨_,rfl,by simp,rfl⟩
theorem vY (x:Int) (A:AW):fh 161 [.int .u64 x] A (.int .i64 (if x=0 then 0 else if x=1 then 1 else 2)):=by
 refine aN Tryz.func161 λ_=>?_;refine W cF cF (J3 ?_ ?_ ?_)<;>intros
 all_goals exact⟨_,rfl,by simp_all,rfl⟩
theorem wO (b:Nat) (s:jC) (x:Int) (A:AW) (hg:A.bp b=some (uf s)):fh 110 [.pointer (some ⟨b,0,none⟩),.int .u64 x] A (.bool (s.BN x)):=by
 refine aN Tryz.func110 λ_=>?_;dsimp only [uf] at hg;unfold jC.BN;by_cases h0:x=0;have dy:=vY x;rw [aA h0] at dy;refine W (J1 @dy) (J2 hg @AW.ab) ?_<;>intros;exact⟨_,rfl,by simp [h0],rfl⟩;by_cases h1:x=1;have dy:=vY x;rw [aw h0,aA h1] at dy;refine W (J1 @dy) (J2 hg @AW.ab) ?_<;>intros;exact⟨_,rfl,by simp [h1],rfl⟩;have dy:=vY x;rw [aw h0,aw h1] at dy;refine W (J1 @dy) (J2 hg @AW.ab) ?_<;>intros;exact⟨_,rfl,by simp [h0,h1],rfl⟩
theorem AX (b:Nat) (f:jC) (hn:0<=f.next/\f.next<2^40):bn qa 109 [.pointer (some ⟨b,0,none⟩)] [.at b (uf f)] (λ_=>True) (λ_=>[.at b (uf f.skip)]):=by
 intro A F hw hS;refine aN Tryz.func109 λ_=>?_;dsimp only [aa,af] at hS;have hq:=pI hS hw;have O2:qg.wrap (f.next+1)=f.next+1:=ar (by omega) (by omega);unfold jC.skip;by_cases h:f.next=f.aj
 . have e:(if f.next=f.aj then ({ f with next:=f.next+1 }:jC) else f)={ f with next:=f.next+1 }:=aA h;rw [<-h] at hq;revert hq hS hw;refine W (J1 (od OL)) (J2 O2 bE) ?_<;>(unhygienic intros)
   all_goals(
    try rw [e]
    refine⟨_,by simp [hq,AW.ab,aG];rfl,by first|trivial|(simp [aZ.v,aZ.zero,h];done),?_⟩;apply ah.bS
    (·exact sA)
    (·repeat' (first|apply aX.z|apply aX.s|apply aE.z|(apply aE.JJ;simp [uf,h];done)|apply aE.s)))
 have e:(if f.next=f.aj then ({ f with next:=f.next+1 }:jC) else f)=f:=aw h;revert hq hS hw;(repeat first|clear hq|clear hS|clear hw|revert hc|revert R|revert K);refine W (J1 (od OL)) (J2 h bE) ?_<;>(unhygienic intros)
 all_goals(
  try rw [e]
  refine⟨_,by simp [hq,AW.ab,aG];rfl,by first|trivial|(simp [aZ.v,aZ.zero,h];done),?_⟩;apply ah.bS
  (·exact sA)
  (·repeat' (first|apply aX.z|apply aX.s|apply aE.z|(apply aE.JJ;simp [uf,h];done)|apply aE.s)))
theorem QL (f:jC) (M:Mm):(f.done=true/\fQ f M=(aZ.zero,f)) \/
 ((f.done=false/\f.fH=false)/\fQ f M=(iA M 3 0,({ f with fH:=true,AG:=(iA M 3 0).fi }:jC).skip)) \/
 ((f.done=false/\f.fH=true/\f.BN (iA M 6 f.next).fi=true)/\fQ f M=(iA M 6 f.next,({ f with next:=f.next+1 }:jC).skip)) \/
 ((f.done=false/\f.fH=true/\f.BN (iA M 6 f.next).fi=false)/\fQ f M=(iA M 6 f.next,f)):=by
 unfold fQ;cases h0:f.done<;>cases h1:f.fH<;>cases h2:f.BN (iA M 6 f.next).fi<;>simp
theorem I0 (b pb:Nat) (f:jC) (M:Mm) (hn:0<=f.next/\f.next<2^39) :
 bn qa 78 [.pointer (some ⟨b,0,none⟩),.pointer (some ⟨pb,0,none⟩)] [.at b (uf f),dN pb M]
  (λv=>v=(fQ f M).1.v) (λ_=>[.at b (uf (fQ f M).2),dN pb M]):=by
 intro A F hw hS;refine aN Tryz.func78 λ_=>?_;dsimp only [aa,af] at hS;have hq:=pI hS hw;have O2:qg.wrap (f.next+1)=f.next+1:=ar (by omega) (by omega);have AK:0<=f.next/\f.next<2^40:=by omega
 have hn3:0<=f.next+1/\f.next+1<2^40:=by omega
 rcases QL f M with ⟨h,e⟩|⟨h,e⟩|⟨h,e⟩|⟨h,e⟩
 . have hd:=λA hg=>nv b f A hg;rw [h] at hd;revert hq hS hw;refine W (J1 (Tg.mk (n:=10) (λ{A L K k}=>mH (A:=A) (L:=L) (K:=K) (k:=k) hd))) (J4 h bE @bk.eq_1 @aZ.v.eq_1) ?_<;>(unhygienic intros)
   all_goals(
    try rw [e]
    refine⟨_,by simp [hq,AW.ab,aG];rfl,by first|trivial|(simp [aZ.v,aZ.zero,h];done),?_⟩;apply ah.bS
    (·exact sA)
    (·repeat' (first|apply aX.z|apply aX.s|apply aE.z|(apply aE.JJ;simp [uf,h];done)|apply aE.s)))
 . have hd:=λA hg=>nv b f A hg;rw [h.1] at hd;revert hq hS hw;(repeat first|clear hq|clear hS|clear hw|revert hc|revert R|revert K);refine Wu (J4 (Tg.mk (n:=10) (λ{A L K k}=>mH (A:=A) (L:=L) (K:=K) (k:=k) hd)) (⟨⟩:Os (λA'=>A'.bp (A.next+1)=some (.cells (accC (iA M 3 0)) true 1)) [(0,0),(1,0),(2,0),(3,1),(4,0),(5,0),(6,3),(7,0),(8,0),(9,3)]) (SN pb) (AX b { f with fH:=true,AG:=(iA M 3 0).fi } AK)) (J4 h bE @bk.eq_1 @aZ.v.eq_1) ?_<;>(unhygienic intros)
   all_goals(
    try rw [e]
    refine⟨_,by simp [hq,AW.ab,aG];rfl,by first|trivial|(simp [aZ.v,aZ.zero,h];done),?_⟩;apply ah.bS
    (·exact sA)
    (·repeat' (first|apply aX.z|apply aX.s|apply aE.z|(apply aE.JJ;simp [uf,h];done)|apply aE.s)))
 . have hd:=λA hg=>nv b f A hg;have hp:=λA hg=>wO b f (iA M 6 f.next).fi A hg;rw [h.1] at hd;rw [h.2.2] at hp;have e2:({ f with next:=f.next+1 }:jC)=⟨f.aj,f.mV,true,f.AG,f.next+1⟩:=(by rw [<-h.2.1]);rw [e2] at e;revert hq hS hw;(repeat first|clear hq|clear hS|clear hw|revert hc|revert R|revert K);refine W (J4 (Tg.mk (n:=10) (λ{A L K k}=>mH (A:=A) (L:=L) (K:=K) (k:=k) hd)) (Tg.mk (n:=10) (λ{A L K k}=>mH (A:=A) (L:=L) (K:=K) (k:=k) hp)) (SN pb) (AX b ⟨f.aj,f.mV,true,f.AG,f.next+1⟩ hn3)) (J5 h O2 bE @bk.eq_1 @aZ.v.eq_1) ?_<;>(unhygienic intros)
   all_goals(
    try rw [e]
    refine⟨_,by simp [hq,AW.ab,aG];rfl,by first|trivial|(simp [aZ.v,aZ.zero,h];done),?_⟩;apply ah.bS
    (·exact sA)
    (·repeat' (first|apply aX.z|apply aX.s|apply aE.z|(apply aE.JJ;simp [uf,h];done)|apply aE.s)))
 have hd:=λA hg=>nv b f A hg;have hp:=λA hg=>wO b f (iA M 6 f.next).fi A hg;rw [h.1] at hd;rw [h.2.2] at hp;revert hq hS hw;(repeat first|clear hq|clear hS|clear hw|revert hc|revert R|revert K);refine W (J3 (Tg.mk (n:=10) (λ{A L K k}=>mH (A:=A) (L:=L) (K:=K) (k:=k) hd)) (Tg.mk (n:=10) (λ{A L K k}=>mH (A:=A) (L:=L) (K:=K) (k:=k) hp)) (SN pb)) (J4 h bE @bk.eq_1 @aZ.v.eq_1) ?_<;>(unhygienic intros)
 all_goals(
  try rw [e]
  refine⟨_,by simp [hq,AW.ab,aG];rfl,by first|trivial|(simp [aZ.v,aZ.zero,h];done),?_⟩;apply ah.bS
  (·exact sA)
  (·repeat' (first|apply aX.z|apply aX.s|apply aE.z|(apply aE.JJ;simp [uf,h];done)|apply aE.s)))
end
section
open Go.Proofs Go
variable [Gl]
def QO (l:List (Int×Int)):List Value:=l.flatMap λx=>[.int .i64 x.1,.int .i64 x.2]
def UM (v:Value) (l:List (Int×Int)):HP:=dv 2 v l.length (QO l)
def mA (v:Value) (l:List Nat):HP:=dv 1 v l.length (l.map pv)
theorem fW.WN {A:AW} {o:Option Addr} {c n m size:Nat} {cs x:List Value} (h:fW A size (.slice o n c) m cs) {i:Nat} (hi:i<m) (hx:(cs.drop (i*size)).take size=x) :
 ∃p b8,o=some p/\A.b8 p.block=some b8/\p.off+i*size+size<=b8.length/\(b8.drop (p.off+i*size)).take size=x:=by
 rcases h with ⟨⟨o,h1⟩,h2,_⟩|⟨p,c,b8,own,u,h1,h2,h3,h4,h5,h6⟩;omega;injection h1 with h1 _ _;have h7:i*size+size<=m*size:=by
  have:=Nat.mul_le_mul_right size (show i+1<=m by omega);rwa [ZS,Nat.one_mul] at this
 refine⟨p,b8,h1,AW.yP h3,by omega,?_⟩;rw [<-hx,h6,<-List.drop_drop,List.drop_take,List.take_take];congr 1;omega
theorem uF {α:Type} (f:α->List Value) (k:Nat) (hf:∀x,(f x).length=k):∀(l:List α) (i:Nat) (hi:i<l.length),((l.flatMap f).drop (i*k)).take k=f l[i]
 | [],i,hi=>by simp at hi
 | x::l,0,hi=>by
   simp only [kaI,Nat.zero_mul,Za,List.getElem_cons_zero];rw [<-hf x,List.take_left'];rfl
 | x::l,i+1,hi=>by
   rw [kaI,ZS,Nat.one_mul,Nat.add_comm,<-List.drop_drop,List.drop_left' (hf x)];exact uF f k hf l i (by simpa using hi)
theorem ah.entAt {A:AW} {L K:List It} {o:Option Addr} {n c:Nat} {l:List (Int×Int)} (hS:ah A L) (hp:aE L (.h (UM (.slice o n c) l)) K) {i:Nat} (hi:i<l.length) :
 ∃p b8,o=some p/\A.b8 p.block=some b8/\p.off+i*2+2<=b8.length/\(b8.drop (p.off+i*2)).take 2=[.int .i64 l[i].1,.int .i64 l[i].2]:=
 fW.WN (ah.lm hS hp) hi (uF _ 2 (λ_=>rfl) l i hi)
section
variable {S:AW->Prop} {K:Fr->AW->Prop} {fv:List zQ} {a:Fr} {A:AW} {d:Option Tmp} {x y:Operand} {n:Nat} {v:Value} {L K':List It}
theorem W1 {l:List (Int×Int)} {y1 y2:Int} (e1:iW a x=v) (e2:iW a y=.slice (some ⟨n,0,none⟩) 1 1) (hw:A.Wf) (hS:ah A L) (hp:aE L (.h (UM v l)) K') (hn:A.bp n=some (.cells [.int .i64 y1,.int .i64 y2] true 2)) (bX:l.length<2 ^ 30)
 (hs:∀A',ah A' K'->S A')
 (hk:∀o c A',ah A' (.h (UM (.slice o (l.length+1) c) (l++[(y1,y2)]))::K')->A'.Wf->A.next<=A'.next->aY qa S K fv (eK a d (.slice o (l.length+1) c)) A') :
 aY qa S K (⟨d,.call ⟨.builtin .append,#[x,y],#[172,172]⟩,none,3⟩::fv) a A:=by
 refine CC (P:=qa) (size:=2) (m:=l.length) (cs:=QO l) Tryz.underlying172 Tryz.info221 Tryz.zero221 rfl rfl (by omega) (by decide) e1 e2 hw hS hp hn rfl rfl bX hs λo c A' h1 h2 h3=>hk o c A' ?_ h2 h3;have e:UM (.slice o (l.length+1) c) (l++[(y1,y2)])=dv 2 (.slice o (l.length+1) c) (l.length+1) (QO l++[.int .i64 y1,.int .i64 y2]):=by
  unfold UM;rw [qm,show QO (l++[(y1,y2)])=QO l++[.int .i64 y1,.int .i64 y2] by simp [QO]];rfl
 rw [e];exact h1
theorem Yp {l:List Nat} {q:Nat} (e1:iW a x=v) (e2:iW a y=.slice (some ⟨n,0,none⟩) 1 1) (hw:A.Wf) (hS:ah A L) (hp:aE L (.h (mA v l)) K') (hn:A.bp n=some (.cells [pv q] true 1)) (bX:l.length<2 ^ 30)
 (hs:∀A',ah A' K'->S A')
 (hk:∀o c A',ah A' (.h (mA (.slice o (l.length+1) c) (l++[q]))::K')->A'.Wf->A.next<=A'.next->aY qa S K fv (eK a d (.slice o (l.length+1) c)) A') :
 aY qa S K (⟨d,.call ⟨.builtin .append,#[x,y],#[217,217]⟩,none,3⟩::fv) a A:=by
 refine CC (P:=qa) (size:=1) (m:=l.length) (cs:=l.map pv) Tryz.underlying217 Tryz.info192 Tryz.zero192 rfl rfl (by omega) (by decide) e1 e2 hw hS hp hn rfl rfl bX hs λo c A' h1 h2 h3=>hk o c A' ?_ h2 h3;have e:mA (.slice o (l.length+1) c) (l++[q])=dv 1 (.slice o (l.length+1) c) (l.length+1) (l.map pv++[pv q]):=by
  unfold mA;rw [qm,Zr];rfl
 rw [e];exact h1
end
def SL (c:br) (v:Value):dQ:=.cells [.int .i64 c.be,.int .i64 c.ao,.int .i64 c.base,.int .i64 c.c0,.int .i64 c.c1,.int .i64 c.c2,.int .i64 c.c3,.int .i64 c.reads,.int .i64 c.bP,.int .i64 c.an,.int .i64 c.ay,.int .i64 c.aB,.bool c.aW,v] true 1
def Qk (p:Nat) (c:br) (l:List (Int×Int)) (v:Value):List It:=[.at p (SL c v),.h (UM v l)]
def py (p:Nat) (c:br) (l:List (Int×Int)):HP:=rO λv:Value=>aM (Qk p c l v)
def oN (q:List (Nat×fK)):HP:=q.foldr (λx P=>pt x.1 (ir x.2)*P) eZ
theorem MP (q:List (Nat×fK)) (x:Nat×fK):oN (q++[x])=pt x.1 (ir x.2)*oN q:=by
 induction q with
 | nil=>rfl
 | cons y q ih=>
   show pt y.1 (ir y.2)*oN (q++[x])=pt x.1 (ir x.2)*(pt y.1 (ir y.2)*oN q);rw [ih]
   ac_rfl
theorem ah.pushH {A:AW} {L K:List It} {n:Nat} {p:fK} {q:List (Nat×fK)} (h:ah A L) (h1:aE L (.h (oN ((n,p)::q))) K):ah A (.at n (ir p)::.h (oN q)::K):=by
 unfold ah at h ⊢;rw [h1.aM] at h;exact h.dZ (by show (pt n (ir p)*oN q)*aM K=pt n (ir p)*(oN q*aM K);ac_rfl)
theorem ah.pushB {A:AW} {L K K2:List It} {n:Nat} {p:fK} {q:List (Nat×fK)} (h:ah A L) (h1:aE L (.at n (ir p)) K) (h2:aE K (.h (oN q)) K2):ah A (.h (oN ((n,p)::q))::K2):=by
 unfold ah at h ⊢;rw [h1.aM,h2.aM] at h;exact h.dZ (by show pt n (ir p)*(oN q*aM K2)=(pt n (ir p)*oN q)*aM K2;ac_rfl)
def Wb (p:Nat) (x:Value×List (Nat×fK)):List It:=[.at p (.cells [x.1] true 1),.h (mA x.1 (x.2.map qB)),.h (oN x.2)]
def Br (p:Nat) (l:List fK):HP:=rO λx:Value×{ q:List (Nat×fK) // q.map Zm=l }=>aM (Wb p (x.1,x.2.1))
section
variable {A:AW} {L K:List It} {p:Nat}
theorem py.open {c:br} {l:List (Int×Int)} (h:ah A L) (hp:aE L (.h (py p c l)) K):∃v,ah A (Qk p c l v++K):=jV h hp
theorem py.dP {c:br} {l:List (Int×Int)} {v:Value} (h:ah A L) (e:aX L (Qk p c l v) K):ah A (.h (py p c l)::K):=iM v h e
theorem Br.open {l:List fK} (h:ah A L) (hp:aE L (.h (Br p l)) K):∃v q,q.map Zm=l/\ah A (Wb p (v,q)++K):=by
 obtain⟨⟨v,q,hq⟩,h⟩:=jV h hp;exact⟨v,q,hq,h⟩
theorem Br.dP {l:List fK} {v:Value} {q:List (Nat×fK)} (hq:q.map Zm=l) (h:ah A L) (e:aX L (Wb p (v,q)) K):ah A (.h (Br p l)::K):=iM (g:=λx:Value×{ q:List (Nat×fK) // q.map Zm=l }=>Wb p (x.1,x.2.1)) (v,⟨q,hq⟩) h e
theorem Br.nil (h:ah A L) (h1:aE L (.at p (.cells [.slice none 0 0] true 1)) K):ah A (.h (Br p [])::K):=by
 have h2:ah A (.at p (.cells [.slice none 0 0] true 1)::K):=by
  unfold ah at h ⊢;rw [h1.aM] at h;exact h
 have h3:ah A (.h eZ::.at p (.cells [.slice none 0 0] true 1)::K):=ah.mw h2;have h4:ah A (.h (mA (.slice none 0 0) [])::.h eZ::.at p (.cells [.slice none 0 0] true 1)::K):=dv.nil h3;exact Br.dP (v:=.slice none 0 0) (q:=[]) rfl h4 (.s (.s (.s .z)) (.s .z (.s .z .z)))
theorem Br.xI {K1 K2 K3:List It} {n:Nat} {v:Value} {q:List (Nat×fK)} {x:fK} {l:List fK} (hq:q.map Zm=l) (h:ah A L) (h1:aE L (.at p (.cells [v] true 1)) K) (h2:aE K (.h (mA v (q.map qB++[n]))) K1) (h3:aE K1 (.h (oN q)) K2) (h4:aE K2 (.at n (ir x)) K3) :
 ah A (.h (Br p (l++[x]))::K3):=by
 have h5:ah A (.h (oN (q++[(n,x)]))::.at p (.cells [v] true 1)::.h (mA v ((q++[(n,x)]).map qB))::K3):=by
  unfold ah at h ⊢;rw [h1.aM,h2.aM,h3.aM,h4.aM] at h;show bB A (oN (q++[(n,x)])*(pt p (.cells [v] true 1)*(mA v ((q++[(n,x)]).map qB)*aM K3)));rw [MP,Zr];exact h.dZ (by show pt p (.cells [v] true 1)*(mA v (q.map qB++[n])*(oN q*(pt n (ir x)*aM K3)))=_;ac_rfl)
 exact Br.dP (v:=v) (q:=q++[(n,x)]) (by rw [Zr,hq];rfl) h5 (.s (.s .z) (.s (.s .z) (.s .z .z)))
theorem ah.Va {v:Value} {n:Nat} {ns:List Nat} (h:ah A L) (hp:aE L (.h (mA v (n::ns))) K) :
 ∃b off c b8,v=.slice (some ⟨b,off,none⟩) (ns.length+1) c/\ns.length+1<=c/\off+(ns.length+1)<=b8.length/\b8[off]? = some (pv n)/\ah A (.at b (.cells b8 true 1)::K)/\
  (∀(A':AW) (L' K':List It),ah A' L'->aE L' (.at b (.cells b8 true 1)) K'->ah A' (.h (mA (.slice (some ⟨b,off,none⟩) (ns.length+1) c) (n::ns))::K')/\ah A' (.h (mA (.slice (some ⟨b,off+1,none⟩) ns.length (c-1)) ns)::K')):=by
 unfold ah at h;rw [hp.aM] at h;rcases dv.cases h with ⟨_,h0,_⟩|⟨b,off,c,b8,rfl,h1,h2,h3,h4⟩;simp at h0;simp only [List.length_cons,Nat.mul_one] at h1 h2 h3;have Ph:=h3;rw [List.drop_eq_getElem_cons (by omega),Zi,List.take_succ_cons] at Ph;obtain⟨h5,h6⟩:=List.cons.inj Ph;refine⟨b,off,c,b8,by simp,h1,h2,?_,h4,λA' L' K' hS hq=>?_⟩;rw [List.getElem?_eq_getElem (by omega),<-h5];unfold ah at hS;rw [hq.aM] at hS;refine⟨dv.mk (by simpa using h1) (by simpa using h2) (by simpa using h3) hS,?_⟩;exact dv.mk (by omega) (by omega) (by simpa using h6) hS
theorem ah.nilE (h:ah A L):ah A (.h (UM (.slice none 0 0) [])::L):=dv.nil h
end
end
section
abbrev xu:List (Nat×Nat):=[(0,0),(1,0),(2,0),(3,0),(4,0),(5,0),(6,0),(7,0),(8,0),(9,0),(10,0),(12,0),(13,0),(11,2),(14,2),(15,2),(16,3),(17,0),(18,0),(19,3)]
open T26
variable [Gl]
theorem CZ (c:br) (l:List (Int×Int)) (nJ:Int) (bs:List Int) (b:Int):nE c l nJ (bs++[b])=if 0<=dU c b then nE c l nJ bs++[(b,nJ)] else nE c l nJ bs:=by
 unfold nE;rw [kaH];by_cases h:0<=dU c b;simp [h];simp [h]
theorem Om (c:br) (l:List (Int×Int)) (nJ:Int) (bs:List Int):(nE c l nJ bs).length<=l.length+bs.length:=by
 unfold nE;have:=Z2 (λb=>decide (0<=dU c b)) bs;rw [qm,qD];omega
theorem KW (p:Nat) (c:br) (pn:cX c) (l:List (Int×Int)) (nJ:Int) (vb:Value) (bs:List Int) (hb:∀b∈bs,b<2^62) (hl:l.length<2^28) (Tr:bs.length<2^28) :
 bn qa 205 [pv p,.int .i64 nJ,vb] [.h (py p c l),.h (av .i64 vb bs)] (λ_=>True) (λ_=>[.h (py p c (nE c l nJ bs)),.h (av .i64 vb bs)]):=by
 intro A F hw hS;refine aN Tryz.func205 λ_=>?_;obtain⟨v0,hS⟩:=py.open hS .z;dsimp only [Qk,aa,af] at hS;have hI:=ah.tE hS (.s (.s .z));obtain⟨ob,cb,rfl,_⟩:=hI.cy;have hq:=AH hS hw;revert hq hS hw;clear hS;refine W cF (J1 bE) ?_<;>(unhygienic intros)
 refine ef (λk fr A'=>A'.Wf/\∃(i:Nat),k=bs.length-i/\i<=bs.length/\fr 0=pv p/\fr 1=.int .i64 nJ/\fr 10=.slice ob bs.length cb/\fr 11=.int .i64 bs.length/\fr 12=.int .i64 i/\
  ah A' [.h (py p c (nE c l nJ (bs.take i))),.h (av .i64 (.slice ob bs.length cb) bs),.h F]) bs.length ?_ ?_
 refine⟨hw,0,by simp,by simp,by simp,by simp,by simp,by simp,by simp,?_⟩;have e:nE c l nJ (bs.take 0)=l:=by simp [nE]
 rw [e];exact py.dP (v:=v0) hS (.s .z (.s .z .z));clear hq hI hS hw;rintro k fr A' ⟨hw,i,rfl,hi,h0,h1,NK,FX,HE,hS⟩;obtain⟨v,hS⟩:=py.open hS .z;dsimp only [Qk,aa,af] at hS;have hI:=ah.tE hS (.s (.s .z));have pY:=Om c l nJ (bs.take i);have YF:(bs.take i).length<=bs.length:=by simp;omega
 have hq:=AH hS hw;refine ba ?_;by_cases cD:i<bs.length
 . have iC:(i:Int)<bs.length:=(by omega);have gS:=By (i:=i);obtain⟨pp,b8,rfl,bV,hcell⟩:=hI.at cD;have zM:bs.take (i+1)=bs.take i++[bs[i]]:=ZX cD;have kJ:=u4 c pn bs[i] (hb _ (Zh cD));dsimp only [br.v] at kJ;by_cases h:0<=dU c bs[i]
   . repeat' (first|(with_reducible apply W1;(·first|(simp;done)|(simp;rfl));(·first|(simp;done)|(simp;rfl));(·exact wA);(·exact sA);(·first|exact pA|exact kA);(·first|exact AW.bY _ _|((repeat' (first|apply aE.z|apply aE.s));done)|(simp [hq];(repeat' (first|rfl|refine⟨rfl,?_⟩));done)|(simp;done)|(simp;rfl)|(simp [hq];done)|(simp [hq];rfl));(·first|omega|(simp;omega));(·intro _ _;trivial);rintro _ _ _ hS hw _;(try dsimp only [AW.bd] at hS);have hq:=AH hS hw)|(refine kY λR hR=>?_;simp [ar,ax,h0,h1,NK,FX,HE,hq,bV,hcell,h,cD,iC,gS,AW.ab,aG];try simp (disch:=omega) only [aA,aw,ar,ax])|(refine hR _ _ ?_;clear hR R)|(refine hK _ _ ?_;clear hK K)|refine nx ?_|refine wn λK hK=>?_|simp only [wS]|(refine bO (kJ _) ?_;rintro _ _ ⟨rfl,rfl⟩ _ _)|(show c8 _ _ _ _ _ _;refine nx ?_)|(refine wc rfl (λhc=>?_) (λhc=>?_)<;>(try simp at hc)<;>(try omega))|(refine ib (λhc=>?_) (λhc=>?_)<;>(try omega)<;>(try simp (disch:=omega) only [aA,aw])))
     refine⟨bs.length-(i+1),by omega,?_,i+1,rfl,by omega,by simp [h0],by simp [h1],by simp [NK],by simp [FX],by simp,?_⟩
     first|exact hw|exact hw.set _ (hw.lt (hS.g 2 rfl))
     rw [zM,CZ,aA h];apply ah.bS;apply py.dP
     (·exact sA)
     (·first|exact pA|exact kA)
     (·first|exact pA|exact kA)
   revert hq hS hw;(repeat first|clear hq|clear hS|clear hw|revert hc|revert R|revert K);refine W (J1 @kJ) (xe h0 h1 NK FX HE bV hcell h cD iC gS bE) ?_<;>(unhygienic intros);refine⟨bs.length-(i+1),by omega,hw,i+1,rfl,by omega,by simp [h0],by simp [h1],by simp [NK],by simp [FX],by simp,?_⟩;rw [zM,CZ,aw h];apply ah.bS;apply py.dP
   (·exact sA)
   (·first|exact pA|exact kA)
   (·first|exact pA|exact kA)
 have IV:i=bs.length:=by omega
 subst IV;rw [ZY] at hS;revert hq hS hw;(repeat first|clear hq|clear hS|clear hw|revert hc|revert R|revert K);refine W cF (J6 h0 h1 NK FX HE bE) ?_<;>(unhygienic intros);refine⟨_,by first|rfl|(simp;rfl),trivial,?_⟩;exact py.dP (v:=v) hS (.s .z (.s .z .z))
theorem Ac (l:List (Int×Int)) (nS:Int) (x:Int×Int):ko (l++[x]) nS=if nS<x.2 then ko l nS++[x] else ko l nS:=by
 unfold ko;rw [kaH];by_cases h:nS<x.2<;>simp [h]
theorem Af (c:br) (l:List (Int×Int)) (nS:Int) (x:Int×Int):mm c (l++[x]) nS=if nS<x.2 then mm c l nS else mm c l nS++[⟨dU c x.1,x.1,0,0⟩]:=by
 unfold mm;rw [kaH];by_cases h:nS<x.2<;>simp [h]
theorem yj (p:Nat) (c:br) (pn:cX c) (l:List (Int×Int)) (nS:Int) (hb:∀x∈l,x.1<2^62) (hl:l.length<2^28) :
 d7 qa 80 [pv p,.int .i64 nS] [.h (py p c l)] (λdp v=>v=pv dp) (λdp=>[.h (py p c (ko l nS)),.h (Br dp (mm c l nS))]):=by
 intro A F hw hS;refine aN Tryz.func80 λ_=>?_;obtain⟨v0,hS⟩:=py.open hS .z;dsimp only [Qk,aa,af] at hS;have hI:=ah.lm hS (.s .z);obtain⟨ob,cb,rfl,_⟩:=hI.cy;have hq:=AH hS hw;revert hq hS hw;clear hS;refine W (J1 (od xu)) (J1 bE) ?_<;>(unhygienic intros)
 refine ef (λk fr A'=>A'.Wf/\∃(i:Nat),k=l.length-i/\i<=l.length/\fr 0=pv p/\fr 1=.int .i64 nS/\fr 5=pv A.next/\fr 17=.slice ob l.length cb/\fr 18=.int .i64 l.length/\fr 19=.int .i64 i/\
  ah A' [.h (UM (fr 6) (ko (l.take i) nS)),.h (Br A.next (mm c (l.take i) nS)),.at p (SL c (.slice ob l.length cb)),.h (UM (.slice ob l.length cb) l),.h F]) l.length ?_ ?_
 have h1:=hS.alloc hw (.cells [.slice none 0 0] true 1);have h2:=ah.nilE (Br.nil h1 .z);refine⟨hw.alloc _,0,by simp,by simp,by simp,by simp,by simp,by simp,by simp,by simp,?_⟩;exact h2;clear hq hI hS;rintro k fr A' ⟨kI,i,rfl,hi,h0,h1,h5,h17,h18,h19,hS⟩;obtain⟨vl,q,Ri,hS⟩:=Br.open hS (.s .z);dsimp only [Wb,aa,af] at hS;have pY:(ko (l.take i) nS).length<=l.length:=by
  have e1:=Z2 (λx:Int×Int=>decide (nS<x.2)) (l.take i);have e2:(l.take i).length<=l.length:=by simp;omega
  unfold ko;omega
 have hal2:(q.map qB).length<=l.length:=by
  have e0:q.length=(mm c (l.take i) nS).length:=by rw [<-Ri,qD]
  have e1:=Z2 (λx:Int×Int=>!decide (nS<x.2)) (l.take i);have e2:(l.take i).length<=l.length:=by simp;omega
  unfold mm at e0;rw [qD] at e0 ⊢;omega
 replace hw:=kI;refine ba ?_;by_cases cD:i<l.length
 . have iC:(i:Int)<l.length:=(by omega);have gS:=By (i:=i);obtain⟨pp,b8,rfl,bV,fO,hcell⟩:=ah.entAt hS (.s (.s (.s (.s (.s .z))))) cD;have zM:l.take (i+1)=l.take i++[l[i]]:=ZX cD;have kJ:=u4 c pn l[i].1 (hb _ (Zh cD));dsimp only [br.v] at kJ;have hq:=AH hS hw;by_cases h:nS<l[i].2
   . repeat' (first|(with_reducible apply W1;(·first|(simp;done)|(simp;rfl));(·first|(simp;done)|(simp;rfl));(·exact wA);(·exact sA);(·first|exact pA|exact kA);(·first|exact AW.bY _ _|((repeat' (first|apply aE.z|apply aE.s));done)|(simp [hq];(repeat' (first|rfl|refine⟨rfl,?_⟩));done)|(simp;done)|(simp;rfl)|(simp [hq];done)|(simp [hq];rfl));(·first|omega|(simp;omega));(·intro _ _;trivial);rintro _ _ _ hS hw _;(try dsimp only [AW.bd] at hS);have hq:=AH hS hw)|(refine kY λR hR=>?_;simp [ar,ax,h0,h1,h5,h17,h18,h19,hq,bV,fO,hcell,h,cD,iC,gS,AW.ab,aG];try simp (disch:=omega) only [aA,aw,ar,ax])|(refine hR _ _ ?_;clear hR R)|(refine hK _ _ ?_;clear hK K)|refine nx ?_|refine wn λK hK=>?_|simp only [wS,xu]|refine wl qj xu (by decide +kernel) λK hK=>?_|(show c8 _ _ _ _ _ _;refine nx ?_)|(refine wc rfl (λhc=>?_) (λhc=>?_)<;>(try simp at hc)<;>(try omega))|(refine ib (λhc=>?_) (λhc=>?_)<;>(try omega)<;>(try simp (disch:=omega) only [aA,aw])))
     refine⟨l.length-(i+1),by omega,hw,i+1,rfl,by omega,by simp [h0],by simp [h1],by simp [h5],by simp [h17],by simp [h18],by simp,?_⟩;rw [zM,Ac,aA h,Af,aA h];simp;apply ah.bS;apply Br.dP Ri
     (·exact sA)
     (·first|exact pA|exact kA)
     (·first|exact pA|exact kA)
   . repeat' (first|(with_reducible apply Yp;(·first|(simp;done)|(simp;rfl));(·first|(simp;done)|(simp;rfl));(·exact wA);(·exact sA);(·first|exact pA|exact kA);(·first|exact AW.bY _ _|((repeat' (first|apply aE.z|apply aE.s));done)|(simp [hq];(repeat' (first|rfl|refine⟨rfl,?_⟩));done)|(simp;done)|(simp;rfl)|(simp [hq];done)|(simp [hq];rfl));(·first|omega|(simp;omega));(·intro _ _;trivial);rintro _ _ _ hS hw _;(try dsimp only [AW.bd] at hS);have hq:=AH hS hw)|(refine kY λR hR=>?_;simp [ar,ax,h0,h1,h5,h17,h18,h19,hq,bV,fO,hcell,h,cD,iC,gS,AW.ab,aG];try simp (disch:=omega) only [aA,aw,ar,ax])|(refine hR _ _ ?_;clear hR R)|(refine hK _ _ ?_;clear hK K)|refine nx ?_|refine wn λK hK=>?_|simp only [wS,xu]|refine wl qj xu (by decide +kernel) λK hK=>?_|(refine bO (kJ _) ?_;rintro _ _ ⟨rfl,rfl⟩ _ _)|(refine bO (Ax _ _ _) ?_;rintro _ _ ⟨rfl,rfl⟩ _ _)|(show c8 _ _ _ _ _ _;refine nx ?_)|(refine wc rfl (λhc=>?_) (λhc=>?_)<;>(try simp at hc)<;>(try omega))|(refine ib (λhc=>?_) (λhc=>?_)<;>(try omega)<;>(try simp (disch:=omega) only [aA,aw])))
     simp only [qD] at hS;refine⟨l.length-(i+1),by omega,?_,i+1,rfl,by omega,by simp [h0],by simp [h1],by simp [h5],by simp [h17],by simp [h18],by simp,?_⟩;exact wA;rw [zM,Ac,aw h,Af,aw h];simp;apply ah.bS;apply Br.xI Ri
     (·exact sA)
     (·first|exact pA|exact kA)
     (·first|exact pA|exact kA)
     (·first|exact pA|exact kA)
     (·first|exact pA|exact kA)
     (·first|exact pA|exact kA)
 have IV:i=l.length:=by omega
 subst IV;rw [ZY] at hS Ri;obtain⟨o6,c6,h6,_⟩:=(ah.lm hS (.s (.s (.s .z)))).cy;rw [h6] at hS;have hq:=AH hS hw;revert hq hS hw;(repeat first|clear hq|clear hS|clear hw|revert hc|revert R|revert K);refine W (J1 (od xu)) (J8 h0 h1 h5 h6 h17 h18 h19 bE) ?_<;>(unhygienic intros);refine⟨_,by first|rfl|(simp [h5];rfl),?_⟩;apply yw
 (·first|rfl|(simp;done))
 apply ah.bS;apply py.dP;apply Br.dP Ri
 (·exact sA)
 (·first|exact pA|exact kA)
 (·first|exact pA|exact kA)
 (·first|exact pA|exact kA)
theorem Pn (p:Nat) (o:Option Addr) (n c:Nat) (A:AW) (hg:A.bp p=some (.cells [.slice o n c] true 1)):fh 84 [pv p] A (.bool (decide (n=0))):=by
 refine aN Tryz.func84 λ_=>?_;refine W cF (J2 hg @AW.ab) ?_<;>intros;exact⟨_,by first|rfl|(simp;rfl),by simp,rfl⟩
theorem LJ (p:Nat) (l:List fK):bn qa 84 [pv p] [.h (Br p l)] (λv=>v=.bool (decide (l.length=0))) (λ_=>[.h (Br p l)]):=by
 intro A F hw hS;obtain⟨vl,q,Ri,hS⟩:=Br.open hS .z;dsimp only [Wb,aa,af] at hS;obtain⟨o,c,rfl,_⟩:=(ah.lm hS (.s .z)).cy;have hln:q.length=l.length:=by rw [<-Ri,qD]
 refine(Pn p o _ c A (hS.g 0 rfl)).mono ?_;rintro _ _ ⟨rfl,rfl⟩;exact⟨by simp [hln],Br.dP Ri hS (.s .z (.s .z (.s .z .z)))⟩
theorem LI (p pb:Nat) (x:fK) (l:List fK) (M:Mm) (hl:l.length<2^29) :
 bn qa 82 [pv p,pv pb] [.h (Br p (x::l)),dN pb M] (λv=>v=(zz (x::l) M).1.v) (λ_=>[.h (Br p (zz (x::l) M).2.1),dN pb (zz (x::l) M).2.2]):=by
 intro A F hw dA;refine aN Tryz.func82 λ_=>?_;dsimp only [aa,af] at dA;obtain⟨vl,q,Ri,hS⟩:=Br.open dA .z;clear dA;dsimp only [Wb,aa,af] at hS;cases q with
 | nil=>cases Ri
 | cons y q=>
   obtain⟨n,x'⟩:=y;obtain⟨h1,hqn⟩:=List.cons.inj Ri;clear Ri;dsimp only at h1;subst h1;rw [Zi] at hS;dsimp only at hS;have iY:=ah.pushH hS (.s (.s .z));clear hS;obtain⟨bb,off,c,b8,rfl,Mg,AP,bV,hS,kJ⟩:=ah.Va iY (.s (.s (.s .z)));clear iY;have hd:=λA hg=>Pn p (some ⟨bb,off,none⟩) ((q.map qB).length+1) c A hg;rw [decide_eq_false (by omega)] at hd;have hlq:(q.map qB).length=l.length:=(by rw [<-hqn,qD,qD]);rw [hlq] at hS hd kJ Mg AP;have hc3:off<b8.length:=(by omega);have e1:(1:Int)<=(l.length:Int)+1:=(by omega);have e0:(0:Int)<(l.length:Int)+1:=(by omega);have hpd:=λA hg=>yg n (dD x' M).2.1 A hg;have hcl1:=λA' L' K' h1 h2=>(kJ A' L' K' h1 h2).1;have hcl2:=λA' L' K' h1 h2=>(kJ A' L' K' h1 h2).2;unfold zz;have hq:=AH hS hw;by_cases h:(dD x' M).2.1.bW=3
   . rw [decide_eq_true h] at hpd;revert hq hS hw;refine W (J3 (Tg.mk (n:=10) (λ{A L K k}=>mH (A:=A) (L:=L) (K:=K) (k:=k) hd)) (Tg.mk (n:=10) (λ{A L K k}=>mH (A:=A) (L:=L) (K:=K) (k:=k) hpd)) (ta n pb x' M)) (J9 bV Mg e1 e0 @zD.eq_1 @fg.eq_1 bE @bk.eq_1 @aZ.v.eq_1) ?_<;>(unhygienic intros);refine⟨_,by first|rfl|(simp [hq,AW.ab,aG];rfl),by first|rfl|(simp [aZ.v];done),?_⟩;rw [aA h];apply ah.bS;apply Br.dP hqn;apply hcl2
     (·exact sA)
     (·first|exact pA|exact kA)
     dsimp only [Wb]
     (·first|exact pA|exact kA)
     (·first|exact pA|exact kA)
   rw [decide_eq_false h] at hpd;revert hq hS hw;(repeat first|clear hq|clear hS|clear hw|revert hc|revert R|revert K);refine W (J3 (Tg.mk (n:=10) (λ{A L K k}=>mH (A:=A) (L:=L) (K:=K) (k:=k) hd)) (Tg.mk (n:=10) (λ{A L K k}=>mH (A:=A) (L:=L) (K:=K) (k:=k) hpd)) (ta n pb x' M)) (J9 bV Mg e1 e0 @zD.eq_1 @fg.eq_1 bE @bk.eq_1 @aZ.v.eq_1) ?_<;>(unhygienic intros);refine⟨_,by first|rfl|(simp [hq,AW.ab,aG];rfl),by first|rfl|(simp [aZ.v];done),?_⟩;rw [aw h];apply ah.bS;apply Br.dP (q:=(n,(dD x' M).2.1)::q) (by rw [Zi,hqn]);apply ah.pushB (n:=n) (p:=(dD x' M).2.1) (q:=q);apply hcl1
   (·exact sA)
   (·first|exact pA|exact kA)
   (·first|exact pA|exact kA)
   (·first|exact pA|exact kA)
   dsimp only [Wb,Zi]
   (·first|exact pA|exact kA)
   (·first|exact pA|exact kA)
end
end Go.Stx
