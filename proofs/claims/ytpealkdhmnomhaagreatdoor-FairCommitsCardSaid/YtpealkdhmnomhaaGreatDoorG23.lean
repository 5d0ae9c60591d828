/-
 The program's thread: how it lies in memory; records behind a slice.
-/
import Derived.Test.YtpealkdhmnomhaaGreatDoorG21
set_option linter.unusedVariables false
set_option linter.unusedSimpArgs false
set_option linter.unusedSectionVars false
set_option maxRecDepth 20000
set_option maxHeartbeats 4000000
open Go.IntKind renaming i64->qY,u64->q8
open Go.Proofs.Tryz renaming func131->ka4,mx->Ze,prog->qV
open Go.Value renaming oneCell'->Zz
open List renaming drop_zero->ZO,length_append->Zc,length_take->Z9,take_of_length_le->Z3
open Nat renaming le_refl->qZ
open Bool renaming true->qg
open Go renaming Program->ql,TypeInfo->qP,Value->qd
open Go.Builtin renaming append->qK
open Go.Callee renaming builtin->qB
open Go.IntKind renaming i64->qa,u64->qj
open Go.Op renaming call->qT
open Go.Stx.eh renaming cells->qi
open Go.Value renaming bool->qn,int->qb
open Option renaming none->qh,some->qc
namespace Go.Stx
open Go Go.Proofs
attribute [local irreducible] cM aV aB aL cU dh TW bI
section
open Go.Proofs Go
variable [Gl]
theorem dK.LU {P:ql} {A:AW} {t e:TypeId} {i:qP} {z:qd} {v:qd} {size m:Nat} {cs mR:List qd} {F:HP} (n:Nat)
 (hu:P.underlying t=qc (.slice e)) (hi:P.info? e=qc i) (hz:i.zero=qc z) (iA:i.size=size) (pq:z.cells.size=size) (h0:0<size)
 (hn:A.bk n=qc (qi mR qg size)) (Dy:mR.length=size) (nU:mR.all Zz=qg) (h:bB A (dK size v m cs*F)) (bW:m<2 ^ 30) (zZ:i.bytes<=2 ^ 16) (hw:A.Wf) :
 ∃v' A',fI P A t t v (.slice (qc ⟨n,0,qh⟩) 1 1)=qc (v',A')/\bB A' (dK size v' (m+1) (cs++mR)*F)/\A'.Wf/\A.next<=A'.next:=by
 subst iA;have jI:gN A i.size (.slice (qc ⟨n,0,qh⟩) 1 1)=qc (1,mR):=by
  have e1:mR.take i.size=mR:=Z3 Ya;simp [gN,AW.bS,hn,Dy,e1]
 have hb:(m+1)*i.bytes<=140737488355328:=by
  have h1:=Nat.mul_le_mul (show m+1<=2 ^ 30 by omega) zZ;omega
 have lF:m+1<=140737488355328:=Ya
 rcases dK.cases h with ⟨rfl,rfl,rfl,h2⟩|⟨b,off,c,bS,rfl,h1,h2,h3,h4⟩
 . refine⟨.slice (qc ⟨A.next,0,qh⟩) (0+1) (0+1),A.alloc (qi ([]++mR) qg i.size),?_,?_,hw.alloc _,by simp⟩
   . simp only [fI,hu,hi,hz,jI,iv];rw [ay ⟨pq,h0,trivial⟩,aw Ya,ay ⟨lF,hb,nU⟩]
     try simp
   have:=h2.alloc hw (qi ([]++mR) qg i.size);have h9:bB (A.alloc (qi ([]++mR) qg i.size)) (pt A.next (qi mR qg i.size)*F):=this;exact dK.mk (size:=i.size) (n:=1) (off:=0) (c:=1) Yb (by simp [Dy]) (by simp [<-Dy]) h9
 have hg:=h4.bk;have bY:=hw.lt hg;have lh:cs.length=m*i.size:=by rw [h3,Z9,List.length_drop];omega
 refine⟨.slice (qc ⟨A.next,0,qh⟩) (m+1) (m+1),(A.set b qh).alloc (qi ((bS.drop off).take (m*i.size)++mR) qg i.size),?_,?_,
  (hw.set qh bY).alloc _,by simp⟩
 simp only [fI,hu,hi,hz,jI,iv,hg];rw [ay ⟨pq,h0,trivial⟩,aw Yb,ay ⟨trivial,h2⟩];simp only;rw [aw Ya,ay ⟨lF,hb,nU⟩];have h5:=(h4.PP).alloc (hw.set qh bY) (qi ((bS.drop off).take (m*i.size)++mR) qg i.size);have h6:bB ((A.set b qh).alloc (qi ((bS.drop off).take (m*i.size)++mR) qg i.size)) (pt A.next (qi (cs++mR) qg i.size)*F):=by
  have:=h5;rw [<-h3] at this ⊢;exact this
 have h7:(cs++mR).length=(m+1)*i.size:=by rw [Zc,lh,Dy,Nat.add_mul,Nat.one_mul]
 refine dK.mk (qZ _) Ya ?_ h6;rw [ZO,Z3 Ya]
theorem dK.appendS {P:ql} {A:AW} {t e:TypeId} {i:qP} {z:qd} {v x:qd} {size m m2:Nat} {cs mR:List qd} {F:HP}
 (hu:P.underlying t=qc (.slice e)) (hi:P.info? e=qc i) (hz:i.zero=qc z) (iA:i.size=size) (pq:z.cells.size=size) (h0:0<size)
 (hx:fL A size x m2 mR) (nU:mR.all Zz=qg) (h:bB A (dK size v m cs*F)) (bW:m+m2<2 ^ 30) (zZ:i.bytes<=2 ^ 16) (hw:A.Wf) :
 ∃v' A',fI P A t t v x=qc (v',A')/\bB A' (dK size v' (m+m2) (cs++mR)*F)/\A'.Wf/\A.next<=A'.next:=by
 subst iA;have jI:gN A i.size x=qc (m2,mR):=fL.pd hx;have Dy:mR.length=m2*i.size:=hx.length;have hb:(m+m2)*i.bytes<=140737488355328:=by
  have h1:=Nat.mul_le_mul (show m+m2<=2 ^ 30 by omega) zZ;omega
 have lF:m+m2<=140737488355328:=Ya
 by_cases hm:m2=0;subst hm;have Tn:mR=[]:=List.eq_nil_of_length_eq_zero Ya;subst Tn;refine⟨v,A,?_,by simpa using h,hw,qZ _⟩;have holds:∃b,iv A i.size v=qc (b,m,cs):=by
  rcases dK.cases h with ⟨rfl,rfl,rfl,h2⟩|⟨b,off,c,bS,rfl,h1,h2,h3,h4⟩;exact⟨qh,rfl⟩;refine⟨qc ⟨b,off,qh⟩,?_⟩;simp [iv,h4.bk,h2,h3]
 obtain⟨b,Cx⟩:=holds;simp [fI,hu,hi,hz,pq,h0,jI,Cx];rcases dK.cases h with ⟨rfl,rfl,rfl,h2⟩|⟨b,off,c,bS,rfl,h1,h2,h3,h4⟩;refine⟨.slice (qc ⟨A.next,0,qh⟩) (0+m2) (0+m2),A.alloc (qi mR qg i.size),?_,?_,hw.alloc _,by simp⟩;simp only [fI,hu,hi,hz,jI,iv];rw [ay ⟨pq,h0,trivial⟩,aw hm,ay ⟨lF,hb,nU⟩];simp;have h9:=h2.alloc hw (qi mR qg i.size);exact dK.mk (size:=i.size) (n:=0+m2) (off:=0) (c:=0+m2) (qZ _) (by simp [Dy]) (by simp [<-Dy]) h9;have hg:=h4.bk;have bY:=hw.lt hg;have lh:cs.length=m*i.size:=by rw [h3,Z9,List.length_drop];omega
 refine⟨.slice (qc ⟨A.next,0,qh⟩) (m+m2) (m+m2),(A.set b qh).alloc (qi ((bS.drop off).take (m*i.size)++mR) qg i.size),?_,?_,
  (hw.set qh bY).alloc _,by simp⟩
 simp only [fI,hu,hi,hz,jI,iv,hg];rw [ay ⟨pq,h0,trivial⟩,aw Yb,ay ⟨trivial,h2⟩];simp only;rw [aw hm,ay ⟨lF,hb,nU⟩];have h5:=(h4.PP).alloc (hw.set qh bY) (qi ((bS.drop off).take (m*i.size)++mR) qg i.size);have h6:bB ((A.set b qh).alloc (qi ((bS.drop off).take (m*i.size)++mR) qg i.size)) (pt A.next (qi (cs++mR) qg i.size)*F):=by
  have:=h5;rw [<-h3] at this ⊢;exact this
 have h7:(cs++mR).length=(m+m2)*i.size:=by rw [Zc,lh,Dy,Nat.add_mul]
 refine dK.mk (qZ _) Ya ?_ h6;rw [ZO,Z3 Ya]
section
variable {P:ql} {S:AW->Prop} {K:Fr->AW->Prop} {fE:List BB} {a:Fr} {A:AW} {d:Option Tmp} {m:Nat} {x y:Operand} {t e:TypeId} {i:qP} {z:qd} {n size:Nat} {v:qd} {cs mR:List qd} {L K':List It}
theorem Ve {k':qd->AW->Prop} (hu:P.underlying t=qc (.slice e)) (hi:P.info? e=qc i) (hz:i.zero=qc z) (iA:i.size=size) (pq:z.cells.size=size) (h0:0<size) (zZ:i.bytes<=2 ^ 16)
 (e1:jt a x=v) (e2:jt a y=.slice (qc ⟨n,0,qh⟩) 1 1) (hw:A.Wf) (hS:aj A L) (hp:aE L (.h (dK size v m cs)) K') (hn:A.bk n=qc (qi mR qg size)) (Dy:mR.length=size) (nU:mR.all Zz=qg) (bW:m<2 ^ 30)
 (hk:∀o c A',aj A' (.h (dK size (.slice o (m+1) c) (m+1) (cs++mR))::K')->A'.Wf->A.next<=A'.next->k' (.slice o (m+1) c) A') :
 jL P (qT ⟨qB qK,#[x,y],#[t,t]⟩) (jt a) A k':=by
 have h1:bB A (dK size v m cs*aO K'):=by
  unfold aj at hS;rw [hp.aO] at hS;exact hS
 obtain⟨v',A',e3,h2,h3,h4⟩:=dK.LU (P:=P) (t:=t) n hu hi hz iA pq h0 hn Dy nU h1 bW zZ hw;obtain⟨o,c,h5,_⟩:=(dK.is h2).bR;subst h5;exact DO e1 e2 e3 (hk o c A' h2 h3 h4)
theorem Co (hu:P.underlying t=qc (.slice e)) (hi:P.info? e=qc i) (hz:i.zero=qc z) (iA:i.size=size) (pq:z.cells.size=size) (h0:0<size) (zZ:i.bytes<=2 ^ 16)
 (e1:jt a x=v) (e2:jt a y=.slice (qc ⟨n,0,qh⟩) 1 1) (hw:A.Wf) (hS:aj A L) (hp:aE L (.h (dK size v m cs)) K') (hn:A.bk n=qc (qi mR qg size)) (Dy:mR.length=size) (nU:mR.all Zz=qg) (bW:m<2 ^ 30)
 (hs:∀A',aj A' K'->S A')
 (hk:∀o c A',aj A' (.h (dK size (.slice o (m+1) c) (m+1) (cs++mR))::K')->A'.Wf->A.next<=A'.next->aV P S K fE (fk a d (.slice o (m+1) c)) A') :
 aV P S K (⟨d,qT ⟨qB qK,#[x,y],#[t,t]⟩,qh,3⟩::fE) a A:=by
 unfold aV;rw [ay Yb];exact Ve hu hi hz iA pq h0 zZ e1 e2 hw hS hp hn Dy nU bW λo c A' h1 h2 h3=>⟨hs A' h1.tail,hk o c A' h1 h2 h3⟩
end
def k9.cells (o:k9):List qd:=[qb qa o.pc,qb qa o.fx,qb qj o.val]
def wK (l:List k9):List qd:=l.flatMap k9.cells
def jA (v:qd) (l:List k9):HP:=dK 3 v l.length (wK l)
theorem Vv (l:List k9) (o:k9):wK l++o.cells=wK (l++[o]):=by simp [wK]
section
variable {S:AW->Prop} {K:Fr->AW->Prop} {fE:List BB} {a:Fr} {A:AW} {d:Option Tmp} {x y:Operand} {l:List k9} {n:Nat} {v:qd} {L K' K2:List It} {y1 y2 y3:Int}
theorem JG (e1:jt a x=v) (e2:jt a y=.slice (qc ⟨n,0,qh⟩) 1 1) (hw:A.Wf) (hS:aj A L) (hp:aE L (.h (jA v l)) K') (hn:A.bk n=qc (qi [qb qa y1,qb qa y2,qb qj y3] qg 3)) (bW:l.length<2 ^ 30)
 (hs:∀A',aj A' K'->S A')
 (hk:∀o c A',aj A' (.h (jA (.slice o (l.length+1) c) (l++[⟨y1,y2,y3⟩]))::K')->A'.Wf->A.next<=A'.next->aV qV S K fE (fk a d (.slice o (l.length+1) c)) A') :
 aV qV S K (⟨d,qT ⟨qB qK,#[x,y],#[137,137]⟩,qh,3⟩::fE) a A:=by
 refine Co (P:=qV) (size:=3) (m:=l.length) (cs:=wK l) Tryz.underlying137 Tryz.info211 Tryz.zero211 rfl rfl Ya Yf e1 e2 hw hS hp hn rfl rfl bW hs λo c A' h1 h2 h3=>hk o c A' ?_ h2 h3;have e:jA (.slice o (l.length+1) c) (l++[⟨y1,y2,y3⟩])=dK 3 (.slice o (l.length+1) c) (l.length+1) (wK l++[qb qa y1,qb qa y2,qb qj y3]):=by
  unfold jA;rw [<-Vv,Zc];rfl
 rw [e];exact h1
theorem Rn (l:List k9):(wK l).all Zz=qg:=by
 rw [List.all_eq_true];intro v hv;obtain⟨x,_,hx⟩:=List.mem_flatMap.1 hv;simp only [k9.cells,List.mem_cons,List.not_mem_nil,or_false] at hx;rcases hx with rfl|rfl|rfl<;>rfl
theorem VJ {v2:qd} {l2:List k9} (e1:jt a x=v) (e2:jt a y=v2) (hw:A.Wf) (hS:aj A L) (hp:aE L (.h (jA v l)) K') (IS:aE L (.h (jA v2 l2)) K2) (bW:l.length+l2.length<2 ^ 30)
 (hs:∀A',aj A' K'->S A')
 (hk:∀o c A',aj A' (.h (jA (.slice o (l.length+l2.length) c) (l++l2))::K')->A'.Wf->A.next<=A'.next->aV qV S K fE (fk a d (.slice o (l.length+l2.length) c)) A') :
 aV qV S K (⟨d,qT ⟨qB qK,#[x,y],#[137,137]⟩,qh,3⟩::fE) a A:=by
 have h1:bB A (dK 3 v l.length (wK l)*aO K'):=by
  have rk:=hS;unfold aj at rk;rw [hp.aO] at rk;exact rk
 have h2:fL A 3 v2 l2.length (wK l2):=by
  have rk:=hS;unfold aj at rk;rw [IS.aO] at rk;exact dK.is rk
 obtain⟨v',A',e3,h3,h4,h5⟩:=dK.appendS (P:=qV) (size:=3) (t:=137) Tryz.underlying137 Tryz.info211 Tryz.zero211 rfl rfl Ya h2 (Rn l2) h1 bW Yf hw;obtain⟨o,c,h6,_⟩:=(dK.is h3).bR;subst h6;have h7:aj A' (.h (jA (.slice o (l.length+l2.length) c) (l++l2))::K'):=by
  have e:jA (.slice o (l.length+l2.length) c) (l++l2)=dK 3 (.slice o (l.length+l2.length) c) (l.length+l2.length) (wK l++wK l2):=by
   unfold jA;rw [Zc,show wK (l++l2)=wK l++wK l2 by simp [wK]]
  show bB A' (jA (.slice o (l.length+l2.length) c) (l++l2)*aO K');rw [e];exact h3
 unfold aV;rw [ay Yb];exact DO e1 e2 e3 ⟨hs A' h7.tail,hk o c A' h7 h4 h5⟩
end
structure xK where
 b9:Int
 mK:R8
 jv:Int
 bd:Bool
 gf:Int
 cf:aY
 id:Int
 nt:Int
 pc:Int
 dX:R8
 lW:Int
 done:Bool
 kj:Int
structure ThW where
 va:Value
 vs:Value
 vf:Value
 vd:Value
 vc:Value
 vl:Value
 vo:Value
def aU.d (t:aU):xK:=⟨t.b9,t.mK,t.jv,t.bd,t.gf,t.cf,t.id,t.nt,t.pc,t.dX,t.lW,t.done,t.kj⟩
def oY (d:xK) (w:ThW):List qd:=[w.va,qb qa d.b9,qb qj d.mK.r0,qb qj d.mK.r1,qb qj d.mK.r2,qb qj d.mK.r3,qb qj d.mK.r4,qb qj d.mK.r5,qb qj d.mK.r6,qb qj d.mK.r7,qb qa d.jv,w.vs,qn d.bd,qb qa d.gf,w.vf,w.vd,qb qa d.cf.bg,qb qa d.cf.av,qb qa d.cf.base,qb qa d.cf.c0,qb qa d.cf.c1,qb qa d.cf.c2,qb qa d.cf.c3,qb qa d.cf.reads,qb qa d.cf.bU,qb qa d.cf.ar,qb qa d.cf.aA,qb qa d.cf.aC,qn d.cf.bd,qb qa d.id,qb qa d.nt,w.vc,qb qa d.pc,qb qj d.dX.r0,qb qj d.dX.r1,qb qj d.dX.r2,qb qj d.dX.r3,qb qj d.dX.r4,qb qj d.dX.r5,qb qj d.dX.r6,qb qj d.dX.r7,qb qa d.lW,qn d.done,w.vl,w.vo,qb qa d.kj]
abbrev uX (d:xK) (w:ThW):eh:=qi (oY d w) qg 1
variable {d:xK} {w:ThW}
@[simp] theorem thC_len:(oY d w).length=46:=rfl
@[simp] theorem thC_g0:(oY d w)[0]? = qc (w.va):=rfl
@[simp] theorem thC_g1:(oY d w)[1]? = qc (qb qa d.b9):=rfl
@[simp] theorem thC_g10:(oY d w)[10]? = qc (qb qa d.jv):=rfl
@[simp] theorem thC_g11:(oY d w)[11]? = qc (w.vs):=rfl
@[simp] theorem thC_g12:(oY d w)[12]? = qc (qn d.bd):=rfl
@[simp] theorem thC_g13:(oY d w)[13]? = qc (qb qa d.gf):=rfl
@[simp] theorem thC_g14:(oY d w)[14]? = qc (w.vf):=rfl
@[simp] theorem thC_g15:(oY d w)[15]? = qc (w.vd):=rfl
@[simp] theorem thC_g29:(oY d w)[29]? = qc (qb qa d.id):=rfl
@[simp] theorem thC_g30:(oY d w)[30]? = qc (qb qa d.nt):=rfl
@[simp] theorem thC_g31:(oY d w)[31]? = qc (w.vc):=rfl
@[simp] theorem thC_g32:(oY d w)[32]? = qc (qb qa d.pc):=rfl
@[simp] theorem thC_g41:(oY d w)[41]? = qc (qb qa d.lW):=rfl
@[simp] theorem thC_g42:(oY d w)[42]? = qc (qn d.done):=rfl
@[simp] theorem thC_g43:(oY d w)[43]? = qc (w.vl):=rfl
@[simp] theorem thC_g44:(oY d w)[44]? = qc (w.vo):=rfl
@[simp] theorem thC_g45:(oY d w)[45]? = qc (qb qa d.kj):=rfl
@[simp] theorem thC_g16:(oY d w)[16]? = qc (qb qa d.cf.bg):=rfl
@[simp] theorem thC_g28:(oY d w)[28]? = qc (qn d.cf.bd):=rfl
@[simp] theorem thC_cf:((oY d w).drop 16).take 13=[qb qa d.cf.bg,qb qa d.cf.av,qb qa d.cf.base,qb qa d.cf.c0,qb qa d.cf.c1,qb qa d.cf.c2,qb qa d.cf.c3,qb qa d.cf.reads,qb qa d.cf.bU,qb qa d.cf.ar,qb qa d.cf.aA,qb qa d.cf.aC,qn d.cf.bd]:=rfl
@[simp] theorem thC_rg:((oY d w).drop 33).take 8=d.dX.cells:=rfl
@[simp] theorem thC_sv:((oY d w).drop 2).take 8=d.mK.cells:=rfl
@[simp] theorem thC_st:((oY d w).drop 32).take 11=qb qa d.pc::(d.dX.cells++[qb qa d.lW,qn d.done]):=rfl
@[simp] theorem thC_s0 {x:qd}:(oY d w).set 0 (x)=oY d { w with va:=x }:=rfl
@[simp] theorem thC_s1 {x:Int}:(oY d w).set 1 (qb qa x)=oY { d with b9:=x } w:=rfl
@[simp] theorem thC_s10 {x:Int}:(oY d w).set 10 (qb qa x)=oY { d with jv:=x } w:=rfl
@[simp] theorem thC_s11 {x:qd}:(oY d w).set 11 (x)=oY d { w with vs:=x }:=rfl
@[simp] theorem thC_s12 {x:Bool}:(oY d w).set 12 (qn x)=oY { d with bd:=x } w:=rfl
@[simp] theorem thC_s13 {x:Int}:(oY d w).set 13 (qb qa x)=oY { d with gf:=x } w:=rfl
@[simp] theorem thC_s14 {x:qd}:(oY d w).set 14 (x)=oY d { w with vf:=x }:=rfl
@[simp] theorem thC_s15 {x:qd}:(oY d w).set 15 (x)=oY d { w with vd:=x }:=rfl
@[simp] theorem thC_s32 {x:Int}:(oY d w).set 32 (qb qa x)=oY { d with pc:=x } w:=rfl
@[simp] theorem thC_s41 {x:Int}:(oY d w).set 41 (qb qa x)=oY { d with lW:=x } w:=rfl
@[simp] theorem thC_s42 {x:Bool}:(oY d w).set 42 (qn x)=oY { d with done:=x } w:=rfl
@[simp] theorem thC_s44 {x:qd}:(oY d w).set 44 (x)=oY d { w with vo:=x }:=rfl
@[simp] theorem thC_s45 {x:Int}:(oY d w).set 45 (qb qa x)=oY { d with kj:=x } w:=rfl
@[simp] theorem thC_ssv {r:R8}:fY (oY d w) 2 r.cells=oY { d with mK:=r } w:=rfl
@[simp] theorem thC_srg {r:R8}:fY (oY d w) 33 r.cells=oY { d with dX:=r } w:=rfl
theorem sR {i:Int} (h:0<=i/\i<8):(oY d w)[33+i.toNat]? = qc (qb qj (d.dX.bk i)):=by
 have h1:i=0\/i=1\/i=2\/i=3\/i=4\/i=5\/i=6\/i=7:=Ya
 rcases h1 with rfl|rfl|rfl|rfl|rfl|rfl|rfl|rfl<;>rfl
theorem AP {i x:Int} (h:0<=i/\i<8):(oY d w).set (33+i.toNat) (qb qj x)=oY { d with dX:=d.dX.set i x } w:=by
 have h1:i=0\/i=1\/i=2\/i=3\/i=4\/i=5\/i=6\/i=7:=Ya
 rcases h1 with rfl|rfl|rfl|rfl|rfl|rfl|rfl|rfl<;>rfl
def Ke (v:qd) (l:List bq):HP:=dK 5 v l.length (l.flatMap az)
theorem Ay {ι:Type} {φ ψ:ι->Prop} {x:ι} (h1:φ x) (h2:ψ x):∃x,φ x/\ψ x:=⟨x,h1,h2⟩
theorem aj.lX {A:AW} {L K:List It} {size n:Nat} {v:qd} {cs:List qd} (h:aj A L) (hp:aE L (.h (dK size v n cs)) K):fL A size v n cs:=by
 unfold aj at h;rw [hp.aO] at h;exact dK.is h
end
section
abbrev Ru:List (Nat×Nat):=[(0,0),(1,0),(2,0),(3,0),(4,0),(5,0),(6,0),(7,0),(8,0),(9,0),(10,0),(11,0),(12,0),(13,2),(14,3),(15,0),(16,0),(17,3)]
open T7
variable [Gl]
theorem AO (b:Nat) (d:xK) (va vs vf vd vl vo:qd) (o:Option Addr) (n c:Nat) (pc:Int):bx qV 88 [pv b,qb qa pc] [.at b (uX d ⟨va,vs,vf,vd,.slice o n c,vl,vo⟩)] (λ_=>True)
 (λ_=>[.at b (uX { d with pc:=pc,done:=decide (pc=n) } ⟨va,vs,vf,vd,.slice o n c,vl,vo⟩)]):=by
 intro A F hw hS;refine aK Tryz.func88 λ_=>?_;dsimp only [aa,ah] at hS;have hq:=gh hS hw;revert hq hS hw;refine W cx (J1 bC) ?_<;>(unhygienic intros);refine⟨_,by rfl,by trivial,?_⟩;apply aj.bX
 (·exact sA)
 (·exact pA)
theorem mh (b:Nat) (d:xK) (va vs vf vd vl vo:qd) (o:Option Addr) (n c:Nat) (h:0<=d.pc/\d.pc<2^40):bx qV 120 [pv b] [.at b (uX d ⟨va,vs,vf,vd,.slice o n c,vl,vo⟩)] (λ_=>True)
 (λ_=>[.at b (uX { d with pc:=d.pc+1,done:=decide (d.pc+1=n) } ⟨va,vs,vf,vd,.slice o n c,vl,vo⟩)]):=by
 intro A F hw hS;refine aK Tryz.func120 λ_=>?_;dsimp only [aa,ah] at hS;have hq:=gh hS hw;have RG:qY.wrap (d.pc+1)=d.pc+1:=af Ya Ya;revert hq hS hw;refine W (J1 (AO b d va vs vf vd vl vo o n c (d.pc+1))) (J2 RG bC) ?_<;>(unhygienic intros);refine⟨_,by rfl,by trivial,?_⟩;apply aj.bX
 (·exact sA)
 (·exact pA)
theorem ki (b:Nat) (d:xK) (w:ThW) (l:List k9) (kd v:Int) (hl:l.length<2^30):eI qV 119 [pv b,qb qa kd,qb qj v] [.at b (uX d w),.h (jA w.vo l)] (λ_ _=>True)
 (λvo=>[.at b (uX d { w with vo:=vo }),.h (jA vo (l++[⟨d.pc,kd,v⟩]))]):=by
 intro A F hw hS;refine aK Tryz.func119 λ_=>?_;dsimp only [aa,ah] at hS;have hq:=gh hS hw
 repeat' (first|(with_reducible apply JG;(·(simp;rfl));(·(simp;rfl));(·exact wA);(·exact sA);(·exact kA);(·exact AW.bN _ _);(·omega);(·intro _ _;trivial);rintro _ _ _ hS hw _;have hq:=gh hS hw)|(refine iT λR hR=>?_;simp [hq,AW.ab,aG];try simp (disch:=omega) only [ay,aw,af,an])|(refine hR _ _ ?_;clear hR R)|(refine hK _ _ ?_;clear hK K)|refine nx ?_|simp only [wS,Ru]|refine wl Ze Ru Yc λK hK=>?_)
 refine⟨_,by rfl,?_⟩;apply Ay
 (·trivial)
 apply aj.bX
 (·exact sA)
 (·exact pA)
theorem xl (b:Nat) (d:xK) (w:ThW) (r cy:Int) (h:0<=r/\r<8) (A:AW) (hg:A.bk b=qc (uX d w)):fD 181 [pv b,qb qa r,qb qa cy] A (qb qj (q8.wrap (d.dX.bk r+q8.wrap cy))):=by
 refine aK Tryz.func181 λ_=>?_;have zY:=sR (d:=d) (w:=w) h;refine W cx (J5 hg zY h.1 h.2 bC) ?_<;>intros;exact⟨_,by rfl,rfl,rfl⟩
def k8 (i:bq):qd:=.agg #[qb qa i.op,qb qa i.a,qb qa i.b,qb qa i.c,qb qa i.cy]
def rZ (d:xK) (i:bq):Int:=if i.op=12 then q8.wrap (d.dX.bk i.b+q8.wrap i.cy) else q8.wrap (d.dX.bk i.a+q8.wrap i.cy)
theorem Ko (b:Nat) (d:xK) (w:ThW) (i:bq) (ha:i.op=12\/i.op=13) (h:cW i=0) (A:AW) (hg:A.bk b=qc (uX d w)):fD 128 [pv b,k8 i] A (qb qj (rZ d i)):=by
 refine aB.tF (V:=qb qj (rZ d i)) Yb (λhw=>?_) Ye;refine aK Tryz.func128 λ_=>?_;obtain⟨r1,r2,_⟩:=ox h;have bY:=hw.lt hg;have gZ:¬b=A.next:=Ya
 unfold k8 rZ;rcases ha with h2|h2
 . have hb:=r2 YN
   repeat' (first|(refine iT λR hR=>?_;simp [h2,AW.ab];try simp (disch:=omega) only [ay,aw,af,an])|(refine hR _ _ ?_;clear hR R)|(refine hK _ _ ?_;clear hK K)|refine nx ?_|refine wn λK hK=>?_|simp only [wS]|(refine bD (xl b d w i.b i.cy hb _ ((AW.gl _ _ gZ).trans hg)) ?_;rintro _ _ ⟨rfl,rfl⟩ _ _)|(show cM _ _ _ _ _ _;refine nx ?_)|(refine wc rfl (λhc=>?_) (λhc=>?_)<;>(try simp at hc)))
   exact⟨_,by (simp;rfl),by simp [h2],AW.le.alloc _ _⟩
 have hb:=r1 YN
 repeat' (first|(refine iT λR hR=>?_;simp [h2,AW.ab];try simp (disch:=omega) only [ay,aw,af,an])|(refine hR _ _ ?_;clear hR R)|(refine hK _ _ ?_;clear hK K)|refine nx ?_|refine wn λK hK=>?_|simp only [wS]|(refine bD (xl b d w i.a i.cy hb _ ((AW.gl _ _ gZ).trans hg)) ?_;rintro _ _ ⟨rfl,rfl⟩ _ _)|(show cM _ _ _ _ _ _;refine nx ?_)|(refine wc rfl (λhc=>?_) (λhc=>?_)<;>(try simp at hc)))
 exact⟨_,by (simp;rfl),by simp [h2],AW.le.alloc _ _⟩
end
section
abbrev Rt:List (Nat×Nat):=[(0,0),(1,0),(2,0),(3,0),(4,0),(5,0),(6,0),(7,0),(8,3)]
abbrev Rs:List (Nat×Nat):=[(0,0),(1,0),(2,0),(3,0),(4,0),(5,0),(6,0),(7,0),(8,0),(9,0),(10,0),(11,0),(12,0),(13,0),(14,2),(15,3),(16,0),(17,0),(18,0),(19,3)]
abbrev Rr:List (Nat×Nat):=[(0,0),(1,0),(2,0),(3,0),(4,0),(5,0),(6,0),(7,0),(8,0),(9,0),(10,3),(11,0),(12,0),(13,0),(14,3),(15,0),(16,0),(17,0),(18,3)]
abbrev zB:List (Nat×Nat):=[(0,0),(1,0),(2,0),(3,0),(4,0),(5,0),(6,0),(7,0),(8,0),(9,0),(10,2),(11,3)]
abbrev zz:List (Nat×Nat):=[(0,0),(1,0),(2,0),(3,0),(4,0),(5,0),(6,0),(7,0),(8,0),(9,0),(11,0),(12,0),(13,0),(14,0),(15,0),(16,0),(17,0),(18,0),(10,2),(19,3)]
abbrev zy:List (Nat×Nat):=[(0,0),(1,0),(2,0),(3,0),(4,0),(5,0),(6,0),(7,3)]
abbrev zu:List (Nat×Nat):=[(0,0),(1,0),(2,0),(3,0),(4,0),(5,0),(6,0),(7,0),(8,0),(9,0),(10,0),(11,0),(12,0),(13,3)]
abbrev Fd:List (Nat×Nat):=[(0,0),(1,0),(2,0),(3,0),(4,0),(5,0),(6,0),(7,2),(8,3)]
abbrev Fc:List (Nat×Nat):=[(0,0),(1,0),(2,0),(3,0),(4,0),(5,0),(6,0),(8,0),(9,0),(10,0),(11,0),(12,0),(13,0),(14,0),(15,0),(7,2),(16,3)]
open T7
variable [Gl]
theorem xG (n:Nat) (s:aI):∀A':AW,A'.Wf->aj A' [.h (bp n s)]->fD 90 [pv n] A' (qn s.kJ):=λA' h1 h2=>JX n s s.aH A' h1 (bp.toB h2 .z)
theorem Dd (n:Nat) (s:aI):∀A':AW,A'.Wf->aj A' [.h (bp n s)]->fD 167 [pv n] A' (qb qa s.aF):=λA' h1 h2=>O4 n s _ s.aH A' h1 (bp.toB h2 .z)
theorem xE (n:Nat) (s:aI):∀A':AW,A'.Wf->aj A' [.h (bp n s)]->fD 124 [pv n] A' (qb qa s.aD):=λA' h1 h2=>TM n s _ s.aH A' h1 (bp.toB h2 .z)
theorem FB (n:Nat) (s:aI):∀A':AW,A'.Wf->aj A' [.h (bp n s)]->fD 236 [pv n] A' (qb qj s.value):=λA' h1 h2=>OU n s _ s.aH A' h1 (bp.toB h2 .z)
theorem WZ (n:Nat) (s:aI):∀A':AW,A'.Wf->aj A' [.h (bp n s)]->fD 122 [pv n] A' (qn s.ao):=λA' h1 h2=>LI n s _ s.aH A' h1 (bp.toB h2 .z)
theorem MD (n:Nat) (s:aI):∀A':AW,A'.Wf->aj A' [.h (bp n s)]->fD 231 [pv n] A' (qb qa s.oX):=λA' h1 h2=>rX n s _ s.aH A' h1 (bp.toB h2 .z)
theorem newE (c:aY) (hc:da c) (t:Int):eI qV 184 [c.v,qb qa t] [] (λn v=>v=pv n) (λn=>[.h (bp n (fh c t))]):=
 λA F hw hS=>VE c hc t A F hw hS
theorem EE (b:Nat) (d:xK) (va vs vf vd vl vo:qd) (o:Option Addr) (n c:Nat) (i1 i2 i3 cy:Int) (v:Int) (io:List k9) (hi:cW ⟨12,i1,i2,i3,cy⟩=0) (lp:0<=d.pc/\d.pc<2^40) (hl:io.length<2^30) :
 eI qV 188 [pv b,k8 ⟨12,i1,i2,i3,cy⟩,qb qj v] [.at b (uX d ⟨va,vs,vf,vd,.slice o n c,vl,vo⟩),.h (jA vo io)] (λ_ _=>True)
  (λvo=>[.at b (uX { d with dX:=d.dX.set i1 v,pc:=d.pc+1,done:=decide (d.pc+1=n) } ⟨va,vs,vf,vd,.slice o n c,vl,vo⟩),.h (jA vo (io++[⟨d.pc,4,v⟩]))]):=by
 unfold k8;have ha:=(ox hi).1 rfl;dsimp only at ha;have Fg:=λx=>AP (d:=d) (w:=⟨va,vs,vf,vd,.slice o n c,vl,vo⟩) (x:=x) ha;intro A F hw hS;refine aK Tryz.func188 λ_=>?_;dsimp only [aa,ah] at hS;have hq:=gh hS hw;revert hq hS hw;refine Wu (J3 (Tg.mk (n:=36) (λx1=>ki b { d with dX:=d.dX.set i1 v } x1 io 4 v hl)) (Tg.mk (n:=37) (λx1 x2 x3 x4 x5 x6 x7 x8 x9=>mh b { d with dX:=d.dX.set i1 v } x1 x2 x3 x4 x5 x6 x7 x8 x9 lp)) (od Rt)) (J4 Fg ha.1 ha.2 bC) ?_<;>(unhygienic intros);refine⟨_,by rfl,?_⟩;apply Ay
 (·trivial)
 apply aj.bX
 (·exact sA)
 (·exact pA)
theorem ED (b:Nat) (d:xK) (va vs vf vd vl vo:qd) (o:Option Addr) (n c:Nat) (i1 i2 i3 cy:Int) (v:Int) (io:List k9) (hi:cW ⟨13,i1,i2,i3,cy⟩=0) (lp:0<=d.pc/\d.pc<2^40) (hl:io.length<2^30) :
 eI qV 188 [pv b,k8 ⟨13,i1,i2,i3,cy⟩,qb qj v] [.at b (uX d ⟨va,vs,vf,vd,.slice o n c,vl,vo⟩),.h (jA vo io)] (λ_ _=>True)
  (λvo=>[.at b (uX { d with pc:=d.pc+1,done:=decide (d.pc+1=n) } ⟨va,vs,vf,vd,.slice o n c,vl,vo⟩),.h (jA vo (io++[⟨d.pc,5,v⟩]))]):=by
 unfold k8;intro A F hw hS;refine aK Tryz.func188 λ_=>?_;dsimp only [aa,ah] at hS;have hq:=gh hS hw;revert hq hS hw;refine Wu (J3 (Tg.mk (n:=36) (λx1=>ki b d x1 io 5 v hl)) (Tg.mk (n:=37) (λx1 x2 x3 x4 x5 x6 x7 x8 x9=>mh b d x1 x2 x3 x4 x5 x6 x7 x8 x9 lp)) (od Rt)) (J1 bC) ?_<;>(unhygienic intros);refine⟨_,by rfl,?_⟩;apply Ay
 (·trivial)
 apply aj.bX
 (·exact sA)
 (·exact pA)
theorem N4 (b n:Nat) (d:xK) (vs vf vd vc vl vo:qd) (s:aI) (dM:List k9) (r kd:Int) (hr:0<=r/\r<8) (hl:dM.length<2^30) :
 eI qV 170 [pv b,qb qa r,qb qa kd] [.at b (uX d ⟨pv n,vs,vf,vd,vc,vl,vo⟩),.h (bp n s),.h (jA vs dM)] (λ_ _=>True)
  (λvs=>[.at b (uX { d with dX:=d.dX.set r s.value } ⟨pv n,vs,vf,vd,vc,vl,vo⟩),.h (bp n s),.h (jA vs (dM++[⟨d.pc,kd,s.value⟩]))]):=by
 have Fg:=λx=>AP (d:=d) (w:=⟨pv n,vs,vf,vd,vc,vl,vo⟩) (x:=x) hr;intro A F hw hS;refine aK Tryz.func170 λ_=>?_;dsimp only [aa,ah] at hS;have hq:=gh hS hw
 repeat' (first|(with_reducible apply JG;(·(simp;rfl));(·(simp;rfl));(·exact wA);(·exact sA);(·exact kA);(·(simp;(repeat' (first|rfl|refine⟨rfl,?_⟩));done));(·omega);(·intro _ _;trivial);rintro _ _ _ hS hw _;have hq:=gh hS hw)|(refine iT λR hR=>?_;simp [hq,Fg,hr.1,hr.2,AW.ab,aG];try simp (disch:=omega) only [ay])|(refine hR _ _ ?_;clear hR R)|(refine hK _ _ ?_;clear hK K)|refine nx ?_|refine wn λK hK=>?_|simp only [wS,Rs]|refine wl Ze Rs Yc λK hK=>?_|(apply fQ (FB n s);(·exact wA);(·exact sA);(·exact kA);)|(show cM _ _ _ _ _ _;refine nx ?_))
 refine⟨_,by rfl,?_⟩;apply Ay
 (·trivial)
 apply aj.bX
 (·exact sA)
 (·exact pA)
theorem aj.nilO {A:AW} {L:List It} (h:aj A L):aj A (.h (jA (.slice qh 0 0) [])::L):=dK.nil h
theorem D2 (b:Nat) (d:xK) (w:ThW) (hc:da d.cf) (hct:0<=d.kj/\d.kj<2^40):eI qV 130 [pv b] [.at b (uX d w)] (λ_ _=>True)
 (λn=>[.at b (uX { d with kj:=d.kj+1 } { w with va:=pv n,vs:=.slice qh 0 0 }),.h (bp n (gv (fh d.cf d.id)).2),.h (jA (.slice qh 0 0) [])]):=by
 have RG:qY.wrap (d.kj+1)=d.kj+1:=af Ya Ya;intro A F hw hS;refine aK Tryz.func130 λ_=>?_;dsimp only [aa,ah] at hS;have hq:=gh hS hw
 repeat' (first|(refine iT λR hR=>?_;simp [hq,RG,AW.ab,aG];try simp (disch:=omega) only [ay,aw,af,an])|(refine hR _ _ ?_;clear hR R)|(refine hK _ _ ?_;clear hK K)|refine nx ?_|refine wn λK hK=>?_|simp only [wS,Rr]|refine wl Ze Rr Yc λK hK=>?_|(apply eI.fM (newE d.cf hc d.id);(·exact wA);(·exact sA);(·exact pA);(rintro xw _ _ rfl hS hw _;have hS:=lA hS;(try (have hq:=gh hS hw))))|(apply bx.fM (QE _ (fh d.cf d.id));(·exact wA);(·exact sA);(·exact pA);rintro _ _ _ hS hw _;have hS:=lA hS;have hq:=gh hS hw)|(show cM _ _ _ _ _ _;refine nx ?_))
 refine⟨_,by rfl,?_⟩;apply Ay
 (·trivial)
 apply aj.bX;apply aj.nilO
 (·exact sA)
 (·exact pA)
def Dl (d:xK) (i:bq) (s:aI):aI:=
 if i.op=10 then (Jz s (q8.wrap (d.dX.bk i.b+q8.wrap i.cy))).2 else if i.op=11 then (H9 s (q8.wrap (d.dX.bk i.a+q8.wrap i.cy)) (d.dX.bk i.b)).2 else if i.op=14 then (OC s i.cy).2
 else if i.op=15 then (N8 s (d.dX.bk i.a)).2 else if i.op=8 then (E2 s 1).2 else if i.op=9 then (E2 s 2).2 else s
theorem UL (x:Int):0<=q8.wrap x:=(kN x).1
theorem addrE (b:Nat) (d:xK) (w:ThW) (r cy:Int) (h:0<=r/\r<8) {A:AW} {L K:List It} {k:qd->AW->Prop} (hw:A.Wf) (hS:aj A L) (hp:aE L (.at b (uX d w)) K)
 (hk:k (qb qj (q8.wrap (d.dX.bk r+q8.wrap cy))) A):aB qV 181 [pv b,qb qa r,qb qa cy] A k:=by
 have hg:A.bk b=qc (uX d w):=by
  unfold aj at hS;rw [hp.aO] at hS;exact bB.bk hS
 refine bD (xl b d w r cy h A hg) ?_;rintro _ _ ⟨rfl,rfl⟩ _ _;exact hk
theorem FI (b:Nat) (d:xK) (w:ThW) (i:bq) (ha:i.op=12\/i.op=13) (h:cW i=0) {A:AW} {L K:List It} {k:qd->AW->Prop} (hw:A.Wf) (hS:aj A L) (hp:aE L (.at b (uX d w)) K)
 (hk:k (qb qj (rZ d i)) A):aB qV 128 [pv b,k8 i] A k:=by
 have hg:A.bk b=qc (uX d w):=by
  unfold aj at hS;rw [hp.aO] at hS;exact bB.bk hS
 refine bD (Ko b d w i ha h A hg) ?_;rintro _ _ ⟨rfl,rfl⟩ _ _;exact hk
theorem KM (b n:Nat) (d:xK) (vs vf vd vc vl vo:qd) (i:bq) (s:aI) (hC:iu s) (nq:i.op=10\/i.op=11\/i.op=14\/i.op=15\/i.op=8\/i.op=9) (hi:cW i=0) :
 bx qV 131 [pv b,k8 i] [.at b (uX d ⟨pv n,vs,vf,vd,vc,vl,vo⟩),.h (bp n s)] (λ_=>True) (λ_=>[.at b (uX d ⟨pv n,vs,vf,vd,vc,vl,vo⟩),.h (bp n (Dl d i s))]):=by
 obtain⟨r1,r2,_⟩:=ox hi;unfold k8;rcases nq with h2|h2|h2|h2|h2|h2
 . have hb:=r2 YN;have e:Dl d i s=_:=ay h2;intro A F hw hS;refine aK ka4 λ_=>?_;dsimp only [aa,ah] at hS;have hq:=gh hS hw;revert hq hS hw;refine Wu (J6 (Tg.mk (n:=10) (λ{A L K k} x1=>addrE (A:=A) (L:=L) (K:=K) (k:=k) b d x1 i.b i.cy hb)) (Tg.mk (n:=37) (λx1=>Jy n s _ hC (UL x1))) (od zB) (od zz) (od zy) (od zu)) (J2 h2 bC) ?_<;>(unhygienic intros);rw [e];refine⟨_,by rfl,by trivial,?_⟩;apply aj.bX
   (·exact sA)
   (·exact pA)
 . have ha:=r1 YN;have hb:=r2 YN;have zY:=sR (d:=d) (w:=⟨pv n,vs,vf,vd,vc,vl,vo⟩) hb;have e:Dl d i s=(H9 s (q8.wrap (d.dX.bk i.a+q8.wrap i.cy)) (d.dX.bk i.b)).2:=(by unfold Dl;rw [aw Ya,ay h2]);intro A F hw hS;refine aK ka4 λ_=>?_;dsimp only [aa,ah] at hS;have hq:=gh hS hw;revert hq hS hw;refine W (J6 (Tg.mk (n:=10) (λ{A L K k} x1=>addrE (A:=A) (L:=L) (K:=K) (k:=k) b d x1 i.a i.cy ha)) (od zB) (od zz) (od zy) (od zu) (Fy n s)) (J5 h2 zY hb.1 hb.2 bC) ?_<;>(unhygienic intros);rw [e];refine⟨_,by rfl,by trivial,?_⟩;apply aj.bX
   (·exact sA)
   (·exact pA)
 . have e:Dl d i s=(OC s i.cy).2:=(by unfold Dl;rw [aw Ya,aw Ya,ay h2]);intro A F hw hS;refine aK ka4 λ_=>?_;dsimp only [aa,ah] at hS;have hq:=gh hS hw;revert hq hS hw;refine Wu (J5 (Tg.mk (n:=37) (λx1=>QV n s x1 hC)) (od zB) (od zz) (od zy) (od zu)) (J2 h2 bC) ?_<;>(unhygienic intros);rw [e];refine⟨_,by rfl,by trivial,?_⟩;apply aj.bX
   (·exact sA)
   (·exact pA)
 . have ha:=r1 YN;have zY:=sR (d:=d) (w:=⟨pv n,vs,vf,vd,vc,vl,vo⟩) ha;have e:Dl d i s=(N8 s (d.dX.bk i.a)).2:=(by unfold Dl;rw [aw Ya,aw Ya,aw Ya,ay h2]);intro A F hw hS;refine aK ka4 λ_=>?_;dsimp only [aa,ah] at hS;have hq:=gh hS hw;revert hq hS hw;refine Wu (J5 (Tg.mk (n:=37) (λx1=>TA n s x1 hC)) (od zB) (od zz) (od zy) (od zu)) (J5 h2 zY ha.1 ha.2 bC) ?_<;>(unhygienic intros);rw [e];refine⟨_,by rfl,by trivial,?_⟩;apply aj.bX
   (·exact sA)
   (·exact pA)
 . have e:Dl d i s=(E2 s 1).2:=(by unfold Dl;rw [aw Ya,aw Ya,aw Ya,aw Ya,ay h2]);intro A F hw hS;refine aK ka4 λ_=>?_;dsimp only [aa,ah] at hS;have hq:=gh hS hw;revert hq hS hw;refine W (J5 (od zB) (od zz) (od zy) (od zu) (yM n s 1)) (J2 h2 bC) ?_<;>(unhygienic intros);rw [e];refine⟨_,by rfl,by trivial,?_⟩;apply aj.bX
   (·exact sA)
   (·exact pA)
 have e:Dl d i s=(E2 s 2).2:=by unfold Dl;rw [aw Ya,aw Ya,aw Ya,aw Ya,aw Ya,ay h2]
 intro A F hw hS;refine aK ka4 λ_=>?_;dsimp only [aa,ah] at hS;have hq:=gh hS hw;revert hq hS hw;refine W (J5 (od zB) (od zz) (od zy) (od zu) (yM n s 2)) (J2 h2 bC) ?_<;>(unhygienic intros);rw [e];refine⟨_,by rfl,by trivial,?_⟩;apply aj.bX
 (·exact sA)
 (·exact pA)
def QO (d:xK) (i:bq) (s:aI):aI:=if 1<d.gf+1 then (E2 s 1).2 else if i.op=12 then (Jz s (rZ d i)).2 else (H9 s (rZ d i) (d.dX.bk i.b)).2
theorem UR (d:xK) (i:bq):0<=rZ d i:=by unfold rZ;split<;>exact UL _
theorem Sx (b n:Nat) (d:xK) (vs vf vd vc vl vo:qd) (i:bq) (s:aI) (hC:iu s) (nq:i.op=12\/i.op=13) (hi:cW i=0) (hak:0<=d.gf/\d.gf<2^40) :
 bx qV 92 [pv b,k8 i] [.at b (uX d ⟨pv n,vs,vf,vd,vc,vl,vo⟩),.h (bp n s)] (λ_=>True) (λ_=>[.at b (uX { d with gf:=d.gf+1 } ⟨pv n,vs,vf,vd,vc,vl,vo⟩),.h (bp n (QO d i s))]):=by
 have RG:qY.wrap (d.gf+1)=d.gf+1:=af Ya Ya;obtain⟨r1,r2,_⟩:=ox hi;obtain⟨op,i1,i2,i3,cy⟩:=i;dsimp only at nq r2;unfold k8;by_cases h1:1<d.gf+1
 . have e:QO d ⟨op,i1,i2,i3,cy⟩ s=_:=ay h1;intro A F hw hS;refine aK Tryz.func92 λ_=>?_;dsimp only [aa,ah] at hS;have hq:=gh hS hw;revert hq hS hw;refine W (J3 (od Fd) (od Fc) (yM n s 1)) (J3 RG h1 bC) ?_<;>(unhygienic intros);rw [e];refine⟨_,by rfl,by trivial,?_⟩;apply aj.bX
   (·exact sA)
   (·exact pA)
 rcases nq with h2|h2
 . subst h2;have e:QO d ⟨12,i1,i2,i3,cy⟩ s=(Jz s (rZ { d with gf:=d.gf+1 } ⟨12,i1,i2,i3,cy⟩)).2:=(by unfold QO;rw [aw h1,ay rfl];rfl);intro A F hw hS;refine aK Tryz.func92 λ_=>?_;dsimp only [aa,ah] at hS;have hq:=gh hS hw
   repeat' (first|(refine iT λR hR=>?_;simp [hq,RG,h1,AW.ab,aG];try simp (disch:=omega) only [ay,aw,af,an])|(refine hR _ _ ?_;clear hR R)|(refine hK _ _ ?_;clear hK K)|refine nx ?_|refine wn λK hK=>?_|simp only [wS,Fd]|refine wl Ze Fd Yc λK hK=>?_|(apply FI b { d with gf:=d.gf+1 } _ ⟨12,i1,i2,i3,cy⟩ (.inl rfl) hi;(·exact wA);(·exact sA);(·exact kA);)|(apply bx.fM (Jy n s _ hC (UR _ _));(·exact wA);(·exact sA);(·exact pA);rintro _ _ _ hS hw _;have hS:=lA hS;have hq:=gh hS hw)|(show cM _ _ _ _ _ _;refine nx ?_)|(refine wc rfl (λhc=>?_) (λhc=>?_)<;>(try simp at hc)))
   rw [e];refine⟨_,by rfl,by trivial,?_⟩;apply aj.bX
   (·exact sA)
   (·exact pA)
 subst h2;have hb:=r2 rfl;have zY:=sR (d:={ d with gf:=d.gf+1 }) (w:=⟨pv n,vs,vf,vd,vc,vl,vo⟩) hb;have e:QO d ⟨13,i1,i2,i3,cy⟩ s=(H9 s (rZ { d with gf:=d.gf+1 } ⟨13,i1,i2,i3,cy⟩) (d.dX.bk i2)).2:=by unfold QO;rw [aw h1,aw (show ¬(13:Int)=12 by decide)];rfl
 intro A F hw hS;refine aK Tryz.func92 λ_=>?_;dsimp only [aa,ah] at hS;have hq:=gh hS hw;revert hq hS hw;refine W (J4 (Tg.mk (n:=10) (λ{A L K k} x1=>FI (A:=A) (L:=L) (K:=K) (k:=k) b { d with gf:=d.gf+1 } x1 ⟨13,i1,i2,i3,cy⟩ (.inr rfl) hi)) (od Fd) (od Fc) (Fy n s)) (J6 RG h1 zY hb.1 hb.2 bC) ?_<;>(unhygienic intros);rw [e];refine⟨_,by rfl,by trivial,?_⟩;apply aj.bX
 (·exact sA)
 (·exact pA)
end
end Go.Stx
