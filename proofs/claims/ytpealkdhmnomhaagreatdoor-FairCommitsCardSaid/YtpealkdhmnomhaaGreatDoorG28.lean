/-
 The program's thread: a step of a whole thread; its observations, also compared.
-/
import Derived.Test.YtpealkdhmnomhaaGreatDoorG27
set_option linter.unusedVariables false
set_option linter.unusedSimpArgs false
set_option linter.unusedSectionVars false
set_option maxRecDepth 20000
set_option maxHeartbeats 4000000
open Go.Proofs.Tryz renaming mx->Ze,prog->qV
open Go.Value renaming oneCell'->Zz
open Int renaming toNat_natCast->ZQ
open List renaming drop_eq_getElem_cons->ZU,getElem?_eq_getElem->q9,getElem?_eq_some_iff->ZC,getElem?_map->ZX,length_append->Zc,length_map->Zs,set_getElem_self->kaZ
open Nat renaming le_refl->qZ,mul_one->ZN
open Prod renaming fst->Zq,snd->Z2
open Bool renaming false->qk,true->qg
open Go renaming Value->qd
open Go.Builtin renaming append->qK
open Go.Callee renaming builtin->qB
open Go.IntKind renaming i64->qa,u64->qj
open Go.Op renaming call->qT
open Go.Stx.eh renaming cells->qi
open Go.Value renaming bool->qn,int->qb,slice->qf,tuple->qA
open Option renaming none->qh,some->qc
open Or renaming inl->qq,inr->qt
namespace Go.Stx
open Go Go.Proofs
attribute [local irreducible] TW bI cM aV aB aL cU dh
section
open T7
variable [Gl]
variable [AF]
theorem thStepP {ez:Int->Int->Int->Int} (hA:xN ez) (hF:FOK) {c:aY} {nt k:Nat} (hc:da c) (hk:k+1<2^24) (b pb:Nat) (t:aU) (M:Mm) (hM:lK c nt k M) (h:mw c nt k t) (rj:DY t.aD) (hd:t.done=qk) :
 eI qV 55 [pv b,pv pb] [.h (u3 b t),ei pb M] (λev v=>v=qA #[eK (t.step ez M).2.1,ev,qn qg]) (λev=>[.h (u3 b (t.step ez M).2.2.2.1),ei pb (t.step ez M).2.2.2.2,.h (gA ev (t.step ez M).2.2.1)]):=by
 intro A F hw hS;have bY:=h.co.lt hd;have lp:=h.co.pc;obtain⟨q,hR,lO⟩:=u3.toQ hS .z Ya;refine bD (MJ hA hF hc hk q b pb t M hM h rj hR hd A F hw lO) ?_;rintro v A' ⟨ev,h1,h2⟩ _ _;exact⟨ev,h1,ik.toP h2 .z (by rw [Jo];exact hR)⟩
theorem St (b:Nat) (d:xK) (w:ThW) (l:List k9) (hl:l.length<2^30) {A:AW} {L K:List It} {k:qd->AW->Prop} (hw:A.Wf) (hS:aj A L) (hp:bf L [.at b (uX d w),.h (jA w.vo l)] K)
 (hk:∀o c A',aj A' (.h (jA (qf o l.length c) l)::L)->A'.Wf->A.le A'->k (qf o l.length c) A'):aB qV 59 [pv b] A k:=by
 have lO:aj A (.at b (uX d w)::.h (jA w.vo l)::K):=by
  unfold aj at hS ⊢;rw [hp.aO] at hS;refine bB.dD hS ?_;show (pt b (uX d w)*(jA w.vo l*fl))*aO K=pt b (uX d w)*(jA w.vo l*aO K);rw [dH]
  ac_rfl
 have hq:=lO.eX hw;dsimp only [aa,ah,aW,bz,cd,ff] at hq;have OO:fL A 3 w.vo l.length (wK l):=aj.lX lO (.s .z);refine aK Tryz.func59 λ_=>?_
 repeat' (first|(refine iT λR hR=>?_;simp [hq,AW.ab];try simp (disch:=omega) only [ay,aw,af,an])|(refine hR _ _ ?_;clear hR R)|(refine hK _ _ ?_;clear hK K)|refine nx ?_|refine wn λK hK=>?_|simp only [wS]|(show cM _ _ _ _ _ _;refine nx ?_)|(refine wc rfl (λhc=>?_) (λhc=>?_)<;>(try simp at hc)))
 refine bD (LM _ _ _ _ OO (Rn l) hl) ?_;rintro u A4 ⟨ho,fA,nz⟩ _ _;obtain⟨o,c,rfl,_⟩:=ho.is.bR
 skip
 revert hq hS hw;(repeat first|revert hc|revert R|revert K);refine W cx (J1 bC) ?_<;>(unhygienic intros);refine⟨_,by rfl,?_⟩;exact hk o c A4 (dK.jd hS hw fA ho) nz fA
end
section
variable [Gl]
structure rW where
 fN:List aU
 M:Mm
 bu:List dm
 tO:List HU
def rW.pick (ez:Int->Int->Int->Int) (m:rW) (id:Int):rW:=
 if 0<=id then
  match m.fN[id.toNat]? with
  | none=>m
  | some t=>
    let r:=t.step ez m.M
    if r.1=qg then ⟨m.fN.set id.toNat r.2.2.2.1,r.2.2.2.2,m.bu++[r.2.1],m.tO++r.2.2.1.map λe=>{ e with cr:=m.bu.length }⟩ else m
 else m
def rW.did (ez:Int->Int->Int->Int) (m:rW) (id:Int):Bool:=
 if 0<=id then
  match m.fN[id.toNat]? with
  | none=>qk
  | some t=>(t.step ez m.M).1
 else qk
def dm.cells (s:dm):List qd:=[qb qa s.am,qb qa s.fu,qb qa s.CO,qb qa s.lU.fx,qb qa s.lU.cell,qb qa s.lU.cg,qb qj s.lU.eY,qb qj s.lU.put,qn s.lU.done]
def Kr (l:List dm):List qd:=l.flatMap dm.cells
def nW (v:qd) (l:List dm):HP:=dK 9 v l.length (Kr l)
theorem UV (l:List dm) (o:dm):Kr l++o.cells=Kr (l++[o]):=by simp [Kr]
section
variable {P:Program} {S:AW->Prop} {K:Fr->AW->Prop} {fE:List BB} {a:Fr} {A:AW} {d:Option Tmp} {x y:Operand} {n:Nat} {v:qd} {L K':List It}
theorem lwStp {l:List dm} {s:dm} (e1:jt a x=v) (e2:jt a y=qf (qc ⟨n,0,qh⟩) 1 1) (hw:A.Wf) (hS:aj A L) (hp:aE L (.h (nW v l)) K') (hn:A.bk n=qc (qi [qb qa s.am,qb qa s.fu,qb qa s.CO,qb qa s.lU.fx,qb qa s.lU.cell,qb qa s.lU.cg,qb qj s.lU.eY,qb qj s.lU.put,qn s.lU.done] qg 9)) (bW:l.length<2 ^ 30)
 (hs:∀A',aj A' K'->S A')
 (hk:∀o c A',aj A' (.h (nW (qf o (l.length+1) c) (l++[s]))::K')->A'.Wf->A.next<=A'.next->aV qV S K fE (fk a d (qf o (l.length+1) c)) A') :
 aV qV S K (⟨d,qT ⟨qB qK,#[x,y],#[39,39]⟩,qh,3⟩::fE) a A:=by
 refine Co (P:=qV) (size:=9) (m:=l.length) (cs:=Kr l) Tryz.underlying39 Tryz.info56 Tryz.zero56 rfl rfl Ya Yf e1 e2 hw hS hp hn rfl rfl bW hs λo c A' h1 h2 h3=>hk o c A' ?_ h2 h3;have e:nW (qf o (l.length+1) c) (l++[s])=dK 9 (qf o (l.length+1) c) (l.length+1) (Kr l++s.cells):=by
  unfold nW;rw [<-UV,Zc];rfl
 rw [e];exact h1
theorem lwEvM {l:List HU} {e:HU} {r w:qd} {K1 K2 K3:List It} (e1:jt a x=v) (e2:jt a y=qf (qc ⟨n,0,qh⟩) 1 1) (hw:A.Wf) (hS:aj A L) (hp:aE L (.h (gA v l)) K1) (IS:aE K1 (.h (au qa r e.reads)) K2) (hp3:aE K2 (.h (au qa w e.bU)) K3)
 (hn:A.bk n=qc (qi (Bo e r w) qg 6)) (bW:l.length<2 ^ 30) (hs:∀A',aj A' K3->S A')
 (hk:∀o c A',aj A' (.h (gA (qf o (l.length+1) c) (l++[e]))::K3)->A'.Wf->A.next<=A'.next->aV qV S K fE (fk a d (qf o (l.length+1) c)) A') :
 aV qV S K (⟨d,qT ⟨qB qK,#[x,y],#[40,40]⟩,qh,3⟩::fE) a A:=by
 obtain⟨q,hq,h1⟩:=gA.open hS hp;have hl:q.length=l.length:=by rw [<-hq,Zs]
 dsimp only [Hh,aa,ah] at h1;have bX:∀o c A',aj A' (.h (dK 6 (qf o (l.length+1) c) (q.length+1) (hY q++Bo e r w))::.h (eU q)::K1)->aj A' (.h (gA (qf o (l.length+1) c) (l++[e]))::K3):=λo c A' h=>by
  have h2:aj A' (.h (dK 6 (qf o (l.length+1) c) (q++[(e,r,w)]).length (hY (q++[(e,r,w)])))::.h (eU (q++[(e,r,w)]))::K3):=by
   have e5:hY (q++[(e,r,w)])=hY q++Bo e r w:=(by simp [hY]);have e6:eU (q++[(e,r,w)])=eU q*(au qa r e.reads*au qa w e.bU):=by
    rw [Eo];show _*((au qa r e.reads*au qa w e.bU)*fl)=_;rw [dH]
   rw [e5,e6,Zc];refine bB.dD h ?_;show dK 6 _ _ _*(eU q*aO K1)=dK 6 _ _ _*((eU q*(au qa r e.reads*au qa w e.bU))*aO K3);rw [IS.aO,hp3.aO];show dK 6 (qf o (l.length+1) c) (q.length+1) _*(eU q*(au qa r e.reads*(au qa w e.bU*aO K3)))=_
   ac_rfl
  exact gA.dJ (q:=q++[(e,r,w)]) Xj h2 (.s .z (.s .z .z))
 rw [<-hl] at hk bX;have nU:(Bo e r w).all Zz=qg:=by
  have f1:=(aj.tC h1 (.s (.s IS))).bR;have h9:aj A (.h (au qa r e.reads)::.h (dK 6 v q.length (hY q))::.h (eU q)::K2):=by
   unfold aj at h1 ⊢;refine bB.dD h1 ?_;show dK 6 v _ _*(eU q*aO K1)=au qa r e.reads*(dK 6 v _ _*(eU q*aO K2));rw [IS.aO];show dK 6 v _ _*(eU q*(au qa r e.reads*aO K2))=_
   ac_rfl
  have f2:=(aj.tC h9 (.s (.s (.s hp3)))).bR;obtain⟨o1,c1,e1,_⟩:=f1;obtain⟨o2,c2,e2,_⟩:=f2;rw [e1,e2];rfl
 refine Co (P:=qV) (size:=6) (m:=q.length) (cs:=hY q) Tryz.underlying40 Tryz.info133 Tryz.zero133 rfl rfl Ya Yf e1 e2 hw h1 .z hn rfl nU Ya (λA' h=>hs A' ?_) λo c A' h1 h2 h3=>hk o c A' (bX o c A' h1) h2 h3;have h3:aj A' K1:=h.tail;have h4:bB A' (au qa r e.reads*(au qa w e.bU*aO K3)):=by
  unfold aj at h3;rw [IS.aO,hp3.aO] at h3;exact h3
 exact h4.right.right
theorem lwEvm {l:List HU} {e:HU} {r w:qd} {K3:List It} (e1:jt a x=v) (e2:jt a y=qf (qc ⟨n,0,qh⟩) 1 1) (hw:A.Wf) (hS:aj A L) (hp:bf L [.h (gA v l),.h (au qa r e.reads),.h (au qa w e.bU)] K3)
 (hn:A.bk n=qc (qi [qb qa e.cr,qb qa e.am,qb qa e.fx,qb qa e.word,r,w] qg 6)) (bW:l.length<2 ^ 30) (hs:∀A',aj A' K3->S A')
 (hk:∀o c A',aj A' (.h (gA (qf o (l.length+1) c) (l++[e]))::K3)->A'.Wf->A.next<=A'.next->aV qV S K fE (fk a d (qf o (l.length+1) c)) A') :
 aV qV S K (⟨d,qT ⟨qB qK,#[x,y],#[40,40]⟩,qh,3⟩::fE) a A:=by
 have h1:aj A (.h (gA v l)::.h (au qa r e.reads)::.h (au qa w e.bU)::K3):=by
  unfold aj at hS ⊢;rw [hp.aO] at hS;refine bB.dD hS ?_;show (gA v l*(au qa r e.reads*(au qa w e.bU*fl)))*aO K3=gA v l*(au qa r e.reads*(au qa w e.bU*aO K3));rw [dH]
  ac_rfl
 exact lwEvM e1 e2 hw h1 .z .z .z hn bW hs hk
end
def mv (q:List (Nat×aU)):HP:=q.foldr (λx P=>u3 x.1 x.2*P) fl
theorem HS (q r:List (Nat×aU)):mv (q++r)=mv q*mv r:=by
 induction q with
 | nil=>show mv r=fl*mv r;rw [jf]
 | cons y q ih=>
   show u3 y.1 y.2*mv (q++r)=(u3 y.1 y.2*mv q)*mv r;rw [ih]
   ac_rfl
theorem ThsH_at {q:List (Nat×aU)} {i:Nat} (hi:i<q.length):∃R:HP,mv q=u3 q[i].1 q[i].2*R/\∀t,mv (q.set i (q[i].1,t))=u3 q[i].1 t*R:=by
 refine⟨mv (q.take i)*mv (q.drop (i+1)),?_,λt=>?_⟩;have e:q=q.take i++(q[i]::q.drop (i+1)):=by rw [<-ZU hi,List.take_append_drop]
 have h:=congrArg mv e;rw [HS] at h;rw [h];show mv (q.take i)*(u3 q[i].1 q[i].2*mv (q.drop (i+1)))=_
 ac_rfl
 have e:q.set i (q[i].1,t)=q.take i++((q[i].1,t)::q.drop (i+1)):=by rw [List.set_eq_take_append_cons_drop,ay hi]
 rw [e,HS];show mv (q.take i)*(u3 q[i].1 t*mv (q.drop (i+1)))=_
 ac_rfl
structure McF where
 pb:Nat
 vt:Value
 vs:Value
 ve:Value
def VG (b:Nat) (m:rW) (f:McF) (q:List (Nat×aU)):List It:=[.at b (qi [pv f.pb,f.vt,f.vs,f.ve] qg 1),ei f.pb m.M,.h (lJ f.vt (q.map Zq)),.h (mv q),.h (nW f.vs m.bu),.h (gA f.ve m.tO)]
def H6 (b:Nat) (m:rW):HP:=td λx:McF×{ q:List (Nat×aU) // q.map Z2=m.fN }=>aO (VG b m x.1 x.2.1)
section
variable {A:AW} {L K:List It} {b:Nat} {m:rW}
theorem H6.open (h:aj A L) (hp:aE L (.h (H6 b m)) K):∃f q,q.map Z2=m.fN/\aj A (VG b m f q++K):=by
 obtain⟨⟨f,q,hq⟩,h⟩:=kT h hp;exact⟨f,q,hq,h⟩
theorem H6.dJ {f:McF} {q:List (Nat×aU)} (hq:q.map Z2=m.fN) (h:aj A L) (e:bf L (VG b m f q) K):aj A (.h (H6 b m)::K):=jp (g:=λx:McF×{ q:List (Nat×aU) // q.map Z2=m.fN }=>VG b m x.1 x.2.1) (f,⟨q,hq⟩) h e
theorem aj.thsAt {q:List (Nat×aU)} {i:Nat} (hi:i<q.length) (h:aj A L) (hp:aE L (.h (mv q)) K):∃R:HP,aj A (.h (u3 q[i].1 q[i].2)::.h R::K)/\∀(A':AW) (L' K' K2:List It) (t:aU),aj A' L'->aE L' (.h (u3 q[i].1 t)) K'->aE K' (.h R) K2->aj A' (.h (mv (q.set i (q[i].1,t)))::K2):=by
 obtain⟨R,h1,h2⟩:=ThsH_at hi;refine⟨R,?_,λA' L' K' K2 t hS e1 e2=>?_⟩;unfold aj at h ⊢;rw [hp.aO] at h;refine h.dD ?_;show mv q*aO K=u3 q[i].1 q[i].2*(R*aO K);rw [h1]
 ac_rfl
 unfold aj at hS ⊢;rw [e1.aO,e2.aO] at hS;refine hS.dD ?_;show u3 q[i].1 t*(R*aO K2)=mv (q.set i (q[i].1,t))*aO K2;rw [h2]
 ac_rfl
end
end
section
abbrev ny:List (Nat×Nat):=[(0,0),(1,0),(2,0),(3,0),(4,0),(5,0),(6,2),(7,3),(8,0),(9,0),(10,3)]
open T2
variable [Gl]
variable [AF]
theorem aj.ptrI {A:AW} {L K:List It} {v:qd} {ns:List Nat} (h:aj A L) (hp:aE L (.h (lJ v ns)) K) {i:Nat} (hi:i<ns.length) :
 ∃b off c bS,v=qf (qc ⟨b,off,qh⟩) ns.length c/\bS[off+i]? = qc (pv ns[i])/\off+ns.length<=bS.length/\aj A (.at b (qi bS qg 1)::K)/\
  ∀(A':AW) (L' K':List It),aj A' L'->aE L' (.at b (qi bS qg 1)) K'->aj A' (.h (lJ (qf (qc ⟨b,off,qh⟩) ns.length c) ns)::K'):=by
 unfold aj at h;rw [hp.aO] at h;rcases dK.cases h with ⟨_,h0,_⟩|⟨b,off,c,bS,rfl,h1,h2,h3,h4⟩;omega;rw [ZN] at h2 h3;refine⟨b,off,c,bS,rfl,?_,h2,h4,λA' L' K' hS e=>?_⟩;have e1:(ns.map pv)[i]? = ((bS.drop off).take ns.length)[i]?:=congrArg (·[i]?) h3;rw [List.getElem?_take_of_lt hi,List.getElem?_drop,ZX,q9 hi] at e1;exact e1.symm;unfold aj at hS;rw [e.aO] at hS;exact dK.mk h1 (by rw [ZN];exact h2) (by rw [ZN];exact h3) hS
theorem CX {t:aU} {s:aI} {M:Mm}:(t.xJ M s).2.1=[]\/∃e,(t.xJ M s).2.1=[e]:=by
 unfold aU.xJ;dsimp only;split;exact qt ⟨_,rfl⟩;split;exact qt ⟨_,rfl⟩;exact qq rfl
theorem MO {ez:Int->Int->Int->Int} {t:aU} {M:Mm}:(t.step ez M).2.2.1=[]\/∃e,(t.step ez M).2.2.1=[e]:=by
 have hp:∀i,(t.plain M i).2.1=[]\/∃e,(t.plain M i).2.1=[e]:=λi=>by
  unfold aU.plain;dsimp only;split;exact qq rfl;split;exact CX;split<;>exact qt ⟨_,rfl⟩
 have he:∀i,(t.me ez M i).2.1=[]\/∃e,(t.me ez M i).2.1=[e]:=λi=>by
  unfold aU.me;split;exact CX;split;split;exact CX;exact qq rfl;split;exact hp i;split<;>exact qq rfl
 unfold aU.step;split;exact qq rfl;show (t.m8 ez M).2.1=[]\/_;unfold aU.m8;split;exact qq rfl;split;split;exact CX;split;exact CX;exact he _;exact he _
structure EvP where
 bb:Nat
 off:Nat
 eV:Nat
 bS:List Value
 r:Value
 w:Value
theorem eI.ev1 {P:Program} {f:FuncId} {args:List qd} {sG:List It} {x y:qd} {a1 a2:It} {e:HU} (h:eI P f args sG (λev v=>v=qA #[x,ev,y]) (λev=>[a1,a2,.h (gA ev [e])])) :
 eI P f args sG (λ(z:EvP) v=>v=qA #[x,qf (qc ⟨z.bb,z.off,qh⟩) 1 z.eV,y]/\z.off+6<=z.bS.length/\(z.bS.drop z.off).take 6=Bo e z.r z.w) (λz=>[a1,a2,.at z.bb (qi z.bS qg 6),.h (au qa z.r e.reads),.h (au qa z.w e.bU)]):=λA F hw hS=>by
 refine bD (h A F hw hS) ?_;rintro v A' ⟨ev,rfl,h2⟩ _ _;obtain⟨q,hq,h3⟩:=gA.open h2 (.s (.s .z));obtain⟨⟨e',r,w⟩,q',rfl,rfl,wW⟩:=List.map_eq_cons_iff.1 hq;have RJ:q'=[]:=List.map_eq_nil_iff.1 wW;subst RJ;dsimp only [Hh,aa,ah] at h3;have e1:hY [(e',r,w)]=Bo e' r w:=by simp [hY]
 rw [e1] at h3;rcases dK.cases h3 with ⟨_,h0,_⟩|⟨b,off,c,bS,rfl,g1,g2,g3,g4⟩;cases h0;refine⟨⟨b,off,c,bS,r,w⟩,⟨rfl,g2,g3.symm⟩,?_⟩;have g5:bB A' (pt b (qi bS qg 6)*(((au qa r e'.reads*au qa w e'.bU)*fl)*(a1.hp*(a2.hp*(F*fl))))):=g4;refine bB.dD g5 ?_;show _=a1.hp*(a2.hp*(pt b (qi bS qg 6)*(au qa r e'.reads*(au qa w e'.bU*(F*fl)))));rw [dH]
 ac_rfl
theorem ST {ez:Int->Int->Int->Int} (hA:xN ez) (hF:FOK) {c:aY} {nt k:Nat} (hc:da c) (hk:k+1<2^24) (b:Nat) (m:rW) (hM:lK c nt k m.M) (hT:∀t∈m.fN,mw c nt k t/\DY t.aD) (hl:m.fN.length<=16) (OO:m.bu.length<2^29) (hel:m.tO.length<2^29) (id:Int) :
 bx qV 30 [pv b,qb qa id] [.h (H6 b m)] (λv=>v=qn (m.did ez id)) (λ_=>[.h (H6 b (m.pick ez id))]):=by
 intro A F hw dU;refine aK Tryz.func30 λ_=>?_;dsimp only [aa,ah] at dU;obtain⟨⟨pb,vt,vs,ve⟩,q,Fh,hS⟩:=H6.open dU .z;have hql:q.length=m.fN.length:=by rw [<-Fh,Zs]
 clear dU;dsimp only [VG,aa,ah] at hS;by_cases h0:id<0
 . unfold rW.did rW.pick;rw [aw Ya,aw Ya];have hq:=gI hS hw;revert hq hS hw;(repeat revert hc);refine Wu (J2 (od ny) (⟨⟩:Ts (λ_=>True) [0,0,0,0,0,0,0,0,0,0,0,3,0,0,0,0,2,3,0,0] (.aM 0 (.aM 1 (.aM 2 (.aM 3 (.aM 4 (.aM 5 (.aM 6 (.aM 7 (.aM 8 (.aM 9 (.aM 10 (.uW 11 (.aM 12 (.aM 13 (.aM 14 (.aM 15 (.aM 16 (.aM 17 (.aM 18 (.aM 19 .nil)))))))) 16 (.aM 11 (.aM 12 (.aM 13 (.aM 14 (.aM 15 (.aM 17 (.aM 18 (.aM 19 .nil)))))))))))))))))))))) (J2 h0 bC) ?_<;>(unhygienic intros);refine⟨_,by rfl,rfl,?_⟩;exact aj.bX (H6.dJ (f:=⟨pb,vt,vs,ve⟩) Fh hS Xm) (.s .z (.s .z .z))
 have mV:(q.map Zq).length=m.fN.length:=by rw [Zs,hql]
 by_cases h1:(m.fN.length:Int)<=id
 . unfold rW.did rW.pick;rw [ay Ya,ay Ya,List.getElem?_eq_none Ya];obtain⟨o,cc,rfl,_⟩:=fL.bR (aj.lX hS (.s (.s .z)));rw [mV] at hS;have hq:=gI hS hw;revert hq hS hw;(repeat revert hc);refine Wu (J2 (od ny) (⟨⟩:Ts (λ_=>True) [0,0,0,0,0,0,0,0,0,0,0,3,0,0,0,0,2,3,0,0] (.aM 0 (.aM 1 (.aM 2 (.aM 3 (.aM 4 (.aM 5 (.aM 6 (.aM 7 (.aM 8 (.aM 9 (.aM 10 (.uW 11 (.aM 12 (.aM 13 (.aM 14 (.aM 15 (.aM 16 (.aM 17 (.aM 18 (.aM 19 .nil)))))))) 16 (.aM 11 (.aM 12 (.aM 13 (.aM 14 (.aM 15 (.aM 17 (.aM 18 (.aM 19 .nil)))))))))))))))))))))) (J3 h0 h1 bC) ?_<;>(unhygienic intros);refine⟨_,by rfl,rfl,?_⟩;rw [<-mV] at hS;exact aj.bX (H6.dJ (f:=⟨pb,_,vs,ve⟩) Fh hS Xm) (.s .z (.s .z .z))
 have hi:id.toNat<q.length:=Ya
 obtain⟨i,Mt⟩:∃i:Nat,id=i:=⟨id.toNat,by omega⟩;subst Mt;simp only [ZQ] at hi;obtain⟨tb,off,cc,bS,rfl,bO,NO,js,lh⟩:=aj.ptrI hS (.s (.s .z)) (i:=i) Ya;obtain⟨R,lO,ri⟩:=aj.thsAt hi js (.s (.s (.s .z)));have ON:m.fN[i]? = qc q[i].2:=by rw [<-Fh,ZX,q9 hi];rfl
 rw [List.getElem_map] at bO;generalize hx:q[i]=x at *;obtain⟨bt,t⟩:=x;dsimp only at ON bO lO ri;obtain⟨mF,rj⟩:=hT t (List.mem_of_getElem? ON);have e0:m.did ez i=(t.step ez m.M).1:=by
  unfold rW.did;rw [ay Ya,ZQ,ON]
 clear hS js;have hS:=lO;clear lO;rw [e0];rw [mV] at lh hS;have hir:off+i<bS.length:=Ya
 obtain⟨hir2,uo⟩:=ZC.1 bO
 have bX:∀(t':aU) (M':Mm) (D0 ve':qd) (st':List dm) (ev':List HU) (A':AW) (L' K1 K2 K3 K4 K5 K6 K7 K8:List It),aj A' L'->aE L' (.h (u3 bt t')) K1->aE K1 (.h R) K2->aE K2 (.at tb (qi bS qg 1)) K3->
  aE K3 (.at b (qi [pv pb,qf (qc ⟨tb,off,qh⟩) m.fN.length cc,D0,ve'] qg 1)) K4->aE K4 (ei pb M') K5->aE K5 (.h (nW D0 st')) K6->aE K6 (.h (gA ve' ev')) K7->bf K7 [.h F] K8->
  aj A' [.h (H6 b ⟨m.fN.set i t',M',st',ev'⟩),.h F]:=λt' M' D0 ve' st' ev' A' L' K1 K2 K3 K4 K5 K6 K7 K8 h e1 e2 e3 e4 e5 e6 e7 e8=>by
  have g1:=ri A' L' K1 K2 t' h e1 e2;have g2:=lh A' _ _ g1 (.s e3);have hf:(q.set i (bt,t')).map Zq=q.map Zq:=by
   rw [List.map_set];have e:(bt,t').1=(q.map Zq)[i]'Ya:=by rw [List.getElem_map,hx]
   rw [e,kaZ]
  have hs:(q.set i (bt,t')).map Z2=m.fN.set i t':=by rw [List.map_set,Fh]
  refine aj.bX (H6.dJ (f:=⟨pb,qf (qc ⟨tb,off,qh⟩) m.fN.length cc,D0,ve'⟩) (q:=q.set i (bt,t')) (K:=K7) hs g2 ?_) (.s .z e8);unfold VG;dsimp only;rw [hf];exact .s (.s (.s e4)) (.s (.s (.s e5)) (.s .z (.s .z (.s e6 (.s e7 .z)))))
 by_cases hd:t.done=qg
 . have dw:(t.step ez m.M)=(qk,dm.zero,[],t,m.M):=(by unfold aU.step;rw [ay hd]);have e1:m.pick ez i=m:=by
    unfold rW.pick;rw [ay Ya,ZQ,ON];dsimp only;rw [dw];rfl
   rw [e1,dw];have hq:=gI hS hw;have mo:=ML bt t m.M pb hd;revert hq hS hw;(repeat first|revert hc|revert R);refine Wu (J3 (od ny) (⟨⟩:Ts (λ_=>True) [0,0,0,0,0,0,0,0,0,0,0,3,0,0,0,0,2,3,0,0] (.aM 0 (.aM 1 (.aM 2 (.aM 3 (.aM 4 (.aM 5 (.aM 6 (.aM 7 (.aM 8 (.aM 9 (.aM 10 (.uW 11 (.aM 12 (.aM 13 (.aM 14 (.aM 15 (.aM 16 (.aM 17 (.aM 18 (.aM 19 .nil)))))))) 16 (.aM 11 (.aM 12 (.aM 13 (.aM 14 (.aM 15 (.aM 17 (.aM 18 (.aM 19 .nil))))))))))))))))))))) @mo) (E5 h1 NO bO hir uo @eK.eq_1 @dm.zero.eq_1 @bh.v.eq_1 @bh.zero.eq_1 bC) (J2 ?_ ?_)<;>(unhygienic intros)
   all_goals
    refine⟨_,by rfl,by rfl,?_⟩;have e2:m=⟨m.fN.set i t,m.M,m.bu,m.tO⟩:=by
     have:m.fN.set i t=m.fN:=by
      obtain⟨g1,g2⟩:=ZC.1 ON;rw [<-g2,kaZ]
     rw [this]
    rw [e2];apply bX
    (·exact sA)
    all_goals(first|exact pZ|exact rh)
 have H2:t.done=qk:=by simpa using hd
 have BG:=thStepP hA hF hc hk bt pb t m.M hM mF rj H2;have Ln:(t.step ez m.M).1=qg:=by unfold aU.step;rw [aw hd]
 have e1:m.pick ez i=⟨m.fN.set i (t.step ez m.M).2.2.2.1,(t.step ez m.M).2.2.2.2,m.bu++[(t.step ez m.M).2.1],m.tO++(t.step ez m.M).2.2.1.map λe=>{ e with cr:=m.bu.length }⟩:=by
  unfold rW.pick;rw [ay Ya,ZQ,ON];dsimp only;rw [Ln];rfl
 have RP:=MO (ez:=ez) (t:=t) (M:=m.M);rw [e1];generalize t.step ez m.M=r at *;obtain⟨ok,st,tO,t',M'⟩:=r;dsimp only at Ln BG RP ⊢;subst Ln;have hq:=gI hS hw;rcases RP with rfl|⟨e,rfl⟩
 . have Mq:=eI.ev0 BG;revert hq hS hw;(repeat first|revert hc|revert R);refine Wu (J3 (Tg.mk (n:=32) @Mq) (od ny) (⟨⟩:Ts (λ_=>True) [0,0,0,0,0,0,0,0,0,0,0,3,0,0,0,0,2,3,0,0] (.aM 0 (.aM 1 (.aM 2 (.aM 3 (.aM 4 (.aM 5 (.aM 6 (.aM 7 (.aM 8 (.aM 9 (.aM 10 (.uW 11 (.aM 12 (.aM 13 (.aM 14 (.aM 15 (.aM 16 (.aM 17 (.aM 18 (.aM 19 .nil)))))))) 16 (.aM 11 (.aM 12 (.aM 13 (.aM 14 (.aM 15 (.aM 17 (.aM 18 (.aM 19 .nil)))))))))))))))))))))) (J7 h1 NO bO hir uo @eK.eq_1 bC) (J2 ?_ ?_)<;>(unhygienic intros)
   all_goals
    refine df (λk fr A'=>fr=_/\A'=_) 0 ⟨rfl,rfl⟩ ?_;rintro k _ _ ⟨rfl,rfl⟩;refine aT ?_
    repeat' (first|(with_reducible apply lwStp (s:=st);(·(simp;rfl));(·(simp;rfl));(·exact wA);(·exact sA);(·exact kA);(·(simp;(repeat' (first|rfl|refine⟨rfl,?_⟩));done));(·omega);(·intro _ _;trivial);rintro _ _ _ hS hw _;have hq:=gI hS hw)|(refine iT λR hR=>?_;simp [hq,AW.ab,aG];try simp (disch:=omega) only [ay,aw,af,an])|(refine hR _ _ ?_;clear hR R)|(refine hK _ _ ?_;clear hK K)|refine nx ?_|refine wn λK hK=>?_|simp only [wS,ny]|refine wl Ze ny Yc λK hK=>?_|(show cM _ _ _ _ _ _;refine nx ?_)|(refine wc rfl (λhc=>?_) (λhc=>?_)<;>(try simp at hc)))
    refine⟨_,by rfl,by rfl,?_⟩;rw [show m.tO++List.map (λe:HU=>({ cr:=m.bu.length,am:=e.am,fx:=e.fx,word:=e.word,reads:=e.reads,bU:=e.bU }:HU)) []=m.tO from List.append_nil _];apply bX
    (·exact sA)
    all_goals(first|exact pZ|exact rh)
 have NK:=eI.ev1 BG
 repeat' (first|(refine iT λR hR=>?_;simp [hq,h1,AW.ab];try simp (disch:=omega) only [ay,aw,af,an])|(refine hR _ _ ?_;clear hR R)|(refine hK _ _ ?_;clear hK K)|refine nx ?_|(refine Sp λR hR=>?_;simp [hq,hir,uo,eK,AW.ab,aG];try simp (disch:=omega) only [ay])|(refine OM (λR hR=>?_) (λR hR=>?_)<;>(simp [];try simp (disch:=omega) only [ay,aw,af,an]))|refine So ?_|refine wn λK hK=>?_|simp only [wS]|simp only [bI,u6,mJ,Option.map_none,List.getElem?_toArray,List.getElem?_cons_zero,List.getElem?_cons_succ,List.getD_cons_zero,List.getD_cons_succ]|refine wt (λ_=>True) Ze [0,0,0,0,0,0,0,0,0,0,0,3,0,0,0,0,2,3,0,0] (.aM 0 (.aM 1 (.aM 2 (.aM 3 (.aM 4 (.aM 5 (.aM 6 (.aM 7 (.aM 8 (.aM 9 (.aM 10 (.uW 11 (.aM 12 (.aM 13 (.aM 14 (.aM 15 (.aM 16 (.aM 17 (.aM 18 (.aM 19 .nil)))))))) 16 (.aM 11 (.aM 12 (.aM 13 (.aM 14 (.aM 15 (.aM 17 (.aM 18 (.aM 19 .nil)))))))))))))))))))) Yc λK hK=>?_|(apply eI.fM (NK);(·exact wA);(·exact sA);(·exact pA);(rintro xw _ _ ⟨rfl,hz1,rA⟩ hS hw _;have hS:=lA hS;(try (have hq:=gI hS hw))))|(show cM _ _ _ _ _ _;refine nx ?_)|(refine wc rfl (λhc=>?_) (λhc=>?_)<;>(try simp at hc)<;>(try omega)))
 all_goals
  obtain⟨zb,zo,zc,zrow,vr,vw⟩:=xw;dsimp only at hS hz1 rA
  refine df (λk fr A'=>A'.Wf/\fr 0=pv b/\fr 43=qf (qc ⟨zb,zo,qh⟩) 1 zc/\fr 44=qb qa 1/\∃sp,fr 5=pv sp/\
   ((k=1/\fr 45=qb qa 0/\aj A' [.h (u3 bt t'),ei pb M',.at zb (qi zrow qg 6),.h (au qa vr e.reads),.h (au qa vw e.bU),.h R,.at tb (qi bS qg 1),.at b (qi [pv pb,qf (qc ⟨tb,off,qh⟩) m.fN.length cc,vs,ve] qg 1),.h (nW vs m.bu),.h (gA ve m.tO),.at sp (qi [qb qa st.am,qb qa st.fu,qb qa st.CO,qb qa st.lU.fx,qb qa st.lU.cell,qb qa st.lU.cg,qb qj st.lU.eY,qb qj st.lU.put,qn st.lU.done] qg 1),.h F]) \/
    (k=0/\fr 45=qb qa 1/\∃ve',aj A' [.h (u3 bt t'),ei pb M',.h R,.at tb (qi bS qg 1),.at b (qi [pv pb,qf (qc ⟨tb,off,qh⟩) m.fN.length cc,vs,ve'] qg 1),.h (nW vs m.bu),.h (gA ve' (m.tO++[({ e with cr:=m.bu.length }:HU)])),.at sp (qi [qb qa st.am,qb qa st.fu,qb qa st.CO,qb qa st.lU.fx,qb qa st.lU.cell,qb qa st.lU.cg,qb qj st.lU.eY,qb qj st.lU.put,qn st.lU.done] qg 1),.h F]))) 1 ?_ ?_
  refine⟨?_,by simp,by simp,by simp,_,by simp;rfl,qq ⟨rfl,by simp,?_⟩⟩;exact wA;apply aj.bX
  (·exact sA)
  (·exact pZ)
  clear hS hw hq;rintro k fr A5 ⟨hw,f0,f43,R0,sp,f5,h⟩;rcases h with ⟨rfl,RZ,hS⟩|⟨rfl,RZ,ve',hS⟩
  . obtain⟨oz,cz,rfl,_⟩:=fL.bR (aj.lX hS (.s (.s (.s (.s (.s (.s (.s (.s .z)))))))));obtain⟨o1,c1,rfl,_⟩:=(aj.tC hS (.s (.s (.s .z)))).bR;obtain⟨o2,c2,rfl,_⟩:=(aj.tC hS (.s (.s (.s (.s .z))))).bR;obtain⟨ze,zi,zk,zw,zr,zv⟩:=e;unfold Bo at rA;dsimp only at rA;have hq:=gI hS hw;refine aT ?_
    repeat' (first|(with_reducible apply lwEvm (e:=⟨m.bu.length,zi,zk,zw,zr,zv⟩) (r:=qf o1 zr.length c1) (w:=qf o2 zv.length c2);(·(simp;rfl));(·(simp;rfl));(·exact wA);(·exact sA);(·exact pA);(·(simp;(repeat' (first|rfl|refine⟨rfl,?_⟩));done));(·omega);(·intro _ _;trivial);rintro _ _ _ hS hw _;have hq:=gI hS hw)|(refine iT λR hR=>?_;simp [af,hq,f0,f43,R0,RZ,hz1,rA,AW.ab,aG];try simp (disch:=omega) only [ay,aw,af,an])|(refine hR _ _ ?_;clear hR R)|(refine hK _ _ ?_;clear hK K)|refine nx ?_|refine wn λK hK=>?_|simp only [wS,ny]|refine wl Ze ny Yc λK hK=>?_|(show cM _ _ _ _ _ _;refine nx ?_)|(refine wc rfl (λhc=>?_) (λhc=>?_)<;>(try simp at hc)))
    refine⟨0,by omega,?_,by simp [f0],by simp [f43],by simp [R0],sp,by simp [f5],qt ⟨rfl,by simp,?_⟩⟩;exact wA;apply Exists.intro;apply aj.bX
    (·exact sA)
    (·exact pZ)
  have hq:=gI hS hw;refine aT ?_
  repeat' (first|(with_reducible apply lwStp (s:=st);(·(simp;rfl));(·(simp;rfl));(·exact wA);(·exact sA);(·exact kA);(·exact AW.bN _ _);(·omega);(·intro _ _;trivial);rintro _ _ _ hS hw _;have hq:=gI hS hw)|(refine iT λR hR=>?_;simp [hq,f0,R0,RZ,f5,AW.ab,aG];try simp (disch:=omega) only [ay,aw,af,an])|(refine hR _ _ ?_;clear hR R)|(refine hK _ _ ?_;clear hK K)|refine nx ?_|refine wn λK hK=>?_|simp only [wS,ny]|refine wl Ze ny Yc λK hK=>?_|(show cM _ _ _ _ _ _;refine nx ?_)|(refine wc rfl (λhc=>?_) (λhc=>?_)<;>(try simp at hc)))
  refine⟨_,by rfl,by rfl,?_⟩;apply bX
  (·exact sA)
  all_goals(first|exact pZ|exact rh)
end
section
open T7
variable [Gl]
theorem LL (v:qd) (n:Nat) (cs:List qd) (A:AW) (h:fL A 9 v n cs) (h1:cs.all Zz=qg) (hl:n<2^30) :
 aB qV 57 [v] A (λu A'=>dV A.next A' 9 u n cs/\A.le A'/\A'.Wf):=by
 refine aK Tryz.func57 λhw=>?_;have hv:(∃c,v=qf qh n c)\/∃q c,v=qf (qc q) n c:=by
  rcases h with ⟨⟨o,rfl⟩,rfl,rfl⟩|⟨p,c,bS,own,u,rfl,_⟩
  . cases o with
    | none=>exact qq ⟨_,rfl⟩
    | some q=>exact qt ⟨_,_,rfl⟩
  exact qt ⟨_,_,rfl⟩
 rcases hv with ⟨c,rfl⟩|⟨q,c,rfl⟩;obtain⟨rfl,rfl,rfl⟩:n=0/\c=0/\cs=[]:=by
  rcases h with ⟨⟨o,h0⟩,h2,h3⟩|⟨p,c',bS,own,u,h0,_⟩;injection h0 with h4 h5 h6;exact⟨h2,h6,h3⟩;cases h0
 revert hw;refine W cx cx ?_<;>(unhygienic intros);exact⟨_,rfl,qq ⟨rfl,rfl,rfl⟩,AW.le.refl A,hw⟩;have h2:=fL.le (AW.le.alloc A (qi [] qg 9)) hw h;have iz:dV A.next (A.alloc (qi [] qg 9)) 9 (qf (qc ⟨A.next,0,qh⟩) 0 0) 0 []:=qt ⟨⟨A.next,0,qh⟩,0,[],rfl,qZ _,rfl,qZ _,by simp,by simp,by simp⟩;obtain⟨v',A',e1,e2,e3,e4,e5,e6,e7⟩:=km (P:=qV) (size:=9) (t:=39) Tryz.underlying39 Tryz.info56 Tryz.zero56 rfl rfl Ya iz (fL.pd h2) h1 Ya Yg Yb (hw.alloc _);refine W cx (J1 e1) ?_<;>intros;refine⟨_,rfl,?_,?_,e4⟩
 simpa using e2
 exact e3 A (qZ _) (AW.le.alloc A _)
theorem stp_one (l:List dm):(Kr l).all Zz=qg:=by
 rw [List.all_eq_true];intro v hv;obtain⟨x,_,hx⟩:=List.mem_flatMap.1 hv;simp only [dm.cells,List.mem_cons,List.not_mem_nil,or_false] at hx;rcases hx with rfl|rfl|rfl|rfl|rfl|rfl|rfl|rfl|rfl<;>rfl
theorem Kq {A:AW} {L K:List It} {k:qd->AW->Prop} {v:qd} {l:List dm} (hl:l.length<2^30) (hw:A.Wf) (hS:aj A L) (hp:aE L (.h (nW v l)) K)
 (hk:∀o c A',aj A' (.h (nW (qf o l.length c) l)::L)->A'.Wf->A.le A'->k (qf o l.length c) A'):aB qV 57 [v] A k:=by
 refine bD (LL v _ _ A (aj.lX hS hp) (stp_one l) hl) ?_;rintro u A' ⟨h1,h2,h3⟩ _ _;obtain⟨o,c,rfl,_⟩:=h1.is.bR;exact hk o c A' (dK.jd hS hw h2 h1) h3 h2
theorem MK (b:Nat) (d:xK) (w:ThW) {A:AW} {L K:List It} {k:qd->AW->Prop} (hw:A.Wf) (hS:aj A L) (hp:aE L (.at b (uX d w)) K) (hk:∀(u:Nat) A',aj A' L->A'.Wf->A.le A'->k (stV d) A'):aB qV 58 [pv b] A k:=by
 have hg:A.bk b=qc (uX d w):=by
  unfold aj at hS;rw [hp.aO] at hS;exact bB.bk hS
 have hb:b<A.next:=hw.lt hg;have gZ:(b=A.next)=False:=by simp;omega
 refine aK Tryz.func58 λ_=>?_
 repeat' (first|(refine iT λR hR=>?_;simp [hg,gZ,AW.ab,aG];try simp (disch:=omega) only [ay,aw,af,an])|(refine hR _ _ ?_;clear hR R)|(refine hK _ _ ?_;clear hK K)|refine nx ?_|refine wn λK hK=>?_|simp only [wS]|(show cM _ _ _ _ _ _;refine nx ?_)|(refine wc rfl (λhc=>?_) (λhc=>?_)<;>(try simp at hc)))
 refine⟨stV d,by (simp [stV,R8.cells,AW.ab];done),?_⟩;refine hk 0 _ ?_ ?_ ?_;exact(bB.set (bB.alloc hS hw _) _).right;exact(hw.alloc _).set _ Yb;exact AW.le.lQ A _ _
def xK.stC (d:xK):List qd:=[qb qa d.pc,qb qj d.dX.r0,qb qj d.dX.r1,qb qj d.dX.r2,qb qj d.dX.r3,qb qj d.dX.r4,qb qj d.dX.r5,qb qj d.dX.r6,qb qj d.dX.r7,qb qa d.lW,qn d.done]
def OY (l:List xK):List qd:=l.flatMap xK.stC
def Ad (v:qd) (l:List xK):HP:=dK 11 v l.length (OY l)
def ic (q:List (qd×List k9)):HP:=q.foldr (λy P=>jA y.1 y.2*P) fl
theorem Ee (q r:List (qd×List k9)):ic (q++r)=ic q*ic r:=by
 induction q with
 | nil=>show ic r=fl*ic r;rw [jf]
 | cons y q ih=>
   show jA y.1 y.2*ic (q++r)=(jA y.1 y.2*ic q)*ic r;rw [ih]
   ac_rfl
def Pt (v:qd) (q:List (qd×List k9)):List It:=[.h (dK 1 v q.length (q.map Zq)),.h (ic q)]
def nX (v:qd) (l:List (List k9)):HP:=td λx:{ q:List (qd×List k9) // q.map Z2=l }=>aO (Pt v x.1)
section
variable {A:AW} {L K:List It} {v:qd}
theorem nX.open {l:List (List k9)} (h:aj A L) (hp:aE L (.h (nX v l)) K):∃q,q.map Z2=l/\aj A (Pt v q++K):=by
 obtain⟨⟨q,hq⟩,h⟩:=kT h hp;exact⟨q,hq,h⟩
theorem nX.dJ {l:List (List k9)} {q:List (qd×List k9)} (hq:q.map Z2=l) (h:aj A L) (e:bf L (Pt v q) K):aj A (.h (nX v l)::K):=jp (g:=λx:{ q:List (qd×List k9) // q.map Z2=l }=>Pt v x.1) ⟨q,hq⟩ h e
theorem aj.nilTst (h:aj A L):aj A (.h (Ad (qf qh 0 0) [])::L):=dK.nil h
theorem aj.nilObl (h:aj A L):aj A (.h (nX (qf qh 0 0) [])::L):=by
 have h1:aj A (.h fl::L):=aj.nF h;have h2:aj A (.h (dK 1 (qf qh 0 0) 0 [])::.h fl::L):=dK.nil h1;exact nX.dJ (q:=[]) rfl h2 (.s .z (.s .z .z))
end
section
variable {S:AW->Prop} {K:Fr->AW->Prop} {fE:List BB} {a:Fr} {A:AW} {d:Option Tmp} {x y:Operand} {n:Nat} {v:qd} {L K':List It}
theorem lwTst {l:List xK} {t:xK} (e1:jt a x=v) (e2:jt a y=qf (qc ⟨n,0,qh⟩) 1 1) (hw:A.Wf) (hS:aj A L) (hp:aE L (.h (Ad v l)) K') (hn:A.bk n=qc (qi [qb qa t.pc,qb qj t.dX.r0,qb qj t.dX.r1,qb qj t.dX.r2,qb qj t.dX.r3,qb qj t.dX.r4,qb qj t.dX.r5,qb qj t.dX.r6,qb qj t.dX.r7,qb qa t.lW,qn t.done] qg 11)) (bW:l.length<2 ^ 30)
 (hs:∀A',aj A' K'->S A')
 (hk:∀o c A',aj A' (.h (Ad (qf o (l.length+1) c) (l++[t]))::K')->A'.Wf->A.next<=A'.next->aV qV S K fE (fk a d (qf o (l.length+1) c)) A') :
 aV qV S K (⟨d,qT ⟨qB qK,#[x,y],#[38,38]⟩,qh,3⟩::fE) a A:=by
 refine Co (P:=qV) (size:=11) (m:=l.length) (cs:=OY l) Tryz.underlying38 Tryz.info79 Tryz.zero79 rfl rfl Ya Yf e1 e2 hw hS hp hn rfl rfl bW hs λo c A' h1 h2 h3=>hk o c A' ?_ h2 h3;have e:Ad (qf o (l.length+1) c) (l++[t])=dK 11 (qf o (l.length+1) c) (l.length+1) (OY l++t.stC):=by
  unfold Ad;rw [Zc,show OY (l++[t])=OY l++t.stC by simp [OY]];rfl
 rw [e];exact h1
theorem lwOblM {l:List (List k9)} {os:List k9} {u:qd} {K1 K2:List It} (e1:jt a x=v) (e2:jt a y=qf (qc ⟨n,0,qh⟩) 1 1) (hw:A.Wf) (hS:aj A L) (hp:aE L (.h (nX v l)) K1) (IS:aE K1 (.h (jA u os)) K2)
 (hn:A.bk n=qc (qi [u] qg 1)) (bW:l.length<2 ^ 30) (hs:∀A',aj A' K2->S A')
 (hk:∀o c A',aj A' (.h (nX (qf o (l.length+1) c) (l++[os]))::K2)->A'.Wf->A.next<=A'.next->aV qV S K fE (fk a d (qf o (l.length+1) c)) A') :
 aV qV S K (⟨d,qT ⟨qB qK,#[x,y],#[41,41]⟩,qh,3⟩::fE) a A:=by
 obtain⟨q,hq,h1⟩:=nX.open hS hp;have hl:q.length=l.length:=by rw [<-hq,Zs]
 dsimp only [Pt,aa,ah] at h1;have bX:∀o c A',aj A' (.h (dK 1 (qf o (l.length+1) c) (q.length+1) (q.map Zq++[u]))::.h (ic q)::K1)->aj A' (.h (nX (qf o (l.length+1) c) (l++[os]))::K2):=λo c A' h=>by
  have h2:aj A' (.h (dK 1 (qf o (l.length+1) c) (q++[(u,os)]).length ((q++[(u,os)]).map Zq))::.h (ic (q++[(u,os)]))::K2):=by
   have e6:ic (q++[(u,os)])=ic q*jA u os:=by
    rw [Ee];show _*(jA u os*fl)=_;rw [dH]
   rw [e6,Zc,List.map_append];refine bB.dD h ?_;show dK 1 _ _ _*(ic q*aO K1)=dK 1 _ _ _*((ic q*jA u os)*aO K2);rw [IS.aO];show dK 1 (qf o (l.length+1) c) (q.length+1) _*(ic q*(jA u os*aO K2))=_
   ac_rfl
  exact nX.dJ (q:=q++[(u,os)]) Xj h2 (.s .z (.s .z .z))
 rw [<-hl] at hk bX;have nU:([u]:List qd).all Zz=qg:=by
  obtain⟨o1,c1,e1,_⟩:=fL.bR (aj.lX h1 (.s (.s IS)));rw [e1];rfl
 refine Co (P:=qV) (size:=1) (m:=q.length) (cs:=q.map Zq) Tryz.underlying41 Tryz.info137 Tryz.zero137 rfl rfl Ya Yf e1 e2 hw h1 .z hn rfl nU Ya (λA' h=>hs A' ?_) λo c A' h1 h2 h3=>hk o c A' (bX o c A' h1) h2 h3;have h3:aj A' K1:=h.tail;unfold aj at h3;rw [IS.aO] at h3;exact bB.right h3
theorem lwObl {l:List (List k9)} {os:List k9} {u:qd} {K2:List It} (e1:jt a x=v) (e2:jt a y=qf (qc ⟨n,0,qh⟩) 1 1) (hw:A.Wf) (hS:aj A L) (hp:bf L [.h (nX v l),.h (jA u os)] K2)
 (hn:A.bk n=qc (qi [u] qg 1)) (bW:l.length<2 ^ 30) (hs:∀A',aj A' K2->S A')
 (hk:∀o c A',aj A' (.h (nX (qf o (l.length+1) c) (l++[os]))::K2)->A'.Wf->A.next<=A'.next->aV qV S K fE (fk a d (qf o (l.length+1) c)) A') :
 aV qV S K (⟨d,qT ⟨qB qK,#[x,y],#[41,41]⟩,qh,3⟩::fE) a A:=by
 have h1:aj A (.h (nX v l)::.h (jA u os)::K2):=by
  unfold aj at hS ⊢;rw [hp.aO] at hS;refine bB.dD hS ?_;show (nX v l*(jA u os*fl))*aO K2=nX v l*(jA u os*aO K2);rw [dH]
  ac_rfl
 exact lwOblM e1 e2 hw h1 .z .z hn bW hs hk
end
theorem Qr {q:List C4} {i:Nat} (hi:i<q.length):∃R:HP,eU q=DK q[i]*R:=by
 refine⟨eU (q.take i)*eU (q.drop (i+1)),?_⟩;have e:q=q.take i++(q[i]::q.drop (i+1)):=by rw [<-ZU hi,List.take_append_drop]
 have h:=congrArg eU e;rw [Eo] at h;rw [h];show eU (q.take i)*(DK q[i]*eU (q.drop (i+1)))=_
 ac_rfl
theorem LC {A:AW} {L K:List It} {q:List C4} {i:Nat} (hi:i<q.length) (hS:aj A L) (hp:aE L (.h (eU q)) K):bK A qa q[i].2.1 q[i].1.reads/\bK A qa q[i].2.2 q[i].1.bU:=by
 obtain⟨R,e⟩:=Qr hi;unfold aj at hS;rw [hp.aO] at hS;have h2:bB A (eU q*aO K):=hS;rw [e] at h2;unfold DK at h2;exact⟨wJ h2 (Q:=au qa q[i].2.2 q[i].1.bU*R*aO K) Yd,wJ h2 (Q:=au qa q[i].2.1 q[i].1.reads*R*aO K) Yd⟩
theorem evR_use {q:List C4} {i:Nat} {e:HU} {r w:qd} (hi:i<q.length) (hx:q[i]=(e,r,w)) (hl:e.reads.length<2^38) {A:AW} {L K:List It} {k:qd->AW->Prop} (hw:A.Wf) (hS:aj A L) (hp:aE L (.h (eU q)) K)
 (hk:∀o c A',aj A' (.h (au qa (qf o e.reads.length c) e.reads)::L)->A'.Wf->A.le A'->k (qf o e.reads.length c) A'):aB qV 60 [r] A k:=by
 have h:=(LC hi hS hp).1;rw [hx] at h;refine bD (kC r e.reads A h Ya) ?_;rintro u A' ⟨h1,h2⟩ jN _;obtain⟨o,c,rfl,_⟩:=h1.is.bR;exact hk o c A' (au.jd hS hw h2 h1) jN h2
theorem evW_use {q:List C4} {i:Nat} {e:HU} {r w:qd} (hi:i<q.length) (hx:q[i]=(e,r,w)) (hl:e.bU.length<2^38) {A:AW} {L K:List It} {k:qd->AW->Prop} (hw:A.Wf) (hS:aj A L) (hp:aE L (.h (eU q)) K)
 (hk:∀o c A',aj A' (.h (au qa (qf o e.bU.length c) e.bU)::L)->A'.Wf->A.le A'->k (qf o e.bU.length c) A'):aB qV 60 [w] A k:=by
 have h:=(LC hi hS hp).2;rw [hx] at h;refine bD (kC w e.bU A h Ya) ?_;rintro u A' ⟨h1,h2⟩ jN _;obtain⟨o,c,rfl,_⟩:=h1.is.bR;exact hk o c A' (au.jd hS hw h2 h1) jN h2
theorem Of (q:List C4) {i:Nat} (hi:i<q.length):((hY q).drop (i*6)).take 6=Bo q[i].1 q[i].2.1 q[i].2.2:=wC _ 6 (λ_=>rfl) q i hi
structure ResF where
 f:ImgF
 t:Option Addr×Nat
 s:Option Addr×Nat
 e:Option Addr×Nat
 o:Option Addr×Nat
def F4 (m:rW) (z:ResF):List qd:=[jC z.f.v0 (m.M 0),jC z.f.v1 (m.M 1),qb qj ((m.M 2).getD 0 0),qb qj ((m.M 3).getD 0 0),qb qj ((m.M 4).getD 0 0),jC z.f.v5 (m.M 5),jC z.f.v6 (m.M 6),jC z.f.v7 (m.M 7),qf z.t.1 m.fN.length z.t.2,qf z.s.1 m.bu.length z.s.2,qf z.e.1 m.tO.length z.e.2,qf z.o.1 m.fN.length z.o.2]
def SK (m:rW) (z:ResF):List It:=[.h (xr m.M z.f),.h (Ad (qf z.t.1 m.fN.length z.t.2) (m.fN.map aU.d)),.h (nW (qf z.s.1 m.bu.length z.s.2) m.bu),.h (gA (qf z.e.1 m.tO.length z.e.2) m.tO),.h (nX (qf z.o.1 m.fN.length z.o.2) (m.fN.map aU.io))]
end
end Go.Stx
