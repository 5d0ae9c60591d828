/-
 The program's machines that release and write: how they are made.
-/
import Derived.Test.YtipomeafemoelaaGreatDoorG03
set_option linter.unusedVariables false
set_option linter.unusedSimpArgs false
set_option linter.unusedSectionVars false
set_option maxRecDepth 20000
set_option maxHeartbeats 4000000
namespace Go.Stx
open Go Go.Proofs
attribute [local irreducible] TW bA cM aS ax aH cJ de
section
abbrev rN:List (Nat×Nat):=[(0,0),(1,0),(2,0),(4,0),(5,0),(6,0),(3,2),(7,2),(8,0),(9,2),(10,0)]
open T7
variable [Gl]
theorem Ew (vi vw:Value) (l ws:List Int) (A:AW) (F:HP) (h:bx A .i64 vi l) (h':bx A .u64 vw ws) (he:l.length=ws.length) (hl:l.length<2^38) (hw:A.Wf) (hS:bk A F) :
 ax Tryz.prog 199 [vi,vw] A (λv A'=>∃b,v=.pointer (some ⟨b,0,none⟩)/\bk A' (gY b ⟨l,ws⟩*F)/\A.le A'):=by
 refine aF Tryz.func199 λ_=>?_;obtain⟨o,c,rfl,hc⟩:=h.bE;obtain⟨o',c',rfl,Wq⟩:=h'.bE;rw [<-he] at h' Wq ⊢;rcases o with _|p<;>rcases o' with _|q
 all_goals
  all_goals(revert hS hw;(repeat first|revert hc|revert R|revert K);refine W (J1 (od rN)) (J1 @eu.eq_1) ?_<;>unhygienic intros)
  refine bD (jq _ l A h (by omega)) ?_;rintro u A1 ⟨h1,h2⟩ jg _;refine⟨h2,?_⟩;obtain⟨o1,c1,rfl,_⟩:=h1.is.bE
  all_goals(revert hS hw;(repeat first|clear hS|clear hw|revert hc|revert R|revert K);refine W (J1 (od rN)) (J1 @eu.eq_1) ?_<;>unhygienic intros)
  refine bD (iG _ ws A1 (bx.le h2 hw h') (by omega)) ?_;rintro u2 A2 ⟨h3,h4⟩ jR _;refine⟨h4,?_⟩;obtain⟨o2,c2,rfl,_⟩:=h3.is.bE
  all_goals(revert hS hw;(repeat first|clear hS|clear hw|revert hc|revert R|revert K);refine W (J1 (od rN)) (J1 @eu.eq_1) ?_<;>unhygienic intros)
  refine⟨_,by first|(simp;done)|(simp;rfl),A2.next,rfl,?_,(h2.trans h4).trans (AW.le.alloc _ _)⟩;have iz:=(ap.gA (ap.gA hS hw h2 h1) jg h4 h3).alloc jR (.cells [.slice o1 l.length c1,.slice o2 ws.length c2] true 1);refine gY.dA (vo:=.slice o1 l.length c1) (vw:=.slice o2 ws.length c2) ?_;exact iz.dK (by show _=pt A2.next (.cells [.slice o1 l.length c1,.slice o2 ws.length c2] true 1)*(ap .i64 (.slice o1 l.length c1) l*(ap .u64 (.slice o2 ws.length c2) ws*F));ac_rfl)
theorem IC (vi vw:Value) (l ws:List Int) (A:AW) (F:HP) (h:bx A .i64 vi l) (h':bx A .u64 vw ws) (he:l.length=ws.length) (hl:l.length<2^38) (hw:A.Wf) (hS:bk A F) :
 ax Tryz.prog 193 [vi,vw] A (λv A'=>∃b,v=.pointer (some ⟨b,0,none⟩)/\bk A' (gY b ⟨l,ws⟩*F)/\A.le A'):=by
 refine aF Tryz.func193 λ_=>?_;obtain⟨o,c,rfl,hc⟩:=h.bE;obtain⟨o',c',rfl,Wq⟩:=h'.bE;rw [<-he] at h' Wq ⊢;rcases o with _|p<;>rcases o' with _|q
 all_goals
  all_goals(revert hS hw;(repeat first|revert hc|revert R|revert K);refine W (J1 (od rN)) (J1 @eu.eq_1) ?_<;>unhygienic intros)
  refine bD (jq _ l A h (by omega)) ?_;rintro u A1 ⟨h1,h2⟩ jg _;refine⟨h2,?_⟩;obtain⟨o1,c1,rfl,_⟩:=h1.is.bE
  all_goals(revert hS hw;(repeat first|clear hS|clear hw|revert hc|revert R|revert K);refine W (J1 (od rN)) (J1 @eu.eq_1) ?_<;>unhygienic intros)
  refine bD (iG _ ws A1 (bx.le h2 hw h') (by omega)) ?_;rintro u2 A2 ⟨h3,h4⟩ jR _;refine⟨h4,?_⟩;obtain⟨o2,c2,rfl,_⟩:=h3.is.bE
  all_goals(revert hS hw;(repeat first|clear hS|clear hw|revert hc|revert R|revert K);refine W (J1 (od rN)) (J1 @eu.eq_1) ?_<;>unhygienic intros)
  refine⟨_,by first|(simp;done)|(simp;rfl),A2.next,rfl,?_,(h2.trans h4).trans (AW.le.alloc _ _)⟩;have iz:=(ap.gA (ap.gA hS hw h2 h1) jg h4 h3).alloc jR (.cells [.slice o1 l.length c1,.slice o2 ws.length c2] true 1);refine gY.dA (vo:=.slice o1 l.length c1) (vw:=.slice o2 ws.length c2) ?_;exact iz.dK (by show _=pt A2.next (.cells [.slice o1 l.length c1,.slice o2 ws.length c2] true 1)*(ap .i64 (.slice o1 l.length c1) l*(ap .u64 (.slice o2 ws.length c2) ws*F));ac_rfl)
end
section
open T7
variable [Gl]
theorem GG (t:Int) (vi:Value) (l:List Int) (A:AW) (F:HP) (h:bx A .i64 vi l) (hl:l.length<2^38) (hw:A.Wf) (hS:bk A F) :
 ax Tryz.prog 208 [.int .i64 t,vi] A (λv A'=>∃b,v=.pointer (some ⟨b,0,none⟩)/\bk A' (gQ b ⟨t,eI l,[],0,false⟩*F)):=by
 refine aF Tryz.func208 λ_=>?_;revert hS hw;refine W cd cd ?_<;>(unhygienic intros);refine bD (As vi l A h (by omega)) ?_;rintro u A1 ⟨h1,h2⟩ jg _;obtain⟨o,c,rfl,_⟩:=h1.is.bE;revert hS hw;(repeat first|clear hS|clear hw|revert hc|revert R|revert K);refine W cd cd ?_<;>(unhygienic intros);refine⟨_,by first|(simp;done)|(simp;rfl),A1.next,rfl,?_⟩;have iz:=(ap.gA hS hw h2 h1).alloc jg (.cells [.int .i64 t,.slice o (eI l).length c,.slice none 0 0,.int .u64 0,.bool false] true 1);refine gQ.dA (vo:=.slice o (eI l).length c) (vw:=.slice none 0 0) ?_;have h0:=ap.nil (k:=.u64) iz;exact h0.dK (by show _=pt A1.next (.cells [.int .i64 t,.slice o (eI l).length c,.slice none 0 0,.int .u64 0,.bool false] true 1)*(ap .i64 (.slice o (eI l).length c) (eI l)*(ap .u64 (.slice none 0 0) []*F));ac_rfl)
end
section
open T10
variable [Gl]
def Sq (s:iE):dH:=.cells [.int .i64 s.am,.int .i64 s.bR,.int .i64 s.El] true 1
def Vk (s:kK):dH:=.cells [.int .i64 s.gf,.bool s.done] true 1
def XW (s:qB):dH:=.cells [.int .i64 s.eH,.int .i64 s.bR,.int .u64 s.head,.int .u64 s.next,.int .i64 s.block] true 1
def Vm (s:fM):dH:=.cells [.int .i64 s.eH,.int .i64 s.block,.int .i64 s.bR,.int .u64 s.head] true 1
def ip.rat (s:ip):Int:=if s.bR=3/\s.gM=true then 4 else s.bR
def Vl (s:ip):dH:=.cells [.int .i64 s.dD,.int .i64 s.gE,.int .i64 s.rv,.int .i64 s.rat,.int .u64 s.eF,.int .u64 s.value] true 1
end
section
variable [Gl]
abbrev pv (n:Nat):Value:=.pointer (some ⟨n,0,none⟩)
abbrev aD (v:Value):dH:=.cells [v] true 1
structure qC where
 eb:Nat
 eG:Nat
 bH:Nat
 c8:Nat
 cU:Nat
 m:Nat
 c0:Nat
 c1:Nat
 c2:Nat
 df:Value
 bn:Value
 bU:Value
 bW:Value
 eh:Value
 dg:Value
 eV:Value
 bX:Value
 bV:Value
 bd:Value
 dh:Value
 dk:Value
 gt:Value
 ei:Value
def nH:Option iE->Nat->Value|none,_=>.pointer none|some _,n=>pv n
def jt:Option iH->Nat->Value|none,_=>.pointer none|some _,n=>pv n
def ik:Option kK->Nat->Value|none,_=>.pointer none|some _,n=>pv n
def pU:br->qC->Value | .bh _ _,f=>pv f.m|_,f=>f.eh
def lY:br->qC->Value | .bh r _,_=>.int .i64 r.bR|_,f=>f.dg
def qq:br->qC->Value | .bh r _,_=>.int .i64 r.dD|_,f=>f.ei
def wT:br->qC->Value | .fw _,f=>pv f.m|_,f=>f.eV
def mf:br->qC->Value | .d9 _,f=>pv f.m|_,f=>f.bX
def lV:br->qC->Value | .eS _,f=>pv f.m|_,f=>f.bV
def iL:br->qC->Value | .da _,f=>pv f.m|_,f=>f.bd
def pV:br->qC->Value | .fv _,f=>pv f.m|_,f=>f.dh
def pN:JM->qC->Value
 | .tk,f=>.func (.func 140) #[] #[pv f.c0]
 | .Rt,f=>.func (.func 220) #[] #[pv f.c0]
 | .bO _,f=>.func (.func 137) #[] #[pv f.c0,pv f.c1]
 | .take _,f=>.func (.func 143) #[] #[pv f.c0,pv f.c1]
 | .nq _ _,f=>.func (.func 146) #[] #[pv f.c0,pv f.c1,pv f.c2]
 | .Dc,f=>.func (.func 215) #[] #[pv f.c0]
 | .dq _ _,f=>.func (.func 221) #[] #[pv f.c0,pv f.c1,pv f.c2]
def pM:br->qC->Value
 | .je k,f=>pN k f
 | .fw _,f=>.func (.func 217) #[] #[pv f.c0,pv f.c1]
 | _,f=>f.dk
def wH:br->qC->Value
 | .bh _ .take,f=>.func (.func 141) #[] #[pv f.c0]
 | .bh _ (.dq _),f=>.func (.func 223) #[] #[pv f.c0,pv f.c1]
 | _,f=>f.gt
def tC (s:aM) (bR:Int) (d:br) (f:qC):dH:=.cells [pv f.eb,pv f.eG,f.df,f.bn,f.bU,
 nH s.bY f.bH,pU d f,lY d f,wT d f,jt s.aJ f.c8,ik s.aI f.cU,mf d f,lV d f,iL d f,pV d f,
 .int .i64 s.cf.ba,.int .i64 s.cf.ao,.int .i64 s.cf.base,.int .i64 s.cf.c0,.int .i64 s.cf.c1,.int .i64 s.cf.c2,.int .i64 s.cf.c3,.int .i64 s.cf.reads,.int .i64 s.cf.bK,.int .i64 s.cf.ak,.int .i64 s.cf.av,.int .i64 s.cf.aw,.bool s.cf.aT,
 .int .i64 s.am,.int .i64 s.aA,.int .i64 s.az,.int .i64 bR,pM d f,wH d f,qq d f,.int .u64 s.value,f.bW,.int .u64 s.aw,.bool s.aj,.int .i64 s.an] true 1
def JQ:Option iE->Nat->HP|none,_=>eC|some e,n=>pt n (gF e)
def ta:Option iH->Nat->HP|none,_=>eC|some l,n=>gQ n l
def uN:Option kK->Nat->HP|none,_=>eC|some t,n=>pt n (jx t)
def cF (b:Nat):JM->qC->List It
 | .tk,f | .Rt,f | .Dc,f=>[.at f.c0 (aD (pv b))]
 | .bO az,f=>[.at f.c0 (aD (pv b)),.at f.c1 (aD (.int .i64 az))]
 | .take v,f=>[.at f.c0 (aD (.func (.func 141) #[] #[pv f.c2])),.at f.c1 (aD (.int .u64 v)),.at f.c2 (aD (pv b))]
 | .nq a v,f=>[.at f.c0 (aD (pv b)),.at f.c1 (aD (.int .u64 a)),.at f.c2 (aD (.int .u64 v))]
 | .dq k v,f=>[.at f.c0 (aD (pv b)),.at f.c1 (aD (.int .i64 k)),.at f.c2 (aD (.int .u64 v))]
def ez (b:Nat):DR->qC->List It
 | .take,f=>[.at f.c0 (aD (pv b))]
 | .dq k,f=>[.at f.c0 (aD (pv b)),.at f.c1 (aD (.int .i64 k))]
def gZ (b:Nat):br->qC->List It
 | .je k,f=>cF b k f
 | .bh r u,f=>.at f.m (il r)::ez b u f
 | .fw p,f=>[.at f.m (nf p),.at f.c0 (aD (pv b)),.at f.c1 (aD (.int .i64 p.eH))]
 | .d9 c,f=>[.h (js f.m c)]
 | .eS w,f=>[.h (gY f.m w)]
 | .da w,f=>[.h (gY f.m w)]
 | .fv p,f=>[.at f.m (gK p)]
 | _,_=>[]
def b9 (b:Nat) (s:aM) (bR:Int) (d:br) (f:qC):List It:=[.at b (tC s bR d f),.h (JQ s.bY f.bH),.h (ta s.aJ f.c8),.h (uN s.aI f.cU),
 .h (vM f.eb s.cf.reads.toNat s.set),.h (pw f.eG s.bu),.h (ap .i64 f.df s.reads),.h (ap .i64 f.bn s.ak),.h (ap .i64 f.bU s.av),.h (ap .i64 f.bW s.ao)]
def iT (b:Nat) (s:aM) (bR:Int) (d:br):HP:=pG λf:qC=>aE (b9 b s bR d f)
def aX (b:Nat) (s:aM):HP:=pG λf:qC=>aE (b9 b s s.aG.gf s.aG f++gZ b s.aG f)
theorem ay.aI {n:Nat} {t:kK} {L:List It}:ay (.at n (jx t)::L) (.h (uN (some t) n)) L:=.e rfl
theorem ay.bY {n:Nat} {t:iE} {L:List It}:ay (.at n (gF t)::L) (.h (JQ (some t) n)) L:=.e rfl
theorem ay.PP {n:Nat} {t:iH} {L:List It}:ay (.h (gQ n t)::L) (.h (ta (some t) n)) L:=.e rfl
section
variable {A:AW} {L K:List It} {b:Nat} {s:aM} {bR:Int} {d:br}
theorem iT.open (h:ah A L) (hp:ay L (.h (iT b s bR d)) K):∃f,ah A (b9 b s bR d f++K):=i9 h hp
theorem aX.open (h:ah A L) (hp:ay L (.h (aX b s)) K):∃f,ah A (b9 b s s.aG.gf s.aG f++gZ b s.aG f++K):=i9 h hp
theorem iT.dA {eb eG bH c8 cU m c0 c1 c2:Nat} {df bn bU bW eh dg eV bX bV bd dh dk gt ei:Value} (h:ah A L)
 (e:aP L (b9 b s bR d ⟨eb,eG,bH,c8,cU,m,c0,c1,c2,df,bn,bU,bW,eh,dg,eV,bX,bV,bd,dh,dk,gt,ei⟩) K):ah A (.h (iT b s bR d)::K):=gN ⟨eb,eG,bH,c8,cU,m,c0,c1,c2,df,bn,bU,bW,eh,dg,eV,bX,bV,bd,dh,dk,gt,ei⟩ h e
theorem aX.dA {eb eG bH c8 cU m c0 c1 c2:Nat} {df bn bU bW eh dg eV bX bV bd dh dk gt ei:Value} (h:ah A L)
 (e:aP L (b9 b s s.aG.gf s.aG ⟨eb,eG,bH,c8,cU,m,c0,c1,c2,df,bn,bU,bW,eh,dg,eV,bX,bV,bd,dh,dk,gt,ei⟩++gZ b s.aG ⟨eb,eG,bH,c8,cU,m,c0,c1,c2,df,bn,bU,bW,eh,dg,eV,bX,bV,bd,dh,dk,gt,ei⟩) K):ah A (.h (aX b s)::K):=gN ⟨eb,eG,bH,c8,cU,m,c0,c1,c2,df,bn,bU,bW,eh,dg,eV,bX,bV,bd,dh,dk,gt,ei⟩ h e
theorem aX.bO {eb eG bH c8 cU m c0 c1 c2:Nat} {df bn bU bW eh dg eV bX bV bd dh dk gt ei:Value} {G K2:List It} (h:ah A L)
 (e:aP L (b9 b s s.aG.gf s.aG ⟨eb,eG,bH,c8,cU,m,c0,c1,c2,df,bn,bU,bW,eh,dg,eV,bX,bV,bd,dh,dk,gt,ei⟩++gZ b s.aG ⟨eb,eG,bH,c8,cU,m,c0,c1,c2,df,bn,bU,bW,eh,dg,eV,bX,bV,bd,dh,dk,gt,ei⟩) K) (e2:aP K G K2):ah A (.h (aX b s)::G):=
 ah.bO (aX.dA h e) (.s .z e2)
theorem iT.view {eb eG bH c8 cU m c0 c1 c2:Nat} {df bn bU bW eh dg eV bX bV bd dh dk gt ei:Value} (h:ah A L)
 (e:aP L (b9 b s bR d ⟨eb,eG,bH,c8,cU,m,c0,c1,c2,df,bn,bU,bW,eh,dg,eV,bX,bV,bd,dh,dk,gt,ei⟩) K):ah A [.h (iT b s bR d)]:=ah.bO (iT.dA h e) (.s .z .z)
theorem aX.RS (h:ah A L) (hp:ay L (.h (aX b s)) K):ah A (.h (iT b s s.aG.gf s.aG)::K):=by
 obtain⟨f,h⟩:=aX.open h hp;have h1:ah A (b9 b s s.aG.gf s.aG f++(gZ b s.aG f++K)):=by rw [<-List.append_assoc];exact h
 have h2:ah A (.h (iT b s s.aG.gf s.aG)::(gZ b s.aG f++K)):=gN (g:=b9 b s s.aG.gf s.aG) f h1 (by
  repeat' (first|apply aP.z|apply aP.s|apply ay.z))
 unfold ah at h2 ⊢;have h3:bk A (iT b s s.aG.gf s.aG*aE (gZ b s.aG f++K)):=h2;rw [fF] at h3;have h4:bk A (aE (gZ b s.aG f)*(iT b s s.aG.gf s.aG*aE K)):=h3.dK (by ac_rfl);exact bk.right h4
theorem bf.jT {P:Program} {f:FuncId} {args:List Value} {pC:List It} {φ:Value->Prop} {post:Value->List It} (hc:bf P f args (.h (iT b s bR d)::pC) φ post) {eb eG bH c8 cU m c0 c1 c2:Nat} {df bn bU bW eh dg eV bX bV bd dh dk gt ei:Value} {K0:List It} {k:Value->AW->Prop} (hw:A.Wf) (hS:ah A L)
 (e:aP L (b9 b s bR d ⟨eb,eG,bH,c8,cU,m,c0,c1,c2,df,bn,bU,bW,eh,dg,eV,bX,bV,bd,dh,dk,gt,ei⟩) K0) (e2:aP K0 pC K) (hk:∀v A',φ v->ah A' (post v++K)->A'.Wf->A.next<=A'.next->k v A'):ax P f args A k:=
 bf.eZ hc hw (iT.dA hS e) (.s .z e2) hk
theorem bf.Pe {P:Program} {f:FuncId} {args:List Value} {pC:List It} {φ:Value->Prop} {post:Value->List It} (hc:bf P f args (.h (aX b s)::pC) φ post) {eb eG bH c8 cU m c0 c1 c2:Nat} {df bn bU bW eh dg eV bX bV bd dh dk gt ei:Value} {K0:List It} {k:Value->AW->Prop} (hw:A.Wf) (hS:ah A L)
 (e:aP L (b9 b s s.aG.gf s.aG ⟨eb,eG,bH,c8,cU,m,c0,c1,c2,df,bn,bU,bW,eh,dg,eV,bX,bV,bd,dh,dk,gt,ei⟩++gZ b s.aG ⟨eb,eG,bH,c8,cU,m,c0,c1,c2,df,bn,bU,bW,eh,dg,eV,bX,bV,bd,dh,dk,gt,ei⟩) K0) (e2:aP K0 pC K) (hk:∀v A',φ v->ah A' (post v++K)->A'.Wf->A.next<=A'.next->k v A'):ax P f args A k:=
 bf.eZ hc hw (aX.dA hS e) (.s .z e2) hk
theorem JQ.op {n:Nat} {e:iE} (h:ah A L) (hp:ay L (.h (JQ (some e) n)) K):ah A (.at n (gF e)::K):=by
 unfold ah at h ⊢;rw [hp.aE] at h;exact h
theorem uN.op {n:Nat} {e:kK} (h:ah A L) (hp:ay L (.h (uN (some e) n)) K):ah A (.at n (jx e)::K):=by
 unfold ah at h ⊢;rw [hp.aE] at h;exact h
theorem ta.op {n:Nat} {e:iH} (h:ah A L) (hp:ay L (.h (ta (some e) n)) K):ah A (.h (gQ n e)::K):=by
 unfold ah at h ⊢;rw [hp.aE] at h;exact h
theorem AN {f:FuncId} {args:List Value} {V:Value} {b:Nat} {s:aM} {bR:Int} {d:br} (hC:∀A':AW,A'.Wf->ah A' [.h (iT b s bR d)]->eQ f args A' V)
 {A:AW} {L K0:List It} {eb eG bH c8 cU m c0 c1 c2:Nat} {df bn bU bW eh dg eV bX bV bd dh dk gt ei:Value} {k:Value->AW->Prop} (hw:A.Wf) (hS:ah A L) (e:aP L (b9 b s bR d ⟨eb,eG,bH,c8,cU,m,c0,c1,c2,df,bn,bU,bW,eh,dg,eV,bX,bV,bd,dh,dk,gt,ei⟩) K0) (hk:k V A):ax Tryz.prog f args A k:=by
 refine bD (hC A hw (iT.view hS e)) ?_;rintro _ _ ⟨rfl,rfl⟩ _ _;exact hk
end
theorem pP {L G K:List It} (h':aP L G K:=by first|((repeat' (first|apply aP.z|apply aP.s|apply ay.z|apply ay.aI|apply ay.bY|apply ay.PP|apply ay.s));done)|fail):aP L G K:=h'
theorem kP {L K:List It} {x:It} (h':ay L x K:=by first|((repeat' (first|apply aP.z|apply aP.s|apply ay.z|apply ay.aI|apply ay.bY|apply ay.PP|apply ay.s));done)|fail):ay L x K:=h'
theorem fP {L G K:List It} (h':aP L G K:=by first|((dsimp only [b9,tC,pU,lY,qq,wT,mf,lV,iL,pV,pM,wH,pN,nH,jt,ik,gZ,cF,ez,br.gf,aa,ag]);(try simp only [h]);(repeat' (first|apply aP.z|apply aP.s|apply ay.z|apply ay.aI|apply ay.bY|apply ay.PP|apply ay.s));done)|fail):aP L G K:=h'
end
section
abbrev GD:List (Nat×Nat):=[(0,0),(1,0),(2,0),(3,0),(4,0),(5,0),(6,0),(7,0),(8,0),(9,0),(10,0),(11,0),(12,0),(13,0),(14,0),(15,0),(16,0),(17,0)]
abbrev GC:List (Nat×Nat):=[(0,0),(1,0),(2,0),(3,0),(4,0),(5,0),(6,0),(7,0),(8,0),(9,0),(10,0),(11,0)]
open T12 T13
variable [Gl]
theorem GW (s:aM):(s.az=1/\iQ s={ s with aG:=.jf })\/((¬s.az=1/\(s.an:Int)=s.ak.length)/\iQ s={ s with aG:=.jf }) \/
 ((¬s.az=1/\¬(s.an:Int)=s.ak.length)/\iQ s={ s with aG:=.fv ⟨dL s.cf (s.ak.getD s.an 0),s.ak.getD s.an 0,0,0⟩ }):=by
 unfold iQ;by_cases h1:s.az=1;simp [h1];by_cases h2:s.an=s.ak.length;simp [h1,h2];have h3:¬(s.an:Int)=s.ak.length:=by omega
 simp [h1,h2,h3]
theorem uv (b:Nat) (s:aM) (bR:Int) (d:br) (hc:db s.cf) (qz:∀x∈s.ak,x<2^62) (hp:s.an<=s.ak.length) (hl:s.ak.length<2^38) :
 bf Tryz.prog 127 [pv b] [.h (iT b s bR d)] (λ_=>True) (λ_=>[.h (aX b (iQ s))]):=by
 intro A F hw hS;refine aF Tryz.func127 λ_=>?_;obtain⟨x0,hS⟩:=iT.open hS .z;(unhygienic cases x0);dsimp only [b9,aa,ag] at hS;have hq:=MI hS hw;have hI:=ah.qT hS (.s (.s (.s (.s (.s (.s (.s .z)))))));obtain⟨oa,ca,rfl,_⟩:=hI.bE;rcases GW s with ⟨h,e⟩|⟨h,e⟩|⟨h,e⟩
 . revert hq hS hw;(try revert hc);clear hS;refine Wp (J2 (od GD) (od GC)) (J2 h bz) ?_<;>(unhygienic intros);refine⟨_,by first|rfl|(simp;rfl),trivial,?_⟩;rw [e];apply aX.bO
   (·exact sA)
   exact fP
   (·first|exact pP|exact kP)
   all_goals(first|exact 0|exact undef)
 . revert hq hS hw;(repeat first|clear hq|clear hS|clear hw|revert hc|revert R|revert K);refine Wp (J2 (od GD) (od GC)) (J2 h bz) ?_<;>(unhygienic intros);refine⟨_,by first|rfl|(simp;rfl),trivial,?_⟩;rw [e];apply aX.bO
   (·exact sA)
   exact fP
   (·first|exact pP|exact kP)
   all_goals(first|exact 0|exact undef)
 have bL:s.an<s.ak.length:=by omega
 have gW:(s.an:Int)<s.ak.length:=by omega
 obtain⟨p,bP,rfl,bI,hcell⟩:=hI.at bL;have hgd:s.ak[s.an]=s.ak.getD s.an 0:=by rw [List.getD_eq_getElem?_getD,List.getElem?_eq_getElem bL];rfl
 have hx:s.ak.getD s.an 0<2^62:=by rw [<-hgd];exact qz _ (List.getElem_mem bL)
 rw [hgd] at hcell;generalize s.ak.getD s.an 0=x at *;have kv:=sV s.cf hc x hx;dsimp only [bq.v] at kv;revert hq hS hw;(repeat first|clear hq|clear hS|clear hw|revert hc|revert R|revert K);refine Wp (J4 (od GD) (od GC) @kv @yc) (J6 h bI hcell bL gW bz) ?_<;>(unhygienic intros);refine⟨_,by first|rfl|(simp;rfl),trivial,?_⟩;rw [e];apply aX.bO
 (·exact sA)
 exact fP
 (·first|exact pP|exact kP)
 all_goals(first|exact 0|exact undef)
theorem iY (b:Nat) (s:aM) (bR az:Int) (d:br) (hc:db s.cf) (qz:∀x∈s.ak,x<2^62) (hp:s.an<=s.ak.length) (hl:s.ak.length<2^38) :
 bf Tryz.prog 172 [pv b,.int .i64 az] [.h (iT b s bR d)] (λ_=>True) (λ_=>[.h (aX b (kz s az))]):=by
 intro A F hw hS;refine aF Tryz.func172 λ_=>?_;obtain⟨x0,hS⟩:=iT.open hS .z;(unhygienic cases x0);dsimp only [b9,aa,ag] at hS;have hq:=MI hS hw
 repeat' (first|(refine jX λR hR=>?_;simp [ai,ar,hq,AW.af,aB];try simp (disch:=omega) only [if_pos,if_neg,ai,ar])|(refine hR _ _ ?_;clear hR R)|(refine hK _ _ ?_;clear hK K)|refine nx ?_|refine wn λK hK=>?_|simp only [wS]|(apply bf.jT (uv b { s with az:=az } bR d hc qz hp hl);(·exact wA);(·exact sA);(·exact fP);(·first|exact pP|exact kP);(rintro _ _ _ hS hw _;have hS:=lA hS);(try (have hq:=FC hS hw));all_goals(try (first|exact 0|exact undef)))|(show cM _ _ _ _ _ _;refine nx ?_)|(refine wc rfl (λhc=>?_) (λhc=>?_)<;>(try simp at hc)<;>(try omega)<;>(try (simp [h2] at hc;done))<;>(try (simp [h3] at hc;done))<;>(try (simp [h4] at hc;done)))|(refine ib (λhc=>?_) (λhc=>?_)<;>(try omega)<;>(try simp (disch:=omega) only [if_pos,if_neg])))
 exact⟨_,by first|rfl|(simp;rfl),trivial,ah.bO hS (.s .z (.s .z .z))⟩
end
section
open T12 T13
variable [Gl]
theorem FN (b:Nat) (s:aM) (d:br) (A:AW) (hw:A.Wf) (hS:ah A [.h (iT b s s.aG.gf d)]):eQ 64 [pv b] A (.bool s.kN):=by
 refine aF Tryz.func64 λ_=>?_;obtain⟨x0,hS⟩:=iT.open hS .z;(unhygienic cases x0);dsimp only [b9,aa,ag] at hS;have hq:=eK hS hw;revert hq hS hw;clear hS;refine Wp cd (J1 @AW.af) ?_<;>intros;exact⟨_,rfl,by simp [aM.kN],rfl⟩
theorem Cm (b:Nat) (s:aM) (st:Int) (d:br) (A:AW) (hw:A.Wf) (hS:ah A [.h (iT b s s.aG.gf d)]):eQ 135 [pv b,.int .i64 st] A (.int .i64 (if s.mR st=true then 0 else 1)):=by
 refine aF Tryz.func135 λ_=>?_;have hb:=FN b s d A hw hS;obtain⟨x0,hS⟩:=iT.open hS .z;(unhygienic cases x0);dsimp only [b9,aa,ag] at hS;have hq:=eK hS hw;by_cases h1:s.aG.gf=0;have h2:s.kN=false:=by simp [aM.kN,h1]
 rw [h2] at hb;by_cases h3:s.aA=st;revert hq hS hw;clear hS;refine Wp (J1 @hb) (J3 h1 h3 @AW.af) ?_<;>intros;exact⟨_,rfl,by simp [aM.mR,h1,h3],rfl⟩;refine Wp (J1 @hb) (J3 h1 h3 @AW.af) ?_<;>intros;exact⟨_,rfl,by simp [aM.mR,h1,h3],rfl⟩;have h2:s.kN=true:=by simp [aM.kN,h1]
 rw [h2] at hb
 repeat' (first|(refine jX λR hR=>?_;simp [ai,ar,hq,h1,AW.af];try simp (disch:=omega) only [if_pos,if_neg,ai,ar])|(refine hR _ _ ?_;clear hR R)|(refine hK _ _ ?_;clear hK K)|refine nx ?_|refine wn λK hK=>?_|simp only [wS]|(refine bD (hb) ?_;rintro _ _ ⟨rfl,rfl⟩ _ _)|(show cM _ _ _ _ _ _;refine nx ?_)|(refine wc rfl (λhc=>?_) (λhc=>?_)<;>(try simp at hc)<;>(try omega)<;>(try (simp [h2] at hc;done))<;>(try (simp [h3] at hc;done))<;>(try (simp [h4] at hc;done)))|(refine ib (λhc=>?_) (λhc=>?_)<;>(try omega)<;>(try simp (disch:=omega) only [if_pos,if_neg])))
 exact⟨_,rfl,by simp [aM.mR,h1],rfl⟩
theorem pe (b:Nat) (s:aM) (bR a:Int) (d:br) (hc:db s.cf) (A:AW) (hw:A.Wf) (hS:ah A [.h (iT b s bR d)]):eQ 139 [pv b,.int .u64 a] A (.bool (decide (s.cf.ba<=a))):=by
 refine aF Tryz.func139 λ_=>?_;obtain⟨x0,hS⟩:=iT.open hS .z;(unhygienic cases x0);dsimp only [b9,aa,ag] at hS;have hq:=eK hS hw;obtain⟨w0,w1⟩:=hc.ba;have Ql:IntKind.u64.wrap s.cf.ba=s.cf.ba:=ar (by omega) (by omega);revert hq hS hw;(try revert hc);clear hS;refine Wp cd (J2 Ql @AW.af) ?_<;>intros;exact⟨_,rfl,by simp,rfl⟩
theorem Kf (b:Nat) (s:aM) (bR:Int) (d:br) (A:AW) (hw:A.Wf) (hS:ah A [.h (iT b s bR d)]):eQ 131 [pv b] A (.int .i64 s.aA):=by
 refine aF Tryz.func131 λ_=>?_;obtain⟨x0,hS⟩:=iT.open hS .z;(unhygienic cases x0);dsimp only [b9,aa,ag] at hS;have hq:=eK hS hw;revert hq hS hw;clear hS;refine Wp cd (J1 @AW.af) ?_<;>intros;exact⟨_,rfl,rfl,rfl⟩
theorem Oz (b:Nat) (s:aM) (bR:Int) (d:br) (A:AW) (hw:A.Wf) (hS:ah A [.h (iT b s bR d)]):eQ 90 [pv b] A (.int .i64 s.az):=by
 refine aF Tryz.func90 λ_=>?_;obtain⟨x0,hS⟩:=iT.open hS .z;(unhygienic cases x0);dsimp only [b9,aa,ag] at hS;have hq:=eK hS hw;revert hq hS hw;clear hS;refine Wp cd (J1 @AW.af) ?_<;>intros;exact⟨_,rfl,rfl,rfl⟩
theorem JX (b:Nat) (s:aM) (bR:Int) (d:br) (A:AW) (hw:A.Wf) (hS:ah A [.h (iT b s bR d)]):eQ 203 [pv b] A (.int .u64 s.value):=by
 refine aF Tryz.func203 λ_=>?_;obtain⟨x0,hS⟩:=iT.open hS .z;(unhygienic cases x0);dsimp only [b9,aa,ag] at hS;have hq:=eK hS hw;revert hq hS hw;clear hS;refine Wp cd (J1 @AW.af) ?_<;>intros;exact⟨_,rfl,rfl,rfl⟩
theorem G5 (b:Nat) (s:aM) (bR:Int) (d:br) (A:AW) (hw:A.Wf) (hS:ah A [.h (iT b s bR d)]):eQ 88 [pv b] A (.bool s.aj):=by
 refine aF Tryz.func88 λ_=>?_;obtain⟨x0,hS⟩:=iT.open hS .z;(unhygienic cases x0);dsimp only [b9,aa,ag] at hS;have hq:=eK hS hw;revert hq hS hw;clear hS;refine Wp cd (J1 @AW.af) ?_<;>intros;exact⟨_,rfl,rfl,rfl⟩
theorem kT (b:Nat) (s:aM) (bR:Int) (d:br) (A:AW) (hw:A.Wf) (hS:ah A [.h (iT b s bR d)]):eQ 192 [pv b] A (.bool s.iW):=by
 refine aF Tryz.func192 λ_=>?_;obtain⟨x0,hS⟩:=iT.open hS .z;(unhygienic cases x0);dsimp only [b9,aa,ag] at hS;obtain⟨va,vv,vi,hS⟩:=pw.open hS (.s (.s (.s (.s (.s .z)))));obtain⟨oa,ca,rfl,_⟩:=(ah.qT hS (.s .z)).bE;have hll:=IQ eG _ oa _ ca vv vi A (hS.g 0 rfl);have hq:=eK hS hw;by_cases h:s.az=1;revert hq hS hw;clear hS;clear hS;refine Wp (J1 @hll) (J2 h @AW.af) ?_<;>intros;exact⟨_,rfl,by simp [aM.iW,h],rfl⟩;refine Wp (J1 @hll) (J2 h @AW.af) ?_<;>intros;exact⟨_,rfl,by simp [aM.iW,h],rfl⟩
theorem oY (b:Nat) (s:aM) (bR:Int) (d:br) (A:AW) (hw:A.Wf) (hS:ah A [.h (iT b s bR d)]):eQ 198 [pv b] A (.int .i64 s.tG):=by
 refine aF Tryz.func198 λ_=>?_;have dv:=kT b s bR d A hw hS;obtain⟨x0,hS⟩:=iT.open hS .z;(unhygienic cases x0);dsimp only [b9,aa,ag] at hS;have hq:=eK hS hw;cases h:s.aj<;>cases h2:s.iW
 all_goals(rw [h2] at dv)
 all_goals(revert hq hS hw;clear hS;refine Wp (J1 @dv) (J2 h @AW.af) ?_<;>unhygienic intros)
 all_goals exact⟨_,rfl,by simp [aM.tG,h,h2],rfl⟩
theorem rI (b:Nat) (s:aM) (bR:Int) (d:br) (A:AW) (hw:A.Wf) (hS:ah A [.h (iT b s bR d)]):eQ 187 [pv b] A (.int .i64 s.rv):=by
 refine aF Tryz.func187 λ_=>?_;obtain⟨x0,hS⟩:=iT.open hS .z;(unhygienic cases x0);dsimp only [b9,aa,ag] at hS;cases he:s.bY with
 | none=>
   have hq:=eK hS hw;rw [he] at hq;dsimp only [nH] at hq;revert hq hS hw;clear hS;refine Wp cd (J1 @AW.af) ?_<;>intros;exact⟨_,rfl,by simp [aM.rv,he],rfl⟩
 | some en=>
   rw [he] at hS;have Wg:A.bg bH=some (gF en):=(JQ.op hS (.s .z)).g 0 rfl;have hsn:=uB bH en A Wg;have hq:=eK hS hw;rw [he] at hq;dsimp only [nH] at hq;refine Wp (J1 @hsn) (J1 @AW.af) ?_<;>intros;exact⟨_,rfl,by simp [aM.rv,he],rfl⟩
end
section
open T7
variable [Gl]
theorem GF (a o rv:Int) (A:AW):ax Tryz.prog 210 [.int .i64 a,.int .i64 o,.int .i64 rv] A (λv A'=>v=.pointer (some ⟨A.next,0,none⟩)/\A'=A.alloc (il ⟨a,o,rv,0,0,0,false⟩)):=by
 refine aF Tryz.func210 λ_=>?_;refine W cd (J1 @il.eq_1) ?_<;>intros;exact⟨_,rfl,rfl,rfl⟩
theorem GJ (b:Nat) (s:iH) (A:AW) (F:HP) (h:bk A (gQ b s*F)) (hl:s.fe.length<2^38) :
 ax Tryz.prog 237 [.pointer (some ⟨b,0,none⟩)] A (λv A'=>dx A.next A' .u64 v s.fe/\A.le A'):=by
 refine aF Tryz.func237 λhw=>?_;obtain⟨vo,vw,hS⟩:=gQ.open h;have hg:=hS.bg;revert hS hw;refine W cd (J2 hg @AW.af) ?_<;>(unhygienic intros);refine bD (iG vw s.fe A (ap.is hS.right.right) (by omega)) ?_;rintro u A1 ⟨h1,h2⟩ jg _;refine W cd cd ?_<;>intros;exact⟨_,by first|(simp;done)|(simp;rfl),h1,h2⟩
section
variable {A:AW} {L K K2:List It} {k:Value->AW->Prop}
theorem IK {t:Int} {vi:Value} {l:List Int} (hw:A.Wf) (hS:ah A L) (hp:ay L (.h (ap .i64 vi l)) K) (hl:l.length<2^38)
 (hk:∀n A',ah A' (.h (gQ n ⟨t,eI l,[],0,false⟩)::L)->A'.Wf->k (pv n) A'):ax Tryz.prog 208 [.int .i64 t,vi] A k:=by
 refine bD (GG t vi l A (aE L) (ah.qT hS hp) hl hw hS) ?_;rintro _ A' ⟨n,rfl,h1⟩ i8 _;exact hk n A' h1 i8
theorem uk {vi vw:Value} {l ws:List Int} (hw:A.Wf) (hS:ah A L) (hp:ay L (.h (ap .i64 vi l)) K) (Bm:ay L (.h (ap .u64 vw ws)) K2) (hl:l.length<2^38) (he:l.length=ws.length)
 (hk:∀n A',ah A' (.h (gY n ⟨l,ws⟩)::L)->A'.Wf->A.le A'->k (pv n) A'):ax Tryz.prog 199 [vi,vw] A k:=by
 refine bD (Ew vi vw l ws A (aE L) (ah.qT hS hp) (ah.qT hS Bm) he hl hw hS) ?_;rintro _ A' ⟨n,rfl,h1,h2⟩ i8 _;exact hk n A' h1 i8 h2
theorem GE {vi vw:Value} {l ws:List Int} (hw:A.Wf) (hS:ah A L) (hp:ay L (.h (ap .i64 vi l)) K) (Bm:ay L (.h (ap .u64 vw ws)) K2) (hl:l.length<2^38) (he:l.length=ws.length)
 (hk:∀n A',ah A' (.h (gY n ⟨l,ws⟩)::L)->A'.Wf->A.le A'->k (pv n) A'):ax Tryz.prog 193 [vi,vw] A k:=by
 refine bD (IC vi vw l ws A (aE L) (ah.qT hS hp) (ah.qT hS Bm) he hl hw hS) ?_;rintro _ A' ⟨n,rfl,h1,h2⟩ i8 _;exact hk n A' h1 i8 h2
theorem pg {v:Value} {l:List Int} {rv:Int} (hw:A.Wf) (hS:ah A L) (hp:ay L (.h (ap .i64 v l)) K) (hl:l.length<2^38)
 (hk:∀n A',ah A' (.h (js n ⟨l,rv,false⟩)::L)->A'.Wf->A.le A'->k (pv n) A'):ax Tryz.prog 185 [v,.int .i64 rv] A k:=by
 refine bD (IL v l rv A (aE L) (ah.qT hS hp) hl hw hS) ?_;rintro _ A' ⟨n,rfl,h1,h2⟩ i8 _;exact hk n A' h1 i8 h2
theorem Kh {vi:Value} {l:List Int} (hw:A.Wf) (hS:ah A L) (hp:ay L (.h (ap .i64 vi l)) K) (hl:l.length<2^38)
 (hk:∀o c A',ah A' (.h (ap .i64 (.slice o (eI l).length c) (eI l))::L)->A'.Wf->A.le A'->k (.slice o (eI l).length c) A'):ax Tryz.prog 207 [vi] A k:=by
 refine bD (As vi l A (ah.qT hS hp) (by omega)) ?_;rintro u A' ⟨h1,h2⟩ i8 _;obtain⟨o,c,rfl,_⟩:=h1.is.bE;exact hk o c A' (ap.gA hS hw h2 h1) i8 h2
theorem sO {n:Nat} {s:rB} (hw:A.Wf) (hS:ah A L) (hp:ay L (.h (pw n s)) K) (hl:s.bT.length<2^38)
 (hk:∀o c A',ah A' (.h (ap .i64 (.slice o s.bT.length c) s.bT)::L)->A'.Wf->A.le A'->k (.slice o s.bT.length c) A'):ax Tryz.prog 130 [pv n] A k:=by
 obtain⟨va,vv,vi,h0⟩:=pw.open hS hp;refine bD (EB n s.ef va vv vi s.bT A (h0.g 0 rfl) (ah.qT h0 (.s .z)) (by omega)) ?_;rintro u A' ⟨h1,h2⟩ i8 _;obtain⟨o,c,rfl,_⟩:=h1.is.bE;exact hk o c A' (ap.gA hS hw h2 h1) i8 h2
theorem EA {n:Nat} {s:rB} (hw:A.Wf) (hS:ah A L) (hp:ay L (.h (pw n s)) K) (hl:s.fg.length<2^38)
 (hk:∀o c A',ah A' (.h (ap .u64 (.slice o s.fg.length c) s.fg)::L)->A'.Wf->A.le A'->k (.slice o s.fg.length c) A'):ax Tryz.prog 194 [pv n] A k:=by
 obtain⟨va,vv,vi,h0⟩:=pw.open hS hp;refine bD (CH n s.ef va vv vi s.fg A (h0.g 0 rfl) (ah.qT h0 (.s (.s .z))) (by omega)) ?_;rintro u A' ⟨h1,h2⟩ i8 _;obtain⟨o,c,rfl,_⟩:=h1.is.bE;exact hk o c A' (ap.gA hS hw h2 h1) i8 h2
theorem qF {n ef:Nat} {l:List Int} (hw:A.Wf) (hS:ah A L) (hp:ay L (.h (vM n ef l)) K) (hl:l.length<2^38)
 (hk:∀o c A',ah A' (.h (ap .i64 (.slice o l.length c) l)::L)->A'.Wf->A.le A'->k (.slice o l.length c) A'):ax Tryz.prog 186 [pv n] A k:=by
 obtain⟨v,h0⟩:=vM.open hS hp;refine bD (Gn n ef v l A (h0.g 0 rfl) (ah.qT h0 (.s .z)) (by omega)) ?_;rintro u A' ⟨h1,h2⟩ i8 _;obtain⟨o,c,rfl,_⟩:=h1.is.bE;exact hk o c A' (ap.gA hS hw h2 h1) i8 h2
theorem sN {n:Nat} {s:rB} {a:Int} (lZ:oF s) (yu:s.ef<=32) (QI:s.index.length<=64) (ha:0<=a) (hw:A.Wf) (hS:ah A L) (hp:ay L (.h (pw n s)) K)
 (hk:k (.tuple #[.int .u64 (kZ s a).1,.bool (kZ s a).2]) A):ax Tryz.prog 142 [pv n,.int .i64 a] A k:=by
 obtain⟨va,vv,vi,h0⟩:=pw.open hS hp;refine bD (IR n va vv vi s a A lZ ha yu QI (h0.g 0 rfl) (ah.qT h0 (.s .z)) (ah.qT h0 (.s (.s .z))) (ah.qT h0 (.s (.s (.s .z))))) ?_;rintro _ _ ⟨rfl,rfl⟩ _ _;exact hk
theorem IT {n:Nat} {s:iH} (hw:A.Wf) (hS:ah A L) (hp:ay L (.h (gQ n s)) K) (hl:s.fe.length<2^38)
 (hk:∀o c A',ah A' (.h (ap .u64 (.slice o s.fe.length c) s.fe)::L)->A'.Wf->A.le A'->k (.slice o s.fe.length c) A'):ax Tryz.prog 237 [pv n] A k:=by
 have h0:bk A (gQ n s*aE K):=by
  unfold ah at hS;rw [hp.aE] at hS;exact hS
 refine bD (GJ n s A (aE K) h0 hl) ?_;rintro u A' ⟨h1,h2⟩ i8 _;obtain⟨o,c,rfl,_⟩:=h1.is.bE;exact hk o c A' (ap.gA hS hw h2 h1) i8 h2
end
end
section
open T12 T13
variable [Gl]
structure gq (s:aM):Prop where
 cf:db s.cf
 Pi:0<=s.am/\s.am<1024
 bu:oF s.bu
 ef:s.bu.ef<=32
 dJ:s.bu.index.length<=64
 Hs:∀a∈s.bu.bT,a<2^40
 O2:∀x∈s.ak,0<=x/\x<2^40
 mW:s.ak.length<=8
 push:s.an<=s.ak.length
 set:s.set.length<=s.cf.reads.toNat
 jB:s.reads.length<2^20
 Bq:s.av.length<=8
theorem gq.al {s:aM} (h:gq s):∀x∈s.ak,x<2^62:=λx hx=>by have:=(h.O2 x hx).2;omega
theorem gq.len {s:aM} (h:gq s):s.bu.bT.length<=32:=Nat.le_trans h.bu.ef h.ef
theorem uU (s:aM) (a v:Int):((fH s.bu a v).1=true/\kW s a v=(true,{ s with bu:=(fH s.bu a v).2 }))\/((fH s.bu a v).1=false/\kW s a v=(false,kz s 3)):=by
 unfold kW;cases h:(fH s.bu a v).1<;>simp
theorem uf (b:Nat) (s:aM) (a v:Int) (hd:s.aG=.bF) (hC:gq s) (ha:0<=a) :
 bf Tryz.prog 147 [pv b,.int .i64 a,.int .u64 v] [.h (aX b s)] (λu=>u=.bool (kW s a v).1) (λ_=>[.h (aX b (kW s a v).2)]):=by
 have hcs:=uU s a v;(unhygienic cases s);dsimp only at hd;subst hd;intro A F hw hS;refine aF Tryz.func147 λ_=>?_;obtain⟨x0,hS⟩:=aX.open hS .z;(unhygienic cases x0);dsimp only [b9,gZ,cF,ez,br.gf,aa,ag] at hS;have hq:=eK hS hw;dsimp only at hcs;rcases hcs with ⟨h,e⟩|⟨h,e⟩
 . have ln:=AC eG bu a v hC.bu ha hC.ef hC.dJ;rw [h] at ln;revert hq hS hw;clear hS;refine Wp (J1 @ln) (J1 bz) ?_<;>(unhygienic intros);rw [e];refine⟨_,by first|rfl|(simp;rfl),rfl,?_⟩;apply aX.bO
   (·exact sA)
   exact fP
   (·first|exact pP|exact kP)
   all_goals(first|exact 0|exact undef)
 have ln:=AC eG bu a v hC.bu ha hC.ef hC.dJ;rw [h] at ln;have hU:(fH bu a v).2=bu:=by
  revert h;unfold fH;split;simp;split<;>simp
 rw [hU] at ln;revert hq hS hw;(repeat first|clear hq|clear hS|clear hw|revert hc|revert R|revert K);refine Wp (J2 (Tg.mk (n:=20) (iY b ⟨cf,am,aA,az,value,bY,aj,reads,ak,av,set,bu,aw,ao,aJ,aI,an,.bF⟩ 0 3 .bF hC.cf hC.al hC.push (Nat.lt_of_le_of_lt hC.mW (by decide)))) @ln) (J1 bz) ?_<;>(unhygienic intros);rw [e];exact⟨_,by first|rfl|(simp;rfl),rfl,ah.bO hS (.s .z (.s .z .z))⟩
theorem gq.to {s s':aM} (hC:gq s) (h1:s'.cf=s.cf) (h2:s'.am=s.am) (h3:s'.bu=s.bu) (h4:s'.ak=s.ak) (h5:s'.an=s.an) (h6:s'.set=s.set) (h7:s'.reads=s.reads) (h8:s'.av=s.av):gq s':=by
 (unhygienic cases s);obtain⟨cf',Sj,Va,oC,U6,ent',Ri,Vj,TN,Wv,set',log',WL,Vo,Yg,XP,St,WH⟩:=s';dsimp only at h1 h2 h3 h4 h5 h6 h7 h8;subst h1 h2 h3 h4 h5 h6 h7 h8;exact⟨hC.cf,hC.Pi,hC.bu,hC.ef,hC.dJ,hC.Hs,hC.O2,hC.mW,hC.push,hC.set,hC.jB,hC.Bq⟩
theorem Io (p:qB) (M:Mm):(gG p M).2.1.eH=p.eH:=by
 rcases Ft p M with ⟨h,e⟩|⟨h,e⟩|⟨h,e⟩|⟨w,h,e⟩|⟨w,h,e⟩|⟨h,e⟩<;>rw [e]
end
section
abbrev MA:List (Nat×Nat):=[(0,0),(1,0),(2,0),(3,0),(4,0),(5,0),(6,0),(7,0),(8,0),(9,0),(10,0),(11,2),(12,2),(13,0),(14,0),(15,3),(16,0),(17,0),(18,0),(19,3)]
abbrev ya:List (Nat×Nat):=[(0,0),(1,0),(2,0),(3,0),(4,0),(5,0),(6,0),(7,0),(8,0),(9,0),(10,3),(11,0),(12,0),(13,3),(14,0),(15,0),(16,0),(17,3)]
open T12 T13
variable [Gl]
theorem sr (b:Nat) (s:aM) (bR:Int) (d:br) (hl:s.ao.length<2^20) (Qx:s.ao.length=0\/∃l,s.aJ=some l/\s.ao.length=l.fe.length) :
 bf Tryz.prog 191 [pv b] [.h (iT b s bR d)] (λ_=>True) (λ_=>[.h (aX b (gU s))]):=by
 (unhygienic cases s);dsimp only at hl Qx;by_cases h0:ao.length=0
 . have e:gU ⟨cf,am,aA,az,value,bY,aj,reads,ak,av,set,bu,aw,ao,aJ,aI,an,aG⟩=⟨cf,am,aA,az,value,bY,aj,reads,ak,av,set,bu,aw,ao,aJ,aI,an,.gH⟩:=if_pos h0;intro A F hw hS;refine aF Tryz.func191 λ_=>?_;obtain⟨x0,hS⟩:=iT.open hS .z;(unhygienic cases x0);dsimp only [b9,aa,ag] at hS;have hq:=eK hS hw;obtain⟨oo,co,rfl,_⟩:=(ah.qT hS (.s (.s (.s (.s (.s (.s (.s (.s (.s .z)))))))))).bE;have h1:(ao.length:Int)=0:=(by omega);revert hq hS hw;clear hS;refine Wp (J1 (od MA)) (J2 h1 bz) ?_<;>(unhygienic intros);rw [e];refine⟨_,by first|rfl|(simp;rfl),trivial,?_⟩;apply aX.bO
   (·exact sA)
   exact fP
   (·first|exact pP|exact kP)
   all_goals(first|exact 0|exact undef)
 obtain⟨l,rfl,u7⟩:∃l,aJ=some l/\ao.length=l.fe.length:=by
  rcases Qx with h|h;exact absurd h h0;exact h
 have e:gU ⟨cf,am,aA,az,value,bY,aj,reads,ak,av,set,bu,aw,ao,some l,aI,an,aG⟩=⟨cf,am,aA,az,value,bY,aj,reads,ak,av,set,bu,aw,ao,some l,aI,an,.da ⟨ao,l.fe⟩⟩:=if_neg h0;intro A F hw hS;refine aF Tryz.func191 λ_=>?_;obtain⟨x0,hS⟩:=iT.open hS .z;(unhygienic cases x0);dsimp only [b9,aa,ag] at hS;have hq:=eK hS hw;have hS:=ta.op hS (.s (.s .z));obtain⟨oo,co,rfl,_⟩:=(ah.qT hS (.s (.s (.s (.s (.s (.s (.s (.s (.s .z)))))))))).bE;dsimp only [jt] at hq;have h1:¬(ao.length:Int)=0:=by omega
 have h2:¬ao=[]:=λh=>by rw [h] at h0;exact h0 rfl
 revert hq hS hw;(repeat first|clear hq|clear hS|clear hw|revert hc|revert R|revert K);refine Wp (J3 (Tg.mk (n:=11) @IT) (Tg.mk (n:=12) @uk) (od MA)) (J3 h1 h2 bz) ?_<;>(unhygienic intros);rw [e];refine⟨_,by first|rfl|(simp;rfl),trivial,?_⟩;apply aX.bO
 (·exact sA)
 exact fP
 (·first|exact pP|exact kP)
 all_goals(first|exact 0|exact undef)
theorem Ek (l:List Int):(eI l).length<=l.length:=by
 have:=uE (qE l)
 simpa [eI,qE] using this
theorem Ox (s:aM) (az:Int):((decide (az=1) && decide (0<s.bu.bT.length))=false/\qk s az={ s with az:=az,aI:=some ⟨false,0,false⟩,aG:=.dE }) \/
 ((decide (az=1) && decide (0<s.bu.bT.length))=true/\qk s az={ s with az:=az,ao:=eI (s.bu.bT.map (gz s.cf)),aJ:=some ⟨s.am,eI (eI (s.bu.bT.map (gz s.cf))),[],0,false⟩,aG:=.fy }):=by
 unfold qk;cases h:(decide (az=1) && decide (0<s.bu.bT.length))<;>simp
theorem uD (b:Nat) (s:aM) (oC:Int) (hd:s.aG=.bF) (hC:gq s) :
 bf Tryz.prog 138 [pv b,.int .i64 oC] [.h (aX b s)] (λ_=>True) (λ_=>[.h (aX b (qk s oC))]):=by
 have hcs:=Ox s oC;(unhygienic cases s);dsimp only at hd;subst hd;intro A F hw hS;refine aF Tryz.func138 λ_=>?_;obtain⟨x0,hS⟩:=aX.open hS .z;(unhygienic cases x0);dsimp only [b9,gZ,cF,ez,br.gf,aa,ag] at hS;have hq:=eK hS hw;dsimp only at hcs;have bG:=hC.len;dsimp only at bG
 have dv:∀A',A'.Wf->ah A' [.h (iT b ⟨cf,am,aA,oC,value,bY,aj,reads,ak,av,set,bu,aw,ao,aJ,aI,an,.bF⟩ 0 .bF)]->eQ 192 [pv b] A' (.bool (decide (oC=1) && decide (0<bu.bT.length))):=
  λA' h1 h2=>kT b _ 0 .bF A' h1 h2
 rcases hcs with ⟨h,e⟩|⟨h,e⟩
 . rw [h] at dv;rw [e];revert hq hS hw;clear hS;refine Wp (J3 (Tg.mk (n:=30) @dv) (od ya) @mI) (J1 bz) ?_<;>(unhygienic intros);refine⟨_,by first|rfl|(simp;rfl),trivial,?_⟩;apply aX.bO
   (·exact sA)
   exact fP
   (·first|exact pP|exact kP)
   all_goals(first|exact 0|exact undef)
 rw [h] at dv;rw [e];revert hq hS hw;(repeat first|clear hq|clear hS|clear hw|revert hc|revert R|revert K);refine Wp (J2 (Tg.mk (n:=30) @dv) (od ya)) (J1 bz) ?_<;>(unhygienic intros);apply sO (n:=eG) (s:=bu)
 (·exact wA)
 (·exact sA)
 (·first|exact pP|exact kP)
 omega;intro o1 c3 A1 hS hw _;have hS:ah A1 (.h (ap .i64 (.slice o1 bu.bT.length c3) bu.bT)::(b9 b ⟨cf,am,aA,oC,value,bY,aj,reads,ak,av,set,bu,aw,ao,aJ,aI,an,.bF⟩ 0 .bF ⟨eb,eG,bH,c8,cU,m,c0,c1,c2,df,bn,bU,bW,eh,dg,eV,bX,bV,bd,dh,dk,gt,ei⟩++[.h F])):=by
  apply ah.bO hS;dsimp only [b9,tC,gZ,cF,ez,br.gf,pU,lY,qq,wT,mf,lV,iL,pV,pM,wH,pN,aa,ag]
  (·first|exact pP|exact kP)
 have nB:=uV cf hC.cf;dsimp only [bq.v] at nB;generalize hn:bu.bT=ad at *;revert hq hS hw;(repeat first|clear hq|clear hS|clear hw|revert hc|revert R|revert K);refine Wp (J1 (od ya)) (J1 bz) ?_<;>(unhygienic intros)
 refine cW (λk fr A'=>A'.Wf/\∃(i:Nat) (v:Value) (q:List Int),q=(ad.take i).map (gz cf)/\k=ad.length-i/\i<=ad.length/\fr 0=pv b/\fr 4=v/\fr 27=.slice o1 ad.length c3/\fr 28=.int .i64 ad.length/\fr 29=.int .i64 i/\
  ah A' (.h (ap .i64 v q)::.h (ap .i64 (.slice o1 ad.length c3) ad)::(b9 b ⟨cf,am,aA,oC,value,bY,aj,reads,ak,av,set,bu,aw,ao,aJ,aI,an,.bF⟩ 0 .bF ⟨eb,eG,bH,c8,cU,m,c0,c1,c2,df,bn,bU,bW,eh,dg,eV,bX,bV,bd,dh,dk,gt,ei⟩++[.h F]))) ad.length ?_ ?_
 refine⟨hw,0,.slice none 0 0,[],by simp,by simp,by simp,by simp,by simp,by simp,by simp,by simp,?_⟩
 simpa using ah.uj .i64 hS
 rintro k fr A' ⟨hw,i,v,q,HO,rfl,hi,h0,h4,R4,h28,Xw,hS⟩;have hI:=ah.qT hS (.s .z);have UK:=ah.qT hS .z;have VV:q.length=i:=by rw [HO];simp;omega
 obtain⟨ov,cv,rfl,_⟩:=UK.bE;dsimp only [b9,tC,gZ,cF,ez,br.gf,pU,lY,qq,wT,mf,lV,iL,pV,pM,wH,pN,aa,ag] at hS;have hq:=MI hS hw;refine aO ?_;by_cases bL:i<ad.length
 . have gW:(i:Int)<ad.length:=(by omega);have fU:=uR (i:=i);obtain⟨p,bP,rfl,bI,hcell⟩:=hI.at bL;revert hq hS hw;(repeat first|clear hq|clear hS|clear hw|revert hc|revert R|revert K);refine Wu (J2 (od ya) @nB) (HE h0 h4 R4 h28 Xw bI hcell bL gW fU bz) ?_<;>(unhygienic intros);refine⟨ad.length-(i+1),by omega,hw,i+1,_,q++[gz cf ad[i]],?_,rfl,by omega,by simp [h0],by simp;rfl,by simp [R4],by simp [h28],by simp,?_⟩;rw [HO,List.take_succ_eq_append_getElem bL,List.map_append];rfl;apply ah.bO hS;dsimp only [b9,tC,gZ,cF,ez,br.gf,pU,lY,qq,wT,mf,lV,iL,pV,pM,wH,pN,aa,ag]
   (·first|exact pP|exact kP)
 have Ls:i=ad.length:=by omega
 subst Ls;rw [List.take_length] at HO;have GN:(eI q).length<=q.length:=Ek q;revert hq hS hw;(repeat first|clear hq|clear hS|clear hw|revert hc|revert R|revert K);refine Wp (J3 (Tg.mk (n:=11) @Kh) (Tg.mk (n:=11) @IK) (od ya)) (J6 h0 h4 R4 h28 Xw bz) ?_<;>(unhygienic intros);rw [<-HO];refine⟨_,by first|rfl|(simp;rfl),trivial,?_⟩;apply aX.bO
 (·exact sA)
 exact fP
 (·first|exact pP|exact kP)
 all_goals(first|exact 0|exact undef)
end
section
abbrev xZ:List (Nat×Nat):=[(0,0),(1,0),(2,0),(3,0),(4,0),(5,0),(6,0),(7,0),(8,0),(9,0),(10,0),(11,0),(12,0)]
open T12 T13
variable [Gl]
theorem yg (s:rB) (a v:Int):(fH s a v).2.ef=s.ef/\(fH s a v).2.index.length=s.index.length/\(∀x∈(fH s a v).2.bT,x∈s.bT\/x=a):=by
 unfold fH;split;exact⟨rfl,rfl,λx hx=>.inl hx⟩;split;exact⟨rfl,rfl,λx hx=>.inl hx⟩;exact⟨rfl,by simp,λx hx=>by simpa using hx⟩
theorem gq.put {s:aM} (hC:gq s) {a:Int} (ha:0<=a/\a<2^40) (v:Int):gq { s with bu:=(fH s.bu a v).2 }:=by
 obtain⟨h1,h2,h3⟩:=yg s.bu a v;refine⟨hC.cf,hC.Pi,Fy hC.bu ha.1 v,?_,?_,?_,hC.O2,hC.mW,hC.push,hC.set,hC.jB,hC.Bq⟩;show (fH s.bu a v).2.ef<=32;rw [h1];exact hC.ef;show (fH s.bu a v).2.index.length<=64;rw [h2];exact hC.dJ;intro x hx;rcases h3 x hx with h|rfl;exact hC.Hs x h;exact ha.2
theorem Jj (s:aM) (b st:Int):(¬st=IntKind.u64.wrap (IntKind.u64.wrap (dL s.cf b)+1)/\lz s b st=qk s 8) \/
 ((st=IntKind.u64.wrap (IntKind.u64.wrap (dL s.cf b)+1)/\s.cf.av<=s.av.length)/\lz s b st=kz s 3) \/
 (((st=IntKind.u64.wrap (IntKind.u64.wrap (dL s.cf b)+1)/\¬s.cf.av<=s.av.length)/\(fH s.bu (s.cf.ba+b) 0).1=true)/\lz s b st={ s with bu:=(fH s.bu (s.cf.ba+b) 0).2,av:=s.av++[b] }) \/
 (((st=IntKind.u64.wrap (IntKind.u64.wrap (dL s.cf b)+1)/\¬s.cf.av<=s.av.length)/\(fH s.bu (s.cf.ba+b) 0).1=false)/\lz s b st=kz s 3):=by
 unfold lz;by_cases h1:st=IntKind.u64.wrap (IntKind.u64.wrap (dL s.cf b)+1);by_cases h2:s.cf.av<=s.av.length;simp [h1,h2];cases h3:(fH s.bu (s.cf.ba+b) 0).1<;>simp [h1,h2,kW,h3];simp [h1]
theorem De (b:Nat) (s:aM) (k st:Int) (hd:s.aG=.bF) (hC:gq s) (hk:0<=k/\k<s.cf.nb) :
 bf Tryz.prog 222 [pv b,.int .i64 k,.int .u64 st] [.h (aX b s)] (λ_=>True) (λ_=>[.h (aX b (lz s k st))]):=by
 have hcs:=Jj s k st;have ln:=uU s (s.cf.ba+k) 0;(unhygienic cases s);dsimp only at hd;subst hd;intro A F hw hS;refine aF Tryz.func222 λ_=>?_;obtain⟨x0,hS⟩:=aX.open hS .z;(unhygienic cases x0);dsimp only [b9,gZ,cF,ez,br.gf,aa,ag] at hS;have hq:=eK hS hw;dsimp only at hcs hk ln;have R2:=hC.Bq;dsimp only at R2;have EM:=hC.cf.nb;have RX:=hC.cf.ba;dsimp only at EM RX;have kv:=sV cf hC.cf k (by omega);dsimp only [bq.v] at kv;obtain⟨ofr,cfr,rfl,_⟩:=(ah.qT hS (.s (.s (.s (.s (.s (.s (.s (.s .z))))))))).bE;have Ql:IntKind.i64.wrap (cf.ba+k)=cf.ba+k:=ai (by omega) (by omega);rcases hcs with ⟨h,e⟩|⟨h,e⟩|⟨h,e⟩|⟨h,e⟩;rw [e];revert hq hS hw;clear hS;refine Wp (J3 (Tg.mk (n:=21) (uD b ⟨cf,am,aA,az,value,bY,aj,reads,ak,av,set,bu,aw,ao,aJ,aI,an,.bF⟩ 8 rfl hC)) (od xZ) @kv) (J2 h bz) ?_<;>(unhygienic intros);exact⟨_,by first|rfl|(simp;rfl),trivial,ah.bO hS (.s .z (.s .z .z))⟩
 . rw [e];revert hq hS hw;(repeat first|clear hq|clear hS|clear hw|revert hc|revert R|revert K);refine Wp (J3 (Tg.mk (n:=20) (iY b ⟨cf,am,aA,az,value,bY,aj,reads,ak,av,set,bu,aw,ao,aJ,aI,an,.bF⟩ 0 3 .bF hC.cf hC.al hC.push (Nat.lt_of_le_of_lt hC.mW (by decide)))) (od xZ) @kv) (J2 h bz) ?_<;>(unhygienic intros);exact⟨_,by first|rfl|(simp;rfl),trivial,ah.bO hS (.s .z (.s .z .z))⟩
 . rw [e];have N2:=uf b ⟨cf,am,aA,az,value,bY,aj,reads,ak,av,set,bu,aw,ao,aJ,aI,an,.bF⟩ (cf.ba+k) 0 rfl hC (by omega);rcases ln with ⟨h9,e9⟩|⟨h9,e9⟩
   . rw [e9] at N2
     repeat' (first|(with_reducible apply lwI;(·first|(simp;done)|(simp;rfl));(·first|(simp;done)|(simp;rfl));(·exact wA);(·exact sA);(·first|exact pP|exact kP);(·first|(simp;done)|(simp;rfl)|(simp [hq];done)|(simp [hq];rfl));(·first|omega|(simp;omega));(·intro _ _;trivial);rintro _ _ _ hS hw _;(try dsimp only [AW.aV] at hS);have hq:=FC hS hw)|(refine jX λR hR=>?_;simp [ai,ar,hq,h,Ql,AW.af,aB];try simp (disch:=omega) only [if_pos,if_neg,ai,ar])|(refine hR _ _ ?_;clear hR R)|(refine hK _ _ ?_;clear hK K)|refine nx ?_|refine wn λK hK=>?_|simp only [wS,xZ]|refine wl Tryz.mx xZ (by decide +kernel) λK hK=>?_|(refine bD (kv _) ?_;rintro _ _ ⟨rfl,rfl⟩ _ _)|(apply bf.Pe (N2);(·exact wA);(·exact sA);(·exact fP);(·first|exact pP|exact kP);(rintro _ _ rfl hS hw _;have hS:=lA hS;(obtain ⟨x0,hS⟩:=aX.open hS .z;(unhygienic cases x0);dsimp only [b9,gZ,cF,ez,br.gf,aa,ag] at hS;have hq:=eK hS hw));all_goals(try (first|exact 0|exact undef)))|(show cM _ _ _ _ _ _;refine nx ?_)|(refine wc rfl (λhc=>?_) (λhc=>?_)<;>(try simp at hc)<;>(try omega)<;>(try (simp [h2] at hc;done))<;>(try (simp [h3] at hc;done))<;>(try (simp [h4] at hc;done)))|(refine ib (λhc=>?_) (λhc=>?_)<;>(try omega)<;>(try simp (disch:=omega) only [if_pos,if_neg])))
     refine⟨_,by first|rfl|(simp;rfl),trivial,?_⟩;apply aX.bO
     (·exact sA)
     exact fP
     (·first|exact pP|exact kP)
     all_goals(first|exact 0|exact undef)
   rw [h.2] at h9;cases h9
 rw [e];have N2:=uf b ⟨cf,am,aA,az,value,bY,aj,reads,ak,av,set,bu,aw,ao,aJ,aI,an,.bF⟩ (cf.ba+k) 0 rfl hC (by omega);rcases ln with ⟨h9,e9⟩|⟨h9,e9⟩;rw [h.2] at h9;cases h9;rw [e9] at N2;revert hq hS hw;(repeat first|clear hq|clear hS|clear hw|revert hc|revert R|revert K);refine Wp (J3 (Tg.mk (n:=21) @N2) (od xZ) @kv) (J3 h Ql bz) ?_<;>(unhygienic intros);exact⟨_,by first|rfl|(simp;rfl),trivial,ah.bO hS (.s .z (.s .z .z))⟩
end
section
open T12 T13
variable [Gl]
def OM (b:Nat) (s:aM) (bR:Int) (p:qB):HP:=pG λf:qC=>aE (b9 b s bR (.fw p) f++[.at f.m (nf p)])
theorem OM.open {A:AW} {L K:List It} {b:Nat} {s:aM} {bR:Int} {p:qB} (h:ah A L) (hp:ay L (.h (OM b s bR p)) K):∃f,ah A (b9 b s bR (.fw p) f++[.at f.m (nf p)]++K):=i9 h hp
theorem bf.useX {P:Program} {f:FuncId} {args:List Value} {pC:List It} {φ:Value->Prop} {post:Value->List It} {b:Nat} {s:aM} {bR:Int} {p:qB} (hc:bf P f args (.h (OM b s bR p)::pC) φ post) {A:AW} {L K:List It} {eb eG bH c8 cU m c0 c1 c2:Nat} {df bn bU bW eh dg eV bX bV bd dh dk gt ei:Value} {K0:List It} {k:Value->AW->Prop} (hw:A.Wf) (hS:ah A L)
 (e:aP L (b9 b s bR (.fw p) ⟨eb,eG,bH,c8,cU,m,c0,c1,c2,df,bn,bU,bW,eh,dg,eV,bX,bV,bd,dh,dk,gt,ei⟩++[.at m (nf p)]) K0) (e2:aP K0 pC K) (hk:∀v A',φ v->ah A' (post v++K)->A'.Wf->A.next<=A'.next->k v A'):ax P f args A k:=
 bf.eZ hc hw (gN (g:=λf:qC=>b9 b s bR (.fw p) f++[.at f.m (nf p)]) ⟨eb,eG,bH,c8,cU,m,c0,c1,c2,df,bn,bU,bW,eh,dg,eV,bX,bV,bd,dh,dk,gt,ei⟩ hS e) (.s .z e2) hk
theorem HT (n:Nat) (a:Int) (s:aM):iU (n+1) a s=if (kW s a 0).1=true then iU n (a+1) (kW s a 0).2 else (false,(kW s a 0).2):=rfl
theorem HS (a:Int) (s:aM):iU 0 a s=(true,s):=rfl
theorem DK (b:Nat) (s:aM) (p:qB) (hC:gq { s with aG:=.bF }) (qz:s.ak.length<8) (hp:p.block<s.cf.nb) (kv:0<=p.eH/\p.eH<=3) :
 bf Tryz.prog 218 [pv b,.int .i64 p.eH] [.h (OM b { s with aG:=.bF } 0 p)] (λ_=>True) (λ_=>[.h (aX b (gP { s with aG:=.bF } p.eH p.block))]):=by
 (unhygienic cases s);obtain⟨eH,pat,Uc,Ub,jK⟩:=p;dsimp only at hC qz hp kv ⊢;intro A F hw hS;refine aF Tryz.func218 λ_=>?_;obtain⟨⟨eb,eG,bH,c8,cU,m,c0,c1,c2,df,bn,bU,bW,eh,dg,eV,bX,bV,bd,dh,dk,gt,ei⟩,hS⟩:=OM.open hS .z;dsimp only [b9,gZ,cF,ez,br.gf,aa,ag] at hS;have hq:=eK hS hw;have EM:=hC.cf.nb;have RX:=hC.cf.ba;dsimp only at EM RX;have EK:=Es m ⟨eH,pat,Uc,Ub,jK⟩;by_cases h:jK<0
 . have e:gP ⟨cf,am,aA,az,value,bY,aj,reads,ak,av,set,bu,aw,ao,aJ,aI,an,.bF⟩ eH jK=kz ⟨cf,am,aA,az,value,bY,aj,reads,ak,av,set,bu,aw,ao,aJ,aI,an,.bF⟩ 4:=if_pos h;rw [e]
   repeat' (first|(refine jX λR hR=>?_;simp [ai,ar,hq,h,AW.af,aB];try simp (disch:=omega) only [if_pos,if_neg,ai,ar])|(refine hR _ _ ?_;clear hR R)|(refine hK _ _ ?_;clear hK K)|refine nx ?_|refine wn λK hK=>?_|simp only [wS]|(refine bD (EK _ (by simp [hq])) ?_;rintro _ _ ⟨rfl,rfl⟩ _ _)|(apply bf.jT (iY b ⟨cf,am,aA,az,value,bY,aj,reads,ak,av,set,bu,aw,ao,aJ,aI,an,.bF⟩ 0 4 (.fw ⟨eH,pat,Uc,Ub,jK⟩) hC.cf hC.al hC.push (Nat.lt_of_le_of_lt hC.mW (by decide)));(·exact wA);(·exact sA);(·exact fP);(·first|exact pP|exact kP);(rintro _ _ _ hS hw _;have hS:=lA hS);(try (have hq:=FC hS hw));all_goals(try (first|exact 0|exact undef)))|(show cM _ _ _ _ _ _;refine nx ?_)|(refine wc rfl (λhc=>?_) (λhc=>?_)<;>(try simp at hc)<;>(try omega)<;>(try (simp [h2] at hc;done))<;>(try (simp [h3] at hc;done))<;>(try (simp [h4] at hc;done)))|(refine ib (λhc=>?_) (λhc=>?_)<;>(try omega)<;>(try simp (disch:=omega) only [if_pos,if_neg])))
   refine⟨_,by first|rfl|(simp;rfl),trivial,?_⟩;apply ah.bO hS
   (·first|exact pP|exact kP)
 have Ql:IntKind.i64.wrap (cf.ba+jK)=cf.ba+jK:=ai (by omega) (by omega);have VL:IntKind.u64.wrap (IntKind.u64.wrap eH+1)=eH+1:=by
  rw [ar (x:=eH) (by omega) (by omega),ar (by omega) (by omega)]
 have hC1:gq ⟨cf,am,aA,az,value,bY,aj,reads,ak++[jK],av,set,bu,aw,ao,aJ,aI,an,.bF⟩:=by
  refine⟨hC.cf,hC.Pi,hC.bu,hC.ef,hC.dJ,hC.Hs,?_,?_,?_,hC.set,hC.jB,hC.Bq⟩;intro x hx;rcases List.mem_append.1 hx with h1|h1;exact hC.O2 x h1;simp at h1;subst h1;omega;show (ak++[jK]).length<=8;simp;omega;show an<=(ak++[jK]).length;have:=hC.push;dsimp only at this;simp;omega
 have N2:=uf b ⟨cf,am,aA,az,value,bY,aj,reads,ak++[jK],av,set,bu,aw,ao,aJ,aI,an,.bF⟩ (cf.ba+jK) (eH+1) rfl hC1 (by omega)
 have e:gP ⟨cf,am,aA,az,value,bY,aj,reads,ak,av,set,bu,aw,ao,aJ,aI,an,.bF⟩ eH jK =
  if (kW ⟨cf,am,aA,az,value,bY,aj,reads,ak++[jK],av,set,bu,aw,ao,aJ,aI,an,.bF⟩ (cf.ba+jK) (eH+1)).1=true then
   if (iU (2 ^ eH.toNat) (iB cf jK) (kW ⟨cf,am,aA,az,value,bY,aj,reads,ak++[jK],av,set,bu,aw,ao,aJ,aI,an,.bF⟩ (cf.ba+jK) (eH+1)).2).1=true then { (iU (2 ^ eH.toNat) (iB cf jK) (kW ⟨cf,am,aA,az,value,bY,aj,reads,ak++[jK],av,set,bu,aw,ao,aJ,aI,an,.bF⟩ (cf.ba+jK) (eH+1)).2).2 with value:=IntKind.u64.wrap (iB cf jK) }
   else (iU (2 ^ eH.toNat) (iB cf jK) (kW ⟨cf,am,aA,az,value,bY,aj,reads,ak++[jK],av,set,bu,aw,ao,aJ,aI,an,.bF⟩ (cf.ba+jK) (eH+1)).2).2
  else (kW ⟨cf,am,aA,az,value,bY,aj,reads,ak++[jK],av,set,bu,aw,ao,aJ,aI,an,.bF⟩ (cf.ba+jK) (eH+1)).2:=if_neg h
 rcases uU ⟨cf,am,aA,az,value,bY,aj,reads,ak++[jK],av,set,bu,aw,ao,aJ,aI,an,.bF⟩ (cf.ba+jK) (eH+1) with ⟨h9,e9⟩|⟨h9,e9⟩
 . have hC2:=hC1.put (a:=cf.ba+jK) (by omega) (eH+1);rw [e9] at N2 e;rw [if_pos rfl] at e;rw [e];dsimp only at N2 hC2 ⊢;have Ta:=Dh cf hC.cf jK (by omega);dsimp only [bq.v] at Ta;have AI:¬eH<0:=(by omega);obtain⟨n,hn⟩:∃n,2 ^ eH.toNat=n:=⟨_,rfl⟩;have hn8:n<=8:=by
    have h4:eH=0\/eH=1\/eH=2\/eH=3:=(by omega);rcases h4 with rfl|rfl|rfl|rfl<;>(rw [<-hn];decide)
   have hsh:oN .shl .i64 1 eH=some (.int .i64 (n:Int)):=by
    have h4:eH=0\/eH=1\/eH=2\/eH=3:=(by omega);rw [<-hn];rcases h4 with rfl|rfl|rfl|rfl<;>rfl
   obtain⟨_,Tb,hf1⟩:=yi hC.cf jK (by dsimp only;omega);dsimp only at Tb hf1;have GS:iB cf jK<=64:=by
    have h5:(0:Int)<2 ^ (dL cf jK).toNat:=Int.pow_pos (by omega);omega
   rw [hn];generalize iB cf jK=fst at *
   repeat' (first|(with_reducible apply lwI;(·first|(simp;done)|(simp;rfl));(·first|(simp;done)|(simp;rfl));(·exact wA);(·exact sA);(·first|exact pP|exact kP);(·first|(simp;done)|(simp;rfl)|(simp [hq];done)|(simp [hq];rfl));(·first|omega|(simp;omega));(·intro _ _;trivial);rintro _ _ _ hS hw _;(try dsimp only [AW.aV] at hS);have hq:=FC hS hw)|(refine jX λR hR=>?_;simp [ai,ar,hq,h,Ql,VL,hsh,AW.af,aB];try simp (disch:=omega) only [if_pos,if_neg,ai,ar])|(refine hR _ _ ?_;clear hR R)|(refine hK _ _ ?_;clear hK K)|refine nx ?_|refine wn λK hK=>?_|simp only [wS]|(refine bD (EK _ (by simp [hq])) ?_;rintro _ _ ⟨rfl,rfl⟩ _ _)|(refine bD (Ta _) ?_;rintro _ _ ⟨rfl,rfl⟩ _ _)|(apply bf.Pe (N2);(·exact wA);(·exact sA);(·exact fP);(·first|exact pP|exact kP);(rintro _ _ rfl hS hw _;have hS:=lA hS;(obtain ⟨x0,hS⟩:=aX.open hS .z;(unhygienic cases x0);dsimp only [b9,gZ,cF,ez,br.gf,aa,ag] at hS;have hq:=eK hS hw));all_goals(try (first|exact 0|exact undef)))|(show cM _ _ _ _ _ _;refine nx ?_)|(refine wc rfl (λhc=>?_) (λhc=>?_)<;>(try simp at hc)<;>(try omega)<;>(try (simp [h2] at hc;done))<;>(try (simp [h3] at hc;done))<;>(try (simp [h4] at hc;done)))|(refine ib (λhc=>?_) (λhc=>?_)<;>(try omega)<;>(try simp (disch:=omega) only [if_pos,if_neg])))
   refine cW (λkk fr A'=>A'.Wf/\∃(i:Nat) (si:aM),kk=n-i/\i<=n/\fr 0=pv b/\fr 5=.int .i64 fst/\fr 49=.int .i64 n/\fr 50=.int .i64 i/\si.aG=.bF/\gq si/\
    iU n fst ⟨cf,am,aA,az,value,bY,aj,reads,ak++[jK],av,set,(fH bu (cf.ba+jK) (eH+1)).2,aw,ao,aJ,aI,an,.bF⟩=iU (n-i) (fst+i) si/\ah A' [.h (aX b si),.h F]) n ?_ ?_
   . refine⟨hw,0,⟨cf,am,aA,az,value,bY,aj,reads,ak++[jK],av,set,(fH bu (cf.ba+jK) (eH+1)).2,aw,ao,aJ,aI,an,.bF⟩,by simp,by simp,by simp,by simp,by simp,by simp,rfl,hC2,by simp,?_⟩;apply aX.bO
     (·exact sA)
     exact fP
     (·first|exact pP|exact kP)
     all_goals(first|exact 0|exact undef)
   clear hS hq;rintro kk fr A' ⟨hw,i,si,rfl,hi,h0,h5,UO,Ws,hsd,hCs,hz,hS⟩;refine aO ?_;by_cases bL:i<n
   . have gW:(i:Int)<n:=(by omega);have fU:=uR (i:=i);have VK:IntKind.i64.wrap (fst+(i:Int))=fst+(i:Int):=ai (by omega) (by omega);have OT:n-i=(n-(i+1))+1:=(by omega);have SR:=uf b si (fst+i) 0 hsd hCs (by omega);rw [OT,HT] at hz;rcases uU si (fst+i) 0 with ⟨g9,f9⟩|⟨g9,f9⟩
     . rw [f9] at SR hz;rw [if_pos rfl] at hz;revert hq hS hw;(repeat first|clear hq|clear hS|clear hw|revert hc|revert R|revert K);refine Wp (J1 @SR) (J8 h0 h5 UO Ws gW fU VK bz) ?_<;>(unhygienic intros);refine⟨n-(i+1),by omega,hw,i+1,{ si with bu:=(fH si.bu (fst+i) 0).2 },rfl,by omega,by simp [h0],by simp [h5],by simp [UO],by simp,hsd,hCs.put (by omega) 0,?_,hS⟩;rw [hz];have:fst+(i:Int)+1=fst+((i+1:Nat):Int):=by omega
       rw [this]
     rw [f9] at SR hz;rw [if_neg (by simp)] at hz;revert hq hS hw;(repeat first|clear hq|clear hS|clear hw|revert hc|revert R|revert K);refine Wp (J1 @SR) (J8 h0 h5 UO Ws gW fU VK bz) ?_<;>(unhygienic intros);refine⟨_,by first|rfl|(simp;rfl),trivial,?_⟩;rw [hz,if_neg (by simp)];exact hS
   have Ls:i=n:=(by omega);subst Ls;rw [Nat.sub_self,HS] at hz;obtain⟨cf,am,aA,az,value,bY,aj,reads,ak,av,set,bu,aw,ao,aJ,aI,an,aG⟩:=si;dsimp only at hsd;subst hsd;obtain⟨x0,hS⟩:=aX.open hS .z;(unhygienic cases x0);dsimp only [b9,gZ,cF,ez,br.gf,aa,ag] at hS;have hq:=eK hS hw;revert hq hS hw;(repeat first|clear hq|clear hS|clear hw|revert hc|revert R|revert K);refine Wp cd (J5 h0 h5 UO Ws bz) ?_<;>(unhygienic intros);refine⟨_,by first|rfl|(simp;rfl),trivial,?_⟩;rw [hz,if_pos rfl,show IntKind.u64.wrap fst=fst from ar (by omega) (by omega)];apply aX.bO
   (·exact sA)
   exact fP
   (·first|exact pP|exact kP)
   all_goals(first|exact 0|exact undef)
 rw [e9] at N2 e;rw [if_neg (by simp)] at e;rw [e];dsimp only at N2 ⊢
 repeat' (first|(with_reducible apply lwI;(·first|(simp;done)|(simp;rfl));(·first|(simp;done)|(simp;rfl));(·exact wA);(·exact sA);(·first|exact pP|exact kP);(·first|(simp;done)|(simp;rfl)|(simp [hq];done)|(simp [hq];rfl));(·first|omega|(simp;omega));(·intro _ _;trivial);rintro _ _ _ hS hw _;(try dsimp only [AW.aV] at hS);have hq:=FC hS hw)|(refine jX λR hR=>?_;simp [ai,ar,hq,h,Ql,VL,AW.af,aB];try simp (disch:=omega) only [if_pos,if_neg,ai,ar])|(refine hR _ _ ?_;clear hR R)|(refine hK _ _ ?_;clear hK K)|refine nx ?_|refine wn λK hK=>?_|simp only [wS]|(refine bD (EK _ (by simp [hq])) ?_;rintro _ _ ⟨rfl,rfl⟩ _ _)|(apply bf.Pe (N2);(·exact wA);(·exact sA);(·exact fP);(·first|exact pP|exact kP);(rintro _ _ rfl hS hw _;have hS:=lA hS);(try (have hq:=FC hS hw));all_goals(try (first|exact 0|exact undef)))|(show cM _ _ _ _ _ _;refine nx ?_)|(refine wc rfl (λhc=>?_) (λhc=>?_)<;>(try simp at hc)<;>(try omega)<;>(try (simp [h2] at hc;done))<;>(try (simp [h3] at hc;done))<;>(try (simp [h4] at hc;done)))|(refine ib (λhc=>?_) (λhc=>?_)<;>(try omega)<;>(try simp (disch:=omega) only [if_pos,if_neg])))
 refine⟨_,by first|rfl|(simp;rfl),trivial,?_⟩;apply ah.bO hS
 (·first|exact pP|exact kP)
end
section
open T12 T13
variable [Gl]
section
variable {A:AW} {L K:List It} {k:Value->AW->Prop} {b:Nat} {s:aM} {bR:Int}
theorem jP {fn:Fn} {cs:Array Value} {eb eG bH c8 cU m c0 c1 c2:Nat} {df bn bU bW eh dg eV bX bV bd dh dk gt ei:Value} (hw:A.Wf) (hS:ah A L) (e:aP L (b9 b s bR .bF ⟨eb,eG,bH,c8,cU,m,c0,c1,c2,df,bn,bU,bW,eh,dg,eV,bX,bV,bd,dh,dk,gt,ei⟩) K)
 (hk:∀v A',ah A' (b9 b s 1 .bF ⟨eb,eG,bH,c8,cU,m,c0,c1,c2,df,bn,bU,bW,eh,dg,eV,bX,bV,bd,dh,.func fn #[] cs,gt,ei⟩++K)->A'.Wf->k v A'):ax Tryz.prog 136 [pv b,.func fn #[] cs] A k:=by
 have key:bf Tryz.prog 136 [pv b,.func fn #[] cs] (b9 b s bR .bF ⟨eb,eG,bH,c8,cU,m,c0,c1,c2,df,bn,bU,bW,eh,dg,eV,bX,bV,bd,dh,dk,gt,ei⟩) (λ_=>True) (λ_=>b9 b s 1 .bF ⟨eb,eG,bH,c8,cU,m,c0,c1,c2,df,bn,bU,bW,eh,dg,eV,bX,bV,bd,dh,.func fn #[] cs,gt,ei⟩):=by
  intro A F hw hS;refine aF Tryz.func136 λ_=>?_;dsimp only [b9,aa,ag] at hS;have hq:=eK hS hw;revert hq hS hw;clear hS;clear hw;refine Wp cd (J1 bz) ?_<;>(unhygienic intros);refine⟨_,by first|rfl|(simp;rfl),trivial,?_⟩;apply ah.bO
  (·exact sA)
  (dsimp only [b9,tC,pU,lY,qq,wT,mf,lV,iL,pV,pM,wH,pN,aa,ag])
  (·first|exact pP|exact kP)
 exact key.eZ hw hS e λv A' _ h1 h2 _=>hk v A' h1 h2
theorem Ce {a:Int} {fn:Fn} {cs:Array Value} (hc:db s.cf) {eb eG bH c8 cU m c0 c1 c2:Nat} {df bn bU bW eh dg eV bX bV bd dh dk gt ei:Value} (hw:A.Wf) (hS:ah A L) (e:aP L (b9 b s bR .bF ⟨eb,eG,bH,c8,cU,m,c0,c1,c2,df,bn,bU,bW,eh,dg,eV,bX,bV,bd,dh,dk,gt,ei⟩) K)
 (hk:∀v n A',ah A' (.at n (il ⟨a,gz s.cf a,s.rv,0,0,0,false⟩)::(b9 b s 3 .bF ⟨eb,eG,bH,c8,cU,m,c0,c1,c2,df,bn,bU,bW,pv n,.int .i64 0,eV,bX,bV,bd,dh,dk,.func fn #[] cs,.int .i64 a⟩++K))->A'.Wf->k v A') :
 ax Tryz.prog 144 [pv b,.int .i64 a,.func fn #[] cs] A k:=by
 have key:bf Tryz.prog 144 [pv b,.int .i64 a,.func fn #[] cs] (b9 b s bR .bF ⟨eb,eG,bH,c8,cU,m,c0,c1,c2,df,bn,bU,bW,eh,dg,eV,bX,bV,bd,dh,dk,gt,ei⟩) (λ_=>True)
  (λ_=>[.h (pG λn=>aE (.at n (il ⟨a,gz s.cf a,s.rv,0,0,0,false⟩)::b9 b s 3 .bF ⟨eb,eG,bH,c8,cU,m,c0,c1,c2,df,bn,bU,bW,pv n,.int .i64 0,eV,bX,bV,bd,dh,dk,.func fn #[] cs,.int .i64 a⟩))]):=by
  intro A F hw hS;refine aF Tryz.func144 λ_=>?_;dsimp only [b9,aa,ag] at hS;have hq:=eK hS hw;have AH:=uV s.cf hc a;dsimp only [bq.v] at AH;revert hq hS hw;(try revert hc);clear hS;clear hw;refine Wp (J3 (Tg.mk (n:=30) (λA' h1 h2=>rI b s 3 .bF A' h1 h2)) @AH @GF) (J1 bz) ?_<;>(unhygienic intros);refine⟨_,by first|rfl|(simp;rfl),trivial,?_⟩;apply ah.bO (L:=.h (pG λn=>aE (.at n (il ⟨a,gz s.cf a,s.rv,0,0,0,false⟩)::b9 b s 3 .bF ⟨eb,eG,bH,c8,cU,m,c0,c1,c2,df,bn,bU,bW,pv n,.int .i64 0,eV,bX,bV,bd,dh,dk,.func fn #[] cs,.int .i64 a⟩))::[.h F]) ?_ (.s .z (.s .z .z));apply ah.bO;apply gN (g:=λn=>.at n (il ⟨a,gz s.cf a,s.rv,0,0,0,false⟩)::b9 b s 3 .bF ⟨eb,eG,bH,c8,cU,m,c0,c1,c2,df,bn,bU,bW,pv n,.int .i64 0,eV,bX,bV,bd,dh,dk,.func fn #[] cs,.int .i64 a⟩)
  (·exact sA)
  (dsimp only [b9,tC,pU,lY,qq,wT,mf,lV,iL,pV,pM,wH,pN,aa,ag])
  (·first|exact pP|exact kP)
  (·first|exact pP|exact kP)
 refine key.eZ hw hS e λv A' _ h1 h2 _=>?_;obtain⟨n,h3⟩:=i9 h1 .z;exact hk v n A' h3 h2
end
end
end Go.Stx
