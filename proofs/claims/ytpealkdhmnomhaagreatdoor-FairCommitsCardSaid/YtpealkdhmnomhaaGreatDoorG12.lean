/-
 The program's attempt: what ends it.
-/
import Derived.Test.YtpealkdhmnomhaaGreatDoorG11
set_option linter.unusedVariables false
set_option linter.unusedSimpArgs false
set_option linter.unusedSectionVars false
set_option maxRecDepth 20000
set_option maxHeartbeats 4000000
open Go.IntKind renaming i64->qY,u64->q8
open Go.Proofs.Tryz renaming prog->qV
open Nat renaming lt_of_le_of_lt->Z8
open Bool renaming false->qk,true->qg
open Go renaming Value->qd,undef->qz
open Go.IntKind renaming i64->qa,u64->qj
open Go.Value renaming bool->qn,int->qb,slice->qf
open Option renaming some->qc
namespace Go.Stx
open Go Go.Proofs
attribute [local irreducible] TW bI cM aV aB aL cU dh
section
abbrev Lb:List (Nat×Nat):=[(0,0),(1,0),(2,0),(3,0),(4,0),(5,0),(6,0),(7,0),(8,0),(9,0),(10,0),(11,0),(12,0),(13,0),(14,0),(15,0),(16,0),(17,0)]
abbrev La:List (Nat×Nat):=[(0,0),(1,0),(2,0),(3,0),(4,0),(5,0),(6,0),(7,0),(8,0),(9,0),(10,0),(11,0)]
open T12 T13
variable [Gl]
theorem Lz (s:aI):(s.aD=1/\fH s={ s with aH:=.gq })\/((¬s.aD=1/\(s.ax:Int)=s.ar.length)/\fH s={ s with aH:=.gq }) \/
 ((¬s.aD=1/\¬(s.ax:Int)=s.ar.length)/\fH s={ s with aH:=.eC ⟨dN s.cf (s.ar.getD s.ax 0),s.ar.getD s.ax 0,0,0⟩ }):=by
 unfold fH;by_cases h1:s.aD=1;simp [h1];by_cases h2:s.ax=s.ar.length;simp [h1,h2];have h3:¬(s.ax:Int)=s.ar.length:=Ya
 simp [h1,h2,h3]
theorem yD (b:Nat) (s:aI) (cr:Int) (d:bJ) (hc:da s.cf) (rj:∀x∈s.ar,x<2^62) (hp:s.ax<=s.ar.length) (hl:s.ar.length<2^38) :
 bx qV 163 [pv b] [.h (jY b s cr d)] (λ_=>True) (λ_=>[.h (bp b (fH s))]):=by
 intro A F hw hS;refine aK Tryz.func163 λ_=>?_;obtain⟨x0,hS⟩:=jY.open hS .z;(unhygienic cases x0);dsimp only [cX,aa,ah] at hS;have hq:=RI hS hw;have hI:=aj.tC hS (.s (.s (.s (.s (.s (.s (.s .z)))))));obtain⟨oa,ca,rfl,_⟩:=hI.bR;rcases Lz s with ⟨h,e⟩|⟨h,e⟩|⟨h,e⟩
 . revert hq hS hw;(try revert hc);clear hS;refine Wp (J2 (od Lb) (od La)) (J2 h bC) ?_<;>(unhygienic intros);refine⟨_,by rfl,trivial,?_⟩;rw [e];apply bp.bX
   (·exact sA)
   exact fP
   (·exact pP)
   all_goals(exact 0)
 . revert hq hS hw;(repeat first|clear hS|revert hc);refine Wp (J2 (od Lb) (od La)) (J2 h bC) ?_<;>(unhygienic intros);refine⟨_,by rfl,trivial,?_⟩;rw [e];apply bp.bX
   (·exact sA)
   exact fP
   (·exact pP)
   all_goals(exact 0)
 have bY:s.ax<s.ar.length:=Ya
 have fo:(s.ax:Int)<s.ar.length:=Ya
 obtain⟨p,bS,rfl,bO,hcell⟩:=hI.at bY;have Tp:s.ar[s.ax]=s.ar.getD s.ax 0:=by rw [List.getD_eq_getElem?_getD,List.getElem?_eq_getElem bY];rfl
 have hx:s.ar.getD s.ax 0<2^62:=by rw [<-Tp];exact rj _ (List.getElem_mem bY)
 rw [Tp] at hcell;generalize s.ar.getD s.ax 0=x at *;have lh:=xd s.cf hc x hx;dsimp only [aY.v] at lh;revert hq hS hw;(repeat first|clear hS|revert hc);refine Wp (J4 (od Lb) (od La) @lh @Cl) (J6 h bO hcell bY fo bC) ?_<;>(unhygienic intros);refine⟨_,by rfl,trivial,?_⟩;rw [e];apply bp.bX
 (·exact sA)
 exact fP
 (·exact pP)
 all_goals(first|exact 0|exact qz)
theorem ke (b:Nat) (s:aI) (cr aD:Int) (d:bJ) (hc:da s.cf) (rj:∀x∈s.ar,x<2^62) (hp:s.ax<=s.ar.length) (hl:s.ar.length<2^38) :
 bx qV 206 [pv b,qb qa aD] [.h (jY b s cr d)] (λ_=>True) (λ_=>[.h (bp b (kE s aD))]):=by
 intro A F hw hS;refine aK Tryz.func206 λ_=>?_;obtain⟨x0,hS⟩:=jY.open hS .z;(unhygienic cases x0);dsimp only [cX,aa,ah] at hS;have hq:=RI hS hw
 repeat' (first|(refine iT λR hR=>?_;simp [hq,aG];try simp (disch:=omega) only [ay,aw,af,an])|(refine hR _ _ ?_;clear hR R)|(refine hK _ _ ?_;clear hK K)|refine nx ?_|refine wn λK hK=>?_|simp only [wS]|(apply bx.lj (yD b { s with aD:=aD } cr d hc rj hp hl);(·exact wA);(·exact sA);(·exact fP);(·exact pP);(rintro _ _ _ hS hw _;have hS:=lA hS);(try (have hq:=JL hS hw));all_goals(try (first|exact 0|exact qz))))
 exact⟨_,by rfl,trivial,aj.bX hS (.s .z (.s .z .z))⟩
end
section
open T12 T13
variable [Gl]
theorem JX (b:Nat) (s:aI) (d:bJ) (A:AW) (hw:A.Wf) (hS:aj A [.h (jY b s s.aH.gB d)]):fD 90 [pv b] A (qn s.kJ):=by
 refine aK Tryz.func90 λ_=>?_;obtain⟨x0,hS⟩:=jY.open hS .z;(unhygienic cases x0);dsimp only [cX,aa,ah] at hS;have hq:=fv hS hw;revert hq hS hw;clear hS;refine Wp cx (J1 @AW.ab) ?_<;>intros;exact⟨_,rfl,by simp [aI.kJ],rfl⟩
theorem F9 (b:Nat) (s:aI) (st:Int) (d:bJ) (A:AW) (hw:A.Wf) (hS:aj A [.h (jY b s s.aH.gB d)]):fD 171 [pv b,qb qa st] A (qb qa (if s.ga st=qg then 0 else 1)):=by
 refine aK Tryz.func171 λ_=>?_;have hb:=JX b s d A hw hS;obtain⟨x0,hS⟩:=jY.open hS .z;(unhygienic cases x0);dsimp only [cX,aa,ah] at hS;have hq:=fv hS hw;by_cases h1:s.aH.gB=0;have h2:s.kJ=qk:=by simp [aI.kJ,h1]
 rw [h2] at hb;by_cases h3:s.aF=st;revert hq hS hw;clear hS;refine Wp (J1 @hb) (J3 h1 h3 @AW.ab) ?_<;>intros;exact⟨_,rfl,by simp [aI.ga,h1,h3],rfl⟩;refine Wp (J1 @hb) (J3 h1 h3 @AW.ab) ?_<;>intros;exact⟨_,rfl,by simp [aI.ga,h1,h3],rfl⟩;have h2:s.kJ=qg:=by simp [aI.kJ,h1]
 rw [h2] at hb
 repeat' (first|(refine iT λR hR=>?_;simp [];try simp (disch:=omega) only [ay,aw,af,an])|(refine hR _ _ ?_;clear hR R)|(refine hK _ _ ?_;clear hK K)|refine nx ?_|refine wn λK hK=>?_|simp only [wS]|(refine bD (hb) ?_;rintro _ _ ⟨rfl,rfl⟩ _ _)|(show cM _ _ _ _ _ _;refine nx ?_)|(refine wc rfl (λhc=>?_) (λhc=>?_)<;>(try simp at hc)))
 exact⟨_,rfl,by simp [aI.ga,h1],rfl⟩
theorem r8 (b:Nat) (s:aI) (cr a:Int) (d:bJ) (hc:da s.cf) (A:AW) (hw:A.Wf) (hS:aj A [.h (jY b s cr d)]):fD 175 [pv b,qb qj a] A (qn (decide (s.cf.bg<=a))):=by
 refine aK Tryz.func175 λ_=>?_;obtain⟨x0,hS⟩:=jY.open hS .z;(unhygienic cases x0);dsimp only [cX,aa,ah] at hS;have hq:=fv hS hw;obtain⟨w0,w1⟩:=hc.bg;have VX:q8.wrap s.cf.bg=s.cf.bg:=an Ya Ya;revert hq hS hw;(try revert hc);clear hS;refine Wp cx (J2 VX @AW.ab) ?_<;>intros;exact⟨_,rfl,by simp,rfl⟩
theorem O4 (b:Nat) (s:aI) (cr:Int) (d:bJ) (A:AW) (hw:A.Wf) (hS:aj A [.h (jY b s cr d)]):fD 167 [pv b] A (qb qa s.aF):=by
 refine aK Tryz.func167 λ_=>?_;obtain⟨x0,hS⟩:=jY.open hS .z;(unhygienic cases x0);dsimp only [cX,aa,ah] at hS;have hq:=fv hS hw;revert hq hS hw;clear hS;refine Wp cx (J1 @AW.ab) ?_<;>intros;exact⟨_,rfl,rfl,rfl⟩
theorem TM (b:Nat) (s:aI) (cr:Int) (d:bJ) (A:AW) (hw:A.Wf) (hS:aj A [.h (jY b s cr d)]):fD 124 [pv b] A (qb qa s.aD):=by
 refine aK Tryz.func124 λ_=>?_;obtain⟨x0,hS⟩:=jY.open hS .z;(unhygienic cases x0);dsimp only [cX,aa,ah] at hS;have hq:=fv hS hw;revert hq hS hw;clear hS;refine Wp cx (J1 @AW.ab) ?_<;>intros;exact⟨_,rfl,rfl,rfl⟩
theorem OU (b:Nat) (s:aI) (cr:Int) (d:bJ) (A:AW) (hw:A.Wf) (hS:aj A [.h (jY b s cr d)]):fD 236 [pv b] A (qb qj s.value):=by
 refine aK Tryz.func236 λ_=>?_;obtain⟨x0,hS⟩:=jY.open hS .z;(unhygienic cases x0);dsimp only [cX,aa,ah] at hS;have hq:=fv hS hw;revert hq hS hw;clear hS;refine Wp cx (J1 @AW.ab) ?_<;>intros;exact⟨_,rfl,rfl,rfl⟩
theorem LI (b:Nat) (s:aI) (cr:Int) (d:bJ) (A:AW) (hw:A.Wf) (hS:aj A [.h (jY b s cr d)]):fD 122 [pv b] A (qn s.ao):=by
 refine aK Tryz.func122 λ_=>?_;obtain⟨x0,hS⟩:=jY.open hS .z;(unhygienic cases x0);dsimp only [cX,aa,ah] at hS;have hq:=fv hS hw;revert hq hS hw;clear hS;refine Wp cx (J1 @AW.ab) ?_<;>intros;exact⟨_,rfl,rfl,rfl⟩
theorem mi (b:Nat) (s:aI) (cr:Int) (d:bJ) (A:AW) (hw:A.Wf) (hS:aj A [.h (jY b s cr d)]):fD 225 [pv b] A (qn s.iO):=by
 refine aK Tryz.func225 λ_=>?_;obtain⟨x0,hS⟩:=jY.open hS .z;(unhygienic cases x0);dsimp only [cX,aa,ah] at hS;obtain⟨va,vv,vi,hS⟩:=sy.open hS (.s (.s (.s (.s (.s .z)))));obtain⟨oa,ca,rfl,_⟩:=(aj.tC hS (.s .z)).bR;have hll:=Nv fp _ oa _ ca vv vi A (hS.g 0 rfl);have hq:=fv hS hw;by_cases h:s.aD=1;revert hq hS hw;clear hS;clear hS;refine Wp (J1 @hll) (J2 h @AW.ab) ?_<;>intros;exact⟨_,rfl,by simp [aI.iO,h],rfl⟩;refine Wp (J1 @hll) (J2 h @AW.ab) ?_<;>intros;exact⟨_,rfl,by simp [aI.iO,h],rfl⟩
theorem rX (b:Nat) (s:aI) (cr:Int) (d:bJ) (A:AW) (hw:A.Wf) (hS:aj A [.h (jY b s cr d)]):fD 231 [pv b] A (qb qa s.oX):=by
 refine aK Tryz.func231 λ_=>?_;have dw:=mi b s cr d A hw hS;obtain⟨x0,hS⟩:=jY.open hS .z;(unhygienic cases x0);dsimp only [cX,aa,ah] at hS;have hq:=fv hS hw;cases h:s.ao<;>cases h2:s.iO
 all_goals(rw [h2] at dw)
 all_goals(revert hq hS hw;clear hS;refine Wp (J1 @dw) (J2 h @AW.ab) ?_<;>unhygienic intros)
 all_goals exact⟨_,rfl,by simp [aI.oX,h,h2],rfl⟩
theorem u9 (b:Nat) (s:aI) (cr:Int) (d:bJ) (A:AW) (hw:A.Wf) (hS:aj A [.h (jY b s cr d)]):fD 220 [pv b] A (qb qa s.rv):=by
 refine aK Tryz.func220 λ_=>?_;obtain⟨x0,hS⟩:=jY.open hS .z;(unhygienic cases x0);dsimp only [cX,aa,ah] at hS;cases he:s.bT with
 | none=>
   have hq:=fv hS hw;rw [he] at hq;dsimp only [pF] at hq;revert hq hS hw;clear hS;refine Wp cx (J1 @AW.ab) ?_<;>intros;exact⟨_,rfl,by simp [aI.rv,he],rfl⟩
 | some en=>
   rw [he] at hS;have hge:A.bk b8=qc (iQ en):=(OJ.op hS (.s .z)).g 0 rfl;have hsn:=yL b8 en A hge;have hq:=fv hS hw;rw [he] at hq;dsimp only [pF] at hq;refine Wp (J1 @hsn) (J1 @AW.ab) ?_<;>intros;exact⟨_,rfl,by simp [aI.rv,he],rfl⟩
end
section
open T7
variable [Gl]
theorem Ld (a o rv:Int) (A:AW):aB qV 243 [qb qa a,qb qa o,qb qa rv] A (λv A'=>v=.pointer (qc ⟨A.next,0,none⟩)/\A'=A.alloc (jw ⟨a,o,rv,0,0,0,qk⟩)):=by
 refine aK Tryz.func243 λ_=>?_;refine W cx (J1 @jw.eq_1) ?_<;>intros;exact⟨_,rfl,rfl,rfl⟩
theorem Li (b:Nat) (s:iI) (A:AW) (F:HP) (h:bB A (iV b s*F)) (hl:s.ey.length<2^38) :
 aB qV 269 [.pointer (qc ⟨b,0,none⟩)] A (λv A'=>eE A.next A' qj v s.ey/\A.le A'):=by
 refine aK Tryz.func269 λhw=>?_;obtain⟨vo,vw,hS⟩:=iV.open h;have hg:=hS.bk;revert hS hw;refine W cx (J2 hg @AW.ab) ?_<;>(unhygienic intros);refine bD (jK vw s.ey A (au.is hS.right.right) Ya) ?_;rintro u A1 ⟨h1,h2⟩ iZ _;refine W cx cx ?_<;>intros;exact⟨_,by (simp;done),h1,h2⟩
section
variable {A:AW} {L K K2:List It} {k:qd->AW->Prop}
theorem Np {t:Int} {vi:qd} {l:List Int} (hw:A.Wf) (hS:aj A L) (hp:aE L (.h (au qa vi l)) K) (hl:l.length<2^38)
 (hk:∀n A',aj A' (.h (iV n ⟨t,ft l,[],0,qk⟩)::L)->A'.Wf->k (pv n) A'):aB qV 241 [qb qa t,vi] A k:=by
 refine bD (Le t vi l A (aO L) (aj.tC hS hp) hl hw hS) ?_;rintro _ A' ⟨n,rfl,h1⟩ jN _;exact hk n A' h1 jN
theorem yl {vi vw:qd} {l ws:List Int} (hw:A.Wf) (hS:aj A L) (hp:aE L (.h (au qa vi l)) K) (IS:aE L (.h (au qj vw ws)) K2) (hl:l.length<2^38) (he:l.length=ws.length)
 (hk:∀n A',aj A' (.h (ji n ⟨l,ws⟩)::L)->A'.Wf->A.le A'->k (pv n) A'):aB qV 232 [vi,vw] A k:=by
 refine bD (ID vi vw l ws A (aO L) (aj.tC hS hp) (aj.tC hS IS) he hl hw hS) ?_;rintro _ A' ⟨n,rfl,h1,h2⟩ jN _;exact hk n A' h1 jN h2
theorem Lc {vi vw:qd} {l ws:List Int} (hw:A.Wf) (hS:aj A L) (hp:aE L (.h (au qa vi l)) K) (IS:aE L (.h (au qj vw ws)) K2) (hl:l.length<2^38) (he:l.length=ws.length)
 (hk:∀n A',aj A' (.h (ji n ⟨l,ws⟩)::L)->A'.Wf->A.le A'->k (pv n) A'):aB qV 226 [vi,vw] A k:=by
 refine bD (Nj vi vw l ws A (aO L) (aj.tC hS hp) (aj.tC hS IS) he hl hw hS) ?_;rintro _ A' ⟨n,rfl,h1,h2⟩ jN _;exact hk n A' h1 jN h2
theorem se {v:qd} {l:List Int} {rv:Int} (hw:A.Wf) (hS:aj A L) (hp:aE L (.h (au qa v l)) K) (hl:l.length<2^38)
 (hk:∀n A',aj A' (.h (kD n ⟨l,rv,qk⟩)::L)->A'.Wf->A.le A'->k (pv n) A'):aB qV 218 [v,qb qa rv] A k:=by
 refine bD (Nq v l rv A (aO L) (aj.tC hS hp) hl hw hS) ?_;rintro _ A' ⟨n,rfl,h1,h2⟩ jN _;exact hk n A' h1 jN h2
theorem O7 {vi:qd} {l:List Int} (hw:A.Wf) (hS:aj A L) (hp:aE L (.h (au qa vi l)) K) (hl:l.length<2^38)
 (hk:∀o c A',aj A' (.h (au qa (qf o (ft l).length c) (ft l))::L)->A'.Wf->A.le A'->k (qf o (ft l).length c) A'):aB qV 240 [vi] A k:=by
 refine bD (D5 vi l A (aj.tC hS hp) Ya) ?_;rintro u A' ⟨h1,h2⟩ jN _;obtain⟨o,c,rfl,_⟩:=h1.is.bR;exact hk o c A' (au.jd hS hw h2 h1) jN h2
theorem wT {n:Nat} {s:uU} (hw:A.Wf) (hS:aj A L) (hp:aE L (.h (sy n s)) K) (hl:s.bZ.length<2^38)
 (hk:∀o c A',aj A' (.h (au qa (qf o s.bZ.length c) s.bZ)::L)->A'.Wf->A.le A'->k (qf o s.bZ.length c) A'):aB qV 166 [pv n] A k:=by
 obtain⟨va,vv,vi,h0⟩:=sy.open hS hp;refine bD (IJ n s.eV va vv vi s.bZ A (h0.g 0 rfl) (aj.tC h0 (.s .z)) Ya) ?_;rintro u A' ⟨h1,h2⟩ jN _;obtain⟨o,c,rfl,_⟩:=h1.is.bR;exact hk o c A' (au.jd hS hw h2 h1) jN h2
theorem II {n:Nat} {s:uU} (hw:A.Wf) (hS:aj A L) (hp:aE L (.h (sy n s)) K) (hl:s.fU.length<2^38)
 (hk:∀o c A',aj A' (.h (au qj (qf o s.fU.length c) s.fU)::L)->A'.Wf->A.le A'->k (qf o s.fU.length c) A'):aB qV 227 [pv n] A k:=by
 obtain⟨va,vv,vi,h0⟩:=sy.open hS hp;refine bD (GB n s.eV va vv vi s.fU A (h0.g 0 rfl) (aj.tC h0 (.s (.s .z))) Ya) ?_;rintro u A' ⟨h1,h2⟩ jN _;obtain⟨o,c,rfl,_⟩:=h1.is.bR;exact hk o c A' (au.jd hS hw h2 h1) jN h2
theorem tU {n eV:Nat} {l:List Int} (hw:A.Wf) (hS:aj A L) (hp:aE L (.h (Ae n eV l)) K) (hl:l.length<2^38)
 (hk:∀o c A',aj A' (.h (au qa (qf o l.length c) l)::L)->A'.Wf->A.le A'->k (qf o l.length c) A'):aB qV 219 [pv n] A k:=by
 obtain⟨v,h0⟩:=Ae.open hS hp;refine bD (KH n eV v l A (h0.g 0 rfl) (aj.tC h0 (.s .z)) Ya) ?_;rintro u A' ⟨h1,h2⟩ jN _;obtain⟨o,c,rfl,_⟩:=h1.is.bR;exact hk o c A' (au.jd hS hw h2 h1) jN h2
theorem wR {n:Nat} {s:uU} {a:Int} (mF:ry s) (yx:s.eV<=32) (OQ:s.index.length<=64) (ha:0<=a) (hw:A.Wf) (hS:aj A L) (hp:aE L (.h (sy n s)) K)
 (hk:k (.tuple #[qb qj (mn s a).1,qn (mn s a).2]) A):aB qV 178 [pv n,qb qa a] A k:=by
 obtain⟨va,vv,vi,h0⟩:=sy.open hS hp;refine bD (Nw n va vv vi s a A mF ha yx OQ (h0.g 0 rfl) (aj.tC h0 (.s .z)) (aj.tC h0 (.s (.s .z))) (aj.tC h0 (.s (.s (.s .z))))) ?_;rintro _ _ ⟨rfl,rfl⟩ _ _;exact hk
theorem Ny {n:Nat} {s:iI} (hw:A.Wf) (hS:aj A L) (hp:aE L (.h (iV n s)) K) (hl:s.ey.length<2^38)
 (hk:∀o c A',aj A' (.h (au qj (qf o s.ey.length c) s.ey)::L)->A'.Wf->A.le A'->k (qf o s.ey.length c) A'):aB qV 269 [pv n] A k:=by
 have h0:bB A (iV n s*aO K):=by
  unfold aj at hS;rw [hp.aO] at hS;exact hS
 refine bD (Li n s A (aO K) h0 hl) ?_;rintro u A' ⟨h1,h2⟩ jN _;obtain⟨o,c,rfl,_⟩:=h1.is.bR;exact hk o c A' (au.jd hS hw h2 h1) jN h2
end
end
section
open T12 T13
variable [Gl]
structure iu (s:aI):Prop where
 cf:da s.cf
 Mn:0<=s.am/\s.am<1024
 bG:ry s.bG
 eV:s.bG.eV<=32
 cg:s.bG.index.length<=64
 Ka:∀a∈s.bG.bZ,a<2^40
 Uw:∀x∈s.ar,0<=x/\x<2^40
 oO:s.ar.length<=8
 push:s.ax<=s.ar.length
 set:s.set.length<=s.cf.reads.toNat
 iJ:s.reads.length<2^20
 E1:s.aA.length<=8
theorem iu.al {s:aI} (h:iu s):∀x∈s.ar,x<2^62:=λx hx=>by have:=(h.Uw x hx).2;omega
theorem iu.len {s:aI} (h:iu s):s.bG.bZ.length<=32:=Nat.le_trans h.bG.eV h.eV
theorem zl (s:aI) (a v:Int):((gu s.bG a v).1=qg/\jS s a v=(qg,{ s with bG:=(gu s.bG a v).2 }))\/((gu s.bG a v).1=qk/\jS s a v=(qk,kE s 3)):=by
 unfold jS;cases h:(gu s.bG a v).1<;>simp
theorem yi (b:Nat) (s:aI) (a v:Int) (hd:s.aH=.bL) (hC:iu s) (ha:0<=a) :
 bx qV 183 [pv b,qb qa a,qb qj v] [.h (bp b s)] (λu=>u=qn (jS s a v).1) (λ_=>[.h (bp b (jS s a v).2)]):=by
 have hcs:=zl s a v;(unhygienic cases s);dsimp only at hd;subst hd;intro A F hw hS;refine aK Tryz.func183 λ_=>?_;obtain⟨x0,hS⟩:=bp.open hS .z;(unhygienic cases x0);dsimp only [cX,jk,dk,fi,bJ.gB,aa,ah] at hS;have hq:=fv hS hw;dsimp only at hcs;rcases hcs with ⟨h,e⟩|⟨h,e⟩
 . have lp:=Eh fp bG a v hC.bG ha hC.eV hC.cg;rw [h] at lp;revert hq hS hw;clear hS;refine Wp (J1 @lp) (J1 bC) ?_<;>(unhygienic intros);rw [e];refine⟨_,by rfl,rfl,?_⟩;apply bp.bX
   (·exact sA)
   exact fP
   (·exact pP)
   all_goals(exact 0)
 have lp:=Eh fp bG a v hC.bG ha hC.eV hC.cg;rw [h] at lp;have gZ:(gu bG a v).2=bG:=by
  revert h;unfold gu;split;simp;split<;>simp
 rw [gZ] at lp;revert hq hS hw;(repeat clear hS);refine Wp (J2 (Tg.mk (n:=20) (ke b ⟨cf,am,aF,aD,value,bT,ao,reads,ar,aA,set,bG,aC,av,aP,aN,ax,.bL⟩ 0 3 .bL hC.cf hC.al hC.push (Z8 hC.oO Yf))) @lp) (J1 bC) ?_<;>(unhygienic intros);rw [e];exact⟨_,by rfl,rfl,aj.bX hS (.s .z (.s .z .z))⟩
theorem iu.to {s s':aI} (hC:iu s) (h1:s'.cf=s.cf) (h2:s'.am=s.am) (h3:s'.bG=s.bG) (h4:s'.ar=s.ar) (h5:s'.ax=s.ax) (h6:s'.set=s.set) (h7:s'.reads=s.reads) (h8:s'.aA=s.aA):iu s':=by
 (unhygienic cases s);obtain⟨cf',thread',state',rq,value',ent',W0,reads',allocs',frees',set',log',clock',orecs',lock',turn',pushed',doing'⟩:=s';dsimp only at h1 h2 h3 h4 h5 h6 h7 h8;subst h1 h2 h3 h4 h5 h6 h7 h8;exact⟨hC.cf,hC.Mn,hC.bG,hC.eV,hC.cg,hC.Ka,hC.Uw,hC.oO,hC.push,hC.set,hC.iJ,hC.E1⟩
theorem M6 (p:rM) (M:Mm):(gH p M).2.1.eZ=p.eZ:=by
 rcases JC p M with ⟨h,e⟩|⟨h,e⟩|⟨h,e⟩|⟨w,h,e⟩|⟨w,h,e⟩|⟨h,e⟩<;>rw [e]
end
section
abbrev Rz:List (Nat×Nat):=[(0,0),(1,0),(2,0),(3,0),(4,0),(5,0),(6,0),(7,0),(8,0),(9,0),(10,0),(11,2),(12,2),(13,0),(14,0),(15,3),(16,0),(17,0),(18,0),(19,3)]
abbrev Cj:List (Nat×Nat):=[(0,0),(1,0),(2,0),(3,0),(4,0),(5,0),(6,0),(7,0),(8,0),(9,0),(10,3),(11,0),(12,0),(13,3),(14,0),(15,0),(16,0),(17,3)]
open T12 T13
variable [Gl]
theorem wu (b:Nat) (s:aI) (cr:Int) (d:bJ) (hl:s.av.length<2^20) (Wi:s.av.length=0\/∃l,s.aP=qc l/\s.av.length=l.ey.length) :
 bx qV 224 [pv b] [.h (jY b s cr d)] (λ_=>True) (λ_=>[.h (bp b (fO s))]):=by
 (unhygienic cases s);dsimp only at hl Wi;by_cases h0:av.length=0
 . have e:fO ⟨cf,am,aF,aD,value,bT,ao,reads,ar,aA,set,bG,aC,av,aP,aN,ax,aH⟩=⟨cf,am,aF,aD,value,bT,ao,reads,ar,aA,set,bG,aC,av,aP,aN,ax,.eb⟩:=ay h0;intro A F hw hS;refine aK Tryz.func224 λ_=>?_;obtain⟨x0,hS⟩:=jY.open hS .z;(unhygienic cases x0);dsimp only [cX,aa,ah] at hS;have hq:=fv hS hw;obtain⟨oo,co,rfl,_⟩:=(aj.tC hS (.s (.s (.s (.s (.s (.s (.s (.s (.s .z)))))))))).bR;have h1:(av.length:Int)=0:=Ya;revert hq hS hw;clear hS;refine Wp (J1 (od Rz)) (J2 h1 bC) ?_<;>(unhygienic intros);rw [e];refine⟨_,by rfl,trivial,?_⟩;apply bp.bX
   (·exact sA)
   exact fP
   (·exact pP)
   all_goals(exact 0)
 obtain⟨l,rfl,zF⟩:∃l,aP=qc l/\av.length=l.ey.length:=by
  rcases Wi with h|h;exact absurd h h0;exact h
 have e:fO ⟨cf,am,aF,aD,value,bT,ao,reads,ar,aA,set,bG,aC,av,qc l,aN,ax,aH⟩=⟨cf,am,aF,aD,value,bT,ao,reads,ar,aA,set,bG,aC,av,qc l,aN,ax,.bE ⟨av,l.ey⟩⟩:=aw h0;intro A F hw hS;refine aK Tryz.func224 λ_=>?_;obtain⟨x0,hS⟩:=jY.open hS .z;(unhygienic cases x0);dsimp only [cX,aa,ah] at hS;have hq:=fv hS hw;have hS:=xm.op hS (.s (.s .z));obtain⟨oo,co,rfl,_⟩:=(aj.tC hS (.s (.s (.s (.s (.s (.s (.s (.s (.s .z)))))))))).bR;dsimp only [kF] at hq;have h1:¬(av.length:Int)=0:=Ya
 have h2:¬av=[]:=λh=>by rw [h] at h0;exact h0 rfl
 revert hq hS hw;(repeat clear hS);refine Wp (J3 (Tg.mk (n:=11) @Ny) (Tg.mk (n:=12) @yl) (od Rz)) (J3 h1 h2 bC) ?_<;>(unhygienic intros);rw [e];refine⟨_,by rfl,trivial,?_⟩;apply bp.bX
 (·exact sA)
 exact fP
 (·exact pP)
 all_goals(first|exact 0|exact qz)
theorem Iq (l:List Int):(ft l).length<=l.length:=by
 have:=yR (tT l)
 simpa [ft,tT] using this
theorem TK (s:aI) (aD:Int):((decide (aD=1) && decide (0<s.bG.bZ.length))=qk/\nE s aD={ s with aD:=aD,aN:=qc ⟨qk,0,qk⟩,aH:=.cY }) \/
 ((decide (aD=1) && decide (0<s.bG.bZ.length))=qg/\nE s aD={ s with aD:=aD,av:=ft (s.bG.bZ.map (gV s.cf)),aP:=qc ⟨s.am,ft (ft (s.bG.bZ.map (gV s.cf))),[],0,qk⟩,aH:=.eg }):=by
 unfold nE;cases h:(decide (aD=1) && decide (0<s.bG.bZ.length))<;>simp
theorem yO (b:Nat) (s:aI) (rq:Int) (hd:s.aH=.bL) (hC:iu s) :
 bx qV 174 [pv b,qb qa rq] [.h (bp b s)] (λ_=>True) (λ_=>[.h (bp b (nE s rq))]):=by
 have hcs:=TK s rq;(unhygienic cases s);dsimp only at hd;subst hd;intro A F hw hS;refine aK Tryz.func174 λ_=>?_;obtain⟨x0,hS⟩:=bp.open hS .z;(unhygienic cases x0);dsimp only [cX,jk,dk,fi,bJ.gB,aa,ah] at hS;have hq:=fv hS hw;dsimp only at hcs;have bW:=hC.len;dsimp only at bW
 have dw:∀A',A'.Wf->aj A' [.h (jY b ⟨cf,am,aF,rq,value,bT,ao,reads,ar,aA,set,bG,aC,av,aP,aN,ax,.bL⟩ 0 .bL)]->fD 225 [pv b] A' (qn (decide (rq=1) && decide (0<bG.bZ.length))):=
  λA' h1 h2=>mi b _ 0 .bL A' h1 h2
 rcases hcs with ⟨h,e⟩|⟨h,e⟩
 . rw [h] at dw;rw [e];revert hq hS hw;clear hS;refine Wp (J3 (Tg.mk (n:=30) @dw) (od Cj) @oG) (J1 bC) ?_<;>(unhygienic intros);refine⟨_,by rfl,trivial,?_⟩;apply bp.bX
   (·exact sA)
   exact fP
   (·exact pP)
   all_goals(exact 0)
 rw [h] at dw;rw [e];revert hq hS hw;(repeat clear hS);refine Wp (J2 (Tg.mk (n:=30) @dw) (od Cj)) (J1 bC) ?_<;>(unhygienic intros);apply wT (n:=fp) (s:=bG)
 (·exact wA)
 (·exact sA)
 (·exact kP)
 omega;intro o1 c3 A1 hS hw _;have hS:aj A1 (.h (au qa (qf o1 bG.bZ.length c3) bG.bZ)::(cX b ⟨cf,am,aF,rq,value,bT,ao,reads,ar,aA,set,bG,aC,av,aP,aN,ax,.bL⟩ 0 .bL ⟨eT,fp,b8,dz,dv,m,c0,c1,c2,dE,bF,cF,cJ,fa,dF,fJ,cK,cH,br,dG,dP,iw,fb⟩++[.h F])):=by
  apply aj.bX hS;dsimp only [cX,xI,jk,dk,fi,bJ.gB,sX,nD,tz,AV,nG,nA,jQ,sY,sP,AK,sQ,aa,ah]
  (·exact pP)
 have pu:=zm cf hC.cf;dsimp only [aY.v] at pu;generalize hn:bG.bZ=ad at *;revert hq hS hw;(repeat first|clear hS|clear hw|revert hc|revert R|revert K);refine Wp (J1 (od Cj)) (J1 bC) ?_<;>(unhygienic intros)
 refine df (λk fr A'=>A'.Wf/\∃(i:Nat) (v:qd) (q:List Int),q=(ad.take i).map (gV cf)/\k=ad.length-i/\i<=ad.length/\fr 0=pv b/\fr 4=v/\fr 27=qf o1 ad.length c3/\fr 28=qb qa ad.length/\fr 29=qb qa i/\
  aj A' (.h (au qa v q)::.h (au qa (qf o1 ad.length c3) ad)::(cX b ⟨cf,am,aF,rq,value,bT,ao,reads,ar,aA,set,bG,aC,av,aP,aN,ax,.bL⟩ 0 .bL ⟨eT,fp,b8,dz,dv,m,c0,c1,c2,dE,bF,cF,cJ,fa,dF,fJ,cK,cH,br,dG,dP,iw,fb⟩++[.h F]))) ad.length ?_ ?_
 refine⟨hw,0,qf none 0 0,[],by simp,by simp,by simp,by simp,by simp,by simp,by simp,by simp,?_⟩
 simpa using aj.vF qa hS
 rintro k fr A' ⟨hw,i,v,q,IQ,rfl,hi,h0,h4,h27,h28,h29,hS⟩;have hI:=aj.tC hS (.s .z);have hIv:=aj.tC hS .z;have hql:q.length=i:=by rw [IQ];simp;omega
 obtain⟨ov,cv,rfl,_⟩:=hIv.bR;dsimp only [cX,xI,jk,dk,fi,bJ.gB,sX,nD,tz,AV,nG,nA,jQ,sY,sP,AK,sQ,aa,ah] at hS;have hq:=RI hS hw;refine aT ?_;by_cases bY:i<ad.length
 . have fo:(i:Int)<ad.length:=Ya;have gC:=zd (i:=i);obtain⟨p,bS,rfl,bO,hcell⟩:=hI.at bY;revert hq hS hw;(repeat first|clear hq|clear hS|clear hw|revert hc);refine Wu (J2 (od Cj) @pu) (H7 h0 h4 h27 h28 h29 bO hcell bY fo gC bC) ?_<;>(unhygienic intros);refine⟨ad.length-(i+1),by omega,hw,i+1,_,q++[gV cf ad[i]],?_,rfl,by omega,by simp [h0],by simp;rfl,by simp [h27],by simp [h28],by simp,?_⟩;rw [IQ,List.take_succ_eq_append_getElem bY,List.map_append];rfl;apply aj.bX hS;dsimp only [cX,xI,jk,dk,fi,bJ.gB,sX,nD,tz,AV,nG,nA,jQ,sY,sP,AK,sQ,aa,ah]
   (·exact pP)
 have Lu:i=ad.length:=Ya
 subst Lu;rw [List.take_length] at IQ;have OO:(ft q).length<=q.length:=Iq q;revert hq hS hw;(repeat first|clear hq|clear hS|clear hw|revert hc);refine Wp (J3 (Tg.mk (n:=11) @O7) (Tg.mk (n:=11) @Np) (od Cj)) (J6 h0 h4 h27 h28 h29 bC) ?_<;>(unhygienic intros);rw [<-IQ];refine⟨_,by rfl,trivial,?_⟩;apply bp.bX
 (·exact sA)
 exact fP
 (·exact pP)
 all_goals(exact 0)
end
section
abbrev Ci:List (Nat×Nat):=[(0,0),(1,0),(2,0),(3,0),(4,0),(5,0),(6,0),(7,0),(8,0),(9,0),(10,0),(11,0),(12,0)]
open T12 T13
variable [Gl]
theorem Cq (s:uU) (a v:Int):(gu s a v).2.eV=s.eV/\(gu s a v).2.index.length=s.index.length/\(∀x∈(gu s a v).2.bZ,x∈s.bZ\/x=a):=by
 unfold gu;split;exact⟨rfl,rfl,λx hx=>.inl hx⟩;split;exact⟨rfl,rfl,λx hx=>.inl hx⟩;exact⟨rfl,by simp,λx hx=>by simpa using hx⟩
theorem iu.put {s:aI} (hC:iu s) {a:Int} (ha:0<=a/\a<2^40) (v:Int):iu { s with bG:=(gu s.bG a v).2 }:=by
 obtain⟨h1,h2,h3⟩:=Cq s.bG a v;refine⟨hC.cf,hC.Mn,JH hC.bG ha.1 v,?_,?_,?_,hC.Uw,hC.oO,hC.push,hC.set,hC.iJ,hC.E1⟩;show (gu s.bG a v).2.eV<=32;rw [h1];exact hC.eV;show (gu s.bG a v).2.index.length<=64;rw [h2];exact hC.cg;intro x hx;rcases h3 x hx with h|rfl;exact hC.Ka x h;exact ha.2
theorem N6 (s:aI) (b st:Int):(¬st=q8.wrap (q8.wrap (dN s.cf b)+1)/\jF s b st=nE s 8) \/
 ((st=q8.wrap (q8.wrap (dN s.cf b)+1)/\s.cf.aA<=s.aA.length)/\jF s b st=kE s 3) \/
 (((st=q8.wrap (q8.wrap (dN s.cf b)+1)/\¬s.cf.aA<=s.aA.length)/\(gu s.bG (s.cf.bg+b) 0).1=qg)/\jF s b st={ s with bG:=(gu s.bG (s.cf.bg+b) 0).2,aA:=s.aA++[b] }) \/
 (((st=q8.wrap (q8.wrap (dN s.cf b)+1)/\¬s.cf.aA<=s.aA.length)/\(gu s.bG (s.cf.bg+b) 0).1=qk)/\jF s b st=kE s 3):=by
 unfold jF;by_cases h1:st=q8.wrap (q8.wrap (dN s.cf b)+1);by_cases h2:s.cf.aA<=s.aA.length;simp [h1,h2];cases h3:(gu s.bG (s.cf.bg+b) 0).1<;>simp [h1,h2,jS,h3];simp [h1]
theorem G9 (b:Nat) (s:aI) (k st:Int) (hd:s.aH=.bL) (hC:iu s) (hk:0<=k/\k<s.cf.nb) :
 bx qV 255 [pv b,qb qa k,qb qj st] [.h (bp b s)] (λ_=>True) (λ_=>[.h (bp b (jF s k st))]):=by
 have hcs:=N6 s k st;have lp:=zl s (s.cf.bg+k) 0;(unhygienic cases s);dsimp only at hd;subst hd;intro A F hw hS;refine aK Tryz.func255 λ_=>?_;obtain⟨x0,hS⟩:=bp.open hS .z;(unhygienic cases x0);dsimp only [cX,jk,dk,fi,bJ.gB,aa,ah] at hS;have hq:=fv hS hw;dsimp only at hcs hk lp;have Qa:=hC.E1;dsimp only at Qa;have ES:=hC.cf.nb;have hwd:=hC.cf.bg;dsimp only at ES hwd;have lh:=xd cf hC.cf k Ya;dsimp only [aY.v] at lh;obtain⟨ofr,cfr,rfl,_⟩:=(aj.tC hS (.s (.s (.s (.s (.s (.s (.s (.s .z))))))))).bR;have VX:qY.wrap (cf.bg+k)=cf.bg+k:=af Ya Ya;rcases hcs with ⟨h,e⟩|⟨h,e⟩|⟨h,e⟩|⟨h,e⟩;rw [e];revert hq hS hw;clear hS;refine Wp (J3 (Tg.mk (n:=21) (yO b ⟨cf,am,aF,aD,value,bT,ao,reads,ar,aA,set,bG,aC,av,aP,aN,ax,.bL⟩ 8 rfl hC)) (od Ci) @lh) (J2 h bC) ?_<;>(unhygienic intros);exact⟨_,by rfl,trivial,aj.bX hS (.s .z (.s .z .z))⟩
 . rw [e];revert hq hS hw;(repeat clear hS);refine Wp (J3 (Tg.mk (n:=20) (ke b ⟨cf,am,aF,aD,value,bT,ao,reads,ar,aA,set,bG,aC,av,aP,aN,ax,.bL⟩ 0 3 .bL hC.cf hC.al hC.push (Z8 hC.oO Yf))) (od Ci) @lh) (J2 h bC) ?_<;>(unhygienic intros);exact⟨_,by rfl,trivial,aj.bX hS (.s .z (.s .z .z))⟩
 . rw [e];have Tl:=yi b ⟨cf,am,aF,aD,value,bT,ao,reads,ar,aA,set,bG,aC,av,aP,aN,ax,.bL⟩ (cf.bg+k) 0 rfl hC Ya;rcases lp with ⟨h9,e9⟩|⟨h9,e9⟩
   . rw [e9] at Tl
     repeat' (first|(with_reducible apply lwI;(·(simp;rfl));(·(simp;rfl));(·exact wA);(·exact sA);(·exact kP);(·(simp;rfl));(·omega);(·intro _ _;trivial);rintro _ _ _ hS hw _;have hq:=JL hS hw)|(refine iT λR hR=>?_;simp [hq,h,VX,AW.ab,aG];try simp (disch:=omega) only [ay,aw,af,an])|(refine hR _ _ ?_;clear hR R)|(refine hK _ _ ?_;clear hK K)|refine nx ?_|refine wn λK hK=>?_|simp only [wS,Ci]|refine wl Tryz.mx Ci Yc λK hK=>?_|(refine bD (lh _) ?_;rintro _ _ ⟨rfl,rfl⟩ _ _)|(apply bx.UK (Tl);(·exact wA);(·exact sA);(·exact fP);(·exact pP);(rintro _ _ rfl hS hw _;have hS:=lA hS;(obtain ⟨x0,hS⟩:=bp.open hS .z;(unhygienic cases x0);dsimp only [cX,jk,dk,fi,bJ.gB,aa,ah] at hS;have hq:=fv hS hw));all_goals(try (exact 0)))|(refine wc rfl (λhc=>?_) (λhc=>?_)<;>(try simp at hc)))
     refine⟨_,by rfl,trivial,?_⟩;apply bp.bX
     (·exact sA)
     exact fP
     (·exact pP)
     all_goals(exact 0)
   rw [h.2] at h9;cases h9
 rw [e];have Tl:=yi b ⟨cf,am,aF,aD,value,bT,ao,reads,ar,aA,set,bG,aC,av,aP,aN,ax,.bL⟩ (cf.bg+k) 0 rfl hC Ya;rcases lp with ⟨h9,e9⟩|⟨h9,e9⟩;rw [h.2] at h9;cases h9;rw [e9] at Tl;revert hq hS hw;(repeat clear hS);refine Wp (J3 (Tg.mk (n:=21) @Tl) (od Ci) @lh) (J3 h VX bC) ?_<;>(unhygienic intros);exact⟨_,by rfl,trivial,aj.bX hS (.s .z (.s .z .z))⟩
end
section
open T12 T13
variable [Gl]
def Uf (b:Nat) (s:aI) (cr:Int) (p:rM):HP:=td λf:tR=>aO (cX b s cr (.eP p) f++[.at f.m (oZ p)])
theorem Uf.open {A:AW} {L K:List It} {b:Nat} {s:aI} {cr:Int} {p:rM} (h:aj A L) (hp:aE L (.h (Uf b s cr p)) K):∃f,aj A (cX b s cr (.eP p) f++[.at f.m (oZ p)]++K):=kT h hp
theorem bx.useX {P:Program} {f:FuncId} {args:List qd} {sG:List It} {φ:qd->Prop} {post:qd->List It} {b:Nat} {s:aI} {cr:Int} {p:rM} (hc:bx P f args (.h (Uf b s cr p)::sG) φ post) {A:AW} {L K:List It} {eT fp b8 dz dv m c0 c1 c2:Nat} {dE bF cF cJ fa dF fJ cK cH br dG dP iw fb:qd} {K0:List It} {k:qd->AW->Prop} (hw:A.Wf) (hS:aj A L)
 (e:bf L (cX b s cr (.eP p) ⟨eT,fp,b8,dz,dv,m,c0,c1,c2,dE,bF,cF,cJ,fa,dF,fJ,cK,cH,br,dG,dP,iw,fb⟩++[.at m (oZ p)]) K0) (e2:bf K0 sG K) (hk:∀v A',φ v->aj A' (post v++K)->A'.Wf->A.next<=A'.next->k v A'):aB P f args A k:=
 bx.fM hc hw (jp (g:=λf:tR=>cX b s cr (.eP p) f++[.at f.m (oZ p)]) ⟨eT,fp,b8,dz,dv,m,c0,c1,c2,dE,bF,cF,cJ,fa,dF,fJ,cK,cH,br,dG,dP,iw,fb⟩ hS e) (.s .z e2) hk
theorem My (n:Nat) (a:Int) (s:aI):gt (n+1) a s=if (jS s a 0).1=qg then gt n (a+1) (jS s a 0).2 else (qk,(jS s a 0).2):=rfl
theorem Mx (a:Int) (s:aI):gt 0 a s=(qg,s):=rfl
theorem HK (b:Nat) (s:aI) (p:rM) (hC:iu { s with aH:=.bL }) (rj:s.ar.length<8) (hp:p.block<s.cf.nb) (lh:0<=p.eZ/\p.eZ<=3) :
 bx qV 251 [pv b,qb qa p.eZ] [.h (Uf b { s with aH:=.bL } 0 p)] (λ_=>True) (λ_=>[.h (bp b (fq { s with aH:=.bL } p.eZ p.block))]):=by
 (unhygienic cases s);obtain⟨eZ,pat,phead,pnext,jz⟩:=p;dsimp only at hC rj hp lh ⊢;intro A F hw hS;refine aK Tryz.func251 λ_=>?_;obtain⟨⟨eT,fp,b8,dz,dv,m,c0,c1,c2,dE,bF,cF,cJ,fa,dF,fJ,cK,cH,br,dG,dP,iw,fb⟩,hS⟩:=Uf.open hS .z;dsimp only [cX,jk,dk,fi,bJ.gB,aa,ah] at hS;have hq:=fv hS hw;have ES:=hC.cf.nb;have hwd:=hC.cf.bg;dsimp only at ES hwd;have IR:=IA m ⟨eZ,pat,phead,pnext,jz⟩;by_cases h:jz<0
 . have e:fq ⟨cf,am,aF,aD,value,bT,ao,reads,ar,aA,set,bG,aC,av,aP,aN,ax,.bL⟩ eZ jz=kE ⟨cf,am,aF,aD,value,bT,ao,reads,ar,aA,set,bG,aC,av,aP,aN,ax,.bL⟩ 4:=ay h;rw [e]
   repeat' (first|(refine iT λR hR=>?_;simp [hq,h,AW.ab];try simp (disch:=omega) only [ay,aw,af,an])|(refine hR _ _ ?_;clear hR R)|(refine hK _ _ ?_;clear hK K)|refine nx ?_|refine wn λK hK=>?_|simp only [wS]|(refine bD (IR _ (by simp [hq])) ?_;rintro _ _ ⟨rfl,rfl⟩ _ _)|(apply bx.lj (ke b ⟨cf,am,aF,aD,value,bT,ao,reads,ar,aA,set,bG,aC,av,aP,aN,ax,.bL⟩ 0 4 (.eP ⟨eZ,pat,phead,pnext,jz⟩) hC.cf hC.al hC.push (Z8 hC.oO Yf));(·exact wA);(·exact sA);(·exact fP);(·exact pP);(rintro _ _ _ hS hw _;have hS:=lA hS);(try (have hq:=JL hS hw));all_goals(try (first|exact 0|exact qz)))|(show cM _ _ _ _ _ _;refine nx ?_)|(refine wc rfl (λhc=>?_) (λhc=>?_)<;>(try simp at hc)))
   refine⟨_,by rfl,trivial,?_⟩;apply aj.bX hS
   (·exact pP)
 have VX:qY.wrap (cf.bg+jz)=cf.bg+jz:=af Ya Ya;have hwc:q8.wrap (q8.wrap eZ+1)=eZ+1:=by
  rw [an (x:=eZ) Ya Ya,an Ya Ya]
 have hC1:iu ⟨cf,am,aF,aD,value,bT,ao,reads,ar++[jz],aA,set,bG,aC,av,aP,aN,ax,.bL⟩:=by
  refine⟨hC.cf,hC.Mn,hC.bG,hC.eV,hC.cg,hC.Ka,?_,?_,?_,hC.set,hC.iJ,hC.E1⟩;intro x hx;rcases List.mem_append.1 hx with h1|h1;exact hC.Uw x h1;simp at h1;subst h1;omega;show (ar++[jz]).length<=8;simp;omega;show ax<=(ar++[jz]).length;have:=hC.push;dsimp only at this;simp;omega
 have Tl:=yi b ⟨cf,am,aF,aD,value,bT,ao,reads,ar++[jz],aA,set,bG,aC,av,aP,aN,ax,.bL⟩ (cf.bg+jz) (eZ+1) rfl hC1 Ya
 have e:fq ⟨cf,am,aF,aD,value,bT,ao,reads,ar,aA,set,bG,aC,av,aP,aN,ax,.bL⟩ eZ jz =
  if (jS ⟨cf,am,aF,aD,value,bT,ao,reads,ar++[jz],aA,set,bG,aC,av,aP,aN,ax,.bL⟩ (cf.bg+jz) (eZ+1)).1=qg then
   if (gt (2 ^ eZ.toNat) (jg cf jz) (jS ⟨cf,am,aF,aD,value,bT,ao,reads,ar++[jz],aA,set,bG,aC,av,aP,aN,ax,.bL⟩ (cf.bg+jz) (eZ+1)).2).1=qg then { (gt (2 ^ eZ.toNat) (jg cf jz) (jS ⟨cf,am,aF,aD,value,bT,ao,reads,ar++[jz],aA,set,bG,aC,av,aP,aN,ax,.bL⟩ (cf.bg+jz) (eZ+1)).2).2 with value:=q8.wrap (jg cf jz) }
   else (gt (2 ^ eZ.toNat) (jg cf jz) (jS ⟨cf,am,aF,aD,value,bT,ao,reads,ar++[jz],aA,set,bG,aC,av,aP,aN,ax,.bL⟩ (cf.bg+jz) (eZ+1)).2).2
  else (jS ⟨cf,am,aF,aD,value,bT,ao,reads,ar++[jz],aA,set,bG,aC,av,aP,aN,ax,.bL⟩ (cf.bg+jz) (eZ+1)).2:=aw h
 rcases zl ⟨cf,am,aF,aD,value,bT,ao,reads,ar++[jz],aA,set,bG,aC,av,aP,aN,ax,.bL⟩ (cf.bg+jz) (eZ+1) with ⟨h9,e9⟩|⟨h9,e9⟩
 . have hC2:=hC1.put (a:=cf.bg+jz) Ya (eZ+1);rw [e9] at Tl e;rw [ay rfl] at e;rw [e];dsimp only at Tl hC2 ⊢;have hfc:=He cf hC.cf jz Ya;dsimp only [aY.v] at hfc;have Dy:¬eZ<0:=Ya;obtain⟨n,hn⟩:∃n,2 ^ eZ.toNat=n:=⟨_,rfl⟩;have hn8:n<=8:=by
    have h4:eZ=0\/eZ=1\/eZ=2\/eZ=3:=Ya;rcases h4 with rfl|rfl|rfl|rfl<;>(rw [<-hn];decide)
   have hsh:rL .shl qa 1 eZ=qc (qb qa (n:Int)):=by
    have h4:eZ=0\/eZ=1\/eZ=2\/eZ=3:=Ya;rw [<-hn];rcases h4 with rfl|rfl|rfl|rfl<;>rfl
   obtain⟨_,hf0,hf1⟩:=Cs hC.cf jz Yz;dsimp only at hf0 hf1;have Lv:jg cf jz<=64:=by
    have h5:(0:Int)<2 ^ (dN cf jz).toNat:=Int.pow_pos Ya;omega
   rw [hn];generalize jg cf jz=fst at *
   repeat' (first|(with_reducible apply lwI;(·(simp;rfl));(·(simp;rfl));(·exact wA);(·exact sA);(·exact kP);(·(simp;rfl));(·omega);(·intro _ _;trivial);rintro _ _ _ hS hw _;have hq:=JL hS hw)|(refine iT λR hR=>?_;simp [hq,h,VX,hsh,AW.ab,aG];try simp (disch:=omega) only [an])|(refine hR _ _ ?_;clear hR R)|(refine hK _ _ ?_;clear hK K)|refine nx ?_|refine wn λK hK=>?_|simp only [wS]|(refine bD (IR _ (by simp [hq])) ?_;rintro _ _ ⟨rfl,rfl⟩ _ _)|(refine bD (hfc _) ?_;rintro _ _ ⟨rfl,rfl⟩ _ _)|(apply bx.UK (Tl);(·exact wA);(·exact sA);(·exact fP);(·exact pP);(rintro _ _ rfl hS hw _;have hS:=lA hS;(obtain ⟨x0,hS⟩:=bp.open hS .z;(unhygienic cases x0);dsimp only [cX,jk,dk,fi,bJ.gB,aa,ah] at hS;have hq:=fv hS hw));all_goals(try (exact 0)))|(show cM _ _ _ _ _ _;refine nx ?_)|(refine wc rfl (λhc=>?_) (λhc=>?_)<;>(try simp at hc)))
   refine df (λkk fr A'=>A'.Wf/\∃(i:Nat) (si:aI),kk=n-i/\i<=n/\fr 0=pv b/\fr 5=qb qa fst/\fr 49=qb qa n/\fr 50=qb qa i/\si.aH=.bL/\iu si/\
    gt n fst ⟨cf,am,aF,aD,value,bT,ao,reads,ar++[jz],aA,set,(gu bG (cf.bg+jz) (eZ+1)).2,aC,av,aP,aN,ax,.bL⟩=gt (n-i) (fst+i) si/\aj A' [.h (bp b si),.h F]) n ?_ ?_
   . refine⟨hw,0,⟨cf,am,aF,aD,value,bT,ao,reads,ar++[jz],aA,set,(gu bG (cf.bg+jz) (eZ+1)).2,aC,av,aP,aN,ax,.bL⟩,by simp,by simp,by simp,by simp,by simp,by simp,rfl,hC2,by simp,?_⟩;apply bp.bX
     (·exact sA)
     exact fP
     (·exact pP)
     all_goals(exact 0)
   clear hS hq;rintro kk fr A' ⟨hw,i,si,rfl,hi,h0,h5,h49,h50,hsd,hCs,hz,hS⟩;refine aT ?_;by_cases bY:i<n
   . have fo:(i:Int)<n:=Ya;have gC:=zd (i:=i);have hwf:qY.wrap (fst+(i:Int))=fst+(i:Int):=af Ya Ya;have Lq:n-i=(n-(i+1))+1:=Ya;have hpp2:=yi b si (fst+i) 0 hsd hCs Ya;rw [Lq,My] at hz;rcases zl si (fst+i) 0 with ⟨g9,f9⟩|⟨g9,f9⟩
     . rw [f9] at hpp2 hz;rw [ay rfl] at hz;revert hq hS hw;(repeat first|clear hq|clear hS|clear hw|revert hc);refine Wp (J1 @hpp2) (J8 h0 h5 h49 h50 fo gC hwf bC) ?_<;>(unhygienic intros);refine⟨n-(i+1),by omega,hw,i+1,{ si with bG:=(gu si.bG (fst+i) 0).2 },rfl,by omega,by simp [h0],by simp [h5],by simp [h49],by simp,hsd,hCs.put Ya 0,?_,hS⟩;rw [hz];have:fst+(i:Int)+1=fst+((i+1:Nat):Int):=Ya
       rw [this]
     rw [f9] at hpp2 hz;rw [aw Yb] at hz;revert hq hS hw;(repeat first|clear hq|clear hS|clear hw|revert hc);refine Wp (J1 @hpp2) (J8 h0 h5 h49 h50 fo gC hwf bC) ?_<;>(unhygienic intros);refine⟨_,by rfl,trivial,?_⟩;rw [hz,aw Yb];exact hS
   have Lu:i=n:=Ya;subst Lu;rw [Nat.sub_self,Mx] at hz;obtain⟨cf,am,aF,aD,value,bT,ao,reads,ar,aA,set,bG,aC,av,aP,aN,ax,aH⟩:=si;dsimp only at hsd;subst hsd;obtain⟨x0,hS⟩:=bp.open hS .z;(unhygienic cases x0);dsimp only [cX,jk,dk,fi,bJ.gB,aa,ah] at hS;have hq:=fv hS hw;revert hq hS hw;(repeat first|clear hq|clear hS|clear hw|revert hc);refine Wp cx (J5 h0 h5 h49 h50 bC) ?_<;>(unhygienic intros);refine⟨_,by rfl,trivial,?_⟩;rw [hz,ay rfl,show q8.wrap fst=fst from an Ya Ya];apply bp.bX
   (·exact sA)
   exact fP
   (·exact pP)
   all_goals(exact 0)
 rw [e9] at Tl e;rw [aw Yb] at e;rw [e];dsimp only at Tl ⊢
 repeat' (first|(with_reducible apply lwI;(·(simp;rfl));(·(simp;rfl));(·exact wA);(·exact sA);(·exact kP);(·(simp;rfl));(·omega);(·intro _ _;trivial);rintro _ _ _ hS hw _;have hq:=JL hS hw)|(refine iT λR hR=>?_;simp [hq,h,VX,AW.ab,aG];try simp (disch:=omega) only [an])|(refine hR _ _ ?_;clear hR R)|(refine hK _ _ ?_;clear hK K)|refine nx ?_|refine wn λK hK=>?_|simp only [wS]|(refine bD (IR _ (by simp [hq])) ?_;rintro _ _ ⟨rfl,rfl⟩ _ _)|(apply bx.UK (Tl);(·exact wA);(·exact sA);(·exact fP);(·exact pP);(rintro _ _ rfl hS hw _;have hS:=lA hS);(try (have hq:=JL hS hw));all_goals(try (exact 0)))|(show cM _ _ _ _ _ _;refine nx ?_)|(refine wc rfl (λhc=>?_) (λhc=>?_)<;>(try simp at hc)))
 refine⟨_,by rfl,trivial,?_⟩;apply aj.bX hS
 (·exact pP)
end
end Go.Stx
