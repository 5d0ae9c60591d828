/-
 The reference's cells at made configurations, and both cells made alike.
-/
import Derived.Test.YtpealkdhmnomhaaGreatDoorG17
set_option linter.unusedVariables false
set_option linter.unusedSimpArgs false
set_option linter.unusedSectionVars false
set_option maxRecDepth 20000
set_option maxHeartbeats 4000000
open Exists renaming intro->ZS
open Go.IntKind renaming i64->qY,u64->q8
open Go.Proofs.Tryz renaming prog->qV
open Go.Stx.AW.le renaming alloc->qW
open Go.Value renaming int->Zb
open List renaming replicate->qX
open Bool renaming true->qg
open Go renaming IntKind->qw,Value->qd
open Go.IntKind renaming i64->qa,u64->qj
open Go.Stx.eh renaming cells->qi
open Go.Value renaming bool->qn,slice->qf
open Option renaming none->qh,some->qc
namespace Go.Stx
open Go Go.Proofs
attribute [local irreducible] TW bI cM aV aB aL cU dh
section
open T22
variable [Gl]
def mO (c:aY) (nt:Nat) (dS:List Int):Mm:=λk=>if k=0 then dS++qX c.nb.toNat 0 else if k=1 then qX c.av.toNat 0 else if k=5 then qX nt 0 else if k=6 then lq c.c0 c.c1 else if k=7 then j8 c.c0 c.c1 else [0]
def Hx (c:aY):eh:=qi [.int qa c.bg,.int qa c.av,.int qa c.base,.int qa c.c0,.int qa c.c1,.int qa c.c2,.int qa c.c3,.int qa c.reads,.int qa c.bU,.int qa c.ar,.int qa c.aA,.int qa c.aC,qn c.bd] qg 1
def Dm (c:aY) (v0 v1 v5 v6 v7:qd):eh:=qi [.int qa c.bg,.int qa c.av,.int qa c.base,.int qa c.c0,.int qa c.c1,.int qa c.c2,.int qa c.c3,.int qa c.reads,.int qa c.bU,.int qa c.ar,.int qa c.aA,.int qa c.aC,qn c.bd,v0,v1,.int qj 0,.int qj 0,.int qj 0,v5,v6,v7] qg 1
theorem zD {c:aY} (hc:nT c):((j8 c.c0 c.c1).length:Int)=c.nb:=by
 have e:c.nb=c.c0+c.c1+c.c2+c.c3:=rfl;rw [e,hc.c2,hc.c3];rcases hc.c0 with h0|h0|h0<;>rcases hc.c1 with h1|h1|h1<;>rw [h0,h1]<;>decide
theorem Ni {c:aY} (hc:nT c) (b:Nat) (hb:(b:Int)<c.nb):(j8 c.c0 c.c1)[b]? = qc (if (b:Int)+1<c.nb/\dN c (b+1)=dN c b then (b:Int)+2 else 0):=by
 have e:c.nb=c.c0+c.c1+c.c2+c.c3:=rfl;rw [e,hc.c2,hc.c3] at hb ⊢;unfold dN Bf;rw [hc.c2,hc.c3];rcases hc.c0 with h0|h0|h0<;>rcases hc.c1 with h1|h1|h1<;>rw [h0,h1] at hb ⊢
 all_goals(have yy:b=0\/b=1\/b=2\/b=3:=Ya)
 all_goals(rcases yy with rfl|rfl|rfl|rfl)
 all_goals(first|omega|(simp [j8];done))
def tH (c:aY):Nat->Int|0=>0|1=>c.c0|2=>c.c0+c.c1|3=>c.c0+c.c1+c.c2|_=>c.c0+c.c1+c.c2+c.c3
def Bs (c:aY):Nat->Int|0=>c.c0|1=>c.c1|2=>c.c2|_=>c.c3
theorem JN {c:aY} (hc:nT c) (k:Nat) (hk:k<4):(lq c.c0 c.c1)[k]? = qc (if 0<Bs c k then tH c k+1 else 0):=by
 have hk4:k=0\/k=1\/k=2\/k=3:=Ya
 have h2:=hc.c2;have h3:=hc.c3;rcases hk4 with rfl|rfl|rfl|rfl
 all_goals(simp only [Bs,tH,lq])
 all_goals(rcases hc.c0 with h0|h0|h0<;>rcases hc.c1 with h1|h1|h1<;>simp [h0,h1,h2,h3,tf])
theorem Om {c:aY} (hc:nT c) (k:Nat):(0<=Bs c k/\Bs c k<=2)/\0<=tH c k/\tH c k<=4:=by
 have h0:=hc.c0;have h1:=hc.c1;have h2:=hc.c2;have h3:=hc.c3;unfold Bs tH
 repeat' split
 all_goals omega
set_option maxRecDepth 100000 in
end
section
namespace TImageA
theorem nO [Gl] {A:AW} {L:List It} {T:Prop} (hS:aj A L) (hw:A.Wf) (h':(aW A L/\bz A L/\cd L)=T:=by first|(dsimp only [aa,ah,aW,bz,cd,ff];done)|exact rfl):T:=h'▸hS.eX hw
end TImageA
open TImageA
variable [Gl]
theorem fg.eX {A:AW} {pb:Nat} {M:Nat->List Int} {F:HP} (h:bB A (fg pb M*F)) :
 ∃(r:Nat) (tI:List (qd×qd)) (vs:Nat->qd),A.bk pb=qc (qi [.map (qc r)] qg 1)/\A.bk r=qc (.map tI qg)/\(∀k:Nat,k<8->∃q,fw (.int qa) (.int qa ((k:Int)+1)) tI 0=qc (qc (q,vs k)))/\∀k:Nat,k<8->bK A qj (vs k) (M k):=by
 obtain⟨r,vs,hS⟩:=fg.open h;have hgp:=hS.bk;obtain⟨tI,zY,xA,_⟩:=il.eX hS.right;refine⟨r,tI,vs,hgp,zY,λk hk=>xA qa _ _ ?_,λk hk=>?_⟩;have:(1:Int)<=k+1/\(k:Int)+1<=8:=Ya
 simp only [zO,ay this];congr 2;omega;exact au.is (bB.pick (f:=λk=>au qj (vs k) (M k)) hS.right.right hk)
def oU (A:AW) (v:qd) (M:Nat->List Int):Prop:=
 ∃v0 v1 v5 v6 v7,v=.agg #[v0,v1,.int qj ((M 2).getD 0 0),.int qj ((M 3).getD 0 0),.int qj ((M 4).getD 0 0),v5,v6,v7]/\
  bK A qj v0 (M 0)/\bK A qj v1 (M 1)/\bK A qj v5 (M 5)/\bK A qj v6 (M 6)/\bK A qj v7 (M 7)
def EQ:List qd:=[qf qh 0 0,qf qh 0 0,.int qj 0,.int qj 0,.int qj 0,qf qh 0 0,qf qh 0 0,qf qh 0 0]
end
section
abbrev wN:List (Nat×Nat):=[(0,0),(1,0),(2,0),(3,0),(4,0),(6,0),(7,0),(8,0),(9,0),(10,0),(12,0),(13,0),(14,0),(15,0),(16,0),(17,0),(18,0),(19,0),(20,0),(21,0),(22,0),(23,0),(24,0),(25,0),(26,0),(27,0),(28,0),(29,0),(30,0),(31,0),(32,0),(33,0),(34,0),(35,0),(36,0),(37,0),(39,0),(40,0),(41,0),(42,0),(43,0),(45,0),(46,0),(47,0),(48,0),(49,0),(5,2),(11,2),(38,2),(44,2),(50,2),(51,0),(52,3)]
open T7
variable [Gl]
theorem PX (pb:Nat) (M:Nat->List Int) (A:AW) (F:HP) (h:bB A (fg pb M*F)) (bW:∀k,k<8->(M k).length<2^39) (h2:0<(M 2).length) (h3:0<(M 3).length) (h4:0<(M 4).length) :
 aB qV 56 [.pointer (qc ⟨pb,0,qh⟩)] A (λv A'=>∃o0 c0 o1 c1 o5 c5 o6 c6 o7 c7,v=.agg #[qf o0 (M 0).length c0,qf o1 (M 1).length c1,.int qj ((M 2).getD 0 0),.int qj ((M 3).getD 0 0),.int qj ((M 4).getD 0 0),qf o5 (M 5).length c5,qf o6 (M 6).length c6,qf o7 (M 7).length c7]/\bB A' (au qj (qf o0 (M 0).length c0) (M 0)*(au qj (qf o1 (M 1).length c1) (M 1)*(au qj (qf o5 (M 5).length c5) (M 5)*(au qj (qf o6 (M 6).length c6) (M 6)*(au qj (qf o7 (M 7).length c7) (M 7)*(fg pb M*F))))))/\A.le A'):=by
 refine aK Tryz.func56 λhw=>?_;obtain⟨r,tI,vs,hgp,zY,xA,his⟩:=fg.eX h;obtain⟨q0,f0⟩:=xA 0 Ya;have f0:fw (.int qa) (.int qa 1) tI 0=qc (qc (q0,vs 0)):=f0;obtain⟨q1,f1⟩:=xA 1 Ya;have f1:fw (.int qa) (.int qa 2) tI 0=qc (qc (q1,vs 1)):=f1;obtain⟨q2,f2⟩:=xA 2 Ya;have f2:fw (.int qa) (.int qa 3) tI 0=qc (qc (q2,vs 2)):=f2;obtain⟨q3,f3⟩:=xA 3 Ya;have f3:fw (.int qa) (.int qa 4) tI 0=qc (qc (q3,vs 3)):=f3;obtain⟨q4,f4⟩:=xA 4 Ya;have f4:fw (.int qa) (.int qa 5) tI 0=qc (qc (q4,vs 4)):=f4;obtain⟨q5,f5⟩:=xA 5 Ya;have f5:fw (.int qa) (.int qa 6) tI 0=qc (qc (q5,vs 5)):=f5;obtain⟨q6,f6⟩:=xA 6 Ya;have f6:fw (.int qa) (.int qa 7) tI 0=qc (qc (q6,vs 6)):=f6;obtain⟨q7,f7⟩:=xA 7 Ya;have f7:fw (.int qa) (.int qa 8) tI 0=qc (qc (q7,vs 7)):=f7;obtain⟨np,np'⟩:=hw.ey hgp;obtain⟨nr,nr'⟩:=hw.ey zY
 have i2:=his 2 Ya;have i3:=his 3 Ya;have i4:=his 4 Ya;obtain⟨o2,c2,e2,_⟩:=i2.bR;obtain⟨o3,c3,e3,_⟩:=i3.bR;obtain⟨o4,c4,e4,_⟩:=i4.bR;rw [e2] at i2 f2;rw [e3] at i3 f3;rw [e4] at i4 f4;obtain⟨p2,r2,w2,rfl,g2,d2⟩:=i2.atg h2;obtain⟨n2,n2'⟩:=hw.ey g2;obtain⟨p3,r3,w3,rfl,g3,d3⟩:=i3.atg h3;obtain⟨n3,n3'⟩:=hw.ey g3;obtain⟨p4,r4,w4,rfl,g4,d4⟩:=i4.atg h4;obtain⟨n4,n4'⟩:=hw.ey g4;simp only [Nat.add_zero] at d2 d3 d4
 repeat' (first|(refine iT λR hR=>?_;simp [hgp,zY,AW.ab,np,nr,f0,f1,f2,f3,f4,f5,f6,f7,g2,g3,g4,d2,d3,d4,n2,n3,n4,h2,h3,h4];try simp (disch:=omega) only [ay,aw,af,an])|(refine hR _ _ ?_;clear hR R)|(refine hK _ _ ?_;clear hK K)|refine nx ?_|refine wn λK hK=>?_|simp only [wS,wN]|refine wl Tryz.mx wN Yc λK hK=>?_|(show cM _ _ _ _ _ _;refine nx ?_)|(refine wc rfl (λhc=>?_) (λhc=>?_)<;>(try simp at hc)))
 have l00:A.le (A.alloc (qi EQ qg 1)):=qW A _;have S00:=h.alloc hw (qi EQ qg 1);have Mo:=hw.alloc (qi EQ qg 1);have hgz:(A.alloc (qi EQ qg 1)).bk A.next=qc (qi EQ qg 1):=AW.bN _ _;refine bD (jK (vs 0) (M 0) (A.alloc (qi EQ qg 1)) ((his 0 Ya).le l00 hw) (bW 0 Ya)) ?_;rintro v0 B0 ⟨q0',m0⟩ w0' _;have S0:=au.jd S00 Mo m0 q0';obtain⟨ov0,cv0,rfl,_⟩:=q0'.is.bR;have l0':=l00.trans m0;have z0:=m0.mS Mo hgz;refine⟨m0,?_⟩;revert hw;(repeat first|revert hc|revert R|revert K);refine W (J1 (od wN)) (J3 z0 bC @EQ.eq_1) ?_<;>(unhygienic intros);refine bD (jK (vs 1) (M 1) _ ((his 1 Ya).le l0' hw) (bW 1 Ya)) ?_;rintro v1 B1 ⟨q1',m1⟩ w1' _;have S1:=au.jd S0 w0' m1 q1';obtain⟨ov1,cv1,rfl,_⟩:=q1'.is.bR;have l1':=l0'.trans m1;have z1:=m1.mS w0' z0;refine⟨m1,?_⟩;revert hw;(repeat first|revert hc|revert R|revert K);refine W (J1 (od wN)) (J3 z1 bC @EQ.eq_1) ?_<;>(unhygienic intros)
 refine bD (jK (vs 5) (M 5) _ ((his 5 Ya).le l1' hw) (bW 5 Ya)) ?_;rintro v5 B2 ⟨q5',m5⟩ w5' _;have S2:=au.jd S1 w1' m5 q5';obtain⟨ov5,cv5,rfl,_⟩:=q5'.is.bR;have l2':=l1'.trans m5;have z2:=m5.mS w1' z1;refine⟨m5,?_⟩;revert hw;(repeat first|revert hc|revert R|revert K);refine W (J1 (od wN)) (J3 z2 bC @EQ.eq_1) ?_<;>(unhygienic intros);refine bD (jK (vs 6) (M 6) _ ((his 6 Ya).le l2' hw) (bW 6 Ya)) ?_;rintro v6 B3 ⟨q6',m6⟩ w6' _;have S3:=au.jd S2 w5' m6 q6';obtain⟨ov6,cv6,rfl,_⟩:=q6'.is.bR;have l3':=l2'.trans m6;have z3:=m6.mS w5' z2;refine⟨m6,?_⟩;revert hw;(repeat first|revert hc|revert R|revert K);refine W (J1 (od wN)) (J3 z3 bC @EQ.eq_1) ?_<;>(unhygienic intros);refine bD (jK (vs 7) (M 7) _ ((his 7 Ya).le l3' hw) (bW 7 Ya)) ?_;rintro v7 B4 ⟨q7',m7⟩ w7' _;have S4:=au.jd S3 w6' m7 q7';obtain⟨ov7,cv7,rfl,_⟩:=q7'.is.bR;have l4':=l3'.trans m7
 have z4:=m7.mS w6' z3;refine⟨m7,?_⟩;refine W (J1 (od wN)) (J3 z4 bC @EQ.eq_1) ?_<;>intros;have gd:∀(l:List Int) (h:0<l.length),l[0]=l.getD 0 0:=λl hl=>by
  rw [List.getD_eq_getElem?_getD,List.getElem?_eq_getElem hl];rfl
 have S5:bB B4 (pt A.next (qi EQ qg 1)*(au qj (qf ov0 (M 0).length cv0) (M 0)*(au qj (qf ov1 (M 1).length cv1) (M 1)*(au qj (qf ov5 (M 5).length cv5) (M 5)*(au qj (qf ov6 (M 6).length cv6) (M 6)*(au qj (qf ov7 (M 7).length cv7) (M 7)*(fg pb M*F))))))):=S4.dD Yd;refine⟨_,by (simp [AW.ab];rfl),ov0,cv0,ov1,cv1,ov5,cv5,ov6,cv6,ov7,cv7,?_,(S5.set _).right,l4'.set (Nat.le_refl _) _⟩;rw [gd _ h2,gd _ h3,gd _ h4]
structure ImgF where
 v0:Option Addr×Nat
 v1:Option Addr×Nat
 v5:Option Addr×Nat
 v6:Option Addr×Nat
 v7:Option Addr×Nat
def jC (x:Option Addr×Nat) (l:List Int):qd:=qf x.1 l.length x.2
def xr (M:Mm) (f:ImgF):HP:=au qj (jC f.v0 (M 0)) (M 0)*(au qj (jC f.v1 (M 1)) (M 1)*(au qj (jC f.v5 (M 5)) (M 5)*(au qj (jC f.v6 (M 6)) (M 6)*au qj (jC f.v7 (M 7)) (M 7))))
theorem PW (pb:Nat) (M:Mm) (bW:∀k,k<8->(M k).length<2^39) (h2:0<(M 2).length) (h3:0<(M 3).length) (h4:0<(M 4).length) {A:AW} {L K:List It} {k:qd->AW->Prop} (hw:A.Wf) (hS:aj A L) (hp:aE L (ei pb M) K)
 (hk:∀f A',aj A' (.h (xr M f)::L)->A'.Wf->A.le A'->k (.agg #[jC f.v0 (M 0),jC f.v1 (M 1),.int qj ((M 2).getD 0 0),.int qj ((M 3).getD 0 0),.int qj ((M 4).getD 0 0),jC f.v5 (M 5),jC f.v6 (M 6),jC f.v7 (M 7)]) A') :
 aB qV 56 [pv pb] A k:=by
 have h:bB A (fg pb M*aO K):=by
  unfold aj at hS;rw [hp.aO] at hS;exact hS
 refine bD (PX pb M A (aO K) h bW h2 h3 h4) ?_;rintro v A' ⟨o0,c0,o1,c1,o5,c5,o6,c6,o7,c7,rfl,h1,fA⟩ jN _;refine hk ⟨(o0,c0),(o1,c1),(o5,c5),(o6,c6),(o7,c7)⟩ A' ?_ jN fA;unfold aj;refine bB.dD h1 ?_;show _=xr M _*aO L;rw [hp.aO];show _=(au qj (qf o0 (M 0).length c0) (M 0)*(au qj (qf o1 (M 1).length c1) (M 1)*(au qj (qf o5 (M 5).length c5) (M 5)*(au qj (qf o6 (M 6).length c6) (M 6)*au qj (qf o7 (M 7).length c7) (M 7)))))*(fg pb M*aO K)
 ac_rfl
theorem wJ {A:AW} {k:qw} {v:qd} {l:List Int} {R Q:HP} (h:bB A R) (e:R=au k v l*Q):bK A k v l:=au.is (h.dD e)
theorem xr.is {A:AW} {L K:List It} {M:Mm} {f:ImgF} (hS:aj A L) (hp:aE L (.h (xr M f)) K):oU A (.agg #[jC f.v0 (M 0),jC f.v1 (M 1),.int qj ((M 2).getD 0 0),.int qj ((M 3).getD 0 0),.int qj ((M 4).getD 0 0),jC f.v5 (M 5),jC f.v6 (M 6),jC f.v7 (M 7)]) M:=by
 unfold aj at hS;rw [hp.aO] at hS;have hr:bB A (xr M f*aO K):=hS;unfold xr at hr;refine⟨_,_,_,_,_,rfl,?_,?_,?_,?_,?_⟩;exact wJ hr (Q:=au qj (jC f.v1 (M 1)) (M 1)*(au qj (jC f.v5 (M 5)) (M 5)*(au qj (jC f.v6 (M 6)) (M 6)*au qj (jC f.v7 (M 7)) (M 7)))*aO K) Yd;exact wJ hr (Q:=au qj (jC f.v0 (M 0)) (M 0)*(au qj (jC f.v5 (M 5)) (M 5)*(au qj (jC f.v6 (M 6)) (M 6)*au qj (jC f.v7 (M 7)) (M 7)))*aO K) Yd;exact wJ hr (Q:=au qj (jC f.v1 (M 1)) (M 1)*(au qj (jC f.v0 (M 0)) (M 0)*(au qj (jC f.v6 (M 6)) (M 6)*au qj (jC f.v7 (M 7)) (M 7)))*aO K) Yd;exact wJ hr (Q:=au qj (jC f.v1 (M 1)) (M 1)*(au qj (jC f.v5 (M 5)) (M 5)*(au qj (jC f.v0 (M 0)) (M 0)*au qj (jC f.v7 (M 7)) (M 7)))*aO K) Yd;exact wJ hr (Q:=au qj (jC f.v1 (M 1)) (M 1)*(au qj (jC f.v5 (M 5)) (M 5)*(au qj (jC f.v6 (M 6)) (M 6)*au qj (jC f.v0 (M 0)) (M 0)))*aO K) Yd
end
section
namespace TLawK
theorem nO [Gl] {A:AW} {L:List It} {T:Prop} (hS:aj A L) (hw:A.Wf) (h':(aW A L/\bz A L/\cd L)=T:=by first|(dsimp only [aa,ah,aW,bz,cd,ff];done)|exact rfl):T:=h'▸hS.eX hw
end TLawK
open TLawK
variable [Gl]
end
end Go.Stx
