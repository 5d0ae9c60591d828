/-
 Small valid configurations made from any numbers.
-/
import Derived.Test.YtpealkdhmnomhaaGreatDoorG16
set_option linter.unusedVariables false
set_option linter.unusedSimpArgs false
set_option linter.unusedSectionVars false
set_option maxRecDepth 20000
set_option maxHeartbeats 4000000
open Bool renaming false_eq_true->Zg
open Go.IntKind renaming i64->qY
open Go.Proofs.Tryz renaming info35->kap,prog->qV,underlying189->kaM,underlying28->kaj,underlying3->kak,zero35->kaq
open List renaming replicate->qX
open Nat renaming reduceEqDiff->Zv
open Bool renaming false->qk,true->qg
open Go renaming Value->qd
open Go.IntKind renaming i64->qa,u64->qj
open Go.Stx.eh renaming cells->qi
open Go.Value renaming int->qb,map->qS,pointer->qm,slice->qf
open Option renaming none->qh,some->qc
namespace Go.Stx
open Go Go.Proofs
attribute [local irreducible] TW bI cM aV aB aL cU dh
section
abbrev Rv:List (Nat×Nat):=[(0,0),(1,0),(2,0),(3,0),(4,0),(5,0),(6,0),(7,0),(8,0),(9,2),(10,0)]
open T7
variable [Gl]
structure Q2 (c:aY):Prop where
 ok:da c
 bg:4<=c.bg/\c.bg<=12
 av:c.av<=8
 base:c.base=2
 c0:c.c0<=2
 c1:c.c1<=2
 c2:c.c2=0
 c3:c.c3=0
 reads:c.reads<=6
 bU:c.bU<=8
 ar:c.ar<=2
 aA:c.aA<=2
 aC:c.aC<=50
def GA (p0 p1 p2 p3 p4 p5 ck n0 n1:Int):aY:=⟨4+p0,1+p1,2,n0,n1,0,0,1+p2,1+p3,p4,p5,ck,qk⟩
theorem Er (l0 l1 l2 l3 l4:Int):∃c,Q2 c/\∀A,aB qV 22 [qb qa l0,qb qa l1,qb qa l2,qb qa l3,qb qa l4] A (λv A'=>v=c.v/\A=A'):=by
 obtain⟨p0,zV⟩:∃p0,mQ l0 9=p0:=⟨_,rfl⟩;have qp0:=iF l0 9 Ya;have kp0:=λA=>kv l0 9 A Ya Ya;rw [zV] at qp0 kp0;obtain⟨p1,ER⟩:∃p1,mQ l1 8=p1:=⟨_,rfl⟩;have qp1:=iF l1 8 Ya;have kp1:=λA=>kv l1 8 A Ya Ya;rw [ER] at qp1 kp1;obtain⟨p2,IS⟩:∃p2,mQ l2 6=p2:=⟨_,rfl⟩;have qp2:=iF l2 6 Ya;have kp2:=λA=>kv l2 6 A Ya Ya;rw [IS] at qp2 kp2;obtain⟨p3,hp3⟩:∃p3,mQ (qY.wrap (l2.tdiv 7)) 8=p3:=⟨_,rfl⟩;have qp3:=iF (qY.wrap (l2.tdiv 7)) 8 Ya;have kp3:=λA=>kv (qY.wrap (l2.tdiv 7)) 8 A Ya Ya;rw [hp3] at qp3 kp3;obtain⟨p4,hp4⟩:∃p4,mQ l3 3=p4:=⟨_,rfl⟩;have qp4:=iF l3 3 Ya;have kp4:=λA=>kv l3 3 A Ya Ya;rw [hp4] at qp4 kp4;obtain⟨p5,hp5⟩:∃p5,mQ (qY.wrap (l3.tdiv 3)) 3=p5:=⟨_,rfl⟩;have qp5:=iF (qY.wrap (l3.tdiv 3)) 3 Ya;have kp5:=λA=>kv (qY.wrap (l3.tdiv 3)) 3 A Ya Ya
 rw [hp5] at qp5 kp5;obtain⟨p6,hp6⟩:∃p6,mQ l4 5=p6:=⟨_,rfl⟩;have qp6:=iF l4 5 Ya;have kp6:=λA=>kv l4 5 A Ya Ya;rw [hp6] at qp6 kp6;obtain⟨p7,hp7⟩:∃p7,mQ (qY.wrap (l4.tdiv 5)) 4=p7:=⟨_,rfl⟩;have qp7:=iF (qY.wrap (l4.tdiv 5)) 4 Ya;have kp7:=λA=>kv (qY.wrap (l4.tdiv 5)) 4 A Ya Ya;rw [hp7] at qp7 kp7;obtain⟨p8,hp8⟩:∃p8,mQ (qY.wrap (l3.tdiv 9)) (4+p0-2+1)=p8:=⟨_,rfl⟩;have qp8:=iF (qY.wrap (l3.tdiv 9)) (4+p0-2+1) Ya;have kp8:=λA=>kv (qY.wrap (l3.tdiv 9)) (4+p0-2+1) A Ya Ya;rw [hp8] at qp8 kp8;obtain⟨n0,GR⟩:∃n0,(if 2<p8 then 2 else p8)=n0:=⟨_,rfl⟩;have hn0':0<=n0/\n0<=2/\n0<=4+p0-2:=by
  rw [<-GR];split<;>omega
 obtain⟨m1,Lr⟩:∃m1,(4+p0-2-n0).fdiv 2=m1:=⟨_,rfl⟩;have hm1':0<=m1/\m1*2<=4+p0-2-n0/\m1<=20:=by
  have h9:(4+p0-2-n0).fdiv 2=(4+p0-2-n0) / 2:=Int.fdiv_eq_ediv_of_nonneg _ Ya;rw [h9] at Lr;omega
 have hmw:qY.wrap (m1+1)=m1+1:=af Ya Ya;obtain⟨p10,hp10⟩:∃p10,mQ (qY.wrap (l3.tdiv 29)) (m1+1)=p10:=⟨_,rfl⟩;have qp10:=iF (qY.wrap (l3.tdiv 29)) (m1+1) Ya;have kp10:=λA=>kv (qY.wrap (l3.tdiv 29)) (m1+1) A Ya Ya;rw [hp10] at qp10 kp10;obtain⟨n1,C7⟩:∃n1,(if 2<p10 then 2 else p10)=n1:=⟨_,rfl⟩;have hn1':0<=n1/\n1<=2/\n1<=m1:=by
  rw [<-C7];split<;>omega
 obtain⟨ck,yw⟩:∃ck,(if p6=0 then p7 else 50)=ck:=⟨_,rfl⟩;have hck':0<=ck/\ck<=50:=by
  rw [<-yw];split<;>omega
 have key:∀A:AW,A.Wf->aB qV 22 [qb qa l0,qb qa l1,qb qa l2,qb qa l3,qb qa l4] A (λv A'=>v=(GA p0 p1 p2 p3 p4 p5 ck n0 n1).v/\A.le A'):=by
  intro A hw;refine aK Tryz.func22 λ_=>?_;by_cases h:p6=0
  . rw [ay h] at yw;revert hw;refine W (E5 (od Rv) @kp0 @kp1 @kp2 @kp3 @kp4 @kp5 @kp6 @kp7 @kp8) (J7 h GR C7 Lr hmw @pw1 bC) ?_<;>(unhygienic intros);refine iH 3 ?_;refine W (J3 (od Rv) @kp8 @kp10) (J7 h GR C7 Lr hmw @pw1 bC) ?_<;>intros;refine⟨_,by simp [AW.ab];rfl,by simp [GA,aY.v,yw],?_⟩
    repeat' (first|exact AW.le.refl _|refine AW.le.set ?_ Yi _|refine AW.le.trans ?_ (AW.le.alloc _ _))
  rw [aw h] at yw;revert hw;refine W (E5 (od Rv) @kp0 @kp1 @kp2 @kp3 @kp4 @kp5 @kp6 @kp7 @kp8) (J7 h GR C7 Lr hmw @pw1 bC) ?_<;>(unhygienic intros);refine iH 3 ?_;refine W (J3 (od Rv) @kp8 @kp10) (J7 h GR C7 Lr hmw @pw1 bC) ?_<;>intros;refine⟨_,by simp [AW.ab];rfl,by simp [GA,aY.v,yw],?_⟩
  repeat' (first|exact AW.le.refl _|refine AW.le.set ?_ Yi _|refine AW.le.trans ?_ (AW.le.alloc _ _))
 refine⟨GA p0 p1 p2 p3 p4 p5 ck n0 n1,?_,λA=>aB.tF (V:=(GA p0 p1 p2 p3 p4 p5 ck n0 n1).v) (dB.agg (by simp [GA])) (λhw=>key A hw) Ye⟩;refine⟨⟨?_,?_,?_,?_,?_,?_,?_,?_,?_,?_,?_,?_,?_,?_⟩,?_,?_,?_,?_,?_,?_,?_,?_,?_,?_,?_,?_⟩<;>(simp only [GA,aY.nb,aY.hw]<;>omega)
end
section
open T7
variable [Gl]
structure nT (c:aY):Prop where
 ok:da c
 c0:c.c0=0\/c.c0=1\/c.c0=2
 c1:c.c1=0\/c.c1=1\/c.c1=2
 c2:c.c2=0
 c3:c.c3=0
theorem Q2.WO {c:aY} (h:Q2 c):nT c:=by
 have h1:=h.ok.k0;have h2:=h.ok.k1;have h3:=h.c0;have h4:=h.c1;exact⟨h.ok,by omega,by omega,h.c2,h.c3⟩
def lq (n0 n1:Int):List Int:=[tf 0 (if 0<n0 then 0 else -1),tf 0 (if 0<n1 then n0 else -1),tf 0 (-1),tf 0 (-1)]
def j8 (n0 n1:Int):List Int:=(if n0=2 then [2,0] else if n0=1 then [0] else [])++(if n1=2 then [n0+2,0] else if n1=1 then [0] else [])
theorem aj.Vu {A:AW} {L K:List It} {b:Nat} {k:IntKind} (l:List Int) (n:Nat) (h:aj A L) (hp:aE L (.at b (qi (l.map (qb k)) qg 1)) K) (hn:n=l.length):aj A (.h (au k (qf (qc ⟨b,0,qh⟩) n n) l)::K):=by
 subst hn;unfold aj at h;rw [hp.aO] at h;exact au.mk rfl (Nat.le_refl _) Yb (by rw [List.drop_zero,List.take_of_length_le Yb]) h
theorem PL (c:aY) (hc:nT c) (A:AW) (F:HP) (hw:A.Wf) (hS:aj A [.h F]) :
 aB qV 84 [c.v] A (λv A'=>∃vh vn,v=.tuple #[vh,vn]/\aj A' [.h (au qj vh (lq c.c0 c.c1)),.h (au qj vn (j8 c.c0 c.c1)),.h F]):=by
 obtain⟨bg,av,base,n0,n1,n2,n3,reads,bU,ar,aA,aC,bd⟩:=c;obtain⟨ok,h0,h1,h2,h3⟩:=hc;dsimp only at h0 h1 h2 h3 ⊢;subst h2 h3;obtain⟨q,hqn⟩:∃q:Nat,(q:Int)=n0+n1:=⟨(n0+n1).toNat,by omega⟩;have h4:q=0\/q=1\/q=2\/q=3\/q=4:=Ya
 rcases h0 with rfl|rfl|rfl<;>rcases h1 with rfl|rfl|rfl<;>rcases h4 with hqq|hqq|hqq|hqq|hqq<;>(try (exfalso;omega))
 all_goals(
  have hb:=yU _ ok;refine aK Tryz.func84 λ_=>?_;dsimp only [aY.nb,aY.v] at hb ⊢;simp only [Int.add_zero,Int.zero_add,Int.reduceAdd] at hb
  all_goals(revert hS hw;refine W (J1 @hb) (J1 bC) ?_<;>unhygienic intros)
  refine iH 5 ?_
  all_goals(revert hS hw;refine W (J1 @pB) (J1 bC) ?_<;>unhygienic intros)
  refine iH 3 ?_
  all_goals(revert hS hw;(repeat revert hc);refine W (J1 @pB) (J1 bC) ?_<;>unhygienic intros)
  refine iH 3 ?_
  all_goals(revert hS hw;(repeat revert hc);refine W (J1 @pB) (J1 bC) ?_<;>unhygienic intros)
  refine iH 3 ?_
  all_goals(revert hS hw;(repeat revert hc);refine W (J1 @pB) (J1 bC) ?_<;>unhygienic intros)
  refine iH 3 ?_
  all_goals(revert hS hw;(repeat revert hc);refine W (J1 @pB) (J1 bC) ?_<;>unhygienic intros)
  refine⟨_,by (simp [hqq];done),qf (qc ⟨A.next+1,0,qh⟩) 4 4,qf (qc ⟨A.next+1+1,0,qh⟩) q q,rfl,?_⟩;refine aj.bX (L:=[.h (au qj _ _),.h (au qj _ _),.h F]) ?_ (.s .z (.s .z (.s .z .z)));refine aj.Vu (k:=qj) (b:=A.next+1) _ 4 (aj.Vu (k:=qj) (b:=A.next+1+1) _ q (L:=[.at (A.next+1+1) _,.at (A.next+1) _,.h F]) ?_ .z (by rw [hqq];rfl)) (.s .z) rfl;apply aj.bX
  . repeat' (first|exact hS|with_reducible apply aj.gX|with_reducible apply aj.QX|with_reducible apply AW.Gp|with_reducible apply aE.z|with_reducible apply aE.s|assumption|apply AW.Wf.alloc|exact rfl)
  exact pA)
end
section
variable [Gl]
namespace aJ
def HY:qd->Nat
 | qS (qc r)=>r
 | _=>0
def bOf:qd->Nat
 | qm (qc p)=>p.block
 | _=>0
def r25:qd->Nat
 | .agg cs=>HY (cs.getD 0 undef)
 | _=>0
def pc (b:Bool) (P:HP):HP:=if b=qg then P else fl
def fS (S:Nat->Bool) (val:Nat->qd) (vh vn:qd) (key:Int):Option qd:=
 if key=1 then (if S 6=qg/\S 5=qg then qc (val 5) else qh)
 else if key=2 then (if S 10=qg/\S 9=qg then qc (val 9) else qh)
 else if key=3 then (if S 12=qg/\S 11=qg then qc (val 11) else qh)
 else if key=4 then (if S 14=qg/\S 13=qg then qc (val 13) else qh)
 else if key=5 then (if S 16=qg/\S 15=qg then qc (val 15) else qh)
 else if key=6 then (if S 19=qg/\S 18=qg then qc (val 18) else qh)
 else if key=7 then (if S 21=qg then qc vh else qh)
 else if key=8 then (if S 23=qg then qc vn else qh) else qh
def jU (S:Nat->Bool) (val:Nat->qd) (vh vn:qd):HP:=
 if S 26=qg then td λr=>pt (bOf (val 26)) (qi [qS (qc r)] qg 1)*il qa r (fS S val vh vn)
 else if S 25=qg then il qa (r25 (val 25)) (fS S val vh vn)
 else if S 24=qg then il qa (HY (val 24)) (fS S val vh vn)
 else if S 0=qg then il qa (HY (val 0)) (fS S val vh vn) else fl
def gE (S:Nat->Bool) (val:Nat->qd) (dS:List Int) (nn:Nat):HP:=
 if S 5=qg then au qj (val 5) (dS++qX nn 0) else if S 2=qg then au qj (val 2) dS else fl
def G (dS:List Int) (nn no nt:Nat) (vh vn:qd) (B:HP) (S:Nat->Bool) (val:Nat->qd):HP:=
 jU S val vh vn*(gE S val dS nn*(pc (S 9) (au qj (val 9) (qX no 0))*(pc (S 11) (au qj (val 11) (qX 1 0))*(pc (S 13) (au qj (val 13) (qX 1 0)) *
  (pc (S 15) (au qj (val 15) (qX 1 0))*(pc (S 18) (au qj (val 18) (qX nt 0))*B))))))
def IB (vi vh vn:qd) (cb nn no nt:Nat) (j:Nat) (val:Nat->qd):Prop:=
 match j with
 | 0=>∃r,val 0=qS (qc r)
 | 1=>val 1=vi
 | 3=>val 3=vn
 | 4=>val 4=qb qa (nn:Int)
 | 7=>val 7=qm (qc ⟨cb,1,qh⟩)
 | 8=>val 8=qb qa (no:Int)
 | 17=>val 17=qb qa (nt:Int)
 | 20=>val 20=vh
 | 22=>val 22=vn
 | 24=>∃r,val 24=qS (qc r)
 | 25=>∃r,val 25=.agg #[qS (qc r)]
 | 26=>∃b,val 26=qm (qc ⟨b,0,qh⟩)
 | 27=>val 27=val 26
 | 28=>val 28=qb qa 0
 | _=>True
theorem G_congr {dS:List Int} {nn no nt:Nat} {vh vn:qd} {B:HP} {S S':Nat->Bool} {val UG:Nat->qd} (hm:jU S' UG vh vn=jU S val vh vn) (hd:gE S' UG dS nn=gE S val dS nn)
 (h:∀k,k=9\/k=11\/k=13\/k=15\/k=18->S' k=S k/\(S k=qg->UG k=val k)):G dS nn no nt vh vn B S' UG=G dS nn no nt vh vn B S val:=by
 have key:∀k n,k=9\/k=11\/k=13\/k=15\/k=18->pc (S' k) (au qj (UG k) (qX n 0))=pc (S k) (au qj (val k) (qX n 0)):=λk n hk=>by
  obtain⟨h1,h2⟩:=h k hk;unfold pc;rw [h1];split;rename_i e;rw [h2 e];rfl
 unfold G;rw [hm,hd,key 9 no Yb,key 11 1 Yb,key 13 1 Yb,key 15 1 Yb,key 18 nt Yb]
end aJ
set_option maxRecDepth 100000 in
theorem I1 (nt nn no:Nat) (vi:qd) (dS:List Int) (bg av base n0 n1 n2 n3 reads bU ar aA aC:Int) (bd:Bool) (hc:nT ⟨bg,av,base,n0,n1,n2,n3,reads,bU,ar,aA,aC,bd⟩) (A:AW) (F R:HP) (hR:∀(A:AW) (F:HP),bB A (R*F)->bK A qj vi dS) (hw:A.Wf) (hS:bB A (R*F)) (h1:1<=nt) (G6:nt<=16) (hi:(dS.length:Int)=bg) (zW:av=(no:Int)) (hnn:(j8 n0 n1).length=nn) :
 aB qV 53 [(aY.mk bg av base n0 n1 n2 n3 reads bU ar aA aC bd).v,qb qa (nt:Int),vi] A (λv A'=>∃pb,v=.tuple #[qm (qc ⟨pb,0,qh⟩),qb qa 0]/\
  bB A' (fg pb (λk=>if k=0 then dS++qX nn 0 else if k=1 then qX no 0 else if k=5 then qX nt 0 else if k=6 then lq n0 n1 else if k=7 then j8 n0 n1 else [0])*(R*F))):=by
 have yw:=tu _ hc.ok;have hls:=PL _ hc;have hno1:1<=no/\no<=64:=by
  have:=hc.ok.av;dsimp only at this;omega
 have hi64:dS.length<=64:=by
  have:=hc.ok.bg;dsimp only at this;omega
 have hnn1:nn<=4:=by
  have h0:=hc.c0;have h1:=hc.c1;dsimp only at h0 h1;rw [<-hnn];rcases h0 with rfl|rfl|rfl<;>rcases h1 with rfl|rfl|rfl<;>decide
 refine aK Tryz.func53 λ_=>?_;obtain⟨oi,ci,rfl,_⟩:=(hR A F hS).bR;have hnt:¬(nt:Int)<1:=Ya
 have hnt2:¬(16:Int)<nt:=Ya
 dsimp only [aY.v] at yw hls ⊢
 repeat' (first|(refine iT λR hR=>?_;simp [AW.ab,hnt,hnt2,hi];try simp (disch:=omega) only [ay,aw,af,an])|(refine hR _ _ ?_;clear hR R)|(refine hK _ _ ?_;clear hK K)|refine nx ?_|refine wn λK hK=>?_|simp only [wS]|(refine bD (yw _) ?_;rintro _ _ ⟨rfl,rfl⟩ _ _)|(show cM _ _ _ _ _ _;refine nx ?_)|(refine wc rfl (λhc=>?_) (λhc=>?_)<;>(try simp at hc)))
 obtain⟨CV,hCV⟩:∃CV:List qd,CV=[qb qa bg,qb qa av,qb qa base,qb qa n0,qb qa n1,qb qa n2,qb qa n3,qb qa reads,qb qa bU,qb qa ar,qb qa aA,qb qa aC,.bool bd]:=⟨_,rfl⟩;have iZ:=hw.alloc (qi CV qg 1);have js:=hS.alloc hw (qi CV qg 1);rw [hCV] at iZ js;refine bD (hls _ _ iZ (aj.mk js)) ?_;rintro v A2 ⟨vh,vn,rfl,hSL2⟩ jE _
 repeat (first|(refine hR _ _ ?_;clear hR R)|(refine iT (λR hR=>?_);simp)|refine lwn ?_|(refine hK _ _ ?_;clear hK K))
 have lO:bB A2 (au qj vh (lq n0 n1)*(au qj vn (j8 n0 n1)*(pt A.next (qi CV qg 1)*(R*F)))):=by
  subst hCV;have:=hSL2;simp only [aj,aO,It.hp,dH] at this;exact this
 have hvnf:∃o c,vn=qf o nn c:=by
  obtain⟨o,c,h,_⟩:=(au.is lO.right).bR;rw [hnn] at h;exact⟨o,c,h⟩
 obtain⟨B,hB⟩:∃B,B=au qj vh (lq n0 n1)*(au qj vn (j8 n0 n1)*(pt A.next (qi CV qg 1)*(R*F))):=⟨_,rfl⟩;refine aT (W9 Ye Yc (aJ.G dS nn no nt vh vn B) (aJ.IB (qf oi dS.length ci) vh vn A.next nn no nt) ?_ ?_ ?_ ?_ ?_);intro S i val v hc hi;have c6:=hc 6 5 Yc;have c10:=hc 10 9 Yc;have c12:=hc 12 11 Yc;have c14:=hc 14 13 Yc;have c16:=hc 16 15 Yc;have c19:=hc 19 18 Yc;have hv:∀k,S k=qg->cQ val i v k=val k:=λk hk=>by
  have:k≠i:=λe=>by rw [e,hi] at hk;cases hk
  simp [cQ,this]
 have IU:aJ.fS S (cQ val i v) vh vn=aJ.fS S val vh vn:=by
  funext key;unfold aJ.fS;have e:∀p k,(S p=qg->S k=qg)->(if S p=qg/\S k=qg then qc (cQ val i v k) else qh)=if S p=qg/\S k=qg then qc (val k) else qh:=λp k _=>by
   split;rename_i h;rw [hv k h.2];rfl
  rw [e 6 5 c6,e 10 9 c10,e 12 11 c12,e 14 13 c14,e 16 15 c16,e 19 18 c19]
 refine aJ.G_congr ?_ ?_ (λk _=>⟨rfl,hv k⟩);unfold aJ.jU;rw [IU];split;rename_i h;rw [hv 26 h];split;rename_i h;rw [hv 25 h];split;rename_i h;rw [hv 24 h];split;rename_i h;rw [hv 0 h];rfl;unfold aJ.gE;split;rename_i h;rw [hv 5 h];split;rename_i h;rw [hv 2 h];rfl;intro S i j val v hc hi hj;have c27:=hc 27 26 Yc;have hv:∀k,S k=qg->cQ val i v k=val k:=λk hk=>by
  have:k≠i:=λe=>by rw [e,hi] at hk;cases hk
  simp [cQ,this]
 have hvj:=hv j hj;unfold aJ.IB;split<;>intro h<;>first|(rw [hvj,hv 26 (c27 hj)];exact h)|(simp only [hvj];exact h)|trivial
 intro val;have e:aJ.G dS nn no nt vh vn B (λ_=>qk) val=B:=by
  simp [aJ.G,aJ.jU,aJ.gE,aJ.pc,jf]
 rw [e,hB];exact lO
 . intro i bY S val a A3 up kH dw wV hs;have o1:a 1=qb qa (nt:Int):=(by rw [dw.ey 1 Yc];simp);have o2:a 2=qf oi dS.length ci:=(by rw [dw.ey 2 Yc];simp);have o3:a 3=qm (qc ⟨A.next,0,qh⟩):=(by rw [dw.ey 3 Yc];simp);have o9:a 9=vh:=(by rw [dw.ey 9 Yc];simp);have oE:a 10=vn:=(by rw [dw.ey 10 Yc];simp);have fj:∀k j,AB _ k j=qg->S j=qk->S k=qk:=λk j h hj=>by
    cases hk:S k;rfl;have:=dw.closed k j h hk;rw [hj] at this;cases this
   have hBs:bB A3 (B*(aJ.jU S val vh vn*(aJ.gE S val dS nn*(aJ.pc (S 9) (au qj (val 9) (qX no 0))*(aJ.pc (S 11) (au qj (val 11) (qX 1 0))*(aJ.pc (S 13) (au qj (val 13) (qX 1 0)) *
    (aJ.pc (S 15) (au qj (val 15) (qX 1 0))*aJ.pc (S 18) (au qj (val 18) (qX nt 0))))))))):=hs.dD (by unfold aJ.G;ac_rfl)
   obtain h|h|h|h|h|h|h|h|h|h|h|h|h|h|h|h|h|h|h|h|h|h|h|h|h|h|h|h|h:i=0\/i=1\/i=2\/i=3\/i=4\/i=5\/i=6\/i=7\/i=8\/i=9\/i=10\/i=11\/i=12\/i=13\/i=14\/i=15\/i=16\/i=17\/i=18\/i=19\/i=20\/i=21\/i=22\/i=23\/i=24\/i=25\/i=26\/i=27\/i=28:=by
    have:i<29:=bY;omega
   all_goals subst h
   .
    have xv:=fj 24 0 Yc up;have vm:=fj 25 24 Yc xv;have BP:=fj 26 25 Yc vm;have s6:=fj 6 0 Yc up;have s10:=fj 10 0 Yc up;have s12:=fj 12 0 Yc up;have s14:=fj 14 0 Yc up;have s16:=fj 16 0 Yc up;have s19:=fj 19 0 Yc up;have s21:=fj 21 0 Yc up;have s23:=fj 23 0 Yc up;have hk:aJ.G dS nn no nt vh vn B (dg S 0) (cQ val 0 (qS (qc A3.next)))=il qa A3.next (λ_=>qh)*aJ.G dS nn no nt vh vn B S val:=by
     have hf:aJ.fS (dg S 0) (cQ val 0 (qS (qc A3.next))) vh vn=λ_=>qh:=by funext key;simp [aJ.fS,dg,s6,s10,s12,s14,s16,s19,s21,s23]
     simp [aJ.G,aJ.jU,aJ.gE,aJ.pc,hf];simp [dg,cQ,xv,vm,BP,up,aJ.HY,jf]
    simp [nc,hk];exact⟨⟨A3.next,by simp [cQ]⟩,il.mR hs wV⟩
   .
    have hk:∀v,aJ.G dS nn no nt vh vn B (dg S 1) (cQ val 1 v)=aJ.G dS nn no nt vh vn B S val:=λv=>by
     have hf:aJ.fS (dg S 1) (cQ val 1 v) vh vn=aJ.fS S val vh vn:=by funext key;simp [aJ.fS,dg,cQ]
     simp [aJ.G,aJ.jU,aJ.gE,aJ.pc,hf];simp [dg,cQ]
    simp [nc,o2,hk]
    exact⟨by simp [aJ.IB,cQ],hs⟩
   .
    have s5:=fj 5 2 Yc up;have v1:a 33=qf oi dS.length ci:=(by rw [dw.mP 1 33 Yc (kH 1 Yc)];exact dw.tN 1 (kH 1 Yc));have wZ:bK A3 qj (qf oi dS.length ci) dS:=by
     have h':=hBs.left;rw [hB] at h';have:=hR A3 _ h'.right.right.right;exact this
    have hk:∀v,aJ.G dS nn no nt vh vn B (dg S 2) (cQ val 2 v)=au qj v dS*aJ.G dS nn no nt vh vn B S val:=λv=>by
     have hf:aJ.fS (dg S 2) (cQ val 2 v) vh vn=aJ.fS S val vh vn:=by funext key;simp [aJ.fS,dg,cQ]
     simp [aJ.G,aJ.jU,aJ.gE,aJ.pc,hf];simp [dg,cQ,s5,up,jf]
     ac_rfl
    simp [nc,v1];refine bD (jK _ dS A3 wZ Ya) ?_;rintro v A4 ⟨h1,h2⟩ _ _;refine⟨trivial,?_⟩;rw [hk];exact au.jd hs wV h2 h1
   .
    have hk:∀v,aJ.G dS nn no nt vh vn B (dg S 3) (cQ val 3 v)=aJ.G dS nn no nt vh vn B S val:=λv=>by
     have hf:aJ.fS (dg S 3) (cQ val 3 v) vh vn=aJ.fS S val vh vn:=by funext key;simp [aJ.fS,dg,cQ]
     simp [aJ.G,aJ.jU,aJ.gE,aJ.pc,hf];simp [dg,cQ]
    simp [nc,oE,hk]
    exact⟨by simp [aJ.IB,cQ],hs⟩
   .
    have hk:∀v,aJ.G dS nn no nt vh vn B (dg S 4) (cQ val 4 v)=aJ.G dS nn no nt vh vn B S val:=λv=>by
     have hf:aJ.fS (dg S 4) (cQ val 4 v) vh vn=aJ.fS S val vh vn:=by funext key;simp [aJ.fS,dg,cQ]
     simp [aJ.G,aJ.jU,aJ.gE,aJ.pc,hf];simp [dg,cQ]
    have v4:a 35=vn:=(by rw [dw.mP 3 35 Yc (kH 3 Yc)];exact dw.tN 3 (kH 3 Yc));obtain⟨on,cn,hvn⟩:=hvnf;rw [hvn] at v4;simp [nc,v4];exact⟨by simp [aJ.IB,cQ],by rw [hk];exact hs⟩
   .
    have s6:=fj 6 5 Yc up;have s2:=kH 2 Yc;have v2:a 34=val 2:=dw.mP 2 34 Yc s2;have v4:a 36=qb qa ((nn:Nat):Int):=(by rw [dw.mP 4 36 Yc (kH 4 Yc)];exact dw.tN 4 (kH 4 Yc));obtain⟨X,hX⟩:∃X,aJ.G dS nn no nt vh vn B S val=au qj (val 2) dS*X/\∀v,aJ.G dS nn no nt vh vn B (dg S 5) (cQ val 5 v)=au qj v (dS++qX nn 0)*X:=by
     refine⟨aJ.jU S val vh vn*(aJ.pc (S 9) (au qj (val 9) (qX no 0))*(aJ.pc (S 11) (au qj (val 11) (qX 1 0))*(aJ.pc (S 13) (au qj (val 13) (qX 1 0)) *
      (aJ.pc (S 15) (au qj (val 15) (qX 1 0))*(aJ.pc (S 18) (au qj (val 18) (qX nt 0))*B))))),?_,λv=>?_⟩
     simp only [aJ.G,aJ.gE,up,s2,if_true,Zg,if_false]
     ac_rfl
     have hf:aJ.fS (dg S 5) (cQ val 5 v) vh vn=aJ.fS S val vh vn:=by funext key;simp [aJ.fS,dg,cQ,s6]
     simp only [aJ.G,aJ.jU,aJ.gE,aJ.pc,hf];simp only [dg,cQ,Zv,if_true,if_false]
     ac_rfl
    rw [hX.1] at hs;obtain⟨v',A4,e1,e2,e3⟩:=au.appendZ (P:=qV) (t:=28) (u:=3) (kq:=qa) nn kaj kak kap kaq rfl hs Ya Yb wV;simp [nc,v2,v4]
    try simp at e1
    simp [e1];rw [hX.2];exact⟨trivial,e2⟩
   .
    have xv:=fj 24 6 Yc up;have vm:=fj 25 24 Yc xv;have BP:=fj 26 25 Yc vm;have s0:=kH 0 Yc;have sp:=kH 5 Yc;obtain⟨r,hr⟩:=dw.tN 0 s0;have v0:a 32=qS (qc r):=(by rw [dw.mP 0 32 Yc s0];exact hr);have vx:a 37=val 5:=dw.mP 5 37 Yc sp;obtain⟨X,NZ,NY⟩:∃X,aJ.G dS nn no nt vh vn B S val=il qa r (aJ.fS S val vh vn)*X/\∀v,aJ.G dS nn no nt vh vn B (dg S 6) (cQ val 6 v)=il qa r (oc (aJ.fS S val vh vn) 1 (val 5))*X:=by
     refine⟨(aJ.gE S val dS nn*(aJ.pc (S 9) (au qj (val 9) (qX no 0))*(aJ.pc (S 11) (au qj (val 11) (qX 1 0))*(aJ.pc (S 13) (au qj (val 13) (qX 1 0)) *
      (aJ.pc (S 15) (au qj (val 15) (qX 1 0))*(aJ.pc (S 18) (au qj (val 18) (qX nt 0))*B)))))),?_,λv=>?_⟩
     simp only [aJ.G,aJ.jU,BP,vm,xv,s0,hr,aJ.HY,if_true,Zg,if_false];have hf:aJ.fS (dg S 6) (cQ val 6 v) vh vn=oc (aJ.fS S val vh vn) 1 (val 5):=by
      funext key;simp only [aJ.fS,dg,cQ,oc,Zv,if_true,if_false];by_cases hkey:key=1;subst hkey;simp [sp];simp [hkey]
     simp only [aJ.G,aJ.jU,aJ.gE,aJ.pc,hf];simp only [dg,cQ,BP,vm,xv,s0,hr,aJ.HY,Zv,if_true,if_false,Zg]
    rw [NZ] at hs;obtain⟨A4,e1,e2,_⟩:=il.xX (P:=qV) (t:=189) hs kaM kak 1 (val 5);simp [-gS,nc,v0,vx,e1];rw [NY];exact⟨trivial,e2⟩
   .
    have hk:∀v,aJ.G dS nn no nt vh vn B (dg S 7) (cQ val 7 v)=aJ.G dS nn no nt vh vn B S val:=λv=>by
     have hf:aJ.fS (dg S 7) (cQ val 7 v) vh vn=aJ.fS S val vh vn:=by funext key;simp [aJ.fS,dg,cQ]
     simp [aJ.G,aJ.jU,aJ.gE,aJ.pc,hf];simp [dg,cQ]
    simp [nc,o3,hk]
    exact⟨by simp [aJ.IB,cQ],hs⟩
   .
    have hk:∀v,aJ.G dS nn no nt vh vn B (dg S 8) (cQ val 8 v)=aJ.G dS nn no nt vh vn B S val:=λv=>by
     have hf:aJ.fS (dg S 8) (cQ val 8 v) vh vn=aJ.fS S val vh vn:=by funext key;simp [aJ.fS,dg,cQ]
     simp [aJ.G,aJ.jU,aJ.gE,aJ.pc,hf];simp [dg,cQ]
    have v8:a 38=qm (qc ⟨A.next,1,qh⟩):=(by rw [dw.mP 7 38 Yc (kH 7 Yc)];exact dw.tN 7 (kH 7 Yc));have hgc:A3.bk A.next=qc (qi CV qg 1):=by
     have h':=hBs.left;rw [hB] at h';exact h'.right.right.bk
    simp [nc,v8,hgc,hCV,AW.ab,hk,zW]
    exact⟨by simp [aJ.IB,cQ],hs⟩
   .
    have sI:=fj 10 9 Yc up;have vd:a 39=qb qa ((no:Nat):Int):=(by rw [dw.mP 8 39 Yc (kH 8 Yc)];exact dw.tN 8 (kH 8 Yc));have hk:∀v,aJ.G dS nn no nt vh vn B (dg S 9) (cQ val 9 v)=au qj v (qX no 0)*aJ.G dS nn no nt vh vn B S val:=λv=>by
     have hf:aJ.fS (dg S 9) (cQ val 9 v) vh vn=aJ.fS S val vh vn:=by funext key;simp [aJ.fS,dg,cQ,sI]
     simp only [aJ.G,aJ.jU,aJ.gE,aJ.pc,hf];simp only [dg,cQ,up,Zv,if_true,if_false,Zg,jf]
     ac_rfl
    obtain⟨v',A4,e1,e2,e3,_⟩:=au.VI (P:=qV) (t:=28) (k1:=qa) (k2:=qa) no kaj kap kaq rfl Yb Ya hs wV;have e1':pw qV A3 28 (qb qa (no:Int)) (qb qa (no:Int))=qc (v',A4):=e1;simp [-pw,nc,vd,e1'];rw [hk];exact⟨trivial,e2⟩
   .
    have xv:=fj 24 10 Yc up;have vm:=fj 25 24 Yc xv;have BP:=fj 26 25 Yc vm;have s0:=kH 0 Yc;have sp:=kH 9 Yc;obtain⟨r,hr⟩:=dw.tN 0 s0;have v0:a 32=qS (qc r):=(by rw [dw.mP 0 32 Yc s0];exact hr);have vx:a 40=val 9:=dw.mP 9 40 Yc sp;obtain⟨X,NZ,NY⟩:∃X,aJ.G dS nn no nt vh vn B S val=il qa r (aJ.fS S val vh vn)*X/\∀v,aJ.G dS nn no nt vh vn B (dg S 10) (cQ val 10 v)=il qa r (oc (aJ.fS S val vh vn) 2 (val 9))*X:=by
     refine⟨(aJ.gE S val dS nn*(aJ.pc (S 9) (au qj (val 9) (qX no 0))*(aJ.pc (S 11) (au qj (val 11) (qX 1 0))*(aJ.pc (S 13) (au qj (val 13) (qX 1 0)) *
      (aJ.pc (S 15) (au qj (val 15) (qX 1 0))*(aJ.pc (S 18) (au qj (val 18) (qX nt 0))*B)))))),?_,λv=>?_⟩
     simp only [aJ.G,aJ.jU,BP,vm,xv,s0,hr,aJ.HY,if_true,Zg,if_false];have hf:aJ.fS (dg S 10) (cQ val 10 v) vh vn=oc (aJ.fS S val vh vn) 2 (val 9):=by
      funext key;simp only [aJ.fS,dg,cQ,oc,Zv,if_true,if_false];by_cases hkey:key=2;subst hkey;simp [sp];simp [hkey]
     simp only [aJ.G,aJ.jU,aJ.gE,aJ.pc,hf];simp only [dg,cQ,BP,vm,xv,s0,hr,aJ.HY,Zv,if_true,if_false,Zg]
    rw [NZ] at hs;obtain⟨A4,e1,e2,_⟩:=il.xX (P:=qV) (t:=189) hs kaM kak 2 (val 9);simp [-gS,nc,v0,vx,e1];rw [NY];exact⟨trivial,e2⟩
   .
    have sI:=fj 12 11 Yc up;have hk:∀v,aJ.G dS nn no nt vh vn B (dg S 11) (cQ val 11 v)=au qj v (qX 1 0)*aJ.G dS nn no nt vh vn B S val:=λv=>by
     have hf:aJ.fS (dg S 11) (cQ val 11 v) vh vn=aJ.fS S val vh vn:=by funext key;simp [aJ.fS,dg,cQ,sI]
     simp only [aJ.G,aJ.jU,aJ.gE,aJ.pc,hf];simp only [dg,cQ,up,Zv,if_true,if_false,Zg,jf]
     ac_rfl
    obtain⟨v',A4,e1,e2,e3,_⟩:=au.VI (P:=qV) (t:=28) (k1:=qa) (k2:=qa) 1 kaj kap kaq rfl Yb Ya hs wV;have e1':pw qV A3 28 (qb qa 1) (qb qa 1)=qc (v',A4):=e1;simp [-pw,nc,e1'];rw [hk];exact⟨trivial,e2⟩
   .
    have xv:=fj 24 12 Yc up;have vm:=fj 25 24 Yc xv;have BP:=fj 26 25 Yc vm;have s0:=kH 0 Yc;have sp:=kH 11 Yc;obtain⟨r,hr⟩:=dw.tN 0 s0;have v0:a 32=qS (qc r):=(by rw [dw.mP 0 32 Yc s0];exact hr);have vx:a 41=val 11:=dw.mP 11 41 Yc sp;obtain⟨X,NZ,NY⟩:∃X,aJ.G dS nn no nt vh vn B S val=il qa r (aJ.fS S val vh vn)*X/\∀v,aJ.G dS nn no nt vh vn B (dg S 12) (cQ val 12 v)=il qa r (oc (aJ.fS S val vh vn) 3 (val 11))*X:=by
     refine⟨(aJ.gE S val dS nn*(aJ.pc (S 9) (au qj (val 9) (qX no 0))*(aJ.pc (S 11) (au qj (val 11) (qX 1 0))*(aJ.pc (S 13) (au qj (val 13) (qX 1 0)) *
      (aJ.pc (S 15) (au qj (val 15) (qX 1 0))*(aJ.pc (S 18) (au qj (val 18) (qX nt 0))*B)))))),?_,λv=>?_⟩
     simp only [aJ.G,aJ.jU,BP,vm,xv,s0,hr,aJ.HY,if_true,Zg,if_false];have hf:aJ.fS (dg S 12) (cQ val 12 v) vh vn=oc (aJ.fS S val vh vn) 3 (val 11):=by
      funext key;simp only [aJ.fS,dg,cQ,oc,Zv,if_true,if_false];by_cases hkey:key=3;subst hkey;simp [sp];simp [hkey]
     simp only [aJ.G,aJ.jU,aJ.gE,aJ.pc,hf];simp only [dg,cQ,BP,vm,xv,s0,hr,aJ.HY,Zv,if_true,if_false,Zg]
    rw [NZ] at hs;obtain⟨A4,e1,e2,_⟩:=il.xX (P:=qV) (t:=189) hs kaM kak 3 (val 11);simp [-gS,nc,v0,vx,e1];rw [NY];exact⟨trivial,e2⟩
   .
    have sI:=fj 14 13 Yc up;have hk:∀v,aJ.G dS nn no nt vh vn B (dg S 13) (cQ val 13 v)=au qj v (qX 1 0)*aJ.G dS nn no nt vh vn B S val:=λv=>by
     have hf:aJ.fS (dg S 13) (cQ val 13 v) vh vn=aJ.fS S val vh vn:=by funext key;simp [aJ.fS,dg,cQ,sI]
     simp only [aJ.G,aJ.jU,aJ.gE,aJ.pc,hf];simp only [dg,cQ,up,Zv,if_true,if_false,Zg,jf]
     ac_rfl
    obtain⟨v',A4,e1,e2,e3,_⟩:=au.VI (P:=qV) (t:=28) (k1:=qa) (k2:=qa) 1 kaj kap kaq rfl Yb Ya hs wV;have e1':pw qV A3 28 (qb qa 1) (qb qa 1)=qc (v',A4):=e1;simp [-pw,nc,e1'];rw [hk];exact⟨trivial,e2⟩
   .
    have xv:=fj 24 14 Yc up;have vm:=fj 25 24 Yc xv;have BP:=fj 26 25 Yc vm;have s0:=kH 0 Yc;have sp:=kH 13 Yc;obtain⟨r,hr⟩:=dw.tN 0 s0;have v0:a 32=qS (qc r):=(by rw [dw.mP 0 32 Yc s0];exact hr);have vx:a 42=val 13:=dw.mP 13 42 Yc sp;obtain⟨X,NZ,NY⟩:∃X,aJ.G dS nn no nt vh vn B S val=il qa r (aJ.fS S val vh vn)*X/\∀v,aJ.G dS nn no nt vh vn B (dg S 14) (cQ val 14 v)=il qa r (oc (aJ.fS S val vh vn) 4 (val 13))*X:=by
     refine⟨(aJ.gE S val dS nn*(aJ.pc (S 9) (au qj (val 9) (qX no 0))*(aJ.pc (S 11) (au qj (val 11) (qX 1 0))*(aJ.pc (S 13) (au qj (val 13) (qX 1 0)) *
      (aJ.pc (S 15) (au qj (val 15) (qX 1 0))*(aJ.pc (S 18) (au qj (val 18) (qX nt 0))*B)))))),?_,λv=>?_⟩
     simp only [aJ.G,aJ.jU,BP,vm,xv,s0,hr,aJ.HY,if_true,Zg,if_false];have hf:aJ.fS (dg S 14) (cQ val 14 v) vh vn=oc (aJ.fS S val vh vn) 4 (val 13):=by
      funext key;simp only [aJ.fS,dg,cQ,oc,Zv,if_true,if_false];by_cases hkey:key=4;subst hkey;simp [sp];simp [hkey]
     simp only [aJ.G,aJ.jU,aJ.gE,aJ.pc,hf];simp only [dg,cQ,BP,vm,xv,s0,hr,aJ.HY,Zv,if_true,if_false,Zg]
    rw [NZ] at hs;obtain⟨A4,e1,e2,_⟩:=il.xX (P:=qV) (t:=189) hs kaM kak 4 (val 13);simp [-gS,nc,v0,vx,e1];rw [NY];exact⟨trivial,e2⟩
   .
    have sI:=fj 16 15 Yc up;have hk:∀v,aJ.G dS nn no nt vh vn B (dg S 15) (cQ val 15 v)=au qj v (qX 1 0)*aJ.G dS nn no nt vh vn B S val:=λv=>by
     have hf:aJ.fS (dg S 15) (cQ val 15 v) vh vn=aJ.fS S val vh vn:=by funext key;simp [aJ.fS,dg,cQ,sI]
     simp only [aJ.G,aJ.jU,aJ.gE,aJ.pc,hf];simp only [dg,cQ,up,Zv,if_true,if_false,Zg,jf]
     ac_rfl
    obtain⟨v',A4,e1,e2,e3,_⟩:=au.VI (P:=qV) (t:=28) (k1:=qa) (k2:=qa) 1 kaj kap kaq rfl Yb Ya hs wV;have e1':pw qV A3 28 (qb qa 1) (qb qa 1)=qc (v',A4):=e1;simp [-pw,nc,e1'];rw [hk];exact⟨trivial,e2⟩
   .
    have xv:=fj 24 16 Yc up;have vm:=fj 25 24 Yc xv;have BP:=fj 26 25 Yc vm;have s0:=kH 0 Yc;have sp:=kH 15 Yc;obtain⟨r,hr⟩:=dw.tN 0 s0;have v0:a 32=qS (qc r):=(by rw [dw.mP 0 32 Yc s0];exact hr);have vx:a 43=val 15:=dw.mP 15 43 Yc sp;obtain⟨X,NZ,NY⟩:∃X,aJ.G dS nn no nt vh vn B S val=il qa r (aJ.fS S val vh vn)*X/\∀v,aJ.G dS nn no nt vh vn B (dg S 16) (cQ val 16 v)=il qa r (oc (aJ.fS S val vh vn) 5 (val 15))*X:=by
     refine⟨(aJ.gE S val dS nn*(aJ.pc (S 9) (au qj (val 9) (qX no 0))*(aJ.pc (S 11) (au qj (val 11) (qX 1 0))*(aJ.pc (S 13) (au qj (val 13) (qX 1 0)) *
      (aJ.pc (S 15) (au qj (val 15) (qX 1 0))*(aJ.pc (S 18) (au qj (val 18) (qX nt 0))*B)))))),?_,λv=>?_⟩
     simp only [aJ.G,aJ.jU,BP,vm,xv,s0,hr,aJ.HY,if_true,Zg,if_false];have hf:aJ.fS (dg S 16) (cQ val 16 v) vh vn=oc (aJ.fS S val vh vn) 5 (val 15):=by
      funext key;simp only [aJ.fS,dg,cQ,oc,Zv,if_true,if_false];by_cases hkey:key=5;subst hkey;simp [sp];simp [hkey]
     simp only [aJ.G,aJ.jU,aJ.gE,aJ.pc,hf];simp only [dg,cQ,BP,vm,xv,s0,hr,aJ.HY,Zv,if_true,if_false,Zg]
    rw [NZ] at hs;obtain⟨A4,e1,e2,_⟩:=il.xX (P:=qV) (t:=189) hs kaM kak 5 (val 15);simp [-gS,nc,v0,vx,e1];rw [NY];exact⟨trivial,e2⟩
   .
    have hk:∀v,aJ.G dS nn no nt vh vn B (dg S 17) (cQ val 17 v)=aJ.G dS nn no nt vh vn B S val:=λv=>by
     have hf:aJ.fS (dg S 17) (cQ val 17 v) vh vn=aJ.fS S val vh vn:=by funext key;simp [aJ.fS,dg,cQ]
     simp [aJ.G,aJ.jU,aJ.gE,aJ.pc,hf];simp [dg,cQ]
    simp [nc,o1,hk]
    exact⟨by simp [aJ.IB,cQ],hs⟩
   .
    have sI:=fj 19 18 Yc up;have vd:a 44=qb qa ((nt:Nat):Int):=(by rw [dw.mP 17 44 Yc (kH 17 Yc)];exact dw.tN 17 (kH 17 Yc));have hk:∀v,aJ.G dS nn no nt vh vn B (dg S 18) (cQ val 18 v)=au qj v (qX nt 0)*aJ.G dS nn no nt vh vn B S val:=λv=>by
     have hf:aJ.fS (dg S 18) (cQ val 18 v) vh vn=aJ.fS S val vh vn:=by funext key;simp [aJ.fS,dg,cQ,sI]
     simp only [aJ.G,aJ.jU,aJ.gE,aJ.pc,hf];simp only [dg,cQ,up,Zv,if_true,if_false,Zg,jf]
     ac_rfl
    obtain⟨v',A4,e1,e2,e3,_⟩:=au.VI (P:=qV) (t:=28) (k1:=qa) (k2:=qa) nt kaj kap kaq rfl Yb Ya hs wV;have e1':pw qV A3 28 (qb qa (nt:Int)) (qb qa (nt:Int))=qc (v',A4):=e1;simp [-pw,nc,vd,e1'];rw [hk];exact⟨trivial,e2⟩
   .
    have xv:=fj 24 19 Yc up;have vm:=fj 25 24 Yc xv;have BP:=fj 26 25 Yc vm;have s0:=kH 0 Yc;have sp:=kH 18 Yc;obtain⟨r,hr⟩:=dw.tN 0 s0;have v0:a 32=qS (qc r):=(by rw [dw.mP 0 32 Yc s0];exact hr);have vx:a 45=val 18:=dw.mP 18 45 Yc sp;obtain⟨X,NZ,NY⟩:∃X,aJ.G dS nn no nt vh vn B S val=il qa r (aJ.fS S val vh vn)*X/\∀v,aJ.G dS nn no nt vh vn B (dg S 19) (cQ val 19 v)=il qa r (oc (aJ.fS S val vh vn) 6 (val 18))*X:=by
     refine⟨(aJ.gE S val dS nn*(aJ.pc (S 9) (au qj (val 9) (qX no 0))*(aJ.pc (S 11) (au qj (val 11) (qX 1 0))*(aJ.pc (S 13) (au qj (val 13) (qX 1 0)) *
      (aJ.pc (S 15) (au qj (val 15) (qX 1 0))*(aJ.pc (S 18) (au qj (val 18) (qX nt 0))*B)))))),?_,λv=>?_⟩
     simp only [aJ.G,aJ.jU,BP,vm,xv,s0,hr,aJ.HY,if_true,Zg,if_false];have hf:aJ.fS (dg S 19) (cQ val 19 v) vh vn=oc (aJ.fS S val vh vn) 6 (val 18):=by
      funext key;simp only [aJ.fS,dg,cQ,oc,Zv,if_true,if_false];by_cases hkey:key=6;subst hkey;simp [sp];simp [hkey]
     simp only [aJ.G,aJ.jU,aJ.gE,aJ.pc,hf];simp only [dg,cQ,BP,vm,xv,s0,hr,aJ.HY,Zv,if_true,if_false,Zg]
    rw [NZ] at hs;obtain⟨A4,e1,e2,_⟩:=il.xX (P:=qV) (t:=189) hs kaM kak 6 (val 18);simp [-gS,nc,v0,vx,e1];rw [NY];exact⟨trivial,e2⟩
   .
    have hk:∀v,aJ.G dS nn no nt vh vn B (dg S 20) (cQ val 20 v)=aJ.G dS nn no nt vh vn B S val:=λv=>by
     have hf:aJ.fS (dg S 20) (cQ val 20 v) vh vn=aJ.fS S val vh vn:=by funext key;simp [aJ.fS,dg,cQ]
     simp [aJ.G,aJ.jU,aJ.gE,aJ.pc,hf];simp [dg,cQ]
    simp [nc,o9,hk]
    exact⟨by simp [aJ.IB,cQ],hs⟩
   .
    have xv:=fj 24 21 Yc up;have vm:=fj 25 24 Yc xv;have BP:=fj 26 25 Yc vm;have s0:=kH 0 Yc;have sp:=kH 20 Yc;obtain⟨r,hr⟩:=dw.tN 0 s0;have v0:a 32=qS (qc r):=(by rw [dw.mP 0 32 Yc s0];exact hr);have vx:a 46=vh:=(by rw [dw.mP 20 46 Yc sp];exact dw.tN 20 sp);obtain⟨X,NZ,NY⟩:∃X,aJ.G dS nn no nt vh vn B S val=il qa r (aJ.fS S val vh vn)*X/\∀v,aJ.G dS nn no nt vh vn B (dg S 21) (cQ val 21 v)=il qa r (oc (aJ.fS S val vh vn) 7 vh)*X:=by
     refine⟨(aJ.gE S val dS nn*(aJ.pc (S 9) (au qj (val 9) (qX no 0))*(aJ.pc (S 11) (au qj (val 11) (qX 1 0))*(aJ.pc (S 13) (au qj (val 13) (qX 1 0)) *
      (aJ.pc (S 15) (au qj (val 15) (qX 1 0))*(aJ.pc (S 18) (au qj (val 18) (qX nt 0))*B)))))),?_,λv=>?_⟩
     simp only [aJ.G,aJ.jU,BP,vm,xv,s0,hr,aJ.HY,if_true,Zg,if_false];have hf:aJ.fS (dg S 21) (cQ val 21 v) vh vn=oc (aJ.fS S val vh vn) 7 vh:=by
      funext key;simp only [aJ.fS,dg,cQ,oc,Zv,if_true,if_false];by_cases hkey:key=7;subst hkey;simp;simp [hkey]
     simp only [aJ.G,aJ.jU,aJ.gE,aJ.pc,hf];simp only [dg,cQ,BP,vm,xv,s0,hr,aJ.HY,Zv,if_true,if_false,Zg]
    rw [NZ] at hs;obtain⟨A4,e1,e2,_⟩:=il.xX (P:=qV) (t:=189) hs kaM kak 7 vh;simp [-gS,nc,v0,vx,e1];rw [NY];exact⟨trivial,e2⟩
   .
    have hk:∀v,aJ.G dS nn no nt vh vn B (dg S 22) (cQ val 22 v)=aJ.G dS nn no nt vh vn B S val:=λv=>by
     have hf:aJ.fS (dg S 22) (cQ val 22 v) vh vn=aJ.fS S val vh vn:=by funext key;simp [aJ.fS,dg,cQ]
     simp [aJ.G,aJ.jU,aJ.gE,aJ.pc,hf];simp [dg,cQ]
    simp [nc,oE,hk]
    exact⟨by simp [aJ.IB,cQ],hs⟩
   .
    have xv:=fj 24 23 Yc up;have vm:=fj 25 24 Yc xv;have BP:=fj 26 25 Yc vm;have s0:=kH 0 Yc;have sp:=kH 22 Yc;obtain⟨r,hr⟩:=dw.tN 0 s0;have v0:a 32=qS (qc r):=(by rw [dw.mP 0 32 Yc s0];exact hr);have vx:a 47=vn:=(by rw [dw.mP 22 47 Yc sp];exact dw.tN 22 sp);obtain⟨X,NZ,NY⟩:∃X,aJ.G dS nn no nt vh vn B S val=il qa r (aJ.fS S val vh vn)*X/\∀v,aJ.G dS nn no nt vh vn B (dg S 23) (cQ val 23 v)=il qa r (oc (aJ.fS S val vh vn) 8 vn)*X:=by
     refine⟨(aJ.gE S val dS nn*(aJ.pc (S 9) (au qj (val 9) (qX no 0))*(aJ.pc (S 11) (au qj (val 11) (qX 1 0))*(aJ.pc (S 13) (au qj (val 13) (qX 1 0)) *
      (aJ.pc (S 15) (au qj (val 15) (qX 1 0))*(aJ.pc (S 18) (au qj (val 18) (qX nt 0))*B)))))),?_,λv=>?_⟩
     simp only [aJ.G,aJ.jU,BP,vm,xv,s0,hr,aJ.HY,if_true,Zg,if_false];have hf:aJ.fS (dg S 23) (cQ val 23 v) vh vn=oc (aJ.fS S val vh vn) 8 vn:=by
      funext key;simp only [aJ.fS,dg,cQ,oc,Zv,if_true,if_false];by_cases hkey:key=8;subst hkey;simp;simp [hkey]
     simp only [aJ.G,aJ.jU,aJ.gE,aJ.pc,hf];simp only [dg,cQ,BP,vm,xv,s0,hr,aJ.HY,Zv,if_true,if_false,Zg]
    rw [NZ] at hs;obtain⟨A4,e1,e2,_⟩:=il.xX (P:=qV) (t:=189) hs kaM kak 8 vn;simp [-gS,nc,v0,vx,e1];rw [NY];exact⟨trivial,e2⟩
   .
    have vm:=fj 25 24 Yc up;have BP:=fj 26 25 Yc vm;have s0:=kH 0 Yc;obtain⟨r,hr⟩:=dw.tN 0 s0;have v0:a 32=qS (qc r):=(by rw [dw.mP 0 32 Yc s0];exact hr);have hk:aJ.G dS nn no nt vh vn B (dg S 24) (cQ val 24 (qS (qc r)))=aJ.G dS nn no nt vh vn B S val:=by
     have hf:aJ.fS (dg S 24) (cQ val 24 (qS (qc r))) vh vn=aJ.fS S val vh vn:=by funext key;simp [aJ.fS,dg,cQ]
     simp only [aJ.G,aJ.jU,aJ.gE,aJ.pc,hf];simp only [dg,cQ,BP,vm,up,s0,hr,aJ.HY,Zv,if_true,if_false,Zg]
    simp [nc,v0,hk];exact⟨⟨r,by simp [cQ]⟩,hs⟩
   .
    have BP:=fj 26 25 Yc up;have xv:=kH 24 Yc;obtain⟨r,hr⟩:=dw.tN 24 xv;have v0:a 48=qS (qc r):=(by rw [dw.mP 24 48 Yc xv];exact hr);have hk:aJ.G dS nn no nt vh vn B (dg S 25) (cQ val 25 (.agg #[qS (qc r)]))=aJ.G dS nn no nt vh vn B S val:=by
     have hf:aJ.fS (dg S 25) (cQ val 25 (.agg #[qS (qc r)])) vh vn=aJ.fS S val vh vn:=by funext key;simp [aJ.fS,dg,cQ]
     simp only [aJ.G,aJ.jU,aJ.gE,aJ.pc,hf];simp only [dg,cQ,BP,up,xv,hr,aJ.HY,aJ.r25,Zv,if_true,if_false,Zg];rfl
    simp [nc,v0,hk];exact⟨⟨r,by simp [cQ]⟩,hs⟩
   .
    have vm:=kH 25 Yc;obtain⟨r,hr⟩:=dw.tN 25 vm;have v0:a 49=.agg #[qS (qc r)]:=(by rw [dw.mP 25 49 Yc vm];exact hr)
    obtain⟨X,NZ,NY⟩:∃X,aJ.G dS nn no nt vh vn B S val=il qa r (aJ.fS S val vh vn)*X/\aJ.G dS nn no nt vh vn B (dg S 26) (cQ val 26 (qm (qc ⟨A3.next,0,qh⟩))) =
     (td λr=>pt A3.next (qi [qS (qc r)] qg 1)*il qa r (aJ.fS S val vh vn))*X:=by
     refine⟨(aJ.gE S val dS nn*(aJ.pc (S 9) (au qj (val 9) (qX no 0))*(aJ.pc (S 11) (au qj (val 11) (qX 1 0))*(aJ.pc (S 13) (au qj (val 13) (qX 1 0)) *
      (aJ.pc (S 15) (au qj (val 15) (qX 1 0))*(aJ.pc (S 18) (au qj (val 18) (qX nt 0))*B)))))),?_,?_⟩
     simp only [aJ.G,aJ.jU,up,vm,hr,aJ.r25,if_true,Zg,if_false];rfl;have hf:aJ.fS (dg S 26) (cQ val 26 (qm (qc ⟨A3.next,0,qh⟩))) vh vn=aJ.fS S val vh vn:=by funext key;simp [aJ.fS,dg,cQ]
     simp only [aJ.G,aJ.jU,aJ.gE,aJ.pc,hf];simp only [dg,cQ,aJ.bOf,Zv,if_true,if_false]
    rw [NZ] at hs;simp [nc,v0];rw [NY];refine⟨⟨A3.next,by simp [cQ]⟩,?_⟩;rw [bB.ex];refine⟨r,?_⟩;rw [HP.de];exact hs.alloc wV _
   .
    have hk:∀v,aJ.G dS nn no nt vh vn B (dg S 27) (cQ val 27 v)=aJ.G dS nn no nt vh vn B S val:=λv=>by
     have hf:aJ.fS (dg S 27) (cQ val 27 v) vh vn=aJ.fS S val vh vn:=by funext key;simp [aJ.fS,dg,cQ]
     simp [aJ.G,aJ.jU,aJ.gE,aJ.pc,hf];simp [dg,cQ]
    have v26:a 50=val 26:=dw.mP 26 50 Yc (kH 26 Yc);simp [nc,v26,hk]
    exact⟨by simp [aJ.IB,cQ],hs⟩
   .
    have hk:∀v,aJ.G dS nn no nt vh vn B (dg S 28) (cQ val 28 v)=aJ.G dS nn no nt vh vn B S val:=λv=>by
     have hf:aJ.fS (dg S 28) (cQ val 28 v) vh vn=aJ.fS S val vh vn:=by funext key;simp [aJ.fS,dg,cQ]
     simp [aJ.G,aJ.jU,aJ.gE,aJ.pc,hf];simp [dg,cQ]
    simp [nc,hk]
    exact⟨by simp [aJ.IB,cQ],hs⟩
 intro S val a A3 kU dw wV hs;have rk:∀k,k<29->S k=qg:=λk hk=>kU k hk;obtain⟨b,hb⟩:=dw.tN 26 (rk 26 Ya);have h27:=dw.tN 27 (rk 27 Ya);have a6:a 6=qm (qc ⟨b,0,qh⟩):=by rw [dw.mP 27 6 Yc (rk 27 Ya),h27,hb]
 have a7:a 7=qb qa 0:=by rw [dw.mP 28 7 Yc (rk 28 Ya)];exact dw.tN 28 (rk 28 Ya)
 simp only [Mj];refine R7 ?_;refine⟨_,by (simp [a6,a7];done),b,rfl,?_⟩;have hmap:aJ.fS S val vh vn=zO (λk=>if k=0 then val 5 else if k=1 then val 9 else if k=2 then val 11 else if k=3 then val 13 else if k=4 then val 15 else if k=5 then val 18 else if k=6 then vh else vn):=by
  funext key;simp only [aJ.fS,zO,rk 6 Ya,rk 5 Ya,rk 10 Ya,rk 9 Ya,rk 12 Ya,rk 11 Ya,rk 14 Ya,rk 13 Ya,rk 16 Ya,rk 15 Ya,rk 19 Ya,rk 18 Ya,rk 21 Ya,rk 23 Ya,and_self,if_true];by_cases hk:1<=key/\key<=8;have:key=1\/key=2\/key=3\/key=4\/key=5\/key=6\/key=7\/key=8:=Ya
  rcases this with rfl|rfl|rfl|rfl|rfl|rfl|rfl|rfl<;>rfl;rw [aw hk,aw Ya,aw Ya,aw Ya,aw Ya,aw Ya,aw Ya,aw Ya,aw Ya]
 have uI:bB A3 ((td λr=>pt b (qi [qS (qc r)] qg 1)*il qa r (aJ.fS S val vh vn))*(au qj (val 5) (dS++qX nn 0)*(au qj (val 9) (qX no 0)*(au qj (val 11) (qX 1 0) *
  (au qj (val 13) (qX 1 0)*(au qj (val 15) (qX 1 0)*(au qj (val 18) (qX nt 0)*B))))))):=by
  refine hs.dD ?_;simp only [aJ.G,aJ.jU,aJ.gE,aJ.pc,rk 26 Ya,rk 5 Ya,rk 9 Ya,rk 11 Ya,rk 13 Ya,rk 15 Ya,rk 18 Ya,if_true,hb,aJ.bOf]
 rw [bB.ex] at uI;obtain⟨r,hs3⟩:=uI;rw [hB,hmap] at hs3;refine fg.dJ (r:=r) (vs:=λk=>if k=0 then val 5 else if k=1 then val 9 else if k=2 then val 11 else if k=3 then val 13 else if k=4 then val 15 else if k=5 then val 18 else if k=6 then vh else vn) ?_;simp only [lZ,jf,Zv,if_true,if_false];have r1:qX 1 (0:Int)=[0]:=rfl;rw [r1] at hs3;exact bB.right (P:=pt A.next (qi CV qg 1)) (hs3.dD Yd)
end
end Go.Stx
