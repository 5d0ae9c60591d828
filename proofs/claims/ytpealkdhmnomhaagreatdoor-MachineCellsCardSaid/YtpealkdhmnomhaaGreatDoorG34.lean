/-
 PrivateStores and MachineCells, without the program.
-/
import Derived.Test.YtpealkdhmnomhaaGreatDoorG33
import Derived.Test.YtpealkdhmnomhaaGreatDoorG32
import Derived.Test.YtpealkdhmnomhaaGreatDoorG07
set_option linter.unusedVariables false
set_option linter.unusedSimpArgs false
set_option linter.unusedSectionVars false
set_option maxRecDepth 20000
set_option maxHeartbeats 4000000
open Go.Proofs.Tryz renaming prog->qV
open Go.Stx.AW renaming le->Zk
open Nat renaming le_refl->qZ
open Option.some renaming inj->kau
open Bool renaming true->qg
open Go renaming Value->qd
open Go.IntKind renaming i64->qa,u64->qj
open Go.Stx.eh renaming cells->qi
open Go.Value renaming int->qb,slice->qf
open Option renaming some->qc
namespace Go.Stx
open Go Go.Proofs
attribute [local irreducible] cM aV aB aL cU dh TW bI
section
variable [Gl]
variable [AF]
structure PsS where
 MI:List Int
 ym:Int
structure PsRel (nt:Nat) (m:rW) (σ:PsS):Prop where
 tl:σ.MI.length=nt
 tk:∀(i:Nat) (t:aU) (s:aI) (n:Int),m.fN[i]? = some t->t.fR=some s->mN s=some n->σ.MI.getD i 0=n
 ym:σ.ym<=xO m.M
theorem Pz {c:aY} {zs:List Int} {ps:List (List bq)} {i:Nat} {t:aU} (h:(ng c zs ps).fN[i]? = qc t):t.fR=none:=by
 have h:(ps.mapIdx λi p=>pD c i ps.length p)[i]? = qc t:=h;rw [List.getElem?_mapIdx] at h;cases e:ps[i]? with
 | none=>rw [e] at h;cases h
 | some p=>rw [e] at h;have h:=kau h;rw [<-h];rfl
def xe (x:dm) (M:Mm):Option Mm:=
 if x.lU=bh.zero then qc M
 else if dl M x.lU.cell x.lU.cg=qg/\(eQ M x.lU.cell).getD x.lU.cg.toNat 0=x.lU.eY then qc (setRow M x.lU.cell x.lU.cg x.lU.put)
 else none
theorem ce_law {ez:Int->Int->Int->Int} (hA:xN ez) {c:aY} (tL:nT c) {zs:List Int} {ps:List (List bq)} (hz:(zs.length:Int)=c.bg) (hn:ps.length<=16) (lp:∀i (hi:i<ps.length),(c8 ps[i]).2=0) (rj:∀p∈ps,DY p) (pk:List Int) (hk:pk.length<2^24) :
 yb xe (ng c zs ps).M (om ez (ng c zs ps) pk).bu=qc (om ez (ng c zs ps) pk).M:=by
 have h0:=RC tL hz hn lp rj;have hs:∀(k:Nat) (m m':rW) (M:Mm) (i:Nat) (t:aU) (st:dm) (t':aU),k<2^24->EJ c ps.length k m->EJ c ps.length (k+1) m'->M=m.M->m.fN[i]? = qc t->m'.fN=m.fN.set i t'->m'.bu=m.bu++[st]->Me c k m i t st t' m'.M->∃s',xe st M=qc s'/\s'=m'.M:=by
  intro k m m' M i t st t' _ h h' hR hi Dx _ hS;subst hR;unfold xe;rcases hS.lU with ⟨e1,e2⟩|⟨e1,e2,e3⟩;rw [ay e1];exact⟨_,rfl,e2.symm⟩;rw [aw (λe=>by rw [e] at e1;exact absurd (nP e1).1.1 Yf),ay ⟨e1,e2.symm⟩];exact⟨_,rfl,e3.symm⟩
 obtain⟨_,s,h1,h2⟩:=Rd hA tL.ok (Rel:=λm M=>M=m.M) (f:=xe) (s0:=(ng c zs ps).M) h0 rfl rfl hs pk hk;rw [h1,h2]
end
section
variable [Gl]
theorem Jm {A:AW} {v:qd} {l:List dm} (h:fL A 9 v l.length (Kr l)):∃(o:Option Addr) (c:Nat) (p:Addr) (bS:List qd) (own:Bool),v=qf o l.length c/\(0<l.length->o=qc p/\A.bk p.block=qc (qi bS own 9))/\∀i (hi:i<l.length),p.off+i*9+9<=bS.length/\(bS.drop (p.off+i*9)).take 9=(l[i]).cells:=by
 cases l with
 | nil=>
   obtain⟨o,c,e,_⟩:=h.bR;exact⟨o,c,⟨0,0,none⟩,[],false,e,λh=>absurd h Yf,λi hi=>by cases hi⟩
 | cons x l=>
   obtain⟨p,c,bS,own,e1,e2,_,_⟩:=F8 (f:=dm.cells) (λ_=>rfl) h (i:=0) Yb;refine⟨qc p,c,p,bS,own,e1,λ_=>⟨rfl,e2⟩,λi hi=>?_⟩;obtain⟨p',c',U9,own',q1,q2,q3,q4⟩:=F8 (f:=dm.cells) (λ_=>rfl) h hi;rw [e1] at q1;injection q1 with q1 _ _;have q1:=kau q1;subst q1;rw [e2] at q2;have q2:=kau q2;injection q2 with q2 _ _;subst q2;exact⟨q3,q4⟩
end
section
abbrev uF:List (Nat×Nat):=[(0,0),(1,0),(2,0),(3,0),(4,0),(5,0),(6,0),(7,0),(8,0),(9,2),(10,0),(11,0),(12,0),(13,0),(14,0),(15,0),(16,0),(17,0),(19,0),(20,0),(18,2),(21,0),(22,0)]
abbrev uE:List (Nat×Nat):=[(0,0),(1,0),(2,0),(3,0),(4,0),(5,0),(6,2),(7,0),(8,3),(9,0),(10,0)]
open T7
variable [Gl]
theorem ce_made {A:AW} {c:aY} {vi vp vk:qd} {zs:List Int} {ps:List (List bq)} {kl:List Int} (h:Ua A c vi vp vk zs ps kl):yb xe (mO c ps.length zs) (scM c zs ps kl).bu=qc (scM c zs ps kl).M:=by
 obtain⟨_,_,_,yt,Lq,lp⟩:=vg (h.e kl (λ_ h=>h) (qZ _));exact ce_law vV h.WO Lq yt lp h.al kl (by have:=h.kl;omega)
theorem NC (va vb:qd) (M:Nat->List Int) (A:AW) (ha:oU A va M) (hb:oU A vb M) (bW:∀k,k<8->(M k).length<2^39) :
 aB qV 15 [va,vb] A (λv A'=>v=.bool qg/\A=A'):=
 aB.tF (dB.kS rfl) (λhw=>IM va vb M A ha hb bW) Ye
theorem rx.bS {M:Mm} (h:rx M) (cell cg v:Int):rx (setRow M cell cg v):=by
 obtain⟨h1,h2,h3⟩:=h;exact⟨by rw [wj];exact h1,by rw [wj];exact h2,by rw [wj];exact h3⟩
theorem MX (c:aY) (n:Nat) (zs:List Int):rx (mO c n zs):=⟨rfl,rfl,rfl⟩
theorem TT {x:dm} {M M':Mm} (h:xe x M=qc M') (hM:rx M):rx M':=by
 unfold xe at h;split at h;injection h with h;exact h▸hM;split at h;injection h with h;exact h▸hM.bS _ _ _;cases h
theorem stM_set {M:Mm} {cell cg v:Int} (h:dl M cell cg=qg):u7 M cell cg v=setRow M cell cg v:=by
 unfold u7 kL ej;rw [ay ⟨h,rfl⟩]
theorem aak {bS:List qd} {n:Nat} {a b c d e f g h i:qd} (q:(bS.drop n).take 9=[a,b,c,d,e,f,g,h,i]):(bS.drop (n+3)).take 6=[d,e,f,g,h,i]:=by
 have h9:=congrArg (List.drop 3) q;rw [List.drop_take,List.drop_drop] at h9;exact h9
section
attribute [-simp] pw
theorem Cn (hF:FOK) (hA:∀B,aB qV 9 [] B (λu A'=>u=.bool qg/\B=A')) (l0 l1 l2 l3 l4:Int) (vl vq:qd) (ls:List (List Int)) (nk:List Int) (bd:Bool) (A:AW)
 (hL:pH A vl ls) (hk:bK A qa vq nk) (Ly:ls.length<=maxLen) (H3:∀x∈ls,x.length<=17592186044415) (hpk:nk.length<=17592186044415) :
 aB qV 3 [.agg #[qb qa l0,qb qa l1,qb qa l2,qb qa l3,qb qa l4],vl,vq,.bool bd] A (λu A'=>u=.bool qg):=by
 refine aK Tryz.func3 λhw=>?_;have cA:=λB=>hA B;revert hw;refine W (J2 (od uF) (od uE)) (J1 bC) ?_<;>(unhygienic intros);refine bD (Iu hF.n l0 l1 l2 l3 l4 vl vq ls nk bd _ (hL.keeps (gW.nd (AW.le.alloc A _) hw)) (hk.le (AW.le.alloc A _) hw) Ly H3 hpk) ?_;rintro _ A3 ⟨b,c,vi,vp,vk,zs,ps,kl,rfl,EU,_,⟨oi,ni,ci,rfl⟩,⟨op,np,cp,rfl⟩,⟨ok,nkk,ck,rfl⟩,hG⟩ wV _;clear hL hk;cases b
 . clear hG;unfold FX gU aY.cells;obtain⟨jm,d9,i9,c0,c1,c2,c3,iJ,iW,ja,i8,gL,jr⟩:=c;simp only [aa,ah];refine W (J3 (od uF) (od uE) @cA) (J1 bC) ?_<;>intros
   all_goals simp [aS,aX,bA,aQ,aR]
 replace hG:=hG rfl;obtain⟨_,_,e1,_⟩:=hG.i.bR;obtain⟨_,_,e2,_⟩:=hG.p.bR;obtain⟨_,_,e3,_⟩:=hG.k.bR;injection e1 with _ e1 _;injection e2 with _ e2 _;injection e3 with _ e3 _;subst e1 e2 e3;have hpn:=hG.n;have cR:=λB (hK:gW A3 B)=>runG (pk:=kl) hF hG (λ_ h=>h) (qZ _) _ _ _ B (hG.i.keeps hK) (hG.p.kps hK) (hG.k.keeps hK);have cN:=λB (hK:gW A3 B)=>SW hG.WO (qf oi zs.length ci) (qf op ps.length cp) (qf ok kl.length ck) zs ps B (hG.i.keeps hK) (hG.p.kps hK) ⟨_,_,_,rfl⟩ hG.z hG.n hG.pl;have hmo:=U6 (pk:=kl) hG (λ_ h=>h) (qZ _);have bW:=hmo.len hG.WO.ok hpn;have P3:=ce_made hG;have hM0:=MX c ps.length zs;have hkl:=hG.kl;have dw:=hmo.s;clear hmo hG;generalize scM c zs ps kl=m at *;generalize hms:mO c ps.length zs=M0 at *;clear hms;obtain⟨jm,d9,i9,c0,c1,c2,c3,iJ,iW,ja,i8,gL,jr⟩:=c;unfold FX gU aY.cells at cR cN ⊢;simp only [aa,ah] at cR cN ⊢;unfold F4 jC at cR
 obtain⟨d2,H2⟩:∃d2,(m.M 2).getD 0 0=d2:=⟨_,rfl⟩;obtain⟨d3,Up⟩:∃d3,(m.M 3).getD 0 0=d3:=⟨_,rfl⟩;obtain⟨d4,hd4⟩:∃d4,(m.M 4).getD 0 0=d4:=⟨_,rfl⟩;rw [H2,Up,hd4] at cR;revert hw;(repeat first|revert R|revert K);refine W (J2 (od uF) (od uE)) (J1 bC) ?_<;>(unhygienic intros);refine bD (cR _ (gW.nd (Zk.lQ A3 _ _) wV)) ?_;rintro _ A4 ⟨z1,rfl,hk4,Ln⟩ nz _;have hs4:=hk4 _ _ AW.bV;have hK4:=(gW.nd (Zk.lQ A3 _ _) wV).trans hk4;have him:=Ln.im;rw [H2,Up,hd4] at him;obtain⟨so,sc,p,bS,own,V1,zV,bO⟩:=Jm Ln.st;injection V1 with NK _ uI;rw [NK,uI];clear hk4 Ln cR NK uI;generalize A3.next=sb at *;have n4:¬sb=A4.next:=by have:=nz.lt hs4;omega
 have n4':¬A4.next=sb:=Ya
 revert hw;(repeat first|revert hc|revert R|revert K);refine W (J2 (od uF) (od uE)) (J4 hs4 n4 n4' bC) ?_<;>(unhygienic intros);refine bD (cN _ (hK4.trans (gW.nd (Zk.lQ A4 _ _) nz))) ?_;rintro _ A5 ⟨b5,mb,x5,y5,z5,rfl,w6⟩ BF _;obtain⟨rb,GP⟩:∃rb,A4.next=rb:=⟨_,rfl⟩;obtain⟨B0,w6,zR0,zP0,him⟩:∃B0:AW,aj A5 [.at b5 (qi [pv mb,x5,y5,z5] qg 1),wB ⟨jm,d9,i9,c0,c1,c2,c3,iJ,iW,ja,i8,gL,jr⟩ mb M0,.h (lT B0.bk)]/\B0.bk rb=qc (qi [jC z1.f.v0 (m.M 0),jC z1.f.v1 (m.M 1),qb qj d2,qb qj d3,qb qj d4,jC z1.f.v5 (m.M 5),jC z1.f.v6 (m.M 6),jC z1.f.v7 (m.M 7),qf z1.t.1 m.fN.length z1.t.2,qf so m.bu.length sc,qf z1.e.1 m.tO.length z1.e.2,qf z1.o.1 m.fN.length z1.o.2] qg 1)/\(0<m.bu.length->B0.bk p.block=qc (qi bS own 9))/\oU B0 (.agg #[jC z1.f.v0 (m.M 0),jC z1.f.v1 (m.M 1),qb qj d2,qb qj d3,qb qj d4,jC z1.f.v5 (m.M 5),jC z1.f.v6 (m.M 6),jC z1.f.v7 (m.M 7)]) m.M:=by
  subst GP;exact⟨_,w6,AW.bV,λe=>by rw [AW.aZ (by have:=nz.lt (zV e).2;omega),AW.gl _ _ (by have:=nz.lt (zV e).2;omega)];exact(zV e).2,him.keeps (gW.nd (Zk.lQ A4 _ _) nz)⟩
 generalize jC z1.f.v0 (m.M 0)=a0 at *;generalize jC z1.f.v1 (m.M 1)=a1 at *;generalize jC z1.f.v5 (m.M 5)=a5 at *;generalize jC z1.f.v6 (m.M 6)=a6 at *;generalize jC z1.f.v7 (m.M 7)=a7 at *;have hg5:=w6.g 0 rfl;have nb5:∀i o,B0.bk i=qc o->A5.bk i=qc o:=λi o h=>w6.kp (.s (.s .z)) i o h;rw [GP];revert hw;(repeat first|revert hc|revert R|revert K);refine W (J2 (od uF) (od uE)) (J2 hg5 bC) ?_<;>(unhygienic intros);replace w6:aj A5 [wB ⟨jm,d9,i9,c0,c1,c2,c3,iJ,iW,ja,i8,gL,jr⟩ mb M0,.h (lT B0.bk)]:=aj.bX w6 (.s (.s .z) (.s (.s .z) .z));refine df (λk fr A'=>A'.Wf/\∃(i:Nat) (M:Mm),k=m.bu.length-i/\i<=m.bu.length/\yb xe M0 (m.bu.take i)=qc M/\rx M/\fr 11=pv rb/\fr 15=pv mb/\fr 16=qb qa i/\aj A' [wB ⟨jm,d9,i9,c0,c1,c2,c3,iJ,iW,ja,i8,gL,jr⟩ mb M,.h (lT B0.bk)]) m.bu.length ?_ ?_;exact⟨BF,0,M0,rfl,Nat.zero_le _,rfl,hM0,by simp,by simp,by simp,w6⟩;clear w6 hg5 nb5 BF hs4 n4 n4' hK4 GP
 rintro k fr A6 ⟨VY,i,M,rfl,hi,hrn,hM,kZ,tG,WG,hS⟩;have hkB:=hS.kp (.s .z);have zR:=hkB _ _ zR0;have x1:=VY.lt zR;have y1:¬rb=A6.next:=Ya
 by_cases bY:i<m.bu.length
 . obtain⟨M1,M2,r1,r2,r3⟩:=runO_at P3 bY;rw [hrn] at r1;injection r1 with r1;subst r1;obtain⟨q1,q2⟩:=bO i bY;have zP:=hkB _ _ (zP0 Ya);obtain⟨ER,_⟩:=zV Ya;subst ER;have gC:=zd (i:=i);have fo:(i:Int)<m.bu.length:=Ya;have x4:=VY.lt zP;have y4:¬p.block=A6.next:=Ya;have hM2:=TT r2 hM;have q3:p.off+i*9+3+6<=bS.length:=Ya;have q4:p.off+(i*9+3)+6<=bS.length:=Ya;generalize m.bu[i]=x at *;obtain⟨xt,xp,xa,⟨ak,ac,ai,ag,ap,ad⟩⟩:=x;dsimp only [dm.cells] at q2;have q6:=aak q2;have q7:=q6;rw [Nat.add_assoc] at q7;unfold xe at r2;dsimp only at r2;refine aT ?_;by_cases hz:bh.mk ak ac ai ag ap ad=bh.zero
   . rw [ay hz] at r2;injection r2 with r2;subst r2;injection hz with z1 z2 z3 z4 z5 z6;subst z1 z2 z3 z4 z5 z6;revert hS hw;(repeat revert hc);refine W (J2 (od uF) (od uE)) (Mg kZ tG WG zR zP q1 q2 q3 q4 q6 q7 fo gC y1 y4 bC) ?_<;>(unhygienic intros);refine⟨m.bu.length-(i+1),by omega,?_,i+1,_,rfl,by omega,r3,hM2,by simp [kZ],by simp [tG],by simp,?_⟩
     . repeat' (first|assumption|apply AW.Wf.alloc|apply AW.Wf.set|(simp only [AW.be];omega))
     exact hS.le VY (Zk.lQ A6 _ _)
   rw [aw hz] at r2;split at r2
   case isFalse=>cases r2
   rename_i hh;obtain⟨hh,EW⟩:=hh;injection r2 with r2;obtain⟨Au,H2⟩:0<=ai/\ai<(eQ M ac).length:=by simpa [dl] using hh
   have h5:¬ai<0:=Ya;have hac:¬ac=0:=by have:=(nP hh).1;omega
   have rk:∀O O',aj ((A6.alloc O).set A6.next O') [wB ⟨jm,d9,i9,c0,c1,c2,c3,iJ,iW,ja,i8,gL,jr⟩ mb M,.h (lT B0.bk)]:=λO O'=>hS.le VY (Zk.lQ A6 O O');have cSz:=λO O'=>wz ⟨jm,d9,i9,c0,c1,c2,c3,iJ,iW,ja,i8,gL,jr⟩ mb M ac _ _ (rk O O') hM;have cGt:=λO O'=>tW ⟨jm,d9,i9,c0,c1,c2,c3,iJ,iW,ja,i8,gL,jr⟩ mb M ac ai _ _ (rk O O') hM hh;rw [EW] at cGt;by_cases Ul:ap=ag
   . subst Ul;rw [<-EW,xY hh] at r2;subst r2;revert hS hw;(repeat revert hc);refine W (J4 (od uF) (od uE) @cSz @cGt) (J19 kZ tG WG zR zP q1 q2 q3 q4 q6 q7 fo gC y1 y4 h5 H2 hac bC) ?_<;>(unhygienic intros);refine⟨m.bu.length-(i+1),by omega,?_,i+1,_,rfl,by omega,r3,hM2,by simp [kZ],by simp [tG],by simp,?_⟩
     . repeat' (assumption)
     exact hS.le VY (Zk.lQ A6 _ _)
   subst r2;revert hS hw;(repeat revert hc);refine W (J4 (od uF) (od uE) @cSz @cGt) (J20 kZ tG WG zR zP q1 q2 q3 q4 q6 q7 fo gC y1 y4 h5 H2 hac Ul (J1 bC)) ?_<;>(unhygienic intros);refine bx.fM (rstL ⟨jm,d9,i9,c0,c1,c2,c3,iJ,iW,ja,i8,gL,jr⟩ mb M hM ac ai ap) ((VY.alloc _).set _ Yb) (rk _ _) (by exact pA) ?_;rintro _ A7 rfl RT hw7 _;rw [stM_set hh] at RT;refine W (J2 (od uF) (od uE)) (J5 kZ tG WG gC bC) ?_<;>intros;refine⟨m.bu.length-(i+1),by omega,hw7,i+1,_,rfl,by omega,r3,hM2,by simp [kZ],by simp [tG],by simp,RT⟩
 have tD:i=m.bu.length:=Ya
 subst tD;have fo:¬((m.bu.length:Int)<m.bu.length):=Ya
 rw [List.take_length,P3] at hrn;injection hrn with hrn;subst hrn;refine aT ?_;obtain⟨v0,v1,v5,v6,v7,hgm,hi1⟩:=lI.image hS;have OQ:=him.keeps hkB;rw [H2,Up,hd4] at hgm hi1;simp only [aY.cells,aa,ah] at hgm;have cI:=NC _ _ m.M A6 hi1 OQ bW;refine W (J4 (od uF) (od uE) @cI @cA) (J7 kZ tG WG zR hgm fo bC) ?_<;>intros
 all_goals simp [aX,bA,aQ,aR]
end
end
section
open Go.RowKit
variable [Gl]
theorem ce_world (hF:FOK) (W:World) (EV:∀b x,Gl.B b=qc x->W.heap[b]? = qc x) (b0 b1 b2 b3 b4:Int) (a1:Option Addr) (len1 cap1:Nat) (w1:RowsZ W a1 len1 cap1) (a2:Option Addr) (len2 cap2:Nat) (z2:List Int) (w2:IntsIn qa W a2 len2 cap2 z2) (rA:len2<=17592186044415) (a3:Bool) :
 Calls qV 3 #[.agg #[qb qa b0,qb qa b1,qb qa b2,qb qa b3,qb qa b4],qf a1 len1 cap1,qf a2 len2 cap2,.bool a3] W λe w'=>e=.returned (.bool qg)/\Below W.heap.size W w':=by
 have s0:=k7.mr W EV;have n0:=AW.vY.mr;obtain⟨m1,A1,v1,ls,le1,g1,s1,n1,r1,h1,H3,lF⟩:=Ek s0 n0 w1;obtain⟨m2,A2,v2,le2,g2,s2,n2,r2,h2,_⟩:=Bi s1 n1 (k:=qa) w2;refine yS (Cn hF (LQ hF) b0 b1 b2 b3 b4 v1 v2 ls (z2.take len2) a3 A2 (h1.keeps (gW.nd g2 s1.zQ)) h2 H3 lF (by rw [List.length_take];omega)) (λv A' h=>h) s2 n2 ?_;exact .cons (GI _ _ _ _ _) (.cons (r1.mono le2) (.cons r2 (.cons (.bool _) .nil)))
end
end Go.Stx
