/-
 The script of the machine laws.
-/
import Derived.Test.YtpealkdhmnomhaaGreatDoorG31
set_option linter.unusedVariables false
set_option linter.unusedSimpArgs false
set_option linter.unusedSectionVars false
set_option maxRecDepth 20000
set_option maxHeartbeats 4000000
open Go.IntKind renaming i64->qY
open Go.Proofs.Tryz renaming prog->qV
open Go.Stx.AW renaming le->Zk
open Go.Stx.AW.le renaming alloc->qW
open Int renaming tmod_eq_emod_of_nonneg->ZI
open List renaming getElem?_eq_getElem->q9,length_map->Zs
open Nat renaming le_refl->qZ
open Bool renaming false->qk,true->qg
open Go renaming Value->qd
open Go.IntKind renaming i64->qa
open Go.Stx.eh renaming cells->qi
open Go.Value renaming bool->qn,int->qb,pointer->qm,slice->qf,tuple->qA
open Option renaming none->qh,some->qc
namespace Go.Stx
open Go Go.Proofs
attribute [local irreducible] TW bI cM aV aB aL cU dh
section
open T7
variable [Gl]
theorem TS {c:aY} (h:da c):lw c=0:=by
 have h1:=h.bg;have h2:=h.av;have h3:=h.k0;have h4:=h.k1;have h5:=h.k2;have h6:=h.k3;have h7:=h.nb;have h8:=h.base;have h9:=h.WK;have Qi:=h.reads;have H4:=h.bU;have JR:=h.ar;have N1:=h.aA;have h14:=h.aC;unfold lw;rw [aw Ya,aw (by unfold xF;omega),aw Ya,aw Ya]
theorem Gb:∀(l:List (List bq)) (t:Nat),(∀q∈l,(c8 q).2=0)->lV l t=qh
 | [],_,_=>rfl
 | p::l,t,h=>by
   unfold lV;rw [ay (h p Yb)];exact Gb l (t+1) λq hq=>h q (by simp [hq])
theorem JD (n:Nat):∀(l:List Int) (k:Nat),(∀x∈l,0<=x/\x<(n:Int))->uD n l k=qh
 | [],_,_=>rfl
 | x::l,k,h=>by
   unfold uD;have:=h x Yb;rw [aw Ya];exact JD n l (k+1) λy hy=>h y YP
theorem BO {c:aY} {ni:Nat} {ps:List (List bq)} {pk:List Int} (h0:da c) (h1:1<=ps.length) (h2:ps.length<=16) (h3:(ni:Int)=c.bg) (h4:∀q∈ps,(c8 q).2=0) (h5:pk.length<=65536) (h6:∀x∈pk,0<=x/\x<(ps.length:Int)):jM c ni ps pk=(0,0,0):=by
 unfold jM;rw [aw (by rw [TS h0];simp),aw Ya,aw (by simp [h3]),Gb ps 0 h4];simp only;rw [aw Ya,JD _ _ _ h6]
structure Ua (A:AW) (c:aY) (vi vp vk:Value) (zs:List Int) (ps:List (List bq)) (kl:List Int):Prop where
 WO:nT c
 i:bK A .u64 vi zs
 p:jb A vp ps
 k:bK A .i64 vk kl
 e:∀pk:List Int,(∀x∈pk,x∈kl)->pk.length<=kl.length->(jM c zs.length ps pk).2.2=0
 kl:kl.length<=300
 pl:∀p∈ps,p.length<=64
 n:ps.length<=16
 z:(zs.length:Int)=c.bg
 al:∀p∈ps,Jd p
end
section
open T7
variable [Gl]
theorem jb.kps {A B:AW} (hk:gW A B) {v:qd} {ps:List (List bq)} (h:jb A v ps):jb B v ps:=by
 obtain⟨us,h1,h2⟩:=h;exact⟨us,fL.keeps hk h1,λi hi=>let ⟨u,h3,h4⟩:=h2 i hi;⟨u,h3,fL.keeps hk h4⟩⟩
def scM (c:aY) (zs:List Int) (ps:List (List bq)) (pk:List Int):rW:=om OA (ng c zs ps) pk
theorem U6 {A:AW} {c:aY} {vi vp vk:qd} {zs:List Int} {ps:List (List bq)} {kl pk:List Int} (h:Ua A c vi vp vk zs ps kl) (hs:∀x∈pk,x∈kl) (hl:pk.length<=kl.length):xn c ps.length pk.length (scM c zs ps pk):=by
 obtain⟨_,_,_,yt,Lq,lp⟩:=vg (h.e pk hs hl);have:=xn.run vV h.WO.ok pk (Gv h.WO Lq yt lp h.al) (by have:=h.kl;omega);rw [Nat.zero_add] at this;exact this
theorem runG {A0:AW} {c:aY} {vi0 vp0 vk0:qd} {zs:List Int} {ps:List (List bq)} {kl pk:List Int} (hF:FOK) (h:Ua A0 c vi0 vp0 vk0 zs ps kl) (hs:∀x∈pk,x∈kl) (hl:pk.length<=kl.length) (vi vp vk:qd) (A:AW) (hi:bK A .u64 vi zs) (hp:jb A vp ps) (hk:bK A qa vk pk) :
 aB qV 10 [FX c vi vp vk] A (λu A'=>∃z,u=qA #[.agg (F4 (scM c zs ps pk) z).toArray,qb qa 0,qb qa 0,qb qa 0]/\gW A A'/\IsRes A' (scM c zs ps pk) z):=by
 refine(MU vV hF h.WO vi vp vk zs ps pk A hi hp hk (h.e pk hs hl) (by have:=h.kl;omega) h.al).mono ?_;rintro u A' ⟨z,rfl,hS⟩;have lO:aj A' [_,_,_,_,_,.h (lT A.bk)]:=hS;exact⟨z,rfl,lO.kp (.s (.s (.s (.s (.s .z))))),hS.isRes⟩
end
section
open T7
variable [Gl]
structure ScrF (N:Nat) (A:AW) (c:aY) (vi vp vk:Value) (zs:List Int) (ps:List (List bq)):Prop where
 WO:nT c
 b:∃(Z B:Nat) (us:List Value),N<=Z/\PS Z A vp us ps/\dV Z A 1 vk 0 []/\(∀j o,ep vk=some j->PS Z (A.set j o) vp us ps)/\dV B A 1 vi zs.length (zs.map (Value.int .u64))/\(∀j,ep vi=some j->j<Z)/\us.length=ps.length
 e:∀pk:List Int,pk.length<=65536->(∀x∈pk,0<=x/\x<(ps.length:Int))->(jM c zs.length ps pk).2.2=0
 pl:∀p∈ps,p.length<=64
 n:ps.length<=16
 n1:1<=ps.length
 z:(zs.length:Int)=c.bg
 al:∀p∈ps,Jd p
theorem Is (hn:Gl.N=4) (l0 l1 l2 l3 l4:Int) (vl:qd) (ls:List (List Int)) (A:AW) (hL:pH A vl ls) (Ly:ls.length<=maxLen) :
 aB qV 16 [.agg #[qb qa l0,qb qa l1,qb qa l2,qb qa l3,qb qa l4],vl,qb qa 9] A (λu A'=>∃(b:Bool) (c:aY) (vi vp vk:qd) (zs:List Int) (ps:List (List bq)),
  u=qA #[FX c vi vp vk,qn b]/\A.le A'/\A'.Wf/\(∃o n c,vi=qf o n c)/\(∃o n c,vp=qf o n c)/\(∃o n c,vk=qf o n c)/\(b=qg->ScrF A.next A' c vi vp vk zs ps)):=by
 have NR:maxLen=9223372036854775807:=rfl;rw [NR] at Ly;refine aK Tryz.func16 λhw=>?_;obtain⟨ol,cl,rfl,_⟩:=hL.bR;revert hw;refine W cx cx ?_<;>(unhygienic intros);refine Fu (λA1=>A.le A1/\A1.Wf/\A1.next=A.next+2/\A1.bk A.next=qc (qi [qb qa l0,qb qa l1,qb qa l2,qb qa l3,qb qa l4] qg 1)/\A1.bk (A.next+1)=qc (qi pz qg 1)) ?_ ?_;refine⟨(qW A _).trans (qW _ _),(hw.alloc _).alloc _,by simp,?_,?_⟩;simp [AW.dx];simp [AW.dx,pz];rintro A1 ⟨GV,iZ,C7,hbA,Wv⟩;have hL1:=hL.keeps (gW.nd GV hw);refine mH (λfr A'=>A1=A'/\∃s:Int,fr 1=qf ol ls.length cl/\fr 2=qb qa 9/\fr 3=qm (qc ⟨A.next,0,qh⟩)/\fr 6=qm (qc ⟨A.next+1,0,qh⟩)/\fr 8=qb qa s) ?_ ?_;refine df (λk fr A'=>A1=A'/\∃(i:Nat) (s:Int),k=ls.length-i/\i<=ls.length/\fr 1=qf ol ls.length cl/\fr 2=qb qa 9/\fr 3=qm (qc ⟨A.next,0,qh⟩)/\fr 6=qm (qc ⟨A.next+1,0,qh⟩)/\fr 8=qb qa s/\fr 9=qb qa i) ls.length ?_ ?_
 exact⟨rfl,0,0,rfl,Nat.zero_le _,rfl,rfl,rfl,rfl,rfl,rfl⟩;rintro k fr A' ⟨rfl,i,s,rfl,hi,g1,g2,g3,g6,g8,g9⟩;by_cases bY:i<ls.length;obtain⟨q,bS,own,u,wW,bO,hcell,hu⟩:=hL1.at bY;subst wW;obtain⟨ou,cu,hu',_⟩:=hu.bR;subst hu';have gC:=zd (i:=i);have dw:ls.length-i=(ls.length-(i+1))+1:=Ya
 obtain⟨s2,uI⟩:∃s2,qY.wrap (s+ls[i].length)=s2:=⟨_,rfl⟩;refine aT ?_;refine W cx (vZ g1 g2 g3 g6 g8 g9 bY gC bO hcell uI @AW.ab) ?_<;>intros;refine⟨ls.length-(i+1),by omega,rfl,i+1,s2,rfl,by omega,by simp [g1],by simp [g2],by simp [g3],by simp [g6],by simp,by simp⟩;have tD:i=ls.length:=Ya
 subst tD;refine aT ?_;refine W cx (J7 g1 g2 g3 g6 g8 g9 bY) ?_<;>intros;exact⟨rfl,s,by simp [g1],by simp [g2],by simp [g3],by simp [g6],by simp [g8]⟩;rintro fr A' ⟨rfl,s,g1,g2,g3,g6,g8⟩;have gZ:¬A.next=A.next+1:=Ya
 have hne2:¬A.next+1=A.next:=Ya
 have zero:A.le (A1.set (A.next+1) (qc (qi pz qg 1)))/\(A1.set (A.next+1) (qc (qi pz qg 1))).Wf:=⟨GV.set Ya _,iZ.set _ Ya⟩;unfold pz at Wv zero;by_cases h3:3<ls.length
 . refine W cx (J8 g1 g2 g3 g6 g8 h3 Wv bC) ?_<;>intros
   all_goals(
    refine⟨_,by (simp [bA,aQ,aR,g6,ir,AW.ab];rfl),qk,⟨0,0,0,0,0,0,0,0,0,0,0,0,qk⟩,qf qh 0 0,qf qh 0 0,qf qh 0 0,[],[],rfl,zero.1,zero.2,⟨_,_,_,rfl⟩,⟨_,_,_,rfl⟩,⟨_,_,_,rfl⟩,λe=>by cases e⟩)
 by_cases h60:60<s
 . refine W cx (J9 g1 g2 g3 g6 g8 h3 h60 Wv bC) ?_<;>intros
   all_goals(
    refine⟨_,by (simp [bA,aQ,aR,g6,ir,AW.ab];rfl),qk,⟨0,0,0,0,0,0,0,0,0,0,0,0,qk⟩,qf qh 0 0,qf qh 0 0,qf qh 0 0,[],[],rfl,zero.1,zero.2,⟨_,_,_,rfl⟩,⟨_,_,_,rfl⟩,⟨_,_,_,rfl⟩,λe=>by cases e⟩)
 obtain⟨c,hc,cC⟩:=Er l0 l1 l2 l3 l4;have hf:=hc.WO;have Wq:=hc.bg;have RN:(ls.length:Int).tmod 3=((ls.length % 3:Nat):Int):=by rw [ZI Ya];omega
 obtain⟨nn,hnn⟩:∃nn:Nat,1+ls.length % 3=nn:=⟨_,rfl⟩;have wV:qY.wrap (1+(ls.length:Int).tmod 3)=(nn:Int):=by rw [RN,af Ya Ya];omega
 obtain⟨jm,d9,i9,c0,c1,c2,c3,iJ,iW,ja,i8,gL,jr⟩:=c;dsimp only at Wq;have cS:=λO O'=>FV hn ⟨jm,d9,i9,c0,c1,c2,c3,iJ,iW,ja,i8,gL,jr⟩ ⟨by dsimp only;omega,by dsimp only;omega⟩ nn Ya (qf ol ls.length cl) (qf qh 0 0) ls [] 9 qg qg ((A1.alloc O).set A1.next O') (hL1.keeps (gW.nd (Zk.lQ A1 O O') iZ)) Ya (bK.nil _ _) Yf (.inl rfl);simp only [aY.v] at cC cS;revert hw;(repeat revert hc);refine W (J1 @cC) (H7 g1 g2 g3 g6 g8 h3 h60 Wv hbA wV bC) ?_<;>(unhygienic intros);refine(cS _ _).mono ?_;rintro u A3 ⟨oi,ni,ci,vp,ok,ck,us,ps,kl,zs,Z,hu,hZ,hP,EU,nz,hKo,hkl,hun,mV,tE,Lq,Um,hzl,WC,hIz⟩;subst hu;subst hzl;have hkl0:kl=[]:=List.eq_nil_of_length_eq_zero hkl;subst hkl0;obtain⟨op,cp,xy,_⟩:=hP.own.is.bR;subst xy;have GU:=(Zk.lQ A1 _ _).trans EU;have Wt:=GU.mS iZ Wv;have DA:=nz.lt Wt;have hn3:=GU.next;rw [C7] at hn3;have hZ:A.next+2<=Z:=by simp at hZ;omega
 have WC:=WC.zQ (C:=A.next+2) Yg;have hQ:=(hP.iM (A':=A3.set (A.next+1) (qc (qi (gU ⟨jm,d9,i9,c0,c1,c2,c3,iJ,iW,ja,i8,gL,jr⟩ (qf oi zs.length ci) (qf op us.length cp) (qf ok 0 ck)) qg 1))) (λj h1 _=>AW.aZ (show j≠A.next+1 by omega)) nz);have Us:=WC.iM (A':=A3.set (A.next+1) (qc (qi (gU ⟨jm,d9,i9,c0,c1,c2,c3,iJ,iW,ja,i8,gL,jr⟩ (qf oi zs.length ci) (qf op us.length cp) (qf ok 0 ck)) qg 1))) (λj hj=>AW.aZ (λe=>by have:=(WC.lt nz hj).1;omega));have Uq:=hKo.iM (A':=A3.set (A.next+1) (qc (qi (gU ⟨jm,d9,i9,c0,c1,c2,c3,iJ,iW,ja,i8,gL,jr⟩ (qf oi zs.length ci) (qf op us.length cp) (qf ok 0 ck)) qg 1))) (λj hj=>AW.aZ (λe=>by have:=(hKo.lt nz hj).1;omega))
 have Tq:∀j o,ep (qf ok 0 ck)=qc j->PS Z ((A3.set (A.next+1) (qc (qi (gU ⟨jm,d9,i9,c0,c1,c2,c3,iJ,iW,ja,i8,gL,jr⟩ (qf oi zs.length ci) (qf op us.length cp) (qf ok 0 ck)) qg 1))).set j o) (qf op us.length cp) us ps:=λj o hj=>
  (tE j o hj).iM (λi h1 h2=>by
   by_cases e:i=j;subst e;rw [AW.bV,AW.bV];rw [AW.aZ e,AW.aZ Ya,AW.aZ e]) (nz.set _ (hKo.lt nz hj).2)
 clear hP cS tE hKo WC;unfold FX gU aY.cells;unfold gU aY.cells at hQ Us Uq Tq;simp only [aa,ah] at hQ Us Uq Tq ⊢;revert hw;(repeat first|revert hc|revert R|revert K);refine W cx (J7 g1 g2 g3 g6 g8 Wt bC) ?_<;>(unhygienic intros)
 all_goals(
  refine⟨_,by (simp [bA,aQ,aR,g6,ir,AW.ab];rfl),qg,⟨jm,d9,i9,c0,c1,c2,c3,iJ,iW,ja,i8,gL,jr⟩,qf oi zs.length ci,qf op us.length cp,qf ok 0 ck,zs,ps,rfl,(GV.trans GU).set Ya _,nz.set _ DA,⟨_,_,_,rfl⟩,⟨_,_,_,rfl⟩,⟨_,_,_,rfl⟩,λ_=>?_⟩;have hpl2:us.length=ps.length:=hQ.len;refine⟨hf,⟨Z,_,us,by omega,hQ,Uq,Tq,Us,hIz,hpl2⟩,λpk' hl hs=>?_,λp hp=>(ia ((mV p hp).2.1 Ya)).1,by omega,by omega,Lq,λp hp=>(mV p hp).2.2⟩;rw [BO hf.ok Ya Ya (Lq) (λq hq=>(mV q hq).2.1 Ya) hl hs])
end
end Go.Stx
