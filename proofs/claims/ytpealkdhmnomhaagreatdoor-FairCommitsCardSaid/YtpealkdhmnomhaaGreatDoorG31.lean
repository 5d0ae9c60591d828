/-
 The program's machine: made anew.
-/
import Derived.Test.YtpealkdhmnomhaaGreatDoorG30
import Derived.Test.YtpealkdhmnomhaaGreatDoorG29
set_option linter.unusedVariables false
set_option linter.unusedSimpArgs false
set_option linter.unusedSectionVars false
set_option maxRecDepth 20000
set_option maxHeartbeats 4000000
open Go.Proofs.Tryz renaming prog->qV
open Go.Stx.AW.le renaming alloc->qW
open List renaming getElem_mem->ZR,length_append->Zc,length_map->Zs,map_append->kat,replicate->qX,take_length->kad,take_succ_eq_append_getElem->kav
open Nat renaming le_refl->qZ,le_succ->Zo
open Prod renaming fst->Zq
open Bool renaming true->qg
open Go renaming Value->qd
open Go.IntKind renaming i64->qa,u64->qj
open Go.Stx.eh renaming cells->qi
open Go.Value renaming bool->qn,int->qb,pointer->qm,slice->qf,tuple->qA
open Option renaming none->qh,some->qc
namespace Go.Stx
open Go Go.Proofs
attribute [local irreducible] TW bI cM aV aB aL cU dh
section
open T2
variable [Gl]
theorem B7:∀{l:List (List bq)} {t:Nat},lV l t=qh->∀i (hi:i<l.length),(c8 l[i]).2=0
 | [],t,_,i,hi=>by simp at hi
 | p::l,t,h,i,hi=>by
   unfold lV at h;split at h
   . rename_i h0;cases i with
     | zero=>exact h0
     | succ i=>exact B7 h i YQ
   cases h
theorem B6:∀{l:List (List bq)} {t:Nat} {r:Nat×Nat×Int},lV l t=qc r->r.2.2≠0
 | [],t,r,h=>by cases h
 | p::l,t,r,h=>by
   unfold lV at h;split at h;exact B6 h;rename_i h0;injection h with h;subst h;exact h0
theorem vg {c:aY} {ni:Nat} {ps:List (List bq)} {pk:List Int} (h:(jM c ni ps pk).2.2=0) :
 jM c ni ps pk=(0,0,0)/\lw c=0/\1<=ps.length/\ps.length<=16/\(ni:Int)=c.bg/\∀i (hi:i<ps.length),(c8 ps[i]).2=0:=by
 unfold jM at h ⊢;by_cases h1:lw c≠0;rw [ay h1] at h;exact absurd h h1;rw [aw h1] at h ⊢;by_cases h2:ps.length<1\/16<ps.length;rw [ay h2] at h;cases h;rw [aw h2] at h ⊢;by_cases h3:¬(ni:Int)=c.bg;rw [ay h3] at h;cases h;rw [aw h3] at h ⊢;cases h4:lV ps 0 with
 | some r=>rw [h4] at h;exact absurd h (B6 h4)
 | none=>
   rw [h4] at h;simp only at h ⊢;by_cases h5:65536<pk.length;rw [ay h5] at h;cases h;rw [aw h5] at h ⊢;cases h6:uD ps.length pk 0 with
   | some k=>rw [h6] at h;cases h
   | none=>exact⟨rfl,by simpa using h1,by omega,by omega,by simpa using h3,B7 h4⟩
section
variable {S:AW->Prop} {K:Fr->AW->Prop} {fE:List BB} {a:Fr} {A:AW} {d:Option Tmp} {x y:Operand} {n:Nat} {v:qd} {L K':List It}
theorem lwThr {l:List Nat} {q:Nat} (e1:jt a x=v) (e2:jt a y=qf (qc ⟨n,0,qh⟩) 1 1) (hw:A.Wf) (hS:aj A L) (hp:aE L (.h (lJ v l)) K') (hn:A.bk n=qc (qi [pv q] qg 1)) (bW:l.length<2 ^ 30)
 (hs:∀A',aj A' K'->S A')
 (hk:∀o c A',aj A' (.h (lJ (qf o (l.length+1) c) (l++[q]))::K')->A'.Wf->A.next<=A'.next->aV qV S K fE (fk a d (qf o (l.length+1) c)) A') :
 aV qV S K (⟨d,.call ⟨.builtin .append,#[x,y],#[122,122]⟩,qh,3⟩::fE) a A:=by
 refine Co (P:=qV) (size:=1) (m:=l.length) (cs:=l.map pv) Tryz.underlying122 Tryz.info127 Tryz.zero127 rfl rfl Ya Yf e1 e2 hw hS hp hn rfl rfl bW hs λo c A' h1 h2 h3=>hk o c A' ?_ h2 h3;have e:lJ (qf o (l.length+1) c) (l++[q])=dK 1 (qf o (l.length+1) c) (l.length+1) (l.map pv++[pv q]):=by
  unfold lJ;rw [Zc,kat];rfl
 rw [e];exact h1
end
theorem newT_u (hF:FOK) {c:aY} (hc:da c) (id n:Int) (Mt:0<=id/\id<n/\n<=16) (v:qd) (p:List bq) (hp:(c8 p).2=0) {A:AW} (h:li A v p) {L:List It} {k:qd->AW->Prop} (hw:A.Wf) (hS:aj A L)
 (hk:∀b A',aj A' (.h (u3 b (pD c id n p))::L)->A'.Wf->A.le A'->k (qA #[pv b,qb qa 0]) A'):aB qV 54 [c.v,qb qa id,qb qa n,v] A k:=Nk hF hc id n Mt v p hp hw hS h hk
theorem aj.nilStp {A:AW} {L:List It} (h:aj A L):aj A (.h (nW (qf qh 0 0) [])::L):=dK.nil h
theorem aj.nilEvt {A:AW} {L:List It} (h:aj A L):aj A (.h (gA (qf qh 0 0) [])::L):=gA.nil h
def ng (c:aY) (zs:List Int) (ps:List (List bq)):rW:=⟨ps.mapIdx λi p=>pD c i ps.length p,mO c ps.length zs,[],[]⟩
theorem SY (hF:FOK) {c:aY} (tL:nT c) (vi vp vk:qd) (zs:List Int) (ps:List (List bq)) (pk:List Int) (A:AW) (hvi:bK A qj vi zs) (hp:jb A vp ps) (hk:bK A qa vk pk) (he:(jM c zs.length ps pk).2.2=0) :
 aB qV 29 [FX c vi vp vk] A (λu A'=>∃b,u=qA #[pv b,qb qa 0,qb qa 0,qb qa 0]/\aj A' [.h (H6 b (ng c zs ps)),.h (lT A.bk)]):=by
 refine aK Tryz.func29 λhw=>?_;obtain⟨hr,hce,C7,yt,Lq,lp⟩:=vg he;obtain⟨oi,ci,rfl,_⟩:=hvi.bR;have cS:=λO=>MT hF c (qf oi zs.length ci) vp vk zs.length ci oi ps pk (A.alloc O) rfl (hp.le (qW A O) hw) (hk.le (qW A O) hw);rw [hr] at cS;obtain⟨op,cp,rfl,_⟩:=hp.bR;obtain⟨ok,ck,rfl,_⟩:=hk.bR;have hcC:=tL.ok;have hS:aj A [.h (lT A.bk)]:=by
  show bB A (lT A.bk*fl);rw [dH];exact⟨A.bk,rfl,λi o h=>h⟩
 have zW:c.av=((c.av.toNat:Nat):Int):=by have:=hcC.av;omega
 have Dy:=zD tL;have eM:(λk=>if k=0 then zs++qX (j8 c.c0 c.c1).length 0 else if k=1 then qX c.av.toNat 0 else if k=5 then qX ps.length 0 else if k=6 then lq c.c0 c.c1 else if k=7 then j8 c.c0 c.c1 else [0])=mO c ps.length zs:=by
  unfold mO;rw [<-Dy,Int.toNat_natCast]
 have hNT:=fun(i:Nat) (hi:i<ps.length)=>Nk hF hcC (i:Int) (ps.length:Int) Ya;obtain⟨jm,d9,i9,c0,c1,c2,c3,iJ,iW,ja,i8,gL,jr⟩:=c;have cN:=λB (F:HP) hw hS=>I1 ps.length (j8 c0 c1).length d9.toNat (qf oi zs.length ci) zs jm d9 i9 c0 c1 c2 c3 iJ iW ja i8 gL jr tL B F (lT A.bk) (λB F h=>fL.keeps (gW.Pr h) hvi) hw hS C7 yt Lq zW rfl;unfold FX gU aY.cells vP at cS;unfold FX gU aY.cells;dsimp only [aY.v,aY.cells] at cN hNT;simp only [aa,ah] at cS ⊢;revert hS hw;refine W (J1 @cS) (J1 bC) ?_<;>(unhygienic intros);refine bD (cN _ (aO [.at A.next (qi [qb qa jm,qb qa d9,qb qa i9,qb qa c0,qb qa c1,qb qa c2,qb qa c3,qb qa iJ,qb qa iW,qb qa ja,qb qa i8,qb qa gL,qn jr,qf oi zs.length ci,qf op ps.length cp,qf ok pk.length ck] qg 1),.at (A.next+1) (qi [qm qh,qf qh 0 0,qf qh 0 0,qf qh 0 0] qg 1)]) ?_ ?_) ?_
 exact wA;show aj _ [.h (lT A.bk),.at A.next (qi [qb qa jm,qb qa d9,qb qa i9,qb qa c0,qb qa c1,qb qa c2,qb qa c3,qb qa iJ,qb qa iW,qb qa ja,qb qa i8,qb qa gL,qn jr,qf oi zs.length ci,qf op ps.length cp,qf ok pk.length ck] qg 1),.at (A.next+1) (qi [qm qh,qf qh 0 0,qf qh 0 0,qf qh 0 0] qg 1)];apply aj.bX
 (·exact sA)
 (·exact pZ)
 rintro _ A2 ⟨pb,rfl,lO⟩ jE _;rw [eM] at lO;clear hS hw;have hS:aj A2 [ei pb (mO ⟨jm,d9,i9,c0,c1,c2,c3,iJ,iW,ja,i8,gL,jr⟩ ps.length zs),.h (lT A.bk),.at A.next (qi [qb qa jm,qb qa d9,qb qa i9,qb qa c0,qb qa c1,qb qa c2,qb qa c3,qb qa iJ,qb qa iW,qb qa ja,qb qa i8,qb qa gL,qn jr,qf oi zs.length ci,qf op ps.length cp,qf ok pk.length ck] qg 1),.at (A.next+1) (qi [qm qh,qf qh 0 0,qf qh 0 0,qf qh 0 0] qg 1)]:=lO;have hw:=jE;clear lO jE;have hq:=gI hS hw;revert hq hS hw;(repeat first|revert hc|revert R|revert K);refine W cx (J1 bC) ?_<;>(unhygienic intros);generalize hM0:mO ⟨jm,d9,i9,c0,c1,c2,c3,iJ,iW,ja,i8,gL,jr⟩ ps.length zs=M0 at hS
 refine df (λk fr A'=>A'.Wf/\∃(i:Nat) (vt:qd) (q:List (Nat×aU)),k=ps.length-i/\i<=ps.length/\q.map Prod.snd=(ps.take i).mapIdx (λj p=>pD ⟨jm,d9,i9,c0,c1,c2,c3,iJ,iW,ja,i8,gL,jr⟩ j ps.length p)/\fr 1=pv A.next/\fr 2=pv (A.next+1)/\fr 38=qf op ps.length cp/\fr 39=qb qa ps.length/\fr 40=qb qa i/\
  aj A' [ei pb M0,.h (lT A.bk),.at A.next (qi [qb qa jm,qb qa d9,qb qa i9,qb qa c0,qb qa c1,qb qa c2,qb qa c3,qb qa iJ,qb qa iW,qb qa ja,qb qa i8,qb qa gL,qn jr,qf oi zs.length ci,qf op ps.length cp,qf ok pk.length ck] qg 1),.at (A.next+1) (qi [pv pb,vt,qf qh 0 0,qf qh 0 0] qg 1),.h (lJ vt (q.map Zq)),.h (mv q)]) ps.length ?_ ?_
 refine⟨?_,0,qf qh 0 0,[],by omega,by omega,rfl,by simp,by simp,by simp,by simp,by simp,?_⟩;exact wA;have h1:∀B:AW,aj B [ei pb M0,.h (lT A.bk),.at A.next (qi [qb qa jm,qb qa d9,qb qa i9,qb qa c0,qb qa c1,qb qa c2,qb qa c3,qb qa iJ,qb qa iW,qb qa ja,qb qa i8,qb qa gL,qn jr,qf oi zs.length ci,qf op ps.length cp,qf ok pk.length ck] qg 1),.at (A.next+1) (qi [pv pb,qf qh 0 0,qf qh 0 0,qf qh 0 0] qg 1)]->aj B [ei pb M0,.h (lT A.bk),.at A.next (qi [qb qa jm,qb qa d9,qb qa i9,qb qa c0,qb qa c1,qb qa c2,qb qa c3,qb qa iJ,qb qa iW,qb qa ja,qb qa i8,qb qa gL,qn jr,qf oi zs.length ci,qf op ps.length cp,qf ok pk.length ck] qg 1),.at (A.next+1) (qi [pv pb,qf qh 0 0,qf qh 0 0,qf qh 0 0] qg 1),.h (lJ (qf qh 0 0) []),.h (mv [])]:=λB hB=>by
  have h2:aj B (.h (lJ (qf qh 0 0) [])::.h fl::[ei pb M0,.h (lT A.bk),.at A.next (qi [qb qa jm,qb qa d9,qb qa i9,qb qa c0,qb qa c1,qb qa c2,qb qa c3,qb qa iJ,qb qa iW,qb qa ja,qb qa i8,qb qa gL,qn jr,qf oi zs.length ci,qf op ps.length cp,qf ok pk.length ck] qg 1),.at (A.next+1) (qi [pv pb,qf qh 0 0,qf qh 0 0,qf qh 0 0] qg 1)]):=dK.nil (aj.emp0 hB);exact aj.bX h2 (.s (.s (.s .z)) (.s (.s (.s .z)) (.s (.s (.s .z)) (.s (.s (.s .z)) (.s .z (.s .z .z))))))
 refine h1 _ ?_;apply aj.bX
 (·exact sA)
 (·exact pZ)
 clear hS hw hq;rintro k fr A' ⟨hw,i,vt,q,rfl,hi,hqs,g1,g2,g38,g39,g40,hS⟩;have hkp:gW A A':=hS.keeps 1 rfl;obtain⟨ov,cv,rfl,_⟩:=fL.bR (aj.lX hS (.s (.s (.s (.s .z)))));rw [Zs] at hS;have hlq:q.length=i:=by
  have:=congrArg List.length hqs;simp at this;omega
 by_cases bY:i<ps.length
 . obtain⟨us,u1,u2⟩:=hp;obtain⟨q0,bS,u,wW,bO,hcell,hu⟩:=jb.at (⟨us,fL.keeps hkp u1,λi hi=>let ⟨u,h3,h4⟩:=u2 i hi;⟨u,h3,fL.keeps hkp h4⟩⟩:jb A' (qf op ps.length cp) ps) bY;subst wW;have fo:(i:Int)<ps.length:=Ya;have gC:=zd (i:=i);have Mt:0<=(i:Int)/\(i:Int)<ps.length/\(ps.length:Int)<=16:=Ya;have hq:=gI hS hw;refine aT ?_
   repeat' (first|(with_reducible apply lwThr;(·(simp;rfl));(·(simp;rfl));(·exact wA);(·exact sA);(·exact kA);(·exact AW.bN _ _);(·(simp;omega));(·intro _ _;trivial);rintro _ _ _ hS hw _;have hq:=gI hS hw)|(refine iT λR hR=>?_;simp [g1,g2,g38,g39,g40,hq,fo,gC,bO,hcell,AW.ab,aG];try simp (disch:=omega) only [ay,aw,af,an])|(refine hR _ _ ?_;clear hR R)|(refine hK _ _ ?_;clear hK K)|refine nx ?_|refine wn λK hK=>?_|simp only [wS]|(apply newT_u hF hcC i ps.length Mt u ps[i] (lp i bY) hu;(·exact wA);(·exact sA);((rintro _ _ hS hw fA);have hq:=gI hS hw))|(show cM _ _ _ _ _ _;refine nx ?_)|(refine wc rfl (λhc=>?_) (λhc=>?_)<;>(try simp at hc)))
   rename_i bt A5 w6 BF hq5 o5 c5 A6 le6;refine⟨ps.length-(i+1),by omega,?_,i+1,qf o5 (q.length+1) c5,q++[(bt,pD ⟨jm,d9,i9,c0,c1,c2,c3,iJ,iW,ja,i8,gL,jr⟩ i ps.length ps[i])],rfl,by omega,?_,by simp [g1],by simp [g2],by simp [g38],by simp [g39],by simp,?_⟩;exact wA;rw [kat,hqs,kav bY,List.mapIdx_append];simp [Nat.min_eq_left (Nat.le_of_lt bY)];have e:mv (q++[(bt,pD ⟨jm,d9,i9,c0,c1,c2,c3,iJ,iW,ja,i8,gL,jr⟩ i ps.length ps[i])])=u3 bt (pD ⟨jm,d9,i9,c0,c1,c2,c3,iJ,iW,ja,i8,gL,jr⟩ i ps.length ps[i])*mv q:=by
    rw [HS];show mv q*(u3 bt _*fl)=_;rw [dH]
    ac_rfl
   rw [Zs] at hS;rw [e,kat]
   have h1:∀(B:AW) (v:qd),aj B [ei pb M0,.h (lT A.bk),.at A.next (qi [qb qa jm,qb qa d9,qb qa i9,qb qa c0,qb qa c1,qb qa c2,qb qa c3,qb qa iJ,qb qa iW,qb qa ja,qb qa i8,qb qa gL,qn jr,qf oi zs.length ci,qf (qc q0) ps.length cp,qf ok pk.length ck] qg 1),.at (A.next+1) (qi [pv pb,v,qf qh 0 0,qf qh 0 0] qg 1),.h (lJ v (q.map Zq++[bt])),.h (u3 bt (pD ⟨jm,d9,i9,c0,c1,c2,c3,iJ,iW,ja,i8,gL,jr⟩ i ps.length ps[i])),.h (mv q)]->
    aj B [ei pb M0,.h (lT A.bk),.at A.next (qi [qb qa jm,qb qa d9,qb qa i9,qb qa c0,qb qa c1,qb qa c2,qb qa c3,qb qa iJ,qb qa iW,qb qa ja,qb qa i8,qb qa gL,qn jr,qf oi zs.length ci,qf (qc q0) ps.length cp,qf ok pk.length ck] qg 1),.at (A.next+1) (qi [pv pb,v,qf qh 0 0,qf qh 0 0] qg 1),.h (lJ v (q.map Zq++[bt])),.h (u3 bt (pD ⟨jm,d9,i9,c0,c1,c2,c3,iJ,iW,ja,i8,gL,jr⟩ i ps.length ps[i])*mv q)]:=λB v h=>by
    unfold aj at h ⊢;refine bB.dD h ?_;simp only [aO,It.hp,dH]
   refine h1 _ _ ?_;apply aj.bX
   (·exact sA)
   (·exact pZ)
 have tD:i=ps.length:=Ya
 subst tD;have fo:¬((ps.length:Int)<ps.length):=Ya
 have hq:=gI hS hw;refine aT ?_;revert hq hS hw;(repeat revert hc);refine W cx (J7 g1 g2 g38 g39 g40 fo bC) ?_<;>(unhygienic intros);rw [kad] at hqs;have h1:=aj.nilStp (aj.nilEvt hS);refine⟨qA #[pv (A.next+1),qb qa 0,qb qa 0,qb qa 0],by simp [bA,aQ,aR],A.next+1,rfl,?_⟩;subst hM0;refine aj.bX (H6.dJ (b:=A.next+1) (m:=ng ⟨jm,d9,i9,c0,c1,c2,c3,iJ,iW,ja,i8,gL,jr⟩ zs ps) (f:=⟨pb,qf ov q.length cv,qf qh 0 0,qf qh 0 0⟩) (q:=q) (K:=[.h (lT A.bk),.at A.next (qi [qb qa jm,qb qa d9,qb qa i9,qb qa c0,qb qa c1,qb qa c2,qb qa c3,qb qa iJ,qb qa iW,qb qa ja,qb qa i8,qb qa gL,qn jr,qf oi zs.length ci,qf op ps.length cp,qf ok pk.length ck] qg 1)]) hqs h1 ?_) (.s .z (.s .z .z));unfold VG ng;dsimp only
 (·exact pZ)
end
section
open T2
variable [Gl]
variable [AF]
def Mh (l:List HU):Prop:=∀e∈l,e.reads.length<2^38/\e.bU.length<2^38
theorem Mh.nil:Mh []:=λe he=>by cases he
theorem Mh.aM {e:HU} (h1:e.reads.length<2^38) (h2:e.bU.length<2^38):Mh [e]:=λe' he=>by
 rw [List.mem_singleton] at he;subst he;exact⟨h1,h2⟩
theorem CY {t:aU} {s:aI} {M:Mm} (h:HV t s M):Mh (t.xJ M s).2.1:=by
 have h1:=h.hC.iJ;have h2:=h.hC.len;unfold aU.xJ;dsimp only;split;exact Mh.aM Yb Yb;split;refine Mh.aM Yz ?_;dsimp only;split;have:=List.length_filter_le (λa=>decide (a<(ba s M).2.2.1.cf.bg)) (ba s M).2.2.1.bG.bZ;omega;decide;exact Mh.nil
theorem SR {t:aU} {M:Mm} {i:bq} (h:t.cf.bd=qg->HV ({ t with bd:=qg,gf:=0 }:aU).tS (gv (fh t.cf t.id)).2 M):Mh (t.plain M i).2.1:=by
 unfold aU.plain;dsimp only;split;exact Mh.nil;split;rename_i h1;exact CY (h h1);split<;>exact Mh.aM Yb Yb
theorem UX {ez:Int->Int->Int->Int} (hA:xN ez) {c:aY} {nt k:Nat} (hc:da c) (hk:k+1<2^24) {t:aU} {M:Mm} (hM:lK c nt k M) (h:mw c nt k t) (rj:DY t.aD):Mh (t.step ez M).2.2.1:=by
 unfold aU.step;split;exact Mh.nil;rename_i hd;have hd:t.done=false:=by simpa using hd
 show Mh (t.m8 ez M).2.1;unfold aU.m8;split;exact Mh.nil;rename_i ef;split;rename_i s dO;split;rename_i hb;exact CY (W7 hc hk hM h hd dO hb);rename_i hb;have hb:s.kJ=false:=by simpa using hb
 split;rename_i hs;exact CY (ask_H hc hk hM h hd dO hs);rename_i hs;have hx:=WP hA hc hk hM h hd dO hb (by simpa using hs) rj;unfold aU.me;rw [aw hx.wZ.1,dO];dsimp only;split;rename_i hr;exact CY (hx.hr hr);exact Mh.nil;rename_i dO;have hx:=WR hA hc hk hM h hd dO ef rj;unfold aU.me;split;rename_i h7;exact CY (hx.hb h7);rw [dO];dsimp only;split;rename_i hp;exact SR λhs=>hx.hp hs hp;split<;>exact Mh.nil
structure xn (c:aY) (nt k:Nat) (m:rW):Prop where
 M:lK c nt k m.M
 T:∀t∈m.fN,mw c nt k t/\DY t.aD
 n:m.fN.length=nt
 s:m.bu.length<=k
 e:m.tO.length<=k
 b:Mh m.tO
theorem xn.mono {c:aY} {nt k k':Nat} {m:rW} (h:xn c nt k m) (hk:k<=k'):xn c nt k' m:=
 ⟨h.M.mono hk,λt ht=>⟨(h.T t ht).1.mono hk,(h.T t ht).2⟩,h.n,Nat.le_trans h.s hk,Nat.le_trans h.e hk,h.b⟩
theorem xn.pick {ez:Int->Int->Int->Int} (hA:xN ez) {c:aY} {nt k:Nat} (hc:da c) (hk:k+1<2^24) {m:rW} (h:xn c nt k m) (id:Int):xn c nt (k+1) (m.pick ez id):=by
 unfold rW.pick;split;split;exact h.mono (Zo k);rename_i t ht;obtain⟨mF,rj⟩:=h.T t (List.mem_of_getElem? ht);dsimp only;split;obtain⟨g1,g2⟩:=step_ok (ez:=ez) hc Ya h.M mF;have g3:=UX hA hc hk h.M mF rj;have g4:=MO (ez:=ez) (t:=t) (M:=m.M);refine⟨g2,λt' ht'=>?_,by rw [List.length_set];exact h.n,by rw [Zc];have:=h.s;simp only [List.length_singleton];omega,?_,?_⟩;rcases List.mem_or_eq_of_mem_set ht' with h1|h1;exact⟨(h.T t' h1).1.mono (Zo k),(h.T t' h1).2⟩;subst h1;exact⟨g1,by rw [Jo];exact rj⟩;have:=h.e;rw [Zc,Zs];rcases g4 with g4|⟨e,g4⟩<;>rw [g4]<;>simp<;>omega;intro e he;rcases List.mem_append.1 he with h1|h1;exact h.b e h1;obtain⟨e',h2,rfl⟩:=List.mem_map.1 h1;exact g3 e' h2;exact h.mono (Zo k);exact h.mono (Zo k)
def om (ez:Int->Int->Int->Int) (m:rW) (pk:List Int):rW:=pk.foldl (rW.pick ez) m
theorem F0 (ez:Int->Int->Int->Int) (m:rW) (pk:List Int) (x:Int):om ez m (pk++[x])=(om ez m pk).pick ez x:=by
 unfold om;rw [List.foldl_append];rfl
theorem xn.run {ez:Int->Int->Int->Int} (hA:xN ez) {c:aY} {nt:Nat} (hc:da c):∀(pk:List Int) {k:Nat} {m:rW},xn c nt k m->k+pk.length<2^24->xn c nt (k+pk.length) (om ez m pk)
 | [],k,m,h,_=>h
 | x::pk,k,m,h,hk=>by
   rw [List.length_cons] at hk ⊢;have:=xn.run hA hc pk (h.pick hA hc Ya x) Ya;rw [show k+(pk.length+1)=k+1+pk.length by omega];exact this
theorem Gv {c:aY} (tL:nT c) {zs:List Int} {ps:List (List bq)} (hz:(zs.length:Int)=c.bg) (hn:ps.length<=16) (lp:∀i (hi:i<ps.length),(c8 ps[i]).2=0) (rj:∀p∈ps,DY p):xn c ps.length 0 (ng c zs ps):=by
 refine⟨SE tL ps.length hz,λt ht=>?_,?_,qZ _,qZ _,Mh.nil⟩;obtain⟨i,hi,rfl⟩:=List.mem_mapIdx.1 ht;exact⟨SV ⟨by omega,by omega,hn⟩ (lp i hi),rj _ (ZR hi)⟩;show (ps.mapIdx _).length=_;rw [List.length_mapIdx]
theorem GZ {A:AW} (hw:A.Wf) (o:eh):lT (A.alloc o).bk=pt A.next o*lT A.bk:=by
 have hn:A.bk A.next=qh:=by
  cases h:A.bk A.next with
  | none=>rfl
  | some x=>exact absurd (hw.lt h) (Nat.lt_irrefl _)
 have e:(A.alloc o).bk=Hp.un (λj=>if j=A.next then qc o else qh) A.bk:=by
  funext i;rw [AW.dx];unfold Hp.un;by_cases h:i=A.next<;>simp [h]
 have d:Hp.dj (λj=>if j=A.next then qc o else qh) A.bk:=by
  intro i;by_cases h:i=A.next;subst h;exact .inr hn;exact .inl (aw h)
 ext h;constructor;intro h1;exact⟨_,_,d,(show h=_ from h1).trans e,rfl,rfl⟩;rintro ⟨h1,h2,g1,g2,g3,g4⟩;show h=_;have g3':h1=_:=g3;have g4':h2=_:=g4;rw [g2,g3',g4',e]
theorem xn.len {c:aY} {nt k:Nat} {m:rW} (hc:da c) (hn:nt<=16) (h:xn c nt k m):∀k,k<8->(m.M k).length<2^39:=by
 have h0:=h.M.l0;have h1:=h.M.l1;have h2:=h.M.l2;have h3:=h.M.l3;have h4:=h.M.l4;have h5:=h.M.l5;have h6:=h.M.l6;have h7:=h.M.l7;have hb:=hc.nb;have hw:=hc.bg;have ho:=hc.av;intro k hk;have:k=0\/k=1\/k=2\/k=3\/k=4\/k=5\/k=6\/k=7:=Ya
 rcases this with rfl|rfl|rfl|rfl|rfl|rfl|rfl|rfl<;>omega
theorem MU {ez:Int->Int->Int->Int} (hA:xN ez) (hF:FOK) {c:aY} (tL:nT c) (vi vp vk:qd) (zs:List Int) (ps:List (List bq)) (pk:List Int) (A:AW) (hvi:bK A qj vi zs) (hp:jb A vp ps) (hk:bK A qa vk pk) (he:(jM c zs.length ps pk).2.2=0) (hpk:pk.length<2^20) (rj:∀p∈ps,DY p) :
 aB qV 10 [FX c vi vp vk] A (λu A'=>∃z,u=qA #[.agg (F4 (om ez (ng c zs ps) pk) z).toArray,qb qa 0,qb qa 0,qb qa 0]/\aj A' (SK (om ez (ng c zs ps) pk) z++[.h (lT A.bk)])):=by
 refine aK Tryz.func10 λhw=>?_;obtain⟨hr,hce,C7,yt,Lq,lp⟩:=vg he;obtain⟨oi,ci,rfl,_⟩:=hvi.bR;obtain⟨op,cp,rfl,_⟩:=hp.bR;obtain⟨ok,ck,rfl,_⟩:=hk.bR;have hcC:=tL.ok;have hok0:=Gv tL Lq yt lp rj;have cN:=λB (fA:A.le B)=>SY hF tL (qf oi zs.length ci) (qf op ps.length cp) (qf ok pk.length ck) zs ps pk B (hvi.le fA hw) (hp.le fA hw) (hk.le fA hw) he;generalize hm0:ng c zs ps=m0 at *;obtain⟨jm,d9,i9,c0,c1,c2,c3,iJ,iW,ja,i8,gL,jr⟩:=c;unfold FX gU aY.cells at cN ⊢;simp only [aa,ah] at cN ⊢;revert hw;refine W cx (J1 bC) ?_<;>(unhygienic intros);refine bD (cN _ ((qW A _).trans (qW _ _))) ?_;rintro _ A2 ⟨b,rfl,dU⟩ jE _;rw [GZ (hw.alloc _),GZ hw] at dU;have hS:aj A2 [.h (H6 b m0),.at (A.next+1) (qi [qf qh 0 0,qf qh 0 0,qb qj 0,qb qj 0,qb qj 0,qf qh 0 0,qf qh 0 0,qf qh 0 0,qf qh 0 0,qf qh 0 0,qf qh 0 0,qf qh 0 0] qg 1),.at A.next (qi [qb qa jm,qb qa d9,qb qa i9,qb qa c0,qb qa c1,qb qa c2,qb qa c3,qb qa iJ,qb qa iW,qb qa ja,qb qa i8,qb qa gL,qn jr,qf oi zs.length ci,qf op ps.length cp,qf ok pk.length ck] qg 1),.h (lT A.bk)]:=by
  have e:∀P Q R H:HP,P*((Q*(R*H))*fl)=P*(Q*(R*(H*fl))):=λP Q R H=>by ac_rfl
  exact bB.dD dU (e _ _ _ _)
 clear dU;have Mo:=hw;replace hw:=jE;clear jE;have hq:=gI hS hw;revert hq hS hw;(repeat first|revert R|revert K);refine W cx (J1 bC) ?_<;>(unhygienic intros)
 refine df (λk fr A'=>A'.Wf/\∃(i:Nat),k=pk.length-i/\i<=pk.length/\fr 2=pv (A.next+1)/\fr 6=pv b/\fr 23=qf ok pk.length ck/\fr 24=qb qa pk.length/\fr 25=qb qa i/\
  aj A' [.h (H6 b (om ez m0 (pk.take i))),.at (A.next+1) (qi [qf qh 0 0,qf qh 0 0,qb qj 0,qb qj 0,qb qj 0,qf qh 0 0,qf qh 0 0,qf qh 0 0,qf qh 0 0,qf qh 0 0,qf qh 0 0,qf qh 0 0] qg 1),.at A.next (qi [qb qa jm,qb qa d9,qb qa i9,qb qa c0,qb qa c1,qb qa c2,qb qa c3,qb qa iJ,qb qa iW,qb qa ja,qb qa i8,qb qa gL,qn jr,qf oi zs.length ci,qf op ps.length cp,qf ok pk.length ck] qg 1),.h (lT A.bk)]) pk.length ?_ ?_
 exact⟨hw,0,by omega,by omega,by simp,by simp,by simp,by simp,by simp,hS⟩;clear hS hw hq;rintro k fr A3 ⟨hw,i,rfl,hi,h2,h6,h23,h24,h25,hS⟩;have hkp:gW A A3:=hS.keeps 3 rfl;have ON:(pk.take i).length=i:=by rw [List.length_take];omega
 have Dz:=xn.run hA hcC (pk.take i) hok0 Ya;rw [ON,Nat.zero_add] at Dz;by_cases bY:i<pk.length
 . have fo:(i:Int)<pk.length:=Ya;have gC:=zd (i:=i);obtain⟨pp,bS,rfl,bO,hcell⟩:=bK.at (fL.keeps hkp hk) bY;have e1:pk.take (i+1)=pk.take i++[pk[i]]:=kav bY;have V8:=ST hA hF hcC (k:=i) Ya b (om ez m0 (pk.take i)) Dz.M Dz.T (by rw [Dz.n];exact yt) (by have:=Dz.s;omega) (by have:=Dz.e;omega) pk[i];rw [<-F0,<-e1] at V8;clear e1;generalize pk[i]=id at *;generalize (om ez m0 (pk.take i)).did ez id=dd at V8;have hq:=gI hS hw;refine aT ?_;revert hq hS hw;(repeat revert hc);refine W (J1 @V8) (E5 h2 h6 h23 h24 h25 fo gC bO hcell bC) ?_<;>(unhygienic intros);refine⟨pk.length-(i+1),by omega,?_,i+1,rfl,by omega,by simp [h2],by simp [h6],by simp [h23],by simp [h24],by simp,?_⟩;exact wA;apply aj.bX
   (·exact sA)
   (·exact pZ)
 have tD:i=pk.length:=Ya
 subst tD;have fo:¬((pk.length:Int)<pk.length):=Ya
 rw [kad] at hS Dz;generalize om ez m0 pk=m at *;have hres:=MV b m (Dz.len hcC yt) (by rw [Dz.M.l2];decide) (by rw [Dz.M.l3];decide) (by rw [Dz.M.l4];decide) (by rw [Dz.n];exact yt) (by have:=Dz.s;omega) (by have:=Dz.e;omega) (λt ht=>by have:=(Dz.T t ht).1.co.io;omega) Dz.b;dsimp only [SK] at hres;have hq:=gI hS hw;refine aT ?_;revert hq hS hw;(repeat revert hc);refine W (J1 (Tg.mk (n:=32) @hres)) (J9 h2 h6 h23 h24 h25 fo @F4.eq_1 @jC.eq_1 bC) ?_<;>(unhygienic intros);refine⟨qA #[.agg (F4 m xw).toArray,qb qa 0,qb qa 0,qb qa 0],?_,xw,rfl,?_⟩;simp [h2,F4,jC,AW.ab,bA,aQ,aR];show aj _ [.h (xr m.M xw.f),.h (Ad (qf xw.t.1 m.fN.length xw.t.2) (m.fN.map aU.d)),.h (nW (qf xw.s.1 m.bu.length xw.s.2) m.bu),.h (gA (qf xw.e.1 m.tO.length xw.e.2) m.tO),.h (nX (qf xw.o.1 m.fN.length xw.o.2) (m.fN.map aU.io)),.h (lT A.bk)]
 apply aj.bX
 (·exact sA)
 (·exact pZ)
end
section
open T7
variable [Gl]
variable [AF]
theorem F8 {A:AW} {v:qd} {α:Type} {f:α->List qd} {k:Nat} {l:List α} (hf:∀x,(f x).length=k) (h:fL A k v l.length (l.flatMap f)) {i:Nat} (hi:i<l.length) :
 ∃p c bS own,v=qf (qc p) l.length c/\A.bk p.block=qc (qi bS own k)/\p.off+i*k+k<=bS.length/\(bS.drop (p.off+i*k)).take k=f l[i]:=by
 rcases h with ⟨_,h0,_⟩|⟨p,c,bS,own,u,e1,e2,e3,e4,e5,e6⟩;omega;have e3':A.bk p.block=qc (qi bS own k):=e4▸e3;have h7:i*k+k<=l.length*k:=by
  have:=Nat.mul_le_mul_right k (show i+1<=l.length by omega);rwa [Nat.add_mul,Nat.one_mul] at this
 refine⟨p,c,bS,own,e1,e3',by omega,?_⟩;have:=wC f k hf l i hi;rw [e6,List.drop_take,List.drop_drop,List.take_take,Nat.min_eq_left Ya] at this;exact this
def IsEvts (A:AW) (v:qd) (l:List HU):Prop:=∃q:List C4,q.map Zq=l/\fL A 6 v q.length (hY q)/\∀i (hi:i<q.length),bK A qa q[i].2.1 q[i].1.reads/\bK A qa q[i].2.2 q[i].1.bU
def IsObl (A:AW) (v:qd) (l:List (List k9)):Prop:=∃q:List (qd×List k9),q.map Prod.snd=l/\fL A 1 v q.length (q.map Zq)/\∀i (hi:i<q.length),fL A 3 q[i].1 q[i].2.length (wK q[i].2)
structure IsRes (A:AW) (m:rW) (z:ResF):Prop where
 im:oU A (.agg #[jC z.f.v0 (m.M 0),jC z.f.v1 (m.M 1),.int .u64 ((m.M 2).getD 0 0),.int .u64 ((m.M 3).getD 0 0),.int .u64 ((m.M 4).getD 0 0),jC z.f.v5 (m.M 5),jC z.f.v6 (m.M 6),jC z.f.v7 (m.M 7)]) m.M
 th:fL A 11 (.slice z.t.1 m.fN.length z.t.2) (m.fN.map aU.d).length (OY (m.fN.map aU.d))
 st:fL A 9 (.slice z.s.1 m.bu.length z.s.2) m.bu.length (Kr m.bu)
 ev:IsEvts A (.slice z.e.1 m.tO.length z.e.2) m.tO
 ob:IsObl A (.slice z.o.1 m.fN.length z.o.2) (m.fN.map aU.io)
theorem aj.isEvt {A:AW} {L K:List It} {v:qd} {l:List HU} (h:aj A L) (hp:aE L (.h (gA v l)) K):IsEvts A v l:=by
 obtain⟨q,h1,h2⟩:=gA.open h hp;dsimp only [Hh,aa,ah] at h2;exact⟨q,h1,aj.lX h2 .z,λi hi=>LC hi h2 (.s .z)⟩
theorem Ps {A:AW} {L K:List It} {q:List (qd×List k9)} {i:Nat} (hi:i<q.length) (hS:aj A L) (hp:aE L (.h (ic q)) K):fL A 3 q[i].1 q[i].2.length (wK q[i].2):=by
 have e:q=q.take i++(q[i]::q.drop (i+1)):=by rw [<-List.drop_eq_getElem_cons hi,List.take_append_drop]
 have h:=congrArg ic e;rw [Ee] at h;unfold aj at hS;rw [hp.aO] at hS;have h2:bB A (ic q*aO K):=hS;rw [h] at h2;have h3:bB A (dK 3 q[i].1 q[i].2.length (wK q[i].2)*(ic (q.take i)*ic (q.drop (i+1))*aO K)):=by
  refine bB.dD h2 ?_;show ic (q.take i)*(jA q[i].1 q[i].2*ic (q.drop (i+1)))*aO K=jA q[i].1 q[i].2*(ic (q.take i)*ic (q.drop (i+1))*aO K)
  ac_rfl
 exact dK.is h3
theorem aj.isObl {A:AW} {L K:List It} {v:qd} {l:List (List k9)} (h:aj A L) (hp:aE L (.h (nX v l)) K):IsObl A v l:=by
 obtain⟨q,h1,h2⟩:=nX.open h hp;dsimp only [Pt,aa,ah] at h2;exact⟨q,h1,aj.lX h2 .z,λi hi=>Ps hi h2 (.s .z)⟩
theorem aj.isRes {A:AW} {L:List It} {m:rW} {z:ResF} (h:aj A (SK m z++L)):IsRes A m z:=by
 dsimp only [SK,aa,ah] at h;exact⟨xr.is h .z,aj.lX h (.s .z),aj.lX h (.s (.s .z)),aj.isEvt h (.s (.s (.s .z))),aj.isObl h (.s (.s (.s (.s .z))))⟩
end
section
open T2
variable [Gl]
variable [AF]
theorem aj.kp {A0 A:AW} {L K:List It} (hS:aj A L) (hp:aE L (.h (lT A0.bk)) K):gW A0 A:=by
 unfold aj at hS;rw [hp.aO] at hS;exact gW.Pr hS
end
end Go.Stx
