/-
 The program's machine: made anew.
-/
import Derived.Test.YtipomeafemoelaaGreatDoorG15
set_option linter.unusedVariables false
set_option linter.unusedSimpArgs false
set_option linter.unusedSectionVars false
set_option maxRecDepth 20000
set_option maxHeartbeats 4000000
open Go.Proofs.Tryz renaming mx->qj,prog->qa
open Go.Stx.AW.le renaming alloc->qb
open Go.Value renaming oneCell'->qL
open Int renaming toNat_natCast->Zp
open List renaming getD_cons_succ->ZE,getD_cons_zero->ZK,getElem?_cons_succ->ZC,getElem?_cons_zero->ZB,getElem?_eq_getElem->qk,getElem?_eq_some_iff->qK,getElem?_map->Zg,getElem?_toArray->Zn,length_append->qm,length_map->qD,map_append->Zr,replicate->qc,set_getElem_self->kao
open Nat renaming le_refl->qf,mul_one->qX
open Option renaming bind_some->Zq,map_none->ZQ,map_some->qR
open Prod renaming fst->qB,snd->Zm
namespace Go.Stx
open Go Go.Proofs
attribute [local irreducible] TW bG c8 aY aD aO cK da
section
open T2
variable [Gl]
theorem Aj:∀{l:List (List bm)} {t:Nat},kQ l t=none->∀i (hi:i<l.length),(cG l[i]).2=0
 | [],t,_,i,hi=>by simp at hi
 | p::l,t,h,i,hi=>by
   unfold kQ at h;split at h
   . rename_i h0;cases i with
     | zero=>exact h0
     | succ i=>exact Aj h i (by simpa using hi)
   cases h
theorem Ai:∀{l:List (List bm)} {t:Nat} {r:Nat×Nat×Int},kQ l t=some r->r.2.2≠0
 | [],t,r,h=>by cases h
 | p::l,t,r,h=>by
   unfold kQ at h;split at h;exact Ai h;rename_i h0;injection h with h;subst h;exact h0
theorem xk {c:br} {ni:Nat} {ps:List (List bm)} {pk:List Int} (h:(jt c ni ps pk).2.2=0) :
 jt c ni ps pk=(0,0,0)/\kz c=0/\1<=ps.length/\ps.length<=16/\(ni:Int)=c.be/\∀i (hi:i<ps.length),(cG ps[i]).2=0:=by
 unfold jt at h ⊢;by_cases h1:kz c≠0;rw [aA h1] at h;exact absurd h h1;rw [aw h1] at h ⊢;by_cases h2:ps.length<1\/16<ps.length;rw [aA h2] at h;cases h;rw [aw h2] at h ⊢;by_cases h3:¬(ni:Int)=c.be;rw [aA h3] at h;cases h;rw [aw h3] at h ⊢;cases h4:kQ ps 0 with
 | some r=>rw [h4] at h;exact absurd h (Ai h4)
 | none=>
   rw [h4] at h;simp only at h ⊢;by_cases h5:65536<pk.length;rw [aA h5] at h;cases h;rw [aw h5] at h ⊢;cases h6:tc ps.length pk 0 with
   | some k=>rw [h6] at h;cases h
   | none=>exact⟨rfl,by simpa using h1,by omega,by omega,by simpa using h3,Aj h4⟩
section
variable {S:AW->Prop} {K:Fr->AW->Prop} {fv:List zQ} {a:Fr} {A:AW} {d:Option Tmp} {x y:Operand} {n:Nat} {v:Value} {L K':List It}
theorem WY {l:List Nat} {q:Nat} (e1:iW a x=v) (e2:iW a y=.slice (some ⟨n,0,none⟩) 1 1) (hw:A.Wf) (hS:ah A L) (hp:aE L (.h (mA v l)) K') (hn:A.bp n=some (.cells [pv q] true 1)) (bX:l.length<2 ^ 30)
 (hs:∀A',ah A' K'->S A')
 (hk:∀o c A',ah A' (.h (mA (.slice o (l.length+1) c) (l++[q]))::K')->A'.Wf->A.next<=A'.next->aY qa S K fv (eK a d (.slice o (l.length+1) c)) A') :
 aY qa S K (⟨d,.call ⟨.builtin .append,#[x,y],#[104,104]⟩,none,3⟩::fv) a A:=by
 refine CC (P:=qa) (size:=1) (m:=l.length) (cs:=l.map pv) Tryz.underlying104 Tryz.info109 Tryz.zero109 rfl rfl (by omega) (by decide) e1 e2 hw hS hp hn rfl rfl bX hs λo c A' h1 h2 h3=>hk o c A' ?_ h2 h3;have e:mA (.slice o (l.length+1) c) (l++[q])=dv 1 (.slice o (l.length+1) c) (l.length+1) (l.map pv++[pv q]):=by
  unfold mA;rw [qm,Zr];rfl
 rw [e];exact h1
end
theorem Ym (hF:FOK) {c:br} (hc:cX c) (id n:Int) (JO:0<=id/\id<n/\n<=16) (v:Value) (p:List bm) (hp:(cG p).2=0) {A:AW} (h:ly A v p) {L:List It} {k:Value->AW->Prop} (hw:A.Wf) (hS:ah A L)
 (hk:∀b A',ah A' (.h (tH b (nX c id n p))::L)->A'.Wf->A.le A'->k (.tuple #[pv b,.int .i64 0]) A'):aD qa 40 [c.v,.int .i64 id,.int .i64 n,v] A k:=KF hF hc id n JO v p hp hw hS h hk
theorem ah.Yi {A:AW} {L:List It} (h:ah A L):ah A (.h (mQ (.slice none 0 0) [])::L):=dv.nil h
theorem ah.Yl {A:AW} {L:List It} (h:ah A L):ah A (.h (fX (.slice none 0 0) [])::L):=fX.nil h
def pH (c:br) (zs:List Int) (ps:List (List bm)):sr:=⟨ps.mapIdx λi p=>nX c i ps.length p,BC c ps.length zs,[],[]⟩
theorem Qf (hF:FOK) {c:br} (AL:pK c) (vi vp vk:Value) (zs:List Int) (ps:List (List bm)) (pk:List Int) (A:AW) (YD:cd A .u64 vi zs) (hp:jf A vp ps) (hk:cd A .i64 vk pk) (he:(jt c zs.length ps pk).2.2=0) :
 aD qa 22 [MG c vi vp vk] A (λu A'=>∃b,u=.tuple #[pv b,.int .i64 0,.int .i64 0,.int .i64 0]/\ah A' [.h (FZ b (pH c zs ps)),.h (pV A.bp)]):=by
 refine aN Tryz.func22 λhw=>?_;obtain⟨hr,hce,ER,AK,Pa,kO⟩:=xk he;obtain⟨oi,ci,rfl,_⟩:=YD.cy;have cS:=λO=>Kl hF c (.slice oi zs.length ci) vp vk zs.length ci oi ps pk (A.alloc O) rfl (hp.le (qb A O) hw) (hk.le (qb A O) hw);rw [hr] at cS;obtain⟨op,cp,rfl,_⟩:=hp.cy;obtain⟨ok,ck,rfl,_⟩:=hk.cy;have UE:=AL.ok;have hS:ah A [.h (pV A.bp)]:=by
  show bB A (pV A.bp*eZ);rw [dO];exact⟨A.bp,rfl,λi o h=>h⟩
 have AJ:c.ao=((c.ao.toNat:Nat):Int):=by have:=UE.ao;omega
 have CI:=BR AL;have eM:(λk=>if k=0 then zs++qc (tW c.c0 c.c1).length 0 else if k=1 then qc c.ao.toNat 0 else if k=5 then qc ps.length 0 else if k=6 then tm c.c0 c.c1 else if k=7 then tW c.c0 c.c1 else [0])=BC c ps.length zs:=by
  unfold BC;rw [<-CI,Zp]
 have hNT:=fun(i:Nat) (hi:i<ps.length)=>KF hF UE (i:Int) (ps.length:Int) (by omega);obtain⟨mC,fR,lS,c0,c1,c2,c3,kL,lO,lT,lR,iZ,mW⟩:=c;have cN:=λB (F:HP) hw hS=>GQ ps.length (tW c0 c1).length fR.toNat (.slice oi zs.length ci) zs mC fR lS c0 c1 c2 c3 kL lO lT lR iZ mW AL B F (pV A.bp) (λB F h=>fW.keeps (kg.MW h) YD) hw hS ER AK Pa AJ rfl;unfold MG km br.cells ug at cS;unfold MG km br.cells;dsimp only [br.v,br.cells] at cN hNT;simp only [aa,af] at cS ⊢;revert hS hw;refine W (J1 @cS) (J1 bE) ?_<;>(unhygienic intros);refine bO (cN _ (aM [.at A.next (.cells [.int .i64 mC,.int .i64 fR,.int .i64 lS,.int .i64 c0,.int .i64 c1,.int .i64 c2,.int .i64 c3,.int .i64 kL,.int .i64 lO,.int .i64 lT,.int .i64 lR,.int .i64 iZ,.bool mW,.slice oi zs.length ci,.slice op ps.length cp,.slice ok pk.length ck] true 1),.at (A.next+1) (.cells [.pointer none,.slice none 0 0,.slice none 0 0,.slice none 0 0] true 1)]) ?_ ?_) ?_
 exact wA;show ah _ [.h (pV A.bp),.at A.next (.cells [.int .i64 mC,.int .i64 fR,.int .i64 lS,.int .i64 c0,.int .i64 c1,.int .i64 c2,.int .i64 c3,.int .i64 kL,.int .i64 lO,.int .i64 lT,.int .i64 lR,.int .i64 iZ,.bool mW,.slice oi zs.length ci,.slice op ps.length cp,.slice ok pk.length ck] true 1),.at (A.next+1) (.cells [.pointer none,.slice none 0 0,.slice none 0 0,.slice none 0 0] true 1)];apply ah.bS
 (·exact sA)
 (·first|exact pe|exact pj)
 rintro _ A2 ⟨pb,rfl,kZ⟩ kc _;rw [eM] at kZ;clear hS hw;have hS:ah A2 [dN pb (BC ⟨mC,fR,lS,c0,c1,c2,c3,kL,lO,lT,lR,iZ,mW⟩ ps.length zs),.h (pV A.bp),.at A.next (.cells [.int .i64 mC,.int .i64 fR,.int .i64 lS,.int .i64 c0,.int .i64 c1,.int .i64 c2,.int .i64 c3,.int .i64 kL,.int .i64 lO,.int .i64 lT,.int .i64 lR,.int .i64 iZ,.bool mW,.slice oi zs.length ci,.slice op ps.length cp,.slice ok pk.length ck] true 1),.at (A.next+1) (.cells [.pointer none,.slice none 0 0,.slice none 0 0,.slice none 0 0] true 1)]:=kZ;have hw:=kc;clear kZ kc;have hq:=gh hS hw;revert hq hS hw;(repeat first|clear hq|clear hS|clear hw|revert hc|revert R|revert K);refine W cF (J1 bE) ?_<;>(unhygienic intros);generalize hM0:BC ⟨mC,fR,lS,c0,c1,c2,c3,kL,lO,lT,lR,iZ,mW⟩ ps.length zs=M0 at hS
 refine ef (λk fr A'=>A'.Wf/\∃(i:Nat) (vt:Value) (q:List (Nat×aT)),k=ps.length-i/\i<=ps.length/\q.map Zm=(ps.take i).mapIdx (λj p=>nX ⟨mC,fR,lS,c0,c1,c2,c3,kL,lO,lT,lR,iZ,mW⟩ j ps.length p)/\fr 1=pv A.next/\fr 2=pv (A.next+1)/\fr 38=.slice op ps.length cp/\fr 39=.int .i64 ps.length/\fr 40=.int .i64 i/\
  ah A' [dN pb M0,.h (pV A.bp),.at A.next (.cells [.int .i64 mC,.int .i64 fR,.int .i64 lS,.int .i64 c0,.int .i64 c1,.int .i64 c2,.int .i64 c3,.int .i64 kL,.int .i64 lO,.int .i64 lT,.int .i64 lR,.int .i64 iZ,.bool mW,.slice oi zs.length ci,.slice op ps.length cp,.slice ok pk.length ck] true 1),.at (A.next+1) (.cells [pv pb,vt,.slice none 0 0,.slice none 0 0] true 1),.h (mA vt (q.map qB)),.h (lu q)]) ps.length ?_ ?_
 refine⟨?_,0,.slice none 0 0,[],by omega,by omega,rfl,by simp,by simp,by simp,by simp,by simp,?_⟩;exact wA;have h1:∀B:AW,ah B [dN pb M0,.h (pV A.bp),.at A.next (.cells [.int .i64 mC,.int .i64 fR,.int .i64 lS,.int .i64 c0,.int .i64 c1,.int .i64 c2,.int .i64 c3,.int .i64 kL,.int .i64 lO,.int .i64 lT,.int .i64 lR,.int .i64 iZ,.bool mW,.slice oi zs.length ci,.slice op ps.length cp,.slice ok pk.length ck] true 1),.at (A.next+1) (.cells [pv pb,.slice none 0 0,.slice none 0 0,.slice none 0 0] true 1)]->ah B [dN pb M0,.h (pV A.bp),.at A.next (.cells [.int .i64 mC,.int .i64 fR,.int .i64 lS,.int .i64 c0,.int .i64 c1,.int .i64 c2,.int .i64 c3,.int .i64 kL,.int .i64 lO,.int .i64 lT,.int .i64 lR,.int .i64 iZ,.bool mW,.slice oi zs.length ci,.slice op ps.length cp,.slice ok pk.length ck] true 1),.at (A.next+1) (.cells [pv pb,.slice none 0 0,.slice none 0 0,.slice none 0 0] true 1),.h (mA (.slice none 0 0) []),.h (lu [])]:=λB hB=>by
  have h2:ah B (.h (mA (.slice none 0 0) [])::.h eZ::[dN pb M0,.h (pV A.bp),.at A.next (.cells [.int .i64 mC,.int .i64 fR,.int .i64 lS,.int .i64 c0,.int .i64 c1,.int .i64 c2,.int .i64 c3,.int .i64 kL,.int .i64 lO,.int .i64 lT,.int .i64 lR,.int .i64 iZ,.bool mW,.slice oi zs.length ci,.slice op ps.length cp,.slice ok pk.length ck] true 1),.at (A.next+1) (.cells [pv pb,.slice none 0 0,.slice none 0 0,.slice none 0 0] true 1)]):=dv.nil (ah.V9 hB);exact ah.bS h2 (.s (.s (.s .z)) (.s (.s (.s .z)) (.s (.s (.s .z)) (.s (.s (.s .z)) (.s .z (.s .z .z))))))
 refine h1 _ ?_;apply ah.bS
 (·exact sA)
 (·first|exact pe|exact pj)
 clear hS hw hq;rintro k fr A' ⟨hw,i,vt,q,rfl,hi,hqs,g1,g2,g38,g39,g40,hS⟩;have hkp:kg A A':=hS.keeps 1 rfl;obtain⟨ov,cv,rfl,_⟩:=fW.cy (ah.lm hS (.s (.s (.s (.s .z)))));rw [qD] at hS;have hlq:q.length=i:=by
  have:=congrArg List.length hqs;simp at this;omega
 by_cases cD:i<ps.length
 . obtain⟨us,u1,u2⟩:=hp;obtain⟨q0,b8,u,xO,bV,hcell,hu⟩:=jf.at (⟨us,fW.keeps hkp u1,λi hi=>let ⟨u,h3,h4⟩:=u2 i hi;⟨u,h3,fW.keeps hkp h4⟩⟩:jf A' (.slice op ps.length cp) ps) cD;subst xO;have iC:(i:Int)<ps.length:=(by omega);have gS:=By (i:=i);have JO:0<=(i:Int)/\(i:Int)<ps.length/\(ps.length:Int)<=16:=(by omega);have hq:=gh hS hw;refine ba ?_
   repeat' (first|(with_reducible apply WY;(·first|(simp;done)|(simp;rfl));(·first|(simp;done)|(simp;rfl));(·exact wA);(·exact sA);(·first|exact pA|exact kA);(·first|exact AW.bY _ _|((repeat' (first|apply aE.z|apply aE.s));done)|(simp [hq];(repeat' (first|rfl|refine⟨rfl,?_⟩));done)|(simp;done)|(simp;rfl)|(simp [hq];done)|(simp [hq];rfl));(·first|omega|(simp;omega));(·intro _ _;trivial);rintro _ _ _ hS hw _;(try dsimp only [AW.bd] at hS);have hq:=gh hS hw)|(refine Ma (λR hR=>?_) (λR hR=>?_)<;>(first|(with_reducible apply WY;(·first|(simp;done)|(simp;rfl));(·first|(simp;done)|(simp;rfl));(·exact wA);(·exact sA);(·first|exact pA|exact kA);(·first|exact AW.bY _ _|((repeat' (first|apply aE.z|apply aE.s));done)|(simp [hq];(repeat' (first|rfl|refine⟨rfl,?_⟩));done)|(simp;done)|(simp;rfl)|(simp [hq];done)|(simp [hq];rfl));(·first|omega|(simp;omega));(·intro _ _;trivial);rintro _ _ _ hS hw _;(try dsimp only [AW.bd] at hS);have hq:=gh hS hw)|(simp [ar,ax,g1,g2,g38,g39,g40,hq,cD,iC,gS,bV,hcell,AW.ab,aG];try simp (disch:=omega) only [aA,aw,ar,ax])))|(refine kY λR hR=>?_;simp [ar,ax,g1,g2,g38,g39,g40,hq,cD,iC,gS,bV,hcell,AW.ab,aG];try simp (disch:=omega) only [aA,aw,ar,ax])|(refine hR _ _ ?_;clear hR R)|(refine hK _ _ ?_;clear hK K)|refine nx ?_|refine wn λK hK=>?_|simp only [wS]|(apply Ym hF UE i ps.length JO u ps[i] (kO i cD) hu;(·exact wA);(·exact sA);((first|rintro _ _ _ hS hw fO|rintro _ _ hS hw fO|rintro _ _ hS hw);(try refine⟨fO,?_⟩);(try dsimp only [AW.bd] at hS);have hq:=gh hS hw))|(show c8 _ _ _ _ _ _;refine nx ?_)|(refine wc rfl (λhc=>?_) (λhc=>?_)<;>(try simp at hc)<;>(try omega))|(refine ib (λhc=>?_) (λhc=>?_)<;>(try omega)<;>(try simp (disch:=omega) only [aA,aw])))
   rename_i bt A5 AQ CG hq5 o5 c5 A6 le6;refine⟨ps.length-(i+1),by omega,?_,i+1,.slice o5 (q.length+1) c5,q++[(bt,nX ⟨mC,fR,lS,c0,c1,c2,c3,kL,lO,lT,lR,iZ,mW⟩ i ps.length ps[i])],rfl,by omega,?_,by simp [g1],by simp [g2],by simp [g38],by simp [g39],by simp,?_⟩;exact wA;rw [Zr,hqs,List.take_succ_eq_append_getElem cD,List.mapIdx_append];simp [Nat.min_eq_left (Nat.le_of_lt cD)];have e:lu (q++[(bt,nX ⟨mC,fR,lS,c0,c1,c2,c3,kL,lO,lT,lR,iZ,mW⟩ i ps.length ps[i])])=tH bt (nX ⟨mC,fR,lS,c0,c1,c2,c3,kL,lO,lT,lR,iZ,mW⟩ i ps.length ps[i])*lu q:=by
    rw [FL];show lu q*(tH bt _*eZ)=_;rw [dO]
    ac_rfl
   rw [qD] at hS;rw [e,Zr]
   have h1:∀(B:AW) (v:Value),ah B [dN pb M0,.h (pV A.bp),.at A.next (.cells [.int .i64 mC,.int .i64 fR,.int .i64 lS,.int .i64 c0,.int .i64 c1,.int .i64 c2,.int .i64 c3,.int .i64 kL,.int .i64 lO,.int .i64 lT,.int .i64 lR,.int .i64 iZ,.bool mW,.slice oi zs.length ci,.slice (some q0) ps.length cp,.slice ok pk.length ck] true 1),.at (A.next+1) (.cells [pv pb,v,.slice none 0 0,.slice none 0 0] true 1),.h (mA v (q.map qB++[bt])),.h (tH bt (nX ⟨mC,fR,lS,c0,c1,c2,c3,kL,lO,lT,lR,iZ,mW⟩ i ps.length ps[i])),.h (lu q)]->
    ah B [dN pb M0,.h (pV A.bp),.at A.next (.cells [.int .i64 mC,.int .i64 fR,.int .i64 lS,.int .i64 c0,.int .i64 c1,.int .i64 c2,.int .i64 c3,.int .i64 kL,.int .i64 lO,.int .i64 lT,.int .i64 lR,.int .i64 iZ,.bool mW,.slice oi zs.length ci,.slice (some q0) ps.length cp,.slice ok pk.length ck] true 1),.at (A.next+1) (.cells [pv pb,v,.slice none 0 0,.slice none 0 0] true 1),.h (mA v (q.map qB++[bt])),.h (tH bt (nX ⟨mC,fR,lS,c0,c1,c2,c3,kL,lO,lT,lR,iZ,mW⟩ i ps.length ps[i])*lu q)]:=λB v h=>by
    unfold ah at h ⊢;refine bB.dZ h ?_;simp only [aM,It.hp,dO]
   refine h1 _ _ ?_;apply ah.bS
   (·exact sA)
   (·first|exact pe|exact pj)
 have vT:i=ps.length:=by omega
 subst vT;have iC:¬((ps.length:Int)<ps.length):=by omega
 have hq:=gh hS hw;refine ba ?_;revert hq hS hw;(repeat first|clear hq|clear hS|clear hw|revert hc|revert R|revert K);refine W cF (J7 g1 g2 g38 g39 g40 iC bE) ?_<;>(unhygienic intros);rw [List.take_length] at hqs;have h1:=ah.Yi (ah.Yl hS);refine⟨.tuple #[pv (A.next+1),.int .i64 0,.int .i64 0,.int .i64 0],by simp [bu,aQ,aS],A.next+1,rfl,?_⟩;subst hM0;refine ah.bS (FZ.dP (b:=A.next+1) (m:=pH ⟨mC,fR,lS,c0,c1,c2,c3,kL,lO,lT,lR,iZ,mW⟩ zs ps) (f:=⟨pb,.slice ov q.length cv,.slice none 0 0,.slice none 0 0⟩) (q:=q) (K:=[.h (pV A.bp),.at A.next (.cells [.int .i64 mC,.int .i64 fR,.int .i64 lS,.int .i64 c0,.int .i64 c1,.int .i64 c2,.int .i64 c3,.int .i64 kL,.int .i64 lO,.int .i64 lT,.int .i64 lR,.int .i64 iZ,.bool mW,.slice oi zs.length ci,.slice op ps.length cp,.slice ok pk.length ck] true 1)]) hqs h1 ?_) (.s .z (.s .z .z));unfold Sz pH;dsimp only
 (·first|exact pe|exact pj)
end
section
abbrev mn:List (Nat×Nat):=[(0,0),(1,0),(2,0),(3,0),(4,0),(5,0),(6,2),(7,3),(8,0),(9,0),(10,3)]
open T2
variable [Gl]
variable [AF]
theorem ah.ptrI {A:AW} {L K:List It} {v:Value} {ns:List Nat} (h:ah A L) (hp:aE L (.h (mA v ns)) K) {i:Nat} (hi:i<ns.length) :
 ∃b off c b8,v=.slice (some ⟨b,off,none⟩) ns.length c/\b8[off+i]? = some (pv ns[i])/\off+ns.length<=b8.length/\ah A (.at b (.cells b8 true 1)::K)/\
  ∀(A':AW) (L' K':List It),ah A' L'->aE L' (.at b (.cells b8 true 1)) K'->ah A' (.h (mA (.slice (some ⟨b,off,none⟩) ns.length c) ns)::K'):=by
 unfold ah at h;rw [hp.aM] at h;rcases dv.cases h with ⟨_,h0,_⟩|⟨b,off,c,b8,rfl,h1,h2,h3,h4⟩;omega;rw [qX] at h2 h3;refine⟨b,off,c,b8,rfl,?_,h2,h4,λA' L' K' hS e=>?_⟩;have e1:(ns.map pv)[i]? = ((b8.drop off).take ns.length)[i]?:=congrArg (·[i]?) h3;rw [List.getElem?_take_of_lt hi,List.getElem?_drop,Zg,qk hi] at e1;exact e1.symm;unfold ah at hS;rw [e.aM] at hS;exact dv.mk h1 (by rw [qX];exact h2) (by rw [qX];exact h3) hS
theorem Bj {t:aT} {s:aJ} {M:Mm}:(t.vN M s).2.1=[]\/∃e,(t.vN M s).2.1=[e]:=by
 unfold aT.vN;dsimp only;split;exact .inr ⟨_,rfl⟩;split;exact .inr ⟨_,rfl⟩;exact .inl rfl
theorem Kg {d8:Int->Int->Int->Int} {t:aT} {M:Mm}:(t.step d8 M).2.2.1=[]\/∃e,(t.step d8 M).2.2.1=[e]:=by
 have hp:∀i,(t.plain M i).2.1=[]\/∃e,(t.plain M i).2.1=[e]:=λi=>by
  unfold aT.plain;dsimp only;split;exact .inl rfl;split;exact Bj;split<;>exact .inr ⟨_,rfl⟩
 have he:∀i,(t.k7 d8 M i).2.1=[]\/∃e,(t.k7 d8 M i).2.1=[e]:=λi=>by
  unfold aT.k7;split;exact Bj;split;split;exact Bj;exact .inl rfl;split;exact hp i;split<;>exact .inl rfl
 unfold aT.step;split;exact .inl rfl;show (t.lX d8 M).2.1=[]\/_;unfold aT.lX;split;exact .inl rfl;split;split;exact Bj;split;exact Bj;exact he _;exact he _
structure EvP where
 bb:Nat
 off:Nat
 eA:Nat
 b8:List Value
 r:Value
 w:Value
theorem d7.ev1 {P:Program} {f:FuncId} {args:List Value} {rl:List It} {x y:Value} {a1 a2:It} {e:FO} (h:d7 P f args rl (λev v=>v=.tuple #[x,ev,y]) (λev=>[a1,a2,.h (fX ev [e])])) :
 d7 P f args rl (λ(z:EvP) v=>v=.tuple #[x,.slice (some ⟨z.bb,z.off,none⟩) 1 z.eA,y]/\z.off+6<=z.b8.length/\(z.b8.drop z.off).take 6=zt e z.r z.w) (λz=>[a1,a2,.at z.bb (.cells z.b8 true 6),.h (av .i64 z.r e.reads),.h (av .i64 z.w e.bP)]):=λA F hw hS=>by
 refine bO (h A F hw hS) ?_;rintro v A' ⟨ev,rfl,h2⟩ _ _;obtain⟨q,hq,h3⟩:=fX.open h2 (.s (.s .z));obtain⟨⟨e',r,w⟩,q',rfl,rfl,xO⟩:=List.map_eq_cons_iff.1 hq;have O7:q'=[]:=List.map_eq_nil_iff.1 xO;subst O7;dsimp only [Fb,aa,af] at h3;have e1:gz [(e',r,w)]=zt e' r w:=by simp [gz]
 rw [e1] at h3;rcases dv.cases h3 with ⟨_,h0,_⟩|⟨b,off,c,b8,rfl,g1,g2,g3,g4⟩;cases h0;refine⟨⟨b,off,c,b8,r,w⟩,⟨rfl,g2,g3.symm⟩,?_⟩;have g5:bB A' (pt b (.cells b8 true 6)*(((av .i64 r e'.reads*av .i64 w e'.bP)*eZ)*(a1.hp*(a2.hp*(F*eZ))))):=g4;refine bB.dZ g5 ?_;show _=a1.hp*(a2.hp*(pt b (.cells b8 true 6)*(av .i64 r e'.reads*(av .i64 w e'.bP*(F*eZ)))));rw [dO]
 ac_rfl
theorem Qc {d8:Int->Int->Int->Int} (hA:xf d8) (hF:FOK) {c:br} {nt k:Nat} (hc:cX c) (hk:k+1<2^24) (b:Nat) (m:sr) (hM:k9 c nt k m.M) (hT:∀t∈m.fN,lw c nt k t/\Dm t.aC) (hl:m.fN.length<=16) (JL:m.cJ.length<2^29) (hel:m.sU.length<2^29) (id:Int) :
 bn qa 23 [pv b,.int .i64 id] [.h (FZ b m)] (λv=>v=.bool (m.did d8 id)) (λ_=>[.h (FZ b (m.pick d8 id))]):=by
 intro A F hw dA;refine aN Tryz.func23 λ_=>?_;dsimp only [aa,af] at dA;obtain⟨⟨pb,vt,vs,ve⟩,q,EN,hS⟩:=FZ.open dA .z;have hql:q.length=m.fN.length:=by rw [<-EN,qD]
 clear dA;dsimp only [Sz,aa,af] at hS;by_cases h0:id<0
 . unfold sr.did sr.pick;rw [aw (by omega),aw (by omega)];have hq:=gh hS hw;revert hq hS hw;(repeat first|revert hc|revert R|revert K);refine Wu (J2 (od mn) (⟨⟩:Ts (λ_=>True) [0,0,0,0,0,0,0,0,0,0,0,3,0,0,0,0,2,3,0,0] (.aK 0 (.aK 1 (.aK 2 (.aK 3 (.aK 4 (.aK 5 (.aK 6 (.aK 7 (.aK 8 (.aK 9 (.aK 10 (.tC 11 (.aK 12 (.aK 13 (.aK 14 (.aK 15 (.aK 16 (.aK 17 (.aK 18 (.aK 19 .nil)))))))) 16 (.aK 11 (.aK 12 (.aK 13 (.aK 14 (.aK 15 (.aK 17 (.aK 18 (.aK 19 .nil)))))))))))))))))))))) (J2 h0 bE) ?_<;>(unhygienic intros);refine⟨_,by first|rfl|(simp;rfl),rfl,?_⟩;exact ah.bS (FZ.dP (f:=⟨pb,vt,vs,ve⟩) EN hS (by unfold Sz;dsimp only;(first|exact pA|exact kA))) (.s .z (.s .z .z))
 have mO:(q.map qB).length=m.fN.length:=by rw [qD,hql]
 by_cases h1:(m.fN.length:Int)<=id
 . unfold sr.did sr.pick;rw [aA (by omega),aA (by omega),List.getElem?_eq_none (by omega)];obtain⟨o,cc,rfl,_⟩:=fW.cy (ah.lm hS (.s (.s .z)));rw [mO] at hS;have hq:=gh hS hw;revert hq hS hw;(repeat first|clear hq|clear hS|clear hw|revert hc|revert R|revert K);refine Wu (J2 (od mn) (⟨⟩:Ts (λ_=>True) [0,0,0,0,0,0,0,0,0,0,0,3,0,0,0,0,2,3,0,0] (.aK 0 (.aK 1 (.aK 2 (.aK 3 (.aK 4 (.aK 5 (.aK 6 (.aK 7 (.aK 8 (.aK 9 (.aK 10 (.tC 11 (.aK 12 (.aK 13 (.aK 14 (.aK 15 (.aK 16 (.aK 17 (.aK 18 (.aK 19 .nil)))))))) 16 (.aK 11 (.aK 12 (.aK 13 (.aK 14 (.aK 15 (.aK 17 (.aK 18 (.aK 19 .nil)))))))))))))))))))))) (J3 h0 h1 bE) ?_<;>(unhygienic intros);refine⟨_,by first|rfl|(simp;rfl),rfl,?_⟩;rw [<-mO] at hS;exact ah.bS (FZ.dP (f:=⟨pb,_,vs,ve⟩) EN hS (by unfold Sz;dsimp only;(first|exact pA|exact kA))) (.s .z (.s .z .z))
 have hi:id.toNat<q.length:=by omega
 obtain⟨i,JO⟩:∃i:Nat,id=i:=⟨id.toNat,by omega⟩;subst JO;simp only [Zp] at hi;obtain⟨tb,off,cc,b8,rfl,bV,Li,iY,kJ⟩:=ah.ptrI hS (.s (.s .z)) (i:=i) (by omega);obtain⟨R,kZ,tg⟩:=ah.WK hi iY (.s (.s (.s .z)));have Mc:m.fN[i]? = some q[i].2:=by rw [<-EN,Zg,qk hi];rfl
 rw [List.getElem_map] at bV;generalize hx:q[i]=x at *;obtain⟨bt,t⟩:=x;dsimp only at Mc bV kZ tg;obtain⟨mv,pY⟩:=hT t (List.mem_of_getElem? Mc);have e0:m.did d8 i=(t.step d8 m.M).1:=by
  unfold sr.did;rw [aA (by omega),Zp,Mc]
 clear hS iY;have hS:=kZ;clear kZ;rw [e0];rw [mO] at kJ hS;have Xg:off+i<b8.length:=by omega
 obtain⟨hir2,yl⟩:=qK.1 bV
 have bS:∀(t':aT) (M':Mm) (Cl WI:Value) (st':List eF) (ev':List FO) (A':AW) (L' K1 K2 K3 K4 K5 K6 K7 K8:List It),ah A' L'->aE L' (.h (tH bt t')) K1->aE K1 (.h R) K2->aE K2 (.at tb (.cells b8 true 1)) K3->
  aE K3 (.at b (.cells [pv pb,.slice (some ⟨tb,off,none⟩) m.fN.length cc,Cl,WI] true 1)) K4->aE K4 (dN pb M') K5->aE K5 (.h (mQ Cl st')) K6->aE K6 (.h (fX WI ev')) K7->aX K7 [.h F] K8->
  ah A' [.h (FZ b ⟨m.fN.set i t',M',st',ev'⟩),.h F]:=λt' M' Cl WI st' ev' A' L' K1 K2 K3 K4 K5 K6 K7 K8 h e1 e2 e3 e4 e5 e6 e7 e8=>by
  have g1:=tg A' L' K1 K2 t' h e1 e2;have g2:=kJ A' _ _ g1 (.s e3);have hf:(q.set i (bt,t')).map qB=q.map qB:=by
   rw [List.map_set];have e:(bt,t').1=(q.map qB)[i]'(by omega):=by rw [List.getElem_map,hx]
   rw [e,kao]
  have hs:(q.set i (bt,t')).map Zm=m.fN.set i t':=by rw [List.map_set,EN]
  refine ah.bS (FZ.dP (f:=⟨pb,.slice (some ⟨tb,off,none⟩) m.fN.length cc,Cl,WI⟩) (q:=q.set i (bt,t')) (K:=K7) hs g2 ?_) (.s .z e8);unfold Sz;dsimp only;rw [hf];exact .s (.s (.s e4)) (.s (.s (.s e5)) (.s .z (.s .z (.s e6 (.s e7 .z)))))
 by_cases hd:t.done=true
 . have dy:(t.step d8 m.M)=(false,eF.zero,[],t,m.M):=(by unfold aT.step;rw [aA hd]);have e1:m.pick d8 i=m:=by
    unfold sr.pick;rw [aA (by omega),Zp,Mc];dsimp only;rw [dy];rfl
   rw [e1,dy];have hq:=gh hS hw;have lQ:=Kc bt t m.M pb hd;revert hq hS hw;(repeat first|clear hq|clear hS|clear hw|revert hc|revert R|revert K);refine Wu (J3 (od mn) (⟨⟩:Ts (λ_=>True) [0,0,0,0,0,0,0,0,0,0,0,3,0,0,0,0,2,3,0,0] (.aK 0 (.aK 1 (.aK 2 (.aK 3 (.aK 4 (.aK 5 (.aK 6 (.aK 7 (.aK 8 (.aK 9 (.aK 10 (.tC 11 (.aK 12 (.aK 13 (.aK 14 (.aK 15 (.aK 16 (.aK 17 (.aK 18 (.aK 19 .nil)))))))) 16 (.aK 11 (.aK 12 (.aK 13 (.aK 14 (.aK 15 (.aK 17 (.aK 18 (.aK 19 .nil))))))))))))))))))))) @lQ) (DM h1 Li bV Xg yl @eb.eq_1 @eF.zero.eq_1 @aZ.v.eq_1 @aZ.zero.eq_1 bE) (J2 ?_ ?_)<;>(unhygienic intros)
   all_goals
    refine⟨_,by first|rfl|(simp;rfl)|(simp [hq,AW.ab,aG];rfl),by first|rfl|(simp;done),?_⟩;have e2:m=⟨m.fN.set i t,m.M,m.cJ,m.sU⟩:=by
     have:m.fN.set i t=m.fN:=by
      obtain⟨g1,g2⟩:=qK.1 Mc;rw [<-g2,kao]
     rw [this]
    rw [e2];apply bS
    (·exact sA)
    all_goals(first|exact pe|exact pj)
 have NG:t.done=false:=by simpa using hd
 have zN:=UX hA hF hc hk bt pb t m.M hM mv pY NG;have O5:(t.step d8 m.M).1=true:=by unfold aT.step;rw [aw hd]
 have e1:m.pick d8 i=⟨m.fN.set i (t.step d8 m.M).2.2.2.1,(t.step d8 m.M).2.2.2.2,m.cJ++[(t.step d8 m.M).2.1],m.sU++(t.step d8 m.M).2.2.1.map λe=>{ e with bW:=m.cJ.length }⟩:=by
  unfold sr.pick;rw [aA (by omega),Zp,Mc];dsimp only;rw [O5];rfl
 have Pe:=Kg (d8:=d8) (t:=t) (M:=m.M);rw [e1];generalize t.step d8 m.M=r at *;obtain⟨ok,st,sU,t',M'⟩:=r;dsimp only at O5 zN Pe ⊢;subst O5;have hq:=gh hS hw;rcases Pe with rfl|⟨e,rfl⟩
 . have Nv:=d7.ev0 zN;revert hq hS hw;(repeat first|clear hq|clear hS|clear hw|revert hc|revert R|revert K);refine Wu (J3 (Tg.mk (n:=32) @Nv) (od mn) (⟨⟩:Ts (λ_=>True) [0,0,0,0,0,0,0,0,0,0,0,3,0,0,0,0,2,3,0,0] (.aK 0 (.aK 1 (.aK 2 (.aK 3 (.aK 4 (.aK 5 (.aK 6 (.aK 7 (.aK 8 (.aK 9 (.aK 10 (.tC 11 (.aK 12 (.aK 13 (.aK 14 (.aK 15 (.aK 16 (.aK 17 (.aK 18 (.aK 19 .nil)))))))) 16 (.aK 11 (.aK 12 (.aK 13 (.aK 14 (.aK 15 (.aK 17 (.aK 18 (.aK 19 .nil)))))))))))))))))))))) (J7 h1 Li bV Xg yl @eb.eq_1 bE) (J2 ?_ ?_)<;>(unhygienic intros)
   all_goals
    refine ef (λk fr A'=>fr=_/\A'=_) 0 ⟨rfl,rfl⟩ ?_;rintro k _ _ ⟨rfl,rfl⟩;refine ba ?_
    repeat' (first|(with_reducible apply WZ (s:=st);(·first|(simp;done)|(simp;rfl));(·first|(simp;done)|(simp;rfl));(·exact wA);(·exact sA);(·first|exact pA|exact kA);(·first|exact AW.bY _ _|((repeat' (first|apply aE.z|apply aE.s));done)|(simp [hq];(repeat' (first|rfl|refine⟨rfl,?_⟩));done)|(simp;done)|(simp;rfl)|(simp [hq];done)|(simp [hq];rfl));(·first|omega|(simp;omega));(·intro _ _;trivial);rintro _ _ _ hS hw _;(try dsimp only [AW.bd] at hS);have hq:=gh hS hw)|(refine kY λR hR=>?_;simp [ar,ax,hq,AW.ab,aG];try simp (disch:=omega) only [aA,aw,ar,ax])|(refine hR _ _ ?_;clear hR R)|(refine hK _ _ ?_;clear hK K)|refine nx ?_|(refine PK λR hR=>?_;simp [ar,ax,hq,AW.ab,aG];try simp (disch:=omega) only [aA,aw,ar,ax])|(refine Ma (λR hR=>?_) (λR hR=>?_)<;>(simp [ar,ax,hq,AW.ab,aG];try simp (disch:=omega) only [aA,aw,ar,ax]))|refine PI ?_|refine wn λK hK=>?_|simp only [wS,mn]|simp only [bG,tK,lG,ZQ,qR,Zn,ZB,ZC,ZK,ZE,Zq]|refine wl qj mn (by decide +kernel) λK hK=>?_|refine wt (λ_=>True) qj [0,0,0,0,0,0,0,0,0,0,0,3,0,0,0,0,2,3,0,0] (.aK 0 (.aK 1 (.aK 2 (.aK 3 (.aK 4 (.aK 5 (.aK 6 (.aK 7 (.aK 8 (.aK 9 (.aK 10 (.tC 11 (.aK 12 (.aK 13 (.aK 14 (.aK 15 (.aK 16 (.aK 17 (.aK 18 (.aK 19 .nil)))))))) 16 (.aK 11 (.aK 12 (.aK 13 (.aK 14 (.aK 15 (.aK 17 (.aK 18 (.aK 19 .nil)))))))))))))))))))) (by decide +kernel) λK hK=>?_|(show c8 _ _ _ _ _ _;refine nx ?_)|(refine wc rfl (λhc=>?_) (λhc=>?_)<;>(try simp at hc)<;>(try omega))|(refine ib (λhc=>?_) (λhc=>?_)<;>(try omega)<;>(try simp (disch:=omega) only [aA,aw])))
    refine⟨_,by first|rfl|(simp;rfl)|(simp [hq,AW.ab,aG];rfl),by first|rfl|(simp;done),?_⟩;rw [show m.sU++List.map (λe:FO=>({ bW:=m.cJ.length,aj:=e.aj,fI:=e.fI,UP:=e.UP,reads:=e.reads,bP:=e.bP }:FO)) []=m.sU from List.append_nil _];apply bS
    (·exact sA)
    all_goals(first|exact pe|exact pj)
 have O4:=d7.ev1 zN
 repeat' (first|(refine kY λR hR=>?_;simp [ar,ax,hq,h1,Li,bV,Xg,yl,eb,AW.ab,aG];try simp (disch:=omega) only [aA,aw,ar,ax])|(refine hR _ _ ?_;clear hR R)|(refine hK _ _ ?_;clear hK K)|refine nx ?_|(refine PK λR hR=>?_;simp [ar,ax,hq,h1,Li,bV,Xg,yl,eb,AW.ab,aG];try simp (disch:=omega) only [aA,aw,ar,ax])|(refine Ma (λR hR=>?_) (λR hR=>?_)<;>(simp [ar,ax,hq,h1,Li,bV,Xg,yl,eb,AW.ab,aG];try simp (disch:=omega) only [aA,aw,ar,ax]))|refine PI ?_|refine wn λK hK=>?_|simp only [wS,mn]|simp only [bG,tK,lG,ZQ,qR,Zn,ZB,ZC,ZK,ZE,Zq]|refine wl qj mn (by decide +kernel) λK hK=>?_|refine wt (λ_=>True) qj [0,0,0,0,0,0,0,0,0,0,0,3,0,0,0,0,2,3,0,0] (.aK 0 (.aK 1 (.aK 2 (.aK 3 (.aK 4 (.aK 5 (.aK 6 (.aK 7 (.aK 8 (.aK 9 (.aK 10 (.tC 11 (.aK 12 (.aK 13 (.aK 14 (.aK 15 (.aK 16 (.aK 17 (.aK 18 (.aK 19 .nil)))))))) 16 (.aK 11 (.aK 12 (.aK 13 (.aK 14 (.aK 15 (.aK 17 (.aK 18 (.aK 19 .nil)))))))))))))))))))) (by decide +kernel) λK hK=>?_|(apply d7.ft (O4);(·exact wA);(·exact sA);(·first|exact pA|exact kA);(rintro xw _ _ ⟨rfl,hz1,pm⟩ hS hw _;have hS:=lA hS;(try (have hq:=gh hS hw))))|(show c8 _ _ _ _ _ _;refine nx ?_)|(refine wc rfl (λhc=>?_) (λhc=>?_)<;>(try simp at hc)<;>(try omega))|(refine ib (λhc=>?_) (λhc=>?_)<;>(try omega)<;>(try simp (disch:=omega) only [aA,aw])))
 all_goals
  obtain⟨zb,zo,zc,zrow,vr,vw⟩:=xw;dsimp only at hS hz1 pm
  refine ef (λk fr A'=>A'.Wf/\fr 0=pv b/\fr 43=.slice (some ⟨zb,zo,none⟩) 1 zc/\fr 44=.int .i64 1/\∃sp,fr 5=pv sp/\
   ((k=1/\fr 45=.int .i64 0/\ah A' [.h (tH bt t'),dN pb M',.at zb (.cells zrow true 6),.h (av .i64 vr e.reads),.h (av .i64 vw e.bP),.h R,.at tb (.cells b8 true 1),.at b (.cells [pv pb,.slice (some ⟨tb,off,none⟩) m.fN.length cc,vs,ve] true 1),.h (mQ vs m.cJ),.h (fX ve m.sU),.at sp (.cells [.int .i64 st.aj,.int .i64 st.fe,.int .i64 st.Bc,.int .i64 st.gP.fI,.int .i64 st.gP.cell,.int .i64 st.gP.cL,.int .u64 st.gP.fi,.int .u64 st.gP.put,.bool st.gP.done] true 1),.h F]) \/
    (k=0/\fr 45=.int .i64 1/\∃WI,ah A' [.h (tH bt t'),dN pb M',.h R,.at tb (.cells b8 true 1),.at b (.cells [pv pb,.slice (some ⟨tb,off,none⟩) m.fN.length cc,vs,WI] true 1),.h (mQ vs m.cJ),.h (fX WI (m.sU++[({ e with bW:=m.cJ.length }:FO)])),.at sp (.cells [.int .i64 st.aj,.int .i64 st.fe,.int .i64 st.Bc,.int .i64 st.gP.fI,.int .i64 st.gP.cell,.int .i64 st.gP.cL,.int .u64 st.gP.fi,.int .u64 st.gP.put,.bool st.gP.done] true 1),.h F]))) 1 ?_ ?_
  refine⟨?_,by simp,by simp,by simp,_,by simp;rfl,.inl ⟨rfl,by simp,?_⟩⟩;exact wA;apply ah.bS
  (·exact sA)
  (·first|exact pe|exact pj)
  clear hS hw hq;rintro k fr A5 ⟨hw,f0,f43,f44,sp,f5,h⟩;rcases h with ⟨rfl,f45,hS⟩|⟨rfl,f45,WI,hS⟩
  . obtain⟨oz,cz,rfl,_⟩:=fW.cy (ah.lm hS (.s (.s (.s (.s (.s (.s (.s (.s .z)))))))));obtain⟨o1,c1,rfl,_⟩:=(ah.tE hS (.s (.s (.s .z)))).cy;obtain⟨o2,c2,rfl,_⟩:=(ah.tE hS (.s (.s (.s (.s .z))))).cy;obtain⟨ze,zi,zk,zw,zr,zv⟩:=e;unfold zt at pm;dsimp only at pm;have hq:=gh hS hw;refine ba ?_
    repeat' (first|(with_reducible apply W0 (e:=⟨m.cJ.length,zi,zk,zw,zr,zv⟩) (r:=.slice o1 zr.length c1) (w:=.slice o2 zv.length c2);(·first|(simp;done)|(simp;rfl));(·first|(simp;done)|(simp;rfl));(·exact wA);(·exact sA);(·first|exact pA|exact kA);(·first|exact AW.bY _ _|((repeat' (first|apply aE.z|apply aE.s));done)|(simp [hq];(repeat' (first|rfl|refine⟨rfl,?_⟩));done)|(simp;done)|(simp;rfl)|(simp [hq];done)|(simp [hq];rfl));(·first|omega|(simp;omega));(·intro _ _;trivial);rintro _ _ _ hS hw _;(try dsimp only [AW.bd] at hS);have hq:=gh hS hw)|(refine kY λR hR=>?_;simp [ar,ax,hq,f0,f43,f44,f45,f5,hz1,pm,AW.ab,aG];try simp (disch:=omega) only [aA,aw,ar,ax])|(refine hR _ _ ?_;clear hR R)|(refine hK _ _ ?_;clear hK K)|refine nx ?_|(refine PK λR hR=>?_;simp [ar,ax,hq,f0,f43,f44,f45,f5,hz1,pm,AW.ab,aG];try simp (disch:=omega) only [aA,aw,ar,ax])|(refine Ma (λR hR=>?_) (λR hR=>?_)<;>(simp [ar,ax,hq,f0,f43,f44,f45,f5,hz1,pm,AW.ab,aG];try simp (disch:=omega) only [aA,aw,ar,ax]))|refine PI ?_|refine wn λK hK=>?_|simp only [wS,mn]|simp only [bG,tK,lG,ZQ,qR,Zn,ZB,ZC,ZK,ZE,Zq]|refine wl qj mn (by decide +kernel) λK hK=>?_|refine wt (λ_=>True) qj [0,0,0,0,0,0,0,0,0,0,0,3,0,0,0,0,2,3,0,0] (.aK 0 (.aK 1 (.aK 2 (.aK 3 (.aK 4 (.aK 5 (.aK 6 (.aK 7 (.aK 8 (.aK 9 (.aK 10 (.tC 11 (.aK 12 (.aK 13 (.aK 14 (.aK 15 (.aK 16 (.aK 17 (.aK 18 (.aK 19 .nil)))))))) 16 (.aK 11 (.aK 12 (.aK 13 (.aK 14 (.aK 15 (.aK 17 (.aK 18 (.aK 19 .nil)))))))))))))))))))) (by decide +kernel) λK hK=>?_|(show c8 _ _ _ _ _ _;refine nx ?_)|(refine wc rfl (λhc=>?_) (λhc=>?_)<;>(try simp at hc)<;>(try omega))|(refine ib (λhc=>?_) (λhc=>?_)<;>(try omega)<;>(try simp (disch:=omega) only [aA,aw])))
    refine⟨0,by omega,?_,by simp [f0],by simp [f43],by simp [f44],sp,by simp [f5],.inr ⟨rfl,by simp,?_⟩⟩;exact wA;apply Exists.intro;apply ah.bS
    (·exact sA)
    (·first|exact pe|exact pj)
  have hq:=gh hS hw;refine ba ?_
  repeat' (first|(with_reducible apply WZ (s:=st);(·first|(simp;done)|(simp;rfl));(·first|(simp;done)|(simp;rfl));(·exact wA);(·exact sA);(·first|exact pA|exact kA);(·first|exact AW.bY _ _|((repeat' (first|apply aE.z|apply aE.s));done)|(simp [hq];(repeat' (first|rfl|refine⟨rfl,?_⟩));done)|(simp;done)|(simp;rfl)|(simp [hq];done)|(simp [hq];rfl));(·first|omega|(simp;omega));(·intro _ _;trivial);rintro _ _ _ hS hw _;(try dsimp only [AW.bd] at hS);have hq:=gh hS hw)|(refine kY λR hR=>?_;simp [ar,ax,hq,f0,f43,f44,f45,f5,AW.ab,aG];try simp (disch:=omega) only [aA,aw,ar,ax])|(refine hR _ _ ?_;clear hR R)|(refine hK _ _ ?_;clear hK K)|refine nx ?_|(refine PK λR hR=>?_;simp [ar,ax,hq,f0,f43,f44,f45,f5,AW.ab,aG];try simp (disch:=omega) only [aA,aw,ar,ax])|(refine Ma (λR hR=>?_) (λR hR=>?_)<;>(simp [ar,ax,hq,f0,f43,f44,f45,f5,AW.ab,aG];try simp (disch:=omega) only [aA,aw,ar,ax]))|refine PI ?_|refine wn λK hK=>?_|simp only [wS,mn]|simp only [bG,tK,lG,ZQ,qR,Zn,ZB,ZC,ZK,ZE,Zq]|refine wl qj mn (by decide +kernel) λK hK=>?_|refine wt (λ_=>True) qj [0,0,0,0,0,0,0,0,0,0,0,3,0,0,0,0,2,3,0,0] (.aK 0 (.aK 1 (.aK 2 (.aK 3 (.aK 4 (.aK 5 (.aK 6 (.aK 7 (.aK 8 (.aK 9 (.aK 10 (.tC 11 (.aK 12 (.aK 13 (.aK 14 (.aK 15 (.aK 16 (.aK 17 (.aK 18 (.aK 19 .nil)))))))) 16 (.aK 11 (.aK 12 (.aK 13 (.aK 14 (.aK 15 (.aK 17 (.aK 18 (.aK 19 .nil)))))))))))))))))))) (by decide +kernel) λK hK=>?_|(show c8 _ _ _ _ _ _;refine nx ?_)|(refine wc rfl (λhc=>?_) (λhc=>?_)<;>(try simp at hc)<;>(try omega))|(refine ib (λhc=>?_) (λhc=>?_)<;>(try omega)<;>(try simp (disch:=omega) only [aA,aw])))
  refine⟨_,by first|rfl|(simp;rfl)|(simp [hq,AW.ab,aG];rfl),by first|rfl|(simp;done),?_⟩;apply bS
  (·exact sA)
  all_goals(first|exact pe|exact pj)
end
section
namespace TImageA
theorem mK [Gl] {A:AW} {L:List It} {T:Prop} (hS:ah A L) (hw:A.Wf) (h':(aV A L/\bq A L/\bQ L)=T:=by first|(dsimp only [aa,af,aV,bq,bQ,eQ];done)|exact rfl):T:=h'▸hS.eJ hw
end TImageA
open TImageA
variable [Gl]
theorem eG.eJ {A:AW} {pb:Nat} {M:Nat->List Int} {F:HP} (h:bB A (eG pb M*F)) :
 ∃(r:Nat) (sf:List (Value×Value)) (vs:Nat->Value),A.bp pb=some (.cells [.map (some r)] true 1)/\A.bp r=some (.map sf true)/\(∀k:Nat,k<8->∃q,eX (.int .i64) (.int .i64 ((k:Int)+1)) sf 0=some (some (q,vs k)))/\∀k:Nat,k<8->cd A .u64 (vs k) (M k):=by
 obtain⟨r,vs,hS⟩:=eG.open h;have VL:=hS.bp;obtain⟨sf,xR,vE,_⟩:=gG.eJ hS.right;refine⟨r,sf,vs,VL,xR,λk hk=>vE .i64 _ _ ?_,λk hk=>?_⟩;have:(1:Int)<=k+1/\(k:Int)+1<=8:=by omega
 simp only [xK,aA this];congr 2;omega;exact av.is (bB.pick (f:=λk=>av .u64 (vs k) (M k)) hS.right.right hk)
def PD (A:AW) (v:Value) (M:Nat->List Int):Prop:=
 ∃v0 v1 v5 v6 v7,v=.agg #[v0,v1,.int .u64 ((M 2).getD 0 0),.int .u64 ((M 3).getD 0 0),.int .u64 ((M 4).getD 0 0),v5,v6,v7]/\
  cd A .u64 v0 (M 0)/\cd A .u64 v1 (M 1)/\cd A .u64 v5 (M 5)/\cd A .u64 v6 (M 6)/\cd A .u64 v7 (M 7)
def Dd:List Value:=[.slice none 0 0,.slice none 0 0,.int .u64 0,.int .u64 0,.int .u64 0,.slice none 0 0,.slice none 0 0,.slice none 0 0]
end
section
abbrev uO:List (Nat×Nat):=[(0,0),(1,0),(2,0),(3,0),(4,0),(6,0),(7,0),(8,0),(9,0),(10,0),(12,0),(13,0),(14,0),(15,0),(16,0),(17,0),(18,0),(19,0),(20,0),(21,0),(22,0),(23,0),(24,0),(25,0),(26,0),(27,0),(28,0),(29,0),(30,0),(31,0),(32,0),(33,0),(34,0),(35,0),(36,0),(37,0),(39,0),(40,0),(41,0),(42,0),(43,0),(45,0),(46,0),(47,0),(48,0),(49,0),(5,2),(11,2),(38,2),(44,2),(50,2),(51,0),(52,3)]
open T7
variable [Gl]
theorem Nq (pb:Nat) (M:Nat->List Int) (A:AW) (F:HP) (h:bB A (eG pb M*F)) (bX:∀k,k<8->(M k).length<2^39) (h2:0<(M 2).length) (h3:0<(M 3).length) (h4:0<(M 4).length) :
 aD qa 42 [.pointer (some ⟨pb,0,none⟩)] A (λv A'=>∃o0 c0 o1 c1 o5 c5 o6 c6 o7 c7,v=.agg #[.slice o0 (M 0).length c0,.slice o1 (M 1).length c1,.int .u64 ((M 2).getD 0 0),.int .u64 ((M 3).getD 0 0),.int .u64 ((M 4).getD 0 0),.slice o5 (M 5).length c5,.slice o6 (M 6).length c6,.slice o7 (M 7).length c7]/\bB A' (av .u64 (.slice o0 (M 0).length c0) (M 0)*(av .u64 (.slice o1 (M 1).length c1) (M 1)*(av .u64 (.slice o5 (M 5).length c5) (M 5)*(av .u64 (.slice o6 (M 6).length c6) (M 6)*(av .u64 (.slice o7 (M 7).length c7) (M 7)*(eG pb M*F))))))/\A.le A'):=by
 refine aN Tryz.func42 λhw=>?_;obtain⟨r,sf,vs,VL,xR,vE,Xf⟩:=eG.eJ h;obtain⟨q0,f0⟩:=vE 0 (by omega);have f0:eX (.int .i64) (.int .i64 1) sf 0=some (some (q0,vs 0)):=f0;obtain⟨q1,f1⟩:=vE 1 (by omega);have f1:eX (.int .i64) (.int .i64 2) sf 0=some (some (q1,vs 1)):=f1;obtain⟨q2,f2⟩:=vE 2 (by omega);have f2:eX (.int .i64) (.int .i64 3) sf 0=some (some (q2,vs 2)):=f2;obtain⟨q3,f3⟩:=vE 3 (by omega);have f3:eX (.int .i64) (.int .i64 4) sf 0=some (some (q3,vs 3)):=f3;obtain⟨q4,f4⟩:=vE 4 (by omega);have f4:eX (.int .i64) (.int .i64 5) sf 0=some (some (q4,vs 4)):=f4;obtain⟨q5,f5⟩:=vE 5 (by omega);have f5:eX (.int .i64) (.int .i64 6) sf 0=some (some (q5,vs 5)):=f5;obtain⟨q6,f6⟩:=vE 6 (by omega);have f6:eX (.int .i64) (.int .i64 7) sf 0=some (some (q6,vs 6)):=f6;obtain⟨q7,f7⟩:=vE 7 (by omega);have f7:eX (.int .i64) (.int .i64 8) sf 0=some (some (q7,vs 7)):=f7;obtain⟨np,np'⟩:=hw.dT VL;obtain⟨nr,nr'⟩:=hw.dT xR
 have i2:=Xf 2 (by omega);have i3:=Xf 3 (by omega);have i4:=Xf 4 (by omega);obtain⟨o2,c2,e2,_⟩:=i2.cy;obtain⟨o3,c3,e3,_⟩:=i3.cy;obtain⟨o4,c4,e4,_⟩:=i4.cy;rw [e2] at i2 f2;rw [e3] at i3 f3;rw [e4] at i4 f4;obtain⟨p2,r2,w2,rfl,g2,d2⟩:=i2.atg h2;obtain⟨n2,n2'⟩:=hw.dT g2;obtain⟨p3,r3,w3,rfl,g3,d3⟩:=i3.atg h3;obtain⟨n3,n3'⟩:=hw.dT g3;obtain⟨p4,r4,w4,rfl,g4,d4⟩:=i4.atg h4;obtain⟨n4,n4'⟩:=hw.dT g4;simp only [Nat.add_zero] at d2 d3 d4
 repeat' (first|(refine kY λR hR=>?_;simp [ar,ax,VL,xR,AW.ab,np,np',nr,nr',f0,f1,f2,f3,f4,f5,f6,f7,g2,g3,g4,d2,d3,d4,n2,n3,n4,n2',n3',n4',h2,h3,h4];try simp (disch:=omega) only [aA,aw,ar,ax])|(refine hR _ _ ?_;clear hR R)|(refine hK _ _ ?_;clear hK K)|refine nx ?_|refine wn λK hK=>?_|simp only [wS,uO]|refine wl qj uO (by decide +kernel) λK hK=>?_|(show c8 _ _ _ _ _ _;refine nx ?_)|(refine wc rfl (λhc=>?_) (λhc=>?_)<;>(try simp at hc)<;>(try omega))|(refine ib (λhc=>?_) (λhc=>?_)<;>(try omega)<;>(try simp (disch:=omega) only [aA,aw])))
 have l00:A.le (A.alloc (.cells Dd true 1)):=qb A _;have S00:=h.alloc hw (.cells Dd true 1);have Lb:=hw.alloc (.cells Dd true 1);have hgz:(A.alloc (.cells Dd true 1)).bp A.next=some (.cells Dd true 1):=AW.bY _ _;refine bO (i7 (vs 0) (M 0) (A.alloc (.cells Dd true 1)) ((Xf 0 (by omega)).le l00 hw) (bX 0 (by omega))) ?_;rintro v0 B0 ⟨q0',m0⟩ w0' _;have S0:=av.iB S00 Lb m0 q0';obtain⟨ov0,cv0,rfl,_⟩:=q0'.is.cy;have l0':=l00.trans m0;have z0:=m0.mu Lb hgz;refine⟨m0,?_⟩;revert hw;(repeat first|clear hw|revert hc|revert R|revert K);refine W (J1 (od uO)) (J3 z0 bE @Dd.eq_1) ?_<;>(unhygienic intros);refine bO (i7 (vs 1) (M 1) _ ((Xf 1 (by omega)).le l0' hw) (bX 1 (by omega))) ?_;rintro v1 B1 ⟨q1',m1⟩ w1' _;have S1:=av.iB S0 w0' m1 q1';obtain⟨ov1,cv1,rfl,_⟩:=q1'.is.cy;have l1':=l0'.trans m1;have z1:=m1.mu w0' z0;refine⟨m1,?_⟩;revert hw;(repeat first|clear hw|revert hc|revert R|revert K);refine W (J1 (od uO)) (J3 z1 bE @Dd.eq_1) ?_<;>(unhygienic intros)
 refine bO (i7 (vs 5) (M 5) _ ((Xf 5 (by omega)).le l1' hw) (bX 5 (by omega))) ?_;rintro v5 B2 ⟨q5',m5⟩ w5' _;have S2:=av.iB S1 w1' m5 q5';obtain⟨ov5,cv5,rfl,_⟩:=q5'.is.cy;have l2':=l1'.trans m5;have z2:=m5.mu w1' z1;refine⟨m5,?_⟩;revert hw;(repeat first|clear hw|revert hc|revert R|revert K);refine W (J1 (od uO)) (J3 z2 bE @Dd.eq_1) ?_<;>(unhygienic intros);refine bO (i7 (vs 6) (M 6) _ ((Xf 6 (by omega)).le l2' hw) (bX 6 (by omega))) ?_;rintro v6 B3 ⟨q6',m6⟩ w6' _;have S3:=av.iB S2 w5' m6 q6';obtain⟨ov6,cv6,rfl,_⟩:=q6'.is.cy;have l3':=l2'.trans m6;have z3:=m6.mu w5' z2;refine⟨m6,?_⟩;revert hw;(repeat first|clear hw|revert hc|revert R|revert K);refine W (J1 (od uO)) (J3 z3 bE @Dd.eq_1) ?_<;>(unhygienic intros);refine bO (i7 (vs 7) (M 7) _ ((Xf 7 (by omega)).le l3' hw) (bX 7 (by omega))) ?_;rintro v7 B4 ⟨q7',m7⟩ w7' _;have S4:=av.iB S3 w6' m7 q7';obtain⟨ov7,cv7,rfl,_⟩:=q7'.is.cy;have l4':=l3'.trans m7
 have z4:=m7.mu w6' z3;refine⟨m7,?_⟩;refine W (J1 (od uO)) (J3 z4 bE @Dd.eq_1) ?_<;>intros;have gd:∀(l:List Int) (h:0<l.length),l[0]=l.getD 0 0:=λl hl=>by
  rw [List.getD_eq_getElem?_getD,qk hl];rfl
 have S5:bB B4 (pt A.next (.cells Dd true 1)*(av .u64 (.slice ov0 (M 0).length cv0) (M 0)*(av .u64 (.slice ov1 (M 1).length cv1) (M 1)*(av .u64 (.slice ov5 (M 5).length cv5) (M 5)*(av .u64 (.slice ov6 (M 6).length cv6) (M 6)*(av .u64 (.slice ov7 (M 7).length cv7) (M 7)*(eG pb M*F))))))):=S4.dZ (by ac_rfl);refine⟨_,by first|(simp [AW.df,AW.ab];done)|(simp [AW.df,AW.ab];rfl),ov0,cv0,ov1,cv1,ov5,cv5,ov6,cv6,ov7,cv7,?_,(S5.set _).right,l4'.set (qf _) _⟩;rw [gd _ h2,gd _ h3,gd _ h4]
structure ImgF where
 v0:Option Addr×Nat
 v1:Option Addr×Nat
 v5:Option Addr×Nat
 v6:Option Addr×Nat
 v7:Option Addr×Nat
def jT (x:Option Addr×Nat) (l:List Int):Value:=.slice x.1 l.length x.2
def vA (M:Mm) (f:ImgF):HP:=av .u64 (jT f.v0 (M 0)) (M 0)*(av .u64 (jT f.v1 (M 1)) (M 1)*(av .u64 (jT f.v5 (M 5)) (M 5)*(av .u64 (jT f.v6 (M 6)) (M 6)*av .u64 (jT f.v7 (M 7)) (M 7))))
theorem Np (pb:Nat) (M:Mm) (bX:∀k,k<8->(M k).length<2^39) (h2:0<(M 2).length) (h3:0<(M 3).length) (h4:0<(M 4).length) {A:AW} {L K:List It} {k:Value->AW->Prop} (hw:A.Wf) (hS:ah A L) (hp:aE L (dN pb M) K)
 (hk:∀f A',ah A' (.h (vA M f)::L)->A'.Wf->A.le A'->k (.agg #[jT f.v0 (M 0),jT f.v1 (M 1),.int .u64 ((M 2).getD 0 0),.int .u64 ((M 3).getD 0 0),.int .u64 ((M 4).getD 0 0),jT f.v5 (M 5),jT f.v6 (M 6),jT f.v7 (M 7)]) A') :
 aD qa 42 [pv pb] A k:=by
 have h:bB A (eG pb M*aM K):=by
  unfold ah at hS;rw [hp.aM] at hS;exact hS
 refine bO (Nq pb M A (aM K) h bX h2 h3 h4) ?_;rintro v A' ⟨o0,c0,o1,c1,o5,c5,o6,c6,o7,c7,rfl,h1,fO⟩ kI _;refine hk ⟨(o0,c0),(o1,c1),(o5,c5),(o6,c6),(o7,c7)⟩ A' ?_ kI fO;unfold ah;refine bB.dZ h1 ?_;show _=vA M _*aM L;rw [hp.aM];show _=(av .u64 (.slice o0 (M 0).length c0) (M 0)*(av .u64 (.slice o1 (M 1).length c1) (M 1)*(av .u64 (.slice o5 (M 5).length c5) (M 5)*(av .u64 (.slice o6 (M 6).length c6) (M 6)*av .u64 (.slice o7 (M 7).length c7) (M 7)))))*(eG pb M*aM K)
 ac_rfl
theorem uK {A:AW} {k:IntKind} {v:Value} {l:List Int} {R Q:HP} (h:bB A R) (e:R=av k v l*Q):cd A k v l:=av.is (h.dZ e)
theorem vA.is {A:AW} {L K:List It} {M:Mm} {f:ImgF} (hS:ah A L) (hp:aE L (.h (vA M f)) K):PD A (.agg #[jT f.v0 (M 0),jT f.v1 (M 1),.int .u64 ((M 2).getD 0 0),.int .u64 ((M 3).getD 0 0),.int .u64 ((M 4).getD 0 0),jT f.v5 (M 5),jT f.v6 (M 6),jT f.v7 (M 7)]) M:=by
 unfold ah at hS;rw [hp.aM] at hS;have hr:bB A (vA M f*aM K):=hS;unfold vA at hr;refine⟨_,_,_,_,_,rfl,?_,?_,?_,?_,?_⟩;exact uK hr (Q:=av .u64 (jT f.v1 (M 1)) (M 1)*(av .u64 (jT f.v5 (M 5)) (M 5)*(av .u64 (jT f.v6 (M 6)) (M 6)*av .u64 (jT f.v7 (M 7)) (M 7)))*aM K) (by ac_rfl);exact uK hr (Q:=av .u64 (jT f.v0 (M 0)) (M 0)*(av .u64 (jT f.v5 (M 5)) (M 5)*(av .u64 (jT f.v6 (M 6)) (M 6)*av .u64 (jT f.v7 (M 7)) (M 7)))*aM K) (by ac_rfl);exact uK hr (Q:=av .u64 (jT f.v1 (M 1)) (M 1)*(av .u64 (jT f.v0 (M 0)) (M 0)*(av .u64 (jT f.v6 (M 6)) (M 6)*av .u64 (jT f.v7 (M 7)) (M 7)))*aM K) (by ac_rfl);exact uK hr (Q:=av .u64 (jT f.v1 (M 1)) (M 1)*(av .u64 (jT f.v5 (M 5)) (M 5)*(av .u64 (jT f.v0 (M 0)) (M 0)*av .u64 (jT f.v7 (M 7)) (M 7)))*aM K) (by ac_rfl);exact uK hr (Q:=av .u64 (jT f.v1 (M 1)) (M 1)*(av .u64 (jT f.v5 (M 5)) (M 5)*(av .u64 (jT f.v6 (M 6)) (M 6)*av .u64 (jT f.v0 (M 0)) (M 0)))*aM K) (by ac_rfl)
end
section
open T7
variable [Gl]
theorem Ja (v:Value) (n:Nat) (cs:List Value) (A:AW) (h:fW A 9 v n cs) (h1:cs.all qL=true) (hl:n<2^30) :
 aD qa 43 [v] A (λu A'=>dS A.next A' 9 u n cs/\A.le A'/\A'.Wf):=by
 refine aN Tryz.func43 λhw=>?_;have hv:(∃c,v=.slice none n c)\/∃q c,v=.slice (some q) n c:=by
  rcases h with ⟨⟨o,rfl⟩,rfl,rfl⟩|⟨p,c,b8,own,u,rfl,_⟩
  . cases o with
    | none=>exact .inl ⟨_,rfl⟩
    | some q=>exact .inr ⟨_,_,rfl⟩
  exact .inr ⟨_,_,rfl⟩
 rcases hv with ⟨c,rfl⟩|⟨q,c,rfl⟩;obtain⟨rfl,rfl,rfl⟩:n=0/\c=0/\cs=[]:=by
  rcases h with ⟨⟨o,h0⟩,h2,h3⟩|⟨p,c',b8,own,u,h0,_⟩;injection h0 with h4 h5 h6;exact⟨h2,h6,h3⟩;cases h0
 revert hw;refine W cF cF ?_<;>(unhygienic intros);exact⟨_,rfl,.inl ⟨rfl,rfl,rfl⟩,AW.le.refl A,hw⟩;have h2:=fW.le (qb A (.cells [] true 9)) hw h;have jy:dS A.next (A.alloc (.cells [] true 9)) 9 (.slice (some ⟨A.next,0,none⟩) 0 0) 0 []:=.inr ⟨⟨A.next,0,none⟩,0,[],rfl,qf _,rfl,qf _,by simp,by simp,by simp⟩;obtain⟨v',A',e1,e2,e3,e4,e5,e6,e7⟩:=ke (P:=qa) (size:=9) (t:=39) Tryz.underlying39 Tryz.info62 Tryz.zero62 rfl rfl (by omega) jy (fW.nM h2) h1 (by omega) (by simp;omega) (by simp) (hw.alloc _);refine W cF (J1 e1) ?_<;>intros;refine⟨_,rfl,?_,?_,e4⟩
 simpa using e2
 exact e3 A (qf _) (qb A _)
theorem UZ (l:List eF):(H4 l).all qL=true:=by
 rw [List.all_eq_true];intro v hv;obtain⟨x,_,hx⟩:=List.mem_flatMap.1 hv;simp only [eF.cells,List.mem_cons,List.not_mem_nil,or_false] at hx;rcases hx with rfl|rfl|rfl|rfl|rfl|rfl|rfl|rfl|rfl<;>rfl
theorem H3 {A:AW} {L K:List It} {k:Value->AW->Prop} {v:Value} {l:List eF} (hl:l.length<2^30) (hw:A.Wf) (hS:ah A L) (hp:aE L (.h (mQ v l)) K)
 (hk:∀o c A',ah A' (.h (mQ (.slice o l.length c) l)::L)->A'.Wf->A.le A'->k (.slice o l.length c) A'):aD qa 43 [v] A k:=by
 refine bO (Ja v _ _ A (ah.lm hS hp) (UZ l) hl) ?_;rintro u A' ⟨h1,h2,h3⟩ _ _;obtain⟨o,c,rfl,_⟩:=h1.is.cy;exact hk o c A' (dv.iB hS hw h2 h1) h3 h2
theorem Kb (b:Nat) (d:vO) (w:Up) {A:AW} {L K:List It} {k:Value->AW->Prop} (hw:A.Wf) (hS:ah A L) (hp:aE L (.at b (tD d w)) K) (hk:∀(u:Nat) A',ah A' L->A'.Wf->A.le A'->k (XX d) A'):aD qa 44 [pv b] A k:=by
 have hg:A.bp b=some (tD d w):=by
  unfold ah at hS;rw [hp.aM] at hS;exact bB.bp hS
 have hb:b<A.next:=hw.lt hg;have gT:(b=A.next)=False:=by simp;omega
 refine aN Tryz.func44 λ_=>?_
 repeat' (first|(refine kY λR hR=>?_;simp [ar,ax,hg,gT,AW.ab,aG];try simp (disch:=omega) only [aA,aw,ar,ax])|(refine hR _ _ ?_;clear hR R)|(refine hK _ _ ?_;clear hK K)|refine nx ?_|refine wn λK hK=>?_|simp only [wS]|(show c8 _ _ _ _ _ _;refine nx ?_)|(refine wc rfl (λhc=>?_) (λhc=>?_)<;>(try simp at hc)<;>(try omega))|(refine ib (λhc=>?_) (λhc=>?_)<;>(try omega)<;>(try simp (disch:=omega) only [aA,aw])))
 refine⟨XX d,by first|(simp [XX,R8.cells];done)|(simp [XX,R8.cells,hg,gT,AW.ab];done)|(simp [XX,R8.cells,hg,gT,AW.ab];rfl),?_⟩;refine hk 0 _ ?_ ?_ ?_;exact(bB.set (bB.alloc hS hw _) _).right;exact(hw.alloc _).set _ (by simp);exact AW.le.lP A _ _
def vO.stC (d:vO):List Value:=[.int .i64 d.pc,.int .u64 d.dE.r0,.int .u64 d.dE.r1,.int .u64 d.dE.r2,.int .u64 d.dE.r3,.int .u64 d.dE.r4,.int .u64 d.dE.r5,.int .u64 d.dE.r6,.int .u64 d.dE.r7,.int .i64 d.kR,.bool d.done]
def Ms (l:List vO):List Value:=l.flatMap vO.stC
def xU (v:Value) (l:List vO):HP:=dv 11 v l.length (Ms l)
def gB (q:List (Value×List j7)):HP:=q.foldr (λy P=>iU y.1 y.2*P) eZ
theorem CA (q r:List (Value×List j7)):gB (q++r)=gB q*gB r:=by
 induction q with
 | nil=>show gB r=eZ*gB r;rw [iD]
 | cons y q ih=>
   show iU y.1 y.2*gB (q++r)=(iU y.1 y.2*gB q)*gB r;rw [ih]
   ac_rfl
def MY (v:Value) (q:List (Value×List j7)):List It:=[.h (dv 1 v q.length (q.map qB)),.h (gB q)]
def mR (v:Value) (l:List (List j7)):HP:=rO λx:{ q:List (Value×List j7) // q.map Zm=l }=>aM (MY v x.1)
section
variable {A:AW} {L K:List It} {v:Value}
theorem mR.open {l:List (List j7)} (h:ah A L) (hp:aE L (.h (mR v l)) K):∃q,q.map Zm=l/\ah A (MY v q++K):=by
 obtain⟨⟨q,hq⟩,h⟩:=jV h hp;exact⟨q,hq,h⟩
theorem mR.dP {l:List (List j7)} {q:List (Value×List j7)} (hq:q.map Zm=l) (h:ah A L) (e:aX L (MY v q) K):ah A (.h (mR v l)::K):=iM (g:=λx:{ q:List (Value×List j7) // q.map Zm=l }=>MY v x.1) ⟨q,hq⟩ h e
theorem ah.Yh (h:ah A L):ah A (.h (xU (.slice none 0 0) [])::L):=dv.nil h
theorem ah.Yj (h:ah A L):ah A (.h (mR (.slice none 0 0) [])::L):=by
 have h1:ah A (.h eZ::L):=ah.mw h;have h2:ah A (.h (dv 1 (.slice none 0 0) 0 [])::.h eZ::L):=dv.nil h1;exact mR.dP (q:=[]) rfl h2 (.s .z (.s .z .z))
end
section
variable {S:AW->Prop} {K:Fr->AW->Prop} {fv:List zQ} {a:Fr} {A:AW} {d:Option Tmp} {x y:Operand} {n:Nat} {v:Value} {L K':List It}
theorem WX {l:List vO} {t:vO} (e1:iW a x=v) (e2:iW a y=.slice (some ⟨n,0,none⟩) 1 1) (hw:A.Wf) (hS:ah A L) (hp:aE L (.h (xU v l)) K') (hn:A.bp n=some (.cells [.int .i64 t.pc,.int .u64 t.dE.r0,.int .u64 t.dE.r1,.int .u64 t.dE.r2,.int .u64 t.dE.r3,.int .u64 t.dE.r4,.int .u64 t.dE.r5,.int .u64 t.dE.r6,.int .u64 t.dE.r7,.int .i64 t.kR,.bool t.done] true 11)) (bX:l.length<2 ^ 30)
 (hs:∀A',ah A' K'->S A')
 (hk:∀o c A',ah A' (.h (xU (.slice o (l.length+1) c) (l++[t]))::K')->A'.Wf->A.next<=A'.next->aY qa S K fv (eK a d (.slice o (l.length+1) c)) A') :
 aY qa S K (⟨d,.call ⟨.builtin .append,#[x,y],#[38,38]⟩,none,3⟩::fv) a A:=by
 refine CC (P:=qa) (size:=11) (m:=l.length) (cs:=Ms l) Tryz.underlying38 Tryz.info78 Tryz.zero78 rfl rfl (by omega) (by decide) e1 e2 hw hS hp hn rfl rfl bX hs λo c A' h1 h2 h3=>hk o c A' ?_ h2 h3;have e:xU (.slice o (l.length+1) c) (l++[t])=dv 11 (.slice o (l.length+1) c) (l.length+1) (Ms l++t.stC):=by
  unfold xU;rw [qm,show Ms (l++[t])=Ms l++t.stC by simp [Ms]];rfl
 rw [e];exact h1
theorem Yq {l:List (List j7)} {os:List j7} {u:Value} {K1 K2:List It} (e1:iW a x=v) (e2:iW a y=.slice (some ⟨n,0,none⟩) 1 1) (hw:A.Wf) (hS:ah A L) (hp:aE L (.h (mR v l)) K1) (GJ:aE K1 (.h (iU u os)) K2)
 (hn:A.bp n=some (.cells [u] true 1)) (bX:l.length<2 ^ 30) (hs:∀A',ah A' K2->S A')
 (hk:∀o c A',ah A' (.h (mR (.slice o (l.length+1) c) (l++[os]))::K2)->A'.Wf->A.next<=A'.next->aY qa S K fv (eK a d (.slice o (l.length+1) c)) A') :
 aY qa S K (⟨d,.call ⟨.builtin .append,#[x,y],#[41,41]⟩,none,3⟩::fv) a A:=by
 obtain⟨q,hq,h1⟩:=mR.open hS hp;have hl:q.length=l.length:=by rw [<-hq,qD]
 dsimp only [MY,aa,af] at h1;have bS:∀o c A',ah A' (.h (dv 1 (.slice o (l.length+1) c) (q.length+1) (q.map qB++[u]))::.h (gB q)::K1)->ah A' (.h (mR (.slice o (l.length+1) c) (l++[os]))::K2):=λo c A' h=>by
  have h2:ah A' (.h (dv 1 (.slice o (l.length+1) c) (q++[(u,os)]).length ((q++[(u,os)]).map qB))::.h (gB (q++[(u,os)]))::K2):=by
   have e6:gB (q++[(u,os)])=gB q*iU u os:=by
    rw [CA];show _*(iU u os*eZ)=_;rw [dO]
   rw [e6,qm,Zr];refine bB.dZ h ?_;show dv 1 _ _ _*(gB q*aM K1)=dv 1 _ _ _*((gB q*iU u os)*aM K2);rw [GJ.aM];show dv 1 (.slice o (l.length+1) c) (q.length+1) _*(gB q*(iU u os*aM K2))=_
   ac_rfl
  exact mR.dP (q:=q++[(u,os)]) (by rw [Zr,hq];rfl) h2 (.s .z (.s .z .z))
 rw [<-hl] at hk bS;have mP:([u]:List Value).all qL=true:=by
  obtain⟨o1,c1,e1,_⟩:=fW.cy (ah.lm h1 (.s (.s GJ)));rw [e1];rfl
 refine CC (P:=qa) (size:=1) (m:=q.length) (cs:=q.map qB) Tryz.underlying41 Tryz.info117 Tryz.zero117 rfl rfl (by omega) (by decide) e1 e2 hw h1 .z hn rfl mP (by omega) (λA' h=>hs A' ?_) λo c A' h1 h2 h3=>hk o c A' (bS o c A' h1) h2 h3;have h3:ah A' K1:=h.tail;unfold ah at h3;rw [GJ.aM] at h3;exact bB.right h3
theorem lwObl {l:List (List j7)} {os:List j7} {u:Value} {K2:List It} (e1:iW a x=v) (e2:iW a y=.slice (some ⟨n,0,none⟩) 1 1) (hw:A.Wf) (hS:ah A L) (hp:aX L [.h (mR v l),.h (iU u os)] K2)
 (hn:A.bp n=some (.cells [u] true 1)) (bX:l.length<2 ^ 30) (hs:∀A',ah A' K2->S A')
 (hk:∀o c A',ah A' (.h (mR (.slice o (l.length+1) c) (l++[os]))::K2)->A'.Wf->A.next<=A'.next->aY qa S K fv (eK a d (.slice o (l.length+1) c)) A') :
 aY qa S K (⟨d,.call ⟨.builtin .append,#[x,y],#[41,41]⟩,none,3⟩::fv) a A:=by
 have h1:ah A (.h (mR v l)::.h (iU u os)::K2):=by
  unfold ah at hS ⊢;rw [hp.aM] at hS;refine bB.dZ hS ?_;show (mR v l*(iU u os*eZ))*aM K2=mR v l*(iU u os*aM K2);rw [dO]
  ac_rfl
 exact Yq e1 e2 hw h1 .z .z hn bX hs hk
end
theorem NT {q:List Bq} {i:Nat} (hi:i<q.length):∃R:HP,ez q=B6 q[i]*R:=by
 refine⟨ez (q.take i)*ez (q.drop (i+1)),?_⟩;have e:q=q.take i++(q[i]::q.drop (i+1)):=by rw [<-List.drop_eq_getElem_cons hi,List.take_append_drop]
 have h:=congrArg ez e;rw [CN] at h;rw [h];show ez (q.take i)*(B6 q[i]*ez (q.drop (i+1)))=_
 ac_rfl
theorem I1 {A:AW} {L K:List It} {q:List Bq} {i:Nat} (hi:i<q.length) (hS:ah A L) (hp:aE L (.h (ez q)) K):cd A .i64 q[i].2.1 q[i].1.reads/\cd A .i64 q[i].2.2 q[i].1.bP:=by
 obtain⟨R,e⟩:=NT hi;unfold ah at hS;rw [hp.aM] at hS;have h2:bB A (ez q*aM K):=hS;rw [e] at h2;unfold B6 at h2;exact⟨uK h2 (Q:=av .i64 q[i].2.2 q[i].1.bP*R*aM K) (by ac_rfl),uK h2 (Q:=av .i64 q[i].2.1 q[i].1.reads*R*aM K) (by ac_rfl)⟩
theorem V5 {q:List Bq} {i:Nat} {e:FO} {r w:Value} (hi:i<q.length) (hx:q[i]=(e,r,w)) (hl:e.reads.length<2^38) {A:AW} {L K:List It} {k:Value->AW->Prop} (hw:A.Wf) (hS:ah A L) (hp:aE L (.h (ez q)) K)
 (hk:∀o c A',ah A' (.h (av .i64 (.slice o e.reads.length c) e.reads)::L)->A'.Wf->A.le A'->k (.slice o e.reads.length c) A'):aD qa 46 [r] A k:=by
 have h:=(I1 hi hS hp).1;rw [hx] at h;refine bO (jH r e.reads A h (by omega)) ?_;rintro u A' ⟨h1,h2⟩ kI _;obtain⟨o,c,rfl,_⟩:=h1.is.cy;exact hk o c A' (av.iB hS hw h2 h1) kI h2
theorem V4 {q:List Bq} {i:Nat} {e:FO} {r w:Value} (hi:i<q.length) (hx:q[i]=(e,r,w)) (hl:e.bP.length<2^38) {A:AW} {L K:List It} {k:Value->AW->Prop} (hw:A.Wf) (hS:ah A L) (hp:aE L (.h (ez q)) K)
 (hk:∀o c A',ah A' (.h (av .i64 (.slice o e.bP.length c) e.bP)::L)->A'.Wf->A.le A'->k (.slice o e.bP.length c) A'):aD qa 46 [w] A k:=by
 have h:=(I1 hi hS hp).2;rw [hx] at h;refine bO (jH w e.bP A h (by omega)) ?_;rintro u A' ⟨h1,h2⟩ kI _;obtain⟨o,c,rfl,_⟩:=h1.is.cy;exact hk o c A' (av.iB hS hw h2 h1) kI h2
theorem LG (q:List Bq) {i:Nat} (hi:i<q.length):((gz q).drop (i*6)).take 6=zt q[i].1 q[i].2.1 q[i].2.2:=uF _ 6 (λ_=>rfl) q i hi
structure WE where
 f:ImgF
 t:Option Addr×Nat
 s:Option Addr×Nat
 e:Option Addr×Nat
 o:Option Addr×Nat
def Gm (m:sr) (z:WE):List Value:=[jT z.f.v0 (m.M 0),jT z.f.v1 (m.M 1),.int .u64 ((m.M 2).getD 0 0),.int .u64 ((m.M 3).getD 0 0),.int .u64 ((m.M 4).getD 0 0),jT z.f.v5 (m.M 5),jT z.f.v6 (m.M 6),jT z.f.v7 (m.M 7),.slice z.t.1 m.fN.length z.t.2,.slice z.s.1 m.cJ.length z.s.2,.slice z.e.1 m.sU.length z.e.2,.slice z.o.1 m.fN.length z.o.2]
def P5 (m:sr) (z:WE):List It:=[.h (vA m.M z.f),.h (xU (.slice z.t.1 m.fN.length z.t.2) (m.fN.map aT.d)),.h (mQ (.slice z.s.1 m.cJ.length z.s.2) m.cJ),.h (fX (.slice z.e.1 m.sU.length z.e.2) m.sU),.h (mR (.slice z.o.1 m.fN.length z.o.2) (m.fN.map aT.gH))]
end
end Go.Stx
