/-
 The program's machine: made anew.
-/
import Derived.Test.YtipomeafemoelaaGreatDoorG15
set_option linter.unusedVariables false
set_option linter.unusedSimpArgs false
set_option linter.unusedSectionVars false
set_option maxRecDepth 20000
set_option maxHeartbeats 4000000
namespace Go.Stx
open Go Go.Proofs
attribute [local irreducible] TW bA cM aS ax aH cJ de
section
open T2
variable [Gl]
theorem xO:∀{l:List (List aZ)} {t:Nat},kB l t=none->∀i (hi:i<l.length),(cD l[i]).2=0
 | [],t,_,i,hi=>by simp at hi
 | p::l,t,h,i,hi=>by
   unfold kB at h;split at h
   . rename_i h0;cases i with
     | zero=>exact h0
     | succ i=>exact xO h i (by simpa using hi)
   cases h
theorem xN:∀{l:List (List aZ)} {t:Nat} {r:Nat×Nat×Int},kB l t=some r->r.2.2≠0
 | [],t,r,h=>by cases h
 | p::l,t,r,h=>by
   unfold kB at h;split at h;exact xN h;rename_i h0;injection h with h;subst h;exact h0
theorem zu {c:bq} {ni:Nat} {ps:List (List aZ)} {pk:List Int} (h:(iZ c ni ps pk).2.2=0) :
 iZ c ni ps pk=(0,0,0)/\j4 c=0/\1<=ps.length/\ps.length<=16/\(ni:Int)=c.ba/\∀i (hi:i<ps.length),(cD ps[i]).2=0:=by
 unfold iZ at h ⊢;by_cases h1:j4 c≠0;rw [if_pos h1] at h;exact absurd h h1;rw [if_neg h1] at h ⊢;by_cases h2:ps.length<1\/16<ps.length;rw [if_pos h2] at h;cases h;rw [if_neg h2] at h ⊢;by_cases h3:¬(ni:Int)=c.ba;rw [if_pos h3] at h;cases h;rw [if_neg h3] at h ⊢;cases h4:kB ps 0 with
 | some r=>rw [h4] at h;exact absurd h (xN h4)
 | none=>
   rw [h4] at h;simp only at h ⊢;by_cases h5:65536<pk.length;rw [if_pos h5] at h;cases h;rw [if_neg h5] at h ⊢;cases h6:rj ps.length pk 0 with
   | some k=>rw [h6] at h;cases h
   | none=>exact⟨rfl,by simpa using h1,by omega,by omega,by simpa using h3,xO h4⟩
section
variable {S:AW->Prop} {K:Fr->AW->Prop} {fu:List xu} {a:Fr} {A:AW} {d:Option Tmp} {x y:Operand} {n:Nat} {v:Value} {L K':List It}
theorem Uj {l:List Nat} {q:Nat} (e1:ia a x=v) (e2:ia a y=.slice (some ⟨n,0,none⟩) 1 1) (hw:A.Wf) (hS:ah A L) (hp:ay L (.h (mh v l)) K') (hn:A.bg n=some (.cells [pv q] true 1)) (bG:l.length<2 ^ 30)
 (hs:∀A',ah A' K'->S A')
 (hk:∀o c A',ah A' (.h (mh (.slice o (l.length+1) c) (l++[q]))::K')->A'.Wf->A.next<=A'.next->aS Tryz.prog S K fu (eA a d (.slice o (l.length+1) c)) A') :
 aS Tryz.prog S K (⟨d,.call ⟨.builtin .append,#[x,y],#[104,104]⟩,none,3⟩::fu) a A:=by
 refine ye (P:=Tryz.prog) (size:=1) (m:=l.length) (cs:=l.map pv) Tryz.underlying104 Tryz.info109 Tryz.zero109 rfl rfl (by omega) (by decide) e1 e2 hw hS hp hn rfl rfl bG hs λo c A' h1 h2 h3=>hk o c A' ?_ h2 h3;have e:mh (.slice o (l.length+1) c) (l++[q])=cY 1 (.slice o (l.length+1) c) (l.length+1) (l.map pv++[pv q]):=by
  unfold mh;rw [List.length_append,List.map_append];rfl
 rw [e];exact h1
end
theorem Vw (hF:FOK) {c:bq} (hc:db c) (id n:Int) (QH:0<=id/\id<n/\n<=16) (v:Value) (p:List aZ) (hp:(cD p).2=0) {A:AW} (h:jS A v p) {L:List It} {k:Value->AW->Prop} (hw:A.Wf) (hS:ah A L)
 (hk:∀b A',ah A' (.h (rF b (qa c id n p))::L)->A'.Wf->A.le A'->k (.tuple #[pv b,.int .i64 0]) A'):ax Tryz.prog 40 [c.v,.int .i64 id,.int .i64 n,v] A k:=ID hF hc id n QH v p hp hw hS h hk
theorem ah.Vr {A:AW} {L:List It} (h:ah A L):ah A (.h (mw (.slice none 0 0) [])::L):=cY.nil h
theorem ah.Vv {A:AW} {L:List It} (h:ah A L):ah A (.h (fB (.slice none 0 0) [])::L):=fB.nil h
def vZ (c:bq) (zs:List Int) (ps:List (List aZ)):r9:=⟨ps.mapIdx λi p=>qa c i ps.length p,zl c ps.length zs,[],[]⟩
theorem NO (hF:FOK) {c:bq} (GR:qZ c) (vi vp vk:Value) (zs:List Int) (ps:List (List aZ)) (pk:List Int) (A:AW) (RY:bx A .u64 vi zs) (hp:gs A vp ps) (hk:bx A .i64 vk pk) (he:(iZ c zs.length ps pk).2.2=0) :
 ax Tryz.prog 22 [HK c vi vp vk] A (λu A'=>∃b,u=.tuple #[pv b,.int .i64 0,.int .i64 0,.int .i64 0]/\ah A' [.h (D2 b (vZ c zs ps)),.h (ma A.bg)]):=by
 refine aF Tryz.func22 λhw=>?_;obtain⟨hr,hce,C0,zP,OT,ln⟩:=zu he;obtain⟨oi,ci,rfl,_⟩:=RY.bE;have cS:=λO=>Id hF c (.slice oi zs.length ci) vp vk zs.length ci oi ps pk (A.alloc O) rfl (hp.le (AW.le.alloc A O) hw) (hk.le (AW.le.alloc A O) hw);rw [hr] at cS;obtain⟨op,cp,rfl,_⟩:=hp.bE;obtain⟨ok,ck,rfl,_⟩:=hk.bE;have Wo:=GR.ok;have hS:ah A [.h (ma A.bg)]:=by
  show bk A (ma A.bg*eC);rw [du];exact⟨A.bg,rfl,λi o h=>h⟩
 have zO:c.ao=((c.ao.toNat:Nat):Int):=by have:=Wo.ao;omega
 have AI:=zM GR;have eM:(λk=>if k=0 then zs++List.replicate (rP c.c0 c.c1).length 0 else if k=1 then List.replicate c.ao.toNat 0 else if k=5 then List.replicate ps.length 0 else if k=6 then rn c.c0 c.c1 else if k=7 then rP c.c0 c.c1 else [0])=zl c ps.length zs:=by
  unfold zl;rw [<-AI,Int.toNat_natCast]
 have hNT:=fun(i:Nat) (hi:i<ps.length)=>ID hF Wo (i:Int) (ps.length:Int) (by omega);obtain⟨lf,fi,kH,c0,c1,c2,c3,jB,kw,kI,kD,jk,lx⟩:=c;have cN:=λB (F:HP) hw hS=>ES ps.length (rP c0 c1).length fi.toNat (.slice oi zs.length ci) zs lf fi kH c0 c1 c2 c3 jB kw kI kD jk lx GR B F (ma A.bg) (λB F h=>dM.keeps (ff.KD h) RY) hw hS C0 zP OT zO rfl;unfold HK jv bq.cells rV at cS;unfold HK jv bq.cells;dsimp only [bq.v,bq.cells] at cN hNT;simp only [aa,ag] at cS ⊢;revert hS hw;refine W (J1 @cS) (J1 bz) ?_<;>(unhygienic intros);refine bD (cN _ (aE [.at A.next (.cells [.int .i64 lf,.int .i64 fi,.int .i64 kH,.int .i64 c0,.int .i64 c1,.int .i64 c2,.int .i64 c3,.int .i64 jB,.int .i64 kw,.int .i64 kI,.int .i64 kD,.int .i64 jk,.bool lx,.slice oi zs.length ci,.slice op ps.length cp,.slice ok pk.length ck] true 1),.at (A.next+1) (.cells [.pointer none,.slice none 0 0,.slice none 0 0,.slice none 0 0] true 1)]) ?_ ?_) ?_
 exact wA;show ah _ [.h (ma A.bg),.at A.next (.cells [.int .i64 lf,.int .i64 fi,.int .i64 kH,.int .i64 c0,.int .i64 c1,.int .i64 c2,.int .i64 c3,.int .i64 jB,.int .i64 kw,.int .i64 kI,.int .i64 kD,.int .i64 jk,.bool lx,.slice oi zs.length ci,.slice op ps.length cp,.slice ok pk.length ck] true 1),.at (A.next+1) (.cells [.pointer none,.slice none 0 0,.slice none 0 0,.slice none 0 0] true 1)];apply ah.bO
 (·exact sA)
 (·first|exact nM|exact nZ)
 rintro _ A2 ⟨pb,rfl,kL⟩ jR _;rw [eM] at kL;clear hS hw;have hS:ah A2 [dG pb (zl ⟨lf,fi,kH,c0,c1,c2,c3,jB,kw,kI,kD,jk,lx⟩ ps.length zs),.h (ma A.bg),.at A.next (.cells [.int .i64 lf,.int .i64 fi,.int .i64 kH,.int .i64 c0,.int .i64 c1,.int .i64 c2,.int .i64 c3,.int .i64 jB,.int .i64 kw,.int .i64 kI,.int .i64 kD,.int .i64 jk,.bool lx,.slice oi zs.length ci,.slice op ps.length cp,.slice ok pk.length ck] true 1),.at (A.next+1) (.cells [.pointer none,.slice none 0 0,.slice none 0 0,.slice none 0 0] true 1)]:=kL;have hw:=jR;clear kL jR;have hq:=fk hS hw;revert hq hS hw;(repeat first|clear hq|clear hS|clear hw|revert hc|revert R|revert K);refine W cd (J1 bz) ?_<;>(unhygienic intros);generalize hM0:zl ⟨lf,fi,kH,c0,c1,c2,c3,jB,kw,kI,kD,jk,lx⟩ ps.length zs=M0 at hS
 refine cW (λk fr A'=>A'.Wf/\∃(i:Nat) (vt:Value) (q:List (Nat×aU)),k=ps.length-i/\i<=ps.length/\q.map Prod.snd=(ps.take i).mapIdx (λj p=>qa ⟨lf,fi,kH,c0,c1,c2,c3,jB,kw,kI,kD,jk,lx⟩ j ps.length p)/\fr 1=pv A.next/\fr 2=pv (A.next+1)/\fr 38=.slice op ps.length cp/\fr 39=.int .i64 ps.length/\fr 40=.int .i64 i/\
  ah A' [dG pb M0,.h (ma A.bg),.at A.next (.cells [.int .i64 lf,.int .i64 fi,.int .i64 kH,.int .i64 c0,.int .i64 c1,.int .i64 c2,.int .i64 c3,.int .i64 jB,.int .i64 kw,.int .i64 kI,.int .i64 kD,.int .i64 jk,.bool lx,.slice oi zs.length ci,.slice op ps.length cp,.slice ok pk.length ck] true 1),.at (A.next+1) (.cells [pv pb,vt,.slice none 0 0,.slice none 0 0] true 1),.h (mh vt (q.map Prod.fst)),.h (lc q)]) ps.length ?_ ?_
 refine⟨?_,0,.slice none 0 0,[],by omega,by omega,rfl,by simp,by simp,by simp,by simp,by simp,?_⟩;exact wA;have h1:∀B:AW,ah B [dG pb M0,.h (ma A.bg),.at A.next (.cells [.int .i64 lf,.int .i64 fi,.int .i64 kH,.int .i64 c0,.int .i64 c1,.int .i64 c2,.int .i64 c3,.int .i64 jB,.int .i64 kw,.int .i64 kI,.int .i64 kD,.int .i64 jk,.bool lx,.slice oi zs.length ci,.slice op ps.length cp,.slice ok pk.length ck] true 1),.at (A.next+1) (.cells [pv pb,.slice none 0 0,.slice none 0 0,.slice none 0 0] true 1)]->ah B [dG pb M0,.h (ma A.bg),.at A.next (.cells [.int .i64 lf,.int .i64 fi,.int .i64 kH,.int .i64 c0,.int .i64 c1,.int .i64 c2,.int .i64 c3,.int .i64 jB,.int .i64 kw,.int .i64 kI,.int .i64 kD,.int .i64 jk,.bool lx,.slice oi zs.length ci,.slice op ps.length cp,.slice ok pk.length ck] true 1),.at (A.next+1) (.cells [pv pb,.slice none 0 0,.slice none 0 0,.slice none 0 0] true 1),.h (mh (.slice none 0 0) []),.h (lc [])]:=λB hB=>by
  have h2:ah B (.h (mh (.slice none 0 0) [])::.h eC::[dG pb M0,.h (ma A.bg),.at A.next (.cells [.int .i64 lf,.int .i64 fi,.int .i64 kH,.int .i64 c0,.int .i64 c1,.int .i64 c2,.int .i64 c3,.int .i64 jB,.int .i64 kw,.int .i64 kI,.int .i64 kD,.int .i64 jk,.bool lx,.slice oi zs.length ci,.slice op ps.length cp,.slice ok pk.length ck] true 1),.at (A.next+1) (.cells [pv pb,.slice none 0 0,.slice none 0 0,.slice none 0 0] true 1)]):=cY.nil (ah.Tu hB);exact ah.bO h2 (.s (.s (.s .z)) (.s (.s (.s .z)) (.s (.s (.s .z)) (.s (.s (.s .z)) (.s .z (.s .z .z))))))
 refine h1 _ ?_;apply ah.bO
 (·exact sA)
 (·first|exact nM|exact nZ)
 clear hS hw hq;rintro k fr A' ⟨hw,i,vt,q,rfl,hi,hqs,g1,g2,g38,g39,g40,hS⟩;have V7:ff A A':=hS.keeps 1 rfl;obtain⟨ov,cv,rfl,_⟩:=dM.bE (ah.jQ hS (.s (.s (.s (.s .z)))));rw [List.length_map] at hS;have hlq:q.length=i:=by
  have:=congrArg List.length hqs;simp at this;omega
 by_cases bL:i<ps.length
 . obtain⟨us,u1,u2⟩:=hp;obtain⟨q0,bP,u,uq,bI,hcell,hu⟩:=gs.at (⟨us,dM.keeps V7 u1,λi hi=>let ⟨u,h3,h4⟩:=u2 i hi;⟨u,h3,dM.keeps V7 h4⟩⟩:gs A' (.slice op ps.length cp) ps) bL;subst uq;have gW:(i:Int)<ps.length:=(by omega);have fU:=uR (i:=i);have QH:0<=(i:Int)/\(i:Int)<ps.length/\(ps.length:Int)<=16:=(by omega);have hq:=fk hS hw;refine aO ?_
   repeat' (first|(with_reducible apply Uj;(·first|(simp;done)|(simp;rfl));(·first|(simp;done)|(simp;rfl));(·exact wA);(·exact sA);(·first|exact pA|exact kA);(·first|exact AW.bM _ _|((repeat' (first|apply ay.z|apply ay.s));done)|(simp [hq];(repeat' (first|rfl|refine⟨rfl,?_⟩));done)|(simp;done)|(simp;rfl)|(simp [hq];done)|(simp [hq];rfl));(·first|omega|(simp;omega));(·intro _ _;trivial);rintro _ _ _ hS hw _;(try dsimp only [AW.aV] at hS);have hq:=fk hS hw)|(refine H0 (λR hR=>?_) (λR hR=>?_)<;>(first|(with_reducible apply Uj;(·first|(simp;done)|(simp;rfl));(·first|(simp;done)|(simp;rfl));(·exact wA);(·exact sA);(·first|exact pA|exact kA);(·first|exact AW.bM _ _|((repeat' (first|apply ay.z|apply ay.s));done)|(simp [hq];(repeat' (first|rfl|refine⟨rfl,?_⟩));done)|(simp;done)|(simp;rfl)|(simp [hq];done)|(simp [hq];rfl));(·first|omega|(simp;omega));(·intro _ _;trivial);rintro _ _ _ hS hw _;(try dsimp only [AW.aV] at hS);have hq:=fk hS hw)|(simp [ai,ar,g1,g2,g38,g39,g40,hq,bL,gW,fU,bI,hcell,AW.af,aB];try simp (disch:=omega) only [if_pos,if_neg,ai,ar])))|(refine jX λR hR=>?_;simp [ai,ar,g1,g2,g38,g39,g40,hq,bL,gW,fU,bI,hcell,AW.af,aB];try simp (disch:=omega) only [if_pos,if_neg,ai,ar])|(refine hR _ _ ?_;clear hR R)|(refine hK _ _ ?_;clear hK K)|refine nx ?_|refine wn λK hK=>?_|simp only [wS]|(apply Vw hF Wo i ps.length QH u ps[i] (ln i bL) hu;(·exact wA);(·exact sA);((first|rintro _ _ _ hS hw eJ|rintro _ _ hS hw eJ|rintro _ _ hS hw);(try refine⟨eJ,?_⟩);(try dsimp only [AW.aV] at hS);have hq:=fk hS hw))|(show cM _ _ _ _ _ _;refine nx ?_)|(refine wc rfl (λhc=>?_) (λhc=>?_)<;>(try simp at hc)<;>(try omega))|(refine ib (λhc=>?_) (λhc=>?_)<;>(try omega)<;>(try simp (disch:=omega) only [if_pos,if_neg])))
   rename_i bt A5 yw AE hq5 o5 c5 A6 le6;refine⟨ps.length-(i+1),by omega,?_,i+1,.slice o5 (q.length+1) c5,q++[(bt,qa ⟨lf,fi,kH,c0,c1,c2,c3,jB,kw,kI,kD,jk,lx⟩ i ps.length ps[i])],rfl,by omega,?_,by simp [g1],by simp [g2],by simp [g38],by simp [g39],by simp,?_⟩;exact wA;rw [List.map_append,hqs,List.take_succ_eq_append_getElem bL,List.mapIdx_append];simp [Nat.min_eq_left (Nat.le_of_lt bL)];have e:lc (q++[(bt,qa ⟨lf,fi,kH,c0,c1,c2,c3,jB,kw,kI,kD,jk,lx⟩ i ps.length ps[i])])=rF bt (qa ⟨lf,fi,kH,c0,c1,c2,c3,jB,kw,kI,kD,jk,lx⟩ i ps.length ps[i])*lc q:=by
    rw [DS];show lc q*(rF bt _*eC)=_;rw [du]
    ac_rfl
   rw [List.length_map] at hS;rw [e,List.map_append]
   have h1:∀(B:AW) (v:Value),ah B [dG pb M0,.h (ma A.bg),.at A.next (.cells [.int .i64 lf,.int .i64 fi,.int .i64 kH,.int .i64 c0,.int .i64 c1,.int .i64 c2,.int .i64 c3,.int .i64 jB,.int .i64 kw,.int .i64 kI,.int .i64 kD,.int .i64 jk,.bool lx,.slice oi zs.length ci,.slice (some q0) ps.length cp,.slice ok pk.length ck] true 1),.at (A.next+1) (.cells [pv pb,v,.slice none 0 0,.slice none 0 0] true 1),.h (mh v (q.map Prod.fst++[bt])),.h (rF bt (qa ⟨lf,fi,kH,c0,c1,c2,c3,jB,kw,kI,kD,jk,lx⟩ i ps.length ps[i])),.h (lc q)]->
    ah B [dG pb M0,.h (ma A.bg),.at A.next (.cells [.int .i64 lf,.int .i64 fi,.int .i64 kH,.int .i64 c0,.int .i64 c1,.int .i64 c2,.int .i64 c3,.int .i64 jB,.int .i64 kw,.int .i64 kI,.int .i64 kD,.int .i64 jk,.bool lx,.slice oi zs.length ci,.slice (some q0) ps.length cp,.slice ok pk.length ck] true 1),.at (A.next+1) (.cells [pv pb,v,.slice none 0 0,.slice none 0 0] true 1),.h (mh v (q.map Prod.fst++[bt])),.h (rF bt (qa ⟨lf,fi,kH,c0,c1,c2,c3,jB,kw,kI,kD,jk,lx⟩ i ps.length ps[i])*lc q)]:=λB v h=>by
    unfold ah at h ⊢;refine bk.dK h ?_;simp only [aE,It.hp,du]
   refine h1 _ _ ?_;apply ah.bO
   (·exact sA)
   (·first|exact nM|exact nZ)
 have tJ:i=ps.length:=by omega
 subst tJ;have gW:¬((ps.length:Int)<ps.length):=by omega
 have hq:=fk hS hw;refine aO ?_;revert hq hS hw;(repeat first|clear hq|clear hS|clear hw|revert hc|revert R|revert K);refine W cd (J7 g1 g2 g38 g39 g40 gW bz) ?_<;>(unhygienic intros);rw [List.take_length] at hqs;have h1:=ah.Vr (ah.Vv hS);refine⟨.tuple #[pv (A.next+1),.int .i64 0,.int .i64 0,.int .i64 0],by simp [bm,aK,aN],A.next+1,rfl,?_⟩;subst hM0;refine ah.bO (D2.dA (b:=A.next+1) (m:=vZ ⟨lf,fi,kH,c0,c1,c2,c3,jB,kw,kI,kD,jk,lx⟩ zs ps) (f:=⟨pb,.slice ov q.length cv,.slice none 0 0,.slice none 0 0⟩) (q:=q) (K:=[.h (ma A.bg),.at A.next (.cells [.int .i64 lf,.int .i64 fi,.int .i64 kH,.int .i64 c0,.int .i64 c1,.int .i64 c2,.int .i64 c3,.int .i64 jB,.int .i64 kw,.int .i64 kI,.int .i64 kD,.int .i64 jk,.bool lx,.slice oi zs.length ci,.slice op ps.length cp,.slice ok pk.length ck] true 1)]) hqs h1 ?_) (.s .z (.s .z .z));unfold P8 vZ;dsimp only
 (·first|exact nM|exact nZ)
end
section
abbrev lU:List (Nat×Nat):=[(0,0),(1,0),(2,0),(3,0),(4,0),(5,0),(6,2),(7,3),(8,0),(9,0),(10,3)]
open T2
variable [Gl]
variable [AF]
theorem ah.XZ {A:AW} {L K:List It} {v:Value} {ns:List Nat} (h:ah A L) (hp:ay L (.h (mh v ns)) K) {i:Nat} (hi:i<ns.length) :
 ∃b off c bP,v=.slice (some ⟨b,off,none⟩) ns.length c/\bP[off+i]? = some (pv ns[i])/\off+ns.length<=bP.length/\ah A (.at b (.cells bP true 1)::K)/\
  ∀(A':AW) (L' K':List It),ah A' L'->ay L' (.at b (.cells bP true 1)) K'->ah A' (.h (mh (.slice (some ⟨b,off,none⟩) ns.length c) ns)::K'):=by
 unfold ah at h;rw [hp.aE] at h;rcases cY.cases h with ⟨_,h0,_⟩|⟨b,off,c,bP,rfl,h1,h2,h3,h4⟩;omega;rw [Nat.mul_one] at h2 h3;refine⟨b,off,c,bP,rfl,?_,h2,h4,λA' L' K' hS e=>?_⟩;have e1:(ns.map pv)[i]? = ((bP.drop off).take ns.length)[i]?:=congrArg (·[i]?) h3;rw [List.getElem?_take_of_lt hi,List.getElem?_drop,List.getElem?_map,List.getElem?_eq_getElem hi] at e1;exact e1.symm;unfold ah at hS;rw [e.aE] at hS;exact cY.mk h1 (by rw [Nat.mul_one];exact h2) (by rw [Nat.mul_one];exact h3) hS
theorem yP {t:aU} {s:aM} {M:Mm}:(t.wE M s).2.1=[]\/∃e,(t.wE M s).2.1=[e]:=by
 unfold aU.wE;dsimp only;split;exact .inr ⟨_,rfl⟩;split;exact .inr ⟨_,rfl⟩;exact .inl rfl
theorem H9 {d6:Int->Int->Int->Int} {t:aU} {M:Mm}:(t.step d6 M).2.2.1=[]\/∃e,(t.step d6 M).2.2.1=[e]:=by
 have hp:∀i,(t.plain M i).2.1=[]\/∃e,(t.plain M i).2.1=[e]:=λi=>by
  unfold aU.plain;dsimp only;split;exact .inl rfl;split;exact yP;split<;>exact .inr ⟨_,rfl⟩
 have he:∀i,(t.mc d6 M i).2.1=[]\/∃e,(t.mc d6 M i).2.1=[e]:=λi=>by
  unfold aU.mc;split;exact yP;split;split;exact yP;exact .inl rfl;split;exact hp i;split<;>exact .inl rfl
 unfold aU.step;split;exact .inl rfl;show (t.tT d6 M).2.1=[]\/_;unfold aU.tT;split;exact .inl rfl;split;split;exact yP;split;exact yP;exact he _;exact he _
structure EvP where
 bb:Nat
 off:Nat
 ef:Nat
 bP:List Value
 r:Value
 w:Value
theorem dT.WF {P:Program} {f:FuncId} {args:List Value} {pC:List It} {x y:Value} {a1 a2:It} {e:zd} (h:dT P f args pC (λev v=>v=.tuple #[x,ev,y]) (λev=>[a1,a2,.h (fB ev [e])])) :
 dT P f args pC (λ(z:EvP) v=>v=.tuple #[x,.slice (some ⟨z.bb,z.off,none⟩) 1 z.ef,y]/\z.off+6<=z.bP.length/\(z.bP.drop z.off).take 6=uA e z.r z.w) (λz=>[a1,a2,.at z.bb (.cells z.bP true 6),.h (ap .i64 z.r e.reads),.h (ap .i64 z.w e.bK)]):=λA F hw hS=>by
 refine bD (h A F hw hS) ?_;rintro v A' ⟨ev,rfl,h2⟩ _ _;obtain⟨q,hq,h3⟩:=fB.open h2 (.s (.s .z));obtain⟨⟨e',r,w⟩,q',rfl,rfl,uq⟩:=List.map_eq_cons_iff.1 hq;have MJ:q'=[]:=List.map_eq_nil_iff.1 uq;subst MJ;dsimp only [Dk,aa,ag] at h3;have e1:eP [(e',r,w)]=uA e' r w:=by simp [eP]
 rw [e1] at h3;rcases cY.cases h3 with ⟨_,h0,_⟩|⟨b,off,c,bP,rfl,g1,g2,g3,g4⟩;cases h0;refine⟨⟨b,off,c,bP,r,w⟩,⟨rfl,g2,g3.symm⟩,?_⟩;have g5:bk A' (pt b (.cells bP true 6)*(((ap .i64 r e'.reads*ap .i64 w e'.bK)*eC)*(a1.hp*(a2.hp*(F*eC))))):=g4;refine bk.dK g5 ?_;show _=a1.hp*(a2.hp*(pt b (.cells bP true 6)*(ap .i64 r e'.reads*(ap .i64 w e'.bK*(F*eC)))));rw [du]
 ac_rfl
theorem NJ {d6:Int->Int->Int->Int} (hA:yZ d6) (hF:FOK) {c:bq} {nt k:Nat} (hc:db c) (hk:k+1<2^24) (b:Nat) (m:r9) (hM:lR c nt k m.M) (hT:∀t∈m.gJ,lu c nt k t/\E5 t.az) (hl:m.gJ.length<=16) (GN:m.cG.length<2^29) (hel:m.lC.length<2^29) (id:Int) :
 bf Tryz.prog 23 [pv b,.int .i64 id] [.h (D2 b m)] (λv=>v=.bool (m.XA d6 id)) (λ_=>[.h (D2 b (m.pick d6 id))]):=by
 intro A F hw dm;refine aF Tryz.func23 λ_=>?_;dsimp only [aa,ag] at dm;obtain⟨⟨pb,vt,vs,ve⟩,q,CY,hS⟩:=D2.open dm .z;have VV:q.length=m.gJ.length:=by rw [<-CY,List.length_map]
 clear dm;dsimp only [P8,aa,ag] at hS;by_cases h0:id<0
 . unfold r9.XA r9.pick;rw [if_neg (by omega),if_neg (by omega)];have hq:=fk hS hw;revert hq hS hw;(repeat first|revert hc|revert R|revert K);refine Wu (J2 (od lU) (⟨⟩:Ts (λ_=>True) [0,0,0,0,0,0,0,0,0,0,0,3,0,0,0,0,2,3,0,0] (.aD 0 (.aD 1 (.aD 2 (.aD 3 (.aD 4 (.aD 5 (.aD 6 (.aD 7 (.aD 8 (.aD 9 (.aD 10 (.qD 11 (.aD 12 (.aD 13 (.aD 14 (.aD 15 (.aD 16 (.aD 17 (.aD 18 (.aD 19 .nil)))))))) 16 (.aD 11 (.aD 12 (.aD 13 (.aD 14 (.aD 15 (.aD 17 (.aD 18 (.aD 19 .nil)))))))))))))))))))))) (J2 h0 bz) ?_<;>(unhygienic intros);refine⟨_,by first|rfl|(simp;rfl),rfl,?_⟩;exact ah.bO (D2.dA (f:=⟨pb,vt,vs,ve⟩) CY hS (by unfold P8;dsimp only;(first|exact pA|exact kA))) (.s .z (.s .z .z))
 have nh:(q.map Prod.fst).length=m.gJ.length:=by rw [List.length_map,VV]
 by_cases h1:(m.gJ.length:Int)<=id
 . unfold r9.XA r9.pick;rw [if_pos (by omega),if_pos (by omega),List.getElem?_eq_none (by omega)];obtain⟨o,cc,rfl,_⟩:=dM.bE (ah.jQ hS (.s (.s .z)));rw [nh] at hS;have hq:=fk hS hw;revert hq hS hw;(repeat first|clear hq|clear hS|clear hw|revert hc|revert R|revert K);refine Wu (J2 (od lU) (⟨⟩:Ts (λ_=>True) [0,0,0,0,0,0,0,0,0,0,0,3,0,0,0,0,2,3,0,0] (.aD 0 (.aD 1 (.aD 2 (.aD 3 (.aD 4 (.aD 5 (.aD 6 (.aD 7 (.aD 8 (.aD 9 (.aD 10 (.qD 11 (.aD 12 (.aD 13 (.aD 14 (.aD 15 (.aD 16 (.aD 17 (.aD 18 (.aD 19 .nil)))))))) 16 (.aD 11 (.aD 12 (.aD 13 (.aD 14 (.aD 15 (.aD 17 (.aD 18 (.aD 19 .nil)))))))))))))))))))))) (J3 h0 h1 bz) ?_<;>(unhygienic intros);refine⟨_,by first|rfl|(simp;rfl),rfl,?_⟩;rw [<-nh] at hS;exact ah.bO (D2.dA (f:=⟨pb,_,vs,ve⟩) CY hS (by unfold P8;dsimp only;(first|exact pA|exact kA))) (.s .z (.s .z .z))
 have hi:id.toNat<q.length:=by omega
 obtain⟨i,QH⟩:∃i:Nat,id=i:=⟨id.toNat,by omega⟩;subst QH;simp only [Int.toNat_natCast] at hi;obtain⟨tb,off,cc,bP,rfl,bI,I5,iz,kv⟩:=ah.XZ hS (.s (.s .z)) (i:=i) (by omega);obtain⟨R,kL,vF⟩:=ah.TZ hi iz (.s (.s (.s .z)));have HM:m.gJ[i]? = some q[i].2:=by rw [<-CY,List.getElem?_map,List.getElem?_eq_getElem hi];rfl
 rw [List.getElem_map] at bI;generalize hx:q[i]=x at *;obtain⟨bt,t⟩:=x;dsimp only at HM bI kL vF;obtain⟨lZ,qz⟩:=hT t (List.mem_of_getElem? HM);have e0:m.XA d6 i=(t.step d6 m.M).1:=by
  unfold r9.XA;rw [if_pos (by omega),Int.toNat_natCast,HM]
 clear hS iz;have hS:=kL;clear kL;rw [e0];rw [nh] at kv hS;have UB:off+i<bP.length:=by omega
 obtain⟨hir2,wg⟩:=List.getElem?_eq_some_iff.1 bI
 have bO:∀(t':aU) (M':Mm) (Al TX:Value) (st':List fR) (ev':List zd) (A':AW) (L' K1 K2 K3 K4 K5 K6 K7 K8:List It),ah A' L'->ay L' (.h (rF bt t')) K1->ay K1 (.h R) K2->ay K2 (.at tb (.cells bP true 1)) K3->
  ay K3 (.at b (.cells [pv pb,.slice (some ⟨tb,off,none⟩) m.gJ.length cc,Al,TX] true 1)) K4->ay K4 (dG pb M') K5->ay K5 (.h (mw Al st')) K6->ay K6 (.h (fB TX ev')) K7->aP K7 [.h F] K8->
  ah A' [.h (D2 b ⟨m.gJ.set i t',M',st',ev'⟩),.h F]:=λt' M' Al TX st' ev' A' L' K1 K2 K3 K4 K5 K6 K7 K8 h e1 e2 e3 e4 e5 e6 e7 e8=>by
  have g1:=vF A' L' K1 K2 t' h e1 e2;have g2:=kv A' _ _ g1 (.s e3);have hf:(q.set i (bt,t')).map Prod.fst=q.map Prod.fst:=by
   rw [List.map_set];have e:(bt,t').1=(q.map Prod.fst)[i]'(by omega):=by rw [List.getElem_map,hx]
   rw [e,List.set_getElem_self]
  have hs:(q.set i (bt,t')).map Prod.snd=m.gJ.set i t':=by rw [List.map_set,CY]
  refine ah.bO (D2.dA (f:=⟨pb,.slice (some ⟨tb,off,none⟩) m.gJ.length cc,Al,TX⟩) (q:=q.set i (bt,t')) (K:=K7) hs g2 ?_) (.s .z e8);unfold P8;dsimp only;rw [hf];exact .s (.s (.s e4)) (.s (.s (.s e5)) (.s .z (.s .z (.s e6 (.s e7 .z)))))
 by_cases hd:t.done=true
 . have dv:(t.step d6 m.M)=(false,fR.zero,[],t,m.M):=(by unfold aU.step;rw [if_pos hd]);have e1:m.pick d6 i=m:=by
    unfold r9.pick;rw [if_pos (by omega),Int.toNat_natCast,HM];dsimp only;rw [dv];rfl
   rw [e1,dv];have hq:=fk hS hw;have oA:=H5 bt t m.M pb hd;revert hq hS hw;(repeat first|clear hq|clear hS|clear hw|revert hc|revert R|revert K);refine Wu (J3 (od lU) (⟨⟩:Ts (λ_=>True) [0,0,0,0,0,0,0,0,0,0,0,3,0,0,0,0,2,3,0,0] (.aD 0 (.aD 1 (.aD 2 (.aD 3 (.aD 4 (.aD 5 (.aD 6 (.aD 7 (.aD 8 (.aD 9 (.aD 10 (.qD 11 (.aD 12 (.aD 13 (.aD 14 (.aD 15 (.aD 16 (.aD 17 (.aD 18 (.aD 19 .nil)))))))) 16 (.aD 11 (.aD 12 (.aD 13 (.aD 14 (.aD 15 (.aD 17 (.aD 18 (.aD 19 .nil))))))))))))))))))))) @oA) (Bs h1 I5 bI UB wg @dV.eq_1 @fR.zero.eq_1 @aW.v.eq_1 @aW.zero.eq_1 bz) (J2 ?_ ?_)<;>(unhygienic intros)
   all_goals
    refine⟨_,by first|rfl|(simp;rfl)|(simp [hq,AW.af,aB];rfl),by first|rfl|(simp;done),?_⟩;have e2:m=⟨m.gJ.set i t,m.M,m.cG,m.lC⟩:=by
     have:m.gJ.set i t=m.gJ:=by
      obtain⟨g1,g2⟩:=List.getElem?_eq_some_iff.1 HM;rw [<-g2,List.set_getElem_self]
     rw [this]
    rw [e2];apply bO
    (·exact sA)
    all_goals(first|exact nM|exact nZ)
 have Lu:t.done=false:=by simpa using hd
 have xB:=Sk hA hF hc hk bt pb t m.M hM lZ qz Lu;have CX:(t.step d6 m.M).1=true:=by unfold aU.step;rw [if_neg hd]
 have e1:m.pick d6 i=⟨m.gJ.set i (t.step d6 m.M).2.2.2.1,(t.step d6 m.M).2.2.2.2,m.cG++[(t.step d6 m.M).2.1],m.lC++(t.step d6 m.M).2.2.1.map λe=>{ e with bR:=m.cG.length }⟩:=by
  unfold r9.pick;rw [if_pos (by omega),Int.toNat_natCast,HM];dsimp only;rw [CX];rfl
 have FE:=H9 (d6:=d6) (t:=t) (M:=m.M);rw [e1];generalize t.step d6 m.M=r at *;obtain⟨ok,st,lC,t',M'⟩:=r;dsimp only at CX xB FE ⊢;subst CX;have hq:=fk hS hw;rcases FE with rfl|⟨e,rfl⟩
 . have N0:=dT.ev0 xB;revert hq hS hw;(repeat first|clear hq|clear hS|clear hw|revert hc|revert R|revert K);refine Wu (J3 (Tg.mk (n:=32) @N0) (od lU) (⟨⟩:Ts (λ_=>True) [0,0,0,0,0,0,0,0,0,0,0,3,0,0,0,0,2,3,0,0] (.aD 0 (.aD 1 (.aD 2 (.aD 3 (.aD 4 (.aD 5 (.aD 6 (.aD 7 (.aD 8 (.aD 9 (.aD 10 (.qD 11 (.aD 12 (.aD 13 (.aD 14 (.aD 15 (.aD 16 (.aD 17 (.aD 18 (.aD 19 .nil)))))))) 16 (.aD 11 (.aD 12 (.aD 13 (.aD 14 (.aD 15 (.aD 17 (.aD 18 (.aD 19 .nil)))))))))))))))))))))) (J7 h1 I5 bI UB wg @dV.eq_1 bz) (J2 ?_ ?_)<;>(unhygienic intros)
   all_goals
    refine cW (λk fr A'=>fr=_/\A'=_) 0 ⟨rfl,rfl⟩ ?_;rintro k _ _ ⟨rfl,rfl⟩;refine aO ?_
    repeat' (first|(with_reducible apply Uk (s:=st);(·first|(simp;done)|(simp;rfl));(·first|(simp;done)|(simp;rfl));(·exact wA);(·exact sA);(·first|exact pA|exact kA);(·first|exact AW.bM _ _|((repeat' (first|apply ay.z|apply ay.s));done)|(simp [hq];(repeat' (first|rfl|refine⟨rfl,?_⟩));done)|(simp;done)|(simp;rfl)|(simp [hq];done)|(simp [hq];rfl));(·first|omega|(simp;omega));(·intro _ _;trivial);rintro _ _ _ hS hw _;(try dsimp only [AW.aV] at hS);have hq:=fk hS hw)|(refine jX λR hR=>?_;simp [ai,ar,hq,AW.af,aB];try simp (disch:=omega) only [if_pos,if_neg,ai,ar])|(refine hR _ _ ?_;clear hR R)|(refine hK _ _ ?_;clear hK K)|refine nx ?_|(refine Md λR hR=>?_;simp [ai,ar,hq,AW.af,aB];try simp (disch:=omega) only [if_pos,if_neg,ai,ar])|(refine H0 (λR hR=>?_) (λR hR=>?_)<;>(simp [ai,ar,hq,AW.af,aB];try simp (disch:=omega) only [if_pos,if_neg,ai,ar]))|refine Mc ?_|refine wn λK hK=>?_|simp only [wS,lU]|simp only [bA,rg,kU,Option.map_none,Option.map_some,List.getElem?_toArray,List.getElem?_cons_zero,List.getElem?_cons_succ,List.getD_cons_zero,List.getD_cons_succ,Option.bind_some]|refine wl Tryz.mx lU (by decide +kernel) λK hK=>?_|refine wt (λ_=>True) Tryz.mx [0,0,0,0,0,0,0,0,0,0,0,3,0,0,0,0,2,3,0,0] (.aD 0 (.aD 1 (.aD 2 (.aD 3 (.aD 4 (.aD 5 (.aD 6 (.aD 7 (.aD 8 (.aD 9 (.aD 10 (.qD 11 (.aD 12 (.aD 13 (.aD 14 (.aD 15 (.aD 16 (.aD 17 (.aD 18 (.aD 19 .nil)))))))) 16 (.aD 11 (.aD 12 (.aD 13 (.aD 14 (.aD 15 (.aD 17 (.aD 18 (.aD 19 .nil)))))))))))))))))))) (by decide +kernel) λK hK=>?_|(show cM _ _ _ _ _ _;refine nx ?_)|(refine wc rfl (λhc=>?_) (λhc=>?_)<;>(try simp at hc)<;>(try omega))|(refine ib (λhc=>?_) (λhc=>?_)<;>(try omega)<;>(try simp (disch:=omega) only [if_pos,if_neg])))
    refine⟨_,by first|rfl|(simp;rfl)|(simp [hq,AW.af,aB];rfl),by first|rfl|(simp;done),?_⟩;rw [show m.lC++List.map (λe:zd=>({ bR:=m.cG.length,am:=e.am,gu:=e.gu,Ni:=e.Ni,reads:=e.reads,bK:=e.bK }:zd)) []=m.lC from List.append_nil _];apply bO
    (·exact sA)
    all_goals(first|exact nM|exact nZ)
 have NZ:=dT.WF xB
 repeat' (first|(refine jX λR hR=>?_;simp [ai,ar,hq,h1,I5,bI,UB,wg,dV,AW.af,aB];try simp (disch:=omega) only [if_pos,if_neg,ai,ar])|(refine hR _ _ ?_;clear hR R)|(refine hK _ _ ?_;clear hK K)|refine nx ?_|(refine Md λR hR=>?_;simp [ai,ar,hq,h1,I5,bI,UB,wg,dV,AW.af,aB];try simp (disch:=omega) only [if_pos,if_neg,ai,ar])|(refine H0 (λR hR=>?_) (λR hR=>?_)<;>(simp [ai,ar,hq,h1,I5,bI,UB,wg,dV,AW.af,aB];try simp (disch:=omega) only [if_pos,if_neg,ai,ar]))|refine Mc ?_|refine wn λK hK=>?_|simp only [wS,lU]|simp only [bA,rg,kU,Option.map_none,Option.map_some,List.getElem?_toArray,List.getElem?_cons_zero,List.getElem?_cons_succ,List.getD_cons_zero,List.getD_cons_succ,Option.bind_some]|refine wl Tryz.mx lU (by decide +kernel) λK hK=>?_|refine wt (λ_=>True) Tryz.mx [0,0,0,0,0,0,0,0,0,0,0,3,0,0,0,0,2,3,0,0] (.aD 0 (.aD 1 (.aD 2 (.aD 3 (.aD 4 (.aD 5 (.aD 6 (.aD 7 (.aD 8 (.aD 9 (.aD 10 (.qD 11 (.aD 12 (.aD 13 (.aD 14 (.aD 15 (.aD 16 (.aD 17 (.aD 18 (.aD 19 .nil)))))))) 16 (.aD 11 (.aD 12 (.aD 13 (.aD 14 (.aD 15 (.aD 17 (.aD 18 (.aD 19 .nil)))))))))))))))))))) (by decide +kernel) λK hK=>?_|(apply dT.eZ (NZ);(·exact wA);(·exact sA);(·first|exact pA|exact kA);(rintro xw _ _ ⟨rfl,hz1,oL⟩ hS hw _;have hS:=lA hS;(try (have hq:=fk hS hw))))|(show cM _ _ _ _ _ _;refine nx ?_)|(refine wc rfl (λhc=>?_) (λhc=>?_)<;>(try simp at hc)<;>(try omega))|(refine ib (λhc=>?_) (λhc=>?_)<;>(try omega)<;>(try simp (disch:=omega) only [if_pos,if_neg])))
 all_goals
  obtain⟨zb,zo,zc,zrow,vr,vw⟩:=xw;dsimp only at hS hz1 oL
  refine cW (λk fr A'=>A'.Wf/\fr 0=pv b/\fr 43=.slice (some ⟨zb,zo,none⟩) 1 zc/\fr 44=.int .i64 1/\∃sp,fr 5=pv sp/\
   ((k=1/\fr 45=.int .i64 0/\ah A' [.h (rF bt t'),dG pb M',.at zb (.cells zrow true 6),.h (ap .i64 vr e.reads),.h (ap .i64 vw e.bK),.h R,.at tb (.cells bP true 1),.at b (.cells [pv pb,.slice (some ⟨tb,off,none⟩) m.gJ.length cc,vs,ve] true 1),.h (mw vs m.cG),.h (fB ve m.lC),.at sp (.cells [.int .i64 st.am,.int .i64 st.Ir,.int .i64 st.yJ,.int .i64 st.uM.gu,.int .i64 st.uM.cell,.int .i64 st.uM.dJ,.int .u64 st.uM.fA,.int .u64 st.uM.put,.bool st.uM.done] true 1),.h F]) \/
    (k=0/\fr 45=.int .i64 1/\∃TX,ah A' [.h (rF bt t'),dG pb M',.h R,.at tb (.cells bP true 1),.at b (.cells [pv pb,.slice (some ⟨tb,off,none⟩) m.gJ.length cc,vs,TX] true 1),.h (mw vs m.cG),.h (fB TX (m.lC++[({ e with bR:=m.cG.length }:zd)])),.at sp (.cells [.int .i64 st.am,.int .i64 st.Ir,.int .i64 st.yJ,.int .i64 st.uM.gu,.int .i64 st.uM.cell,.int .i64 st.uM.dJ,.int .u64 st.uM.fA,.int .u64 st.uM.put,.bool st.uM.done] true 1),.h F]))) 1 ?_ ?_
  refine⟨?_,by simp,by simp,by simp,_,by simp;rfl,.inl ⟨rfl,by simp,?_⟩⟩;exact wA;apply ah.bO
  (·exact sA)
  (·first|exact nM|exact nZ)
  clear hS hw hq;rintro k fr A5 ⟨hw,f0,WE,WD,sp,f5,h⟩;rcases h with ⟨rfl,WC,hS⟩|⟨rfl,WC,TX,hS⟩
  . obtain⟨oz,cz,rfl,_⟩:=dM.bE (ah.jQ hS (.s (.s (.s (.s (.s (.s (.s (.s .z)))))))));obtain⟨o1,c1,rfl,_⟩:=(ah.qT hS (.s (.s (.s .z)))).bE;obtain⟨o2,c2,rfl,_⟩:=(ah.qT hS (.s (.s (.s (.s .z))))).bE;obtain⟨ze,zi,zk,zw,zr,zv⟩:=e;unfold uA at oL;dsimp only at oL;have hq:=fk hS hw;refine aO ?_
    repeat' (first|(with_reducible apply Ul (e:=⟨m.cG.length,zi,zk,zw,zr,zv⟩) (r:=.slice o1 zr.length c1) (w:=.slice o2 zv.length c2);(·first|(simp;done)|(simp;rfl));(·first|(simp;done)|(simp;rfl));(·exact wA);(·exact sA);(·first|exact pA|exact kA);(·first|exact AW.bM _ _|((repeat' (first|apply ay.z|apply ay.s));done)|(simp [hq];(repeat' (first|rfl|refine⟨rfl,?_⟩));done)|(simp;done)|(simp;rfl)|(simp [hq];done)|(simp [hq];rfl));(·first|omega|(simp;omega));(·intro _ _;trivial);rintro _ _ _ hS hw _;(try dsimp only [AW.aV] at hS);have hq:=fk hS hw)|(refine jX λR hR=>?_;simp [ai,ar,hq,f0,WE,WD,WC,f5,hz1,oL,AW.af,aB];try simp (disch:=omega) only [if_pos,if_neg,ai,ar])|(refine hR _ _ ?_;clear hR R)|(refine hK _ _ ?_;clear hK K)|refine nx ?_|(refine Md λR hR=>?_;simp [ai,ar,hq,f0,WE,WD,WC,f5,hz1,oL,AW.af,aB];try simp (disch:=omega) only [if_pos,if_neg,ai,ar])|(refine H0 (λR hR=>?_) (λR hR=>?_)<;>(simp [ai,ar,hq,f0,WE,WD,WC,f5,hz1,oL,AW.af,aB];try simp (disch:=omega) only [if_pos,if_neg,ai,ar]))|refine Mc ?_|refine wn λK hK=>?_|simp only [wS,lU]|simp only [bA,rg,kU,Option.map_none,Option.map_some,List.getElem?_toArray,List.getElem?_cons_zero,List.getElem?_cons_succ,List.getD_cons_zero,List.getD_cons_succ,Option.bind_some]|refine wl Tryz.mx lU (by decide +kernel) λK hK=>?_|refine wt (λ_=>True) Tryz.mx [0,0,0,0,0,0,0,0,0,0,0,3,0,0,0,0,2,3,0,0] (.aD 0 (.aD 1 (.aD 2 (.aD 3 (.aD 4 (.aD 5 (.aD 6 (.aD 7 (.aD 8 (.aD 9 (.aD 10 (.qD 11 (.aD 12 (.aD 13 (.aD 14 (.aD 15 (.aD 16 (.aD 17 (.aD 18 (.aD 19 .nil)))))))) 16 (.aD 11 (.aD 12 (.aD 13 (.aD 14 (.aD 15 (.aD 17 (.aD 18 (.aD 19 .nil)))))))))))))))))))) (by decide +kernel) λK hK=>?_|(show cM _ _ _ _ _ _;refine nx ?_)|(refine wc rfl (λhc=>?_) (λhc=>?_)<;>(try simp at hc)<;>(try omega))|(refine ib (λhc=>?_) (λhc=>?_)<;>(try omega)<;>(try simp (disch:=omega) only [if_pos,if_neg])))
    refine⟨0,by omega,?_,by simp [f0],by simp [WE],by simp [WD],sp,by simp [f5],.inr ⟨rfl,by simp,?_⟩⟩;exact wA;apply Exists.intro;apply ah.bO
    (·exact sA)
    (·first|exact nM|exact nZ)
  have hq:=fk hS hw;refine aO ?_
  repeat' (first|(with_reducible apply Uk (s:=st);(·first|(simp;done)|(simp;rfl));(·first|(simp;done)|(simp;rfl));(·exact wA);(·exact sA);(·first|exact pA|exact kA);(·first|exact AW.bM _ _|((repeat' (first|apply ay.z|apply ay.s));done)|(simp [hq];(repeat' (first|rfl|refine⟨rfl,?_⟩));done)|(simp;done)|(simp;rfl)|(simp [hq];done)|(simp [hq];rfl));(·first|omega|(simp;omega));(·intro _ _;trivial);rintro _ _ _ hS hw _;(try dsimp only [AW.aV] at hS);have hq:=fk hS hw)|(refine jX λR hR=>?_;simp [ai,ar,hq,f0,WE,WD,WC,f5,AW.af,aB];try simp (disch:=omega) only [if_pos,if_neg,ai,ar])|(refine hR _ _ ?_;clear hR R)|(refine hK _ _ ?_;clear hK K)|refine nx ?_|(refine Md λR hR=>?_;simp [ai,ar,hq,f0,WE,WD,WC,f5,AW.af,aB];try simp (disch:=omega) only [if_pos,if_neg,ai,ar])|(refine H0 (λR hR=>?_) (λR hR=>?_)<;>(simp [ai,ar,hq,f0,WE,WD,WC,f5,AW.af,aB];try simp (disch:=omega) only [if_pos,if_neg,ai,ar]))|refine Mc ?_|refine wn λK hK=>?_|simp only [wS,lU]|simp only [bA,rg,kU,Option.map_none,Option.map_some,List.getElem?_toArray,List.getElem?_cons_zero,List.getElem?_cons_succ,List.getD_cons_zero,List.getD_cons_succ,Option.bind_some]|refine wl Tryz.mx lU (by decide +kernel) λK hK=>?_|refine wt (λ_=>True) Tryz.mx [0,0,0,0,0,0,0,0,0,0,0,3,0,0,0,0,2,3,0,0] (.aD 0 (.aD 1 (.aD 2 (.aD 3 (.aD 4 (.aD 5 (.aD 6 (.aD 7 (.aD 8 (.aD 9 (.aD 10 (.qD 11 (.aD 12 (.aD 13 (.aD 14 (.aD 15 (.aD 16 (.aD 17 (.aD 18 (.aD 19 .nil)))))))) 16 (.aD 11 (.aD 12 (.aD 13 (.aD 14 (.aD 15 (.aD 17 (.aD 18 (.aD 19 .nil)))))))))))))))))))) (by decide +kernel) λK hK=>?_|(show cM _ _ _ _ _ _;refine nx ?_)|(refine wc rfl (λhc=>?_) (λhc=>?_)<;>(try simp at hc)<;>(try omega))|(refine ib (λhc=>?_) (λhc=>?_)<;>(try omega)<;>(try simp (disch:=omega) only [if_pos,if_neg])))
  refine⟨_,by first|rfl|(simp;rfl)|(simp [hq,AW.af,aB];rfl),by first|rfl|(simp;done),?_⟩;apply bO
  (·exact sA)
  all_goals(first|exact nM|exact nZ)
end
section
namespace TImageA
theorem mr [Gl] {A:AW} {L:List It} {T:Prop} (hS:ah A L) (hw:A.Wf) (h':(aR A L/\bj A L/\bN L)=T:=by first|(dsimp only [aa,ag,aR,bj,bN,eE];done)|exact rfl):T:=h'▸hS.eD hw
end TImageA
open TImageA
variable [Gl]
theorem ey.eD {A:AW} {pb:Nat} {M:Nat->List Int} {F:HP} (h:bk A (ey pb M*F)) :
 ∃(r:Nat) (qx:List (Value×Value)) (vs:Nat->Value),A.bg pb=some (.cells [.map (some r)] true 1)/\A.bg r=some (.map qx true)/\(∀k:Nat,k<8->∃q,eL (.int .i64) (.int .i64 ((k:Int)+1)) qx 0=some (some (q,vs k)))/\∀k:Nat,k<8->bx A .u64 (vs k) (M k):=by
 obtain⟨r,vs,hS⟩:=ey.open h;have S8:=hS.bg;obtain⟨qx,vI,tp,_⟩:=gl.eD hS.right;refine⟨r,qx,vs,S8,vI,λk hk=>tp .i64 _ _ ?_,λk hk=>?_⟩;have:(1:Int)<=k+1/\(k:Int)+1<=8:=by omega
 simp only [vA,if_pos this];congr 2;omega;exact ap.is (bk.pick (f:=λk=>ap .u64 (vs k) (M k)) hS.right.right hk)
def td (A:AW) (v:Value) (M:Nat->List Int):Prop:=
 ∃v0 v1 v5 v6 v7,v=.agg #[v0,v1,.int .u64 ((M 2).getD 0 0),.int .u64 ((M 3).getD 0 0),.int .u64 ((M 4).getD 0 0),v5,v6,v7]/\
  bx A .u64 v0 (M 0)/\bx A .u64 v1 (M 1)/\bx A .u64 v5 (M 5)/\bx A .u64 v6 (M 6)/\bx A .u64 v7 (M 7)
def Bk:List Value:=[.slice none 0 0,.slice none 0 0,.int .u64 0,.int .u64 0,.int .u64 0,.slice none 0 0,.slice none 0 0,.slice none 0 0]
end
section
abbrev sJ:List (Nat×Nat):=[(0,0),(1,0),(2,0),(3,0),(4,0),(6,0),(7,0),(8,0),(9,0),(10,0),(12,0),(13,0),(14,0),(15,0),(16,0),(17,0),(18,0),(19,0),(20,0),(21,0),(22,0),(23,0),(24,0),(25,0),(26,0),(27,0),(28,0),(29,0),(30,0),(31,0),(32,0),(33,0),(34,0),(35,0),(36,0),(37,0),(39,0),(40,0),(41,0),(42,0),(43,0),(45,0),(46,0),(47,0),(48,0),(49,0),(5,2),(11,2),(38,2),(44,2),(50,2),(51,0),(52,3)]
open T7
variable [Gl]
theorem Le (pb:Nat) (M:Nat->List Int) (A:AW) (F:HP) (h:bk A (ey pb M*F)) (bG:∀k,k<8->(M k).length<2^39) (h2:0<(M 2).length) (h3:0<(M 3).length) (h4:0<(M 4).length) :
 ax Tryz.prog 42 [.pointer (some ⟨pb,0,none⟩)] A (λv A'=>∃o0 c0 o1 c1 o5 c5 o6 c6 o7 c7,v=.agg #[.slice o0 (M 0).length c0,.slice o1 (M 1).length c1,.int .u64 ((M 2).getD 0 0),.int .u64 ((M 3).getD 0 0),.int .u64 ((M 4).getD 0 0),.slice o5 (M 5).length c5,.slice o6 (M 6).length c6,.slice o7 (M 7).length c7]/\bk A' (ap .u64 (.slice o0 (M 0).length c0) (M 0)*(ap .u64 (.slice o1 (M 1).length c1) (M 1)*(ap .u64 (.slice o5 (M 5).length c5) (M 5)*(ap .u64 (.slice o6 (M 6).length c6) (M 6)*(ap .u64 (.slice o7 (M 7).length c7) (M 7)*(ey pb M*F))))))/\A.le A'):=by
 refine aF Tryz.func42 λhw=>?_;obtain⟨r,qx,vs,S8,vI,tp,UA⟩:=ey.eD h;obtain⟨q0,f0⟩:=tp 0 (by omega);have f0:eL (.int .i64) (.int .i64 1) qx 0=some (some (q0,vs 0)):=f0;obtain⟨q1,f1⟩:=tp 1 (by omega);have f1:eL (.int .i64) (.int .i64 2) qx 0=some (some (q1,vs 1)):=f1;obtain⟨q2,f2⟩:=tp 2 (by omega);have f2:eL (.int .i64) (.int .i64 3) qx 0=some (some (q2,vs 2)):=f2;obtain⟨q3,f3⟩:=tp 3 (by omega);have f3:eL (.int .i64) (.int .i64 4) qx 0=some (some (q3,vs 3)):=f3;obtain⟨q4,f4⟩:=tp 4 (by omega);have f4:eL (.int .i64) (.int .i64 5) qx 0=some (some (q4,vs 4)):=f4;obtain⟨q5,f5⟩:=tp 5 (by omega);have f5:eL (.int .i64) (.int .i64 6) qx 0=some (some (q5,vs 5)):=f5;obtain⟨q6,f6⟩:=tp 6 (by omega);have f6:eL (.int .i64) (.int .i64 7) qx 0=some (some (q6,vs 6)):=f6;obtain⟨q7,f7⟩:=tp 7 (by omega);have f7:eL (.int .i64) (.int .i64 8) qx 0=some (some (q7,vs 7)):=f7;obtain⟨np,X9⟩:=hw.fe S8;obtain⟨nr,X8⟩:=hw.fe vI
 have i2:=UA 2 (by omega);have i3:=UA 3 (by omega);have i4:=UA 4 (by omega);obtain⟨o2,c2,e2,_⟩:=i2.bE;obtain⟨o3,c3,e3,_⟩:=i3.bE;obtain⟨o4,c4,e4,_⟩:=i4.bE;rw [e2] at i2 f2;rw [e3] at i3 f3;rw [e4] at i4 f4;obtain⟨p2,r2,w2,rfl,g2,d2⟩:=i2.atg h2;obtain⟨n2,n2'⟩:=hw.fe g2;obtain⟨p3,r3,w3,rfl,g3,d3⟩:=i3.atg h3;obtain⟨n3,n3'⟩:=hw.fe g3;obtain⟨p4,r4,w4,rfl,g4,d4⟩:=i4.atg h4;obtain⟨n4,n4'⟩:=hw.fe g4;simp only [Nat.add_zero] at d2 d3 d4
 repeat' (first|(refine jX λR hR=>?_;simp [ai,ar,S8,vI,AW.af,np,X9,nr,X8,f0,f1,f2,f3,f4,f5,f6,f7,g2,g3,g4,d2,d3,d4,n2,n3,n4,n2',n3',n4',h2,h3,h4];try simp (disch:=omega) only [if_pos,if_neg,ai,ar])|(refine hR _ _ ?_;clear hR R)|(refine hK _ _ ?_;clear hK K)|refine nx ?_|refine wn λK hK=>?_|simp only [wS,sJ]|refine wl Tryz.mx sJ (by decide +kernel) λK hK=>?_|(show cM _ _ _ _ _ _;refine nx ?_)|(refine wc rfl (λhc=>?_) (λhc=>?_)<;>(try simp at hc)<;>(try omega))|(refine ib (λhc=>?_) (λhc=>?_)<;>(try omega)<;>(try simp (disch:=omega) only [if_pos,if_neg])))
 have l00:A.le (A.alloc (.cells Bk true 1)):=AW.le.alloc A _;have S00:=h.alloc hw (.cells Bk true 1);have I0:=hw.alloc (.cells Bk true 1);have hgz:(A.alloc (.cells Bk true 1)).bg A.next=some (.cells Bk true 1):=AW.bM _ _;refine bD (iG (vs 0) (M 0) (A.alloc (.cells Bk true 1)) ((UA 0 (by omega)).le l00 hw) (bG 0 (by omega))) ?_;rintro v0 B0 ⟨q0',m0⟩ w0' _;have S0:=ap.gA S00 I0 m0 q0';obtain⟨ov0,cv0,rfl,_⟩:=q0'.is.bE;have l0':=l00.trans m0;have z0:=m0.oK I0 hgz;refine⟨m0,?_⟩;revert hw;(repeat first|clear hw|revert hc|revert R|revert K);refine W (J1 (od sJ)) (J3 z0 bz @Bk.eq_1) ?_<;>(unhygienic intros);refine bD (iG (vs 1) (M 1) _ ((UA 1 (by omega)).le l0' hw) (bG 1 (by omega))) ?_;rintro v1 B1 ⟨q1',m1⟩ w1' _;have S1:=ap.gA S0 w0' m1 q1';obtain⟨ov1,cv1,rfl,_⟩:=q1'.is.bE;have l1':=l0'.trans m1;have z1:=m1.oK w0' z0;refine⟨m1,?_⟩;revert hw;(repeat first|clear hw|revert hc|revert R|revert K);refine W (J1 (od sJ)) (J3 z1 bz @Bk.eq_1) ?_<;>(unhygienic intros)
 refine bD (iG (vs 5) (M 5) _ ((UA 5 (by omega)).le l1' hw) (bG 5 (by omega))) ?_;rintro v5 B2 ⟨q5',m5⟩ w5' _;have S2:=ap.gA S1 w1' m5 q5';obtain⟨ov5,cv5,rfl,_⟩:=q5'.is.bE;have l2':=l1'.trans m5;have z2:=m5.oK w1' z1;refine⟨m5,?_⟩;revert hw;(repeat first|clear hw|revert hc|revert R|revert K);refine W (J1 (od sJ)) (J3 z2 bz @Bk.eq_1) ?_<;>(unhygienic intros);refine bD (iG (vs 6) (M 6) _ ((UA 6 (by omega)).le l2' hw) (bG 6 (by omega))) ?_;rintro v6 B3 ⟨q6',m6⟩ w6' _;have S3:=ap.gA S2 w5' m6 q6';obtain⟨ov6,cv6,rfl,_⟩:=q6'.is.bE;have l3':=l2'.trans m6;have z3:=m6.oK w5' z2;refine⟨m6,?_⟩;revert hw;(repeat first|clear hw|revert hc|revert R|revert K);refine W (J1 (od sJ)) (J3 z3 bz @Bk.eq_1) ?_<;>(unhygienic intros);refine bD (iG (vs 7) (M 7) _ ((UA 7 (by omega)).le l3' hw) (bG 7 (by omega))) ?_;rintro v7 B4 ⟨q7',m7⟩ w7' _;have S4:=ap.gA S3 w6' m7 q7';obtain⟨ov7,cv7,rfl,_⟩:=q7'.is.bE;have l4':=l3'.trans m7
 have z4:=m7.oK w6' z3;refine⟨m7,?_⟩;refine W (J1 (od sJ)) (J3 z4 bz @Bk.eq_1) ?_<;>intros;have gd:∀(l:List Int) (h:0<l.length),l[0]=l.getD 0 0:=λl hl=>by
  rw [List.getD_eq_getElem?_getD,List.getElem?_eq_getElem hl];rfl
 have S5:bk B4 (pt A.next (.cells Bk true 1)*(ap .u64 (.slice ov0 (M 0).length cv0) (M 0)*(ap .u64 (.slice ov1 (M 1).length cv1) (M 1)*(ap .u64 (.slice ov5 (M 5).length cv5) (M 5)*(ap .u64 (.slice ov6 (M 6).length cv6) (M 6)*(ap .u64 (.slice ov7 (M 7).length cv7) (M 7)*(ey pb M*F))))))):=S4.dK (by ac_rfl);refine⟨_,by first|(simp [AW.dF,AW.af];done)|(simp [AW.dF,AW.af];rfl),ov0,cv0,ov1,cv1,ov5,cv5,ov6,cv6,ov7,cv7,?_,(S5.set _).right,l4'.set (Nat.le_refl _) _⟩;rw [gd _ h2,gd _ h3,gd _ h4]
structure WW where
 v0:Option Addr×Nat
 v1:Option Addr×Nat
 v5:Option Addr×Nat
 v6:Option Addr×Nat
 v7:Option Addr×Nat
def j9 (x:Option Addr×Nat) (l:List Int):Value:=.slice x.1 l.length x.2
def tf (M:Mm) (f:WW):HP:=ap .u64 (j9 f.v0 (M 0)) (M 0)*(ap .u64 (j9 f.v1 (M 1)) (M 1)*(ap .u64 (j9 f.v5 (M 5)) (M 5)*(ap .u64 (j9 f.v6 (M 6)) (M 6)*ap .u64 (j9 f.v7 (M 7)) (M 7))))
theorem Ld (pb:Nat) (M:Mm) (bG:∀k,k<8->(M k).length<2^39) (h2:0<(M 2).length) (h3:0<(M 3).length) (h4:0<(M 4).length) {A:AW} {L K:List It} {k:Value->AW->Prop} (hw:A.Wf) (hS:ah A L) (hp:ay L (dG pb M) K)
 (hk:∀f A',ah A' (.h (tf M f)::L)->A'.Wf->A.le A'->k (.agg #[j9 f.v0 (M 0),j9 f.v1 (M 1),.int .u64 ((M 2).getD 0 0),.int .u64 ((M 3).getD 0 0),.int .u64 ((M 4).getD 0 0),j9 f.v5 (M 5),j9 f.v6 (M 6),j9 f.v7 (M 7)]) A') :
 ax Tryz.prog 42 [pv pb] A k:=by
 have h:bk A (ey pb M*aE K):=by
  unfold ah at hS;rw [hp.aE] at hS;exact hS
 refine bD (Le pb M A (aE K) h bG h2 h3 h4) ?_;rintro v A' ⟨o0,c0,o1,c1,o5,c5,o6,c6,o7,c7,rfl,h1,eJ⟩ i8 _;refine hk ⟨(o0,c0),(o1,c1),(o5,c5),(o6,c6),(o7,c7)⟩ A' ?_ i8 eJ;unfold ah;refine bk.dK h1 ?_;show _=tf M _*aE L;rw [hp.aE];show _=(ap .u64 (.slice o0 (M 0).length c0) (M 0)*(ap .u64 (.slice o1 (M 1).length c1) (M 1)*(ap .u64 (.slice o5 (M 5).length c5) (M 5)*(ap .u64 (.slice o6 (M 6).length c6) (M 6)*ap .u64 (.slice o7 (M 7).length c7) (M 7)))))*(ey pb M*aE K)
 ac_rfl
theorem sF {A:AW} {k:IntKind} {v:Value} {l:List Int} {R Q:HP} (h:bk A R) (e:R=ap k v l*Q):bx A k v l:=ap.is (h.dK e)
theorem tf.is {A:AW} {L K:List It} {M:Mm} {f:WW} (hS:ah A L) (hp:ay L (.h (tf M f)) K):td A (.agg #[j9 f.v0 (M 0),j9 f.v1 (M 1),.int .u64 ((M 2).getD 0 0),.int .u64 ((M 3).getD 0 0),.int .u64 ((M 4).getD 0 0),j9 f.v5 (M 5),j9 f.v6 (M 6),j9 f.v7 (M 7)]) M:=by
 unfold ah at hS;rw [hp.aE] at hS;have hr:bk A (tf M f*aE K):=hS;unfold tf at hr;refine⟨_,_,_,_,_,rfl,?_,?_,?_,?_,?_⟩;exact sF hr (Q:=ap .u64 (j9 f.v1 (M 1)) (M 1)*(ap .u64 (j9 f.v5 (M 5)) (M 5)*(ap .u64 (j9 f.v6 (M 6)) (M 6)*ap .u64 (j9 f.v7 (M 7)) (M 7)))*aE K) (by ac_rfl);exact sF hr (Q:=ap .u64 (j9 f.v0 (M 0)) (M 0)*(ap .u64 (j9 f.v5 (M 5)) (M 5)*(ap .u64 (j9 f.v6 (M 6)) (M 6)*ap .u64 (j9 f.v7 (M 7)) (M 7)))*aE K) (by ac_rfl);exact sF hr (Q:=ap .u64 (j9 f.v1 (M 1)) (M 1)*(ap .u64 (j9 f.v0 (M 0)) (M 0)*(ap .u64 (j9 f.v6 (M 6)) (M 6)*ap .u64 (j9 f.v7 (M 7)) (M 7)))*aE K) (by ac_rfl);exact sF hr (Q:=ap .u64 (j9 f.v1 (M 1)) (M 1)*(ap .u64 (j9 f.v5 (M 5)) (M 5)*(ap .u64 (j9 f.v0 (M 0)) (M 0)*ap .u64 (j9 f.v7 (M 7)) (M 7)))*aE K) (by ac_rfl);exact sF hr (Q:=ap .u64 (j9 f.v1 (M 1)) (M 1)*(ap .u64 (j9 f.v5 (M 5)) (M 5)*(ap .u64 (j9 f.v6 (M 6)) (M 6)*ap .u64 (j9 f.v0 (M 0)) (M 0)))*aE K) (by ac_rfl)
end
section
open T7
variable [Gl]
theorem G8 (v:Value) (n:Nat) (cs:List Value) (A:AW) (h:dM A 9 v n cs) (h1:cs.all Value.oneCell'=true) (hl:n<2^30) :
 ax Tryz.prog 43 [v] A (λu A'=>dB A.next A' 9 u n cs/\A.le A'/\A'.Wf):=by
 refine aF Tryz.func43 λhw=>?_;have hv:(∃c,v=.slice none n c)\/∃q c,v=.slice (some q) n c:=by
  rcases h with ⟨⟨o,rfl⟩,rfl,rfl⟩|⟨p,c,bP,own,u,rfl,_⟩
  . cases o with
    | none=>exact .inl ⟨_,rfl⟩
    | some q=>exact .inr ⟨_,_,rfl⟩
  exact .inr ⟨_,_,rfl⟩
 rcases hv with ⟨c,rfl⟩|⟨q,c,rfl⟩;obtain⟨rfl,rfl,rfl⟩:n=0/\c=0/\cs=[]:=by
  rcases h with ⟨⟨o,h0⟩,h2,h3⟩|⟨p,c',bP,own,u,h0,_⟩;injection h0 with h4 h5 h6;exact⟨h2,h6,h3⟩;cases h0
 revert hw;refine W cd cd ?_<;>(unhygienic intros);exact⟨_,rfl,.inl ⟨rfl,rfl,rfl⟩,AW.le.refl A,hw⟩;have h2:=dM.le (AW.le.alloc A (.cells [] true 9)) hw h;have gB:dB A.next (A.alloc (.cells [] true 9)) 9 (.slice (some ⟨A.next,0,none⟩) 0 0) 0 []:=.inr ⟨⟨A.next,0,none⟩,0,[],rfl,Nat.le_refl _,rfl,Nat.le_refl _,by simp,by simp,by simp⟩;obtain⟨v',A',e1,e2,e3,e4,e5,e6,e7⟩:=jm (P:=Tryz.prog) (size:=9) (t:=39) Tryz.underlying39 Tryz.info62 Tryz.zero62 rfl rfl (by omega) gB (dM.ng h2) h1 (by omega) (by simp;omega) (by simp) (hw.alloc _);refine W cd (J1 e1) ?_<;>intros;refine⟨_,rfl,?_,?_,e4⟩
 simpa using e2
 exact e3 A (Nat.le_refl _) (AW.le.alloc A _)
theorem Sm (l:List fR):(tS l).all Value.oneCell'=true:=by
 rw [List.all_eq_true];intro v hv;obtain⟨x,_,hx⟩:=List.mem_flatMap.1 hv;simp only [fR.cells,List.mem_cons,List.not_mem_nil,or_false] at hx;rcases hx with rfl|rfl|rfl|rfl|rfl|rfl|rfl|rfl|rfl<;>rfl
theorem F6 {A:AW} {L K:List It} {k:Value->AW->Prop} {v:Value} {l:List fR} (hl:l.length<2^30) (hw:A.Wf) (hS:ah A L) (hp:ay L (.h (mw v l)) K)
 (hk:∀o c A',ah A' (.h (mw (.slice o l.length c) l)::L)->A'.Wf->A.le A'->k (.slice o l.length c) A'):ax Tryz.prog 43 [v] A k:=by
 refine bD (G8 v _ _ A (ah.jQ hS hp) (Sm l) hl) ?_;rintro u A' ⟨h1,h2,h3⟩ _ _;obtain⟨o,c,rfl,_⟩:=h1.is.bE;exact hk o c A' (cY.gA hS hw h2 h1) h3 h2
theorem H4 (b:Nat) (d:r8) (w:RL) {A:AW} {L K:List It} {k:Value->AW->Prop} (hw:A.Wf) (hS:ah A L) (hp:ay L (.at b (rD d w)) K) (hk:∀(u:Nat) A',ah A' L->A'.Wf->A.le A'->k (Vc d) A'):ax Tryz.prog 44 [pv b] A k:=by
 have hg:A.bg b=some (rD d w):=by
  unfold ah at hS;rw [hp.aE] at hS;exact bk.bg hS
 have hb:b<A.next:=hw.lt hg;have hU:(b=A.next)=False:=by simp;omega
 refine aF Tryz.func44 λ_=>?_
 repeat' (first|(refine jX λR hR=>?_;simp [ai,ar,hg,hU,AW.af,aB];try simp (disch:=omega) only [if_pos,if_neg,ai,ar])|(refine hR _ _ ?_;clear hR R)|(refine hK _ _ ?_;clear hK K)|refine nx ?_|refine wn λK hK=>?_|simp only [wS]|(show cM _ _ _ _ _ _;refine nx ?_)|(refine wc rfl (λhc=>?_) (λhc=>?_)<;>(try simp at hc)<;>(try omega))|(refine ib (λhc=>?_) (λhc=>?_)<;>(try omega)<;>(try simp (disch:=omega) only [if_pos,if_neg])))
 refine⟨Vc d,by first|(simp [Vc,R8.cells];done)|(simp [Vc,R8.cells,hg,hU,AW.af];done)|(simp [Vc,R8.cells,hg,hU,AW.af];rfl),?_⟩;refine hk 0 _ ?_ ?_ ?_;exact(bk.set (bk.alloc hS hw _) _).right;exact(hw.alloc _).set _ (by simp);exact AW.le.km A _ _
def r8.T3 (d:r8):List Value:=[.int .i64 d.pc,.int .u64 d.dw.r0,.int .u64 d.dw.r1,.int .u64 d.dw.r2,.int .u64 d.dw.r3,.int .u64 d.dw.r4,.int .u64 d.dw.r5,.int .u64 d.dw.r6,.int .u64 d.dw.r7,.int .i64 d.kC,.bool d.done]
def FZ (l:List r8):List Value:=l.flatMap r8.T3
def vL (v:Value) (l:List r8):HP:=cY 11 v l.length (FZ l)
def gb (q:List (Value×List iq)):HP:=q.foldr (λy P=>ir y.1 y.2*P) eC
theorem AA (q r:List (Value×List iq)):gb (q++r)=gb q*gb r:=by
 induction q with
 | nil=>show gb r=eC*gb r;rw [gL]
 | cons y q ih=>
   show ir y.1 y.2*gb (q++r)=(ir y.1 y.2*gb q)*gb r;rw [ih]
   ac_rfl
def KF (v:Value) (q:List (Value×List iq)):List It:=[.h (cY 1 v q.length (q.map Prod.fst)),.h (gb q)]
def my (v:Value) (l:List (List iq)):HP:=pG λx:{ q:List (Value×List iq) // q.map Prod.snd=l }=>aE (KF v x.1)
section
variable {A:AW} {L K:List It} {v:Value}
theorem my.open {l:List (List iq)} (h:ah A L) (hp:ay L (.h (my v l)) K):∃q,q.map Prod.snd=l/\ah A (KF v q++K):=by
 obtain⟨⟨q,hq⟩,h⟩:=i9 h hp;exact⟨q,hq,h⟩
theorem my.dA {l:List (List iq)} {q:List (Value×List iq)} (hq:q.map Prod.snd=l) (h:ah A L) (e:aP L (KF v q) K):ah A (.h (my v l)::K):=gN (g:=λx:{ q:List (Value×List iq) // q.map Prod.snd=l }=>KF v x.1) ⟨q,hq⟩ h e
theorem ah.Vq (h:ah A L):ah A (.h (vL (.slice none 0 0) [])::L):=cY.nil h
theorem ah.Vt (h:ah A L):ah A (.h (my (.slice none 0 0) [])::L):=by
 have h1:ah A (.h eC::L):=ah.lP h;have h2:ah A (.h (cY 1 (.slice none 0 0) 0 [])::.h eC::L):=cY.nil h1;exact my.dA (q:=[]) rfl h2 (.s .z (.s .z .z))
end
section
variable {S:AW->Prop} {K:Fr->AW->Prop} {fu:List xu} {a:Fr} {A:AW} {d:Option Tmp} {x y:Operand} {n:Nat} {v:Value} {L K':List It}
theorem Ui {l:List r8} {t:r8} (e1:ia a x=v) (e2:ia a y=.slice (some ⟨n,0,none⟩) 1 1) (hw:A.Wf) (hS:ah A L) (hp:ay L (.h (vL v l)) K') (hn:A.bg n=some (.cells [.int .i64 t.pc,.int .u64 t.dw.r0,.int .u64 t.dw.r1,.int .u64 t.dw.r2,.int .u64 t.dw.r3,.int .u64 t.dw.r4,.int .u64 t.dw.r5,.int .u64 t.dw.r6,.int .u64 t.dw.r7,.int .i64 t.kC,.bool t.done] true 11)) (bG:l.length<2 ^ 30)
 (hs:∀A',ah A' K'->S A')
 (hk:∀o c A',ah A' (.h (vL (.slice o (l.length+1) c) (l++[t]))::K')->A'.Wf->A.next<=A'.next->aS Tryz.prog S K fu (eA a d (.slice o (l.length+1) c)) A') :
 aS Tryz.prog S K (⟨d,.call ⟨.builtin .append,#[x,y],#[38,38]⟩,none,3⟩::fu) a A:=by
 refine ye (P:=Tryz.prog) (size:=11) (m:=l.length) (cs:=FZ l) Tryz.underlying38 Tryz.info78 Tryz.zero78 rfl rfl (by omega) (by decide) e1 e2 hw hS hp hn rfl rfl bG hs λo c A' h1 h2 h3=>hk o c A' ?_ h2 h3;have e:vL (.slice o (l.length+1) c) (l++[t])=cY 11 (.slice o (l.length+1) c) (l.length+1) (FZ l++t.T3):=by
  unfold vL;rw [List.length_append,show FZ (l++[t])=FZ l++t.T3 by simp [FZ]];rfl
 rw [e];exact h1
theorem VB {l:List (List iq)} {os:List iq} {u:Value} {K1 K2:List It} (e1:ia a x=v) (e2:ia a y=.slice (some ⟨n,0,none⟩) 1 1) (hw:A.Wf) (hS:ah A L) (hp:ay L (.h (my v l)) K1) (Bm:ay K1 (.h (ir u os)) K2)
 (hn:A.bg n=some (.cells [u] true 1)) (bG:l.length<2 ^ 30) (hs:∀A',ah A' K2->S A')
 (hk:∀o c A',ah A' (.h (my (.slice o (l.length+1) c) (l++[os]))::K2)->A'.Wf->A.next<=A'.next->aS Tryz.prog S K fu (eA a d (.slice o (l.length+1) c)) A') :
 aS Tryz.prog S K (⟨d,.call ⟨.builtin .append,#[x,y],#[41,41]⟩,none,3⟩::fu) a A:=by
 obtain⟨q,hq,h1⟩:=my.open hS hp;have hl:q.length=l.length:=by rw [<-hq,List.length_map]
 dsimp only [KF,aa,ag] at h1;have bO:∀o c A',ah A' (.h (cY 1 (.slice o (l.length+1) c) (q.length+1) (q.map Prod.fst++[u]))::.h (gb q)::K1)->ah A' (.h (my (.slice o (l.length+1) c) (l++[os]))::K2):=λo c A' h=>by
  have h2:ah A' (.h (cY 1 (.slice o (l.length+1) c) (q++[(u,os)]).length ((q++[(u,os)]).map Prod.fst))::.h (gb (q++[(u,os)]))::K2):=by
   have e6:gb (q++[(u,os)])=gb q*ir u os:=by
    rw [AA];show _*(ir u os*eC)=_;rw [du]
   rw [e6,List.length_append,List.map_append];refine bk.dK h ?_;show cY 1 _ _ _*(gb q*aE K1)=cY 1 _ _ _*((gb q*ir u os)*aE K2);rw [Bm.aE];show cY 1 (.slice o (l.length+1) c) (q.length+1) _*(gb q*(ir u os*aE K2))=_
   ac_rfl
  exact my.dA (q:=q++[(u,os)]) (by rw [List.map_append,hq];rfl) h2 (.s .z (.s .z .z))
 rw [<-hl] at hk bO;have lN:([u]:List Value).all Value.oneCell'=true:=by
  obtain⟨o1,c1,e1,_⟩:=dM.bE (ah.jQ h1 (.s (.s Bm)));rw [e1];rfl
 refine ye (P:=Tryz.prog) (size:=1) (m:=q.length) (cs:=q.map Prod.fst) Tryz.underlying41 Tryz.info117 Tryz.zero117 rfl rfl (by omega) (by decide) e1 e2 hw h1 .z hn rfl lN (by omega) (λA' h=>hs A' ?_) λo c A' h1 h2 h3=>hk o c A' (bO o c A' h1) h2 h3;have h3:ah A' K1:=h.tail;unfold ah at h3;rw [Bm.aE] at h3;exact bk.right h3
theorem Ye {l:List (List iq)} {os:List iq} {u:Value} {K2:List It} (e1:ia a x=v) (e2:ia a y=.slice (some ⟨n,0,none⟩) 1 1) (hw:A.Wf) (hS:ah A L) (hp:aP L [.h (my v l),.h (ir u os)] K2)
 (hn:A.bg n=some (.cells [u] true 1)) (bG:l.length<2 ^ 30) (hs:∀A',ah A' K2->S A')
 (hk:∀o c A',ah A' (.h (my (.slice o (l.length+1) c) (l++[os]))::K2)->A'.Wf->A.next<=A'.next->aS Tryz.prog S K fu (eA a d (.slice o (l.length+1) c)) A') :
 aS Tryz.prog S K (⟨d,.call ⟨.builtin .append,#[x,y],#[41,41]⟩,none,3⟩::fu) a A:=by
 have h1:ah A (.h (my v l)::.h (ir u os)::K2):=by
  unfold ah at hS ⊢;rw [hp.aE] at hS;refine bk.dK hS ?_;show (my v l*(ir u os*eC))*aE K2=my v l*(ir u os*aE K2);rw [du]
  ac_rfl
 exact VB e1 e2 hw h1 .z .z hn bG hs hk
end
theorem LJ {q:List vP} {i:Nat} (hi:i<q.length):∃R:HP,ee q=zX q[i]*R:=by
 refine⟨ee (q.take i)*ee (q.drop (i+1)),?_⟩;have e:q=q.take i++(q[i]::q.drop (i+1)):=by rw [<-List.drop_eq_getElem_cons hi,List.take_append_drop]
 have h:=congrArg ee e;rw [AM] at h;rw [h];show ee (q.take i)*(zX q[i]*ee (q.drop (i+1)))=_
 ac_rfl
theorem GY {A:AW} {L K:List It} {q:List vP} {i:Nat} (hi:i<q.length) (hS:ah A L) (hp:ay L (.h (ee q)) K):bx A .i64 q[i].2.1 q[i].1.reads/\bx A .i64 q[i].2.2 q[i].1.bK:=by
 obtain⟨R,e⟩:=LJ hi;unfold ah at hS;rw [hp.aE] at hS;have h2:bk A (ee q*aE K):=hS;rw [e] at h2;unfold zX at h2;exact⟨sF h2 (Q:=ap .i64 q[i].2.2 q[i].1.bK*R*aE K) (by ac_rfl),sF h2 (Q:=ap .i64 q[i].2.1 q[i].1.reads*R*aE K) (by ac_rfl)⟩
theorem Tp {q:List vP} {i:Nat} {e:zd} {r w:Value} (hi:i<q.length) (hx:q[i]=(e,r,w)) (hl:e.reads.length<2^38) {A:AW} {L K:List It} {k:Value->AW->Prop} (hw:A.Wf) (hS:ah A L) (hp:ay L (.h (ee q)) K)
 (hk:∀o c A',ah A' (.h (ap .i64 (.slice o e.reads.length c) e.reads)::L)->A'.Wf->A.le A'->k (.slice o e.reads.length c) A'):ax Tryz.prog 46 [r] A k:=by
 have h:=(GY hi hS hp).1;rw [hx] at h;refine bD (jq r e.reads A h (by omega)) ?_;rintro u A' ⟨h1,h2⟩ i8 _;obtain⟨o,c,rfl,_⟩:=h1.is.bE;exact hk o c A' (ap.gA hS hw h2 h1) i8 h2
theorem To {q:List vP} {i:Nat} {e:zd} {r w:Value} (hi:i<q.length) (hx:q[i]=(e,r,w)) (hl:e.bK.length<2^38) {A:AW} {L K:List It} {k:Value->AW->Prop} (hw:A.Wf) (hS:ah A L) (hp:ay L (.h (ee q)) K)
 (hk:∀o c A',ah A' (.h (ap .i64 (.slice o e.bK.length c) e.bK)::L)->A'.Wf->A.le A'->k (.slice o e.bK.length c) A'):ax Tryz.prog 46 [w] A k:=by
 have h:=(GY hi hS hp).2;rw [hx] at h;refine bD (jq w e.bK A h (by omega)) ?_;rintro u A' ⟨h1,h2⟩ i8 _;obtain⟨o,c,rfl,_⟩:=h1.is.bE;exact hk o c A' (ap.gA hS hw h2 h1) i8 h2
theorem Jq (q:List vP) {i:Nat} (hi:i<q.length):((eP q).drop (i*6)).take 6=uA q[i].1 q[i].2.1 q[i].2.2:=sz _ 6 (λ_=>rfl) q i hi
structure OI where
 f:WW
 t:Option Addr×Nat
 s:Option Addr×Nat
 e:Option Addr×Nat
 o:Option Addr×Nat
def zB (m:r9) (z:OI):List Value:=[j9 z.f.v0 (m.M 0),j9 z.f.v1 (m.M 1),.int .u64 ((m.M 2).getD 0 0),.int .u64 ((m.M 3).getD 0 0),.int .u64 ((m.M 4).getD 0 0),j9 z.f.v5 (m.M 5),j9 z.f.v6 (m.M 6),j9 z.f.v7 (m.M 7),.slice z.t.1 m.gJ.length z.t.2,.slice z.s.1 m.cG.length z.s.2,.slice z.e.1 m.lC.length z.e.2,.slice z.o.1 m.gJ.length z.o.2]
def NA (m:r9) (z:OI):List It:=[.h (tf m.M z.f),.h (vL (.slice z.t.1 m.gJ.length z.t.2) (m.gJ.map aU.d)),.h (mw (.slice z.s.1 m.cG.length z.s.2) m.cG),.h (fB (.slice z.e.1 m.lC.length z.e.2) m.lC),.h (my (.slice z.o.1 m.gJ.length z.o.2) (m.gJ.map aU.ga))]
end
end Go.Stx
