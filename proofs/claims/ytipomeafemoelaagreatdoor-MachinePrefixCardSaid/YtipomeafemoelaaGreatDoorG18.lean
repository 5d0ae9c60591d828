/-
 A script copied.
-/
import Derived.Test.YtipomeafemoelaaGreatDoorG17
set_option linter.unusedVariables false
set_option linter.unusedSimpArgs false
set_option linter.unusedSectionVars false
set_option maxRecDepth 20000
set_option maxHeartbeats 4000000
namespace Go.Stx
open Go Go.Proofs
attribute [local irreducible] TW bA cM aS ax aH cJ de
section
abbrev wY:List (Nat×Nat):=[(0,0),(1,0),(2,0),(3,0),(4,0),(5,0),(6,0),(7,2),(8,2),(9,3),(10,0),(11,3)]
open T2
variable [Gl]
variable [AF]
def fZ (q:List (Value×List aZ)):HP:=q.foldr (λy P=>lS y.1 y.2*P) eC
theorem Av (q r:List (Value×List aZ)):fZ (q++r)=fZ q*fZ r:=by
 induction q with
 | nil=>show fZ r=eC*fZ r;rw [gL]
 | cons y q ih=>
   show lS y.1 y.2*fZ (q++r)=(lS y.1 y.2*fZ q)*fZ r;rw [ih]
   ac_rfl
def Ky (v:Value) (q:List (Value×List aZ)):List It:=[.h (cY 1 v q.length (q.map Prod.fst)),.h (fZ q)]
def rA (v:Value) (l:List (List aZ)):HP:=pG λx:{ q:List (Value×List aZ) // q.map Prod.snd=l }=>aE (Ky v x.1)
section
variable {A:AW} {L K:List It} {v:Value}
theorem rA.open {l:List (List aZ)} (h:ah A L) (hp:ay L (.h (rA v l)) K):∃q,q.map Prod.snd=l/\ah A (Ky v q++K):=by
 obtain⟨⟨q,hq⟩,h⟩:=i9 h hp;exact⟨q,hq,h⟩
theorem rA.dA {l:List (List aZ)} {q:List (Value×List aZ)} (hq:q.map Prod.snd=l) (h:ah A L) (e:aP L (Ky v q) K):ah A (.h (rA v l)::K):=gN (g:=λx:{ q:List (Value×List aZ) // q.map Prod.snd=l }=>Ky v x.1) ⟨q,hq⟩ h e
theorem ah.Vs (h:ah A L):ah A (.h (rA (.slice none 0 0) [])::L):=by
 have h1:ah A (.h eC::L):=ah.lP h;have h2:ah A (.h (cY 1 (.slice none 0 0) 0 [])::.h eC::L):=cY.nil h1;exact rA.dA (q:=[]) rfl h2 (.s .z (.s .z .z))
end
section
variable {S:AW->Prop} {K:Fr->AW->Prop} {fu:List xu} {a:Fr} {A:AW} {d:Option Tmp} {x y:Operand} {n:Nat} {v:Value} {L K':List It}
theorem VA {l:List (List aZ)} {os:List aZ} {u:Value} {K1 K2:List It} (e1:ia a x=v) (e2:ia a y=.slice (some ⟨n,0,none⟩) 1 1) (hw:A.Wf) (hS:ah A L) (hp:ay L (.h (rA v l)) K1) (Bm:ay K1 (.h (lS u os)) K2)
 (hn:A.bg n=some (.cells [u] true 1)) (bG:l.length<2 ^ 30) (hs:∀A',ah A' K2->S A')
 (hk:∀o c A',ah A' (.h (rA (.slice o (l.length+1) c) (l++[os]))::K2)->A'.Wf->A.next<=A'.next->aS Tryz.prog S K fu (eA a d (.slice o (l.length+1) c)) A') :
 aS Tryz.prog S K (⟨d,.call ⟨.builtin .append,#[x,y],#[29,29]⟩,none,3⟩::fu) a A:=by
 obtain⟨q,hq,h1⟩:=rA.open hS hp;have hl:q.length=l.length:=by rw [<-hq,List.length_map]
 dsimp only [Ky,aa,ag] at h1;have bO:∀o c A',ah A' (.h (cY 1 (.slice o (l.length+1) c) (q.length+1) (q.map Prod.fst++[u]))::.h (fZ q)::K1)->ah A' (.h (rA (.slice o (l.length+1) c) (l++[os]))::K2):=λo c A' h=>by
  have h2:ah A' (.h (cY 1 (.slice o (l.length+1) c) (q++[(u,os)]).length ((q++[(u,os)]).map Prod.fst))::.h (fZ (q++[(u,os)]))::K2):=by
   have e6:fZ (q++[(u,os)])=fZ q*lS u os:=by
    rw [Av];show _*(lS u os*eC)=_;rw [du]
   rw [e6,List.length_append,List.map_append];refine bk.dK h ?_;show cY 1 _ _ _*(fZ q*aE K1)=cY 1 _ _ _*((fZ q*lS u os)*aE K2);rw [Bm.aE];show cY 1 (.slice o (l.length+1) c) (q.length+1) _*(fZ q*(lS u os*aE K2))=_
   ac_rfl
  exact rA.dA (q:=q++[(u,os)]) (by rw [List.map_append,hq];rfl) h2 (.s .z (.s .z .z))
 rw [<-hl] at hk bO;have lN:([u]:List Value).all Value.oneCell'=true:=by
  obtain⟨o1,c1,e1,_⟩:=dM.bE (ah.jQ h1 (.s (.s Bm)));rw [e1];rfl
 refine ye (P:=Tryz.prog) (size:=1) (m:=q.length) (cs:=q.map Prod.fst) Tryz.underlying29 Tryz.info75 Tryz.zero75 rfl rfl (by omega) (by decide) e1 e2 hw h1 .z hn rfl lN (by omega) (λA' h=>hs A' ?_) λo c A' h1 h2 h3=>hk o c A' (bO o c A' h1) h2 h3;have h3:ah A' K1:=h.tail;unfold ah at h3;rw [Bm.aE] at h3;exact bk.right h3
theorem Yd {l:List (List aZ)} {os:List aZ} {u:Value} {K2:List It} (e1:ia a x=v) (e2:ia a y=.slice (some ⟨n,0,none⟩) 1 1) (hw:A.Wf) (hS:ah A L) (hp:aP L [.h (rA v l),.h (lS u os)] K2)
 (hn:A.bg n=some (.cells [u] true 1)) (bG:l.length<2 ^ 30) (hs:∀A',ah A' K2->S A')
 (hk:∀o c A',ah A' (.h (rA (.slice o (l.length+1) c) (l++[os]))::K2)->A'.Wf->A.next<=A'.next->aS Tryz.prog S K fu (eA a d (.slice o (l.length+1) c)) A') :
 aS Tryz.prog S K (⟨d,.call ⟨.builtin .append,#[x,y],#[29,29]⟩,none,3⟩::fu) a A:=by
 have h1:ah A (.h (rA v l)::.h (lS u os)::K2):=by
  unfold ah at hS ⊢;rw [hp.aE] at hS;refine bk.dK hS ?_;show (rA v l*(lS u os*eC))*aE K2=rA v l*(lS u os*aE K2);rw [du]
  ac_rfl
 exact VA e1 e2 hw h1 .z .z hn bG hs hk
end
theorem D5 (v:Value) (p:List aZ) (A:AW) (h:jS A v p) (hl:p.length<2^30) :
 ax Tryz.prog 27 [v] A (λu A'=>dB A.next A' 5 u p.length (p.flatMap au)/\A.le A'):=by
 refine aF Tryz.func27 λhw=>?_;obtain⟨o,c,rfl,_⟩:=h.bE;revert hw;refine W cd cd ?_<;>(unhygienic intros)
 refine cW (λk fr A'=>∃(j:Nat) (sv:Value),k=p.length-j/\j<=p.length/\fr 0=.slice o p.length c/\fr 4=.int .i64 j/\fr 3=sv/\
  dB A.next A' 5 sv j ((p.take j).flatMap au)/\A.le A'/\A'.Wf) p.length ?_ ?_
 exact⟨0,_,by simp,by simp,rfl,rfl,rfl,dB.nil _ _ _,AW.le.refl A,hw⟩;rintro k fr A' ⟨j,sv,rfl,hj,g0,g4,g3,gB,eJ,i8⟩;by_cases bL:j<p.length
 case neg=>
  have wj:j=p.length:=by omega
  revert hw;(repeat first|clear hw|revert hc|revert R|revert K);refine W cd (J4 g0 g4 g3 bL) ?_<;>(unhygienic intros);rw [wj,List.take_length] at gB
  simpa using ⟨gB,eJ⟩
 have S7:IntKind.i64.wrap ((j:Int)+1)=((j+1:Nat):Int):=ai (by omega) (by omega);obtain⟨x1,c1,r1,w1,q1,q2,q3,q4⟩:=sy (f:=au) (λ_=>rfl) (dM.le eJ hw h) bL;injection q1 with q1 _ q5;subst q1 q5;obtain⟨v',A2,e1,e2,k2⟩:=M7 p[j] gB (by omega) eJ.next i8;have e3:(p.take (j+1)).flatMap au=(p.take j).flatMap au++au p[j]:=by rw [List.take_succ_eq_append_getElem bL,List.flatMap_append,List.flatMap_cons,List.flatMap_nil,List.append_nil]
 rw [<-e3] at e2;generalize p[j]=x at q4 e1;obtain⟨y1,y2,y3,y4,y5⟩:=x;dsimp only [au] at q4 e1;revert hw;(repeat first|clear hw|revert hc|revert R|revert K);refine W cd (Bs g0 g4 g3 bL q2 q3 q4 S7 e1 @AW.af) ?_<;>(unhygienic intros);refine⟨p.length-(j+1),by omega,j+1,v',rfl,by omega,?_,?_,?_,e2,k2.le A (Nat.le_refl _) eJ,k2.wf⟩;simp [g0];simp;simp
theorem ah.kp {A0 A:AW} {L K:List It} (hS:ah A L) (hp:ay L (.h (ma A0.bg)) K):ff A0 A:=by
 unfold ah at hS;rw [hp.aE] at hS;exact ff.KD hS
theorem Nl {A0:AW} {v:Value} {l:List Int} (h:bx A0 .i64 v l) (hl:l.length<2^38) {A:AW} {L K:List It} {k:Value->AW->Prop} (hw:A.Wf) (hS:ah A L) (hp:ay L (.h (ma A0.bg)) K)
 (hk:∀o c A',ah A' (.h (ap .i64 (.slice o l.length c) l)::L)->A'.Wf->A.le A'->k (.slice o l.length c) A'):ax Tryz.prog 26 [v] A k:=by
 refine bD (Nj v l A (dM.keeps (hS.kp hp) h) (by omega)) ?_;rintro u A' ⟨h1,h2⟩ i8 _;obtain⟨o,c,rfl,_⟩:=h1.is.bE;exact hk o c A' (ap.gA hS hw h2 h1) i8 h2
theorem BT (v:Value) (l:List Int) (A:AW) (h:bx A .u64 v l) (hl:l.length<2^39) :
 ax Tryz.prog 25 [v] A (λu A'=>dx A.next A' .u64 u l/\A.le A'):=by
 refine aF Tryz.func25 λhw=>?_;obtain⟨o,c,rfl,_⟩:=h.bE;revert hw;refine W cd cd ?_<;>(unhygienic intros)
 refine cW (λk fr A'=>∃(j:Nat) (sv:Value),k=l.length-j/\j<=l.length/\fr 0=.slice o l.length c/\fr 4=.int .i64 j/\fr 3=sv/\
  dx A.next A' .u64 sv (l.take j)/\A.le A'/\A'.Wf) l.length ?_ ?_
 exact⟨0,_,by simp,by simp,rfl,rfl,rfl,dx.nil _ _ _,AW.le.refl A,hw⟩;rintro k fr A' ⟨j,sv,rfl,hj,g0,g4,g3,gB,eJ,i8⟩;by_cases bL:j<l.length
 case neg=>
  have wj:j=l.length:=by omega
  revert hw;(repeat first|clear hw|revert hc|revert R|revert K);refine W cd (J4 g0 g4 g3 bL) ?_<;>(unhygienic intros);rw [wj,List.take_length] at gB
  simpa using ⟨gB,eJ⟩
 have S7:IntKind.i64.wrap ((j:Int)+1)=((j+1:Nat):Int):=ai (by omega) (by omega);obtain⟨p,bP,rfl,bI,hcell⟩:=(h.le eJ hw).at bL;obtain⟨v',A2,e1,e2,e3,e4,e5⟩:=DD (P:=Tryz.prog) (t:=28) l[j] Tryz.underlying28 Tryz.info35 Tryz.zero35 rfl rfl gB (by simp;omega) (by simp) eJ.next i8;revert hw;(repeat first|clear hw|revert hc|revert R|revert K);refine W cd (J8 g0 g4 g3 bL bI hcell S7 e1) ?_<;>(unhygienic intros);refine⟨l.length-(j+1),by omega,j+1,v',rfl,by omega,?_,?_,?_,?_,e3 A (Nat.le_refl _) eJ,e4⟩;simp [g0];simp;simp;rw [List.take_add_one,List.getElem?_eq_getElem bL];exact e2
theorem Nk {A0:AW} {v:Value} {l:List Int} (h:bx A0 .u64 v l) (hl:l.length<2^38) {A:AW} {L K:List It} {k:Value->AW->Prop} (hw:A.Wf) (hS:ah A L) (hp:ay L (.h (ma A0.bg)) K)
 (hk:∀o c A',ah A' (.h (ap .u64 (.slice o l.length c) l)::L)->A'.Wf->A.le A'->k (.slice o l.length c) A'):ax Tryz.prog 25 [v] A k:=by
 refine bD (BT v l A (dM.keeps (hS.kp hp) h) (by omega)) ?_;rintro u A' ⟨h1,h2⟩ i8 _;obtain⟨o,c,rfl,_⟩:=h1.is.bE;exact hk o c A' (ap.gA hS hw h2 h1) i8 h2
theorem Si {v:Value} {p:List aZ} {A:AW} (h:jS A v p) (hl:p.length<2^30) {L:List It} {k:Value->AW->Prop} (hw:A.Wf) (hS:ah A L)
 (hk:∀o c A',ah A' (.h (lS (.slice o p.length c) p)::L)->A'.Wf->A.le A'->k (.slice o p.length c) A'):ax Tryz.prog 27 [v] A k:=by
 refine bD (D5 v p A h hl) ?_;rintro u A' ⟨h1,h2⟩ i8 _;obtain⟨o,c,rfl,_⟩:=h1.is.bE;exact hk o c A' (cY.gA hS hw h2 h1) i8 h2
theorem Kx {A:AW} {L K:List It} {q:List (Value×List aZ)} {i:Nat} (hi:i<q.length) (hS:ah A L) (hp:ay L (.h (fZ q)) K):jS A q[i].1 q[i].2:=by
 have e:q=q.take i++(q[i]::q.drop (i+1)):=by rw [<-List.drop_eq_getElem_cons hi,List.take_append_drop]
 have h:=congrArg fZ e;rw [Av] at h;unfold ah at hS;rw [hp.aE] at hS;have h2:bk A (fZ q*aE K):=hS;rw [h] at h2;have h3:bk A (cY 5 q[i].1 q[i].2.length (q[i].2.flatMap au)*(fZ (q.take i)*fZ (q.drop (i+1))*aE K)):=by
  refine bk.dK h2 ?_;show fZ (q.take i)*(lS q[i].1 q[i].2*fZ (q.drop (i+1)))*aE K=lS q[i].1 q[i].2*(fZ (q.take i)*fZ (q.drop (i+1))*aE K)
  ac_rfl
 exact cY.is h3
theorem ah.Yl {A:AW} {L K:List It} {v:Value} {l:List (List aZ)} (h:ah A L) (hp:ay L (.h (rA v l)) K):gs A v l:=by
 obtain⟨q,h1,h2⟩:=rA.open h hp;dsimp only [Ky,aa,ag] at h2;subst h1;refine⟨q.map Prod.fst,by rw [List.length_map];exact ah.jQ h2 .z,λi hi=>?_⟩;rw [List.length_map] at hi;refine⟨q[i].1,by rw [List.getElem?_map,List.getElem?_eq_getElem hi];rfl,?_⟩;rw [List.getElem_map];exact Kx hi h2 (.s .z)
theorem Bc (c:bq) (vi vp vk:Value) (zs:List Int) (ps:List (List aZ)) (kl:List Int) (A:AW) (RY:bx A .u64 vi zs) (hp:gs A vp ps) (hk:bx A .i64 vk kl) (hl1:zs.length<2^30) (FD:ps.length<2^30) (hl3:kl.length<2^30) (nh:∀p∈ps,p.length<2^30) :
 ax Tryz.prog 9 [HK c vi vp vk] A (λu A'=>∃XN Am TV,u=HK c XN Am TV/\bx A' .u64 XN zs/\gs A' Am ps/\bx A' .i64 TV kl/\ff A A'):=by
 refine aF Tryz.func9 λhw=>?_;obtain⟨oi,ci,rfl,_⟩:=RY.bE;obtain⟨op,cp,rfl,_⟩:=hp.bE;obtain⟨ok,ck,rfl,_⟩:=hk.bE;obtain⟨lf,fi,kH,c0,c1,c2,c3,jB,kw,kI,kD,jk,lx⟩:=c;have hS:ah A [.h (ma A.bg)]:=by
  show bk A (ma A.bg*eC);rw [du];exact⟨A.bg,rfl,λi o h=>h⟩
 unfold HK jv bq.cells;simp only [aa,ag];have hq:=fk hS hw;revert hq hS hw;refine W (J1 (od wY)) (J1 bz) ?_<;>(unhygienic intros);refine FP (λfr A'=>A'.Wf/\fr 1=pv A.next/\fr 2=pv (A.next+1)/\∃PQ Rm NL M2 rb,fr 3=pv rb/\ah A' [.h (ap .u64 (.slice PQ zs.length Rm) zs),.h (ap .i64 (.slice NL kl.length M2) kl),.at rb (.cells [.int .i64 lf,.int .i64 fi,.int .i64 kH,.int .i64 c0,.int .i64 c1,.int .i64 c2,.int .i64 c3,.int .i64 jB,.int .i64 kw,.int .i64 kI,.int .i64 kD,.int .i64 jk,.bool lx,.slice PQ zs.length Rm,.slice none 0 0,.slice NL kl.length M2] true 1),.at A.next (.cells [.int .i64 lf,.int .i64 fi,.int .i64 kH,.int .i64 c0,.int .i64 c1,.int .i64 c2,.int .i64 c3,.int .i64 jB,.int .i64 kw,.int .i64 kI,.int .i64 kD,.int .i64 jk,.bool lx,.slice oi zs.length ci,.slice op ps.length cp,.slice ok kl.length ck] true 1),.at (A.next+1) (.cells [.int .i64 0,.int .i64 0,.int .i64 0,.int .i64 0,.int .i64 0,.int .i64 0,.int .i64 0,.int .i64 0,.int .i64 0,.int .i64 0,.int .i64 0,.int .i64 0,.bool false,.slice none 0 0,.slice none 0 0,.slice none 0 0] true 1),.h (ma A.bg)]) ?_ ?_
 . repeat' (first|(refine jX λR hR=>?_;simp [ai,ar,hq,AW.af,aB];try simp (disch:=omega) only [if_pos,if_neg,ai,ar])|(refine hR _ _ ?_;clear hR R)|(refine hK _ _ ?_;clear hK K)|refine nx ?_|(refine Md λR hR=>?_;simp [ai,ar,hq,AW.af,aB];try simp (disch:=omega) only [if_pos,if_neg,ai,ar])|(refine H0 (λR hR=>?_) (λR hR=>?_)<;>(simp [ai,ar,hq,AW.af,aB];try simp (disch:=omega) only [if_pos,if_neg,ai,ar]))|refine Mc ?_|refine wn λK hK=>?_|simp only [wS,wY]|simp only [bA,rg,kU,Option.map_none,Option.map_some,List.getElem?_toArray,List.getElem?_cons_zero,List.getElem?_cons_succ,List.getD_cons_zero,List.getD_cons_succ,Option.bind_some]|refine wl Tryz.mx wY (by decide +kernel) λK hK=>?_|(refine wt (λ_=>True) Tryz.mx [0,0,0,0,2,0,0,2,0,2,3] (.aD 0 (.aD 1 (.aD 2 (.aD 3 (.aD 5 (.aD 6 (.qD 4 (.qD 7 (.aD 8 (.aD 9 (.aD 10 .nil))) 9 (.aD 7 (.aD 8 (.aD 10 .nil)))) 9 (.aD 4 (.aD 7 (.aD 8 (.aD 10 .nil))))))))))) (by decide +kernel) λK hK=>?_)|(apply Nk RY (by omega);(·exact wA);(·exact sA);(·first|exact pA|exact kA);((first|rintro _ _ _ hS hw eJ|rintro _ _ hS hw eJ|rintro _ _ hS hw);(try refine⟨eJ,?_⟩);(try dsimp only [AW.aV] at hS);have hq:=fk hS hw))|(apply Nl hk (by omega);(·exact wA);(·exact sA);(·first|exact pA|exact kA);((first|rintro _ _ _ hS hw eJ|rintro _ _ hS hw eJ|rintro _ _ hS hw);(try refine⟨eJ,?_⟩);(try dsimp only [AW.aV] at hS);have hq:=fk hS hw))|(show cM _ _ _ _ _ _;refine nx ?_)|(refine wc rfl (λhc=>?_) (λhc=>?_)<;>(try simp at hc)<;>(try omega))|(refine ib (λhc=>?_) (λhc=>?_)<;>(try omega)<;>(try simp (disch:=omega) only [if_pos,if_neg])))
   all_goals(
    simp only [aL];refine⟨?_,by simp,by simp,?_⟩;exact wA;apply Exists.intro;apply Exists.intro;apply Exists.intro;apply Exists.intro;apply Exists.intro;refine And.intro (by simp;rfl) ?_;apply ah.bO
    (·exact sA)
    (·first|exact nM|exact nZ))
 clear hS hw hq;rintro fr A1 ⟨hw,h1,h2,PQ,Rm,NL,M2,rb,h3,hS⟩;generalize A.next=N at h1 h2 hS;have hq:=fk hS hw;revert hq hS hw;(repeat first|clear hq|clear hS|clear hw|revert hc|revert R|revert K);refine W (J1 (od wY)) (J4 h1 h2 h3 bz) ?_<;>(unhygienic intros)
 refine cW (λk fr A'=>A'.Wf/\∃(i:Nat) (vp2:Value),k=ps.length-i/\i<=ps.length/\fr 1=pv N/\fr 2=pv (N+1)/\fr 3=pv rb/\fr 4=.int .i64 i/\
  ah A' [.h (rA vp2 (ps.take i)),.h (ap .u64 (.slice PQ zs.length Rm) zs),.h (ap .i64 (.slice NL kl.length M2) kl),.at rb (.cells [.int .i64 lf,.int .i64 fi,.int .i64 kH,.int .i64 c0,.int .i64 c1,.int .i64 c2,.int .i64 c3,.int .i64 jB,.int .i64 kw,.int .i64 kI,.int .i64 kD,.int .i64 jk,.bool lx,.slice PQ zs.length Rm,vp2,.slice NL kl.length M2] true 1),.at N (.cells [.int .i64 lf,.int .i64 fi,.int .i64 kH,.int .i64 c0,.int .i64 c1,.int .i64 c2,.int .i64 c3,.int .i64 jB,.int .i64 kw,.int .i64 kI,.int .i64 kD,.int .i64 jk,.bool lx,.slice oi zs.length ci,.slice op ps.length cp,.slice ok kl.length ck] true 1),.at (N+1) (.cells [.int .i64 0,.int .i64 0,.int .i64 0,.int .i64 0,.int .i64 0,.int .i64 0,.int .i64 0,.int .i64 0,.int .i64 0,.int .i64 0,.int .i64 0,.int .i64 0,.bool false,.slice none 0 0,.slice none 0 0,.slice none 0 0] true 1),.h (ma A.bg)]) ps.length ?_ ?_
 exact⟨hw,0,.slice none 0 0,by omega,by omega,by simp [h1],by simp [h2],by simp [h3],by simp,ah.Vs hS⟩;clear hS hw hq h1 h2 h3;rintro k fr A2 ⟨hw,i,vp2,rfl,hi,h1,h2,h3,h4,hS⟩;have V7:ff A A2:=hS.kp (.s (.s (.s (.s (.s (.s .z))))));have hll:(ps.take i).length<2^30:=by have:=List.length_take_le i ps;omega
 by_cases bL:i<ps.length
 . obtain⟨us,u1,u2⟩:=hp;obtain⟨q0,bP,u,uq,bI,hcell,hu⟩:=gs.at (⟨us,dM.keeps V7 u1,λi hi=>let ⟨u,h3,h4⟩:=u2 i hi;⟨u,h3,dM.keeps V7 h4⟩⟩:gs A2 (.slice op ps.length cp) ps) bL;subst uq;have gW:(i:Int)<ps.length:=(by omega);have fU:=uR (i:=i);have Qq:=nh ps[i] (List.getElem_mem bL);have HM:ps.take (i+1)=ps.take i++[ps[i]]:=List.take_succ_eq_append_getElem bL;generalize ps.take i=lt at *;generalize ps[i]=p at *;have hq:=fk hS hw;refine aO ?_
   repeat' (first|(with_reducible apply Yd;(·first|(simp;done)|(simp;rfl));(·first|(simp;done)|(simp;rfl));(·exact wA);(·exact sA);(·first|exact pA|exact kA);(·first|exact AW.bM _ _|((repeat' (first|apply ay.z|apply ay.s));done)|(simp [hq];(repeat' (first|rfl|refine⟨rfl,?_⟩));done)|(simp;done)|(simp;rfl)|(simp [hq];done)|(simp [hq];rfl));(·first|omega|(simp;omega));(·intro _ _;trivial);rintro _ _ _ hS hw _;(try dsimp only [AW.aV] at hS);have hq:=fk hS hw)|(refine jX λR hR=>?_;simp [ai,ar,hq,h1,h2,h3,h4,bL,gW,fU,bI,hcell,AW.af,aB];try simp (disch:=omega) only [if_pos,if_neg,ai,ar])|(refine hR _ _ ?_;clear hR R)|(refine hK _ _ ?_;clear hK K)|refine nx ?_|refine wn λK hK=>?_|simp only [wS,wY]|refine wl Tryz.mx wY (by decide +kernel) λK hK=>?_|(apply Si hu Qq;(·exact wA);(·exact sA);((first|rintro _ _ _ hS hw eJ|rintro _ _ hS hw eJ|rintro _ _ hS hw);(try refine⟨eJ,?_⟩);(try dsimp only [AW.aV] at hS);have hq:=fk hS hw))|(show cM _ _ _ _ _ _;refine nx ?_)|(refine wc rfl (λhc=>?_) (λhc=>?_)<;>(try simp at hc)<;>(try omega))|(refine ib (λhc=>?_) (λhc=>?_)<;>(try omega)<;>(try simp (disch:=omega) only [if_pos,if_neg])))
   refine⟨ps.length-(i+1),by omega,?_,i+1,?_⟩;exact wA;rw [HM];apply Exists.intro;refine⟨rfl,by omega,by simp [h1],by simp [h2],by simp [h3],by simp,?_⟩;apply ah.bO
   (·exact sA)
   (·first|exact nM|exact nZ)
 have tJ:i=ps.length:=by omega
 subst tJ;have gW:¬((ps.length:Int)<ps.length):=by omega
 rw [List.take_length] at hS;obtain⟨qe,HO,tM⟩:=rA.open hS .z;have VW:qe.length=ps.length:=by rw [<-HO,List.length_map]
 dsimp only [Ky,aa,ag] at tM;obtain⟨PT,Rq,rfl,_⟩:=dM.bE (ah.jQ tM .z);clear tM;rw [VW] at hS;have hq:=fk hS hw;refine aO ?_;revert hq hS hw;(repeat first|clear hq|clear hS|clear hw|revert hc|revert R|revert K);refine W (J1 (od wY)) (J6 h1 h2 h3 h4 gW bz) ?_<;>(unhygienic intros);refine⟨_,by(simp [h2,AW.af];rfl),.slice PQ zs.length Rm,.slice PT ps.length Rq,.slice NL kl.length M2,by simp,?_⟩
 have bO:∀(B:AW) (o:dH),ah B [.h (rA (.slice PT ps.length Rq) ps),.h (ap .u64 (.slice PQ zs.length Rm) zs),.h (ap .i64 (.slice NL kl.length M2) kl),.at rb (.cells [.int .i64 lf,.int .i64 fi,.int .i64 kH,.int .i64 c0,.int .i64 c1,.int .i64 c2,.int .i64 c3,.int .i64 jB,.int .i64 kw,.int .i64 kI,.int .i64 kD,.int .i64 jk,.bool lx,.slice PQ zs.length Rm,.slice PT ps.length Rq,.slice NL kl.length M2] true 1),.at N (.cells [.int .i64 lf,.int .i64 fi,.int .i64 kH,.int .i64 c0,.int .i64 c1,.int .i64 c2,.int .i64 c3,.int .i64 jB,.int .i64 kw,.int .i64 kI,.int .i64 kD,.int .i64 jk,.bool lx,.slice oi zs.length ci,.slice op ps.length cp,.slice ok kl.length ck] true 1),.at (N+1) o,.h (ma A.bg)]->bx B .u64 (.slice PQ zs.length Rm) zs/\gs B (.slice PT ps.length Rq) ps/\bx B .i64 (.slice NL kl.length M2) kl/\ff A B:=λB o h=>
  ⟨ah.qT h (.s .z),ah.Yl h .z,ah.qT h (.s (.s .z)),h.kp (.s (.s (.s (.s (.s (.s .z))))))⟩
 apply bO;apply ah.bO
 (·exact sA)
 (·first|exact nM|exact nZ)
end
def jG (n:Int):Prop:=n=0\/n=1\/n=5\/n=8\/n=11\/n=12
structure JO (x:aZ):Prop where
 e:b8 x=0
 j:x.op=4\/x.op=5\/x.op=6->x.bQ=0
 a:x.op=3->jG x.bQ
def Aj (b:Bool) (o:Int):Prop:=(o=1\/o=2\/o=3\/o=4\/o=5\/o=6)\/(b=false/\(o=7\/o=12\/o=13\/o=16\/o=17))\/(b=true/\(o=8\/o=9\/o=10\/o=11\/o=14\/o=15))
def opN (b:Bool) (o:Int):Bool:=if o=7 then true else if o=8 then false else b
inductive nc:List aZ->Bool->Prop
 | nil:nc [] false
 | vy {ps:List aZ} {b:Bool} {x:aZ}:nc ps b->JO x->Aj b x.op->nc (ps++[x]) (opN b x.op)
theorem NW {p r:List aZ} {k:Nat} (h:k<p.length):dS (p++r) k=dS p k:=by
 unfold dS;rw [List.getElem?_append_left h]
theorem uT {p r:List aZ}:∀{k:Nat},k<=p.length->bS (p++r) k=bS p k
 | 0,_=>rfl
 | k+1,h=>by
   rw [bS,bS,uT (k:=k) (by omega),NW (by omega)]
theorem nc.Ve {ps:List aZ} {b:Bool} (h:nc ps b):(bS ps ps.length).isSome=b/\∀k x,ps[k]? = some x->JO x/\Aj (bS ps k).isSome x.op:=by
 induction h with
 | nil=>exact⟨rfl,λk x hk=>by simp at hk⟩
 | @vy ps b x h hx ho ih=>
   obtain⟨h1,h2⟩:=ih;have hk:dS (ps++[x]) ps.length=x.op:=lm (by simp);refine⟨?_,λk y hy=>?_⟩
   . rw [List.length_append,List.length_singleton,bS,uT (Nat.le_refl _),hk];unfold opN;cases hs:bS ps ps.length with
     | none=>
       rw [hs] at h1;subst h1;by_cases h7:x.op=7;rw [if_pos h7];simp [h7];simp only;rw [if_neg h7,if_neg h7];by_cases h8:x.op=8;rw [if_pos h8];rfl;rw [if_neg h8]
     | some q=>
       rw [hs] at h1;subst h1;have h7:¬x.op=7:=by
        intro h7;rcases ho with h|⟨h,_⟩|⟨_,h⟩;omega;cases h;omega
       simp only;rw [if_neg h7];by_cases h8:x.op=8;rw [if_pos h8,if_pos h8];rfl;rw [if_neg h8,if_neg h8]
   by_cases hl:k<ps.length;rw [List.getElem?_append_left hl] at hy;rw [uT (Nat.le_of_lt hl)];exact h2 k y hy;have hkl:k<(ps++[x]).length:=(List.getElem?_eq_some_iff.1 hy).1;rw [List.length_append,List.length_singleton] at hkl;have e:k=ps.length:=(by omega);subst e;rw [List.getElem?_append_right (Nat.le_refl _)] at hy;simp at hy;subst hy;rw [uT (Nat.le_refl _),h1];exact⟨hx,ho⟩
theorem Dv {Fb:Nat->Option Nat->Int->Bool} {p:List aZ} (h:∀j x,p[j]? = some x->sD Fb j (bS p j) x=0) (he:bS p p.length=none) :
 ∀(l:List aZ) (k:Nat),p.drop k=l->k<=p.length->(iC Fb l k (bS p k)).2=0
 | [],k,hd,hk=>by
   have:p.length<=k:=List.drop_eq_nil_iff.1 hd;have e:k=p.length:=(by omega);subst e;rw [he];rfl
 | x::l,k,hd,hk=>by
   have bL:k<p.length:=by
    rcases Nat.lt_or_ge k p.length with h1|h1;exact h1;rw [List.drop_eq_nil_of_le h1] at hd;cases hd
   rw [List.drop_eq_getElem_cons bL] at hd;obtain⟨h1,h2⟩:=List.cons.inj hd;have hx:p[k]? = some x:=(by rw [List.getElem?_eq_getElem bL,h1]);have h0:=h k x hx;unfold iC;rw [if_pos h0,w6 hx h0];exact Dv h he l (k+1) h2 bL
theorem SK {p:List aZ} {k:Nat} {x:aZ} (hx:p[k]? = some x) (ho:x.op=4\/x.op=5\/x.op=6):fq p k (bS p k) 0=true:=by
 have bL:k<p.length:=(List.getElem?_eq_some_iff.1 hx).1;have e:=lm hx;unfold fq;simp only [Int.toNat_zero,Nat.add_zero];rw [if_neg (by omega)];cases hs:bS p k with
 | none=>
   simp only [Bool.not_eq_true'];unfold gx;rw [List.any_eq_false];intro b hb;have:=List.mem_range.1 hb;have:decide (k<b)=false:=by simp;omega
   simp [this]
 | some b=>
   simp only [decide_eq_true_eq];obtain⟨h1,h2,h3⟩:=jU hs;unfold di;obtain⟨g1,g2,g3,g4⟩:=lX (p:=p) (k:=b+1) (by omega);rcases Nat.lt_or_ge (kX p (b+1)) (k+1) with h4|h4;exfalso;have h5:=g4 (by omega);rcases Nat.lt_or_ge (kX p (b+1)) k with h6|h6;exact h3 _ (by omega) h6 h5;have:kX p (b+1)=k:=by omega
   rw [this,e] at h5;omega;exact h4
theorem nc.ok {ps:List aZ} (h:nc ps false) (hl:ps.length<=64):(cD ps).2=0:=by
 obtain⟨h1,h2⟩:=h.Ve;have he:bS ps ps.length=none:=by simpa using h1
 unfold cD;rw [if_neg (by omega)];refine Dv (λj x hx=>?_) he ps 0 rfl (Nat.zero_le _);obtain⟨g,o⟩:=h2 j x hx;have ge:=g.e;have gj:=g.j;have hj:=λho=>SK hx ho;revert o hj;generalize bS ps j=sb;intro o hj;unfold sD;rw [if_pos ge,if_neg,if_neg]
 . cases hk:dW x with
   | none=>rfl
   | some n=>
     obtain⟨k1,k2,k3⟩:=sl hk;simp only;rw [k1,gj k3,if_pos (hj k3)]
 unfold bp;rw [if_pos ge];rcases o with o|⟨ob,o⟩|⟨ob,o⟩;rw [if_neg (by omega),if_neg (by omega)];simp;rw [if_neg (by omega),if_pos (by omega),ob];simp;rw [if_pos (by omega),ob];simp;rcases o with o|⟨ob,o⟩|⟨ob,o⟩;omega;rw [ob];simp;omega;rw [ob];simp;omega
theorem nc.d6 {ps:List aZ} {b:Bool} (h:nc ps b):∀x∈ps,x.op=3->jG x.bQ:=λx hx h3=>by
 obtain⟨k,hk⟩:=List.mem_iff_getElem?.1 hx;exact(h.Ve.2 k x hk).1.a h3
section
namespace TMdW
theorem mr [Gl] {A:AW} {L:List It} {T:Prop} (hS:ah A L) (hw:A.Wf) (h':(aR A L/\bj A L/\bN L)=T:=by first|(dsimp only [aa,ag,aR,bj,bN,eE];done)|exact rfl):T:=h'▸hS.eD hw
end TMdW
open TMdW
variable [Gl]
theorem GM (op:Int) (n:Nat) (hn:(n:Int)<18446744073709551616):∃x:aZ,x.op=op/\(1<=op/\op<=17->JO x)/\∀A,ax Tryz.prog 52 [.int .i64 op,.int .u64 n] A (λu A'=>u=.agg (au x).toArray/\A=A'):=by
 obtain⟨va,ha⟩:∃va,IntKind.i64.wrap ((n:Int).tmod 4)=va:=⟨_,rfl⟩;obtain⟨vb,hb⟩:∃vb,IntKind.i64.wrap (((n:Int) / 4).tmod 4)=vb:=⟨_,rfl⟩;obtain⟨vc,kO⟩:∃vc,IntKind.i64.wrap (((n:Int) / 16).tmod 4)=vc:=⟨_,rfl⟩;obtain⟨kk,hk⟩:∃kk,IntKind.i64.wrap (((n:Int) / 64).tmod 1024)=kk:=⟨_,rfl⟩;have S6:0<=kk/\kk<1024:=by
  rw [<-hk,Int.tmod_eq_emod_of_nonneg (by omega),ai (by omega) (by omega)];omega
 obtain⟨r7,h7⟩:∃r7,kk.tmod 7=r7:=⟨_,rfl⟩;obtain⟨r6,h6⟩:∃r6,kk.tmod 6=r6:=⟨_,rfl⟩;obtain⟨r5,h5⟩:∃r5,kk.tmod 5=r5:=⟨_,rfl⟩;obtain⟨r3,h3⟩:∃r3,kk.tmod 3=r3:=⟨_,rfl⟩;obtain⟨r2,h2⟩:∃r2,r3.tmod 2=r2:=⟨_,rfl⟩;have h60:0<=r6/\r6<6:=by rw [<-h6,Int.tmod_eq_emod_of_nonneg S6.1];omega
 have h30:0<=r3/\r3<3:=by rw [<-h3,Int.tmod_eq_emod_of_nonneg S6.1];omega
 obtain⟨r1,h1⟩:∃r1,IntKind.i64.wrap (1+r3)=r1:=⟨_,rfl⟩;have hva:0<=va/\va<4:=by rw [<-ha,Int.tmod_eq_emod_of_nonneg (by omega),ai (by omega) (by omega)];omega
 have hvb:0<=vb/\vb<4:=by rw [<-hb,Int.tmod_eq_emod_of_nonneg (by omega),ai (by omega) (by omega)];omega
 have hvc:0<=vc/\vc<4:=by rw [<-kO,Int.tmod_eq_emod_of_nonneg (by omega),ai (by omega) (by omega)];omega
 have h20:0<=r2/\r2<2:=by rw [<-h2,Int.tmod_eq_emod_of_nonneg h30.1];omega
 have MS:1<=r1/\r1<4:=by rw [<-h1,ai (by omega) (by omega)];omega
 have bO:∀(A:AW) (v:Value) (o o':dH),v=v->A.le ((A.alloc o).set A.next (some o')):=λA v o o' _=>by
  refine⟨by simp,λi hi=>?_⟩;have e1:¬i=A.next:=by omega
  have e2:¬A.next=i:=by omega
  simp [AW.dF,AW.eg,e1,e2]
 by_cases o1:op=1
 . subst o1;refine⟨⟨1,va,0,0,r7⟩,rfl,λ_=>⟨by simp [b8,gm,lF,jT,lE,eT]<;>omega,by simp,by simp [jG]⟩,λA=>ax.qt (cL.agg (by simp [au])) (λhw=>?_) (by kernel_rfl)⟩;refine aF Tryz.func52 λ_=>?_;refine W cd (Bs ha hb kO hk h7 h5 h3 h2 h1 bz) ?_<;>intros
   all_goals(refine ⟨_,by simp [gX,AW.af];rfl,by simp [au],?_⟩;repeat' (first|exact AW.le.refl _|refine AW.le.set ?_ (by simp<;>omega) _|refine AW.le.trans ?_ (AW.le.alloc _ _)))
 by_cases o2:op=2
 . subst o2;refine⟨⟨2,va,vb,0,0⟩,rfl,λ_=>⟨by simp [b8,gm,lF,jT,lE,eT]<;>omega,by simp,by simp [jG]⟩,λA=>ax.qt (cL.agg (by simp [au])) (λhw=>?_) (by kernel_rfl)⟩;refine aF Tryz.func52 λ_=>?_;refine W cd (HE ha hb kO hk h7 h5 h3 h2 h1 o1 bz) ?_<;>intros
   all_goals(refine ⟨_,by simp [gX,AW.af];rfl,by simp [au],?_⟩;repeat' (first|exact AW.le.refl _|refine AW.le.set ?_ (by simp<;>omega) _|refine AW.le.trans ?_ (AW.le.alloc _ _)))
 by_cases o3:op=3
 . subst o3;have hr:r6=0\/r6=1\/r6=2\/r6=3\/r6=4\/r6=5:=(by omega);rcases hr with rfl|rfl|rfl|rfl|rfl|rfl
   . skip
     refine⟨⟨3,va,vb,vc,0⟩,rfl,λ_=>⟨by simp [b8,gm,lF,jT,lE,eT]<;>omega,by simp,by simp [jG]⟩,λA=>ax.qt (cL.agg (by simp [au])) (λhw=>?_) (by kernel_rfl)⟩;refine aF Tryz.func52 λ_=>?_;refine W cd (mi ha hb kO hk h7 h5 h3 h2 h1 h6 o1 o2 bz) ?_<;>intros
     all_goals(refine ⟨_,by simp [gX,AW.af];rfl,by simp [au],?_⟩;repeat' (first|exact AW.le.refl _|refine AW.le.set ?_ (by simp<;>omega) _|refine AW.le.trans ?_ (AW.le.alloc _ _)))
   . skip
     refine⟨⟨3,va,vb,vc,1⟩,rfl,λ_=>⟨by simp [b8,gm,lF,jT,lE,eT]<;>omega,by simp,by simp [jG]⟩,λA=>ax.qt (cL.agg (by simp [au])) (λhw=>?_) (by kernel_rfl)⟩;refine aF Tryz.func52 λ_=>?_;refine W cd (mi ha hb kO hk h7 h5 h3 h2 h1 h6 o1 o2 bz) ?_<;>intros
     all_goals(refine ⟨_,by simp [gX,AW.af];rfl,by simp [au],?_⟩;repeat' (first|exact AW.le.refl _|refine AW.le.set ?_ (by simp<;>omega) _|refine AW.le.trans ?_ (AW.le.alloc _ _)))
   . skip
     refine⟨⟨3,va,vb,vc,5⟩,rfl,λ_=>⟨by simp [b8,gm,lF,jT,lE,eT]<;>omega,by simp,by simp [jG]⟩,λA=>ax.qt (cL.agg (by simp [au])) (λhw=>?_) (by kernel_rfl)⟩;refine aF Tryz.func52 λ_=>?_;refine W cd (mi ha hb kO hk h7 h5 h3 h2 h1 h6 o1 o2 bz) ?_<;>intros
     all_goals(refine ⟨_,by simp [gX,AW.af];rfl,by simp [au],?_⟩;repeat' (first|exact AW.le.refl _|refine AW.le.set ?_ (by simp<;>omega) _|refine AW.le.trans ?_ (AW.le.alloc _ _)))
   . skip
     refine⟨⟨3,va,vb,vc,8⟩,rfl,λ_=>⟨by simp [b8,gm,lF,jT,lE,eT]<;>omega,by simp,by simp [jG]⟩,λA=>ax.qt (cL.agg (by simp [au])) (λhw=>?_) (by kernel_rfl)⟩;refine aF Tryz.func52 λ_=>?_;refine W cd (mi ha hb kO hk h7 h5 h3 h2 h1 h6 o1 o2 bz) ?_<;>intros
     all_goals(refine ⟨_,by simp [gX,AW.af];rfl,by simp [au],?_⟩;repeat' (first|exact AW.le.refl _|refine AW.le.set ?_ (by simp<;>omega) _|refine AW.le.trans ?_ (AW.le.alloc _ _)))
   . skip
     refine⟨⟨3,va,vb,vc,11⟩,rfl,λ_=>⟨by simp [b8,gm,lF,jT,lE,eT]<;>omega,by simp,by simp [jG]⟩,λA=>ax.qt (cL.agg (by simp [au])) (λhw=>?_) (by kernel_rfl)⟩;refine aF Tryz.func52 λ_=>?_;refine W cd (mi ha hb kO hk h7 h5 h3 h2 h1 h6 o1 o2 bz) ?_<;>intros
     all_goals(refine ⟨_,by simp [gX,AW.af];rfl,by simp [au],?_⟩;repeat' (first|exact AW.le.refl _|refine AW.le.set ?_ (by simp<;>omega) _|refine AW.le.trans ?_ (AW.le.alloc _ _)))
   skip
   refine⟨⟨3,va,vb,vc,12⟩,rfl,λ_=>⟨by simp [b8,gm,lF,jT,lE,eT]<;>omega,by simp,by simp [jG]⟩,λA=>ax.qt (cL.agg (by simp [au])) (λhw=>?_) (by kernel_rfl)⟩;refine aF Tryz.func52 λ_=>?_;refine W cd (mi ha hb kO hk h7 h5 h3 h2 h1 h6 o1 o2 bz) ?_<;>intros
   all_goals(refine ⟨_,by simp [gX,AW.af];rfl,by simp [au],?_⟩;repeat' (first|exact AW.le.refl _|refine AW.le.set ?_ (by simp<;>omega) _|refine AW.le.trans ?_ (AW.le.alloc _ _)))
 by_cases mH:op=10
 . subst mH;refine⟨⟨10,va,vb,0,r5⟩,rfl,λ_=>⟨by simp [b8,gm,lF,jT,lE,eT]<;>omega,by simp,by simp [jG]⟩,λA=>ax.qt (cL.agg (by simp [au])) (λhw=>?_) (by kernel_rfl)⟩;refine aF Tryz.func52 λ_=>?_;refine W cd (mi ha hb kO hk h7 h5 h3 h2 h1 o1 o2 o3 bz) ?_<;>intros
   all_goals(refine ⟨_,by simp [gX,AW.af];rfl,by simp [au],?_⟩;repeat' (first|exact AW.le.refl _|refine AW.le.set ?_ (by simp<;>omega) _|refine AW.le.trans ?_ (AW.le.alloc _ _)))
 by_cases o11:op=11
 . subst o11;refine⟨⟨11,va,vb,0,r5⟩,rfl,λ_=>⟨by simp [b8,gm,lF,jT,lE,eT]<;>omega,by simp,by simp [jG]⟩,λA=>ax.qt (cL.agg (by simp [au])) (λhw=>?_) (by kernel_rfl)⟩;refine aF Tryz.func52 λ_=>?_;refine W cd (vO ha hb kO hk h7 h5 h3 h2 h1 o1 o2 o3 mH bz) ?_<;>intros
   all_goals(refine ⟨_,by simp [gX,AW.af];rfl,by simp [au],?_⟩;repeat' (first|exact AW.le.refl _|refine AW.le.set ?_ (by simp<;>omega) _|refine AW.le.trans ?_ (AW.le.alloc _ _)))
 by_cases o12:op=12
 . subst o12;refine⟨⟨12,va,vb,0,r5⟩,rfl,λ_=>⟨by simp [b8,gm,lF,jT,lE,eT]<;>omega,by simp,by simp [jG]⟩,λA=>ax.qt (cL.agg (by simp [au])) (λhw=>?_) (by kernel_rfl)⟩;refine aF Tryz.func52 λ_=>?_;refine W cd (O4 ha hb kO hk h7 h5 h3 h2 h1 o1 o2 o3 mH o11 bz) ?_<;>intros
   all_goals(refine ⟨_,by simp [gX,AW.af];rfl,by simp [au],?_⟩;repeat' (first|exact AW.le.refl _|refine AW.le.set ?_ (by simp<;>omega) _|refine AW.le.trans ?_ (AW.le.alloc _ _)))
 by_cases o13:op=13
 . subst o13;refine⟨⟨13,va,vb,0,r5⟩,rfl,λ_=>⟨by simp [b8,gm,lF,jT,lE,eT]<;>omega,by simp,by simp [jG]⟩,λA=>ax.qt (cL.agg (by simp [au])) (λhw=>?_) (by kernel_rfl)⟩;refine aF Tryz.func52 λ_=>?_;refine W cd (JN ha hb kO hk h7 h5 h3 h2 h1 o1 o2 o3 mH o11 o12 bz) ?_<;>intros
   all_goals(refine ⟨_,by simp [gX,AW.af];rfl,by simp [au],?_⟩;repeat' (first|exact AW.le.refl _|refine AW.le.set ?_ (by simp<;>omega) _|refine AW.le.trans ?_ (AW.le.alloc _ _)))
 by_cases o14:op=14
 . subst o14;refine⟨⟨14,va,0,0,r2⟩,rfl,λ_=>⟨by simp [b8,gm,lF,jT,lE,eT]<;>omega,by simp,by simp [jG]⟩,λA=>ax.qt (cL.agg (by simp [au])) (λhw=>?_) (by kernel_rfl)⟩;refine aF Tryz.func52 λ_=>?_;refine W cd (TS ha hb kO hk h7 h5 h3 h2 h1 o1 o2 o3 mH o11 o12 o13 bz) ?_<;>intros
   all_goals(refine ⟨_,by simp [gX,AW.af];rfl,by simp [au],?_⟩;repeat' (first|exact AW.le.refl _|refine AW.le.set ?_ (by simp<;>omega) _|refine AW.le.trans ?_ (AW.le.alloc _ _)))
 by_cases o15:op=15
 . subst o15;refine⟨⟨15,va,0,0,0⟩,rfl,λ_=>⟨by simp [b8,gm,lF,jT,lE,eT]<;>omega,by simp,by simp [jG]⟩,λA=>ax.qt (cL.agg (by simp [au])) (λhw=>?_) (by kernel_rfl)⟩;refine aF Tryz.func52 λ_=>?_;refine W cd (RO ha hb kO hk h7 h5 h3 h2 h1 o1 o2 o3 mH o11 o12 o13 o14 bz) ?_<;>intros
   all_goals(refine ⟨_,by simp [gX,AW.af];rfl,by simp [au],?_⟩;repeat' (first|exact AW.le.refl _|refine AW.le.set ?_ (by simp<;>omega) _|refine AW.le.trans ?_ (AW.le.alloc _ _)))
 by_cases o17:op=17
 . subst o17;refine⟨⟨17,va,0,0,0⟩,rfl,λ_=>⟨by simp [b8,gm,lF,jT,lE,eT]<;>omega,by simp,by simp [jG]⟩,λA=>ax.qt (cL.agg (by simp [au])) (λhw=>?_) (by kernel_rfl)⟩;refine aF Tryz.func52 λ_=>?_;refine W cd (J19 ha hb kO hk h7 h5 h3 h2 h1 o1 o2 o3 mH o11 o12 o13 o14 o15 bz) ?_<;>intros
   all_goals(refine ⟨_,by simp [gX,AW.af];rfl,by simp [au],?_⟩;repeat' (first|exact AW.le.refl _|refine AW.le.set ?_ (by simp<;>omega) _|refine AW.le.trans ?_ (AW.le.alloc _ _)))
 by_cases o7:op=7
 . subst o7;refine⟨⟨7,0,0,0,r1⟩,rfl,λ_=>⟨by simp [b8,gm,lF,jT,lE,eT]<;>omega,by simp,by simp [jG]⟩,λA=>ax.qt (cL.agg (by simp [au])) (λhw=>?_) (by kernel_rfl)⟩;refine aF Tryz.func52 λ_=>?_;refine W cd (J20 ha hb kO hk h7 h5 h3 h2 h1 o1 o2 o3 mH o11 o12 o13 o14 o15 o17 (J1 bz)) ?_<;>intros
   all_goals(refine ⟨_,by simp [gX,AW.af];rfl,by simp [au],?_⟩;repeat' (first|exact AW.le.refl _|refine AW.le.set ?_ (by simp<;>omega) _|refine AW.le.trans ?_ (AW.le.alloc _ _)))
 refine⟨⟨op,0,0,0,0⟩,rfl,λho=>?_,λA=>ax.qt (cL.agg (by simp [au])) (λhw=>?_) (by kernel_rfl)⟩;have Xj:op=4\/op=5\/op=6\/op=8\/op=9\/op=16:=by omega
 rcases Xj with rfl|rfl|rfl|rfl|rfl|rfl<;>exact⟨by decide,by simp,by simp⟩;refine aF Tryz.func52 λ_=>?_;refine W cd (J20 ha hb kO hk h7 h5 h3 h2 h1 o1 o2 o3 mH o11 o12 o13 o14 o15 o17 (J2 o7 bz)) ?_<;>intros
 all_goals(refine ⟨_,by simp [gX,AW.af];rfl,by simp [au],?_⟩;repeat' (first|exact AW.le.refl _|refine AW.le.set ?_ (by simp<;>omega) _|refine AW.le.trans ?_ (AW.le.alloc _ _)))
end
section
namespace TMdY
theorem mr [Gl] {A:AW} {L:List It} {T:Prop} (hS:ah A L) (hw:A.Wf) (h':(aR A L/\bj A L/\bN L)=T:=by first|(dsimp only [aa,ag,aR,bj,bN,eE];done)|exact rfl):T:=h'▸hS.eD hw
end TMdY
open TMdY
variable [Gl]
structure PJ (A0 A:AW) (vp vj:Value) (ps:List aZ) (jl:List Int) (N:Nat):Prop where
 own:dB A0.next A 5 vp ps.length (ps.flatMap au)
 Cx:dx A0.next A .i64 vj jl
 range:∀x∈jl,0<=x/\x<(N:Int)
 Ju:∀j,fa vp=some j->fa vj≠some j
 le:A0.le A
 wf:A.Wf
theorem PJ.grow {A0 A B:AW} {vp vj:Value} {ps:List aZ} {jl:List Int} {N:Nat} (h:PJ A0 A vp vj ps jl N) (hl:A.le B) (hw:B.Wf):PJ A0 B vp vj ps jl N:=
 ⟨h.own.le hl h.wf,dB.le hl h.wf h.Cx,h.range,h.Ju,h.le.trans hl,hw⟩
theorem PJ.ne {A0 A:AW} {vp vj:Value} {ps:List aZ} {jl:List Int} {N:Nat} (h:PJ A0 A vp vj ps jl N) {b:Nat} (hb:A.next<=b):fa vp≠some b/\fa vj≠some b:=by
 refine⟨λe=>?_,λe=>?_⟩;have:=h.own.lt h.wf e;omega;have:=dB.lt h.Cx h.wf e;omega
theorem PJ.KY {A0 A:AW} {vp vj:Value} {ps:List aZ} {jl:List Int} (h:PJ A0 A vp vj ps jl ps.length) (hj:jl.length<2 ^ 30) {b:Nat} {o:dH} (hb:A.bg b=some o) (hU:fa vp≠some b/\fa vj≠some b) :
 ∃RQ A',eU Tryz.prog (A.alloc (.cells [.int .i64 ps.length] true 1)) 24 24 vj (.slice (some ⟨A.next,0,none⟩) 1 1)=some (RQ,A')/\PJ A0 A' vp RQ ps (jl++[(ps.length:Int)]) (ps.length+1)/\A'.bg b=some o/\fa vp≠some b:=by
 have QR:=h.wf.lt hb;obtain⟨RQ,A',e,h2,k⟩:=TK (ps.length:Int) h.Cx hj h.le.next h.wf;refine⟨RQ,A',e,⟨h.own.jO λj hj=>k.bg j (h.own.lt h.wf hj).2 (h.Ju j hj),h2,λx hx=>?_,λj hj tm=>?_,k.le A0 (Nat.le_refl _) h.le,k.wf⟩,?_,hU.1⟩;rcases List.mem_append.1 hx with hx|hx;have:=h.range x hx;omega;simp at hx;omega;rcases k.lK j tm with e2|e2;exact h.Ju j hj e2;have:=(h.own.lt h.wf hj).2;omega;rw [k.bg b QR hU.2,hb]
theorem PJ.fV {A0 A:AW} {vp vj:Value} {ps:List aZ} {jl:List Int} {N:Nat} (h:PJ A0 A vp vj ps jl N) (hn:ps.length<2 ^ 30) (x:aZ) :
 ∃Am A',eU Tryz.prog (A.alloc (.cells (au x) true 5)) 75 75 vp (.slice (some ⟨A.next,0,none⟩) 1 1)=some (Am,A')/\PJ A0 A' Am vj (ps++[x]) jl N:=by
 obtain⟨Am,A',e,h2,k⟩:=M7 x h.own hn h.le.next h.wf;refine⟨Am,A',e,⟨?_,dB.jO h.Cx λj hj=>k.bg j (dB.lt h.Cx h.wf hj).2 λe2=>h.Ju j e2 hj,h.range,λj hj tm=>?_,k.le A0 (Nat.le_refl _) h.le,k.wf⟩⟩
 simpa [List.flatMap_append] using h2
 rcases k.lK j hj with e2|e2;exact h.Ju j e2 tm;have:=(dB.lt h.Cx h.wf tm).2;omega
theorem PJ.mono {A0 A:AW} {vp vj:Value} {ps:List aZ} {jl:List Int} {N M:Nat} (h:PJ A0 A vp vj ps jl N) (hm:N<=M):PJ A0 A vp vj ps jl M:=
 ⟨h.own,h.Cx,λx hx=>by have:=h.range x hx;omega,h.Ju,h.le,h.wf⟩
theorem PJ.Pw {A0 A:AW} {p:Addr} {n c:Nat} {vj:Value} {ps:List aZ} {jl:List Int} {N:Nat} (y:Int) (h:PJ A0 A (.slice (some p) n c) vj ps jl N) (hn:n=ps.length) {j:Nat} (hj:j<ps.length) :
 ∃A',aB Tryz.prog A 3 ⟨p.block,p.off+j*5+4,none⟩ (.int .i64 y)=some A'/\PJ A0 A' (.slice (some p) n c) vj (ps.set j { ps[j] with bQ:=y }) jl N:=by
 subst hn;obtain⟨A',e,h2,hw,hn,hg,_⟩:=Nt y h.own hj h.wf;have hb:=(h.own.lt h.wf (j:=p.block) rfl).1;refine⟨A',e,⟨?_,dB.jO h.Cx λi hi=>hg i λe2=>h.Ju p.block rfl (by rw [<-e2];exact hi),h.range,h.Ju,⟨by rw [hn];exact h.le.next,λi hi=>?_⟩,hw⟩⟩;rw [List.length_set];exact h2;rw [hg i (by omega)];exact h.le.bg i hi
structure ZN (p:Prop):Prop where
 bg:p
theorem Zb {P:Program} {n:Nat} {Q:Exit->Fr->AW->Prop} {a:Fr} {A:AW} {c:Code} (h:ZN (cM P n (.block 2 c) Q a A)):cM P n (.block 2 c) Q a A:=h.bg
theorem Za {P:Program} {n:Nat} {Q:Exit->Fr->AW->Prop} {a:Fr} {A:AW} {c d:Code} (h:ZN (cM P n (.cond (.tmp 158) c d) Q a A)):cM P n (.cond (.tmp 158) c d) Q a A:=h.bg
theorem Jz {P:Program} {n:Nat} {Q:Exit->Fr->AW->Prop} {a:Fr} {A:AW} {x:Code} {K:Fr->AW->Prop} (J:Fr->AW->Prop) (h1:cM P n x (aL J Q) a A) (h2:∀a A,J a A->K a A):cM P n x (aL K Q) a A:=
 yI h1 λe a A h=>by cases e<;>first|exact h2 a A h|exact h
theorem rX {P:Program} {n:Nat} {id:Nat} {Q:Exit->Fr->AW->Prop} {a:Fr} {A:AW} {x:Code} {K:Fr->AW->Prop} (J:Fr->AW->Prop) (h1:cM P n x (cg id (aL J Q)) a A) (h2:∀a A,J a A->K a A):cM P n x (cg id (aL K Q)) a A:=
 yI h1 λe a A h=>by
  cases e with
  | normal=>exact h2 a A h
  | exit k=>
    simp only [cg] at h ⊢;split at h;rename_i e;rw [if_pos e];exact h2 a A h;rename_i e;rw [if_neg e];exact h
  | _=>exact h
def tF (ps:List aZ) (jl:List Int):Prop:=(∀x∈jl,∃j:Nat,x=(j:Int)/\∃i,ps[j]? = some i/\i.bQ=0/\i.op≠3)/\jl.Nodup
def HF (ps:List aZ):Prop:=∀x∈ps,x.op=3->jG x.bQ
theorem tF.nil (ps:List aZ):tF ps []:=⟨λx hx=>by(cases hx),List.nodup_nil⟩
theorem tF.vy {ps:List aZ} {jl:List Int} (h:tF ps jl) (x:aZ):tF (ps++[x]) jl:=by
 refine⟨λy hy=>?_,h.2⟩;obtain⟨j,e,i,h1,h2⟩:=h.1 y hy;have hl:=(List.getElem?_eq_some_iff.1 h1).1;exact⟨j,e,i,by rw [List.getElem?_append_left hl];exact h1,h2⟩
theorem tF.KY {ps:List aZ} {jl:List Int} (h:tF ps jl) {x:aZ} (h0:x.bQ=0) (h3:x.op≠3):tF (ps++[x]) (jl++[(ps.length:Int)]):=by
 have h1:=h.vy x;refine⟨λy hy=>?_,?_⟩;rcases List.mem_append.1 hy with hy|hy;exact h1.1 y hy;rw [List.mem_singleton] at hy;exact⟨ps.length,hy,x,by simp,h0,h3⟩;rw [List.nodup_append];refine⟨h.2,by simp,λa ha b hb=>?_⟩;rw [List.mem_singleton] at hb;subst hb;obtain⟨j,e,i,g1,_⟩:=h.1 a ha;have hl:=(List.getElem?_eq_some_iff.1 g1).1;omega
theorem tF.set {ps:List aZ} {j:Nat} {jl:List Int} (h:tF ps ((j:Int)::jl)) (y:aZ):tF (ps.set j y) jl:=by
 obtain⟨h1,h2⟩:=h;rw [List.nodup_cons] at h2;refine⟨λx hx=>?_,h2.2⟩;obtain⟨k,e,i,g1,g2⟩:=h1 x (List.mem_cons_of_mem _ hx);have hU:¬j=k:=λe2=>h2.1 (by rw [e2,<-e];exact hx);exact⟨k,e,i,by rw [List.getElem?_set_ne hU];exact g1,g2⟩
theorem tF.head {ps:List aZ} {j:Nat} {jl:List Int} (h:tF ps ((j:Int)::jl)) (hj:j<ps.length):ps[j].bQ=0/\ps[j].op≠3:=by
 obtain⟨k,e,i,g1,g2⟩:=h.1 _ List.mem_cons_self;have:j=k:=by omega
 subst this;rw [List.getElem?_eq_getElem hj] at g1;injection g1 with g1;rw [g1];exact g2
theorem HF.set {ps:List aZ} (h:HF ps) {j:Nat} {y:aZ} (hy:y.op≠3):HF (ps.set j y):=λx hx h3=>by
 rcases List.mem_or_eq_of_mem_set hx with h1|h1;exact h x h1 h3;subst h1;exact absurd h3 hy
theorem JO.XR {a b c r:Int} {o bQ:Int} (ho:o=5\/o=6) (h:JO ⟨o,a,b,c,bQ⟩) (hr:0<=r/\r<4):JO ⟨o,r,b,c,bQ⟩:=by
 obtain⟨h1,h2,h3⟩:=h;refine⟨?_,h2,h3⟩;rcases ho with rfl|rfl;simp [b8,gm,lF,jT,lE,eT] at h1 ⊢;omega;simp [b8,gm,lF,jT,lE,eT] at h1 ⊢;omega
theorem Aj.v {b:Bool} {o:Int} (h:Aj b o):1<=o/\o<=17:=by
 rcases h with h|⟨_,h⟩|⟨_,h⟩<;>omega
def PgJ (A0:AW) (ol:Option Addr) (cl:Nat) (l:List Int) (lL:Int) (heap plain:Bool) (i:Nat) (vp vj:Value) (b:Bool) (fr:Fr):Prop:=
 fr 0=.slice ol l.length cl/\fr 1=.int .i64 lL/\fr 2=.bool heap/\fr 3=.bool plain/\fr 9=vp/\fr 10=.bool b/\fr 11=vj/\fr 12=.int .i64 i
set_option maxHeartbeats 16000000 in
theorem nN (hn:Gl.N=4) (vl:Value) (l:List Int) (lL:Int) (heap plain:Bool) (A:AW) (h:bx A .i64 vl l) (hm:0<=lL/\lL<=1000) :
 ax Tryz.prog 36 [vl,.int .i64 lL,.bool heap,.bool plain] A (λu A'=>∃p:List aZ,p.length<=1001/\dB A.next A' 5 u p.length (p.flatMap au)/\A.le A'/\A'.Wf/\(lL<=64->(cD p).2=0)/\HF p):=by
 refine aF Tryz.func36 λhw=>?_;obtain⟨ol,cl,rfl,_⟩:=h.bE;have hws:IntKind.i64.wrap (lL-1)=lL-1:=ai (by omega) (by omega);revert hw;refine W cd cd ?_<;>(unhygienic intros);refine rX (λfr A'=>∃(ps:List aZ) (jl:List Int) (vp vj:Value) (b:Bool),ps.length<=1000/\jl.length<=1000/\fr 9=vp/\fr 10=.bool b/\fr 11=vj/\PJ A A' vp vj ps jl ps.length/\nc ps b/\tF ps jl/\((ps.length:Int)<=lL-1\/ps.length=0)) ?_ ?_
 rotate_left
 . rintro fr A' ⟨ps,jl,vp,vj,b,N1,wj,g9,lO,lg,hJ,Lx,FH,QB⟩
   repeat' (first|(refine jX λR hR=>?_;simp [ai,ar,g9,lO,lg];try simp (disch:=omega) only [if_pos,if_neg,ai,ar])|(refine hR _ _ ?_;clear hR R)|(refine hK _ _ ?_;clear hK K)|refine nx ?_|refine wn λK hK=>?_|simp only [wS]|(refine Za ?_)|(show cM _ _ _ _ _ _;refine nx ?_)|(refine wc rfl (λhc=>?_) (λhc=>?_)<;>(try simp at hc)<;>(try omega))|(refine ib (λhc=>?_) (λhc=>?_)<;>(try omega)<;>(try simp (disch:=omega) only [if_pos,if_neg])))
   refine⟨?_⟩;refine Jz (λfr A'=>∃(ps:List aZ) (vp:Value),ps.length<=1001/\fr 9=vp/\fr 11=vj/\PJ A A' vp vj ps jl ps.length/\(lL<=64->(cD ps).2=0)/\tF ps jl/\HF ps) ?_ ?_
   . cases b with
     | false=>
       refine W cd (J3 g9 lO lg) ?_<;>intros;exact⟨ps,vp,by omega,by simp [g9],by simp [lg],hJ,λhm6=>Lx.ok (by omega),FH,Lx.d6⟩
     | true=>
       obtain⟨Am,A5,e5,Oh⟩:=hJ.fV (by omega) ⟨8,0,0,0,0⟩;simp only [au] at e5;refine W cd (J4 g9 lO lg e5) ?_<;>intros;have hG8:nc (ps++[⟨8,0,0,0,0⟩]) false:=nc.vy (x:=⟨8,0,0,0,0⟩) Lx ⟨by decide,by simp,by simp⟩ (by simp [Aj]);have R1:ps.length=0->False:=λe=>by rw [List.eq_nil_of_length_eq_zero e] at Lx;have:=Lx.Ve.1;simp [bS] at this
       exact⟨ps++[⟨8,0,0,0,0⟩],Am,by simp;omega,by simp,by simp [lg],Oh.mono (by simp),λhm6=>hG8.ok (by rw [List.length_append,List.length_singleton];rcases QB with h1|h1<;>first|omega|exact absurd h1 R1),FH.vy ⟨8,0,0,0,0⟩,λx hx h3=>hG8.d6 x hx h3⟩
   clear hJ g9 lO lg Lx FH QB;rintro fr A' ⟨ps,vp,N1,g9,lg,hJ,hV,FH,Xv⟩;obtain⟨oj,cj,hvj,_⟩:=hJ.Cx.is.bE;obtain⟨op,cp,tH,_⟩:=hJ.own.is.bE;subst tH;subst hvj;generalize AI:ps.length=nl at g9 hJ N1;revert hw;(repeat first|clear hw|revert hc|revert R|revert K);refine W cd (J2 g9 lg) ?_<;>(unhygienic intros);refine cW (λk fr A'=>∃(i:Nat) (ps:List aZ),k=jl.length-i/\i<=jl.length/\ps.length=nl/\fr 9=.slice op nl cp/\fr 11=.slice oj jl.length cj/\fr 17=.int .i64 i/\PJ A A' (.slice op nl cp) (.slice oj jl.length cj) ps jl nl/\(lL<=64->(cD ps).2=0)/\tF ps (jl.drop i)/\HF ps) jl.length ?_ ?_;exact⟨0,ps,rfl,Nat.zero_le _,AI,by simp [g9],by simp [lg],by simp,hJ,hV,FH,Xv⟩;clear AI hJ g9 lg hV FH Xv;rintro k fr A' ⟨i,ps,rfl,hi,AI,g9,lg,Oj,hJ,hV,FH,Xv⟩;by_cases bL:i<jl.length;obtain⟨q,bP,uq,bI,hcell⟩:=hJ.Cx.is.at bL;subst uq;obtain⟨Xh,CX⟩:=hJ.range jl[i] (List.getElem_mem bL);obtain⟨j,hj⟩:∃j:Nat,jl[i]=(j:Int):=⟨jl[i].toNat,by omega⟩
   rw [hj] at hcell CX;have Xp:j<nl:=(by omega);rw [List.drop_eq_getElem_cons bL,hj] at FH;obtain⟨hz0,hz3⟩:=FH.head (show j<ps.length by omega);have fU:=uR (i:=i);have ST:∃pa,op=some pa:=by
    rcases hJ.own with ⟨e,e2,_⟩|⟨p,c,bP,e,_⟩;omega;injection e with e _ _;exact⟨p,e⟩
   obtain⟨pa,rfl⟩:=ST;obtain⟨A1,e1,Zg⟩:=hJ.Pw 1 AI.symm (show j<ps.length by omega);have Zc:HF (ps.set j { ps[j] with bQ:=1 }):=Xv.set hz3;have YS:=FH.set { ps[j] with bQ:=1 };have YT:=FH.set ps[j];rw [List.set_getElem_self] at YT;obtain⟨RT,VY⟩:∃RT,ps.set j { ps[j] with bQ:=1 }=RT:=⟨_,rfl⟩;have UI:∀h:j<RT.length,RT.set j { RT[j] with bQ:=0 }=ps:=by
    subst VY;intro h;rw [List.set_set,List.getElem_set_self];have e:({ ({ ps[j] with bQ:=1 }:aZ) with bQ:=0 }:aZ)=ps[j]:=by
     generalize ps[j]=y at hz0;obtain⟨y1,y2,y3,y4,y5⟩:=y;dsimp only at hz0;subst hz0;rfl
    rw [e,List.set_getElem_self]
   rw [VY] at Zg Zc YS;have V0:RT.length=nl:=(by rw [<-VY,List.length_set,AI]);have cC:=Er hn (.slice (some pa) nl cp) RT A1 (by have:=Zg.own.is;unfold jS;rw [V0] at this ⊢;exact this);unfold oB at cC;obtain⟨q2,row2,MJ,wg,QQ⟩:=Zg.Cx.is.at bL;injection MJ with MJ;subst MJ;rw [hj] at QQ;have dv:jl.length-i=(jl.length-(i+1))+1:=(by omega);by_cases z:(lI RT).2=0;refine aO ?_;refine W (J1 @cC) (Bs g9 lg Oj bL fU bI hcell Xp e1 z) ?_<;>intros;exact⟨jl.length-(i+1),by omega,i+1,RT,rfl,by omega,V0,by simp [g9],by simp [lg],by simp,Zg,λ_=>by rw [<-Rn];exact z,YS,Zc⟩;obtain⟨A2,e2,OX⟩:=Zg.Pw 0 V0.symm (show j<RT.length by omega);refine aO ?_;refine W (J1 @cC) (mi g9 lg Oj bL fU bI hcell wg QQ Xp e1 e2 z) ?_<;>intros;rw [UI] at OX;exact⟨jl.length-(i+1),by omega,i+1,ps,rfl,by omega,AI,by simp [g9],by simp [lg],by simp,OX,hV,YT,Xv⟩;refine aO ?_;refine W cd (J4 g9 lg Oj bL) ?_<;>intros;refine⟨_,rfl,ps,by omega,?_,hJ.le,hJ.wf,hV,Xv⟩
   have:=hJ.own;rw [AI] at this ⊢;exact this
 refine cW (λk fr A'=>∃(i:Nat) (ps:List aZ) (jl:List Int) (vp vj:Value) (b:Bool),k=l.length-i/\i<=l.length/\i<=1000/\ps.length=i/\jl.length<=i/\PgJ A ol cl l lL heap plain i vp vj b fr/\PJ A A' vp vj ps jl ps.length/\nc ps b/\tF ps jl/\((ps.length:Int)<=lL-1\/ps.length=0)) l.length ?_ ?_;exact⟨0,[],[],_,_,false,rfl,Nat.zero_le _,Nat.zero_le _,rfl,Nat.zero_le _,⟨rfl,rfl,rfl,rfl,rfl,rfl,rfl,rfl⟩,⟨dB.nil _ _ _,dx.nil _ _ _,by simp,by simp [fa],AW.le.refl A,hw⟩,.nil,tF.nil _,.inr rfl⟩;rintro k fr A' ⟨i,ps,jl,vp,vj,b,rfl,hi,hi9,N1,wj,⟨g0,g1,g2,g3,g9,lO,lg,pH⟩,hJ,Lx,FH,QB⟩;obtain⟨op,cp,tH,hcp⟩:=hJ.own.is.bE;have hvp0:=tH;by_cases bL:i<l.length
 . by_cases qd:(ps.length:Int)<lL-1
   . obtain⟨q,bP,uq,bI,hcell⟩:=(h.le hJ.le hw).at bL;subst uq;obtain⟨nn,VZ⟩:∃nn:Nat,IntKind.u64.wrap l[i]=(nn:Int):=⟨(IntKind.u64.wrap l[i]).toNat,by
      simp only [IntKind.wrap,IntKind.bits,IntKind.signed,Bool.false_and,Bool.false_eq_true,if_false];omega⟩
     have hnn2:(nn:Int)<18446744073709551616:=by
      rw [<-VZ];simp only [IntKind.wrap,IntKind.bits,IntKind.signed,Bool.false_and,Bool.false_eq_true,if_false];omega
     obtain⟨kd,wi⟩:∃kd,IntKind.i64.wrap ((nn:Int).tmod 16)=kd:=⟨_,rfl⟩;have hkd0:0<=kd/\kd<16:=by
      rw [<-wi,Int.tmod_eq_emod_of_nonneg (by omega),ai (by omega) (by omega)];omega
     obtain⟨n1,C0⟩:∃n1:Nat,(nn:Int) / 16=(n1:Int):=⟨nn / 16,by omega⟩;have hn12:(n1:Int)<18446744073709551616:=(by omega);have fU:=uR (i:=i);have dv:l.length-i=(l.length-(i+1))+1:=(by omega);refine aO ?_
     repeat' (first|(refine Zb ?_)|(refine jX λR hR=>?_;simp [ai,ar,g0,g1,g2,g3,g9,lO,lg,pH,tH,bL,qd,hws,bI,hcell,VZ,wi,C0];try simp (disch:=omega) only [if_pos,if_neg,ai,ar])|(refine hR _ _ ?_;clear hR R)|(refine hK _ _ ?_;clear hK K)|refine nx ?_|refine wn λK hK=>?_|simp only [wS]|(show cM _ _ _ _ _ _;refine nx ?_)|(refine wc rfl (λhc=>?_) (λhc=>?_)<;>(try simp at hc)<;>(try omega))|(refine ib (λhc=>?_) (λhc=>?_)<;>(try omega)<;>(try simp (disch:=omega) only [if_pos,if_neg])))
     refine⟨?_⟩;refine Jz (λR6 A2=>∃(o:Int) (n2:Nat),(n2:Int)<18446744073709551616/\R6 15=.int .i64 o/\R6 13=.int .u64 n2/\PgJ A (some q) cl l lL heap plain i vp vj b R6/\A'.le A2/\A2.Wf/\Aj b o) ?_ ?_
     . have OU:(n1:Int).tmod 3=((n1 % 3:Nat):Int):=(by rw [Int.tmod_eq_emod_of_nonneg (by omega)];omega);have Qv:(n1:Int).tmod 5=((n1 % 5:Nat):Int):=(by rw [Int.tmod_eq_emod_of_nonneg (by omega)];omega);obtain⟨n3,UF⟩:∃n3:Nat,(n1:Int) / 3=(n3:Int):=⟨n1 / 3,by omega⟩;obtain⟨n5,OW⟩:∃n5:Nat,(n1:Int) / 5=(n5:Int):=⟨n1 / 5,by omega⟩;have Yw:n1 % 3=0\/n1 % 3=1\/n1 % 3=2:=(by omega);have hr5:n1 % 5=0\/n1 % 5=1\/n1 % 5=2\/n1 % 5=3\/n1 % 5=4:=(by omega);have VO:(n3:Int)<18446744073709551616:=(by omega);have hv5:(n5:Int)<18446744073709551616:=(by omega);by_cases k1:kd<2
       . rcases Yw with hr|hr|hr<;>rw [hr] at OU
         . skip
           refine W cd (vO g0 g1 g2 g3 g9 lO lg pH tH wi k1 OU UF @AW.af) ?_<;>intros
           all_goals(refine ⟨_,_,?_,rfl,rfl,⟨by simp [g0],by simp [g1],by simp [g2],by simp [g3],by simp [g9],by simp [lO],by simp [lg],by simp [pH]⟩,?_,?_,?_⟩<;>first|exact AW.le.refl _|exact AW.le.alloc _ _|exact hJ.wf|exact hJ.wf.alloc _|omega|(simp [Aj];done))
         . skip
           refine W cd (vO g0 g1 g2 g3 g9 lO lg pH tH wi k1 OU UF @AW.af) ?_<;>intros
           all_goals(refine ⟨_,_,?_,rfl,rfl,⟨by simp [g0],by simp [g1],by simp [g2],by simp [g3],by simp [g9],by simp [lO],by simp [lg],by simp [pH]⟩,?_,?_,?_⟩<;>first|exact AW.le.refl _|exact AW.le.alloc _ _|exact hJ.wf|exact hJ.wf.alloc _|omega|(simp [Aj];done))
         skip
         refine W cd (vO g0 g1 g2 g3 g9 lO lg pH tH wi k1 OU UF @AW.af) ?_<;>intros
         all_goals(refine ⟨_,_,?_,rfl,rfl,⟨by simp [g0],by simp [g1],by simp [g2],by simp [g3],by simp [g9],by simp [lO],by simp [lg],by simp [pH]⟩,?_,?_,?_⟩<;>first|exact AW.le.refl _|exact AW.le.alloc _ _|exact hJ.wf|exact hJ.wf.alloc _|omega|(simp [Aj];done))
       by_cases k2:kd=2/\0<ps.length
       . obtain⟨k2,k3⟩:=k2;subst k2;rcases Yw with hr|hr|hr<;>rw [hr] at OU
         . skip
           refine W cd (vO g0 g1 g2 g3 g9 lO lg pH tH wi k3 OU UF @AW.af) ?_<;>intros
           all_goals(refine ⟨_,_,?_,rfl,rfl,⟨by simp [g0],by simp [g1],by simp [g2],by simp [g3],by simp [g9],by simp [lO],by simp [lg],by simp [pH]⟩,?_,?_,?_⟩<;>first|exact AW.le.refl _|exact AW.le.alloc _ _|exact hJ.wf|exact hJ.wf.alloc _|omega|(simp [Aj];done))
         . skip
           refine W cd (vO g0 g1 g2 g3 g9 lO lg pH tH wi k3 OU UF @AW.af) ?_<;>intros
           all_goals(refine ⟨_,_,?_,rfl,rfl,⟨by simp [g0],by simp [g1],by simp [g2],by simp [g3],by simp [g9],by simp [lO],by simp [lg],by simp [pH]⟩,?_,?_,?_⟩<;>first|exact AW.le.refl _|exact AW.le.alloc _ _|exact hJ.wf|exact hJ.wf.alloc _|omega|(simp [Aj];done))
         skip
         refine W cd (vO g0 g1 g2 g3 g9 lO lg pH tH wi k3 OU UF @AW.af) ?_<;>intros
         all_goals(refine ⟨_,_,?_,rfl,rfl,⟨by simp [g0],by simp [g1],by simp [g2],by simp [g3],by simp [g9],by simp [lO],by simp [lg],by simp [pH]⟩,?_,?_,?_⟩<;>first|exact AW.le.refl _|exact AW.le.alloc _ _|exact hJ.wf|exact hJ.wf.alloc _|omega|(simp [Aj];done))
       have k3:kd=2->¬0<ps.length:=λh1 h2=>k2 ⟨h1,h2⟩;clear k2;cases b with
       | false=>
         cases plain with
         | true=>
           by_cases k4:kd<7
           . rcases hr5 with hr|hr|hr|hr|hr<;>rw [hr] at Qv
             . by_cases k5:kd=2
               . have k6:=k3 k5;subst k5;refine W cd (vO g0 g1 g2 g3 g9 lO lg pH tH wi k6 Qv OW @AW.af) ?_<;>intros
                 all_goals(refine ⟨_,_,?_,rfl,rfl,⟨by simp [g0],by simp [g1],by simp [g2],by simp [g3],by simp [g9],by simp [lO],by simp [lg],by simp [pH]⟩,?_,?_,?_⟩<;>first|exact AW.le.refl _|exact AW.le.alloc _ _|exact hJ.wf|exact hJ.wf.alloc _|omega|(simp [Aj];done))
               skip
               refine W cd (JN g0 g1 g2 g3 g9 lO lg pH tH wi k1 k4 k5 Qv OW @AW.af) ?_<;>intros
               all_goals(refine ⟨_,_,?_,rfl,rfl,⟨by simp [g0],by simp [g1],by simp [g2],by simp [g3],by simp [g9],by simp [lO],by simp [lg],by simp [pH]⟩,?_,?_,?_⟩<;>first|exact AW.le.refl _|exact AW.le.alloc _ _|exact hJ.wf|exact hJ.wf.alloc _|omega|(simp [Aj];done))
             . by_cases k5:kd=2
               . have k6:=k3 k5;subst k5;refine W cd (vO g0 g1 g2 g3 g9 lO lg pH tH wi k6 Qv OW @AW.af) ?_<;>intros
                 all_goals(refine ⟨_,_,?_,rfl,rfl,⟨by simp [g0],by simp [g1],by simp [g2],by simp [g3],by simp [g9],by simp [lO],by simp [lg],by simp [pH]⟩,?_,?_,?_⟩<;>first|exact AW.le.refl _|exact AW.le.alloc _ _|exact hJ.wf|exact hJ.wf.alloc _|omega|(simp [Aj];done))
               skip
               refine W cd (JN g0 g1 g2 g3 g9 lO lg pH tH wi k1 k4 k5 Qv OW @AW.af) ?_<;>intros
               all_goals(refine ⟨_,_,?_,rfl,rfl,⟨by simp [g0],by simp [g1],by simp [g2],by simp [g3],by simp [g9],by simp [lO],by simp [lg],by simp [pH]⟩,?_,?_,?_⟩<;>first|exact AW.le.refl _|exact AW.le.alloc _ _|exact hJ.wf|exact hJ.wf.alloc _|omega|(simp [Aj];done))
             . by_cases k5:kd=2
               . have k6:=k3 k5;subst k5;refine W cd (vO g0 g1 g2 g3 g9 lO lg pH tH wi k6 Qv OW @AW.af) ?_<;>intros
                 all_goals(refine ⟨_,_,?_,rfl,rfl,⟨by simp [g0],by simp [g1],by simp [g2],by simp [g3],by simp [g9],by simp [lO],by simp [lg],by simp [pH]⟩,?_,?_,?_⟩<;>first|exact AW.le.refl _|exact AW.le.alloc _ _|exact hJ.wf|exact hJ.wf.alloc _|omega|(simp [Aj];done))
               skip
               refine W cd (JN g0 g1 g2 g3 g9 lO lg pH tH wi k1 k4 k5 Qv OW @AW.af) ?_<;>intros
               all_goals(refine ⟨_,_,?_,rfl,rfl,⟨by simp [g0],by simp [g1],by simp [g2],by simp [g3],by simp [g9],by simp [lO],by simp [lg],by simp [pH]⟩,?_,?_,?_⟩<;>first|exact AW.le.refl _|exact AW.le.alloc _ _|exact hJ.wf|exact hJ.wf.alloc _|omega|(simp [Aj];done))
             . by_cases k5:kd=2
               . have k6:=k3 k5;subst k5;refine W cd (vO g0 g1 g2 g3 g9 lO lg pH tH wi k6 Qv OW @AW.af) ?_<;>intros
                 all_goals(refine ⟨_,_,?_,rfl,rfl,⟨by simp [g0],by simp [g1],by simp [g2],by simp [g3],by simp [g9],by simp [lO],by simp [lg],by simp [pH]⟩,?_,?_,?_⟩<;>first|exact AW.le.refl _|exact AW.le.alloc _ _|exact hJ.wf|exact hJ.wf.alloc _|omega|(simp [Aj];done))
               skip
               refine W cd (JN g0 g1 g2 g3 g9 lO lg pH tH wi k1 k4 k5 Qv OW @AW.af) ?_<;>intros
               all_goals(refine ⟨_,_,?_,rfl,rfl,⟨by simp [g0],by simp [g1],by simp [g2],by simp [g3],by simp [g9],by simp [lO],by simp [lg],by simp [pH]⟩,?_,?_,?_⟩<;>first|exact AW.le.refl _|exact AW.le.alloc _ _|exact hJ.wf|exact hJ.wf.alloc _|omega|(simp [Aj];done))
             by_cases k5:kd=2
             . have k6:=k3 k5;subst k5;refine W cd (vO g0 g1 g2 g3 g9 lO lg pH tH wi k6 Qv OW @AW.af) ?_<;>intros
               all_goals(refine ⟨_,_,?_,rfl,rfl,⟨by simp [g0],by simp [g1],by simp [g2],by simp [g3],by simp [g9],by simp [lO],by simp [lg],by simp [pH]⟩,?_,?_,?_⟩<;>first|exact AW.le.refl _|exact AW.le.alloc _ _|exact hJ.wf|exact hJ.wf.alloc _|omega|(simp [Aj];done))
             skip
             refine W cd (JN g0 g1 g2 g3 g9 lO lg pH tH wi k1 k4 k5 Qv OW @AW.af) ?_<;>intros
             all_goals(refine ⟨_,_,?_,rfl,rfl,⟨by simp [g0],by simp [g1],by simp [g2],by simp [g3],by simp [g9],by simp [lO],by simp [lg],by simp [pH]⟩,?_,?_,?_⟩<;>first|exact AW.le.refl _|exact AW.le.alloc _ _|exact hJ.wf|exact hJ.wf.alloc _|omega|(simp [Aj];done))
           have k5:¬kd=2:=(by omega);refine W cd (vO g0 g1 g2 g3 g9 lO lg pH tH wi k1 k4 k5 @AW.af) (J2 ?_ ?_)<;>intros
           all_goals(refine ⟨_,_,?_,rfl,rfl,⟨by simp [g0],by simp [g1],by simp [g2],by simp [g3],by simp [g9],by simp [lO],by simp [lg],by simp [pH]⟩,?_,?_,?_⟩<;>first|exact AW.le.refl _|exact AW.le.alloc _ _|exact hJ.wf|exact hJ.wf.alloc _|omega|(simp [Aj];done))
         | false=>
           by_cases k5:kd=2
           . have k6:=k3 k5;subst k5;refine W cd (tA g0 g1 g2 g3 g9 lO lg pH tH wi k6 @AW.af) ?_<;>intros
             all_goals(refine ⟨_,_,?_,rfl,rfl,⟨by simp [g0],by simp [g1],by simp [g2],by simp [g3],by simp [g9],by simp [lO],by simp [lg],by simp [pH]⟩,?_,?_,?_⟩<;>first|exact AW.le.refl _|exact AW.le.alloc _ _|exact hJ.wf|exact hJ.wf.alloc _|omega|(simp [Aj];done))
           skip
           refine W cd (mi g0 g1 g2 g3 g9 lO lg pH tH wi k1 k5 @AW.af) (J3 ?_ ?_ ?_)<;>intros
           all_goals(refine ⟨_,_,?_,rfl,rfl,⟨by simp [g0],by simp [g1],by simp [g2],by simp [g3],by simp [g9],by simp [lO],by simp [lg],by simp [pH]⟩,?_,?_,?_⟩<;>first|exact AW.le.refl _|exact AW.le.alloc _ _|exact hJ.wf|exact hJ.wf.alloc _|omega|(simp [Aj];done))
       | true=>
         have hm4:(n1:Int).tmod 4=((n1 % 4:Nat):Int):=(by rw [Int.tmod_eq_emod_of_nonneg (by omega)];omega);by_cases k5:kd=2
         . have k6:=k3 k5;subst k5;refine W cd (tA g0 g1 g2 g3 g9 lO lg pH tH wi k6 @AW.af) ?_<;>intros
           all_goals(refine ⟨_,_,?_,rfl,rfl,⟨by simp [g0],by simp [g1],by simp [g2],by simp [g3],by simp [g9],by simp [lO],by simp [lg],by simp [pH]⟩,?_,?_,?_⟩<;>first|exact AW.le.refl _|exact AW.le.alloc _ _|exact hJ.wf|exact hJ.wf.alloc _|omega|(simp [Aj];done))
         skip
         refine W cd (vO g0 g1 g2 g3 g9 lO lg pH tH wi k1 k5 hm4 @AW.af) (J9 ?_ ?_ ?_ ?_ ?_ ?_ ?_ ?_ ?_)<;>intros
         all_goals(refine ⟨_,_,?_,rfl,rfl,⟨by simp [g0],by simp [g1],by simp [g2],by simp [g3],by simp [g9],by simp [lO],by simp [lg],by simp [pH]⟩,?_,?_,?_⟩<;>first|exact AW.le.refl _|exact AW.le.alloc _ _|exact hJ.wf|exact hJ.wf.alloc _|omega|(simp [Aj];done))
     rintro R6 A2 ⟨o,n2,zP,Xx,Xy,⟨f0,f1,f2,f3,f9,O1,O0,OZ⟩,SX,jR,Wr⟩;clear VZ hnn2 wi hkd0 C0 hn12 bI hcell;subst tH;obtain⟨x,hx,Zi,cI⟩:=GM o n2 zP;have OX:=hJ.grow SX jR;obtain⟨ra,JS⟩:∃ra,IntKind.i64.wrap ((n2:Int).tmod 4)=ra:=⟨_,rfl⟩;have Yv:0<=ra/\ra<4:=(by rw [<-JS,Int.tmod_eq_emod_of_nonneg (by omega),ai (by omega) (by omega)];omega);obtain⟨xo,xa,xb,xc,xi⟩:=x;simp only at hx;subst hx;simp only [au] at cI;have Tk:=Zi Wr.v;clear Zi;have hz:∀O O',((A2.alloc O).set A2.next O').Wf:=λO O'=>(jR.alloc O).set _ (by simp);by_cases o5:xo=5
     . subst o5;obtain⟨A3,Jd⟩:∃A3,((A2.alloc (.cells [.int .i64 0,.int .i64 0,.int .i64 0,.int .i64 0,.int .i64 0] true 1)).set A2.next (some (.cells [.int .i64 5,.int .i64 xa,.int .i64 xb,.int .i64 xc,.int .i64 xi] true 1))).set A2.next (some (.cells [.int .i64 5,.int .i64 ra,.int .i64 xb,.int .i64 xc,.int .i64 xi] true 1))=A3:=⟨_,rfl⟩;have ut:(A2.alloc (.cells [.int .i64 0,.int .i64 0,.int .i64 0,.int .i64 0,.int .i64 0] true 1)).set A2.next (some (.cells [.int .i64 5,.int .i64 ra,.int .i64 xb,.int .i64 xc,.int .i64 xi] true 1))=A3:=(by rw [<-Jd,AW.set_set]);have Q0:PJ A A3 (.slice op ps.length cp) vj ps jl ps.length:=(by rw [<-ut];exact OX.grow (AW.le.km A2 _ _) (hz _ _));have tL:A3.bg A2.next=some (.cells [.int .i64 5,.int .i64 ra,.int .i64 xb,.int .i64 xc,.int .i64 xi] true 1):=(by rw [<-ut];simp);obtain⟨RQ,A4,e4,Zf,wu,-⟩:=Q0.KY (by omega) tL (OX.ne (Nat.le_refl _));obtain⟨Am,A5,e5,Oh⟩:=Zf.fV (by omega) ⟨5,ra,xb,xc,xi⟩
       simp only [au] at e5
       repeat' (first|(refine jX λR hR=>?_;simp [ai,ar,f0,f1,f2,f3,f9,O1,O0,OZ,Xy,Xx,JS,fU,AW.af,aB,Jd,tL,e4,wu,e5,ite_self];try simp (disch:=omega) only [if_pos,if_neg,ai,ar])|(refine hR _ _ ?_;clear hR R)|(refine hK _ _ ?_;clear hK K)|refine nx ?_|refine wn λK hK=>?_|simp only [wS]|(refine bD (cI _) ?_;rintro _ _ ⟨rfl,rfl⟩ _ _)|(show cM _ _ _ _ _ _;refine nx ?_)|(refine wc rfl (λhc=>?_) (λhc=>?_)<;>(try simp at hc)<;>(try omega))|(refine ib (λhc=>?_) (λhc=>?_)<;>(try omega)<;>(try simp (disch:=omega) only [if_pos,if_neg])))
       refine⟨l.length-(i+1),by omega,i+1,ps++[⟨5,ra,xb,xc,xi⟩],(jl++[(ps.length:Int)]),Am,RQ,b,rfl,by omega,by omega,by simp [N1],by first|omega|(simp;omega),⟨?_,?_,?_,?_,?_,?_,?_,?_⟩,?_,?_,?_,.inl (by rw [List.length_append,List.length_singleton];omega)⟩
       iterate 8 simp [f0,f1,f2,f3,f9,O1,O0,OZ]
       exact Oh.mono (by simp);exact nc.vy (x:=⟨5,ra,xb,xc,xi⟩) Lx (JO.XR (by omega) Tk Yv) Wr;exact FH.KY (x:=⟨5,ra,xb,xc,xi⟩) (Tk.j (by simp)) (by simp)
     by_cases o6:xo=6
     . subst o6;obtain⟨A3,Jd⟩:∃A3,((A2.alloc (.cells [.int .i64 0,.int .i64 0,.int .i64 0,.int .i64 0,.int .i64 0] true 1)).set A2.next (some (.cells [.int .i64 6,.int .i64 xa,.int .i64 xb,.int .i64 xc,.int .i64 xi] true 1))).set A2.next (some (.cells [.int .i64 6,.int .i64 ra,.int .i64 xb,.int .i64 xc,.int .i64 xi] true 1))=A3:=⟨_,rfl⟩;have ut:(A2.alloc (.cells [.int .i64 0,.int .i64 0,.int .i64 0,.int .i64 0,.int .i64 0] true 1)).set A2.next (some (.cells [.int .i64 6,.int .i64 ra,.int .i64 xb,.int .i64 xc,.int .i64 xi] true 1))=A3:=(by rw [<-Jd,AW.set_set]);have Q0:PJ A A3 (.slice op ps.length cp) vj ps jl ps.length:=(by rw [<-ut];exact OX.grow (AW.le.km A2 _ _) (hz _ _));have tL:A3.bg A2.next=some (.cells [.int .i64 6,.int .i64 ra,.int .i64 xb,.int .i64 xc,.int .i64 xi] true 1):=(by rw [<-ut];simp);obtain⟨RQ,A4,e4,Zf,wu,-⟩:=Q0.KY (by omega) tL (OX.ne (Nat.le_refl _));obtain⟨Am,A5,e5,Oh⟩:=Zf.fV (by omega) ⟨6,ra,xb,xc,xi⟩
       simp only [au] at e5
       repeat' (first|(refine jX λR hR=>?_;simp [ai,ar,f0,f1,f2,f3,f9,O1,O0,OZ,Xy,Xx,JS,fU,AW.af,aB,Jd,tL,e4,wu,e5,o5,ite_self];try simp (disch:=omega) only [if_pos,if_neg,ai,ar])|(refine hR _ _ ?_;clear hR R)|(refine hK _ _ ?_;clear hK K)|refine nx ?_|refine wn λK hK=>?_|simp only [wS]|(refine bD (cI _) ?_;rintro _ _ ⟨rfl,rfl⟩ _ _)|(show cM _ _ _ _ _ _;refine nx ?_)|(refine wc rfl (λhc=>?_) (λhc=>?_)<;>(try simp at hc)<;>(try omega))|(refine ib (λhc=>?_) (λhc=>?_)<;>(try omega)<;>(try simp (disch:=omega) only [if_pos,if_neg])))
       refine⟨l.length-(i+1),by omega,i+1,ps++[⟨6,ra,xb,xc,xi⟩],(jl++[(ps.length:Int)]),Am,RQ,b,rfl,by omega,by omega,by simp [N1],by first|omega|(simp;omega),⟨?_,?_,?_,?_,?_,?_,?_,?_⟩,?_,?_,?_,.inl (by rw [List.length_append,List.length_singleton];omega)⟩
       iterate 8 simp [f0,f1,f2,f3,f9,O1,O0,OZ]
       exact Oh.mono (by simp);exact nc.vy (x:=⟨6,ra,xb,xc,xi⟩) Lx (JO.XR (by omega) Tk Yv) Wr;exact FH.KY (x:=⟨6,ra,xb,xc,xi⟩) (Tk.j (by simp)) (by simp)
     by_cases o4:xo=4
     . subst o4;obtain⟨A3,Jd⟩:∃A3,(A2.alloc (.cells [.int .i64 0,.int .i64 0,.int .i64 0,.int .i64 0,.int .i64 0] true 1)).set A2.next (some (.cells [.int .i64 4,.int .i64 xa,.int .i64 xb,.int .i64 xc,.int .i64 xi] true 1))=A3:=⟨_,rfl⟩;have ut:=Jd;have Q0:PJ A A3 (.slice op ps.length cp) vj ps jl ps.length:=(by rw [<-ut];exact OX.grow (AW.le.km A2 _ _) (hz _ _));have tL:A3.bg A2.next=some (.cells [.int .i64 4,.int .i64 xa,.int .i64 xb,.int .i64 xc,.int .i64 xi] true 1):=(by rw [<-ut];simp);obtain⟨RQ,A4,e4,Zf,wu,-⟩:=Q0.KY (by omega) tL (OX.ne (Nat.le_refl _));obtain⟨Am,A5,e5,Oh⟩:=Zf.fV (by omega) ⟨4,xa,xb,xc,xi⟩;simp only [au] at e5
       repeat' (first|(refine jX λR hR=>?_;simp [ai,ar,f0,f1,f2,f3,f9,O1,O0,OZ,Xy,Xx,JS,fU,AW.af,aB,Jd,tL,e4,wu,e5,o5,o6,ite_self];try simp (disch:=omega) only [if_pos,if_neg,ai,ar])|(refine hR _ _ ?_;clear hR R)|(refine hK _ _ ?_;clear hK K)|refine nx ?_|refine wn λK hK=>?_|simp only [wS]|(refine bD (cI _) ?_;rintro _ _ ⟨rfl,rfl⟩ _ _)|(show cM _ _ _ _ _ _;refine nx ?_)|(refine wc rfl (λhc=>?_) (λhc=>?_)<;>(try simp at hc)<;>(try omega))|(refine ib (λhc=>?_) (λhc=>?_)<;>(try omega)<;>(try simp (disch:=omega) only [if_pos,if_neg])))
       refine⟨l.length-(i+1),by omega,i+1,ps++[⟨4,xa,xb,xc,xi⟩],(jl++[(ps.length:Int)]),Am,RQ,b,rfl,by omega,by omega,by simp [N1],by first|omega|(simp;omega),⟨?_,?_,?_,?_,?_,?_,?_,?_⟩,?_,?_,?_,.inl (by rw [List.length_append,List.length_singleton];omega)⟩
       iterate 8 simp [f0,f1,f2,f3,f9,O1,O0,OZ]
       exact Oh.mono (by simp);exact nc.vy (x:=⟨4,xa,xb,xc,xi⟩) Lx (Tk) Wr;exact FH.KY (x:=⟨4,xa,xb,xc,xi⟩) (Tk.j (by simp)) (by simp)
     by_cases o7:xo=7
     . subst o7;obtain⟨A3,Jd⟩:∃A3,(A2.alloc (.cells [.int .i64 0,.int .i64 0,.int .i64 0,.int .i64 0,.int .i64 0] true 1)).set A2.next (some (.cells [.int .i64 7,.int .i64 xa,.int .i64 xb,.int .i64 xc,.int .i64 xi] true 1))=A3:=⟨_,rfl⟩;have ut:=Jd;have Q0:PJ A A3 (.slice op ps.length cp) vj ps jl ps.length:=(by rw [<-ut];exact OX.grow (AW.le.km A2 _ _) (hz _ _));have tL:A3.bg A2.next=some (.cells [.int .i64 7,.int .i64 xa,.int .i64 xb,.int .i64 xc,.int .i64 xi] true 1):=(by rw [<-ut];simp);obtain⟨Am,A5,e5,Oh⟩:=Q0.fV (by omega) ⟨7,xa,xb,xc,xi⟩;simp only [au] at e5
       repeat' (first|(refine jX λR hR=>?_;simp [ai,ar,f0,f1,f2,f3,f9,O1,O0,OZ,Xy,Xx,JS,fU,AW.af,aB,Jd,tL,e5,o5,o6,o4,ite_self];try simp (disch:=omega) only [if_pos,if_neg,ai,ar])|(refine hR _ _ ?_;clear hR R)|(refine hK _ _ ?_;clear hK K)|refine nx ?_|refine wn λK hK=>?_|simp only [wS]|(refine bD (cI _) ?_;rintro _ _ ⟨rfl,rfl⟩ _ _)|(show cM _ _ _ _ _ _;refine nx ?_)|(refine wc rfl (λhc=>?_) (λhc=>?_)<;>(try simp at hc)<;>(try omega))|(refine ib (λhc=>?_) (λhc=>?_)<;>(try omega)<;>(try simp (disch:=omega) only [if_pos,if_neg])))
       refine⟨l.length-(i+1),by omega,i+1,ps++[⟨7,xa,xb,xc,xi⟩],jl,Am,vj,true,rfl,by omega,by omega,by simp [N1],by first|omega|(simp;omega),⟨?_,?_,?_,?_,?_,?_,?_,?_⟩,?_,?_,?_,.inl (by rw [List.length_append,List.length_singleton];omega)⟩
       iterate 8 simp [f0,f1,f2,f3,f9,O1,O0,OZ]
       exact Oh.mono (by simp);exact nc.vy (x:=⟨7,xa,xb,xc,xi⟩) Lx (Tk) Wr;exact FH.vy _
     by_cases o8:xo=8
     . subst o8;obtain⟨A3,Jd⟩:∃A3,(A2.alloc (.cells [.int .i64 0,.int .i64 0,.int .i64 0,.int .i64 0,.int .i64 0] true 1)).set A2.next (some (.cells [.int .i64 8,.int .i64 xa,.int .i64 xb,.int .i64 xc,.int .i64 xi] true 1))=A3:=⟨_,rfl⟩;have ut:=Jd;have Q0:PJ A A3 (.slice op ps.length cp) vj ps jl ps.length:=(by rw [<-ut];exact OX.grow (AW.le.km A2 _ _) (hz _ _));have tL:A3.bg A2.next=some (.cells [.int .i64 8,.int .i64 xa,.int .i64 xb,.int .i64 xc,.int .i64 xi] true 1):=(by rw [<-ut];simp);obtain⟨Am,A5,e5,Oh⟩:=Q0.fV (by omega) ⟨8,xa,xb,xc,xi⟩;simp only [au] at e5
       repeat' (first|(refine jX λR hR=>?_;simp [ai,ar,f0,f1,f2,f3,f9,O1,O0,OZ,Xy,Xx,JS,fU,AW.af,aB,Jd,tL,e5,o5,o6,o4,o7,ite_self];try simp (disch:=omega) only [if_pos,if_neg,ai,ar])|(refine hR _ _ ?_;clear hR R)|(refine hK _ _ ?_;clear hK K)|refine nx ?_|refine wn λK hK=>?_|simp only [wS]|(refine bD (cI _) ?_;rintro _ _ ⟨rfl,rfl⟩ _ _)|(show cM _ _ _ _ _ _;refine nx ?_)|(refine wc rfl (λhc=>?_) (λhc=>?_)<;>(try simp at hc)<;>(try omega))|(refine ib (λhc=>?_) (λhc=>?_)<;>(try omega)<;>(try simp (disch:=omega) only [if_pos,if_neg])))
       refine⟨l.length-(i+1),by omega,i+1,ps++[⟨8,xa,xb,xc,xi⟩],jl,Am,vj,false,rfl,by omega,by omega,by simp [N1],by first|omega|(simp;omega),⟨?_,?_,?_,?_,?_,?_,?_,?_⟩,?_,?_,?_,.inl (by rw [List.length_append,List.length_singleton];omega)⟩
       iterate 8 simp [f0,f1,f2,f3,f9,O1,O0,OZ]
       exact Oh.mono (by simp);exact nc.vy (x:=⟨8,xa,xb,xc,xi⟩) Lx (Tk) Wr;exact FH.vy _
     obtain⟨A3,Jd⟩:∃A3,(A2.alloc (.cells [.int .i64 0,.int .i64 0,.int .i64 0,.int .i64 0,.int .i64 0] true 1)).set A2.next (some (.cells [.int .i64 xo,.int .i64 xa,.int .i64 xb,.int .i64 xc,.int .i64 xi] true 1))=A3:=⟨_,rfl⟩;have ut:=Jd;have Q0:PJ A A3 (.slice op ps.length cp) vj ps jl ps.length:=(by rw [<-ut];exact OX.grow (AW.le.km A2 _ _) (hz _ _));have tL:A3.bg A2.next=some (.cells [.int .i64 xo,.int .i64 xa,.int .i64 xb,.int .i64 xc,.int .i64 xi] true 1):=(by rw [<-ut];simp);obtain⟨Am,A5,e5,Oh⟩:=Q0.fV (by omega) ⟨xo,xa,xb,xc,xi⟩;simp only [au] at e5
     repeat' (first|(refine jX λR hR=>?_;simp [ai,ar,f0,f1,f2,f3,f9,O1,O0,OZ,Xy,Xx,JS,fU,AW.af,aB,Jd,tL,e5,o5,o6,o4,o7,o8,ite_self];try simp (disch:=omega) only [if_pos,if_neg,ai,ar])|(refine hR _ _ ?_;clear hR R)|(refine hK _ _ ?_;clear hK K)|refine nx ?_|refine wn λK hK=>?_|simp only [wS]|(refine bD (cI _) ?_;rintro _ _ ⟨rfl,rfl⟩ _ _)|(show cM _ _ _ _ _ _;refine nx ?_)|(refine wc rfl (λhc=>?_) (λhc=>?_)<;>(try simp at hc)<;>(try omega))|(refine ib (λhc=>?_) (λhc=>?_)<;>(try omega)<;>(try simp (disch:=omega) only [if_pos,if_neg])))
     refine⟨l.length-(i+1),by omega,i+1,ps++[⟨xo,xa,xb,xc,xi⟩],jl,Am,vj,b,rfl,by omega,by omega,by simp [N1],by first|omega|(simp;omega),⟨?_,?_,?_,?_,?_,?_,?_,?_⟩,?_,?_,?_,.inl (by rw [List.length_append,List.length_singleton];omega)⟩
     iterate 8 simp [f0,f1,f2,f3,f9,O1,O0,OZ]
     exact Oh.mono (by simp);have hg:=nc.vy Lx Tk Wr;rw [show opN b xo=b by simp [opN,o7,o8]] at hg;exact hg;exact FH.vy _
   refine aO ?_;refine W cd (tA g0 g1 g2 g3 g9 lO lg pH tH bL qd hws) ?_<;>intros;exact⟨ps,jl,vp,vj,b,by omega,by omega,by simp [g9,tH],by simp [lO],by simp [lg],hJ,Lx,FH,QB⟩
 refine aO ?_;refine W cd (HE g0 g1 g2 g3 g9 lO lg pH tH bL hws) ?_<;>intros;exact⟨ps,jl,vp,vj,b,by omega,by omega,by simp [g9,tH],by simp [lO],by simp [lg],hJ,Lx,FH,QB⟩
end
end Go.Stx
