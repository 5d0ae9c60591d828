/-
 Appending values of one cell; slices of programs that a call has made.
-/
import Derived.Test.YtipomeafemoelaaGreatDoorG18
import Derived.Laws.FloatArith
set_option linter.unusedVariables false
set_option linter.unusedSimpArgs false
set_option linter.unusedSectionVars false
set_option maxRecDepth 20000
set_option maxHeartbeats 4000000
namespace Go.Stx
open Go Go.Proofs
attribute [local irreducible] cM aS ax aH cJ de TW bA
section
variable [Gl]
theorem M6 {P:Program} {t e:TypeId} {i:TypeInfo} {z:Value} {A:AW} {B:Nat} {v:Value} {n:Nat} {cs:List Value} (x:Value) (hu:P.underlying t=some (.slice e)) (hi:P.info? e=some i) (hz:i.zero=some z) (hs:i.size=1) (nA:z.cells.size=1) (vJ:i.bytes<=24)
 (hx:x.oneCell'=true) (gB:dB B A 1 v n cs) (hn:n<2 ^ 30) (hB:B<=A.next) (hw:A.Wf) :
 ∃v' A',eU P (A.alloc (.cells [x] true 1)) t t v (.slice (some ⟨A.next,0,none⟩) 1 1)=some (v',A')/\dB B A' 1 v' (n+1) (cs++[x])/\OO B A A' v v':=by
 have yp:=dB.le (AW.le.alloc A (.cells [x] true 1)) hw gB;have iF:fK (A.alloc (.cells [x] true 1)) 1 (.slice (some ⟨A.next,0,none⟩) 1 1)=some (1,[x]):=by
  simp [fK,AW.bP]
 have hb:(n+1)*i.bytes<=140737488355328:=by
  have:=Nat.mul_le_mul_left (n+1) vJ;omega
 obtain⟨v',A',h1,h2,h3,h4,h5,h6,h7⟩:=jm (P:=P) (size:=1) (t:=t) hu hi hz hs nA (by omega) yp iF (by rw [List.all_cons,hx];rfl) (by omega) hb (by rw [AW.aV];omega) (hw.alloc _);refine⟨v',A',h1,h2,λA0 ha hl=>h3 A0 ha (hl.trans (AW.le.alloc A _)),h4,by rw [AW.aV] at h5;omega,λj hj hU=>?_,λj hj=>?_⟩;rw [h6 j (by simp;omega) hU,AW.fz _ _ (by omega)];rcases h7 with rfl|h7;exact .inl hj;rw [h7] at hj;injection hj with hj;simp at hj;exact .inr (by omega)
structure PS (B:Nat) (A:AW) (vp:Value) (us:List Value) (ps:List (List aZ)):Prop where
 own:dB B A 1 vp us.length us
 len:us.length=ps.length
 el:∀i (hi:i<ps.length),∃u,us[i]? = some u/\dB B A 5 u ps[i].length (ps[i].flatMap au)/\∀j,fa vp=some j->fa u≠some j
theorem dB.xz {B C:Nat} (hc:C<=B) {A:AW} {size:Nat} {v:Value} {n:Nat} {cs:List Value} (h:dB B A size v n cs):dB C A size v n cs:=by
 rcases h with h|⟨p,c,bP,h1,h2,hs,h3,h4,h5⟩;exact .inl h;exact .inr ⟨p,c,bP,h1,h2,hs,by omega,h4,h5⟩
theorem PS.le {B:Nat} {A A':AW} {vp:Value} {us:List Value} {ps:List (List aZ)} (h:PS B A vp us ps) (hl:A.le A') (hw:A.Wf):PS B A' vp us ps:=
 ⟨h.own.le hl hw,h.len,λi hi=>let ⟨u,h1,h2,h3⟩:=h.el i hi;⟨u,h1,h2.le hl hw,h3⟩⟩
theorem PS.jO {B:Nat} {A A':AW} {vp:Value} {us:List Value} {ps:List (List aZ)} (h:PS B A vp us ps) (he:∀j,B<=j->j<A.next->A'.bg j=A.bg j) (hw:A.Wf):PS B A' vp us ps:=
 ⟨h.own.jO λj hj=>he j (h.own.lt hw hj).1 (h.own.lt hw hj).2,h.len,λi hi=>let ⟨u,h1,h2,h3⟩:=h.el i hi;⟨u,h1,h2.jO λj hj=>he j (h2.lt hw hj).1 (h2.lt hw hj).2,h3⟩⟩
theorem PS.nil (B:Nat) (A:AW):PS B A (.slice none 0 0) [] []:=⟨dB.nil _ _ _,rfl,λi hi=>by simp at hi⟩
theorem dB.aD {B:Nat} {A:AW} {size:Nat} {v:Value} {n:Nat} {cs:List Value} (h:dB B A size v n cs):v.oneCell'=true:=by
 rcases h with ⟨rfl,_⟩|⟨p,c,bP,rfl,_⟩<;>rfl
theorem PS.X0 {B:Nat} {A:AW} {vp:Value} {us:List Value} {ps:List (List aZ)} (h:PS B A vp us ps):gs A vp ps:=by
 refine⟨us,?_,λi hi=>?_⟩;rw [<-h.len];exact h.own.is;obtain⟨u,h1,h2,h3⟩:=h.el i hi;exact⟨u,h1,h2.is⟩
theorem PS.add {B:Nat} {A:AW} {vp:Value} {us:List Value} {ps:List (List aZ)} (h:PS B A vp us ps) {u:Value} {p:List aZ} (hu:dB B A 5 u p.length (p.flatMap au)) (hU:∀j,fa vp=some j->fa u≠some j)
 (hn:us.length<2 ^ 30) (hB:B<=A.next) (hw:A.Wf) :
 ∃v' A',eU Tryz.prog (A.alloc (.cells [u] true 1)) 29 29 vp (.slice (some ⟨A.next,0,none⟩) 1 1)=some (v',A')/\PS B A' v' (us++[u]) (ps++[p])/\OO B A A' vp v':=by
 obtain⟨v',A',e,h2,k⟩:=M6 (P:=Tryz.prog) u Tryz.underlying29 Tryz.info75 Tryz.zero75 rfl rfl (by simp) hu.aD h.own hn hB hw;have N5:∀{x:Value} {n cs},dB B A 5 x n cs->(∀j,fa vp=some j->fa x≠some j)->dB B A' 5 x n cs/\∀j,fa v'=some j->fa x≠some j:=λ{x n cs} hx hd=>by
  refine⟨hx.jO λj hj=>k.bg j (hx.lt hw hj).2 λe2=>hd j e2 hj,λj hj tm=>?_⟩;rcases k.lK j hj with e2|e2;exact hd j e2 tm;have:=(hx.lt hw tm).2;omega
 refine⟨v',A',e,⟨by rw [List.length_append];exact h2,by simp [h.len],λi hi=>?_⟩,k⟩;by_cases bL:i<ps.length;obtain⟨x,h3,h4,h5⟩:=h.el i bL;obtain⟨h6,h7⟩:=N5 h4 h5;refine⟨x,?_,?_,h7⟩;rw [List.getElem?_append_left (by rw [h.len];exact bL),h3];rw [List.getElem_append_left bL];exact h6;have QI:i=ps.length:=by simp at hi;omega
 subst QI;obtain⟨h6,h7⟩:=N5 hu hU;refine⟨u,?_,?_,h7⟩;rw [<-h.len];simp
 simpa using h6
end
section
open T7
variable [Gl]
def nG (a n:Int):Int:=IntKind.u64.wrap a % n
theorem tt (a n:Int) (hn:0<n):0<=nG a n/\nG a n<n:=⟨Int.emod_nonneg _ (by omega),Int.emod_lt_of_pos _ hn⟩
theorem EQ (a n:Int) (A:AW) (hn:0<n) (zP:n<=9223372036854775807) :
 ax Tryz.prog 10 [.int .i64 a,.int .i64 n] A (λv A'=>v=.int .i64 (nG a n)/\A=A'):=by
 refine aF Tryz.func10 λhw=>?_;have jg:IntKind.u64.wrap n=n:=ar (by omega) (by omega);have hU:n≠0:=by omega
 obtain⟨h1,h2⟩:=kQ a;obtain⟨h3,h4⟩:=tt a n hn;have hr:(IntKind.u64.wrap a).tmod n=nG a n:=Int.tmod_eq_emod_of_nonneg h1;have jR:IntKind.i64.wrap (nG a n)=nG a n:=ai (by omega) (by omega);refine W cd (J4 jg hU hr jR) ?_<;>intros;simp
end
section
abbrev ks:List (Nat×Nat):=[(0,0),(1,0),(2,0),(3,0),(4,0),(5,0),(6,0),(10,0),(7,2),(8,0),(9,0),(11,2),(12,2),(13,3),(14,0),(15,3)]
abbrev kr:List (Nat×Nat):=[(0,0),(1,0),(2,0),(3,0),(4,0),(5,0),(6,0),(7,2),(8,2),(9,3),(10,0),(11,3)]
open T7
variable [Gl]
structure SB (A:AW) (b:Nat) (A':AW):Prop where
 next:A.next<=A'.next
 bg:∀i,i<A.next->i≠b->A'.bg i=A.bg i
theorem SB.refl (A:AW) (b:Nat):SB A b A:=⟨Nat.le_refl _,λ_ _ _=>rfl⟩
theorem SB.trans {A B C:AW} {b:Nat} (h:SB A b B) (k:SB B b C):SB A b C:=⟨Nat.le_trans h.next k.next,λi hi hb=>(k.bg i (Nat.lt_of_lt_of_le hi h.next) hb).trans (h.bg i hi hb)⟩
theorem SB.jC {A B:AW} {b:Nat} (h:A.le B):SB A b B:=⟨h.next,λi hi _=>h.bg i hi⟩
theorem SB.set {A B:AW} {b:Nat} (h:SB A b B) (o:Option dH):SB A b (B.set b o):=⟨h.next,λi hi hb=>(AW.aY hb).trans (h.bg i hi hb)⟩
theorem SB.le {A0 A B:AW} {b:Nat} (h:A0.le A) (hb:A0.next<=b) (k:SB A b B):A0.le B:=⟨Nat.le_trans h.next k.next,λi hi=>(k.bg i (Nat.lt_of_lt_of_le hi h.next) (by omega)).trans (h.bg i hi)⟩
theorem SB.XF {A1 A A':AW} {b:Nat} {v v':Value} (h:SB A1 b A) (hv:∀j,fa v=some j->A1.next<=j) (k:OO A1.next A A' v v'):SB A1 b A':=
 ⟨Nat.le_trans h.next k.next,λi hi hb=>(k.bg i (Nat.lt_of_lt_of_le hi h.next) λe=>by have:=hv i e;omega).trans (h.bg i hi hb)⟩
theorem RD {P:Program} {t e:TypeId} {i:TypeInfo} {z:Value} {A:AW} {B:Nat} {v:Value} {n:Nat} {cs:List Value} (x:Value) (hu:P.underlying t=some (.slice e)) (hi:P.info? e=some i) (hz:i.zero=some z) (hs:i.size=1) (nA:z.cells.size=1) (vJ:i.bytes<=8)
 (hx:x.oneCell'=true) (gB:dB B A 1 v n cs) (hn:n<17592186044415) (hB:B<=A.next) (hw:A.Wf) :
 ∃v' A',eU P (A.alloc (.cells [x] true 1)) t t v (.slice (some ⟨A.next,0,none⟩) 1 1)=some (v',A')/\dB B A' 1 v' (n+1) (cs++[x])/\OO B A A' v v':=by
 have yp:=dB.le (AW.le.alloc A (.cells [x] true 1)) hw gB;have iF:fK (A.alloc (.cells [x] true 1)) 1 (.slice (some ⟨A.next,0,none⟩) 1 1)=some (1,[x]):=by
  simp [fK,AW.bP]
 have hb:(n+1)*i.bytes<=140737488355328:=by
  have:=Nat.mul_le_mul_left (n+1) vJ;omega
 obtain⟨v',A',h1,h2,h3,h4,h5,h6,h7⟩:=jm (P:=P) (size:=1) (t:=t) hu hi hz hs nA (by omega) yp iF (by rw [List.all_cons,hx];rfl) (by omega) hb (by rw [AW.aV];omega) (hw.alloc _);refine⟨v',A',h1,h2,λA0 ha hl=>h3 A0 ha (hl.trans (AW.le.alloc A _)),h4,by rw [AW.aV] at h5;omega,λj hj hU=>?_,λj hj=>?_⟩;rw [h6 j (by simp;omega) hU,AW.fz _ _ (by omega)];rcases h7 with rfl|h7;exact .inl hj;rw [h7] at hj;injection hj with hj;simp at hj;exact .inr (by omega)
def QP (lL:Int) (q:List aZ):Prop:=q.length<=1001/\(lL<=64->(cD q).2=0)/\HF q
theorem Kl (hn:Gl.N=4) (c:bq) (Td:0<=c.ba/\c.ba<=64) (n:Nat) (hn16:n<=16) (vl vk:Value) (ls:List (List Int)) (pk:List Int) (lL:Int) (heap plain:Bool) (A:AW) (hL:qr A vl ls)
 (hm:0<=lL/\lL<=1000) (hk:bx A .i64 vk pk) (hkl:pk.length<=17592186044415) (hnp:pk=[]\/1<=n) :
 ax Tryz.prog 21 [c.v,.int .i64 n,vl,.int .i64 lL,.bool heap,.bool plain,vk] A (λu A'=>∃(oi:Option Addr) (ni ci:Nat) (vp:Value) (ok:Option Addr) (ck:Nat) (us:List Value) (ps:List (List aZ)) (kl zs:List Int) (Z:Nat),
  u=HK c (.slice oi ni ci) vp (.slice ok kl.length ck)/\A.next<=Z/\PS Z A' vp us ps/\A.le A'/\A'.Wf/\dB Z A' 1 (.slice ok kl.length ck) kl.length (kl.map (Value.int .i64))/\kl.length=pk.length/\us.length=n/\(∀q∈ps,QP lL q)/\(∀j o,fa (.slice ok kl.length ck)=some j->PS Z (A'.set j o) vp us ps)/\
  (ni:Int)=c.ba/\(∀x∈kl,0<=x/\x<(n:Int))/\zs.length=ni/\dB A.next A' 1 (.slice oi ni ci) ni (zs.map (Value.int .u64))/\∀j,fa (.slice oi ni ci)=some j->j<Z):=by
 refine aF Tryz.func21 λhw=>?_;obtain⟨ol,cl,rfl,_⟩:=hL.bE;obtain⟨RU,R7,rfl,_⟩:=hk.bE;have cB:=λB=>Cl c B;generalize BM c=bl at cB;have xj:c.v=.agg c.cells.toArray:=rfl;obtain⟨lf,fi,kH,c0,c1,c2,c3,jB,kw,kI,kD,jk,lx⟩:=c;simp only at Td;obtain⟨E7,rfl⟩:∃E7:Nat,lf=E7:=⟨lf.toNat,by omega⟩;have hwsz:E7<=64:=by omega
 unfold HK jv;simp only [bq.v,bq.cells,aa,ag] at cB ⊢;revert hw;refine W (J2 (od ks) (od kr)) (J1 bz) ?_<;>(unhygienic intros)
 refine Hc (λA1=>A.le A1/\A1.Wf/\A1.next=A.next+3/\A1.bg A.next=some (.cells [.int .i64 (E7:Int),.int .i64 fi,.int .i64 kH,.int .i64 c0,.int .i64 c1,.int .i64 c2,.int .i64 c3,.int .i64 jB,.int .i64 kw,.int .i64 kI,.int .i64 kD,.int .i64 jk,.bool lx] true 1)/\
  A1.bg (A.next+1)=some (.cells tW true 1)/\
  A1.bg (A.next+2)=some (.cells [.int .i64 (E7:Int),.int .i64 fi,.int .i64 kH,.int .i64 c0,.int .i64 c1,.int .i64 c2,.int .i64 c3,.int .i64 jB,.int .i64 kw,.int .i64 kI,.int .i64 kD,.int .i64 jk,.bool lx,.slice none 0 0,.slice none 0 0,.slice none 0 0] true 1)) ?_ ?_
 have e1:¬A.next=A.next+1+1:=by omega
 have e2:¬A.next=A.next+1:=by omega
 have e3:¬A.next+1=A.next:=by omega
 have e4:¬A.next+1+1=A.next:=by omega
 refine⟨(((AW.le.alloc A _).trans (AW.le.alloc _ _)).trans (AW.le.alloc _ _)).set (by omega) _,(((hw.alloc _).alloc _).alloc _).set _ (by simp only [AW.aV];omega),by simp,?_,?_,?_⟩;simp [AW.dF,AW.eg,e1,e2,e3,e4];simp [AW.dF,AW.eg,tW,e1,e2,e3,e4];simp [AW.dF,AW.eg,e1,e2,e3,e4];rintro A1 ⟨Lp,jg,C0,hb7,QV,Y8⟩
 refine rX (λfr A'=>∃(vi:Value) (ni:Nat) (zs:List Int),ni=E7/\zs.length=ni/\fr 1=.int .i64 n/\fr 2=.slice ol ls.length cl/\fr 3=.int .i64 lL/\fr 4=.bool heap/\fr 5=.bool plain/\fr 6=.slice RU pk.length R7/\fr 7=.pointer (some ⟨A.next,0,none⟩)/\fr 14=.pointer (some ⟨A.next+1,0,none⟩)/\fr 15=.pointer (some ⟨A.next+2,0,none⟩)/\
  SB A1 (A.next+2) A'/\A'.Wf/\A'.bg (A.next+2)=some (.cells [.int .i64 (E7:Int),.int .i64 fi,.int .i64 kH,.int .i64 c0,.int .i64 c1,.int .i64 c2,.int .i64 c3,.int .i64 jB,.int .i64 kw,.int .i64 kI,.int .i64 kD,.int .i64 jk,.bool lx,vi,.slice none 0 0,.slice none 0 0] true 1)/\dB A1.next A' 1 vi ni (zs.map (Value.int .u64))) ?_ ?_
 . refine cW (λk fr A'=>∃(i:Nat) (vi:Value) (zs:List Int),k=E7-i/\i<=E7/\zs.length=i/\fr 1=.int .i64 n/\fr 2=.slice ol ls.length cl/\fr 3=.int .i64 lL/\fr 4=.bool heap/\fr 5=.bool plain/\fr 6=.slice RU pk.length R7/\fr 7=.pointer (some ⟨A.next,0,none⟩)/\fr 14=.pointer (some ⟨A.next+1,0,none⟩)/\fr 15=.pointer (some ⟨A.next+2,0,none⟩)/\fr 16=.int .i64 i/\
    SB A1 (A.next+2) A'/\A'.Wf/\A'.bg (A.next+2)=some (.cells [.int .i64 (E7:Int),.int .i64 fi,.int .i64 kH,.int .i64 c0,.int .i64 c1,.int .i64 c2,.int .i64 c3,.int .i64 jB,.int .i64 kw,.int .i64 kI,.int .i64 kD,.int .i64 jk,.bool lx,vi,.slice none 0 0,.slice none 0 0] true 1)/\dB A1.next A' 1 vi i (zs.map (Value.int .u64))) E7 ?_ ?_
   exact⟨0,_,[],rfl,Nat.zero_le _,rfl,rfl,rfl,rfl,rfl,rfl,rfl,rfl,rfl,rfl,rfl,SB.refl _ _,jg,Y8,dB.nil _ _ _⟩;rintro k fr A' ⟨i,vi,zs,rfl,hi,hzl,g1,g2,g3,g4,g5,g6,g7,sS,tB,Zr,hS,i8,hb,gB⟩;have I9:=(hS.bg A.next (by omega) (by omega)).trans hb7;have qd:=i8.lt hb;by_cases bL:i<E7
   . obtain⟨qv,hqv⟩:∃qv,IntKind.u64.wrap ((i:Int).tmod 4)=qv:=⟨_,rfl⟩;have fU:=uR (i:=i);obtain⟨XN,A4,e4,wh,k4⟩:=M6 (P:=Tryz.prog) (.int .u64 qv) Tryz.underlying28 Tryz.info35 Tryz.zero35 rfl rfl (by simp) rfl gB (by omega) hS.next i8;have wh:dB A1.next A4 1 XN (i+1) ((zs++[qv]).map (Value.int .u64)):=by simpa using wh
     have hU:fa vi≠some (A.next+2):=λe=>by have:=(gB.lt i8 e).1;omega
     have wu:=(k4.bg (A.next+2) qd hU).trans hb;have V4:=k4.wf.lt wu;have xk:=hS.XF (λj hj=>(gB.lt i8 hj).1) k4;have dv:E7-i=(E7-(i+1))+1:=(by omega);have MH:=gB.aD;have hv2:=wh.aD;refine aO ?_;revert hS hw;(repeat first|clear hS|clear hw|revert hc|revert R|revert K);refine W (J2 (od ks) (od kr)) (RO g1 g2 g3 g4 g5 g6 g7 sS tB Zr bL fU hqv hb I9 wu e4 bz) ?_<;>(unhygienic intros);obtain⟨oi',ci',rfl,_⟩:=wh.is.bE;refine W (J2 (od ks) (od kr)) (RO g1 g2 g3 g4 g5 g6 g7 sS tB Zr bL fU hqv hb I9 wu e4 bz) ?_<;>intros;refine⟨E7-(i+1),by omega,i+1,_,zs++[qv],rfl,by omega,by simp [hzl],?_,?_,?_,?_,?_,?_,?_,?_,?_,?_,xk.set _,k4.wf.set _ V4,AW.cm,wh.jO λj hj=>AW.aY (λe=>by have:=(wh.lt k4.wf hj).1;omega)⟩<;>simp [g1,g2,g3,g4,g5,g6,g7,sS,tB,Zr]
   refine aO ?_;revert hS hw;(repeat first|clear hS|clear hw|revert hc|revert R|revert K);refine W (J2 (od ks) (od kr)) (vO g1 g2 g3 g4 g5 g6 g7 sS tB Zr bL hb I9 @AW.af) ?_<;>(unhygienic intros);refine⟨vi,_,zs,by omega,hzl,?_,?_,?_,?_,?_,?_,?_,?_,?_,hS,i8,hb,gB⟩<;>simp [g1,g2,g3,g4,g5,g6,g7,sS,tB,Zr]
 rintro fr A2 ⟨vi,ni,zs,OT,hzl,g1,g2,g3,g4,g5,g6,g7,sS,tB,iz,jR,k7,I4⟩;have SX:=iz.le Lp (by omega);have zP:A.next+3<=A2.next:=by rw [<-C0];exact iz.next
 have hb7:=(iz.bg A.next (by omega) (by omega)).trans hb7;have QV:=(iz.bg (A.next+1) (by omega) (by omega)).trans QV;obtain⟨oi,Tx,rfl,_⟩:=I4.is.bE;have UN:∀j,fa (.slice oi ni Tx)=some j->A.next+3<=j/\j<A2.next:=λj hj=>⟨by have:=(I4.lt jR hj).1;omega,(I4.lt jR hj).2⟩;have hI:∀A',SB A2 (A.next+2) A'->dB A1.next A' 1 (.slice oi ni Tx) ni (zs.map (Value.int .u64)):=λA' h=>I4.jO λj hj=>h.bg j (UN j hj).2 (by have:=(UN j hj).1;omega);clear Y8 I4 iz jg Lp;refine aO ?_;revert hw;(repeat first|clear hw|revert hc|revert R|revert K);refine W (J2 (od ks) (od kr)) (J9 g1 g2 g3 g4 g5 g6 g7 sS tB) ?_<;>(unhygienic intros)
 refine rX (λfr A'=>∃(vp:Value) (us:List Value) (ps:List (List aZ)),us.length=n/\(∀q∈ps,QP lL q)/\fr 1=.int .i64 n/\fr 2=.slice ol ls.length cl/\fr 3=.int .i64 lL/\fr 4=.bool heap/\fr 5=.bool plain/\fr 6=.slice RU pk.length R7/\fr 7=.pointer (some ⟨A.next,0,none⟩)/\fr 14=.pointer (some ⟨A.next+1,0,none⟩)/\fr 15=.pointer (some ⟨A.next+2,0,none⟩)/\
  SB A2 (A.next+2) A'/\A'.Wf/\A'.bg (A.next+2)=some (.cells [.int .i64 (E7:Int),.int .i64 fi,.int .i64 kH,.int .i64 c0,.int .i64 c1,.int .i64 c2,.int .i64 c3,.int .i64 jB,.int .i64 kw,.int .i64 kI,.int .i64 kD,.int .i64 jk,.bool lx,.slice oi ni Tx,vp,.slice none 0 0] true 1)/\PS A2.next A' vp us ps) ?_ ?_
 . refine cW (λk fr A'=>∃(t:Nat) (vp:Value) (us:List Value) (ps:List (List aZ)),k=n-t/\t<=n/\us.length=t/\(∀q∈ps,QP lL q)/\fr 1=.int .i64 n/\fr 2=.slice ol ls.length cl/\fr 3=.int .i64 lL/\fr 4=.bool heap/\fr 5=.bool plain/\fr 6=.slice RU pk.length R7/\fr 7=.pointer (some ⟨A.next,0,none⟩)/\fr 14=.pointer (some ⟨A.next+1,0,none⟩)/\fr 15=.pointer (some ⟨A.next+2,0,none⟩)/\fr 17=.int .i64 t/\
    SB A2 (A.next+2) A'/\A'.Wf/\A'.bg (A.next+2)=some (.cells [.int .i64 (E7:Int),.int .i64 fi,.int .i64 kH,.int .i64 c0,.int .i64 c1,.int .i64 c2,.int .i64 c3,.int .i64 jB,.int .i64 kw,.int .i64 kI,.int .i64 kD,.int .i64 jk,.bool lx,.slice oi ni Tx,vp,.slice none 0 0] true 1)/\PS A2.next A' vp us ps) n ?_ ?_
   exact⟨0,_,[],[],rfl,Nat.zero_le _,rfl,by simp,by simp [g1],by simp [g2],by simp [g3],by simp [g4],by simp [g5],by simp [g6],by simp [g7],by simp [sS],by simp [tB],rfl,SB.refl _ _,jR,k7,PS.nil _ _⟩;clear g1 g2 g3 g4 g5 g6 g7 sS tB;rintro k fr A' ⟨t,vp,us,ps,rfl,ht,hut,nh,g1,g2,g3,g4,g5,g6,g7,sS,tB,Oj,hS,i8,hb,hP⟩;have I9:=(hS.bg A.next (by omega) (by omega)).trans hb7;have qd:=i8.lt hb;have hleA:=hS.le SX (by omega);have hL':=hL.keeps (ff.jC hleA hw);obtain⟨X7,ZB,tH,_⟩:=hP.own.is.bE;subst tH;by_cases bL:t<n
   . have fU:IntKind.i64.wrap ((t:Int)+1)=((t+1:Nat):Int):=ai (by omega) (by omega);have dv:n-t=(n-(t+1))+1:=(by omega);by_cases C2:t<ls.length
     . obtain⟨q,bP,own,u,uq,bI,hcell,hu⟩:=hL'.at C2;subst uq;cases heap with
       | true=>
         refine aO ?_;revert hS hw;(repeat first|clear hS|clear hw|revert hc|revert R|revert K);refine W (J3 (od ks) (od kr) @cB) (RO g1 g2 g3 g4 g5 g6 g7 sS tB Oj bL C2 fU bI hcell hb I9 @AW.af) ?_<;>(unhygienic intros);refine(nN hn _ _ lL _ plain _ hu hm).mono ?_;rintro u2 A4 ⟨p,EL,Li,mL,pF,VX,ST⟩
         first|refine⟨mL,?_⟩|skip
         obtain⟨ou,cu,Lh,_⟩:=Li.is.bE;subst Lh;have Jc:=hP.le mL i8;obtain⟨Am,A5,e5,Lw,k5⟩:=Jc.add (Li.xz hS.next) (λj h1 h2=>by have:=(hP.own.lt i8 h1).2;have:=(Li.lt pF h2).1;omega) (by omega) (Nat.le_trans hS.next mL.next) pF;have wu:=mL.oK i8 hb;have QT:=(k5.bg (A.next+2) (pF.lt wu) (λe=>by have:=(Jc.own.lt pF e).1;omega)).trans wu;have yw:=(hS.trans (SB.jC mL)).XF (λj hj=>(Jc.own.lt pF hj).1) k5;obtain⟨X6,ZA,Lg,_⟩:=Lw.own.is.bE;subst Lg;simp only [List.length_append,List.length_cons,List.length_nil,Nat.zero_add] at Lw e5;have Ln:=k5.wf.lt QT;revert hS hw;(repeat first|clear hS|clear hw|revert hc|revert R|revert K);refine W (J2 (od ks) (od kr)) (TS g1 g2 g3 g4 g5 g6 g7 sS tB Oj bL C2 fU wu QT e5 bz) ?_<;>(unhygienic intros);refine⟨n-(t+1),by omega,t+1,_,us++[.slice ou p.length cu],ps++[p],rfl,by omega,by rw [List.length_append,hut];rfl,λq hq=>by
          rcases List.mem_append.1 hq with h|h;exact nh q h;rw [List.mem_singleton.1 h];exact⟨EL,VX,ST⟩,?_,?_,?_,?_,?_,?_,?_,?_,?_,?_,yw.set _,k5.wf.set _ Ln,AW.cm,Lw.jO (λj h1 _=>AW.aY (show j≠A.next+2 by omega)) k5.wf⟩<;>simp [g1,g2,g3,g4,g5,g6,g7,sS,tB]
       | false=>
         refine aO ?_;revert hS hw;(repeat first|clear hS|clear hw|revert hc|revert R|revert K);refine W (J3 (od ks) (od kr) @cB) (RO g1 g2 g3 g4 g5 g6 g7 sS tB Oj bL C2 fU bI hcell hb I9 @AW.af) ?_<;>(unhygienic intros);refine(nN hn _ _ lL _ plain _ hu hm).mono ?_;rintro u2 A4 ⟨p,EL,Li,mL,pF,VX,ST⟩
         first|refine⟨mL,?_⟩|skip
         obtain⟨ou,cu,Lh,_⟩:=Li.is.bE;subst Lh;have Jc:=hP.le mL i8;obtain⟨Am,A5,e5,Lw,k5⟩:=Jc.add (Li.xz hS.next) (λj h1 h2=>by have:=(hP.own.lt i8 h1).2;have:=(Li.lt pF h2).1;omega) (by omega) (Nat.le_trans hS.next mL.next) pF;have wu:=mL.oK i8 hb;have QT:=(k5.bg (A.next+2) (pF.lt wu) (λe=>by have:=(Jc.own.lt pF e).1;omega)).trans wu;have yw:=(hS.trans (SB.jC mL)).XF (λj hj=>(Jc.own.lt pF hj).1) k5;obtain⟨X6,ZA,Lg,_⟩:=Lw.own.is.bE;subst Lg;simp only [List.length_append,List.length_cons,List.length_nil,Nat.zero_add] at Lw e5;have Ln:=k5.wf.lt QT;revert hS hw;(repeat first|clear hS|clear hw|revert hc|revert R|revert K);refine W (J2 (od ks) (od kr)) (TS g1 g2 g3 g4 g5 g6 g7 sS tB Oj bL C2 fU wu QT e5 bz) ?_<;>(unhygienic intros);refine⟨n-(t+1),by omega,t+1,_,us++[.slice ou p.length cu],ps++[p],rfl,by omega,by rw [List.length_append,hut];rfl,λq hq=>by
          rcases List.mem_append.1 hq with h|h;exact nh q h;rw [List.mem_singleton.1 h];exact⟨EL,VX,ST⟩,?_,?_,?_,?_,?_,?_,?_,?_,?_,?_,yw.set _,k5.wf.set _ Ln,AW.cm,Lw.jO (λj h1 _=>AW.aY (show j≠A.next+2 by omega)) k5.wf⟩<;>simp [g1,g2,g3,g4,g5,g6,g7,sS,tB]
     have hu:bx A' .i64 (.slice none 0 0) []:=bx.nil _ _;cases heap with
     | true=>
       refine aO ?_;revert hS hw;(repeat first|clear hS|clear hw|revert hc|revert R|revert K);refine W (J3 (od ks) (od kr) @cB) (JN g1 g2 g3 g4 g5 g6 g7 sS tB Oj bL C2 fU hb I9 @AW.af) ?_<;>(unhygienic intros);refine(nN hn _ _ lL _ plain _ hu hm).mono ?_;rintro u2 A4 ⟨p,EL,Li,mL,pF,VX,ST⟩
       first|refine⟨mL,?_⟩|skip
       obtain⟨ou,cu,Lh,_⟩:=Li.is.bE;subst Lh;have Jc:=hP.le mL i8;obtain⟨Am,A5,e5,Lw,k5⟩:=Jc.add (Li.xz hS.next) (λj h1 h2=>by have:=(hP.own.lt i8 h1).2;have:=(Li.lt pF h2).1;omega) (by omega) (Nat.le_trans hS.next mL.next) pF;have wu:=mL.oK i8 hb;have QT:=(k5.bg (A.next+2) (pF.lt wu) (λe=>by have:=(Jc.own.lt pF e).1;omega)).trans wu;have yw:=(hS.trans (SB.jC mL)).XF (λj hj=>(Jc.own.lt pF hj).1) k5;obtain⟨X6,ZA,Lg,_⟩:=Lw.own.is.bE;subst Lg;simp only [List.length_append,List.length_cons,List.length_nil,Nat.zero_add] at Lw e5;have Ln:=k5.wf.lt QT;revert hS hw;(repeat first|clear hS|clear hw|revert hc|revert R|revert K);refine W (J2 (od ks) (od kr)) (TS g1 g2 g3 g4 g5 g6 g7 sS tB Oj bL C2 fU wu QT e5 bz) ?_<;>(unhygienic intros);refine⟨n-(t+1),by omega,t+1,_,us++[.slice ou p.length cu],ps++[p],rfl,by omega,by rw [List.length_append,hut];rfl,λq hq=>by
        rcases List.mem_append.1 hq with h|h;exact nh q h;rw [List.mem_singleton.1 h];exact⟨EL,VX,ST⟩,?_,?_,?_,?_,?_,?_,?_,?_,?_,?_,yw.set _,k5.wf.set _ Ln,AW.cm,Lw.jO (λj h1 _=>AW.aY (show j≠A.next+2 by omega)) k5.wf⟩<;>simp [g1,g2,g3,g4,g5,g6,g7,sS,tB]
     | false=>
       refine aO ?_;revert hS hw;(repeat first|clear hS|clear hw|revert hc|revert R|revert K);refine W (J3 (od ks) (od kr) @cB) (JN g1 g2 g3 g4 g5 g6 g7 sS tB Oj bL C2 fU hb I9 @AW.af) ?_<;>(unhygienic intros);refine(nN hn _ _ lL _ plain _ hu hm).mono ?_;rintro u2 A4 ⟨p,EL,Li,mL,pF,VX,ST⟩
       first|refine⟨mL,?_⟩|skip
       obtain⟨ou,cu,Lh,_⟩:=Li.is.bE;subst Lh;have Jc:=hP.le mL i8;obtain⟨Am,A5,e5,Lw,k5⟩:=Jc.add (Li.xz hS.next) (λj h1 h2=>by have:=(hP.own.lt i8 h1).2;have:=(Li.lt pF h2).1;omega) (by omega) (Nat.le_trans hS.next mL.next) pF;have wu:=mL.oK i8 hb;have QT:=(k5.bg (A.next+2) (pF.lt wu) (λe=>by have:=(Jc.own.lt pF e).1;omega)).trans wu;have yw:=(hS.trans (SB.jC mL)).XF (λj hj=>(Jc.own.lt pF hj).1) k5;obtain⟨X6,ZA,Lg,_⟩:=Lw.own.is.bE;subst Lg;simp only [List.length_append,List.length_cons,List.length_nil,Nat.zero_add] at Lw e5;have Ln:=k5.wf.lt QT;revert hS hw;(repeat first|clear hS|clear hw|revert hc|revert R|revert K);refine W (J2 (od ks) (od kr)) (TS g1 g2 g3 g4 g5 g6 g7 sS tB Oj bL C2 fU wu QT e5 bz) ?_<;>(unhygienic intros);refine⟨n-(t+1),by omega,t+1,_,us++[.slice ou p.length cu],ps++[p],rfl,by omega,by rw [List.length_append,hut];rfl,λq hq=>by
        rcases List.mem_append.1 hq with h|h;exact nh q h;rw [List.mem_singleton.1 h];exact⟨EL,VX,ST⟩,?_,?_,?_,?_,?_,?_,?_,?_,?_,?_,yw.set _,k5.wf.set _ Ln,AW.cm,Lw.jO (λj h1 _=>AW.aY (show j≠A.next+2 by omega)) k5.wf⟩<;>simp [g1,g2,g3,g4,g5,g6,g7,sS,tB]
   refine aO ?_;revert hS hw;(repeat first|clear hS|clear hw|revert hc|revert R|revert K);refine W (J2 (od ks) (od kr)) (HE g1 g2 g3 g4 g5 g6 g7 sS tB Oj bL) ?_<;>(unhygienic intros);refine⟨_,us,ps,by omega,nh,?_,?_,?_,?_,?_,?_,?_,?_,?_,hS,i8,hb,hP⟩<;>simp [g1,g2,g3,g4,g5,g6,g7,sS,tB]
 clear g1 g2 g3 g4 g5 g6 g7 sS tB;rintro fr A3 ⟨vp,us,ps,SN,nh,g1,g2,g3,g4,g5,g6,g7,sS,tB,kL,CU,tL,hP⟩;have Qz:=kL.le SX (by omega);have hn3:A.next+3<=A3.next:=Nat.le_trans zP kL.next;obtain⟨X7,ZB,tH,_⟩:=hP.own.is.bE;subst tH;have QV:=(kL.bg (A.next+1) (by omega) (by omega)).trans QV;have hP3:∀A',SB A3 (A.next+2) A'->PS A2.next A' (.slice X7 us.length ZB) us ps:=λA' h=>hP.jO (λj h1 h2=>h.bg j h2 (by omega)) CU;have hI3:∀A',SB A3 (A.next+2) A'->dB A1.next A' 1 (.slice oi ni Tx) ni (zs.map (Value.int .u64)):=λA' h=>hI A' (kL.trans h);have hn23:=kL.next;clear kL hP hI;refine aO ?_;revert hw;(repeat first|clear hw|revert hc|revert R|revert K);refine W (J2 (od ks) (od kr)) (J4 g1 g6 sS tB) ?_<;>(unhygienic intros)
 refine rX (λfr A'=>∃(vk:Value) (kl:List Int),(∀x∈kl,0<=x/\x<(n:Int))/\kl.length=pk.length/\fr 1=.int .i64 n/\fr 6=.slice RU pk.length R7/\fr 14=.pointer (some ⟨A.next+1,0,none⟩)/\fr 15=.pointer (some ⟨A.next+2,0,none⟩)/\
  SB A3 (A.next+2) A'/\A'.Wf/\A'.bg (A.next+2)=some (.cells [.int .i64 (E7:Int),.int .i64 fi,.int .i64 kH,.int .i64 c0,.int .i64 c1,.int .i64 c2,.int .i64 c3,.int .i64 jB,.int .i64 kw,.int .i64 kI,.int .i64 kD,.int .i64 jk,.bool lx,.slice oi ni Tx,.slice X7 us.length ZB,vk] true 1)/\dB A3.next A' 1 vk kl.length (kl.map (Value.int .i64))) ?_ ?_
 . refine cW (λk fr A'=>∃(i:Nat) (vk:Value) (kl:List Int),(∀x∈kl,0<=x/\x<(n:Int))/\k=pk.length-i/\i<=pk.length/\kl.length=i/\fr 1=.int .i64 n/\fr 6=.slice RU pk.length R7/\fr 14=.pointer (some ⟨A.next+1,0,none⟩)/\fr 15=.pointer (some ⟨A.next+2,0,none⟩)/\fr 19=.int .i64 i/\
    SB A3 (A.next+2) A'/\A'.Wf/\A'.bg (A.next+2)=some (.cells [.int .i64 (E7:Int),.int .i64 fi,.int .i64 kH,.int .i64 c0,.int .i64 c1,.int .i64 c2,.int .i64 c3,.int .i64 jB,.int .i64 kw,.int .i64 kI,.int .i64 kD,.int .i64 jk,.bool lx,.slice oi ni Tx,.slice X7 us.length ZB,vk] true 1)/\dB A3.next A' 1 vk kl.length (kl.map (Value.int .i64))) pk.length ?_ ?_
   exact⟨0,_,[],by simp,rfl,Nat.zero_le _,rfl,by simp [g1],by simp [g6],by simp [sS],by simp [tB],rfl,SB.refl _ _,CU,tL,dB.nil _ _ _⟩;clear g1 g2 g3 g4 g5 g6 g7 sS tB;rintro k fr A' ⟨i,vk,kl,Xo,rfl,hi,hkli,g1,g6,sS,tB,g19,hS,i8,hb,gB⟩;have qd:=i8.lt hb;obtain⟨ovk,cvk,hvk,_⟩:=gB.is.bE;subst hvk;by_cases bL:i<pk.length
   . have C0:1<=n:=by
      rcases hnp with rfl|h;simp at bL;exact h
     obtain⟨q,bP,uq,bI,hcell⟩:=(hk.le (hS.le Qz (by omega)) hw).at bL;subst uq;have cP:=λB=>EQ pk[i] (n:Int) B (by omega) (by omega);have Bl:=tt pk[i] n (by omega);generalize nG pk[i] n=pv at cP Bl;generalize pk[i]=px at hcell cP;have fU:=uR (i:=i);obtain⟨TV,A4,e4,wh,k4⟩:=RD (P:=Tryz.prog) (.int .i64 pv) Tryz.underlying24 Tryz.info3 Tryz.zero3 rfl rfl (by simp) rfl gB (by omega) hS.next i8;have hU:fa (.slice ovk kl.length cvk)≠some (A.next+2):=λe=>by have:=(gB.lt i8 e).1;omega
     have wu:=(k4.bg (A.next+2) qd hU).trans hb;have V4:=k4.wf.lt wu;have xk:=hS.XF (λj hj=>(gB.lt i8 hj).1) k4;have dv:pk.length-i=(pk.length-(i+1))+1:=(by omega);obtain⟨ok4,ck4,VN,_⟩:=wh.is.bE;subst VN;refine aO ?_;refine W (J3 (od ks) (od kr) @cP) (mi g1 g6 sS tB g19 bL fU bI hcell hb wu e4 bz) ?_<;>intros;refine⟨pk.length-(i+1),by omega,i+1,.slice ok4 (kl.length+1) ck4,kl++[pv],λx hx=>by
      rcases List.mem_append.1 hx with h|h;exact Xo x h;rw [List.mem_singleton.1 h];exact Bl,rfl,by omega,by simp [hkli],?_,?_,?_,?_,?_,xk.set _,k4.wf.set _ V4,AW.cm,?_⟩
     rotate_right
     have h:=wh.jO (A':=A4.set (A.next+2) (some (.cells [.int .i64 (E7:Int),.int .i64 fi,.int .i64 kH,.int .i64 c0,.int .i64 c1,.int .i64 c2,.int .i64 c3,.int .i64 jB,.int .i64 kw,.int .i64 kI,.int .i64 kD,.int .i64 jk,.bool lx,.slice oi ni Tx,.slice X7 us.length ZB,.slice ok4 (kl.length+1) ck4] true 1))) λj hj=>AW.aY (λe=>by have:=(wh.lt k4.wf hj).1;omega)
     simpa using h
     all_goals simp [g1,g6,sS,tB]
   refine aO ?_;revert hS hw;(repeat first|clear hS|clear hw|revert hc|revert R|revert K);refine W (J2 (od ks) (od kr)) (J6 g1 g6 sS tB g19 bL) ?_<;>(unhygienic intros);refine⟨_,kl,Xo,by omega,?_,?_,?_,?_,hS,i8,hb,gB⟩<;>simp [g1,g6,sS,tB]
 clear g1 g2 g3 g4 g5 g6 g7 sS tB;rintro fr A4 ⟨vk,kl,Xo,hkl',g1,g6,sS,tB,hS,pF,wu,gB⟩;have QU:=(hS.bg (A.next+1) (by omega) (by omega)).trans QV;obtain⟨ok4,ck4,VN,_⟩:=gB.is.bE;subst VN;have Jc:=hP3 A4 hS;have YJ:=pF.lt QU;have hA4:A3.next<=A4.next:=hS.next;have mL:=hS.le Qz (by omega);have hU:¬A.next+2=A.next+1:=by omega
 have YF:¬A.next+1=A.next+2:=by omega
 unfold tW at QU;revert hS hw;(repeat first|clear hS|clear hw|revert hc|revert R|revert K);refine W (J2 (od ks) (od kr)) (J9 g1 g6 sS tB QU wu hU YF bz) ?_<;>(unhygienic intros);refine⟨_,by first|(simp [bm,aK,aN,sS,gX,AW.af];done)|(simp [bm,aK,aN,sS,gX,AW.af];rfl),oi,ni,Tx,_,ok4,ck4,us,ps,kl,zs,A2.next,rfl,by omega,Jc.jO (λj h1 _=>AW.aY (show j≠A.next+1 by omega)) pF,mL.set (by omega) _,pF.set _ YJ,(gB.jO λj hj=>AW.aY (λe=>by have:=(gB.lt pF hj).1;omega)).xz hn23,hkl',SN,nh,λj o hj=>?_,by rw [OT],Xo,hzl,?_,λj hj=>(UN j hj).2⟩
 rotate_left
 exact((hI3 A4 hS).jO λj hj=>AW.aY (λe=>by have:=(UN j hj).1;omega)).xz (by omega);have hj3:=(gB.lt pF hj).1;refine((hP3 (A4.set j o) ⟨hS.next,λi h1 h2=>by rw [AW.aY (by omega)];exact hS.bg i h1 h2⟩).jO (λi h1 h2=>?_) (pF.set _ (gB.lt pF hj).2));by_cases e:i=j;subst e;rw [AW.cm,AW.cm];rw [AW.aY e,AW.aY (by omega),AW.aY e]
end
section
open T7
variable [Gl]
theorem OC {c:bq} (h:db c):j4 c=0:=by
 have h1:=h.ba;have h2:=h.ao;have h3:=h.k0;have h4:=h.k1;have h5:=h.k2;have h6:=h.k3;have h7:=h.nb;have h8:=h.base;have h9:=h.Wy;have MS:=h.reads;have D0:=h.bK;have FI:=h.ak;have MR:=h.av;have h14:=h.aw;unfold j4;rw [if_neg (by omega),if_neg (by unfold tv;omega),if_neg (by omega),if_neg (by omega)]
theorem Co:∀(l:List (List aZ)) (t:Nat),(∀q∈l,(cD q).2=0)->kB l t=none
 | [],_,_=>rfl
 | p::l,t,h=>by
   unfold kB;rw [if_pos (h p (by simp))];exact Co l (t+1) λq hq=>h q (by simp [hq])
theorem Fu (n:Nat):∀(l:List Int) (k:Nat),(∀x∈l,0<=x/\x<(n:Int))->rj n l k=none
 | [],_,_=>rfl
 | x::l,k,h=>by
   unfold rj;have:=h x (by simp);rw [if_neg (by omega)];exact Fu n l (k+1) λy hy=>h y (by simp [hy])
theorem Gp {c:bq} {ni:Nat} {ps:List (List aZ)} {pk:List Int} (h0:db c) (h1:1<=ps.length) (h2:ps.length<=16) (h3:(ni:Int)=c.ba) (h4:∀q∈ps,(cD q).2=0) (h5:pk.length<=65536) (h6:∀x∈pk,0<=x/\x<(ps.length:Int)):iZ c ni ps pk=(0,0,0):=by
 unfold iZ;rw [if_neg (by rw [OC h0];simp),if_neg (by omega),if_neg (by simp [h3]),Co ps 0 h4];simp only;rw [if_neg (by omega),Fu _ _ _ h6]
structure WU (A:AW) (c:bq) (vi vp vk:Value) (zs:List Int) (ps:List (List aZ)) (kl:List Int):Prop where
 WB:qZ c
 i:bx A .u64 vi zs
 p:gs A vp ps
 k:bx A .i64 vk kl
 e:∀pk:List Int,(∀x∈pk,x∈kl)->pk.length<=kl.length->(iZ c zs.length ps pk).2.2=0
 kl:kl.length<=300
 pl:∀p∈ps,p.length<=64
 n:ps.length<=16
 z:(zs.length:Int)=c.ba
 al:∀p∈ps,HF p
theorem Em (hn:Gl.N=4) (l0 l1 l2 l3 l4:Int) (vl vk:Value) (ls:List (List Int)) (pk:List Int) (aT:Bool) (A:AW) (hL:qr A vl ls) (hk:bx A .i64 vk pk) (QW:ls.length<=maxLen) (HR:∀x∈ls,x.length<=17592186044415) (hpk:pk.length<=17592186044415) :
 ax Tryz.prog 6 [.agg #[.int .i64 l0,.int .i64 l1,.int .i64 l2,.int .i64 l3,.int .i64 l4],vl,vk,.bool aT] A (λu A'=>∃(b:Bool) (c:bq) (vi vp TV:Value) (zs:List Int) (ps:List (List aZ)) (kl:List Int),
  u=.tuple #[HK c vi vp TV,.bool b]/\A.le A'/\A'.Wf/\(∃o n c,vi=.slice o n c)/\(∃o n c,vp=.slice o n c)/\(∃o n c,TV=.slice o n c)/\(b=true->WU A' c vi vp TV zs ps kl)):=by
 have N6:maxLen=9223372036854775807:=rfl;rw [N6] at QW;refine aF Tryz.func6 λhw=>?_;obtain⟨ol,cl,rfl,_⟩:=hL.bE;obtain⟨RU,R7,rfl,_⟩:=hk.bE;revert hw;refine W cd cd ?_<;>(unhygienic intros);refine Hc (λA1=>A.le A1/\A1.Wf/\A1.next=A.next+2/\A1.bg A.next=some (.cells [.int .i64 l0,.int .i64 l1,.int .i64 l2,.int .i64 l3,.int .i64 l4] true 1)/\A1.bg (A.next+1)=some (.cells tW true 1)) ?_ ?_;refine⟨(AW.le.alloc A _).trans (AW.le.alloc _ _),(hw.alloc _).alloc _,by simp,?_,?_⟩;simp [AW.eg,show ¬A.next=A.next+1 by omega];simp [AW.eg,tW];rintro A1 ⟨Lp,jg,C0,hbA,Y7⟩;have hL1:=hL.keeps (ff.jC Lp hw);have hk1:=hk.le Lp hw;refine rX (λfr A'=>A1=A'/\∃s:Int,fr 1=.slice ol ls.length cl/\fr 2=.slice RU pk.length R7/\fr 3=.bool aT/\fr 4=.pointer (some ⟨A.next,0,none⟩)/\fr 8=.pointer (some ⟨A.next+1,0,none⟩)/\fr 10=.int .i64 s/\(ls.length<=3->(pk.length:Int)<=s)) ?_ ?_;refine cW (λk fr A'=>A1=A'/\∃(i:Nat) (s:Int),k=ls.length-i/\i<=ls.length/\fr 1=.slice ol ls.length cl/\fr 2=.slice RU pk.length R7/\fr 3=.bool aT/\fr 4=.pointer (some ⟨A.next,0,none⟩)/\fr 8=.pointer (some ⟨A.next+1,0,none⟩)/\fr 10=.int .i64 s/\fr 11=.int .i64 i/\(ls.length<=3->(pk.length:Int)<=s/\s<=pk.length+i*17592186044415)) ls.length ?_ ?_
 exact⟨rfl,0,pk.length,rfl,Nat.zero_le _,rfl,rfl,rfl,rfl,rfl,rfl,rfl,λ_=>by omega⟩;rintro k fr A' ⟨rfl,i,s,rfl,hi,g1,g2,g3,g4,g8,lO,lg,SO⟩;by_cases bL:i<ls.length;obtain⟨q,bP,own,u,uq,bI,hcell,hu⟩:=hL1.at bL;subst uq;obtain⟨ou,cu,hu',_⟩:=hu.bE;subst hu';have fU:IntKind.i64.wrap ((i:Int)+1)=((i+1:Nat):Int):=ai (by omega) (by omega);have dv:ls.length-i=(ls.length-(i+1))+1:=by omega
 obtain⟨s2,ym⟩:∃s2,IntKind.i64.wrap (s+ls[i].length)=s2:=⟨_,rfl⟩;refine aO ?_;refine W cd (mi g1 g2 g3 g4 g8 lO lg bL fU bI hcell ym @AW.af) ?_<;>intros;have Yr:ls.length<=3->(pk.length:Int)<=s2/\s2<=pk.length+((i+1:Nat):Int)*17592186044415:=λh=>by
  have h1:=SO h;have h2:=HR ls[i] (List.getElem_mem bL);rw [<-ym,ai (by omega) (by omega)];omega
 refine⟨ls.length-(i+1),by omega,rfl,i+1,s2,rfl,by omega,?_,?_,?_,?_,?_,?_,?_,Yr⟩<;>simp [g1,g2,g3,g4,g8];have tJ:i=ls.length:=by omega
 subst tJ;refine aO ?_;refine W cd (J8 g1 g2 g3 g4 g8 lO lg bL) ?_<;>intros;exact⟨rfl,s,by simp [g1],by simp [g2],by simp [g3],by simp [g4],by simp [g8],by simp [lO],λh=>(SO h).1⟩;rintro fr A' ⟨rfl,s,g1,g2,g3,g4,g8,lO,SO⟩;have hU:¬A.next=A.next+1:=by omega
 have YF:¬A.next+1=A.next:=by omega
 have zero:A.le (A1.set (A.next+1) (some (.cells tW true 1)))/\(A1.set (A.next+1) (some (.cells tW true 1))).Wf:=⟨Lp.set (by omega) _,jg.set _ (by omega)⟩;unfold tW at Y7 zero;by_cases h3:3<ls.length
 . refine W cd (J9 g1 g2 g3 g4 g8 lO h3 Y7 bz) ?_<;>intros
   all_goals(
    refine⟨_,by first|(simp [bm,aK,aN,g8,gX,AW.af];done)|(simp [bm,aK,aN,g8,gX,AW.af];rfl),false,⟨0,0,0,0,0,0,0,0,0,0,0,0,false⟩,.slice none 0 0,.slice none 0 0,.slice none 0 0,[],[],[],rfl,zero.1,zero.2,⟨_,_,_,rfl⟩,⟨_,_,_,rfl⟩,⟨_,_,_,rfl⟩,λe=>by cases e⟩)
 by_cases h300:300<s
 . refine W cd (Bs g1 g2 g3 g4 g8 lO h3 h300 Y7 bz) ?_<;>intros
   all_goals(
    refine⟨_,by first|(simp [bm,aK,aN,g8,gX,AW.af];done)|(simp [bm,aK,aN,g8,gX,AW.af];rfl),false,⟨0,0,0,0,0,0,0,0,0,0,0,0,false⟩,.slice none 0 0,.slice none 0 0,.slice none 0 0,[],[],[],rfl,zero.1,zero.2,⟨_,_,_,rfl⟩,⟨_,_,_,rfl⟩,⟨_,_,_,rfl⟩,λe=>by cases e⟩)
 obtain⟨c,hc,cC⟩:=Jw l0 l1 l2 l3 l4;have hf:=hc.WB;have Td:=hc.ba;have OU:(ls.length:Int).tmod 2=((ls.length % 2:Nat):Int):=by rw [Int.tmod_eq_emod_of_nonneg (by omega)];omega
 obtain⟨nn,VZ⟩:∃nn:Nat,2+ls.length % 2=nn:=⟨_,rfl⟩;have CU:IntKind.i64.wrap (2+(ls.length:Int).tmod 2)=(nn:Int):=by rw [OU,ai (by omega) (by omega)];omega
 obtain⟨lf,fi,kH,c0,c1,c2,c3,jB,kw,kI,kD,jk,lx⟩:=c;have GS:qZ ⟨lf,fi,kH,c0,c1,c2,c3,jB,kw,kI,kD,jk,aT⟩:=⟨⟨hf.ok.ba,hf.ok.ao,hf.ok.k0,hf.ok.k1,hf.ok.k2,hf.ok.k3,hf.ok.nb,hf.ok.base,hf.ok.Wy,hf.ok.reads,hf.ok.bK,hf.ok.ak,hf.ok.av,hf.ok.aw⟩,hf.c0,hf.c1,hf.c2,hf.c3⟩;dsimp only at Td;have cS:=λO O' O''=>Kl hn ⟨lf,fi,kH,c0,c1,c2,c3,jB,kw,kI,kD,jk,aT⟩ ⟨by dsimp only;omega,by dsimp only;omega⟩ nn (by omega) (.slice ol ls.length cl) (.slice RU pk.length R7) ls pk 14 true true (((A1.alloc O).set A1.next O').set A1.next O'') (hL1.keeps (ff.jC ((AW.le.km A1 O O').set (Nat.le_refl _) O'') jg)) (by omega) (hk1.le ((AW.le.km A1 O O').set (Nat.le_refl _) O'') jg) hpk (.inr (by omega));simp only [bq.v,bq.cells] at cC cS;revert hw;(repeat first|clear hw|revert hc|revert R|revert K);refine W (J1 @cC) (tA g1 g2 g3 g4 g8 lO h3 h300 Y7 hbA CU bz) ?_<;>(unhygienic intros);refine(cS _ _ _).mono ?_;rintro u A3 ⟨oi,ni,ci,vp,ok,ck,us,ps,kl,zs,Z,hu,hZ,hP,Qz,pF,hKo,hkl,SN,nh,sd,OT,Xo,hzl,Zh,hIz⟩
 subst hu;subst hzl;obtain⟨op,cp,tH,_⟩:=hP.own.is.bE;subst tH;have QA:=((AW.le.km A1 _ _).set (Nat.le_refl _) _).trans Qz;have Y6:=QA.oK jg Y7;have C2:=pF.lt Y6;have hn3:=QA.next;rw [C0] at hn3;have hZ:A.next+3<=Z:=by simp at hZ;omega
 have Zh:=Zh.xz (C:=A.next+2) (by simp;omega);have hQ:=(hP.jO (A':=A3.set (A.next+1) (some (.cells (jv ⟨lf,fi,kH,c0,c1,c2,c3,jB,kw,kI,kD,jk,aT⟩ (.slice oi zs.length ci) (.slice op us.length cp) (.slice ok kl.length ck)) true 1))) (λj h1 _=>AW.aY (show j≠A.next+1 by omega)) pF);have UJ:=hKo.jO (A':=A3.set (A.next+1) (some (.cells (jv ⟨lf,fi,kH,c0,c1,c2,c3,jB,kw,kI,kD,jk,aT⟩ (.slice oi zs.length ci) (.slice op us.length cp) (.slice ok kl.length ck)) true 1))) (λj hj=>AW.aY (λe=>by have:=(hKo.lt pF hj).1;omega));have UN:=Zh.jO (A':=A3.set (A.next+1) (some (.cells (jv ⟨lf,fi,kH,c0,c1,c2,c3,jB,kw,kI,kD,jk,aT⟩ (.slice oi zs.length ci) (.slice op us.length cp) (.slice ok kl.length ck)) true 1))) (λj hj=>AW.aY (λe=>by have:=(Zh.lt pF hj).1;omega))
 have YW:∀j o,fa (.slice ok kl.length ck)=some j->PS Z ((A3.set (A.next+1) (some (.cells (jv ⟨lf,fi,kH,c0,c1,c2,c3,jB,kw,kI,kD,jk,aT⟩ (.slice oi zs.length ci) (.slice op us.length cp) (.slice ok kl.length ck)) true 1))).set j o) (.slice op us.length cp) us ps:=λj o hj=>
  (sd j o hj).jO (λi h1 h2=>by
   by_cases e:i=j;subst e;rw [AW.cm,AW.cm];rw [AW.aY e,AW.aY (by omega),AW.aY e]) (pF.set _ (hKo.lt pF hj).2)
 clear hP cS sd hKo Zh;unfold HK jv bq.cells;unfold jv bq.cells at hQ UJ UN YW;simp only [aa,ag] at hQ UJ UN YW ⊢;revert hw;(repeat first|clear hw|revert hc|revert R|revert K);refine W cd (J7 g1 g2 g3 g4 g8 Y6 bz) ?_<;>(unhygienic intros)
 all_goals(
  refine⟨_,by first|(simp [bm,aK,aN,g8,gX,AW.af];done)|(simp [bm,aK,aN,g8,gX,AW.af];rfl),true,⟨lf,fi,kH,c0,c1,c2,c3,jB,kw,kI,kD,jk,aT⟩,.slice oi zs.length ci,.slice op us.length cp,.slice ok kl.length ck,zs,ps,kl,rfl,(Lp.trans QA).set (by omega) _,pF.set _ C2,⟨_,_,_,rfl⟩,⟨_,_,_,rfl⟩,⟨_,_,_,rfl⟩,λ_=>?_⟩;have hpl2:us.length=ps.length:=hQ.len;have N1:=SO (by omega);refine⟨GS,UN.is,hQ.X0,UJ.is,λpk' hs hl=>?_,by omega,λp hp=>(gy ((nh p hp).2.1 (by omega))).1,by omega,OT,λp hp=>(nh p hp).2.2⟩;rw [Gp GS.ok (by omega) (by omega) (OT) (λq hq=>(nh q hq).2.1 (by omega)) (by omega) (λx hx=>by have:=Xo x (hs x hx);omega)])
end
section
open Go.Proofs Go
theorem NP {b:Nat} (h:0x7ff0000000000000<b % 2^63):FloatKind.f64.format.order b b=none:=by
 show (Ieee.double.read b).order (Ieee.double.read b)=none;have e:∃s t,Ieee.double.read b=.nan s t:=by
  unfold Ieee.Format.read;have e1:Ieee.double.signWeight=2^63:=rfl;have e2:Ieee.double.binade=2^52:=rfl;have e3:Ieee.double.infRung=0x7ff0000000000000:=by decide
  rw [e1,e2,e3];dsimp only;rw [if_neg (by omega),if_neg (by omega),if_neg (by omega)];exact⟨_,_,rfl⟩
 obtain⟨s,t,e⟩:=e;rw [e];rfl
def Cp (b:Nat):Int:=if FloatKind.f64.format.order b b=some .eq then b else 9221120237041090560
def MW (x y:Nat):Int:=match FloatKind.f64.format.add x y with
 | some r=>Cp r
 | none=>9221120237041090560
theorem yA (x y:Nat) (w:World):Calls Tryz.prog 227 #[.int .i64 12,.float .f64 x,.float .f64 y] w λe w'=>e=.returned (.int .u64 (MW x y))/\(w'=w\/w'=w.drew):=by
 unfold MW;cases hadd:FloatKind.f64.format.add x y with
 | some r=>
   have hr:=λw=>run_float_arith (P:=Tryz.prog) w .add 273 .f64 x y r hadd
   go_enter Tryz.func227,Tryz.ntmps227
   go_wp2
   all_goals first
    | (go_ret;refine⟨?_,.inl rfl⟩;simp_all [Cp];done)
    | (rw [run_callFunc_extern Tryz.func224 (by kernel_rfl) (by kernel_rfl) (by kernel_rfl) (e:=Extern.MathFloatBits.float64bits) (by kernel_rfl)]
       rw [show ∀w,(Extern.MathFloatBits.float64bits #[Value.float FloatKind.f64 r]).run Tryz.prog w=.ok (.int .u64 r) w from λw=>rfl];simp only [Result.andThen];rw [Oper.upon_value]
       go_wp2
       go_ret
       refine⟨?_,.inl rfl⟩;simp_all [Cp];done)
 | none=>
   obtain⟨r,h1,hr⟩:∃r,0x7ff0000000000000<r % 2^63/\(binOp .add 273 (.float .f64 x) (.float .f64 y)).run Tryz.prog w=.ok (.float .f64 r) w.drew:=by
    refine⟨(Question.nanBits .f64 x y).cut (w.tape w.drawn (.nanBits .f64 x y)),?_,?_⟩;simp only [Question.cut];generalize w.tape w.drawn (Question.nanBits FloatKind.f64 x y)=t;have hu:t / 2 % (2 ^ 52-1)<2 ^ 52-1:=Nat.mod_lt _ (by decide);generalize t / 2 % (2 ^ 52-1)=u at hu ⊢;have hq:t % 2=0\/t % 2=1:=(by omega);rcases hq with hq|hq<;>rw [hq]<;>omega;simp [binOp,Op.floatArith,hadd,Question.forced]
   have h2:=NP h1
   go_enter Tryz.func227,Tryz.ntmps227
   go_wp2
   all_goals first
    | (go_ret;refine⟨?_,.inr rfl⟩;simp_all [Cp];done)
    | (rw [run_callFunc_extern Tryz.func224 (by kernel_rfl) (by kernel_rfl) (by kernel_rfl) (e:=Extern.MathFloatBits.float64bits) (by kernel_rfl)]
       rw [show ∀w,(Extern.MathFloatBits.float64bits #[Value.float FloatKind.f64 r]).run Tryz.prog w=.ok (.int .u64 r) w from λw=>rfl];simp only [Result.andThen];rw [Oper.upon_value]
       go_wp2
       go_ret
       refine⟨?_,.inr rfl⟩;simp_all [Cp];done)
theorem JD (x y:Int) (w:World):Calls Tryz.prog 153 #[.int .i64 12,.int .u64 x,.int .u64 y] w λe w'=>e=.returned (.tuple #[.int .u64 (MW x.toNat y.toNat),.int .i64 0])/\(w'=w\/w'=w.drew):=by
 have hf:=λx y w=>yA x y w
 go_enter Tryz.func153,Tryz.ntmps153
 go_wp2
 all_goals rw [run_callFunc_extern Tryz.func226 (by kernel_rfl) (by kernel_rfl) (by kernel_rfl) (e:=Extern.MathFloatBits.float64frombits) (by kernel_rfl)]
 all_goals rw [show ∀w,(Extern.MathFloatBits.float64frombits #[Value.int .u64 x]).run Tryz.prog w=.ok (.float .f64 x.toNat) w from λw=>rfl]
 all_goals simp only [Result.andThen]
 all_goals rw [Oper.upon_value]
 all_goals go_wp2
 all_goals rw [run_callFunc_extern Tryz.func226 (by kernel_rfl) (by kernel_rfl) (by kernel_rfl) (e:=Extern.MathFloatBits.float64frombits) (by kernel_rfl)]
 all_goals rw [show ∀w,(Extern.MathFloatBits.float64frombits #[Value.int .u64 y]).run Tryz.prog w=.ok (.float .f64 y.toNat) w from λw=>rfl]
 all_goals simp only [Result.andThen]
 all_goals rw [Oper.upon_value]
 all_goals go_wp2_with (go_at_call 227;refine(yA _ _ _).mono ?_;rintro e w' ⟨rfl,i8⟩)
 go_ret2
 exact⟨rfl,i8⟩
theorem XK {m:Mp} {l l':List Value} (h:iu m l l') (hp:∀v∈l,∃k n,v=.int k n):l'=l:=by
 induction l generalizing l' with
 | nil=>exact h.pj
 | cons v l ih=>
   obtain⟨v',t',rfl,hv,ht⟩:=h.lM;obtain⟨k,n,rfl⟩:=hp v (by simp);have e:v'=.int k n:=by cases hv;rfl
   rw [e,ih ht λx hx=>hp x (by simp [hx])]
theorem Cq [Gl] {f:FuncId} {args:List Value} {x y:Int} (A:AW) (hc:jF Tryz.prog f=true) (ha:∀v∈args,∃k n,v=.int k n)
 (h:∀w:World,Calls Tryz.prog f args.toArray w λe w'=>e=.returned (.tuple #[.int .u64 x,.int .i64 y])/\(w'=w\/w'=w.drew)):eQ f args A (.tuple #[.int .u64 x,.int .i64 y]):=by
 show ax _ _ _ _ _;unfold ax;refine⟨hc,λm w go hs hl=>?_⟩;have e:=XK hl ha;have e2:go=args.toArray:=by apply Array.ext';simpa using e
 subst e2;refine(h w).mono ?_;rintro e w' ⟨rfl,hw⟩;refine⟨_,_,m,A,rfl,?_,?_,rfl,rfl⟩;rcases hw with rfl|rfl;exact(E3.refl _).evo hs;exact(E3.drew _).evo hs;refine .tuple rfl λi v v' h1 h2=>?_;rw [h1] at h2;injection h2 with h2;subst h2
 match i,h1 with
 | 0,h1=>injection h1 with h1;subst h1;exact .int _ _
 | 1,h1=>injection h1 with h1;subst h1;exact .int _ _
theorem Ty [Gl] {P:Program} {f:FuncId} {R:Value->Prop} (h:ax P f [] AW.mu λv _=>R v) (hR:∀v,R v->fl v=true) (A:AW):ax P f [] A λv A'=>R v/\A'=A:=by
 unfold ax at h ⊢;refine⟨h.1,λm w go hs hl=>?_⟩;have FD:iu Mp.mu [] go.toList:=by rw [hl.pj];exact .nil
 refine(h.2 Mp.mu w go (jM.mu w hs.laid) FD).mono ?_;rintro e w' ⟨v,v',m',A',rfl,ev,hv,hr⟩;have e1:=hv.mT (hR v hr);subst e1;refine⟨v',v',m,A,rfl,E3.evo hs ⟨λb hb=>ev.tk b hb ?_,ev.os,ev.tape,ev.output,ev.size⟩,.hY (hR v' hr) m,hr,rfl⟩;rintro ⟨i,o,p,hi,_⟩;cases hi
end
section
open T7
variable [Gl]
def U3 (x y:Int):Int:=IntKind.u64.wrap (BitVec.ofInt 64 x ^^^ BitVec.ofInt 64 y).toNat
def Hk (fn x y:Int):Int:=if fn=0 then IntKind.u64.wrap (x+y) else if fn=1 then IntKind.u64.wrap (x-y) else if fn=5 then U3 x y else if fn=8 then (if x=y then 1 else 0) else if fn=11 then (if x<y then 1 else 0) else MW x.toNat y.toNat
theorem EZ (b:Bool) (A:AW):eQ 248 [.bool b] A (.int .u64 (if b=true then 1 else 0)):=by
 refine aF Tryz.func248 λhw=>?_;cases b;refine W cd cd ?_<;>intros;exact⟨_,rfl,rfl,rfl⟩;refine W cd cd ?_<;>intros;exact⟨_,rfl,rfl,rfl⟩
theorem Hj (fn x y:Int) (h:fn=0\/fn=1\/fn=5\/fn=8\/fn=11) (A:AW):eQ 228 [.int .i64 fn,.int .u64 x,.int .u64 y] A (.int .u64 (Hk fn x y)):=by
 refine aF Tryz.func228 λhw=>?_;have ht:=λb A=>EZ b A;rcases h with rfl|rfl|rfl|rfl|rfl
 all_goals
  all_goals(revert hw;refine W (J1 @ht) trivial ?_<;>unhygienic intros)
  refine⟨_,rfl,?_,rfl⟩
  first|(simp [Hk,U3];done)|(simp [Hk,U3];rfl)
theorem rY (fn x y:Int) (h:fn=0\/fn=1\/fn=5\/fn=8\/fn=11) (A:AW):eQ 153 [.int .i64 fn,.int .u64 x,.int .u64 y] A (.tuple #[.int .u64 (Hk fn x y),.int .i64 0]):=by
 refine aF Tryz.func153 λhw=>?_;have hi:=λA=>Hj fn x y h A;generalize Hk fn x y=v at hi;rcases h with rfl|rfl|rfl|rfl|rfl
 all_goals
  all_goals(revert hw;refine W (J1 @hi) trivial ?_<;>unhygienic intros)
  exact⟨_,rfl,rfl,rfl⟩
instance madeAF:AF:=⟨jG⟩
theorem Ad:yZ Hk:=λfn x y h A=>by
 rcases h with rfl|rfl|rfl|rfl|rfl|rfl;exact rY 0 x y (by simp) A;exact rY 1 x y (by simp) A;exact rY 5 x y (by simp) A;exact rY 8 x y (by simp) A;exact rY 11 x y (by simp) A;exact Cq A (by kernel_rfl) (by simp) λw=>JD x y w
end
section
variable [Gl]
theorem NI (d6:Int->Int->Int->Int) (m:r9) (id:Int):∃s e,(m.pick d6 id).cG=m.cG++s/\(m.pick d6 id).lC=m.lC++e:=by
 unfold r9.pick;split;split;exact⟨[],[],by simp,by simp⟩;dsimp only;split;exact⟨_,_,rfl,rfl⟩;exact⟨[],[],by simp,by simp⟩;exact⟨[],[],by simp,by simp⟩
theorem Ie (d6:Int->Int->Int->Int):∀(pk:List Int) (m:r9),∃s e,(jA d6 m pk).cG=m.cG++s/\(jA d6 m pk).lC=m.lC++e
 | [],m=>⟨[],[],by simp [jA],by simp [jA]⟩
 | x::pk,m=>by
   obtain⟨s1,e1,h1,h2⟩:=NI d6 m x;obtain⟨s2,e2,h3,h4⟩:=Ie d6 pk (m.pick d6 x);refine⟨s1++s2,e1++e2,?_,?_⟩;show (jA d6 (m.pick d6 x) pk).cG=_;rw [h3,h1,List.append_assoc];show (jA d6 (m.pick d6 x) pk).lC=_;rw [h4,h2,List.append_assoc]
theorem Km (d6:Int->Int->Int->Int) (m:r9) (pk:List Int) (k:Nat):∃s e,(jA d6 m pk).cG=(jA d6 m (pk.take k)).cG++s/\(jA d6 m pk).lC=(jA d6 m (pk.take k)).lC++e:=by
 have h:=Ie d6 (pk.drop k) (jA d6 m (pk.take k));have e:jA d6 (jA d6 m (pk.take k)) (pk.drop k)=jA d6 m pk:=by
  unfold jA;rw [<-List.foldl_append,List.take_append_drop]
 rw [e] at h;exact h
theorem dM.Dd {A:AW} {size N c n:Nat} {o:Option Addr} {cs ds:List Value} (h:dM A size (.slice o N c) N (cs++ds)) (hn:n<=N) (hc:cs.length=n*size):dM A size (.slice o n c) n cs:=by
 rcases h with ⟨⟨o',h1⟩,h2,h3⟩|⟨p,c',bP,own,u,h1,h2,h3,h4,h5,h6⟩;injection h1 with h1 h5 h6;subst h1 h6;have:cs=[]:=(List.append_eq_nil_iff.1 h3).1;subst this;exact .inl ⟨⟨o,by rw [show n=0 by omega]⟩,by omega,rfl⟩;injection h1 with h1 h7 h8;subst h1 h8;have h9:n*size<=N*size:=Nat.mul_le_mul_right size hn;refine .inr ⟨p,c,bP,own,u,rfl,by omega,h3,h4,by omega,?_⟩;have MS:=congrArg (List.take (n*size)) h6;rw [List.take_append_of_le_length (by omega),List.take_of_length_le (by omega),List.take_take,Nat.min_eq_left h9] at MS;exact MS
theorem mj.Dd {A:AW} {N c:Nat} {o:Option Addr} {l r:List zd} (h:mj A (.slice o N c) (l++r)) (hN:N=(l++r).length):mj A (.slice o l.length c) l:=by
 obtain⟨q,h1,h2,h3⟩:=h;have VV:q.length=l.length+r.length:=by rw [<-List.length_append,<-h1,List.length_map]
 have hqa:q=q.take l.length++q.drop l.length:=(List.take_append_drop _ _).symm;have ht:(q.take l.length).length=l.length:=by rw [List.length_take];omega
 refine⟨q.take l.length,?_,?_,λi hi=>?_⟩;rw [List.map_take,h1,List.take_left'];rfl;have hN2:N=q.length:=by rw [hN,List.length_append,VV]
 rw [hN2] at h2;have e:eP q=eP (q.take l.length)++eP (q.drop l.length):=by
  unfold eP;rw [<-List.flatMap_append,List.take_append_drop]
 rw [e] at h2;rw [ht];refine h2.Dd (by omega) ?_;have:∀q:List vP,(eP q).length=q.length*6:=λq=>by
  unfold eP
  induction q with
  | nil=>rfl
  | cons y q ih=>rw [List.flatMap_cons,List.length_append,ih,List.length_cons];simp [uA];omega
 rw [this,ht];have:=h3 i (by rw [List.length_take] at hi;omega);rw [List.getElem_take];exact this
theorem Pq (l:List fR):(tS l).length=l.length*9:=by
 unfold tS
 induction l with
 | nil=>rfl
 | cons y q ih=>rw [List.flatMap_cons,List.length_append,ih,List.length_cons];simp [fR.cells];omega
theorem Pr (l r:List fR):tS (l++r)=tS l++tS r:=by simp [tS]
end
section
abbrev wX:List (Nat×Nat):=[(0,0),(1,0),(2,0),(3,0),(4,0),(5,0),(6,0),(7,2),(8,0),(9,0),(10,3)]
abbrev wW:List (Nat×Nat):=[(0,0),(1,0),(2,0),(3,0),(4,0),(5,0),(6,0),(7,0),(8,2),(9,0),(10,0),(11,0),(12,0),(13,0),(14,0),(15,0),(16,0),(17,0),(18,2),(19,0),(20,0),(21,3),(22,0),(23,0)]
open T7
variable [Gl]
theorem gs.kps {A B:AW} (hk:ff A B) {v:Value} {ps:List (List aZ)} (h:gs A v ps):gs B v ps:=by
 obtain⟨us,h1,h2⟩:=h;exact⟨us,dM.keeps hk h1,λi hi=>let ⟨u,h3,h4⟩:=h2 i hi;⟨u,h3,dM.keeps hk h4⟩⟩
def Py (c:bq) (zs:List Int) (ps:List (List aZ)) (pk:List Int):r9:=jA Hk (vZ c zs ps) pk
theorem Px {A:AW} {c:bq} {vi vp vk:Value} {zs:List Int} {ps:List (List aZ)} {kl pk:List Int} (h:WU A c vi vp vk zs ps kl) (hs:∀x∈pk,x∈kl) (hl:pk.length<=kl.length):tD c ps.length pk.length (Py c zs ps pk):=by
 obtain⟨_,_,_,zP,OT,ln⟩:=zu (h.e pk hs hl);have:=tD.run Ad h.WB.ok pk (II h.WB OT zP ln h.al) (by have:=h.kl;omega);rw [Nat.zero_add] at this;exact this
theorem XT {A0:AW} {c:bq} {vi0 vp0 vk0:Value} {zs:List Int} {ps:List (List aZ)} {kl pk:List Int} (hF:FOK) (h:WU A0 c vi0 vp0 vk0 zs ps kl) (hs:∀x∈pk,x∈kl) (hl:pk.length<=kl.length) (vi vp vk:Value) (A:AW) (hi:bx A .u64 vi zs) (hp:gs A vp ps) (hk:bx A .i64 vk pk) :
 ax Tryz.prog 8 [HK c vi vp vk] A (λu A'=>∃z,u=.tuple #[.agg (zB (Py c zs ps pk) z).toArray,.int .i64 0,.int .i64 0,.int .i64 0]/\ff A A'/\yX A' (Py c zs ps pk) z):=by
 refine(If Ad hF h.WB vi vp vk zs ps pk A hi hp hk (h.e pk hs hl) (by have:=h.kl;omega) h.al).mono ?_;rintro u A' ⟨z,rfl,hS⟩;have kL:ah A' [_,_,_,_,_,.h (ma A.bg)]:=hS;exact⟨z,rfl,kL.kp (.s (.s (.s (.s (.s .z))))),hS.Up⟩
theorem tD.obl {c:bq} {nt k:Nat} {m:r9} (h:tD c nt k m):∀t∈m.gJ,t.ga.length<=2*k:=λt ht=>(h.T t ht).1.co.ga
theorem LB (B:AW) {o:Option Addr} {n c k:Nat} (h:k<=c):mU Tryz.prog B 24 (.slice o n c) none (some (.int .i64 k)) none=some (.slice o k c):=by
 cases o<;>simp [mU,mZ,eu,h]
theorem Ji (B:AW) {o:Option Addr} {n c k:Nat} (h:k<=c):mU Tryz.prog B 39 (.slice o n c) none (some (.int .i64 k)) none=some (.slice o k c):=by
 cases o<;>simp [mU,mZ,eu,h]
theorem LC (B:AW) {o:Option Addr} {n c k:Nat} (h:k<=c):mU Tryz.prog B 40 (.slice o n c) none (some (.int .i64 k)) none=some (.slice o k c):=by
 cases o<;>simp [mU,mZ,eu,h]
section
attribute [-simp] mU
theorem xe (hF:FOK) (hA:∀B,ax Tryz.prog 7 [] B (λu A'=>u=.bool true/\B=A')) (l0 l1 l2 l3 l4:Int) (vl vq:Value) (ls:List (List Int)) (nk:List Int) (aT:Bool) (cut:Int) (A:AW)
 (hL:qr A vl ls) (hk:bx A .i64 vq nk) (QW:ls.length<=maxLen) (HR:∀x∈ls,x.length<=17592186044415) (hpk:nk.length<=17592186044415) :
 ax Tryz.prog 3 [.agg #[.int .i64 l0,.int .i64 l1,.int .i64 l2,.int .i64 l3,.int .i64 l4],vl,vq,.bool aT,.int .i64 cut] A (λu A'=>u=.bool true):=by
 refine aF Tryz.func3 λhw=>?_;have cA:=λB=>hA B;revert hw;refine W (J2 (od wX) (od wW)) (J1 bz) ?_<;>(unhygienic intros);refine bD (Em hF.n l0 l1 l2 l3 l4 vl vq ls nk aT _ (hL.keeps (ff.jC (AW.le.alloc A _) hw)) (hk.le (AW.le.alloc A _) hw) QW HR hpk) ?_;rintro _ A3 ⟨b,c,vi,vp,vk,zs,ps,kl,rfl,Qz,_,⟨oi,ni,ci,rfl⟩,⟨op,np,cp,rfl⟩,⟨ok,nkk,ck,rfl⟩,hG⟩ CU _;clear hL hk;cases b
 . clear hG;unfold HK jv bq.cells;obtain⟨lf,fi,kH,c0,c1,c2,c3,jB,kw,kI,kD,jk,lx⟩:=c;simp only [aa,ag];refine W (J3 (od wX) (od wW) @cA) (J1 bz) ?_<;>intros
   all_goals simp [aL,aQ,bm,aK,aN]
 replace hG:=hG rfl;obtain⟨_,_,e1,_⟩:=hG.i.bE;obtain⟨_,_,e2,_⟩:=hG.p.bE;obtain⟨_,_,e3,_⟩:=hG.k.bE;injection e1 with _ e1 _;injection e2 with _ e2 _;injection e3 with _ e3 _;subst e1 e2 e3;obtain⟨kn,hkn,hknl⟩:∃kn:Nat,ko cut (kl.length+1)=kn/\kn<=kl.length:=by
  have:=f8 cut (kl.length+1) (by omega);exact⟨(ko cut (kl.length+1)).toNat,by omega,by omega⟩
 have hkl:=hG.kl;have hzl:=hG.z;have hwo:=hG.WB.ok.ba;have hpn:=hG.n;have hppl:=hG.pl;have RW:IntKind.i64.wrap ((kl.length:Int)+1)=(kl.length:Int)+1:=ai (by omega) (by omega);have cQ:=λB=>iN cut (kl.length+1:Int) B (by omega) (by omega);rw [hkn] at cQ;have cR:=λB (hK:ff A3 B)=>XT (pk:=kl) hF hG (λ_ h=>h) (Nat.le_refl _) _ _ _ B (hG.i.keeps hK) (hG.p.kps hK) (hG.k.keeps hK);have cT:=λB (hK:ff A3 B)=>Bc c _ _ _ zs ps kl B (hG.i.keeps hK) (hG.p.kps hK) (hG.k.keeps hK) (by omega) (by omega) (by omega) (λp hp=>by have:=hppl p hp;omega);have cX:=λB vi vp vk=>XT (pk:=kl.take kn) hF hG (λ_ h=>List.mem_of_mem_take h) (by rw [List.length_take];omega) vi vp vk B;have V2:=Px (pk:=kl) hG (λ_ h=>h) (Nat.le_refl _);have V1:=Px (pk:=kl.take kn) hG (λ_ h=>List.mem_of_mem_take h) (by rw [List.length_take];omega);obtain⟨ss,es,hss,Wk⟩:=Km Hk (vZ c zs ps) kl kn;have bG:=V2.len hG.WB.ok hpn
 have hth:=V2.n;have dv:=V2.s;have FE:=V2.e;have hevb:=V2.b;have hobl:=V2.obl;have hevx:=V1.b;have cZ:=λB z1 z2 (h1:yX B (Py c zs ps kl) z1) (h2:yX B (Py c zs ps kl) z2)=>CK _ z1 z2 B h1 h2 bG (by omega) (by omega) (by omega) (λt ht=>by have:=hobl t ht;omega) hevb;have hkL:(kl.take kn).length=kn:=by rw [List.length_take];omega
 change (Py c zs ps kl).cG=(Py c zs ps (kl.take kn)).cG++ss at hss;change (Py c zs ps kl).lC=(Py c zs ps (kl.take kn)).lC++es at Wk;clear V2 V1;generalize Py c zs ps kl=m at *;generalize Py c zs ps (kl.take kn)=x at *;have GN:m.cG.length=x.cG.length+ss.length:=by rw [hss,List.length_append]
 have hel:m.lC.length=x.lC.length+es.length:=by rw [Wk,List.length_append]
 clear hG;obtain⟨lf,fi,kH,c0,c1,c2,c3,jB,kw,kI,kD,jk,lx⟩:=c;unfold HK jv bq.cells at cR cT cX ⊢;simp only [aa,ag] at cR cT cX ⊢;clear hwo hzl;unfold zB j9 at cR cX cZ;generalize (m.M 2).getD 0 0=d2 at cR cZ;generalize (m.M 3).getD 0 0=d3 at cR cZ;generalize (m.M 4).getD 0 0=d4 at cR cZ;clear bG;revert hw;(repeat first|clear hw|revert hc|revert R|revert K);refine W (J2 (od wX) (od wW)) (J1 bz) ?_<;>(unhygienic intros);refine bD (cR _ (ff.jC (AW.le.km A3 _ _) CU)) ?_;rintro _ A4 ⟨z1,rfl,YR,CX⟩ pF _;have hs4:=YR _ _ AW.cm;have hK4:=(ff.jC (AW.le.km A3 _ _) CU).trans YR;clear YR;generalize A3.next=sb at *;have n4:¬sb=A4.next:=by have:=pF.lt hs4;omega
 have n4':¬A4.next=sb:=by omega
 revert hw;(repeat first|clear hw|revert hc|revert R|revert K);refine W (J2 (od wX) (od wW)) (J4 hs4 n4 n4' bz) ?_<;>(unhygienic intros);refine bD (cR _ (hK4.trans (ff.jC (AW.le.km A4 _ _) pF))) ?_;rintro _ A5 ⟨z2,rfl,hk5,VT⟩ AE _;have ha5:=hk5 _ _ AW.cm;have SZ:=(ff.jC (AW.le.km A4 _ _) pF).trans hk5;have hs5:=SZ _ _ hs4;have hK5:=hK4.trans SZ;replace CX:=CX.keeps SZ;clear hk5 SZ hs4 hK4;generalize A4.next=ab at *;have n5:¬sb=A5.next:=by have:=AE.lt hs5;omega
 have n5':¬A5.next=sb:=by omega
 have m5:¬ab=A5.next:=by have:=AE.lt ha5;omega
 have m5':¬A5.next=ab:=by omega
 revert hw;(repeat first|clear hw|revert hc|revert R|revert K);refine W (J2 (od wX) (od wW)) (J6 hs5 n5 n5' m5 m5' bz) ?_<;>(unhygienic intros);refine bD (cT _ (hK5.trans (ff.jC (AW.le.km A5 _ _) AE))) ?_;rintro _ A6 ⟨XN,Am,TV,rfl,hi6,YA,hq6,hk6⟩ hw6 _;obtain⟨PQ,Rm,rfl,_⟩:=hi6.bE;obtain⟨X6,ZA,rfl,_⟩:=YA.bE;obtain⟨NL,M2,rfl,hck2⟩:=hq6.bE;have hb6:=hk6 _ _ AW.cm;have SY:=(ff.jC (AW.le.km A5 _ _) AE).trans hk6;have ha6:=SY _ _ ha5;replace CX:=CX.keeps SY;replace VT:=VT.keeps SY;clear hk6 SY hs5 ha5 hK5 cT cR;generalize A5.next=bb at *;have n6:¬ab=A6.next:=by have:=hw6.lt ha6;omega
 have n6':¬A6.next=ab:=by omega
 have m6:¬bb=A6.next:=by have:=hw6.lt hb6;omega
 have m6':¬A6.next=bb:=by omega
 have hkc:kn<=M2:=by omega
 have hq7:bx A6 .i64 (.slice NL kn M2) (kl.take kn):=by
  have e:kl.map (Value.int .i64)=(kl.take kn).map (Value.int .i64)++(kl.drop kn).map (Value.int .i64):=by rw [<-List.map_append,List.take_append_drop]
  have h:dM A6 1 (.slice NL kl.length M2) kl.length (kl.map (Value.int .i64)):=hq6;rw [e] at h;show dM A6 1 _ (kl.take kn).length _;rw [hkL];exact h.Dd hknl (by rw [List.length_map,hkL,Nat.mul_one])
 revert hw;(repeat first|clear hw|revert hc|revert R|revert K);refine W (J3 (od wX) (od wW) @cQ) (J8 n6 n6' m6 m6' hkc RW LB bz) ?_<;>(unhygienic intros);have QF:=λx y=>ff.jC ((AW.le.km A6 x y).set (Nat.le_refl _) (some (.cells [.int .i64 lf,.int .i64 fi,.int .i64 kH,.int .i64 c0,.int .i64 c1,.int .i64 c2,.int .i64 c3,.int .i64 jB,.int .i64 kw,.int .i64 kI,.int .i64 kD,.int .i64 jk,.bool lx,.slice PQ zs.length Rm,.slice X6 ps.length ZA,.slice NL kn M2] true 1))) hw6;refine bD (cX _ _ _ _ (hi6.keeps (QF _ _)) (YA.kps (QF _ _)) (hq7.keeps (QF _ _))) ?_;rintro _ A8 ⟨z3,rfl,YQ,Yw⟩ Ur _;have QE:=(QF _ _).trans YQ;have ha8:=QE _ _ ha6;have hb8:=QE _ _ hb6;replace CX:=CX.keeps QE;replace VT:=VT.keeps QE;clear YQ QE QF ha6 hb6 hi6 YA hq6 hq7 cX;clear n6 n6' m6 m6' n5 n5' m5 m5' n4 n4';have n8:¬ab=A8.next:=by have:=Ur.lt ha8;omega
 have n8':¬A8.next=ab:=by omega
 have m8:¬bb=A8.next:=by have:=Ur.lt hb8;omega
 have m8':¬A8.next=bb:=by omega
 have HQ:¬(m.cG.length:Int)<x.cG.length:=by omega
 have yu:¬(m.lC.length:Int)<x.lC.length:=by omega
 obtain⟨_,_,e1,hcs⟩:=CX.st.bE;injection e1 with _ _ e1;subst e1;obtain⟨_,_,e1,hce⟩:=(show ∃o c,Value.slice z1.e.1 m.lC.length z1.e.2=.slice o m.lC.length c/\m.lC.length<=c from by
  obtain⟨q,h1,h2,_⟩:=CX.ev;have h3:q.length=m.lC.length:=by rw [<-h1,List.length_map]
  rw [h3] at h2;exact h2.bE)
 injection e1 with _ _ e1;subst e1;have hec:x.lC.length<=z1.e.2:=by omega
 have gV:x.cG.length<=z1.s.2:=by omega
 have NZ:dM A8 9 (.slice z1.s.1 x.cG.length z1.s.2) x.cG.length (tS x.cG):=by
  have h:=CX.st;rw [hss,Pr] at h;exact h.Dd (by rw [List.length_append];omega) (Pq _)
 have MH:mj A8 (.slice z1.e.1 x.lC.length z1.e.2) x.lC:=by
  have h:=CX.ev;rw [Wk] at h;exact h.Dd rfl
 have cZ8:=λO O'=>cZ _ _ _ (CX.keeps (ff.jC (AW.le.km A8 O O') Ur)) (VT.keeps (ff.jC (AW.le.km A8 O O') Ur));have cS:=λO O'=>wd _ _ x.cG _ (Yw.st.keeps (ff.jC (AW.le.km A8 O O') Ur)) (NZ.keeps (ff.jC (AW.le.km A8 O O') Ur)) (by omega);have cE:=λO O'=>ul _ _ x.lC _ (Yw.ev.keeps (ff.jC (AW.le.km A8 O O') Ur)) (MH.keeps (ff.jC (AW.le.km A8 O O') Ur)) (by omega) hevx;refine W (J6 (od wX) (od wW) @cA @cZ8 @cS @cE) (mi ha8 hb8 n8 n8' m8 m8' HQ yu gV hec Ji LC bz) ?_<;>intros
 all_goals exact⟨_,rfl,rfl⟩
end
end
end Go.Stx
