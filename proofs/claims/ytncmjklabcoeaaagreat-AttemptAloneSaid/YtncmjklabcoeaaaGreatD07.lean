/-
 Contracts of the small functions that the statements share: places, lists compared and copied.
-/
import Derived.Test.YtncmjklabcoeaaaGreatF1
import Derived.Test.YtncmjklabcoeaaaGreatD02
import Derived.Test.YtncmjklabcoeaaaGreatD06
set_option linter.unusedVariables false
set_option linter.unusedSimpArgs false
set_option maxRecDepth 20000
set_option maxHeartbeats 4000000
namespace Go.Stx
open Go Go.Proofs
attribute [local irreducible] fj cm aH bB dK ei
section
abbrev rU:List (Nat×Nat):=[(0,0),(1,0),(2,0),(3,0),(4,0),(5,0),(6,0),(7,0),(8,0)]
open T0
def eO (a n:Int):Int:=IntKind.u64.wrap a % n
theorem xV (a:Int):0≤IntKind.u64.wrap a∧IntKind.u64.wrap a<18446744073709551616:=by
 simp only [IntKind.wrap,IntKind.bits,IntKind.signed,Bool.false_and,Bool.false_eq_true,if_false]
 omega
theorem eU (a n:Int) (hn:0<n):0≤eO a n∧eO a n<n:=⟨Int.emod_nonneg _ (by omega),Int.emod_lt_of_pos _ hn⟩
theorem eu (a n:Int) (A:AW) (hn:0<n) (tR:n≤9223372036854775807) :
 aH Tryz.prog 16 [.int .i64 a,.int .i64 n] A (fun v A'=>v=.int .i64 (eO a n)∧A=A'):=by
 refine ab Tryz.func16 rfl (by kernel_rfl) fun hw=>?_
 have gJ:IntKind.u64.wrap n=n:=au (by omega) (by omega)
 have ke:n≠0:=by omega
 obtain⟨h1,h2⟩:=xV a
 obtain⟨h3,h4⟩:=eU a n hn
 have hr:(IntKind.u64.wrap a).tmod n=eO a n:=Int.tmod_eq_emod_of_nonneg h1
 have it:IntKind.i64.wrap (eO a n)=eO a n:=ak (by omega) (by omega)
 revert hw;refine W trivial (J4 gJ ke hr it) (J1 ?_)<;>unhygienic intros
 simp
theorem nX (va vb:Value) (a b:List Int) (A:AW) (ha:cF A .u64 va a) (hb:cF A .u64 vb b) (Mw:a.length<2^62) :
 aH Tryz.prog 23 [va,vb] A (fun v A'=>v=.bool (decide (a=b))∧A=A'):=by
 refine ab Tryz.func23 rfl (by kernel_rfl) fun hw=>?_
 obtain⟨oa,ca,rfl,_⟩:=ha.cL
 obtain⟨ob,cb,rfl,_⟩:=hb.cL
 revert hw;refine W (J1 (od rU)) trivial (J2 ?_ ?_)<;>unhygienic intros
 · simp
   intro e
   subst e
   simp at hc
 · have cU:a.length=b.length:=by omega
   refine ed (fun k fr A'=>A=A'∧∃i:Nat,k=a.length-i∧i≤a.length∧fr 0=.slice oa a.length ca∧fr 1=.slice ob b.length cb∧fr 5=.int .i64 i∧∀j,j<i→a[j]? = b[j]?) a.length ?_ ?_
   · refine⟨rfl,0,by simp,by simp,rfl,rfl,rfl,by simp⟩
   · rintro k fr A' ⟨rfl,i,rfl,hi,h0,h1,h5,hj⟩
     by_cases dQ:i<a.length
     · obtain⟨p,dh,rfl,eH,dg⟩:=ha.at dQ
       obtain⟨q,MW,rfl,Lt,HT⟩:=hb.at (i:=i) (by omega)
       have zF:i<b.length:=by omega
       have mc:IntKind.i64.wrap ((i:Int)+1)=((i+1:Nat):Int):=ak (by omega) (by omega)
       refine eW ?_
       repeat' (first
       | (refine il fun R hR=>?_;simp [ak,au,h0,h1,h5,eH,Lt,dg,HT,dQ,zF,mc];try simp (disch:=omega) only [if_pos,if_neg,ak,au])
       | (refine hR _ _ ?_;clear hR R)|(refine hK _ _ ?_;clear hK K)|refine nx ?_
       | refine wn fun K hK=>?_
       | simp only [wS,rU]
       | refine wl Tryz.mx rU (by decide +kernel) fun K hK=>?_
       | refine wb ?_|refine wr ?_|refine wk ?_|refine we ?_|refine ws ?_|refine wq ?_
       | (refine wc rfl (fun hc=>?_) (fun hc=>?_)<;>(try simp at hc)<;>(try omega))
       | (refine ib (fun hc=>?_) (fun hc=>?_)<;>(try omega)<;>(try simp (disch:=omega) only [if_pos,if_neg])))
       · simp
         intro e
         subst e
         simp at hc
       · refine⟨a.length-(i+1),by omega,rfl,i+1,rfl,by omega,?_,?_,?_,?_⟩
         · simp [h0]
         · simp [h1]
         · simp
         · intro j i9
           by_cases e:j=i
           · subst e
             rw [List.getElem?_eq_getElem dQ,List.getElem?_eq_getElem zF,hc]
           · exact hj j (by omega)
     · refine eW ?_
       revert hw;(repeat first|clear hw|revert hc|revert zn|revert zA|revert R|revert K);refine W (J1 (od rU)) (J4 h0 h1 h5 dQ) (J1 ?_)<;>unhygienic intros
       have e:a=b:=by
        apply List.ext_getElem?
        intro j
        by_cases i9:j<i
        · exact hj j i9
        · rw [List.getElem?_eq_none (by omega),List.getElem?_eq_none (by omega)]
       simp [e]
end
section
open T0
structure bG where
 aF:Int
 aj:Int
 base:Int
 c0:Int
 c1:Int
 c2:Int
 c3:Int
 ah:Int
 bX:Int
 ac:Int
 ap:Int
 ao:Int
 cT:Bool
def bG.v (c:bG):Value:=.agg #[.int .i64 c.aF,.int .i64 c.aj,.int .i64 c.base,.int .i64 c.c0,.int .i64 c.c1,.int .i64 c.c2,.int .i64 c.c3,.int .i64 c.ah,.int .i64 c.bX,.int .i64 c.ac,.int .i64 c.ap,.int .i64 c.ao,.bool c.cT]
def bG.cells (c:bG):List Value:=[.int .i64 c.aF,.int .i64 c.aj,.int .i64 c.base,.int .i64 c.c0,.int .i64 c.c1,.int .i64 c.c2,.int .i64 c.c3,.int .i64 c.ah,.int .i64 c.bX,.int .i64 c.ac,.int .i64 c.ap,.int .i64 c.ao,.bool c.cT]
def bG.nb (c:bG):Int:=c.c0+c.c1+c.c2+c.c3
def bG.hw (c:bG):Int:=c.c0+c.c1*2+c.c2*4+c.c3*8
structure dt (c:bG):Prop where
 aF:1≤c.aF∧c.aF≤64
 aj:1≤c.aj∧c.aj≤64
 k0:0≤c.c0∧c.c0≤64
 k1:0≤c.c1∧c.c1≤64
 k2:0≤c.c2∧c.c2≤64
 k3:0≤c.c3∧c.c3≤64
 nb:c.nb≤64
 base:0≤c.base∧c.base≤c.aF
 IX:c.hw≤c.aF-c.base
 ah:1≤c.ah∧c.ah≤32
 bX:1≤c.bX∧c.bX≤32
 ac:0≤c.ac∧c.ac≤8
 ap:0≤c.ap∧c.ap≤8
 ao:0≤c.ao∧c.ao≤1099511627776
theorem EV (n lo hi:Int) (A:AW):aH Tryz.prog 215 [.int .i64 n,.int .i64 lo,.int .i64 hi] A (fun v A'=>v=.bool (decide (lo≤n∧n≤hi))∧A=A'):=by
 refine ab Tryz.func215 rfl (by kernel_rfl) fun _=>?_
 refine W trivial trivial (J2 ?_ ?_)<;>unhygienic intros
 all_goals(simp_all<;>omega)
theorem ui (n lo hi:Int) (A:AW):aH Tryz.prog 245 [.int .i64 n,.int .i64 lo,.int .i64 hi] A (fun v A'=>v=.bool (decide (lo≤n∧n≤hi))∧A=A'):=by
 refine ab Tryz.func245 rfl (by kernel_rfl) fun _=>?_
 refine W trivial trivial (J2 ?_ ?_)<;>unhygienic intros
 all_goals(simp_all<;>omega)
end
structure ln where
 dA:Nat
 bl:List Int
 df:List Int
 index:List Int
def lU (l:List Int) (a:Int):Option Nat:=l.findIdx? (·== a)
def jm (n:Nat) (a:Int):Nat:=(a.toNat % n*5) % n
def ix (index:List Int) (k:Nat):Int:=index.getD k (-1)
def xM (index:List Int):Nat→Nat→Nat
 | 0,k=>k
 | f+1,k=>if ix index k<0 then k else xM index f ((k+1) % index.length)
def sn (index:List Int) (k:Nat):Nat:=xM index index.length k
def di (s:ln) (a v:Int):Bool×ln:=match lU s.bl a with
 | some e=>(true,{ s with df:=s.df.set e v })
 | none=>if s.bl.length=s.dA then (false,s) else
   (true,{ s with bl:=s.bl++[a],df:=s.df++[v],index:=s.index.set (sn s.index (jm s.index.length a)) s.bl.length })
def eC (s:ln) (a:Int):Int×Bool:=match lU s.bl a with
 | some e=>(s.df.getD e 0,true)
 | none=>(0,false)
theorem mq {l:List Int} {a:Int} {e:Nat} (h:lU l a=some e):e<l.length∧l.getD e 0=a∧∀j,j<e→l.getD j 0≠a:=by
 unfold lU at h
 rw [List.findIdx?_eq_some_iff_getElem] at h
 obtain⟨h1,h2,h3⟩:=h
 refine⟨h1,?_,fun j hj=>?_⟩
 · rw [List.getD_eq_getElem?_getD,List.getElem?_eq_getElem h1];simpa using h2
 · have:=h3 j hj
   rw [List.getD_eq_getElem?_getD,List.getElem?_eq_getElem (by omega)]
   simpa using this
theorem zS {l:List Int} {a:Int} (h:lU l a=none):∀j,j<l.length→l.getD j 0≠a:=by
 unfold lU at h
 rw [List.findIdx?_eq_none_iff] at h
 intro j hj
 have:=h l[j] (List.getElem_mem hj)
 rw [List.getD_eq_getElem?_getD,List.getElem?_eq_getElem hj]
 simpa using this
def sh (index:List Int):Nat:=index.countP (fun x=>decide (0≤x))
def st (n k d:Nat):Nat:=(k+d) % n
structure jq (s:ln):Prop where
 xt:s.df.length=s.bl.length
 dA:s.bl.length≤s.dA
 KK:s.dA<s.index.length
 Q7:∀a∈s.bl,0≤a
 Qp:∀k,k<s.index.length→ix s.index k<s.bl.length
 fill:sh s.index=s.bl.length
 Th:∀e,e<s.bl.length→∃d,d<s.index.length∧ix s.index (st s.index.length (jm s.index.length (s.bl.getD e 0)) d)=e∧
  ∀d',d'<d→0≤ix s.index (st s.index.length (jm s.index.length (s.bl.getD e 0)) d')∧ix s.index (st s.index.length (jm s.index.length (s.bl.getD e 0)) d')≠e
 Qb:∀i j,i<s.bl.length→j<s.bl.length→s.bl.getD i 0=s.bl.getD j 0→i=j
theorem Gq {index:List Int} (h:∀k,k<index.length→0≤ix index k):sh index=index.length:=by
 unfold sh
 rw [List.countP_eq_length]
 intro x hx
 obtain⟨k,hk,rfl⟩:=List.getElem_of_mem hx
 have:=h k hk
 unfold ix at this
 rw [List.getD_eq_getElem?_getD,List.getElem?_eq_getElem hk] at this
 simpa using this
theorem jq.empty {s:ln} (h:jq s):∃k,k<s.index.length∧ix s.index k<0:=by
 apply Classical.byContradiction
 intro hn
 have kE:∀k,k<s.index.length→0≤ix s.index k:=fun k hk=>by
  apply Classical.byContradiction
  intro h1
  exact hn ⟨k,hk,by omega⟩
 have h1:=Gq kE
 have h2:=h.fill
 have h3:=h.dA
 have h4:=h.KK
 omega
theorem CY {n k d:Nat} (hn:0<n):st n ((k+1) % n) d=st n k (d+1):=by
 unfold st
 rw [Nat.mod_add_mod]
 congr 1
 omega
theorem ue {n k:Nat} (hk:k<n):st n k 0=k:=by
 unfold st
 rw [Nat.add_zero,Nat.mod_eq_of_lt hk]
theorem uf {n k d:Nat} (hn:0<n):st n k d<n:=Nat.mod_lt _ hn
theorem KF {n k j:Nat} (hk:k<n) (hj:j<n):∃d,d<n∧st n k d=j:=by
 by_cases h:k≤j
 · exact⟨j-k,by omega,by unfold st;rw [show k+(j-k)=j by omega,Nat.mod_eq_of_lt hj]⟩
 · refine⟨n+j-k,by omega,?_⟩
   unfold st
   rw [show k+(n+j-k)=j+n by omega,Nat.add_mod_right,Nat.mod_eq_of_lt hj]
theorem jq.first {s:ln} (h:jq s) {k:Nat} (hk:k<s.index.length):∃d,d<s.index.length∧ix s.index (st s.index.length k d)<0∧∀d',d'<d→0≤ix s.index (st s.index.length k d'):=by
 obtain⟨j,hj,qK⟩:=h.empty
 obtain⟨d0,Zs,he⟩:=KF hk hj
 have key:∀n,(∃d,d≤n∧ix s.index (st s.index.length k d)<0)→∃d,d≤n∧ix s.index (st s.index.length k d)<0∧∀d',d'<d→0≤ix s.index (st s.index.length k d'):=by
  intro n
  induction n with
  | zero=>
    rintro ⟨d,hd,h1⟩
    exact⟨d,hd,h1,fun d' Gd=>by omega⟩
  | succ n ih=>
    rintro ⟨d,hd,h1⟩
    by_cases rt:∃d,d≤n∧ix s.index (st s.index.length k d)<0
    · obtain⟨d2,h2,h3⟩:=ih rt
      exact⟨d2,by omega,h3⟩
    · refine⟨d,hd,h1,fun d' Gd=>?_⟩
      apply Classical.byContradiction
      intro h4
      exact rt ⟨d',by omega,by omega⟩
 obtain⟨d,h1,h2,h3⟩:=key d0 ⟨d0,Nat.le_refl _,by rw [he];exact qK⟩
 exact⟨d,by omega,h2,h3⟩
theorem ve (index:List Int):∀(f k d:Nat),k<index.length→d≤f→ix index (st index.length k d)<0→(∀d',d'<d→0≤ix index (st index.length k d'))→xM index f k=st index.length k d
 | 0,k,d,hk,hd,h1,h2=>by
   have:d=0:=by omega
   subst this
   rw [ue hk];rfl
 | f+1,k,d,hk,hd,h1,h2=>by
   unfold xM
   cases d with
   | zero=>
     rw [ue hk] at h1 ⊢
     rw [if_pos h1]
   | succ d=>
     have h0:=h2 0 (by omega)
     rw [ue hk] at h0
     rw [if_neg (by omega)]
     have hn:0<index.length:=by omega
     rw [ve index f ((k+1) % index.length) d (Nat.mod_lt _ hn) (by omega) (by rw [CY hn];exact h1) (fun d' Gd=>by rw [CY hn];exact h2 _ (by omega)),CY hn]
theorem tt {s:ln} (h:jq s) {k d:Nat} (hk:k<s.index.length) (hd:d<s.index.length) (h1:ix s.index (st s.index.length k d)<0) (h2:∀d',d'<d→0≤ix s.index (st s.index.length k d')) :
 sn s.index k=st s.index.length k d:=ve _ _ _ _ hk (by omega) h1 h2
theorem uY {n:Nat} (hn:0<n) (a:Int):jm n a<n:=Nat.mod_lt _ hn
theorem zu {index:List Int} {p:Nat} (hp:p<index.length) (x:Int) (k:Nat):ix (index.set p x) k=if k=p then x else ix index k:=by
 unfold ix
 by_cases e:k=p
 · subst e
   rw [if_pos rfl,List.getD_eq_getElem?_getD,List.getElem?_set_self hp];rfl
 · rw [if_neg e,List.getD_eq_getElem?_getD,List.getElem?_set_ne (Ne.symm e),←List.getD_eq_getElem?_getD]
theorem zT:∀{index:List Int} {p:Nat} (hp:p<index.length) {x:Int},0≤x→ix index p<0→sh (index.set p x)=sh index+1
 | [],p,hp,_,_,_=>by simp at hp
 | y::l,0,hp,x,hx,h=>by
   have h':y<0:=h
   have e1:decide (0≤x)=true:=by simpa using hx
   have e2:decide (0≤y)=false:=by simp;omega
   simp [sh,List.countP_cons,e1,e2]
 | y::l,p+1,hp,x,hx,h=>by
   have:=zT (index:=l) (p:=p) (by simpa using hp) hx h
   simp only [sh,List.set_cons_succ,List.countP_cons] at this ⊢
   omega
theorem sM {s:ln} (h:jq s) {a:Int} (ha:0≤a) (v:Int):jq (di s a v).2:=by
 unfold di
 split
 · exact⟨by simpa using h.xt,h.dA,h.KK,h.Q7,h.Qp,h.fill,h.Th,h.Qb⟩
 · rename_i LB
   split
   · exact h
   · rename_i k6
     have hn:0<s.index.length:=by have:=h.KK;omega
     have hk:=uY hn a
     obtain⟨d,hd,h1,h2⟩:=h.first hk
     have hp:=tt h hk hd h1 h2
     have Az:st s.index.length (jm s.index.length a) d<s.index.length:=uf hn
     have V3:=h.dA
     have nM:∀e,e<s.bl.length→(s.bl++[a]).getD e 0=s.bl.getD e 0:=fun e he=>by
      rw [List.getD_eq_getElem?_getD,List.getElem?_append_left he,←List.getD_eq_getElem?_getD]
     have Ux:(s.bl++[a]).getD s.bl.length 0=a:=by
      rw [List.getD_eq_getElem?_getD,List.getElem?_append_right (Nat.le_refl _)];simp
     refine⟨by simp [h.xt],by simp;omega,by simpa using h.KK,?_,?_,?_,?_,?_⟩
     · intro x hx
       rw [List.mem_append] at hx
       rcases hx with hx|hx
       · exact h.Q7 x hx
       · simp at hx;subst hx;exact ha
     · intro k VU
       simp only [List.length_set] at VU
       simp only [hp,zu Az,List.length_append,List.length_cons,List.length_nil]
       split
       · omega
       · have:=h.Qp k VU;omega
     · simp only [hp,List.length_append,List.length_cons,List.length_nil]
       rw [zT Az (by omega) h1,h.fill]
     · intro e he
       simp only [List.length_append,List.length_cons,List.length_nil] at he
       simp only [hp,List.length_set]
       by_cases me:e=s.bl.length
       · subst me
         rw [Ux]
         refine⟨d,hd,by rw [zu Az,if_pos rfl],fun d' Gd=>?_⟩
         have r5:=h2 d' Gd
         have ke:st s.index.length (jm s.index.length a) d'≠st s.index.length (jm s.index.length a) d:=fun e=>by rw [e] at r5;omega
         rw [zu Az,if_neg ke]
         refine⟨r5,?_⟩
         have:=h.Qp _ (uf (k:=jm s.index.length a) (d:=d') hn)
         omega
       · have S2:e<s.bl.length:=by omega
         rw [nM e S2]
         obtain⟨d2,g1,g2,g3⟩:=h.Th e S2
         refine⟨d2,g1,?_,fun d' Gd=>?_⟩
         · rw [zu Az,if_neg (fun e2=>by rw [e2] at g2;omega)];exact g2
         · obtain⟨g4,g5⟩:=g3 d' Gd
           rw [zu Az,if_neg (fun e2=>by rw [e2] at g4;omega)];exact⟨g4,g5⟩
     · intro i j hi hj he
       simp only [List.length_append,List.length_cons,List.length_nil] at hi hj
       have ke:=zS LB
       by_cases xx:i<s.bl.length
       · by_cases i9:j<s.bl.length
         · rw [nM i xx,nM j i9] at he
           exact h.Qb i j xx i9 he
         · have:j=s.bl.length:=by omega
           subst this
           rw [nM i xx,Ux] at he
           exact absurd he (ke i xx)
       · have:i=s.bl.length:=by omega
         subst this
         by_cases i9:j<s.bl.length
         · rw [nM j i9,Ux] at he
           exact absurd he.symm (ke j i9)
         · omega
theorem jq.Oi {s:ln} (h:jq s) (a:Int):∃d,d<s.index.length∧
 (∀d',d'<d→0≤ix s.index (st s.index.length (jm s.index.length a) d')∧s.bl.getD (ix s.index (st s.index.length (jm s.index.length a) d')).toNat 0≠a)∧
 ((∃e,lU s.bl a=some e∧ix s.index (st s.index.length (jm s.index.length a) d)=e) ∨
   (lU s.bl a=none∧ix s.index (st s.index.length (jm s.index.length a) d)<0∧sn s.index (jm s.index.length a)=st s.index.length (jm s.index.length a) d)):=by
 have hn:0<s.index.length:=by have:=h.KK;omega
 have hk:=uY hn a
 cases hf:lU s.bl a with
 | some e=>
   obtain⟨f1,f2,f3⟩:=mq hf
   obtain⟨d,g1,g2,g3⟩:=h.Th e f1
   rw [f2] at g2 g3
   refine⟨d,g1,fun d' Gd=>?_,.inl ⟨e,rfl,g2⟩⟩
   obtain⟨g4,g5⟩:=g3 d' Gd
   refine⟨g4,fun e2=>?_⟩
   have hr:=h.Qp _ (uf (k:=jm s.index.length a) (d:=d') hn)
   have:=h.Qb (ix s.index (st s.index.length (jm s.index.length a) d')).toNat e (by omega) f1 (by rw [e2,f2])
   omega
 | none=>
   have ke:=zS hf
   obtain⟨d,g1,g2,g3⟩:=h.first hk
   refine⟨d,g1,fun d' Gd=>⟨g3 d' Gd,?_⟩,.inr ⟨rfl,g2,tt h hk g1 g2 g3⟩⟩
   have hr:=h.Qp _ (uf (k:=jm s.index.length a) (d:=d') hn)
   have:=g3 d' Gd
   exact ke _ (by omega)
def oX (l:List Int):List Int:=l.mergeSort fun x y=>decide (x≤y)
theorem Jj (B:Nat) (v:Value) (l:List Int) (A:AW) (hw:A.Wf) (h:dk B A .i64 v l) (hl:l.length<2^40) :
 aH Tryz.prog 231 [v] A (fun u A'=>dk B A' .i64 v (oX l)∧∀A0:AW,A0.next≤B→A0.le A→A0.le A'):=by
 have dz:jN Tryz.prog 231=true:=by kernel_rfl
 rcases h.cL with ⟨o,c,rfl,rfl,_⟩|⟨p,c,dh,rfl,h0,hc,hs,hB,hg,lm,pO⟩
 · refine(aH.empty dz (rv:=.tuple #[]) (ret:=fun _ _=>.tuple #[]) (fun m _ _ _=>cz.undef m) (fun o' c' w=>Tryz.slices_Sort_int_none o' c' w)).mono ?_
   rintro u A' ⟨rfl,rfl⟩
   exact⟨by simpa [oX] using h,fun A0 _ hl=>hl⟩
 · have cU:(oX l).length=l.length:=by simp [oX]
   refine(Ip dz (k:=.i64) (d:=oX l) (rv:=.tuple #[]) (ret:=fun _ _=>.tuple #[]) rfl h0 hc hg lm pO cU (fun m _ _ _ _=>cz.undef m)
    (fun gi off dA w hH hb _=>Tryz.slices_Sort_int gi off dA l w hH hb (by omega))).mono ?_
   rintro u A' ⟨rfl,rfl⟩
   refine⟨?_,fun A0 hA0 eG=>eG.set (by omega) _⟩
   have:=y4 (B:=B) (k:=.i64) (oX l) [] hw hB hs hg (c:=c) (by simpa [cU] using lm) (by omega) cU.symm
   simpa using this
theorem sq (l:List Int):(Lib.compact l).length≤l.length:=by
 simp only [Lib.compact,Lib.compactUpTo,List.length_map]
 exact Nat.le_trans (List.length_filter_le _ _) (by simp)
theorem DZ (B:Nat) (v:Value) (l:List Int) (A:AW) (hw:A.Wf) (h:dk B A .i64 v l) (hl:l.length<2^40) :
 aH Tryz.prog 232 [v] A (fun u A'=>dk B A' .i64 u (Lib.compact l)∧∀A0:AW,A0.next≤B→A0.le A→A0.le A'):=by
 have dz:jN Tryz.prog 232=true:=by kernel_rfl
 rcases h.cL with ⟨o,c,rfl,rfl,_⟩|⟨p,c,dh,rfl,h0,hc,hs,hB,hg,lm,pO⟩
 · refine(aH.empty dz (rv:=.slice o 0 c) (ret:=fun o' c'=>.slice o' 0 c') (fun m _ _ h=>h) (fun o' c' w=>Tryz.slices_Compact_int_empty o' c' w)).mono ?_
   rintro u A' ⟨rfl,rfl⟩
   exact⟨h,fun A0 _ hl=>hl⟩
 · have cU:=sq l
   refine(Ip dz (k:=.i64) (d:=Lib.compact l++List.replicate (l.length-(Lib.compact l).length) 0) (rv:=.slice (some p) (Lib.compact l).length c) (ret:=fun a' iB=>.slice (some a') (Lib.compact l).length iB)
    rfl h0 hc hg lm pO (by simp;omega) (fun m a' iB Ms Yj=>.slice (.inl Ms) (by omega) Yj)
    (fun gi off dA w hH hb k6=>(Tryz.slices_Compact_int gi off dA l w hH (by omega) k6).mono fun e w' ⟨h1,q,h2⟩=>⟨h1,q,#[],by rw [h2];exact(Go.Sort.grow_empty _).symm⟩)).mono ?_
   rintro u A' ⟨rfl,rfl⟩
   refine⟨?_,fun A0 hA0 eG=>eG.set (by omega) _⟩
   exact y4 (B:=B) (k:=.i64) (Lib.compact l) _ hw hB hs hg (c:=c) (by simp;omega) (by omega) rfl
section
open T0
def dX (l:List Int):List Int:=Lib.compact (oX l)
theorem wy (v:Value) (l:List Int) (A:AW) (h:cF A .i64 v l) (hl:l.length<2^39) :
 aH Tryz.prog 165 [v] A (fun u A'=>dk A.next A' .i64 u (dX l)∧A.le A'):=by
 refine ab Tryz.func165 rfl (by kernel_rfl) fun hw=>?_
 revert hw;refine W trivial trivial (J1 ?_)<;>unhygienic intros
 refine bD (jF v l A h hl) ?_
 rintro v1 A1 ⟨h1,l1⟩ w1 _
 revert hw;(repeat first|clear hw|revert hc|revert zn|revert zA|revert R|revert K);refine W trivial trivial (J1 ?_)<;>unhygienic intros
 refine bD (Jj A.next v1 l A1 w1 h1 (by omega)) ?_
 rintro _ A2 ⟨h2,l2⟩ w2 _
 revert hw;(repeat first|clear hw|revert hc|revert zn|revert zA|revert R|revert K);refine W trivial trivial (J1 ?_)<;>unhygienic intros
 refine bD (DZ A.next v1 (oX l) A2 w2 h2 (by simp [oX];omega)) ?_
 rintro v3 A3 ⟨h3,l3⟩ w3 _
 revert hw;(repeat first|clear hw|revert hc|revert zn|revert zA|revert R|revert K);refine W trivial trivial (J1 ?_)<;>unhygienic intros
 simp
 exact⟨h3,l3 A (Nat.le_refl _) (l2 A (Nat.le_refl _) l1)⟩
end
theorem HY:∀(a b:List Int),a.Pairwise (·< ·)→b.Pairwise (·< ·)→(∀x,x∈a↔x∈b)→a=b
 | [],[],_,_,_=>rfl
 | [],y::b,_,_,h=>by have:=(h y).2 (by simp);simp at this
 | x::a,[],_,_,h=>by have:=(h x).1 (by simp);simp at this
 | x::a,y::b,ha,hb,h=>by
   rw [List.pairwise_cons] at ha hb
   have Xo:x=y:=by
    have h1:=(h x).1 (by simp)
    have h2:=(h y).2 (by simp)
    rw [List.mem_cons] at h1 h2
    rcases h1 with h1|h1
    · exact h1
    · rcases h2 with h2|h2
      · exact h2.symm
      · have:=hb.1 x h1
        have:=ha.1 y h2
        omega
   subst Xo
   congr 1
   refine HY a b ha.2 hb.2 fun z=>⟨fun hz=>?_,fun hz=>?_⟩
   · have:=ha.1 z hz
     have h1:=(h z).1 (by simp [hz])
     rw [List.mem_cons] at h1
     rcases h1 with h1|h1
     · omega
     · exact h1
   · have:=hb.1 z hz
     have h1:=(h z).2 (by simp [hz])
     rw [List.mem_cons] at h1
     rcases h1 with h1|h1
     · omega
     · exact h1
theorem F1 (fy:List Int) (x z:Int):z∈mG fy x↔z=x∨z∈fy:=by
 induction fy with
 | nil=>simp [mG]
 | cons y r ih=>
   simp only [mG]
   split
   · simp only [List.mem_cons,ih]
     constructor
     · rintro (h|h|h)
       · exact .inr (.inl h)
       · exact .inl h
       · exact .inr (.inr h)
     · rintro (h|h|h)
       · exact .inr (.inl h)
       · exact .inl h
       · exact .inr (.inr h)
   · split
     · rename_i h1 h2
       subst h2
       simp
     · simp
theorem Na (fy:List Int) (x:Int) (h:fy.Pairwise (·< ·)):(mG fy x).Pairwise (·< ·):=by
 induction fy with
 | nil=>simp [mG]
 | cons y r ih=>
   have h0:=List.pairwise_cons.1 h
   simp only [mG]
   split
   · rename_i h1
     refine List.pairwise_cons.2 ⟨fun z hz=>?_,ih h0.2⟩
     rcases (F1 r x z).1 hz with e|e
     · omega
     · exact h0.1 z e
   · split
     · exact h
     · rename_i h1 h2
       refine List.pairwise_cons.2 ⟨fun z hz=>?_,h⟩
       rw [List.mem_cons] at hz
       rcases hz with e|e
       · omega
       · have:=h0.1 z e
         omega
theorem ra (l:List Int):(ig l).Pairwise (·< ·)∧∀z,z∈ig l↔z∈l:=by
 have:∀(l fy:List Int),fy.Pairwise (·< ·)→(l.foldl mG fy).Pairwise (·< ·)∧∀z,z∈l.foldl mG fy↔z∈fy∨z∈l:=by
  intro l
  induction l with
  | nil=>intro fy h;exact⟨h,by simp⟩
  | cons x r ih=>
    intro fy h
    obtain⟨h1,h2⟩:=ih (mG fy x) (Na fy x h)
    refine⟨h1,fun z=>?_⟩
    rw [List.foldl_cons,h2,F1,List.mem_cons]
    constructor
    · rintro ((h|h)|h)
      · exact .inr (.inl h)
      · exact .inl h
      · exact .inr (.inr h)
    · rintro (h|h|h)
      · exact .inl (.inr h)
      · exact .inl (.inl h)
      · exact .inr h
 have h:=this l [] List.Pairwise.nil
 exact⟨h.1,fun z=>by rw [ig,h.2];simp⟩
theorem DY (l:List Int) (h:l.Pairwise (·≤·)):(Lib.compact l).Pairwise (·< ·)∧∀z,z∈Lib.compact l↔z∈l:=by
 have eG:∀i j,i≤j→j<l.length→l.toArray[i]!≤l.toArray[j]!:=by
  intro i j X4 hj
  rw [getElem!_pos l.toArray i (by simp;omega),getElem!_pos l.toArray j (by simpa using hj)]
  simp only [List.getElem_toArray]
  by_cases e:i=j
  · subst e;exact Int.le_refl _
  · exact List.pairwise_iff_getElem.1 h i j (by omega) hj (by omega)
 constructor
 · rw [Lib.compact,Lib.compactUpTo,List.pairwise_map]
   have hr:((List.range l.length).filter (Lib.keeps l.toArray)).Pairwise (·< ·):=List.Pairwise.filter _ List.pairwise_lt_range
   refine List.Pairwise.imp_of_mem ?_ hr
   intro i j hi hj X4
   rw [List.mem_filter,List.mem_range] at hi hj
   have hk:=hj.2
   simp only [Lib.keeps,decide_eq_true_eq] at hk
   rcases hk with hk|hk
   · omega
   · have h1:=eG i (j-1) (by omega) (by omega)
     have h2:=eG (j-1) j (by omega) hj.1
     omega
 · intro z
   rw [Lib.compact,Lib.compactUpTo,List.mem_map]
   constructor
   · rintro ⟨i,hi,rfl⟩
     rw [List.mem_filter,List.mem_range] at hi
     rw [getElem!_pos l.toArray i (by simpa using hi.1)]
     simp
   · intro hz
     obtain⟨i,hi,rfl⟩:=List.getElem_of_mem hz
     have key:∀n i (hi:i<l.length),i≤n→∃a,a∈(List.range l.length).filter (Lib.keeps l.toArray)∧l.toArray[a]! = l[i]:=by
      intro n
      induction n with
      | zero=>
        intro i hi tm
        have:i=0:=by omega
        subst this
        exact⟨0,by simp [List.mem_filter,Lib.keeps,hi],by rw [getElem!_pos l.toArray 0 (by simpa using hi)];simp⟩
      | succ n ih=>
        intro i hi tm
        by_cases hk:Lib.keeps l.toArray i=true
        · exact⟨i,by simp [List.mem_filter,hk,hi],by rw [getElem!_pos l.toArray i (by simpa using hi)];simp⟩
        · simp only [Lib.keeps,decide_eq_true_eq,not_or,Decidable.not_not] at hk
          obtain⟨a,ha,hb⟩:=ih (i-1) (by omega) (by omega)
          refine⟨a,ha,?_⟩
          rw [hb]
          have h3:=hk.2
          rw [getElem!_pos l.toArray i (by simpa using hi),getElem!_pos l.toArray (i-1) (by simp;omega)] at h3
          simpa using h3.symm
     exact key i i hi (Nat.le_refl _)
theorem ym (l:List Int):dX l=ig l:=by
 have hs:(oX l).Pairwise (·≤·):=by
  have:=List.pairwise_mergeSort (le:=fun x y:Int=>decide (x≤y)) (by simp;omega) (by simp;omega) l
  exact this.imp (by simp)
 obtain⟨h1,h2⟩:=DY (oX l) hs
 obtain⟨h3,h4⟩:=ra l
 refine HY _ _ h1 h3 fun z=>?_
 rw [dX,h2,h4,oX,List.mem_mergeSort]
end Go.Stx
