/-
 A redo log, without the program: entries in order, and an index by open addressing.
-/
import Derived.Test.YtejgooipbmnioaaGreatDoorG03
set_option linter.unusedVariables false
set_option linter.unusedSimpArgs false
set_option linter.unusedSectionVars false
set_option maxRecDepth 20000
set_option maxHeartbeats 4000000
namespace Go.Stx
open Go Go.Proofs
attribute [local irreducible] TW cg eg bn aC aV cR df
section
variable [Gl]
structure nK where
 ew:Nat
 bU:List Int
 ey:List Int
 index:List Int
def q9 (l:List Int) (a:Int):Option Nat:=l.findIdx? (·== a)
def jI (n:Nat) (a:Int):Nat:=(a.toNat % n*5) % n
def ix (index:List Int) (k:Nat):Int:=index.getD k (-1)
def xH (index:List Int):Nat→Nat→Nat
 | 0,k=>k
 | f+1,k=>if ix index k<0 then k else xH index f ((k+1) % index.length)
def uF (index:List Int) (k:Nat):Nat:=xH index index.length k
def eB (s:nK) (a v:Int):Bool×nK:=match q9 s.bU a with
 | some e=>(true,{ s with ey:=s.ey.set e v })
 | none=>if s.bU.length=s.ew then (false,s) else
   (true,{ s with bU:=s.bU++[a],ey:=s.ey++[v],index:=s.index.set (uF s.index (jI s.index.length a)) s.bU.length })
def jo (s:nK) (a:Int):Int×Bool:=match q9 s.bU a with
 | some e=>(s.ey.getD e 0,true)
 | none=>(0,false)
theorem qc {l:List Int} {a:Int} {e:Nat} (h:q9 l a=some e):e<l.length∧l.getD e 0=a∧∀j,j<e→l.getD j 0≠a:=by
 unfold q9 at h
 rw [List.findIdx?_eq_some_iff_getElem] at h
 obtain⟨h1,h2,h3⟩:=h
 refine⟨h1,?_,fun j hj=>?_⟩
 · rw [List.getD_eq_getElem?_getD,List.getElem?_eq_getElem h1];simpa using h2
 · have:=h3 j hj
   rw [List.getD_eq_getElem?_getD,List.getElem?_eq_getElem (by omega)]
   simpa using this
theorem za {l:List Int} {a:Int} (h:q9 l a=none):∀j,j<l.length→l.getD j 0≠a:=by
 unfold q9 at h
 rw [List.findIdx?_eq_none_iff] at h
 intro j hj
 have:=h l[j] (List.getElem_mem hj)
 rw [List.getD_eq_getElem?_getD,List.getElem?_eq_getElem hj]
 simpa using this
def re (index:List Int):Nat:=index.countP (fun x=>decide (0≤x))
def st (n k d:Nat):Nat:=(k+d) % n
structure lV (s:nK):Prop where
 Gy:s.ey.length=s.bU.length
 ew:s.bU.length≤s.ew
 Ku:s.ew<s.index.length
 Ro:∀a∈s.bU,0≤a
 QD:∀k,k<s.index.length→ix s.index k<s.bU.length
 fill:re s.index=s.bU.length
 Uc:∀e,e<s.bU.length→∃d,d<s.index.length∧ix s.index (st s.index.length (jI s.index.length (s.bU.getD e 0)) d)=e∧
  ∀d',d'<d→0≤ix s.index (st s.index.length (jI s.index.length (s.bU.getD e 0)) d')∧ix s.index (st s.index.length (jI s.index.length (s.bU.getD e 0)) d')≠e
 Qk:∀i j,i<s.bU.length→j<s.bU.length→s.bU.getD i 0=s.bU.getD j 0→i=j
theorem E5 {index:List Int} (h:∀k,k<index.length→0≤ix index k):re index=index.length:=by
 unfold re
 rw [List.countP_eq_length]
 intro x hx
 obtain⟨k,hk,rfl⟩:=List.getElem_of_mem hx
 have:=h k hk
 unfold ix at this
 rw [List.getD_eq_getElem?_getD,List.getElem?_eq_getElem hk] at this
 simpa using this
theorem lV.jS {s:nK} (h:lV s):∃k,k<s.index.length∧ix s.index k<0:=by
 apply Classical.byContradiction
 intro hn
 have jp:∀k,k<s.index.length→0≤ix s.index k:=fun k hk=>by
  apply Classical.byContradiction
  intro h1
  exact hn ⟨k,hk,by omega⟩
 have h1:=E5 jp
 have h2:=h.fill
 have h3:=h.ew
 have h4:=h.Ku
 omega
theorem Cj {n k d:Nat} (hn:0<n):st n ((k+1) % n) d=st n k (d+1):=by
 unfold st
 rw [Nat.mod_add_mod]
 congr 1
 omega
theorem xq {n k:Nat} (hk:k<n):st n k 0=k:=by
 unfold st
 rw [Nat.add_zero,Nat.mod_eq_of_lt hk]
theorem wo {n k d:Nat} (hn:0<n):st n k d<n:=Nat.mod_lt _ hn
theorem Kq {n k j:Nat} (hk:k<n) (hj:j<n):∃d,d<n∧st n k d=j:=by
 by_cases h:k≤j
 · exact⟨j-k,by omega,by unfold st;rw [show k+(j-k)=j by omega,Nat.mod_eq_of_lt hj]⟩
 · refine⟨n+j-k,by omega,?_⟩
   unfold st
   rw [show k+(n+j-k)=j+n by omega,Nat.add_mod_right,Nat.mod_eq_of_lt hj]
theorem lV.first {s:nK} (h:lV s) {k:Nat} (hk:k<s.index.length):∃d,d<s.index.length∧ix s.index (st s.index.length k d)<0∧∀d',d'<d→0≤ix s.index (st s.index.length k d'):=by
 obtain⟨j,hj,ES⟩:=h.jS
 obtain⟨d0,FF,he⟩:=Kq hk hj
 have key:∀n,(∃d,d≤n∧ix s.index (st s.index.length k d)<0)→∃d,d≤n∧ix s.index (st s.index.length k d)<0∧∀d',d'<d→0≤ix s.index (st s.index.length k d'):=by
  intro n
  induction n with
  | zero=>
    rintro ⟨d,hd,h1⟩
    exact⟨d,hd,h1,fun d' LC=>by omega⟩
  | succ n ih=>
    rintro ⟨d,hd,h1⟩
    by_cases nI:∃d,d≤n∧ix s.index (st s.index.length k d)<0
    · obtain⟨d2,h2,h3⟩:=ih nI
      exact⟨d2,by omega,h3⟩
    · refine⟨d,hd,h1,fun d' LC=>?_⟩
      apply Classical.byContradiction
      intro h4
      exact nI ⟨d',by omega,by omega⟩
 obtain⟨d,h1,h2,h3⟩:=key d0 ⟨d0,Nat.le_refl _,by rw [he];exact ES⟩
 exact⟨d,by omega,h2,h3⟩
theorem uG (index:List Int):∀(f k d:Nat),k<index.length→d≤f→ix index (st index.length k d)<0→(∀d',d'<d→0≤ix index (st index.length k d'))→xH index f k=st index.length k d
 | 0,k,d,hk,hd,h1,h2=>by
   have:d=0:=by omega
   subst this
   rw [xq hk];rfl
 | f+1,k,d,hk,hd,h1,h2=>by
   unfold xH
   cases d with
   | zero=>
     rw [xq hk] at h1 ⊢
     rw [if_pos h1]
   | succ d=>
     have h0:=h2 0 (by omega)
     rw [xq hk] at h0
     rw [if_neg (by omega)]
     have hn:0<index.length:=by omega
     rw [uG index f ((k+1) % index.length) d (Nat.mod_lt _ hn) (by omega) (by rw [Cj hn];exact h1) (fun d' LC=>by rw [Cj hn];exact h2 _ (by omega)),Cj hn]
theorem sD {s:nK} (h:lV s) {k d:Nat} (hk:k<s.index.length) (hd:d<s.index.length) (h1:ix s.index (st s.index.length k d)<0) (h2:∀d',d'<d→0≤ix s.index (st s.index.length k d')) :
 uF s.index k=st s.index.length k d:=uG _ _ _ _ hk (by omega) h1 h2
theorem yZ {n:Nat} (hn:0<n) (a:Int):jI n a<n:=Nat.mod_lt _ hn
theorem yN {index:List Int} {p:Nat} (hp:p<index.length) (x:Int) (k:Nat):ix (index.set p x) k=if k=p then x else ix index k:=by
 unfold ix
 by_cases e:k=p
 · subst e
   rw [if_pos rfl,List.getD_eq_getElem?_getD,List.getElem?_set_self hp];rfl
 · rw [if_neg e,List.getD_eq_getElem?_getD,List.getElem?_set_ne (Ne.symm e),←List.getD_eq_getElem?_getD]
theorem zb:∀{index:List Int} {p:Nat} (hp:p<index.length) {x:Int},0≤x→ix index p<0→re (index.set p x)=re index+1
 | [],p,hp,_,_,_=>by simp at hp
 | y::l,0,hp,x,hx,h=>by
   have h':y<0:=h
   have e1:decide (0≤x)=true:=by simpa using hx
   have e2:decide (0≤y)=false:=by simp;omega
   simp [re,List.countP_cons,e1,e2]
 | y::l,p+1,hp,x,hx,h=>by
   have:=zb (index:=l) (p:=p) (by simpa using hp) hx h
   simp only [re,List.set_cons_succ,List.countP_cons] at this ⊢
   omega
theorem Bu {s:nK} (h:lV s) {a:Int} (ha:0≤a) (v:Int):lV (eB s a v).2:=by
 unfold eB
 split
 · exact⟨by simpa using h.Gy,h.ew,h.Ku,h.Ro,h.QD,h.fill,h.Uc,h.Qk⟩
 · rename_i Lu
   split
   · exact h
   · rename_i CU
     have hn:0<s.index.length:=by have:=h.Ku;omega
     have hk:=yZ hn a
     obtain⟨d,hd,h1,h2⟩:=h.first hk
     have hp:=sD h hk hd h1 h2
     have qG:st s.index.length (jI s.index.length a) d<s.index.length:=wo hn
     have Xg:=h.ew
     have uW:∀e,e<s.bU.length→(s.bU++[a]).getD e 0=s.bU.getD e 0:=fun e he=>by
      rw [List.getD_eq_getElem?_getD,List.getElem?_append_left he,←List.getD_eq_getElem?_getD]
     have Vv:(s.bU++[a]).getD s.bU.length 0=a:=by
      rw [List.getD_eq_getElem?_getD,List.getElem?_append_right (Nat.le_refl _)];simp
     refine⟨by simp [h.Gy],by simp;omega,by simpa using h.Ku,?_,?_,?_,?_,?_⟩
     · intro x hx
       rw [List.mem_append] at hx
       rcases hx with hx|hx
       · exact h.Ro x hx
       · simp at hx;subst hx;exact ha
     · intro k ld
       simp only [List.length_set] at ld
       simp only [hp,yN qG,List.length_append,List.length_cons,List.length_nil]
       split
       · omega
       · have:=h.QD k ld;omega
     · simp only [hp,List.length_append,List.length_cons,List.length_nil]
       rw [zb qG (by omega) h1,h.fill]
     · intro e he
       simp only [List.length_append,List.length_cons,List.length_nil] at he
       simp only [hp,List.length_set]
       by_cases hlast:e=s.bU.length
       · subst hlast
         rw [Vv]
         refine⟨d,hd,by rw [yN qG,if_pos rfl],fun d' LC=>?_⟩
         have PR:=h2 d' LC
         have iX:st s.index.length (jI s.index.length a) d'≠st s.index.length (jI s.index.length a) d:=fun e=>by rw [e] at PR;omega
         rw [yN qG,if_neg iX]
         refine⟨PR,?_⟩
         have:=h.QD _ (wo (k:=jI s.index.length a) (d:=d') hn)
         omega
       · have TS:e<s.bU.length:=by omega
         rw [uW e TS]
         obtain⟨d2,g1,g2,g3⟩:=h.Uc e TS
         refine⟨d2,g1,?_,fun d' LC=>?_⟩
         · rw [yN qG,if_neg (fun e2=>by rw [e2] at g2;omega)];exact g2
         · obtain⟨g4,g5⟩:=g3 d' LC
           rw [yN qG,if_neg (fun e2=>by rw [e2] at g4;omega)];exact⟨g4,g5⟩
     · intro i j hi hj he
       simp only [List.length_append,List.length_cons,List.length_nil] at hi hj
       have iX:=za Lu
       by_cases uV:i<s.bU.length
       · by_cases vC:j<s.bU.length
         · rw [uW i uV,uW j vC] at he
           exact h.Qk i j uV vC he
         · have:j=s.bU.length:=by omega
           subst this
           rw [uW i uV,Vv] at he
           exact absurd he (iX i uV)
       · have:i=s.bU.length:=by omega
         subst this
         by_cases vC:j<s.bU.length
         · rw [uW j vC,Vv] at he
           exact absurd he.symm (iX j vC)
         · omega
theorem lV.Rn {s:nK} (h:lV s) (a:Int):∃d,d<s.index.length∧
 (∀d',d'<d→0≤ix s.index (st s.index.length (jI s.index.length a) d')∧s.bU.getD (ix s.index (st s.index.length (jI s.index.length a) d')).toNat 0≠a)∧
 ((∃e,q9 s.bU a=some e∧ix s.index (st s.index.length (jI s.index.length a) d)=e) ∨
   (q9 s.bU a=none∧ix s.index (st s.index.length (jI s.index.length a) d)<0∧uF s.index (jI s.index.length a)=st s.index.length (jI s.index.length a) d)):=by
 have hn:0<s.index.length:=by have:=h.Ku;omega
 have hk:=yZ hn a
 cases hf:q9 s.bU a with
 | some e=>
   obtain⟨f1,f2,f3⟩:=qc hf
   obtain⟨d,g1,g2,g3⟩:=h.Uc e f1
   rw [f2] at g2 g3
   refine⟨d,g1,fun d' LC=>?_,.inl ⟨e,rfl,g2⟩⟩
   obtain⟨g4,g5⟩:=g3 d' LC
   refine⟨g4,fun e2=>?_⟩
   have hr:=h.QD _ (wo (k:=jI s.index.length a) (d:=d') hn)
   have:=h.Qk (ix s.index (st s.index.length (jI s.index.length a) d')).toNat e (by omega) f1 (by rw [e2,f2])
   omega
 | none=>
   have iX:=za hf
   obtain⟨d,g1,g2,g3⟩:=h.first hk
   refine⟨d,g1,fun d' LC=>⟨g3 d' LC,?_⟩,.inr ⟨rfl,g2,sD h hk g1 g2 g3⟩⟩
   have hr:=h.QD _ (wo (k:=jI s.index.length a) (d:=d') hn)
   have:=g3 d' LC
   exact iX _ (by omega)
end
section
open T5
variable [Gl]
def jA (ew:Nat) (va vv vi:Value):dK:=.cells [.int .i64 ew,va,vv,vi] true 1
end
section
open T6
variable [Gl]
theorem ak.HK {A:AW} {L K:List It} {k:IntKind} {v:Value} {l:List Int} (h:ak A L) (hp:ap L (.h (au k v l)) K) {j:Nat} (hj:j<l.length) :
 ∃b off c cK,v=.slice (some ⟨b,off,none⟩) l.length c∧off+l.length≤cK.length∧cK[off+j]? = some (.int k (l.getD j 0))∧
  (∀y A' K',ak A' (.at b (.cells (cK.set (off+j) (.int k y)) true 1)::K')→ak A' (.h (au k v (l.set j y))::K'))∧ak A (.at b (.cells cK true 1)::K):=by
 have h1:bz A (au k v l*aR K):=by
  have h0:=h
  unfold ak at h0
  rw [hp.aR] at h0
  exact h0
 rcases d9.cases h1 with ⟨_,h0,_⟩|⟨b,off,c,cK,rfl,h2,h3,h4,h5⟩
 · omega
 · rw [Nat.mul_one] at h3 h4
   refine⟨b,off,c,cK,rfl,h3,?_,fun y A' K' hh=>au.mk (by simp) (by simpa using h2) (by simpa using h3) ?_ hh,h5⟩
   · have:cK[off+j]? = (l.map (Value.int k))[j]?:=by rw [h4,List.getElem?_take_of_lt hj,List.getElem?_drop]
     rw [this,List.getElem?_map,List.getElem?_eq_getElem hj,List.getD_eq_getElem?_getD,List.getElem?_eq_getElem hj];rfl
   · rw [List.map_set,h4,List.drop_set,if_neg (by omega),show off+j-off=j by omega,List.length_set,List.take_set]
def mK (b:Nat) (s:nK):HP:=nI fun va:Value=>nI fun vv:Value=>nI fun vi:Value=>pt b (jA s.ew va vv vi)*(au .i64 va s.bU*(au .u64 vv s.ey*au .i64 vi s.index))
theorem mK.open {A:AW} {L K:List It} {b:Nat} {s:nK} (h:ak A L) (hp:ap L (.h (mK b s)) K) :
 ∃va vv vi,ak A (.at b (jA s.ew va vv vi)::.h (au .i64 va s.bU)::.h (au .u64 vv s.ey)::.h (au .i64 vi s.index)::K):=by
 unfold ak at h
 rw [hp.aR] at h
 have h1:bz A (mK b s*aR K):=h
 unfold mK at h1
 rw [bz.ex] at h1
 obtain⟨va,h1⟩:=h1
 rw [bz.ex] at h1
 obtain⟨vv,h1⟩:=h1
 rw [bz.ex] at h1
 obtain⟨vi,h1⟩:=h1
 exact⟨va,vv,vi,h1.dH (by show _=pt b _*(au .i64 va s.bU*(au .u64 vv s.ey*(au .i64 vi s.index*aR K)));ac_rfl)⟩
theorem mK.dR {A:AW} {L K:List It} {b:Nat} {s:nK} {va vv vi:Value} (h:ak A L) (hp:aD L [.at b (jA s.ew va vv vi),.h (au .i64 va s.bU),.h (au .u64 vv s.ey),.h (au .i64 vi s.index)] K):ak A (.h (mK b s)::K):=by
 unfold ak at h
 rw [hp.aR] at h
 show bz A (mK b s*aR K)
 unfold mK
 rw [bz.ex]
 refine⟨va,?_⟩
 rw [bz.ex]
 refine⟨vv,?_⟩
 rw [bz.ex]
 exact⟨vi,h.dH (by show pt b _*(au .i64 va s.bU*(au .u64 vv s.ey*(au .i64 vi s.index*eG)))*aR K=_;rw [dg])⟩
theorem xV {a:Int} {n:Nat} (ha:0≤a):a.tmod (n:Int)=((a.toNat % n:Nat):Int):=by
 rw [Int.tmod_eq_emod_of_nonneg ha,Int.natCast_emod,Int.toNat_of_nonneg ha]
theorem Jg {n:Nat} (hn:0<n) (FD:n≤64) {a:Int} (ha:0≤a):(IntKind.i64.wrap (a.tmod (n:Int)*5)).tmod (n:Int)=(jI n a:Int):=by
 have h1:a.toNat % n<n:=Nat.mod_lt _ hn
 rw [xV ha]
 generalize he:a.toNat % n=r at h1
 rw [aw (x:=(r:Int)*5) (by omega) (by omega),xV (by omega)]
 have h2:((r:Int)*5).toNat=r*5:=by omega
 rw [h2]
 unfold jI
 rw [he]
theorem MM {n k:Nat} (hn:0<n) (FD:n≤64) (m:Nat):(((st n k m:Nat):Int)+1).tmod (n:Int)=((st n k (m+1):Nat):Int):=by
 have h1:=wo (k:=k) (d:=m) hn
 have h2:=wo (k:=k) (d:=m+1) hn
 rw [xV (by omega)]
 have h3:(((st n k m:Nat):Int)+1).toNat=st n k m+1:=by omega
 have h4:(st n k m+1) % n=st n k (m+1):=by unfold st;rw [Nat.mod_add_mod];rfl
 rw [h3,h4]
end
section
abbrev xB:List (Nat×Nat):=[(0,0),(1,0),(2,0),(3,0),(4,0),(5,0),(6,0),(7,0),(8,0),(9,0),(10,0),(11,0),(12,0),(13,0),(14,0)]
abbrev xA:List (Nat×Nat):=[(0,0),(1,0),(2,0),(3,0),(4,0),(5,0),(6,0),(7,0),(8,0),(9,0),(10,0),(11,0),(12,0),(13,0),(14,0),(15,0),(16,0),(17,0),(18,0),(19,0),(20,0),(21,0),(22,0),(23,0),(24,0)]
abbrev HU:List (Nat×Nat):=[(0,0),(1,0),(2,0),(3,0),(4,0),(5,0),(6,2),(7,0),(8,0),(9,0)]
open T6
variable [Gl]
set_option maxHeartbeats 1000000 in
theorem wy (b:Nat) (va vv vi:Value) (s:nK) (a:Int) (A:AW) (ko:lV s) (ha:0≤a) (DO:s.ew≤32) (OA:s.index.length≤64) (hg:A.bR b=some (jA s.ew va vv vi))
 (OH:dB A .i64 va s.bU) (OG:dB A .i64 vi s.index) :
 ∃p,p<s.index.length∧((∃e,q9 s.bU a=some e∧ix s.index p=e)∨(q9 s.bU a=none∧ix s.index p<0∧uF s.index (jI s.index.length a)=p))∧
  eF 255 [.pointer (some ⟨b,0,none⟩),.int .i64 a] A (.int .i64 p):=by
 obtain⟨d,hd,UZ,pm⟩:=ko.Rn a
 have hn:0<s.index.length:=by omega
 refine⟨_,wo hn,pm,?_⟩
 refine ab Tryz.func255 rfl (by kernel_rfl) fun _=>?_
 obtain⟨oa,ca,rfl,_⟩:=OH.dJ
 obtain⟨oi,ci,rfl,_⟩:=OG.dJ
 dsimp only [jA] at hg
 have hk:=Jg (n:=s.index.length) hn OA ha
 have QW:=yZ hn a
 generalize jI s.index.length a=k0 at *
 have iX:¬s.index=[]:=fun e=>by rw [e] at hn;simp at hn
 have bW:s.bU.length≤32:=Nat.le_trans ko.ew DO
 refine W (J2 (od xB) (od xA)) (J4 hg hk iX @AW.aa) (J1 ?_)<;>unhygienic intros
 refine eS (fun k fr A'=>A=A'∧∃m:Nat,k=d-m∧m≤d∧fr 0=.pointer (some ⟨b,0,none⟩)∧fr 1=.int .i64 a∧fr 5=.int .i64 (st s.index.length k0 m)) d ?_ ?_
 · refine⟨rfl,0,by simp,by simp,rfl,rfl,by simp [xq QW]⟩
 · rintro k fr A' ⟨rfl,m,rfl,hm,h0,h1,h5⟩
   have cX:=MM (n:=s.index.length) (k:=k0) hn OA m
   have I2:=wo (k:=k0) (d:=m) hn
   obtain⟨p,cK,rfl,dG,bA⟩:=OG.at I2
   have i8:s.index[st s.index.length k0 m]=ix s.index (st s.index.length k0 m):=by unfold ix;rw [List.getD_eq_getElem?_getD,List.getElem?_eq_getElem I2];rfl
   rw [i8] at bA
   have PE:=ko.QD _ I2
   by_cases dO:m<d
   · obtain⟨PR,RP⟩:=UZ m dO
     obtain⟨x,hx⟩:∃x:Nat,ix s.index (st s.index.length k0 m)=x:=⟨(ix s.index (st s.index.length k0 m)).toNat,by omega⟩
     rw [hx] at bA RP PE
     have UX:x<s.bU.length:=by omega
     obtain⟨pa,Ur,rfl,Lq,CT⟩:=OH.at UX
     have RO:¬s.bU[x]=a:=by
      intro e
      apply RP
      rw [Int.toNat_natCast,List.getD_eq_getElem?_getD,List.getElem?_eq_getElem UX];exact e
     generalize s.bU[x]=y at *
     refine dI ?_
     (repeat first|revert hc|revert zn|revert zA|revert R|revert K);refine W (J2 (od xB) (od xA)) (Dz hg h0 h1 h5 dG bA Lq CT UX RO I2 cX iX @AW.aa) (J1 ?_)<;>unhygienic intros
     refine⟨d-(m+1),by omega,rfl,m+1,rfl,by omega,?_,?_,?_⟩
     · simp [h0]
     · simp [h1]
     · simp
   · obtain rfl:m=d:=by omega
     rcases pm with ⟨e,Jd,he⟩|⟨Jd,he,_⟩
     · obtain⟨h3,h4,_⟩:=qc Jd
       rw [he] at bA
       obtain⟨pa,Ur,rfl,Lq,CT⟩:=OH.at h3
       have ZE:s.bU[e]=a:=by
        rw [List.getD_eq_getElem?_getD,List.getElem?_eq_getElem h3] at h4;exact h4
       rw [ZE] at CT
       refine dI ?_
       (repeat first|revert hc|revert zn|revert zA|revert R|revert K);refine W (J2 (od xB) (od xA)) (AT hg h0 h1 h5 dG bA Lq CT h3 I2 iX @AW.aa) (J1 ?_)<;>unhygienic intros
       exact⟨_,by simp [h5],rfl,rfl⟩
     · have TS:¬0≤ix s.index (st s.index.length k0 m):=by omega
       refine dI ?_
       (repeat first|revert hc|revert zn|revert zA|revert R|revert K);refine W (J2 (od xB) (od xA)) (w8 hg h0 h1 h5 dG bA TS I2 iX @AW.aa) (J1 ?_)<;>unhygienic intros
       exact⟨_,by simp [h5],rfl,rfl⟩
set_option maxHeartbeats 1000000 in
theorem EH (b:Nat) (va vv vi:Value) (s:nK) (a:Int) (A:AW) (ko:lV s) (ha:0≤a) (DO:s.ew≤32) (OA:s.index.length≤64) (hg:A.bR b=some (jA s.ew va vv vi))
 (OH:dB A .i64 va s.bU) (OF:dB A .u64 vv s.ey) (OG:dB A .i64 vi s.index) :
 eF 174 [.pointer (some ⟨b,0,none⟩),.int .i64 a] A (.tuple #[.int .u64 (jo s a).1,.bool (jo s a).2]):=by
 refine ab Tryz.func174 rfl (by kernel_rfl) fun _=>?_
 obtain⟨p,hp,Sc,qG⟩:=wy b va vv vi s a A ko ha DO OA hg OH OG
 dsimp only [jA] at hg
 have Q2:¬a<0:=by omega
 obtain⟨oi,ci,rfl,_⟩:=OG.dJ
 obtain⟨ov,cv,rfl,_⟩:=OF.dJ
 obtain⟨q,cK,rfl,dG,bA⟩:=OG.at hp
 have i8:s.index[p]=ix s.index p:=by unfold ix;rw [List.getD_eq_getElem?_getD,List.getElem?_eq_getElem hp];rfl
 rw [i8] at bA
 rcases Sc with ⟨e,Jd,he⟩|⟨Jd,he,_⟩
 · rw [he] at bA
   have h3:e<s.ey.length:=by rw [ko.Gy];exact(qc Jd).1
   obtain⟨qv,Pc,rfl,Lp,PX⟩:=OF.at h3
   have ig:jo s a=(s.ey[e],true):=by simp [jo,Jd,List.getElem?_eq_getElem h3]
   have Nb:¬(e:Int)<0:=by omega
   refine W (J2 (od HU) @qG) (w8 hg Q2 dG bA hp Nb Lp PX h3 @AW.aa) (J1 ?_)<;>unhygienic intros
   exact⟨_,rfl,by simp [ig],rfl⟩
 · have ig:jo s a=(0,false):=by simp [jo,Jd]
   (repeat first|revert hc|revert zn|revert zA|revert R|revert K);refine W (J2 (od HU) @qG) (J7 hg Q2 dG bA hp he @AW.aa) (J1 ?_)<;>unhygienic intros
   exact⟨_,rfl,by simp [ig],rfl⟩
end
section
namespace TClone
theorem jD [Gl] {A:AW} {L:List It} {T:Prop} (hS:ak A L) (hw:A.Wf) (h':(bg A L∧bB A L∧cj L)=T:=by first|(dsimp only [af,ag,bg,bB,cj,eA];done)|exact rfl):T:=h'▸hS.eu hw
end TClone
open TClone
variable [Gl]
theorem dB.wC {A:AW} {k:IntKind} {l:List Int} {n c:Nat} (h:dB A k (.slice none n c) l):l=[]:=by
 rcases h with ⟨_,h,_⟩|⟨p,c,cK,own,u,h,_⟩
 · exact List.eq_nil_of_length_eq_zero h
 · cases h
set_option maxHeartbeats 1000000 in
theorem js (v:Value) (l:List Int) (A:AW) (h:dB A .i64 v l) (hl:l.length<2^39) :
 aC Tryz.prog 122 [v] A (fun v' A'=>fe A.next A' .i64 v' l∧A.le A'):=by
 refine ab Tryz.func122 rfl (by kernel_rfl) fun hw=>?_
 obtain⟨o,c,rfl,_⟩:=h.dJ
 cases o with
 | none=>
   have:=h.wC
   subst this
   revert hw;refine W trivial trivial (J1 ?_)<;>unhygienic intros
   simpa using ⟨fe.nil _ _ _,AW.le.refl A⟩
 | some p=>
   have l0:=AW.le.alloc A (.cells [] true 1)
   have w0:=hw.alloc (.cells [] true 1)
   have h1:=h.le l0 hw
   have uu:fe A.next (A.alloc (.cells [] true 1)) .i64 (.slice (some ⟨A.next,0,none⟩) 0 0) []:=
    .inr ⟨⟨A.next,0,none⟩,0,[],rfl,Nat.le_refl _,rfl,Nat.le_refl _,AW.cW _ _,by simp,by simp⟩
   obtain⟨v',A',h2,h3,h4,h5,h6⟩:=wR (P:=Tryz.prog) (t:=23) Tryz.underlying23 Tryz.info3 Tryz.zero3 rfl rfl uu h1 (by simp;omega) (by simp) (by simp) w0
   revert hw;(repeat first|clear hw|revert hc|revert zn|revert zA|revert R|revert K);refine W trivial (J1 h2) (J1 ?_)<;>unhygienic intros
   simp
   exact⟨by simpa using h3,h4 A (Nat.le_refl _) l0⟩
set_option maxHeartbeats 1000000 in
theorem gw (v:Value) (l:List Int) (A:AW) (h:dB A .u64 v l) (hl:l.length<2^39) :
 aC Tryz.prog 61 [v] A (fun v' A'=>fe A.next A' .u64 v' l∧A.le A'):=by
 refine ab Tryz.func61 rfl (by kernel_rfl) fun hw=>?_
 obtain⟨o,c,rfl,_⟩:=h.dJ
 cases o with
 | none=>
   have:=h.wC
   subst this
   revert hw;refine W trivial trivial (J1 ?_)<;>unhygienic intros
   simpa using ⟨fe.nil _ _ _,AW.le.refl A⟩
 | some p=>
   have l0:=AW.le.alloc A (.cells [] true 1)
   have w0:=hw.alloc (.cells [] true 1)
   have h1:=h.le l0 hw
   have uu:fe A.next (A.alloc (.cells [] true 1)) .u64 (.slice (some ⟨A.next,0,none⟩) 0 0) []:=
    .inr ⟨⟨A.next,0,none⟩,0,[],rfl,Nat.le_refl _,rfl,Nat.le_refl _,AW.cW _ _,by simp,by simp⟩
   obtain⟨v',A',h2,h3,h4,h5,h6⟩:=wR (P:=Tryz.prog) (t:=58) Tryz.underlying58 Tryz.info45 Tryz.zero45 rfl rfl uu h1 (by simp;omega) (by simp) (by simp) w0
   revert hw;(repeat first|clear hw|revert hc|revert zn|revert zA|revert R|revert K);refine W trivial (J1 h2) (J1 ?_)<;>unhygienic intros
   simp
   exact⟨by simpa using h3,h4 A (Nat.le_refl _) l0⟩
end
end Go.Stx
