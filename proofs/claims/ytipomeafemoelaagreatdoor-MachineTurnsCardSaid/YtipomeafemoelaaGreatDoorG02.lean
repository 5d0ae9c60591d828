/-
 A redo log, without the program: entries in order, and an index by open addressing.
-/
import Derived.Test.YtipomeafemoelaaGreatDoorG01
import Derived.Test.YtipomeafemoelaaGreatDoorF3
set_option linter.unusedVariables false
set_option linter.unusedSimpArgs false
set_option linter.unusedSectionVars false
set_option maxRecDepth 20000
set_option maxHeartbeats 4000000
open Classical renaming byContradiction->kaB
open Go.IntKind renaming u64->qd
open Go.Lib renaming compact->Zl
open Go.Proofs.Tryz renaming mx->qj,prog->qa,underlying28->ZM
open Go.Stx.AW.le renaming alloc->qb
open List renaming getD_cons_succ->ZE,getD_cons_zero->ZK,getD_eq_getElem?_getD->ql,getElem?_cons_succ->ZC,getElem?_cons_zero->ZB,getElem?_eq_getElem->qk,getElem?_toArray->Zn,length_append->qm,length_cons->qI,length_nil->ZP,length_set->kac
open Nat renaming le_refl->qf,mod_eq_of_lt->kaZ
open Ne renaming symm->qh
open Option renaming bind_some->Zq,map_none->ZQ,map_some->qR
namespace Go.Stx
open Go Go.Proofs
attribute [local irreducible] TW bG c8 aY aD aO cK da
section
variable [Gl]
structure tA where
 eA:Nat
 bL:List Int
 fq:List Int
 index:List Int
def wM (l:List Int) (a:Int):Option Nat:=l.findIdx? (·== a)
def lJ (n:Nat) (a:Int):Nat:=(a.toNat % n*5) % n
def ix (index:List Int) (k:Nat):Int:=index.getD k (-1)
def DC (index:List Int):Nat->Nat->Nat
 | 0,k=>k
 | f+1,k=>if ix index k<0 then k else DC index f ((k+1) % index.length)
def A7 (index:List Int) (k:Nat):Nat:=DC index index.length k
def fM (s:tA) (a v:Int):Bool×tA:=match wM s.bL a with
 | some e=>(true,{ s with fq:=s.fq.set e v })
 | none=>if s.bL.length=s.eA then (false,s) else
   (true,{ s with bL:=s.bL++[a],fq:=s.fq++[v],index:=s.index.set (A7 s.index (lJ s.index.length a)) s.bL.length })
def ll (s:tA) (a:Int):Int×Bool:=match wM s.bL a with
 | some e=>(s.fq.getD e 0,true)
 | none=>(0,false)
theorem uZ {l:List Int} {a:Int} {e:Nat} (h:wM l a=some e):e<l.length/\l.getD e 0=a/\∀j,j<e->l.getD j 0≠a:=by
 unfold wM at h;rw [List.findIdx?_eq_some_iff_getElem] at h;obtain⟨h1,h2,h3⟩:=h;refine⟨h1,?_,λj hj=>?_⟩;rw [ql,qk h1];simpa using h2;have:=h3 j hj;rw [ql,qk (by omega)]
 simpa using this
theorem E9 {l:List Int} {a:Int} (h:wM l a=none):∀j,j<l.length->l.getD j 0≠a:=by
 unfold wM at h;rw [List.findIdx?_eq_none_iff] at h;intro j hj;have:=h l[j] (List.getElem_mem hj);rw [ql,qk hj]
 simpa using this
def wN (index:List Int):Nat:=index.countP (λx=>decide (0<=x))
def st (n k d:Nat):Nat:=(k+d) % n
structure oX (s:tA):Prop where
 Nf:s.fq.length=s.bL.length
 eA:s.bL.length<=s.eA
 R4:s.eA<s.index.length
 pos:∀a∈s.bL,0<=a
 rng:∀k,k<s.index.length->ix s.index k<s.bL.length
 fill:wN s.index=s.bL.length
 way:∀e,e<s.bL.length->∃d,d<s.index.length/\ix s.index (st s.index.length (lJ s.index.length (s.bL.getD e 0)) d)=e/\
  ∀d',d'<d->0<=ix s.index (st s.index.length (lJ s.index.length (s.bL.getD e 0)) d')/\ix s.index (st s.index.length (lJ s.index.length (s.bL.getD e 0)) d')≠e
 dist:∀i j,i<s.bL.length->j<s.bL.length->s.bL.getD i 0=s.bL.getD j 0->i=j
theorem LE {index:List Int} (h:∀k,k<index.length->0<=ix index k):wN index=index.length:=by
 unfold wN;rw [List.countP_eq_length];intro x hx;obtain⟨k,hk,rfl⟩:=List.getElem_of_mem hx;have:=h k hk;unfold ix at this;rw [ql,qk hk] at this
 simpa using this
theorem oX.mM {s:tA} (h:oX s):∃k,k<s.index.length/\ix s.index k<0:=by
 apply kaB;intro hn;have kv:∀k,k<s.index.length->0<=ix s.index k:=λk hk=>by
  apply kaB;intro h1;exact hn ⟨k,hk,by omega⟩
 have h1:=LE kv;have h2:=h.fill;have h3:=h.eA;have h4:=h.R4;omega
theorem Ig {n k d:Nat} (hn:0<n):st n ((k+1) % n) d=st n k (d+1):=by
 unfold st;rw [Nat.mod_add_mod];congr 1;omega
theorem Dn {n k:Nat} (hk:k<n):st n k 0=k:=by
 unfold st;rw [Nat.add_zero,kaZ hk]
theorem Cp {n k d:Nat} (hn:0<n):st n k d<n:=Nat.mod_lt _ hn
theorem RY {n k j:Nat} (hk:k<n) (hj:j<n):∃d,d<n/\st n k d=j:=by
 by_cases h:k<=j;exact⟨j-k,by omega,by unfold st;rw [show k+(j-k)=j by omega,kaZ hj]⟩;refine⟨n+j-k,by omega,?_⟩;unfold st;rw [show k+(n+j-k)=j+n by omega,Nat.add_mod_right,kaZ hj]
theorem oX.first {s:tA} (h:oX s) {k:Nat} (hk:k<s.index.length):∃d,d<s.index.length/\ix s.index (st s.index.length k d)<0/\∀d',d'<d->0<=ix s.index (st s.index.length k d'):=by
 obtain⟨j,hj,Lj⟩:=h.mM;obtain⟨d0,vF,he⟩:=RY hk hj;have key:∀n,(∃d,d<=n/\ix s.index (st s.index.length k d)<0)->∃d,d<=n/\ix s.index (st s.index.length k d)<0/\∀d',d'<d->0<=ix s.index (st s.index.length k d'):=by
  intro n
  induction n with
  | zero=>
    rintro ⟨d,hd,h1⟩;exact⟨d,hd,h1,λd' EY=>by omega⟩
  | succ n ih=>
    rintro ⟨d,hd,h1⟩;by_cases rO:∃d,d<=n/\ix s.index (st s.index.length k d)<0;obtain⟨d2,h2,h3⟩:=ih rO;exact⟨d2,by omega,h3⟩;refine⟨d,hd,h1,λd' EY=>?_⟩;apply kaB;intro h4;exact rO ⟨d',by omega,by omega⟩
 obtain⟨d,h1,h2,h3⟩:=key d0 ⟨d0,qf _,by rw [he];exact Lj⟩;exact⟨d,by omega,h2,h3⟩
theorem A8 (index:List Int):∀(f k d:Nat),k<index.length->d<=f->ix index (st index.length k d)<0->(∀d',d'<d->0<=ix index (st index.length k d'))->DC index f k=st index.length k d
 | 0,k,d,hk,hd,h1,h2=>by
   have:d=0:=by omega
   subst this;rw [Dn hk];rfl
 | f+1,k,d,hk,hd,h1,h2=>by
   unfold DC;cases d with
   | zero=>
     rw [Dn hk] at h1 ⊢;rw [aA h1]
   | succ d=>
     have h0:=h2 0 (by omega);rw [Dn hk] at h0;rw [aw (by omega)];have hn:0<index.length:=(by omega);rw [A8 index f ((k+1) % index.length) d (Nat.mod_lt _ hn) (by omega) (by rw [Ig hn];exact h1) (λd' EY=>by rw [Ig hn];exact h2 _ (by omega)),Ig hn]
theorem yy {s:tA} (h:oX s) {k d:Nat} (hk:k<s.index.length) (hd:d<s.index.length) (h1:ix s.index (st s.index.length k d)<0) (h2:∀d',d'<d->0<=ix s.index (st s.index.length k d')) :
 A7 s.index k=st s.index.length k d:=A8 _ _ _ _ hk (by omega) h1 h2
theorem E1 {n:Nat} (hn:0<n) (a:Int):lJ n a<n:=Nat.mod_lt _ hn
theorem EE {index:List Int} {p:Nat} (hp:p<index.length) (x:Int) (k:Nat):ix (index.set p x) k=if k=p then x else ix index k:=by
 unfold ix;by_cases e:k=p;subst e;rw [aA rfl,ql,List.getElem?_set_self hp];rfl;rw [aw e,ql,List.getElem?_set_ne (qh e),<-ql]
theorem Fa:∀{index:List Int} {p:Nat} (hp:p<index.length) {x:Int},0<=x->ix index p<0->wN (index.set p x)=wN index+1
 | [],p,hp,_,_,_=>by simp at hp
 | y::l,0,hp,x,hx,h=>by
   have h':y<0:=h;have e1:decide (0<=x)=true:=by simpa using hx
   have e2:decide (0<=y)=false:=(by simp;omega);simp [wN,List.countP_cons,e1,e2]
 | y::l,p+1,hp,x,hx,h=>by
   have:=Fa (index:=l) (p:=p) (by simpa using hp) hx h;simp only [wN,List.set_cons_succ,List.countP_cons] at this ⊢;omega
theorem Hx {s:tA} (h:oX s) {a:Int} (ha:0<=a) (v:Int):oX (fM s a v).2:=by
 unfold fM;split;exact⟨by simpa using h.Nf,h.eA,h.R4,h.pos,h.rng,h.fill,h.way,h.dist⟩;rename_i S6;split;exact h;rename_i IY;have hn:0<s.index.length:=by have:=h.R4;omega
 have hk:=E1 hn a;obtain⟨d,hd,h1,h2⟩:=h.first hk;have hp:=yy h hk hd h1 h2;have mO:st s.index.length (lJ s.index.length a) d<s.index.length:=Cp hn;have hcapl:=h.eA;have Bu:∀e,e<s.bL.length->(s.bL++[a]).getD e 0=s.bL.getD e 0:=λe he=>by
  rw [ql,List.getElem?_append_left he,<-ql]
 have hgn:(s.bL++[a]).getD s.bL.length 0=a:=by
  rw [ql,List.getElem?_append_right (qf _)];simp
 refine⟨by simp [h.Nf],by simp;omega,by simpa using h.R4,?_,?_,?_,?_,?_⟩;intro x hx;rw [List.mem_append] at hx;rcases hx with hx|hx;exact h.pos x hx;simp at hx;subst hx;exact ha;intro k jz;simp only [kac] at jz;simp only [hp,EE mO,qm,qI,ZP];split;omega;have:=h.rng k jz;omega;simp only [hp,qm,qI,ZP];rw [Fa mO (by omega) h1,h.fill];intro e he;simp only [qm,qI,ZP] at he;simp only [hp,kac];by_cases Th:e=s.bL.length;subst Th;rw [hgn];refine⟨d,hd,by rw [EE mO,aA rfl],λd' EY=>?_⟩;have Y3:=h2 d' EY;have gT:st s.index.length (lJ s.index.length a) d'≠st s.index.length (lJ s.index.length a) d:=λe=>by rw [e] at Y3;omega
 rw [EE mO,aw gT];refine⟨Y3,?_⟩;have:=h.rng _ (Cp (k:=lJ s.index.length a) (d:=d') hn);omega;have he':e<s.bL.length:=by omega
 rw [Bu e he'];obtain⟨d2,g1,g2,g3⟩:=h.way e he';refine⟨d2,g1,?_,λd' EY=>?_⟩;rw [EE mO,aw (λe2=>by rw [e2] at g2;omega)];exact g2;obtain⟨g4,g5⟩:=g3 d' EY;rw [EE mO,aw (λe2=>by rw [e2] at g4;omega)];exact⟨g4,g5⟩;intro i j hi hj he;simp only [qm,qI,ZP] at hi hj;have gT:=E9 S6;by_cases Bt:i<s.bL.length;by_cases yn:j<s.bL.length;rw [Bu i Bt,Bu j yn] at he;exact h.dist i j Bt yn he;have:j=s.bL.length:=by omega
 subst this;rw [Bu i Bt,hgn] at he;exact absurd he (gT i Bt);have:i=s.bL.length:=by omega
 subst this;by_cases yn:j<s.bL.length;rw [Bu j yn,hgn] at he;exact absurd he.symm (gT j yn);omega
theorem oX.probe {s:tA} (h:oX s) (a:Int):∃d,d<s.index.length/\
 (∀d',d'<d->0<=ix s.index (st s.index.length (lJ s.index.length a) d')/\s.bL.getD (ix s.index (st s.index.length (lJ s.index.length a) d')).toNat 0≠a)/\
 ((∃e,wM s.bL a=some e/\ix s.index (st s.index.length (lJ s.index.length a) d)=e) \/
   (wM s.bL a=none/\ix s.index (st s.index.length (lJ s.index.length a) d)<0/\A7 s.index (lJ s.index.length a)=st s.index.length (lJ s.index.length a) d)):=by
 have hn:0<s.index.length:=by have:=h.R4;omega
 have hk:=E1 hn a;cases hf:wM s.bL a with
 | some e=>
   obtain⟨f1,f2,f3⟩:=uZ hf;obtain⟨d,g1,g2,g3⟩:=h.way e f1;rw [f2] at g2 g3;refine⟨d,g1,λd' EY=>?_,.inl ⟨e,rfl,g2⟩⟩;obtain⟨g4,g5⟩:=g3 d' EY;refine⟨g4,λe2=>?_⟩;have hr:=h.rng _ (Cp (k:=lJ s.index.length a) (d:=d') hn);have:=h.dist (ix s.index (st s.index.length (lJ s.index.length a) d')).toNat e (by omega) f1 (by rw [e2,f2]);omega
 | none=>
   have gT:=E9 hf;obtain⟨d,g1,g2,g3⟩:=h.first hk;refine⟨d,g1,λd' EY=>⟨g3 d' EY,?_⟩,.inr ⟨rfl,g2,yy h hk g1 g2 g3⟩⟩;have hr:=h.rng _ (Cp (k:=lJ s.index.length a) (d:=d') hn);have:=g3 d' EY;exact gT _ (by omega)
end
section
open T6
variable [Gl]
def lD (eA:Nat) (va vv vi:Value):dQ:=.cells [.int .i64 eA,va,vv,vi] true 1
end
section
open T7
variable [Gl]
theorem ah.OI {A:AW} {L K:List It} {k:IntKind} {v:Value} {l:List Int} (h:ah A L) (hp:aE L (.h (av k v l)) K) {j:Nat} (hj:j<l.length) :
 ∃b off c b8,v=.slice (some ⟨b,off,none⟩) l.length c/\off+l.length<=b8.length/\b8[off+j]? = some (.int k (l.getD j 0))/\
  (∀y A' K',ah A' (.at b (.cells (b8.set (off+j) (.int k y)) true 1)::K')->ah A' (.h (av k v (l.set j y))::K'))/\ah A (.at b (.cells b8 true 1)::K):=by
 have h1:bB A (av k v l*aM K):=by
  have h0:=h;unfold ah at h0;rw [hp.aM] at h0;exact h0
 rcases dv.cases h1 with ⟨_,h0,_⟩|⟨b,off,c,b8,rfl,h2,h3,h4,h5⟩;omega;rw [Nat.mul_one] at h3 h4;refine⟨b,off,c,b8,rfl,h3,?_,λy A' K' hh=>av.mk (by simp) (by simpa using h2) (by simpa using h3) ?_ hh,h5⟩;have:b8[off+j]? = (l.map (Value.int k))[j]?:=by rw [h4,List.getElem?_take_of_lt hj,List.getElem?_drop]
 rw [this,List.getElem?_map,qk hj,ql,qk hj];rfl;rw [List.map_set,h4,List.drop_set,aw (by omega),show off+j-off=j by omega,kac,List.take_set]
def rf (b:Nat) (s:tA):HP:=rO λva:Value=>rO λvv:Value=>rO λvi:Value=>pt b (lD s.eA va vv vi)*(av .i64 va s.bL*(av .u64 vv s.fq*av .i64 vi s.index))
theorem rf.open {A:AW} {L K:List It} {b:Nat} {s:tA} (h:ah A L) (hp:aE L (.h (rf b s)) K) :
 ∃va vv vi,ah A (.at b (lD s.eA va vv vi)::.h (av .i64 va s.bL)::.h (av .u64 vv s.fq)::.h (av .i64 vi s.index)::K):=by
 unfold ah at h;rw [hp.aM] at h;have h1:bB A (rf b s*aM K):=h;unfold rf at h1;rw [bB.ex] at h1;obtain⟨va,h1⟩:=h1;rw [bB.ex] at h1;obtain⟨vv,h1⟩:=h1;rw [bB.ex] at h1;obtain⟨vi,h1⟩:=h1;exact⟨va,vv,vi,h1.dZ (by show _=pt b _*(av .i64 va s.bL*(av .u64 vv s.fq*(av .i64 vi s.index*aM K)));ac_rfl)⟩
theorem rf.dP {A:AW} {L K:List It} {b:Nat} {s:tA} {va vv vi:Value} (h:ah A L) (hp:aX L [.at b (lD s.eA va vv vi),.h (av .i64 va s.bL),.h (av .u64 vv s.fq),.h (av .i64 vi s.index)] K):ah A (.h (rf b s)::K):=by
 unfold ah at h;rw [hp.aM] at h;show bB A (rf b s*aM K);unfold rf;rw [bB.ex];refine⟨va,?_⟩;rw [bB.ex];refine⟨vv,?_⟩;rw [bB.ex];exact⟨vi,h.dZ (by show pt b _*(av .i64 va s.bL*(av .u64 vv s.fq*(av .i64 vi s.index*eZ)))*aM K=_;rw [dO])⟩
theorem DT {a:Int} {n:Nat} (ha:0<=a):a.tmod (n:Int)=((a.toNat % n:Nat):Int):=by
 rw [Int.tmod_eq_emod_of_nonneg ha,Int.natCast_emod,Int.toNat_of_nonneg ha]
theorem QD {n:Nat} (hn:0<n) (AK:n<=64) {a:Int} (ha:0<=a):(IntKind.i64.wrap (a.tmod (n:Int)*5)).tmod (n:Int)=(lJ n a:Int):=by
 have h1:a.toNat % n<n:=Nat.mod_lt _ hn;rw [DT ha];generalize he:a.toNat % n=r at h1;rw [ar (x:=(r:Int)*5) (by omega) (by omega),DT (by omega)];have h2:((r:Int)*5).toNat=r*5:=by omega
 rw [h2];unfold lJ;rw [he]
theorem U1 {n k:Nat} (hn:0<n) (AK:n<=64) (m:Nat):(((st n k m:Nat):Int)+1).tmod (n:Int)=((st n k (m+1):Nat):Int):=by
 have h1:=Cp (k:=k) (d:=m) hn;have h2:=Cp (k:=k) (d:=m+1) hn;rw [DT (by omega)];have h3:(((st n k m:Nat):Int)+1).toNat=st n k m+1:=by omega
 have h4:(st n k m+1) % n=st n k (m+1):=by unfold st;rw [Nat.mod_add_mod];rfl
 rw [h3,h4]
end
section
abbrev Dx:List (Nat×Nat):=[(0,0),(1,0),(2,0),(3,0),(4,0),(5,0),(6,0),(7,0),(8,0),(9,0),(10,0),(11,0),(12,0),(13,0),(14,0)]
abbrev Dw:List (Nat×Nat):=[(0,0),(1,0),(2,0),(3,0),(4,0),(5,0),(6,0),(7,0),(8,0),(9,0),(10,0),(11,0),(12,0),(13,0),(14,0),(15,0),(16,0),(17,0),(18,0),(19,0),(20,0),(21,0),(22,0),(23,0),(24,0)]
abbrev OS:List (Nat×Nat):=[(0,0),(1,0),(2,0),(3,0),(4,0),(5,0),(6,2),(7,0),(8,0),(9,0)]
open T7
variable [Gl]
theorem Cx (b:Nat) (va vv vi:Value) (s:tA) (a:Int) (A:AW) (mv:oX s) (ha:0<=a) (AP:s.eA<=32) (Pc:s.index.length<=64) (hg:A.bp b=some (lD s.eA va vv vi))
 (Xs:cd A .i64 va s.bL) (Xr:cd A .i64 vi s.index) :
 ∃p,p<s.index.length/\((∃e,wM s.bL a=some e/\ix s.index p=e)\/(wM s.bL a=none/\ix s.index p<0/\A7 s.index (lJ s.index.length a)=p))/\
  fh 209 [.pointer (some ⟨b,0,none⟩),.int .i64 a] A (.int .i64 p):=by
 obtain⟨d,hd,hway,pW⟩:=mv.probe a;have hn:0<s.index.length:=by omega
 refine⟨_,Cp hn,pW,?_⟩;refine aN Tryz.func209 λ_=>?_;obtain⟨oa,ca,rfl,_⟩:=Xs.cy;obtain⟨oi,ci,rfl,_⟩:=Xr.cy;dsimp only [lD] at hg;have hk:=QD (n:=s.index.length) hn Pc ha;have VK:=E1 hn a;generalize lJ s.index.length a=k0 at *;have gT:¬s.index=[]:=λe=>by rw [e] at hn;simp at hn
 have bX:s.bL.length<=32:=Nat.le_trans mv.eA AP;refine W (J2 (od Dx) (od Dw)) (J4 hg hk gT @AW.ab) ?_<;>(unhygienic intros);refine ef (λk fr A'=>A=A'/\∃m:Nat,k=d-m/\m<=d/\fr 0=.pointer (some ⟨b,0,none⟩)/\fr 1=.int .i64 a/\fr 5=.int .i64 (st s.index.length k0 m)) d ?_ ?_;refine⟨rfl,0,by simp,by simp,rfl,rfl,by simp [Dn VK]⟩;rintro k fr A' ⟨rfl,m,rfl,hm,h0,h1,h5⟩;have dy:=U1 (n:=s.index.length) (k:=k0) hn Pc m;have JL:=Cp (k:=k0) (d:=m) hn;obtain⟨p,b8,rfl,bV,hcell⟩:=Xr.at JL;have kJ:s.index[st s.index.length k0 m]=ix s.index (st s.index.length k0 m):=by unfold ix;rw [ql,qk JL];rfl
 rw [kJ] at hcell;have YJ:=mv.rng _ JL;by_cases cD:m<d;obtain⟨Y3,hnea⟩:=hway m cD;obtain⟨x,hx⟩:∃x:Nat,ix s.index (st s.index.length k0 m)=x:=⟨(ix s.index (st s.index.length k0 m)).toNat,by omega⟩;rw [hx] at hcell hnea YJ;have hxl:x<s.bL.length:=by omega
 obtain⟨pa,rowa,rfl,SW,IX⟩:=Xs.at hxl;have hnea':¬s.bL[x]=a:=by
  intro e;apply hnea;rw [Int.toNat_natCast,ql,qk hxl];exact e
 generalize s.bL[x]=y at *;refine ba ?_;refine W (J2 (od Dx) (od Dw)) (xY hg h0 h1 h5 bV hcell SW IX hxl hnea' JL dy gT @AW.ab) ?_<;>intros;refine⟨d-(m+1),by omega,rfl,m+1,rfl,by omega,?_,?_,?_⟩;simp [h0];simp [h1];simp;obtain rfl:m=d:=by omega
 rcases pW with ⟨e,Qz,he⟩|⟨Qz,he,_⟩;obtain⟨h3,h4,_⟩:=uZ Qz;rw [he] at hcell;obtain⟨pa,rowa,rfl,SW,IX⟩:=Xs.at h3;have h5':s.bL[e]=a:=by
  rw [ql,qk h3] at h4;exact h4
 rw [h5'] at IX;refine ba ?_;refine W (J2 (od Dx) (od Dw)) (xe hg h0 h1 h5 bV hcell SW IX h3 JL gT @AW.ab) ?_<;>intros;exact⟨_,by simp [h5],rfl,rfl⟩;have he':¬0<=ix s.index (st s.index.length k0 m):=by omega
 refine ba ?_;refine W (J2 (od Dx) (od Dw)) (DM hg h0 h1 h5 bV hcell he' JL gT @AW.ab) ?_<;>intros;exact⟨_,by simp [h5],rfl,rfl⟩
theorem KR (b:Nat) (va vv vi:Value) (s:tA) (a:Int) (A:AW) (mv:oX s) (ha:0<=a) (AP:s.eA<=32) (Pc:s.index.length<=64) (hg:A.bp b=some (lD s.eA va vv vi))
 (Xs:cd A .i64 va s.bL) (Xq:cd A .u64 vv s.fq) (Xr:cd A .i64 vi s.index) :
 fh 142 [.pointer (some ⟨b,0,none⟩),.int .i64 a] A (.tuple #[.int .u64 (ll s a).1,.bool (ll s a).2]):=by
 refine aN Tryz.func142 λ_=>?_;obtain⟨p,hp,hcase,mO⟩:=Cx b va vv vi s a A mv ha AP Pc hg Xs Xr;dsimp only [lD] at hg;have ha':¬a<0:=by omega
 obtain⟨oi,ci,rfl,_⟩:=Xr.cy;obtain⟨ov,cv,rfl,_⟩:=Xq.cy;obtain⟨q,b8,rfl,bV,hcell⟩:=Xr.at hp;have kJ:s.index[p]=ix s.index p:=by unfold ix;rw [ql,qk hp];rfl
 rw [kJ] at hcell;rcases hcase with ⟨e,Qz,he⟩|⟨Qz,he,_⟩;rw [he] at hcell;have h3:e<s.fq.length:=by rw [mv.Nf];exact(uZ Qz).1
 obtain⟨qv,X2,rfl,SV,Y8⟩:=Xq.at h3;have jF:ll s a=(s.fq[e],true):=by simp [ll,Qz,qk h3]
 have VE:¬(e:Int)<0:=by omega
 refine W (J2 (od OS) @mO) (DM hg ha' bV hcell hp VE SV Y8 h3 @AW.ab) ?_<;>intros;exact⟨_,rfl,by simp [jF],rfl⟩;have jF:ll s a=(0,false):=by simp [ll,Qz]
 refine W (J2 (od OS) @mO) (J7 hg ha' bV hcell hp he @AW.ab) ?_<;>intros;exact⟨_,rfl,by simp [jF],rfl⟩
end
section
namespace TClone
theorem mK [Gl] {A:AW} {L:List It} {T:Prop} (hS:ah A L) (hw:A.Wf) (h':(aV A L/\bq A L/\bQ L)=T:=by first|(dsimp only [aa,af,aV,bq,bQ,eQ];done)|exact rfl):T:=h'▸hS.eJ hw
end TClone
open TClone
variable [Gl]
theorem cd.CB {A:AW} {k:IntKind} {l:List Int} {n c:Nat} (h:cd A k (.slice none n c) l):l=[]:=by
 rcases h with ⟨_,h,_⟩|⟨p,c,b8,own,u,h,_⟩;exact List.eq_nil_of_length_eq_zero h;cases h
theorem jH (v:Value) (l:List Int) (A:AW) (h:cd A .i64 v l) (hl:l.length<2^39) :
 aD qa 46 [v] A (λv' A'=>fk A.next A' .i64 v' l/\A.le A'):=by
 refine aN Tryz.func46 λhw=>?_;obtain⟨o,c,rfl,_⟩:=h.cy;cases o with
 | none=>
   have:=h.CB;subst this;refine W cF cF ?_<;>intros
   simpa using ⟨fk.nil _ _ _,AW.le.refl A⟩
 | some p=>
   have l0:=qb A (.cells [] true 1);have w0:=hw.alloc (.cells [] true 1);have h1:=h.le l0 hw
   have jy:fk A.next (A.alloc (.cells [] true 1)) .i64 (.slice (some ⟨A.next,0,none⟩) 0 0) []:=
    .inr ⟨⟨A.next,0,none⟩,0,[],rfl,qf _,rfl,qf _,AW.bY _ _,by simp,by simp⟩
   obtain⟨v',A',h2,h3,h4,h5,h6⟩:=CU (P:=qa) (t:=24) Tryz.underlying24 Tryz.info3 Tryz.zero3 rfl rfl jy h1 (by simp;omega) (by simp) (by simp) w0;refine W cF (J1 h2) ?_<;>intros;simp;exact⟨by simpa using h3,h4 A (qf _) l0⟩
theorem i7 (v:Value) (l:List Int) (A:AW) (h:cd A .u64 v l) (hl:l.length<2^39) :
 aD qa 59 [v] A (λv' A'=>fk A.next A' .u64 v' l/\A.le A'):=by
 refine aN Tryz.func59 λhw=>?_;obtain⟨o,c,rfl,_⟩:=h.cy;cases o with
 | none=>
   have:=h.CB;subst this;refine W cF cF ?_<;>intros
   simpa using ⟨fk.nil _ _ _,AW.le.refl A⟩
 | some p=>
   have l0:=qb A (.cells [] true 1);have w0:=hw.alloc (.cells [] true 1);have h1:=h.le l0 hw
   have jy:fk A.next (A.alloc (.cells [] true 1)) .u64 (.slice (some ⟨A.next,0,none⟩) 0 0) []:=
    .inr ⟨⟨A.next,0,none⟩,0,[],rfl,qf _,rfl,qf _,AW.bY _ _,by simp,by simp⟩
   obtain⟨v',A',h2,h3,h4,h5,h6⟩:=CU (P:=qa) (t:=28) ZM Tryz.info35 Tryz.zero35 rfl rfl jy h1 (by simp;omega) (by simp) (by simp) w0;refine W cF (J1 h2) ?_<;>intros;simp;exact⟨by simpa using h3,h4 A (qf _) l0⟩
end
section
open T7
variable [Gl]
theorem Ij (b eA:Nat) (v:Value) (l:List Int) (A:AW) (hg:A.bp b=some (wg eA v)) (h:cd A .i64 v l) (hl:l.length<2^39) :
 aD qa 186 [.pointer (some ⟨b,0,none⟩)] A (λu A'=>fk A.next A' .i64 u l/\A.le A'):=by
 refine aN Tryz.func186 λ_=>?_;dsimp only [wg] at hg;refine W cF (J2 hg @AW.ab) ?_<;>(unhygienic intros);refine bO (jH v l A h hl) ?_;rintro u A1 ⟨h1,h2⟩ jx _;refine W cF cF ?_<;>intros;exact⟨_,rfl,h1,h2⟩
theorem GA (b eA:Nat) (va vv vi:Value) (l:List Int) (A:AW) (hg:A.bp b=some (lD eA va vv vi)) (h:cd A .i64 va l) (hl:l.length<2^39) :
 aD qa 130 [.pointer (some ⟨b,0,none⟩)] A (λu A'=>fk A.next A' .i64 u l/\A.le A'):=by
 refine aN Tryz.func130 λ_=>?_;dsimp only [lD] at hg;refine W cF (J2 hg @AW.ab) ?_<;>(unhygienic intros);refine bO (jH va l A h hl) ?_;rintro u A1 ⟨h1,h2⟩ jx _;refine W cF cF ?_<;>intros;exact⟨_,rfl,h1,h2⟩
theorem EB (b eA:Nat) (va vv vi:Value) (l:List Int) (A:AW) (hg:A.bp b=some (lD eA va vv vi)) (h:cd A .u64 vv l) (hl:l.length<2^39) :
 aD qa 194 [.pointer (some ⟨b,0,none⟩)] A (λu A'=>fk A.next A' .u64 u l/\A.le A'):=by
 refine aN Tryz.func194 λ_=>?_;dsimp only [lD] at hg;refine W cF (J2 hg @AW.ab) ?_<;>(unhygienic intros);refine bO (i7 vv l A h hl) ?_;rintro u A1 ⟨h1,h2⟩ jx _;refine W cF cF ?_<;>intros;exact⟨_,rfl,h1,h2⟩
theorem KQ (b eA:Nat) (o:Option Addr) (n c:Nat) (vv vi:Value) (A:AW) (hg:A.bp b=some (lD eA (.slice o n c) vv vi)) :
 fh 238 [.pointer (some ⟨b,0,none⟩)] A (.int .i64 n):=by
 refine aN Tryz.func238 λ_=>?_;dsimp only [lD] at hg;refine W cF (J2 hg @AW.ab) ?_<;>intros;exact⟨_,rfl,rfl,rfl⟩
theorem KL (v:Value) (l:List Int) (rv:Int) (A:AW) (F:HP) (h:cd A .i64 v l) (hl:l.length<2^38) (hw:A.Wf) (hS:bB A F) :
 aD qa 185 [v,.int .i64 rv] A (λu A'=>∃b,u=.pointer (some ⟨b,0,none⟩)/\bB A' (jI b ⟨l,rv,false⟩*F)/\A.le A'):=by
 refine aN Tryz.func185 λ_=>?_;revert hS hw;refine W cF cF ?_<;>(unhygienic intros);refine bO (jH v l A h (by omega)) ?_;rintro u A1 ⟨h1,h2⟩ jx _;obtain⟨o1,c1,rfl,_⟩:=h1.is.cy;revert hS hw;(repeat first|clear hS|clear hw|revert hc|revert R|revert K);refine W cF cF ?_<;>(unhygienic intros);refine⟨_,by first|(simp;done)|(simp;rfl),A1.next,rfl,?_,h2.trans (qb _ _)⟩;have iY:=(av.iB hS hw h2 h1).alloc jx (.cells [.slice o1 l.length c1,.int .i64 rv,.bool false] true 1);unfold jI;rw [bB.ex];exact⟨.slice o1 l.length c1,iY.dZ (by show _=pt A1.next (.cells [.slice o1 l.length c1,.int .i64 rv,.bool false] true 1)*av .i64 (.slice o1 l.length c1) l*F;rw [HP.cQ])⟩
end
section
abbrev Sn:List (Nat×Nat):=[(0,0),(1,0),(2,0),(3,0),(4,0),(5,0),(6,0),(7,0),(8,0),(9,0),(10,0),(11,0)]
abbrev rK:List (Nat×Nat):=[(0,0),(1,0),(2,0),(3,0),(4,0),(5,0),(6,0),(7,0),(8,0),(9,0),(10,0),(11,0),(12,3),(13,0),(14,0),(15,0),(16,3)]
abbrev rJ:List (Nat×Nat):=[(0,0),(1,0),(2,0),(3,0),(4,0),(5,0),(6,2),(7,0),(8,0),(9,0),(10,3),(11,0),(12,0),(13,3)]
abbrev rI:List (Nat×Nat):=[(0,0),(1,0),(2,0),(3,0),(4,0),(5,0),(6,0),(7,0),(8,0),(9,0),(10,0),(11,0),(12,0),(13,0),(14,0),(15,0),(16,0),(17,0),(18,0),(19,0),(20,0),(21,0),(22,0),(23,0),(24,0),(25,0),(26,0),(27,3),(28,0),(29,0),(30,0),(31,3)]
abbrev tV:List (Nat×Nat):=[(0,0),(1,0),(2,0),(3,0),(4,0),(5,0),(6,0),(7,0),(8,0),(9,2),(10,3),(11,0),(12,0),(13,3)]
open T7
variable [Gl]
structure ik where
 aj:Int
 ao:List Int
 dT:List Int
 dF:Int
 fH:Bool
def ik.done (s:ik):Bool:=decide (s.dT.length=s.ao.length)
def iy (b:Nat) (s:ik):HP:=rO λvo:Value=>rO λvw:Value=>
 pt b (.cells [.int .i64 s.aj,vo,vw,.int .u64 s.dF,.bool s.fH] true 1)*(av .i64 vo s.ao*av .u64 vw s.dT)
theorem iy.open {A:AW} {b:Nat} {s:ik} {F:HP} (h:bB A (iy b s*F)) :
 ∃vo vw,bB A (pt b (.cells [.int .i64 s.aj,vo,vw,.int .u64 s.dF,.bool s.fH] true 1)*(av .i64 vo s.ao*(av .u64 vw s.dT*F))):=by
 unfold iy at h;rw [bB.ex] at h;obtain⟨vo,h⟩:=h;rw [bB.ex] at h;obtain⟨vw,h⟩:=h;exact⟨vo,vw,h.dZ (by ac_rfl)⟩
theorem iy.dP {A:AW} {b:Nat} {s:ik} {F:HP} {vo vw:Value} (h:bB A (pt b (.cells [.int .i64 s.aj,vo,vw,.int .u64 s.dF,.bool s.fH] true 1)*(av .i64 vo s.ao*(av .u64 vw s.dT*F)))) :
 bB A (iy b s*F):=by
 unfold iy;rw [bB.ex];refine⟨vo,?_⟩;rw [bB.ex];exact⟨vw,h.dZ (by ac_rfl)⟩
theorem oJ (b:Nat) (s:ik) (A:AW) (F:HP) (h:bB A (iy b s*F)) :
 aD qa 181 [.pointer (some ⟨b,0,none⟩)] A (λv A'=>v=.bool s.done/\A=A'):=by
 refine aN Tryz.func181 λhw=>?_;obtain⟨vo,vw,hS⟩:=iy.open h;obtain⟨oo,co,rfl,_⟩:=(av.is hS.right).cy;obtain⟨ow,cw,rfl,_⟩:=(av.is hS.right.right).cy;have hg:=hS.bp;refine W (J1 (od Sn)) (J2 hg @AW.ab) ?_<;>intros;simp [ik.done];omega
def dK (s:ik):Int:=s.ao.getD s.dT.length 0
def ia (s:ik):Int:=qd.wrap (qd.wrap (s.dF+qd.wrap s.aj)+1)
def dW (s:ik) (M:Nat->List Int):aZ×ik×(Nat->List Int):=
 if s.done=true then (aZ.zero,s,M)
 else if s.fH=false then
  let a:=eU M 1 2 (dK s) kE
  (a,{ s with dF:=a.fi,fH:=decide (ng a.fi<0) },M)
 else
  let a:=eU M 3 2 (dK s) (jW s.dF (ia s))
  (a,{ s with fH:=false,dT:=if a.done=true then s.dT++[s.dF] else s.dT },kX M 2 (dK s) (jW s.dF (ia s)))
theorem GB (b pb:Nat) (s:ik) (M:Nat->List Int) (bX:s.dT.length<=s.ao.length) (Qw:s.ao.length<2^38) :
 pJ qa 180 [.pointer (some ⟨b,0,none⟩),.pointer (some ⟨pb,0,none⟩)] (iy b s*eG pb M)
  (λv=>De (v=(dW s M).1.v)*(iy b (dW s M).2.1*eG pb (dW s M).2.2)):=by
 intro A F hw dA;refine aN Tryz.func180 λ_=>?_;rw [HP.cQ] at dA;have iY:=((dA.alloc hw (.cells bk true 1)).alloc (hw.alloc _) (.cells bk true 1));have kZ:bB ((A.alloc (.cells bk true 1)).alloc (.cells bk true 1)) (iy b s*(eG pb M*(pt (A.next+1) (.cells bk true 1)*(pt A.next (.cells bk true 1)*F)))):=iY.dZ (by simp only [AW.bd];ac_rfl);by_cases lI:s.done=true;revert hw;refine W (J5 (od rK) (od rJ) (od rI) (od tV) (oJ b s _ _ kZ)) (J3 lI bE @bk.eq_1) ?_<;>(unhygienic intros);have dy:dW s M=(aZ.zero,s,M):=by unfold dW;rw [aA lI]
 rw [dy];refine⟨_,by simp [AW.dt,AW.df,AW.ab,aG];rfl,bB.post (by simp [aZ.v,aZ.zero]) ?_⟩;rw [HP.cQ];exact dA.le hw ((((qb A _).trans (qb _ _)).set (qf _) _));have Tl:s.done=false:=by simpa using lI
 have cD:s.dT.length<s.ao.length:=by
  have:¬s.dT.length=s.ao.length:=by simpa [ik.done] using lI
  omega
 have iC:(s.dT.length:Int)<s.ao.length:=by omega
 obtain⟨vo,vw,yr⟩:=iy.open dA;have hg:=yr.bp;have hSo:bB A (av .i64 vo s.ao*(pt b (.cells [.int .i64 s.aj,vo,vw,.int .u64 s.dF,.bool s.fH] true 1)*(av .u64 vw s.dT*(eG pb M*F)))):=yr.dZ (by ac_rfl);obtain⟨bo,off,c,b8,rfl,_,Bu,pX,_,_⟩:=av.at hSo cD;obtain⟨ow,cw,rfl,_⟩:=(av.is yr.right.right).cy;obtain⟨nb,WT⟩:=hw.dT hg;obtain⟨no,no'⟩:=hw.dT Bu;have Y1:s.ao[s.dT.length]=dK s:=by unfold dK;rw [ql,qk cD];rfl
 rw [Y1] at pX;cases IU:s.fH
 . rw [IU] at hg;revert hw;(repeat first|clear hw|revert hc|revert R|revert K);refine W (J5 (od rK) (od rJ) (od rI) (od tV) (oJ b s _ _ kZ)) (xe Tl hg Bu pX nb WT no no' cD iC bE @bk.eq_1) ?_<;>(unhygienic intros);have zl:bB _ (eG pb M*(iy b s*(pt (A.next+1) (.cells bk true 1)*(pt A.next (.cells bk true 1)*F)))):=kZ.dZ (by ac_rfl);refine(KO pb M 2 (dK s)).use ((hw.alloc _).alloc _) zl rfl ?_;intro v A2 AQ kc AK;obtain⟨rfl,zO⟩:=AQ.rt;clear AQ;have dy:dW s M=(eU M 1 2 (dK s) kE,{ s with dF:=(eU M 1 2 (dK s) kE).fi,fH:=decide (ng (eU M 1 2 (dK s) kE).fi<0) },M):=by
    unfold dW;rw [aw lI,aA IU]
   generalize eU M 1 2 (dK s) kE=a at dy zO ⊢;have Ty:bB A2 (iy b s*(pt (A.next+1) (.cells bk true 1)*(pt A.next (.cells bk true 1)*(eG pb M*F)))):=zO.dZ (by ac_rfl);obtain⟨Cm,xZ,Tx⟩:=iy.open Ty;have DA:bB A2 (pt b (.cells [.int .i64 s.aj,Cm,xZ,.int .u64 s.dF,.bool s.fH] true 1)*(pt (A.next+1) (.cells bk true 1)*(pt A.next (.cells bk true 1)*(av .i64 Cm s.ao*(av .u64 xZ s.dT*(eG pb M*F)))))):=Tx.dZ (by ac_rfl);have yp:=DA.bp;have BV:=DA.right.bp;have Bv:=DA.right.right.bp;have n1:=DA.ne;have n2:=DA.Yn;have n3:=DA.right.ne;refine W (J5 (od rK) (od rJ) (od rI) (od tV) @Ak) (mB yp BV Bv n1 n2 n3 IU (qh n1) (qh n2) (qh n3) bE @bk.eq_1 @aZ.v.eq_1) ?_<;>intros;refine⟨_,by simp [AW.dt,AW.df,AW.ab,aG];rfl,bB.post (by rw [dy];simp [aZ.v]) ?_⟩;rw [dy,HP.cQ];refine iy.dP (vo:=Cm) (vw:=xZ) (bB.LD DA (by simp [AW.df,n1,n2]) (λj x h1 h2 h3 hx=>?_));simp [AW.df,h1,h2,h3,hx]
 rw [IU] at hg;revert hw;(repeat first|clear hw|revert hc|revert R|revert K);refine W (J5 (od rK) (od rJ) (od rI) (od tV) (oJ b s _ _ kZ)) (xe Tl hg Bu pX nb WT no no' cD iC bE @bk.eq_1) ?_<;>(unhygienic intros);have zl:bB _ (eG pb M*(iy b s*(pt (A.next+1) (.cells bk true 1)*(pt A.next (.cells bk true 1)*F)))):=kZ.dZ (by ac_rfl);refine(KN pb M 2 (dK s) _ _).use ((hw.alloc _).alloc _) zl rfl ?_;intro v A2 AQ kc AK;obtain⟨rfl,zO⟩:=AQ.rt;clear AQ;have dy:dW s M=(eU M 3 2 (dK s) (jW s.dF (ia s)),{ s with fH:=false,dT:=if (eU M 3 2 (dK s) (jW s.dF (ia s))).done=true then s.dT++[s.dF] else s.dT },kX M 2 (dK s) (jW s.dF (ia s))):=by
  unfold dW;rw [aw lI,aw (by simp [IU])]
 have tg:qd.wrap (qd.wrap (s.dF+qd.wrap s.aj)+1)=ia s:=rfl;rw [tg] at zO ⊢;generalize eU M 3 2 (dK s) (jW s.dF (ia s))=a at dy zO ⊢;generalize kX M 2 (dK s) (jW s.dF (ia s))=M' at dy zO;have Ty:bB A2 (iy b s*(pt (A.next+1) (.cells bk true 1)*(pt A.next (.cells bk true 1)*(eG pb M'*F)))):=zO.dZ (by ac_rfl);obtain⟨Cm,xZ,Tx⟩:=iy.open Ty;have DA:bB A2 (pt b (.cells [.int .i64 s.aj,Cm,xZ,.int .u64 s.dF,.bool s.fH] true 1)*(pt (A.next+1) (.cells bk true 1)*(pt A.next (.cells bk true 1)*(av .i64 Cm s.ao*(av .u64 xZ s.dT*(eG pb M'*F)))))):=Tx.dZ (by ac_rfl);have yp:=DA.bp;have BV:=DA.right.bp;have Bv:=DA.right.right.bp;have n1:=DA.ne;have n2:=DA.Yn;have n3:=DA.right.ne;cases lQ:a.done;refine W (J4 (od rK) (od rJ) (od rI) (od tV)) (xY yp BV Bv n1 n2 n3 IU lQ (qh n1) (qh n2) (qh n3) bE @bk.eq_1 @aZ.v.eq_1) ?_<;>intros;refine⟨_,by simp [AW.dt,AW.df,AW.ab,aG];rfl,bB.post (by rw [dy];simp [aZ.v,lQ]) ?_⟩
 rw [dy,HP.cQ];simp only [lQ,Bool.false_eq_true,if_false];refine iy.dP (vo:=Cm) (vw:=xZ) (bB.LD DA (by simp [AW.df,n1,n2]) (λj x h1 h2 h3 hx=>?_));simp [AW.df,h1,h2,h3,hx];revert hw;(repeat first|clear hw|revert hc|revert R|revert K);refine W (J3 (od rK) (od rJ) (od rI)) (xY yp BV Bv n1 n2 n3 IU lQ (qh n1) (qh n2) (qh n3) bE @bk.eq_1 @aZ.v.eq_1) ?_<;>(unhygienic intros);refine Je (λA3=>A3.Wf/\bB A3 (pt b (.cells [.int .i64 s.aj,Cm,xZ,.int .u64 s.dF,.bool false] true 1)*(pt (A.next+1) (.cells a.cells true 1)*(pt A.next (.cells bk true 1)*(av .i64 Cm s.ao*(av .u64 xZ s.dT*(eG pb M'*F))))))) ?_ ?_;refine⟨(kc.set _ (kc.lt BV)).set _ (kc.lt yp),bB.upd3 DA (by simp [AW.df]) (by simp [AW.df,qh n1,aZ.cells,lQ]) (by simp [AW.df,qh n2,qh n3,Bv,bk]) (λj x h1 h2 h3 hx=>by simp [AW.df,h1,h2,h3,hx])⟩;rintro A3 ⟨FU,Dh⟩;have Y4:=Dh.bp;have hg31:=Dh.right.bp;have hg30:=Dh.right.right.bp
 obtain⟨v',A4,e1,nN,pU,_⟩:=av.append (P:=qa) (t:=28) s.dF ZM Tryz.info35 Tryz.zero35 rfl rfl
  (Dh.dZ (by ac_rfl):bB A3 (av .u64 xZ s.dT*(pt b (.cells [.int .i64 s.aj,Cm,xZ,.int .u64 s.dF,.bool false] true 1)*(pt (A.next+1) (.cells a.cells true 1)*(pt A.next (.cells bk true 1)*(av .i64 Cm s.ao*(eG pb M'*F)))))))
  (by omega) (by simp) FU
 have VV:bB A4 (pt b (.cells [.int .i64 s.aj,Cm,xZ,.int .u64 s.dF,.bool false] true 1)*(pt (A.next+1) (.cells a.cells true 1)*(pt A.next (.cells bk true 1)*(av .i64 Cm s.ao*(av .u64 v' (s.dT++[s.dF])*(eG pb M'*F)))))):=nN.dZ (by ac_rfl);have hg4b:=VV.bp;have hg41:=VV.right.bp;have hg40:=VV.right.right.bp;obtain⟨o3,n3',xJ⟩:True/\(b=A3.next)=False/\∀k,(b=A3.next+k)=False:=⟨trivial,(FU.dT Y4).1,(FU.dT Y4).2⟩;have hv':∃o c,v'=.slice o (s.dT.length+1) c:=by
  obtain⟨o,c,h,_⟩:=(av.is nN).cy;exact⟨o,c,by simpa using h⟩
 obtain⟨o',c',rfl⟩:=hv';refine W (J4 (od rK) (od rJ) (od rI) (od tV)) (J19 Y4 hg31 hg30 hg4b hg41 hg40 n1 n2 n3 n3' xJ e1 lQ (qh n1) (qh n2) (qh n3) bE @bk.eq_1 (J2 @aZ.v.eq_1 @aZ.cells.eq_1)) ?_<;>intros;refine⟨_,by simp [AW.dt,AW.df,AW.ab,aG];rfl,bB.post (by rw [dy];simp [aZ.v,lQ]) ?_⟩;rw [dy,HP.cQ];simp only [lQ,if_true];refine iy.dP (vo:=Cm) (vw:=.slice o' (s.dT.length+1) c') (bB.LD VV (by simp [AW.df,n1,n2]) (λj x h1 h2 h3 hx=>?_));simp [AW.df,h1,h2,h3,hx]
end
section
open T7
variable [Gl]
structure je where
 os:List Int
 ws:List Int
def iH (b:Nat) (s:je):HP:=rO λvo:Value=>rO λvw:Value=>
 pt b (.cells [vo,vw] true 1)*(av .i64 vo s.os*av .u64 vw s.ws)
theorem iH.open {A:AW} {b:Nat} {s:je} {F:HP} (h:bB A (iH b s*F)) :
 ∃vo vw,bB A (pt b (.cells [vo,vw] true 1)*(av .i64 vo s.os*(av .u64 vw s.ws*F))):=by
 unfold iH at h;rw [bB.ex] at h;obtain⟨vo,h⟩:=h;rw [bB.ex] at h;obtain⟨vw,h⟩:=h;exact⟨vo,vw,h.dZ (by ac_rfl)⟩
theorem iH.dP {A:AW} {b:Nat} {s:je} {F:HP} {vo vw:Value} (h:bB A (pt b (.cells [vo,vw] true 1)*(av .i64 vo s.os*(av .u64 vw s.ws*F)))) :
 bB A (iH b s*F):=by
 unfold iH;rw [bB.ex];refine⟨vo,?_⟩;rw [bB.ex];exact⟨vw,h.dZ (by ac_rfl)⟩
def je.done (s:je):Bool:=decide (s.os.length=0)
theorem uD (b:Nat) (s:je) (A:AW) (F:HP) (h:bB A (iH b s*F)) :
 aD qa 201 [.pointer (some ⟨b,0,none⟩)] A (λv A'=>v=.bool s.done/\A=A'):=by
 refine aN Tryz.func201 λhw=>?_;obtain⟨vo,vw,hS⟩:=iH.open h;obtain⟨oo,co,rfl,_⟩:=(av.is hS.right).cy;obtain⟨ow,cw,rfl,_⟩:=(av.is hS.right.right).cy;have hg:=hS.bp;refine W cF (J2 hg @AW.ab) ?_<;>intros;simp [je.done]
theorem av.tl {A:AW} {k:IntKind} {v:Value} {x:Int} {l:List Int} {F:HP} (h:bB A (av k v (x::l)*F)) :
 ∃b off c b8,v=.slice (some ⟨b,off,none⟩) (l.length+1) c/\A.bp b=some (.cells b8 true 1)/\(∀j o F',F=pt j o*F'->b≠j)/\(∀j o i o' F',F=pt j o*(pt i o'*F')->b≠i)/\bB A (av k (.slice (some ⟨b,off+1,none⟩) l.length (c-1)) l*F):=by
 rcases dv.cases h with ⟨_,h0,_⟩|⟨b,off,c,b8,rfl,h1,h2,h3,h4⟩;simp at h0;refine⟨b,off,c,b8,by simp,h4.bp,λj o F' e=>by subst e;exact h4.ne,λj o i o' F' e=>by subst e;exact h4.Yn,?_⟩;simp only [qI,Nat.mul_one] at h1 h2 h3;refine av.mk rfl (by omega) (by omega) ?_ h4;rw [List.drop_eq_getElem_cons (by omega),List.map_cons,List.take_succ_cons] at h3;exact(List.cons.inj h3).2
def gM (s:je) (M:Nat->List Int):aZ×je×(Nat->List Int):=
 if s.done=true then (aZ.zero,s,M)
 else (eU M 2 2 (s.os.getD 0 0) (fo (s.ws.getD 0 0)),⟨s.os.tail,s.ws.tail⟩,kX M 2 (s.os.getD 0 0) (fo (s.ws.getD 0 0)))
theorem Ir (b pb:Nat) (s:je) (M:Nat->List Int) (bX:s.os.length=s.ws.length) :
 pJ qa 200 [.pointer (some ⟨b,0,none⟩),.pointer (some ⟨pb,0,none⟩)] (iH b s*eG pb M)
  (λv=>De (v=(gM s M).1.v)*(iH b (gM s M).2.1*eG pb (gM s M).2.2)):=by
 intro A F hw dA;refine aN Tryz.func200 λ_=>?_;rw [HP.cQ] at dA;have iY:=(dA.alloc hw (.cells bk true 1));have kZ:bB (A.alloc (.cells bk true 1)) (iH b s*(eG pb M*(pt A.next (.cells bk true 1)*F))):=iY.dZ (by ac_rfl);by_cases lI:s.done=true;have hd:=uD b s _ _ kZ;rw [lI] at hd;revert hw;refine Wu (J2 (⟨⟩:Ts (λ_=>True) [0,0,0,0,0,0,0,0,0,0,0,0,0,3,0,0,0,2,3,0] (.aK 0 (.aK 1 (.aK 2 (.aK 3 (.aK 4 (.aK 5 (.aK 6 (.aK 7 (.aK 8 (.aK 9 (.aK 10 (.aK 11 (.aK 12 (.tC 13 (.aK 14 (.aK 15 (.aK 16 (.aK 17 (.aK 18 (.aK 19 .nil)))))) 17 (.aK 13 (.aK 14 (.aK 15 (.aK 16 (.aK 18 (.aK 19 .nil))))))))))))))))))))) @hd) (J2 bE @bk.eq_1) ?_<;>(unhygienic intros);have dy:gM s M=(aZ.zero,s,M):=by unfold gM;rw [aA lI]
 rw [dy];refine⟨_,by simp [AW.ab,aG];rfl,bB.post (by simp [aZ.v,aZ.zero]) ?_⟩;rw [HP.cQ];exact dA.le hw ((qb A _).set (qf _) _);have hd:=uD b s _ _ kZ;rw [show s.done=false by simpa using lI] at hd;obtain⟨os,ws⟩:=s;cases os with
 | nil=>simp [je.done] at lI
 | cons o os=>
 cases ws with
 | nil=>simp at bX
 | cons x ws=>
 have dy:gM ⟨o::os,x::ws⟩ M=(eU M 2 2 o (fo x),⟨os,ws⟩,kX M 2 o (fo x)):=by
  unfold gM;rw [aw lI];rfl
 obtain⟨vo,vw,yr⟩:=iH.open dA;have hg:=yr.bp;have hSo:bB A (av .i64 vo (o::os)*(pt b (.cells [vo,vw] true 1)*(av .u64 vw (x::ws)*(eG pb M*F)))):=yr.dZ (by ac_rfl);have hSw:bB A (av .u64 vw (x::ws)*(pt b (.cells [vo,vw] true 1)*(av .i64 vo (o::os)*(eG pb M*F)))):=yr.dZ (by ac_rfl);obtain⟨bo,off,c,b8,rfl,_,Bu,pX,_,_⟩:=av.at hSo (j:=0) (by simp);obtain⟨bw,offw,cw,roww,rfl,_,Y2,VQ,_,_⟩:=av.at hSw (j:=0) (by simp);obtain⟨nb,WT⟩:=hw.dT hg;obtain⟨no,no'⟩:=hw.dT Bu;obtain⟨nw,nw'⟩:=hw.dT Y2;simp at Bu pX Y2 VQ;revert hw;(repeat first|clear hw|revert hc|revert R|revert K);refine Wu (J2 @hd (⟨⟩:Ts (λ_=>True) [0,0,0,0,0,0,0,0,0,0,0,0,0,3,0,0,0,2,3,3] (.aK 0 (.aK 1 (.aK 2 (.aK 3 (.aK 4 (.aK 5 (.aK 6 (.aK 7 (.aK 8 (.aK 9 (.aK 10 (.aK 11 (.aK 12 (.tC 13 (.aK 14 (.aK 15 (.aK 16 (.aK 17 (.aK 18 (.aK 19 .nil)))))) 17 (.aK 13 (.aK 14 (.aK 15 (.aK 16 (.aK 18 (.aK 19 .nil)))))))))))))))))))))) (mB hg Bu pX Y2 VQ nb WT no no' nw nw' bE @bk.eq_1) (J2 ?_ ?_)<;>(unhygienic intros)
 . have zl:bB _ (eG pb M*(iH b ⟨o::os,x::ws⟩*(pt A.next (.cells bk true 1)*F))):=kZ.dZ (by ac_rfl);refine(tX pb M 2 o x).use (hw.alloc _) zl rfl ?_;intro v A2 AQ kc AK;obtain⟨rfl,zO⟩:=AQ.rt;clear AQ;generalize eU M 2 2 o (fo x)=a at dy zO ⊢;generalize kX M 2 o (fo x)=M' at dy zO;generalize pF M 2 o=er at zO ⊢;have Ty:bB A2 (iH b ⟨o::os,x::ws⟩*(pt A.next (.cells bk true 1)*(eG pb M'*F))):=zO.dZ (by ac_rfl);obtain⟨Cm,xZ,Tx⟩:=iH.open Ty;obtain⟨Fv,Eo,Fj,R3,rfl,uX,Nx,S7,DA⟩:=av.tl (Tx.dZ (by ac_rfl):bB A2 (av .i64 Cm (o::os)*(pt b (.cells [Cm,xZ] true 1)*(av .u64 xZ (x::ws)*(pt A.next (.cells bk true 1)*(eG pb M'*F))))));obtain⟨Jd,MV,N1,Ed,rfl,uW,Nw,SZ,Dh⟩:=av.tl (DA.dZ (by ac_rfl):bB A2 (av .u64 xZ (x::ws)*(pt b (.cells [.slice (some ⟨Fv,Eo,none⟩) (os.length+1) Fj,xZ] true 1)*(av .i64 (.slice (some ⟨Fv,Eo+1,none⟩) os.length (Fj-1)) os*(pt A.next (.cells bk true 1)*(eG pb M'*F))))));have nN:=(Dh.dZ (by ac_rfl):bB A2 (pt b (.cells [.slice (some ⟨Fv,Eo,none⟩) (os.length+1) Fj,.slice (some ⟨Jd,MV,none⟩) (ws.length+1) N1] true 1)*(pt A.next (.cells bk true 1)*(av .i64 (.slice (some ⟨Fv,Eo+1,none⟩) os.length (Fj-1)) os*(av .u64 (.slice (some ⟨Jd,MV+1,none⟩) ws.length (N1-1)) ws*(eG pb M'*F))))))
   have yp:=nN.bp;have Bv:=nN.right.bp;have n1:=nN.ne;obtain⟨nY,y7⟩:=kc.dT yp;obtain⟨M1,yW⟩:=kc.dT uX;obtain⟨MZ,yV⟩:=kc.dT uW;obtain⟨Ex,y8⟩:=kc.dT Bv;have e1:(1:Int)<=(os.length:Int)+1:=(by omega);have e2:(1:Int)<=(ws.length:Int)+1:=(by omega);have n2:=Nx _ _ _ rfl;have n3:=Nw _ _ _ rfl;have IJ:A2.next≠b:=λe=>by rw [<-e] at nY;simp at nY
   have KM:A2.next≠A.next:=λe=>by rw [<-e] at Ex;simp at Ex
   repeat' (first|(refine kY λR hR=>?_;simp [ar,ax,AW.ab,aG,bk,yp,Bv,uX,uW,n1,qh n1,n2,n3,qh n2,qh n3,nY,y7,M1,yW,MZ,yV,Ex,y8,e1,e2,IJ,KM,aZ.v,fg];try simp (disch:=omega) only [aA,aw,ar,ax])|(refine hR _ _ ?_;clear hR R)|(refine hK _ _ ?_;clear hK K)|refine nx ?_|(refine PK λR hR=>?_;simp [ar,ax,AW.ab,aG,bk,yp,Bv,uX,uW,n1,qh n1,n2,n3,qh n2,qh n3,nY,y7,M1,yW,MZ,yV,Ex,y8,e1,e2,IJ,KM,aZ.v,fg];try simp (disch:=omega) only [aA,aw,ar,ax])|(refine Ma (λR hR=>?_) (λR hR=>?_)<;>(simp [ar,ax,AW.ab,aG,bk,yp,Bv,uX,uW,n1,qh n1,n2,n3,qh n2,qh n3,nY,y7,M1,yW,MZ,yV,Ex,y8,e1,e2,IJ,KM,aZ.v,fg];try simp (disch:=omega) only [aA,aw,ar,ax]))|refine PI ?_|refine wn λK hK=>?_|simp only [wS]|simp only [bG,tK,lG,ZQ,qR,Zn,ZB,ZC,ZK,ZE,Zq]|(refine ⟨λA' AR=>by rw [AR]<;>rfl,?_⟩)|(refine XO (λA'=>A'.bp Jd=some (.cells Ed true 1)) qj [(0,0),(1,0),(2,0),(3,0),(4,0),(5,0),(6,0),(7,0),(8,0),(9,0),(10,0),(11,1),(12,0),(13,0),(14,3),(15,0),(16,0),(17,3)] (by decide +kernel) λK hK=>?_)|((refine wt (λ_=>True) qj [] .nil (by decide +kernel) ?_<;>fail))|(show c8 _ _ _ _ _ _;refine nx ?_)|(refine wc rfl (λhc=>?_) (λhc=>?_)<;>(try simp at hc)<;>(try omega))|(refine ib (λhc=>?_) (λhc=>?_)<;>(try omega)<;>(try simp (disch:=omega) only [aA,aw])))
   refine⟨_,by simp [AW.ab,aG,IJ,KM];rfl,bB.post (by rw [dy];simp [aZ.v]) ?_⟩;rw [dy,HP.cQ];refine iH.dP (vo:=.slice (some ⟨Fv,Eo+1,none⟩) os.length (Fj-1)) (vw:=.slice (some ⟨Jd,MV+1,none⟩) ws.length (N1-1)) (bB.TI nN (by simp [AW.df,n1,IJ]) (λj x h1 h2 hx=>?_));have hj:=(kc.dT hx).1;simp [AW.df,h1,h2,hx,hj]
 have zl:bB _ (eG pb M*(iH b ⟨o::os,x::ws⟩*(pt (A.next+1) (.cells bk true 1)*(pt A.next (.cells bk true 1)*F)))):=((kZ.alloc (hw.alloc _) (.cells bk true 1)).dZ (by simp only [AW.bd];ac_rfl));refine(tX pb M 2 o x).use ((hw.alloc _).alloc _) zl rfl ?_;intro v A2 AQ kc AK;obtain⟨rfl,zO⟩:=AQ.rt;clear AQ;generalize eU M 2 2 o (fo x)=a at dy zO ⊢;generalize kX M 2 o (fo x)=M' at dy zO;generalize pF M 2 o=er at zO ⊢;have Ty:bB A2 (iH b ⟨o::os,x::ws⟩*(pt (A.next+1) (.cells bk true 1)*(pt A.next (.cells bk true 1)*(eG pb M'*F)))):=zO.dZ (by ac_rfl);obtain⟨Cm,xZ,Tx⟩:=iH.open Ty;obtain⟨Fv,Eo,Fj,R3,rfl,uX,Nx,S7,DA⟩:=av.tl (Tx.dZ (by ac_rfl):bB A2 (av .i64 Cm (o::os)*(pt b (.cells [Cm,xZ] true 1)*(pt (A.next+1) (.cells bk true 1)*(av .u64 xZ (x::ws)*(pt A.next (.cells bk true 1)*(eG pb M'*F)))))));obtain⟨Jd,MV,N1,Ed,rfl,uW,Nw,SZ,Dh⟩:=av.tl (DA.dZ (by ac_rfl):bB A2 (av .u64 xZ (x::ws)*(pt b (.cells [.slice (some ⟨Fv,Eo,none⟩) (os.length+1) Fj,xZ] true 1)*(pt (A.next+1) (.cells bk true 1)*(av .i64 (.slice (some ⟨Fv,Eo+1,none⟩) os.length (Fj-1)) os*(pt A.next (.cells bk true 1)*(eG pb M'*F)))))))
 have nN:=(Dh.dZ (by ac_rfl):bB A2 (pt b (.cells [.slice (some ⟨Fv,Eo,none⟩) (os.length+1) Fj,.slice (some ⟨Jd,MV,none⟩) (ws.length+1) N1] true 1)*(pt (A.next+1) (.cells bk true 1)*(pt A.next (.cells bk true 1)*(av .i64 (.slice (some ⟨Fv,Eo+1,none⟩) os.length (Fj-1)) os*(av .u64 (.slice (some ⟨Jd,MV+1,none⟩) ws.length (N1-1)) ws*(eG pb M'*F)))))));have yp:=nN.bp;have BV:=nN.right.bp;have Bv:=nN.right.right.bp;have n1:=nN.Yn;have n4:=nN.ne;have n5:=nN.right.ne;obtain⟨Sy,M6⟩:=kc.dT BV;obtain⟨nY,y7⟩:=kc.dT yp;obtain⟨M1,yW⟩:=kc.dT uX;obtain⟨MZ,yV⟩:=kc.dT uW;obtain⟨Ex,y8⟩:=kc.dT Bv;have e1:(1:Int)<=(os.length:Int)+1:=by omega
 have e2:(1:Int)<=(ws.length:Int)+1:=by omega
 have n2:=Nx _ _ _ rfl;have n3:=Nw _ _ _ rfl;have n6:=S7 _ _ _ _ _ rfl;have n7:=SZ _ _ _ _ _ rfl;have IJ:A2.next≠b:=λe=>by rw [<-e] at nY;simp at nY
 have KM:A2.next≠A.next:=λe=>by rw [<-e] at Ex;simp at Ex
 repeat' (first|(refine kY λR hR=>?_;simp [ar,ax,AW.ab,aG,bk,yp,Bv,BV,n6,n7,qh n6,qh n7,n4,n5,qh n4,qh n5,Sy,M6,uX,uW,n1,qh n1,n2,n3,qh n2,qh n3,nY,y7,M1,yW,MZ,yV,Ex,y8,e1,e2,IJ,KM,aZ.v,fg];try simp (disch:=omega) only [aA,aw,ar,ax])|(refine hR _ _ ?_;clear hR R)|(refine hK _ _ ?_;clear hK K)|refine nx ?_|(refine PK λR hR=>?_;simp [ar,ax,AW.ab,aG,bk,yp,Bv,BV,n6,n7,qh n6,qh n7,n4,n5,qh n4,qh n5,Sy,M6,uX,uW,n1,qh n1,n2,n3,qh n2,qh n3,nY,y7,M1,yW,MZ,yV,Ex,y8,e1,e2,IJ,KM,aZ.v,fg];try simp (disch:=omega) only [aA,aw,ar,ax])|(refine Ma (λR hR=>?_) (λR hR=>?_)<;>(simp [ar,ax,AW.ab,aG,bk,yp,Bv,BV,n6,n7,qh n6,qh n7,n4,n5,qh n4,qh n5,Sy,M6,uX,uW,n1,qh n1,n2,n3,qh n2,qh n3,nY,y7,M1,yW,MZ,yV,Ex,y8,e1,e2,IJ,KM,aZ.v,fg];try simp (disch:=omega) only [aA,aw,ar,ax]))|refine PI ?_|refine wn λK hK=>?_|simp only [wS]|simp only [bG,tK,lG,ZQ,qR,Zn,ZB,ZC,ZK,ZE,Zq]|(refine ⟨λA' AR=>by rw [AR]<;>rfl,?_⟩)|(refine XO (λA'=>A'.bp Jd=some (.cells Ed true 1)) qj [(0,0),(1,0),(2,0),(3,0),(4,0),(5,0),(6,0),(7,0),(8,0),(9,0),(10,0),(11,1),(12,0),(13,0),(14,3),(15,0),(16,0),(17,3)] (by decide +kernel) λK hK=>?_)|((refine wt (λ_=>True) qj [] .nil (by decide +kernel) ?_<;>fail))|(show c8 _ _ _ _ _ _;refine nx ?_)|(refine wc rfl (λhc=>?_) (λhc=>?_)<;>(try simp at hc)<;>(try omega))|(refine ib (λhc=>?_) (λhc=>?_)<;>(try omega)<;>(try simp (disch:=omega) only [aA,aw])))
 refine⟨_,by simp [AW.ab,aG,n1,n4,n5,qh n1,qh n4,qh n5];rfl,bB.post (by rw [dy];simp [aZ.v]) ?_⟩;rw [dy,HP.cQ];refine iH.dP (vo:=.slice (some ⟨Fv,Eo+1,none⟩) os.length (Fj-1)) (vw:=.slice (some ⟨Jd,MV+1,none⟩) ws.length (N1-1)) (bB.LD nN (by simp [AW.df,n1,n4]) (λj x h1 h2 h3 hx=>?_));simp [AW.df,h1,h2,h3,hx]
end
section
open T7
variable [Gl]
theorem vZ (b:Nat) (s:je) (A:AW) (F:HP) (h:bB A (iH b s*F)) :
 aD qa 196 [.pointer (some ⟨b,0,none⟩)] A (λv A'=>v=.bool s.done/\A=A'):=by
 refine aN Tryz.func196 λhw=>?_;obtain⟨vo,vw,hS⟩:=iH.open h;obtain⟨oo,co,rfl,_⟩:=(av.is hS.right).cy;obtain⟨ow,cw,rfl,_⟩:=(av.is hS.right.right).cy;have hg:=hS.bp;refine W cF (J2 hg @AW.ab) ?_<;>intros;simp [je.done]
def kh (s:je) (M:Nat->List Int):aZ×je×(Nat->List Int):=
 if s.done=true then (aZ.zero,s,M)
 else (eU M 2 1 (s.os.getD 0 0) (fo (s.ws.getD 0 0)),⟨s.os.tail,s.ws.tail⟩,kX M 1 (s.os.getD 0 0) (fo (s.ws.getD 0 0)))
theorem JT (b pb:Nat) (s:je) (M:Nat->List Int) (bX:s.os.length=s.ws.length) :
 pJ qa 195 [.pointer (some ⟨b,0,none⟩),.pointer (some ⟨pb,0,none⟩)] (iH b s*eG pb M)
  (λv=>De (v=(kh s M).1.v)*(iH b (kh s M).2.1*eG pb (kh s M).2.2)):=by
 intro A F hw dA;refine aN Tryz.func195 λ_=>?_;rw [HP.cQ] at dA;have iY:=(dA.alloc hw (.cells bk true 1));have kZ:bB (A.alloc (.cells bk true 1)) (iH b s*(eG pb M*(pt A.next (.cells bk true 1)*F))):=iY.dZ (by ac_rfl);by_cases lI:s.done=true;have hd:=vZ b s _ _ kZ;rw [lI] at hd;revert hw;refine Wu (J2 (⟨⟩:Ts (λ_=>True) [0,0,0,0,0,0,0,0,0,0,0,0,0,3,0,0,0,2,3,0] (.aK 0 (.aK 1 (.aK 2 (.aK 3 (.aK 4 (.aK 5 (.aK 6 (.aK 7 (.aK 8 (.aK 9 (.aK 10 (.aK 11 (.aK 12 (.tC 13 (.aK 14 (.aK 15 (.aK 16 (.aK 17 (.aK 18 (.aK 19 .nil)))))) 17 (.aK 13 (.aK 14 (.aK 15 (.aK 16 (.aK 18 (.aK 19 .nil))))))))))))))))))))) @hd) (J2 bE @bk.eq_1) ?_<;>(unhygienic intros);have dy:kh s M=(aZ.zero,s,M):=by unfold kh;rw [aA lI]
 rw [dy];refine⟨_,by simp [AW.ab,aG];rfl,bB.post (by simp [aZ.v,aZ.zero]) ?_⟩;rw [HP.cQ];exact dA.le hw ((qb A _).set (qf _) _);have hd:=vZ b s _ _ kZ;rw [show s.done=false by simpa using lI] at hd;obtain⟨os,ws⟩:=s;cases os with
 | nil=>simp [je.done] at lI
 | cons o os=>
 cases ws with
 | nil=>simp at bX
 | cons x ws=>
 have dy:kh ⟨o::os,x::ws⟩ M=(eU M 2 1 o (fo x),⟨os,ws⟩,kX M 1 o (fo x)):=by
  unfold kh;rw [aw lI];rfl
 obtain⟨vo,vw,yr⟩:=iH.open dA;have hg:=yr.bp;have hSo:bB A (av .i64 vo (o::os)*(pt b (.cells [vo,vw] true 1)*(av .u64 vw (x::ws)*(eG pb M*F)))):=yr.dZ (by ac_rfl);have hSw:bB A (av .u64 vw (x::ws)*(pt b (.cells [vo,vw] true 1)*(av .i64 vo (o::os)*(eG pb M*F)))):=yr.dZ (by ac_rfl);obtain⟨bo,off,c,b8,rfl,_,Bu,pX,_,_⟩:=av.at hSo (j:=0) (by simp);obtain⟨bw,offw,cw,roww,rfl,_,Y2,VQ,_,_⟩:=av.at hSw (j:=0) (by simp);obtain⟨nb,WT⟩:=hw.dT hg;obtain⟨no,no'⟩:=hw.dT Bu;obtain⟨nw,nw'⟩:=hw.dT Y2;simp at Bu pX Y2 VQ;revert hw;(repeat first|clear hw|revert hc|revert R|revert K);refine Wu (J2 @hd (⟨⟩:Ts (λ_=>True) [0,0,0,0,0,0,0,0,0,0,0,0,0,3,0,0,0,2,3,3] (.aK 0 (.aK 1 (.aK 2 (.aK 3 (.aK 4 (.aK 5 (.aK 6 (.aK 7 (.aK 8 (.aK 9 (.aK 10 (.aK 11 (.aK 12 (.tC 13 (.aK 14 (.aK 15 (.aK 16 (.aK 17 (.aK 18 (.aK 19 .nil)))))) 17 (.aK 13 (.aK 14 (.aK 15 (.aK 16 (.aK 18 (.aK 19 .nil)))))))))))))))))))))) (mB hg Bu pX Y2 VQ nb WT no no' nw nw' bE @bk.eq_1) (J2 ?_ ?_)<;>(unhygienic intros)
 . have zl:bB _ (eG pb M*(iH b ⟨o::os,x::ws⟩*(pt A.next (.cells bk true 1)*F))):=kZ.dZ (by ac_rfl);refine(tX pb M 1 o x).use (hw.alloc _) zl rfl ?_;intro v A2 AQ kc AK;obtain⟨rfl,zO⟩:=AQ.rt;clear AQ;generalize eU M 2 1 o (fo x)=a at dy zO ⊢;generalize kX M 1 o (fo x)=M' at dy zO;generalize pF M 2 o=er at zO ⊢;have Ty:bB A2 (iH b ⟨o::os,x::ws⟩*(pt A.next (.cells bk true 1)*(eG pb M'*F))):=zO.dZ (by ac_rfl);obtain⟨Cm,xZ,Tx⟩:=iH.open Ty;obtain⟨Fv,Eo,Fj,R3,rfl,uX,Nx,S7,DA⟩:=av.tl (Tx.dZ (by ac_rfl):bB A2 (av .i64 Cm (o::os)*(pt b (.cells [Cm,xZ] true 1)*(av .u64 xZ (x::ws)*(pt A.next (.cells bk true 1)*(eG pb M'*F))))));obtain⟨Jd,MV,N1,Ed,rfl,uW,Nw,SZ,Dh⟩:=av.tl (DA.dZ (by ac_rfl):bB A2 (av .u64 xZ (x::ws)*(pt b (.cells [.slice (some ⟨Fv,Eo,none⟩) (os.length+1) Fj,xZ] true 1)*(av .i64 (.slice (some ⟨Fv,Eo+1,none⟩) os.length (Fj-1)) os*(pt A.next (.cells bk true 1)*(eG pb M'*F))))));have nN:=(Dh.dZ (by ac_rfl):bB A2 (pt b (.cells [.slice (some ⟨Fv,Eo,none⟩) (os.length+1) Fj,.slice (some ⟨Jd,MV,none⟩) (ws.length+1) N1] true 1)*(pt A.next (.cells bk true 1)*(av .i64 (.slice (some ⟨Fv,Eo+1,none⟩) os.length (Fj-1)) os*(av .u64 (.slice (some ⟨Jd,MV+1,none⟩) ws.length (N1-1)) ws*(eG pb M'*F))))))
   have yp:=nN.bp;have Bv:=nN.right.bp;have n1:=nN.ne;obtain⟨nY,y7⟩:=kc.dT yp;obtain⟨M1,yW⟩:=kc.dT uX;obtain⟨MZ,yV⟩:=kc.dT uW;obtain⟨Ex,y8⟩:=kc.dT Bv;have e1:(1:Int)<=(os.length:Int)+1:=(by omega);have e2:(1:Int)<=(ws.length:Int)+1:=(by omega);have n2:=Nx _ _ _ rfl;have n3:=Nw _ _ _ rfl;have IJ:A2.next≠b:=λe=>by rw [<-e] at nY;simp at nY
   have KM:A2.next≠A.next:=λe=>by rw [<-e] at Ex;simp at Ex
   repeat' (first|(refine kY λR hR=>?_;simp [ar,ax,AW.ab,aG,bk,yp,Bv,uX,uW,n1,qh n1,n2,n3,qh n2,qh n3,nY,y7,M1,yW,MZ,yV,Ex,y8,e1,e2,IJ,KM,aZ.v,fg];try simp (disch:=omega) only [aA,aw,ar,ax])|(refine hR _ _ ?_;clear hR R)|(refine hK _ _ ?_;clear hK K)|refine nx ?_|(refine PK λR hR=>?_;simp [ar,ax,AW.ab,aG,bk,yp,Bv,uX,uW,n1,qh n1,n2,n3,qh n2,qh n3,nY,y7,M1,yW,MZ,yV,Ex,y8,e1,e2,IJ,KM,aZ.v,fg];try simp (disch:=omega) only [aA,aw,ar,ax])|(refine Ma (λR hR=>?_) (λR hR=>?_)<;>(simp [ar,ax,AW.ab,aG,bk,yp,Bv,uX,uW,n1,qh n1,n2,n3,qh n2,qh n3,nY,y7,M1,yW,MZ,yV,Ex,y8,e1,e2,IJ,KM,aZ.v,fg];try simp (disch:=omega) only [aA,aw,ar,ax]))|refine PI ?_|refine wn λK hK=>?_|simp only [wS]|simp only [bG,tK,lG,ZQ,qR,Zn,ZB,ZC,ZK,ZE,Zq]|(refine ⟨λA' AR=>by rw [AR]<;>rfl,?_⟩)|(refine XO (λA'=>A'.bp Jd=some (.cells Ed true 1)) qj [(0,0),(1,0),(2,0),(3,0),(4,0),(5,0),(6,0),(7,0),(8,0),(9,0),(10,0),(11,1),(12,0),(13,0),(14,3),(15,0),(16,0),(17,3)] (by decide +kernel) λK hK=>?_)|((refine wt (λ_=>True) qj [] .nil (by decide +kernel) ?_<;>fail))|(show c8 _ _ _ _ _ _;refine nx ?_)|(refine wc rfl (λhc=>?_) (λhc=>?_)<;>(try simp at hc)<;>(try omega))|(refine ib (λhc=>?_) (λhc=>?_)<;>(try omega)<;>(try simp (disch:=omega) only [aA,aw])))
   refine⟨_,by simp [AW.ab,aG,IJ,KM];rfl,bB.post (by rw [dy];simp [aZ.v]) ?_⟩;rw [dy,HP.cQ];refine iH.dP (vo:=.slice (some ⟨Fv,Eo+1,none⟩) os.length (Fj-1)) (vw:=.slice (some ⟨Jd,MV+1,none⟩) ws.length (N1-1)) (bB.TI nN (by simp [AW.df,n1,IJ]) (λj x h1 h2 hx=>?_));have hj:=(kc.dT hx).1;simp [AW.df,h1,h2,hx,hj]
 have zl:bB _ (eG pb M*(iH b ⟨o::os,x::ws⟩*(pt (A.next+1) (.cells bk true 1)*(pt A.next (.cells bk true 1)*F)))):=((kZ.alloc (hw.alloc _) (.cells bk true 1)).dZ (by simp only [AW.bd];ac_rfl));refine(tX pb M 1 o x).use ((hw.alloc _).alloc _) zl rfl ?_;intro v A2 AQ kc AK;obtain⟨rfl,zO⟩:=AQ.rt;clear AQ;generalize eU M 2 1 o (fo x)=a at dy zO ⊢;generalize kX M 1 o (fo x)=M' at dy zO;generalize pF M 2 o=er at zO ⊢;have Ty:bB A2 (iH b ⟨o::os,x::ws⟩*(pt (A.next+1) (.cells bk true 1)*(pt A.next (.cells bk true 1)*(eG pb M'*F)))):=zO.dZ (by ac_rfl);obtain⟨Cm,xZ,Tx⟩:=iH.open Ty;obtain⟨Fv,Eo,Fj,R3,rfl,uX,Nx,S7,DA⟩:=av.tl (Tx.dZ (by ac_rfl):bB A2 (av .i64 Cm (o::os)*(pt b (.cells [Cm,xZ] true 1)*(pt (A.next+1) (.cells bk true 1)*(av .u64 xZ (x::ws)*(pt A.next (.cells bk true 1)*(eG pb M'*F)))))));obtain⟨Jd,MV,N1,Ed,rfl,uW,Nw,SZ,Dh⟩:=av.tl (DA.dZ (by ac_rfl):bB A2 (av .u64 xZ (x::ws)*(pt b (.cells [.slice (some ⟨Fv,Eo,none⟩) (os.length+1) Fj,xZ] true 1)*(pt (A.next+1) (.cells bk true 1)*(av .i64 (.slice (some ⟨Fv,Eo+1,none⟩) os.length (Fj-1)) os*(pt A.next (.cells bk true 1)*(eG pb M'*F)))))))
 have nN:=(Dh.dZ (by ac_rfl):bB A2 (pt b (.cells [.slice (some ⟨Fv,Eo,none⟩) (os.length+1) Fj,.slice (some ⟨Jd,MV,none⟩) (ws.length+1) N1] true 1)*(pt (A.next+1) (.cells bk true 1)*(pt A.next (.cells bk true 1)*(av .i64 (.slice (some ⟨Fv,Eo+1,none⟩) os.length (Fj-1)) os*(av .u64 (.slice (some ⟨Jd,MV+1,none⟩) ws.length (N1-1)) ws*(eG pb M'*F)))))));have yp:=nN.bp;have BV:=nN.right.bp;have Bv:=nN.right.right.bp;have n1:=nN.Yn;have n4:=nN.ne;have n5:=nN.right.ne;obtain⟨Sy,M6⟩:=kc.dT BV;obtain⟨nY,y7⟩:=kc.dT yp;obtain⟨M1,yW⟩:=kc.dT uX;obtain⟨MZ,yV⟩:=kc.dT uW;obtain⟨Ex,y8⟩:=kc.dT Bv;have e1:(1:Int)<=(os.length:Int)+1:=by omega
 have e2:(1:Int)<=(ws.length:Int)+1:=by omega
 have n2:=Nx _ _ _ rfl;have n3:=Nw _ _ _ rfl;have n6:=S7 _ _ _ _ _ rfl;have n7:=SZ _ _ _ _ _ rfl;have IJ:A2.next≠b:=λe=>by rw [<-e] at nY;simp at nY
 have KM:A2.next≠A.next:=λe=>by rw [<-e] at Ex;simp at Ex
 repeat' (first|(refine kY λR hR=>?_;simp [ar,ax,AW.ab,aG,bk,yp,Bv,BV,n6,n7,qh n6,qh n7,n4,n5,qh n4,qh n5,Sy,M6,uX,uW,n1,qh n1,n2,n3,qh n2,qh n3,nY,y7,M1,yW,MZ,yV,Ex,y8,e1,e2,IJ,KM,aZ.v,fg];try simp (disch:=omega) only [aA,aw,ar,ax])|(refine hR _ _ ?_;clear hR R)|(refine hK _ _ ?_;clear hK K)|refine nx ?_|(refine PK λR hR=>?_;simp [ar,ax,AW.ab,aG,bk,yp,Bv,BV,n6,n7,qh n6,qh n7,n4,n5,qh n4,qh n5,Sy,M6,uX,uW,n1,qh n1,n2,n3,qh n2,qh n3,nY,y7,M1,yW,MZ,yV,Ex,y8,e1,e2,IJ,KM,aZ.v,fg];try simp (disch:=omega) only [aA,aw,ar,ax])|(refine Ma (λR hR=>?_) (λR hR=>?_)<;>(simp [ar,ax,AW.ab,aG,bk,yp,Bv,BV,n6,n7,qh n6,qh n7,n4,n5,qh n4,qh n5,Sy,M6,uX,uW,n1,qh n1,n2,n3,qh n2,qh n3,nY,y7,M1,yW,MZ,yV,Ex,y8,e1,e2,IJ,KM,aZ.v,fg];try simp (disch:=omega) only [aA,aw,ar,ax]))|refine PI ?_|refine wn λK hK=>?_|simp only [wS]|simp only [bG,tK,lG,ZQ,qR,Zn,ZB,ZC,ZK,ZE,Zq]|(refine ⟨λA' AR=>by rw [AR]<;>rfl,?_⟩)|(refine XO (λA'=>A'.bp Jd=some (.cells Ed true 1)) qj [(0,0),(1,0),(2,0),(3,0),(4,0),(5,0),(6,0),(7,0),(8,0),(9,0),(10,0),(11,1),(12,0),(13,0),(14,3),(15,0),(16,0),(17,3)] (by decide +kernel) λK hK=>?_)|((refine wt (λ_=>True) qj [] .nil (by decide +kernel) ?_<;>fail))|(show c8 _ _ _ _ _ _;refine nx ?_)|(refine wc rfl (λhc=>?_) (λhc=>?_)<;>(try simp at hc)<;>(try omega))|(refine ib (λhc=>?_) (λhc=>?_)<;>(try omega)<;>(try simp (disch:=omega) only [aA,aw])))
 refine⟨_,by simp [AW.ab,aG,n1,n4,n5,qh n1,qh n4,qh n5];rfl,bB.post (by rw [dy];simp [aZ.v]) ?_⟩;rw [dy,HP.cQ];refine iH.dP (vo:=.slice (some ⟨Fv,Eo+1,none⟩) os.length (Fj-1)) (vw:=.slice (some ⟨Jd,MV+1,none⟩) ws.length (N1-1)) (bB.LD nN (by simp [AW.df,n1,n4]) (λj x h1 h2 h3 hx=>?_));simp [AW.df,h1,h2,h3,hx]
end
section
variable [Gl]
def sz (l:List Int):List Int:=l.mergeSort λx y=>decide (x<=y)
theorem P2 (B:Nat) (v:Value) (l:List Int) (A:AW) (hw:A.Wf) (h:fk B A .i64 v l) (hl:l.length<2^40) :
 aD qa 241 [v] A (λu A'=>fk B A' .i64 v (sz l)/\∀A0:AW,A0.next<=B->A0.le A->A0.le A'):=by
 have dz:jY qa 241=true:=by kernel_rfl
 rcases h.cy with ⟨o,c,rfl,rfl,_⟩|⟨p,c,b8,rfl,h0,hc,hs,hB,hg,rN,hcs⟩;refine(aD.mM dz (rv:=.tuple #[]) (ret:=λ_ _=>.tuple #[]) (λm _ _ _=>bI.undef m) (λo' c' w=>Tryz.slices_Sort_int_none o' c' w)).mono ?_;rintro u A' ⟨rfl,rfl⟩;exact⟨by simpa [sz] using h,λA0 _ hl=>hl⟩;have bX:(sz l).length=l.length:=by simp [sz]
 refine(OB dz (k:=.i64) (d:=sz l) (rv:=.tuple #[]) (ret:=λ_ _=>.tuple #[]) rfl h0 hc hg rN hcs bX (λm _ _ _ _=>bI.undef m)
  (λi9 off eA w hH hb _=>Tryz.slices_Sort_int i9 off eA l w hH hb (by omega))).mono ?_
 rintro u A' ⟨rfl,rfl⟩;refine⟨?_,λA0 hA0 fO=>fO.set (by omega) _⟩;have:=En (B:=B) (k:=.i64) (sz l) [] hw hB hs hg (c:=c) (by simpa [bX] using rN) (by omega) bX.symm
 simpa using this
theorem wW (l:List Int):(Zl l).length<=l.length:=by
 simp only [Zl,Lib.compactUpTo,List.length_map];exact Nat.le_trans (List.length_filter_le _ _) (by simp)
theorem I9 (B:Nat) (v:Value) (l:List Int) (A:AW) (hw:A.Wf) (h:fk B A .i64 v l) (hl:l.length<2^40) :
 aD qa 242 [v] A (λu A'=>fk B A' .i64 u (Zl l)/\∀A0:AW,A0.next<=B->A0.le A->A0.le A'):=by
 have dz:jY qa 242=true:=by kernel_rfl
 rcases h.cy with ⟨o,c,rfl,rfl,_⟩|⟨p,c,b8,rfl,h0,hc,hs,hB,hg,rN,hcs⟩;refine(aD.mM dz (rv:=.slice o 0 c) (ret:=λo' c'=>.slice o' 0 c') (λm _ _ h=>h) (λo' c' w=>Tryz.slices_Compact_int_empty o' c' w)).mono ?_;rintro u A' ⟨rfl,rfl⟩;exact⟨h,λA0 _ hl=>hl⟩;have bX:=wW l
 refine(OB dz (k:=.i64) (d:=Zl l++List.replicate (l.length-(Zl l).length) 0) (rv:=.slice (some p) (Zl l).length c) (ret:=λa' i6=>.slice (some a') (Zl l).length i6)
  rfl h0 hc hg rN hcs (by simp;omega) (λm a' i6 Dy Xn=>.slice (.inl Dy) (by omega) Xn)
  (λi9 off eA w hH hb IY=>(Tryz.slices_Compact_int i9 off eA l w hH (by omega) IY).mono λe w' ⟨h1,q,h2⟩=>⟨h1,q,#[],by rw [h2];exact(Go.Sort.grow_empty _).symm⟩)).mono ?_
 rintro u A' ⟨rfl,rfl⟩;refine⟨?_,λA0 hA0 fO=>fO.set (by omega) _⟩;exact En (B:=B) (k:=.i64) (Zl l) _ hw hB hs hg (c:=c) (by simp;omega) (by omega) rfl
end
section
namespace TLockA
theorem mK [Gl] {A:AW} {L:List It} {T:Prop} (hS:ah A L) (hw:A.Wf) (h':(aV A L/\bq A L/\bQ L)=T:=by first|(dsimp only [aa,af,aV,bq,bQ,eQ];done)|exact rfl):T:=h'▸hS.eJ hw
end TLockA
open TLockA
variable [Gl]
def eT (l:List Int):List Int:=Zl (sz l)
theorem Cr (v:Value) (l:List Int) (A:AW) (h:cd A .i64 v l) (hl:l.length<2^39) :
 aD qa 207 [v] A (λu A'=>fk A.next A' .i64 u (eT l)/\A.le A'):=by
 refine aN Tryz.func207 λhw=>?_;revert hw;refine W cF cF ?_<;>(unhygienic intros);refine bO (jH v l A h hl) ?_;rintro v1 A1 ⟨h1,l1⟩ w1 _;revert hw;(repeat first|clear hw|revert hc|revert R|revert K);refine W cF cF ?_<;>(unhygienic intros);refine bO (P2 A.next v1 l A1 w1 h1 (by omega)) ?_;rintro _ A2 ⟨h2,l2⟩ w2 _;revert hw;(repeat first|clear hw|revert hc|revert R|revert K);refine W cF cF ?_<;>(unhygienic intros);refine bO (I9 A.next v1 (sz l) A2 w2 h2 (by simp [sz];omega)) ?_;rintro v3 A3 ⟨h3,l3⟩ w3 _;refine W cF cF ?_<;>intros;simp;exact⟨h3,l3 A (qf _) (l2 A (qf _) l1)⟩
end
section
namespace TLockB
theorem mK [Gl] {A:AW} {L:List It} {T:Prop} (hS:ah A L) (hw:A.Wf) (h':(aV A L/\bq A L/\bQ L)=T:=by first|(dsimp only [aa,af,aV,bq,bQ,eQ];done)|exact rfl):T:=h'▸hS.eJ hw
end TLockB
open TLockB
variable [Gl]
def EI (tR:List Int) (x:Int):List Int:=
 match tR with
 | []=>[x]
 | y::r=>if y<x then y::EI r x else if y=x then y::r else x::y::r
def uE (l:List Int):List Int:=l.foldl EI []
end
end Go.Stx
