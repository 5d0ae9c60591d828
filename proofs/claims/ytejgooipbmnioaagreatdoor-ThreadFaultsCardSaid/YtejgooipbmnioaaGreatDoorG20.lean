/-
 One attempt, without the program: what always holds of the cells and of its state.
-/
import Derived.Test.YtejgooipbmnioaaGreatDoorG07
set_option linter.unusedVariables false
set_option linter.unusedSimpArgs false
set_option linter.unusedSectionVars false
set_option maxRecDepth 20000
set_option maxHeartbeats 4000000
namespace Go.Stx
open Go Go.Proofs
attribute [local irreducible] eg bn aC aV cR df
section
variable [Gl]
theorem E1 (l:List Int) (i:Nat):l.getD i 0=0∨l.getD i 0∈l:=by
 rw [List.getD_eq_getElem?_getD]
 by_cases h:i<l.length
 · rw [List.getElem?_eq_getElem h];exact .inr (List.getElem_mem h)
 · rw [List.getElem?_eq_none (by omega)];exact .inl rfl
theorem oZ (M:Mm) (fY cell dq:Int) (g:Int→Int×Bool):(fz M fY cell dq g).fg=0∨(hU M cell dq=true∧(fz M fY cell dq g).fg=(k8 M cell).getD dq.toNat 0):=by
 unfold fz
 split
 · rename_i h;exact .inr ⟨h,rfl⟩
 · exact .inl rfl
theorem F0 (M:Mm) (cell dq v:Int) (k:Nat):(setRow M cell dq v k).length=(M k).length:=by
 unfold setRow
 split<;>simp
theorem nQ (M:Mm) (cell dq:Int) (g:Int→Int×Bool) (k:Nat):(pB M cell dq g k).length=(M k).length:=by
 unfold pB
 split
 · exact F0 _ _ _ _ _
 · rfl
theorem yB (M:Mm) (cell dq:Int) (g:Int→Int×Bool) (k j:Nat) :
 (pB M cell dq g k).getD j 0=(M k).getD j 0∨(hU M cell dq=true∧k=(cell-1).toNat∧j=dq.toNat∧(pB M cell dq g k).getD j 0=(g ((k8 M cell).getD dq.toNat 0)).1):=by
 unfold pB
 split
 · rename_i hc
   unfold setRow
   split
   · rename_i e
     by_cases hj:j=dq.toNat
     · by_cases hl:j<(M k).length
       · refine .inr ⟨hc.1,e,hj,?_⟩
         subst hj
         rw [List.getD_eq_getElem?_getD,List.getElem?_set_self hl];rfl
       · left
         simp only [List.getD_eq_getElem?_getD]
         rw [List.getElem?_eq_none (by simp;omega),List.getElem?_eq_none (by omega)]
     · left
       simp only [List.getD_eq_getElem?_getD]
       rw [List.getElem?_set_ne (Ne.symm hj)]
   · exact .inl rfl
 · exact .inl rfl
theorem wL {M:Mm} {cell dq:Int} (h:hU M cell dq=true):(1≤cell∧cell≤8)∧0≤dq∧dq<(M (cell-1).toNat).length:=by
 unfold hU k8 at h
 split at h
 · rename_i hh
   refine⟨hh,?_⟩
   simpa using h
 · simp at h;omega
def iM (k:Nat) (x:Int):Prop:=0≤x∧x / 64≤k∧x % 64≤16
theorem iM.mono {k k':Nat} {x:Int} (h:iM k x) (hk:k≤k'):iM k' x:=⟨h.1,by have:=h.2.1;omega,h.2.2⟩
theorem iM.zero (k:Nat):iM k 0:=⟨by omega,by omega,by omega⟩
def iz (c:bC) (d5 x:Int):Prop:=0≤x∧gP x<c.nb∧(0≤gP x→cG c (gP x)=d5)
def lq (c:bC) (d5 x:Int):Prop:=0≤x∧x≤c.nb∧(0<x→cG c (x-1)=d5)
theorem nf {c:bC} (hc:b9 c):0≤c.nb:=by
 have h0:=hc.k0
 have h1:=hc.k1
 have h3:=hc.k2
 have h4:=hc.k3
 have e:c.nb=c.c0+c.c1+c.c2+c.c3:=rfl
 omega
theorem u4:gP 0 = -1:=by decide
theorem iz.zero {c:bC} (hc:b9 c) (d5:Int):iz c d5 0:=by
 have h:=nf hc
 refine⟨by omega,by rw [u4];omega,fun e=>?_⟩
 rw [u4] at e
 omega
theorem lq.zero {c:bC} (hc:b9 c) (d5:Int):lq c d5 0:=⟨by omega,nf hc,fun e=>by omega⟩
structure jN (c:bC) (nt k:Nat) (M:Mm):Prop where
 l0:((M 0).length:Int)=c.aQ+c.nb
 l1:((M 1).length:Int)=c.an
 l2:(M 2).length=1
 l3:(M 3).length=1
 l4:(M 4).length=1
 l5:(M 5).length=nt
 l6:(M 6).length=4
 l7:((M 7).length:Int)=c.nb
 head:∀i:Nat,iz c i ((M 6).getD i 0)
 next:∀b:Nat,lq c (cG c b) ((M 7).getD b 0)
 tD:0≤(M 2).getD 0 0∧(M 2).getD 0 0≤k
 SN:0≤(M 3).getD 0 0∧(M 3).getD 0 0≤k
 Uy:∀i:Nat,iM k ((M 1).getD i 0)
theorem jN.mono {c:bC} {nt k k':Nat} {M:Mm} (h:jN c nt k M) (hk:k≤k'):jN c nt k' M:=
 ⟨h.l0,h.l1,h.l2,h.l3,h.l4,h.l5,h.l6,h.l7,h.head,h.next,by have:=h.tD;omega,by have:=h.SN;omega,fun i=>(h.Uy i).mono hk⟩
theorem jN.op {c:bC} {nt k k':Nat} {M:Mm} (h:jN c nt k M) (hk:k≤k') (cell dq:Int) (g:Int→Int×Bool)
 (hv:hU M cell dq=true→(cell=7→iz c dq (g ((k8 M cell).getD dq.toNat 0)).1)∧
  (cell=8→lq c (cG c dq) (g ((k8 M cell).getD dq.toNat 0)).1)∧
  (cell=3∨cell=4→0≤(g ((k8 M cell).getD dq.toNat 0)).1∧(g ((k8 M cell).getD dq.toNat 0)).1≤k')∧
  (cell=2→iM k' (g ((k8 M cell).getD dq.toNat 0)).1)):jN c nt k' (pB M cell dq g):=by
 have bA:hU M cell dq=true→(1≤cell∧cell≤8)∧0≤dq:=fun h=>⟨(wL h).1,(wL h).2.1⟩
 refine⟨by rw [nQ];exact h.l0,by rw [nQ];exact h.l1,by rw [nQ];exact h.l2,by rw [nQ];exact h.l3,by rw [nQ];exact h.l4,by rw [nQ];exact h.l5,by rw [nQ];exact h.l6,by rw [nQ];exact h.l7,?_,?_,?_,?_,?_⟩
 · intro i
   rcases yB M cell dq g 6 i with h1|⟨h1,h2,h3,h4⟩
   · rw [h1];exact h.head i
   · have hr:=bA h1
     have:=(hv h1).1 (by omega)
     rw [h4]
     have e:dq=(i:Int):=by omega
     rw [e] at this ⊢
     exact this
 · intro i
   rcases yB M cell dq g 7 i with h1|⟨h1,h2,h3,h4⟩
   · rw [h1];exact h.next i
   · have hr:=bA h1
     have:=(hv h1).2.1 (by omega)
     rw [h4]
     have e:dq=(i:Int):=by omega
     rw [e] at this ⊢
     exact this
 · rcases yB M cell dq g 2 0 with h1|⟨h1,h2,h3,h4⟩
   · rw [h1];have:=h.tD;omega
   · have hr:=bA h1
     rw [h4]
     exact(hv h1).2.2.1 (by omega)
 · rcases yB M cell dq g 3 0 with h1|⟨h1,h2,h3,h4⟩
   · rw [h1];have:=h.SN;omega
   · have hr:=bA h1
     rw [h4]
     exact(hv h1).2.2.1 (by omega)
 · intro i
   rcases yB M cell dq g 1 i with h1|⟨h1,h2,h3,h4⟩
   · rw [h1];exact(h.Uy i).mono hk
   · have hr:=bA h1
     rw [h4]
     exact(hv h1).2.2.2 (by omega)
theorem jN.QH {c:bC} {nt k k':Nat} {M:Mm} (h:jN c nt k M) (hk:k≤k') (cell dq:Int) (g:Int→Int×Bool) (h1:cell≠7∧cell≠8∧cell≠3∧cell≠4∧cell≠2):jN c nt k' (pB M cell dq g):=
 h.op hk cell dq g fun _=>⟨fun e=>absurd e h1.1,fun e=>absurd e h1.2.1,fun e=>by rcases e with e|e;exact absurd e h1.2.2.1;exact absurd e h1.2.2.2.1,fun e=>absurd e h1.2.2.2.2⟩
theorem jN.WL {c:bC} {nt k k':Nat} {M:Mm} (h:jN c nt k M) (hk:k≤k') (dq:Int) (g:Int→Int×Bool) (h1:iM k' (g ((k8 M 2).getD dq.toNat 0)).1):jN c nt k' (pB M 2 dq g):=
 h.op hk 2 dq g fun _=>⟨fun e=>by omega,fun e=>by omega,fun e=>by omega,fun _=>h1⟩
theorem BX {h:Int} (h0:0≤h):gP h=h % 65536-1:=by
 unfold gP
 rw [Int.tmod_eq_emod_of_nonneg h0]
 rw [aw (x:=h % 65536) (by omega) (by omega),aw (by omega) (by omega)]
theorem D0 {h:Int} (h0:0≤h):-1≤gP h∧gP h≤65534:=by rw [BX h0];omega
theorem Je (t p:Int):0≤nh t p∧(gP (nh t p)=p∨gP (nh t p) = -1):=by
 unfold nh
 split
 · rename_i h
   refine⟨by omega,.inl ?_⟩
   rw [BX (by omega)]
   omega
 · exact⟨by omega,.inr u4⟩
theorem zt {c:bC} (hc:b9 c) {h p d5:Int} (hp:p<c.nb) (i8:0≤p→cG c p=d5):iz c d5 (lS h p):=by
 have xj:=nf hc
 obtain⟨h1,h2⟩:=Je ((IntKind.i64.wrap (Kn h+1)).tmod 281474976710656) p
 refine⟨h1,?_,fun h0=>?_⟩
 · show gP (nh _ _)<c.nb
   rcases h2 with h2|h2<;>rw [h2]<;>omega
 · have Mz:0≤gP (nh ((IntKind.i64.wrap (Kn h+1)).tmod 281474976710656) p):=h0
   show cG c (gP (nh _ _))=d5
   rcases h2 with h2|h2
   · rw [h2] at Mz ⊢;exact i8 Mz
   · rw [h2] at Mz;omega
def SJ (c:bC):Fu→Prop
 | .k4 a _=>0≤a
 | .cM b _=>0≤b∧b<c.nb
 | _=>True
def NX (c:bC):zM→Prop
 | .take=>True
 | .cM b=>0≤b∧b<c.nb
structure jw (s:aT):Prop where
 an:s.an=[]
 aI:s.aI=none
 aH:s.aH=none
 ao:s.ao=0
 Ql:s.aj=false
structure uT (k:Nat) (l:gy):Prop where
 dY:iM k l.dY
 load:l.fw=true→l.dY % 64=0
 eo:∀w∈l.eo,iM k w∧w % 64=0
theorem uT.mono {k k':Nat} {l:gy} (h:uT k l) (hk:k≤k'):uT k' l:=⟨h.dY.mono hk,h.load,fun w hw=>⟨((h.eo w hw).1).mono hk,(h.eo w hw).2⟩⟩
def qn (k:Nat) (s:aT):Prop:=(s.an=[]∧s.aI=none)∨∃l,s.aI=some l∧l.an=s.an∧l.eo.length=s.an.length∧0<s.an.length∧uT k l
def kW (k:Nat) (s:aT):Prop:=qn k s∧(s.gQ=true↔0<s.an.length)
theorem qn.mono {k k':Nat} {s:aT} (h:qn k s) (hk:k≤k'):qn k' s:=by
 rcases h with h|⟨l,h1,h2,h3,h4,h5⟩
 · exact .inl h
 · exact .inr ⟨l,h1,h2,h3,h4,h5.mono hk⟩
theorem kW.mono {k k':Nat} {s:aT} (h:kW k s) (hk:k≤k'):kW k' s:=⟨h.1.mono hk,h.2⟩
def vk (s:aT):List Int:=if s.aj=true then List.replicate s.an.length (kN s.qE) else s.eo
structure iA (c:bC) (k:Nat) (s:aT):Prop where
 cf:s.cf=c
 Ki:0≤s.am∧s.am<16
 bp:lV s.bp
 ew:s.bp.ew=c.bN.toNat
 dq:s.bp.index.length≤64
 Dn:∀a∈s.bp.bU,0≤a∧a<c.aQ+c.nb
 JU:∀x∈s.ai,0≤x∧x<c.nb
 kT:(s.ai.length:Int)≤c.ai
 push:s.ao≤s.ai.length
 set:s.set.length≤c.reads.toNat
 Pe:s.reads.Nodup
 Pb:∀a∈s.reads,0≤a∧a<c.aQ
 xn:(s.av.length:Int)≤c.av
 tD:0≤s.ax∧s.ax≤k
 Rr:s.an.length≤64
 Tv:∀x∈s.an,0≤x∧x<c.an
def SL (c:bC) (k:Nat) (s:aT):aU→Prop
 | .bK=>s.aA≠2→jw s
 | .gZ l=>jw s∧SJ c l
 | .eN=>jw s∧∃e,s.bL=some e∧(0≤e.ax∧e.ax≤k)∧(0≤e.bX∧e.bX≤2)∧e.am=s.am
 | .bm r u=>jw s∧(0≤r.bX∧r.bX≤2)∧r.fO=fD c r.c8∧r.gb=false∧NX c u∧(0≤r.c8∧r.c8<c.aQ+c.nb)∧r.rv=s.rv
 | .eL p=>jw s∧(s.ai.length:Int)<c.ai∧(0≤p.d5∧p.d5≤3)∧iz c p.d5 p.head∧lq c p.d5 p.next∧p.block = -1∧(0≤p.bX∧p.bX≤2)∧(1≤p.bX→0≤gP p.head)
 | .eR=>(s.aH=none∧s.ao=0∧s.aj=false)∧(s.ay=1∧s.gQ=true)∧∃l,s.aI=some l∧l.an=s.an∧l.am=s.am∧l.eo.length<l.an.length∧uT k l
 | .db=>(s.ao=0∧s.aj=false)∧kW k s∧∃t,s.aH=some t∧t.done=false∧(0≤t.je∧t.je≤k)
 | .dM ck=>(s.ao=0∧s.aj=false)∧kW k s∧(∃t,s.aH=some t)∧ck.ik=false∧(∃q,q<s.set.length∧ck.an=s.set.drop q)∧ck.rv=s.rv
 | .cu=>(s.ao=0∧s.aj=false)∧kW k s∧∃t,s.aH=some t
 | .ee w=>s.ao=0∧(s.aj=true∧s.gQ=true)∧kW k s∧(∃t,s.aH=some t)∧∃q,q<s.bp.bU.length∧w=⟨s.bp.bU.drop q,s.bp.ey.drop q⟩
 | .cD w=>s.ao=0∧(s.aj=true→s.gQ=true)∧qn k s∧(∃t,s.aH=some t)∧∃q,q<s.an.length∧w=⟨s.an.drop q,(vk s).drop q⟩
 | .gV=>s.ao=0∧(s.aj=true∧s.gQ=true)∧∃t,s.aH=some t
 | .fL=>s.ao=0∧∃t,s.aH=some t
 | .eK p=>s.ay≠1∧s.ao<s.ai.length∧p.block=s.ai.getD s.ao 0∧p.d5=cG c p.block∧iz c p.d5 p.head∧(0≤p.bX∧p.bX≤2)
 | .hP=>True
structure nE (c:bC) (k:Nat) (s:aT):Prop where
 b:iA c k s
 d:SL c k s s.aG
theorem iA.mono {c:bC} {k k':Nat} {s:aT} (h:iA c k s) (hk:k≤k'):iA c k' s:={ h with tD:=⟨h.tD.1,by have:=h.tD.2;omega⟩ }
theorem nE.mono {c:bC} {k k':Nat} {s:aT} (h:nE c k s) (hk:k≤k'):nE c k' s:=by
 refine⟨h.b.mono hk,?_⟩
 have hd:=h.d
 revert hd
 cases s.aG with
 | eN=>
   rintro ⟨h0,e,h1,h2,h3⟩
   exact⟨h0,e,h1,⟨h2.1,by omega⟩,h3⟩
 | eR=>
   rintro ⟨h0,Ic,l,h1,h2,h3,h4,h5⟩
   exact⟨h0,Ic,l,h1,h2,h3,h4,h5.mono hk⟩
 | db=>
   rintro ⟨h0,hl,t,h1,h2,h3⟩
   exact⟨h0,hl.mono hk,t,h1,h2,h3.1,by omega⟩
 | dM ck=>
   rintro ⟨h0,hl,h1⟩
   exact⟨h0,hl.mono hk,h1⟩
 | cu=>
   rintro ⟨h0,hl,h1⟩
   exact⟨h0,hl.mono hk,h1⟩
 | ee w=>
   rintro ⟨h0,hd,hl,h1⟩
   exact⟨h0,hd,hl.mono hk,h1⟩
 | cD w=>
   rintro ⟨h0,hd,hl,h1⟩
   exact⟨h0,hd,hl.mono hk,h1⟩
 | _=>exact id
theorem iA.to {c:bC} {k:Nat} {s s':aT} (h:iA c k s) (h1:s'.cf=s.cf) (h2:s'.am=s.am) (h3:s'.bp=s.bp) (h4:s'.ai=s.ai) (h5:s'.ao=s.ao) (h6:s'.set=s.set) (h7:s'.reads=s.reads) (h8:s'.av=s.av) (h9:s'.ax=s.ax) (LI:s'.an=s.an):iA c k s':=by
 obtain⟨cf,am,aA,ay,value,bL,aj,reads,ai,av,set,bp,ax,an,aI,aH,ao,aG⟩:=s
 obtain⟨ZN,MK,O7,lR,O3,V8,L1,Pf,NU,P7,Up,UL,Qn,Pj,RA,Rg,MO,Qj⟩:=s'
 dsimp only at h1 h2 h3 h4 h5 h6 h7 h8 h9 LI
 subst h1 h2 h3 h4 h5 h6 h7 h8 h9 LI
 exact⟨h.cf,h.Ki,h.bp,h.ew,h.dq,h.Dn,h.JU,h.kT,h.push,h.set,h.Pe,h.Pb,h.xn,h.tD,h.Rr,h.Tv⟩
section
variable {c:bC} {k:Nat} {s:aT}
theorem LL {l:List Int} {i:Nat} (h:i<l.length):l.getD i 0∈l:=by
 rw [List.getD_eq_getElem?_getD,List.getElem?_eq_getElem h]
 exact List.getElem_mem h
theorem tj (hc:b9 c) (h:iA c k s):nE c k (gJ s):=by
 unfold gJ
 split
 · exact⟨h.to rfl rfl rfl rfl rfl rfl rfl rfl rfl rfl,trivial⟩
 · rename_i hn
   have hp:=h.push
   have dO:s.ao<s.ai.length:=by omega
   refine⟨h.to rfl rfl rfl rfl rfl rfl rfl rfl rfl rfl,fun e=>hn (.inl e),dO,rfl,?_,.zero hc _,by show (0:Int)≤0;omega,by show (0:Int)≤2;omega⟩
   show cG s.cf (s.ai.getD s.ao 0)=cG c (s.ai.getD s.ao 0)
   rw [h.cf]
theorem oS (hc:b9 c) (h:iA c k s) (ay:Int):nE c k (iY s ay):=tj hc (h.to rfl rfl rfl rfl rfl rfl rfl rfl rfl rfl)
theorem pE (l:List Int):(dV l).Pairwise (·< ·)∧∀z,z∈dV l↔z∈l:=by rw [FY];exact qp l
theorem Cl (l:List Int):dV (dV l)=dV l:=by
 obtain⟨h1,h2⟩:=pE l
 obtain⟨h3,h4⟩:=pE (dV l)
 exact G4 _ _ h3 h1 h4
theorem KD {l:List Int} (hl:l.Pairwise (·< ·)) (a:Int):(∀x∈l,a≤x)→∀n:Nat,(∀x∈l,x<a+n)→l.length≤n:=by
 induction l generalizing a with
 | nil=>intro _ n _;simp
 | cons y r ih=>
   intro h1 n h2
   rw [List.pairwise_cons] at hl
   have hy1:=h1 y (by simp)
   have hy2:=h2 y (by simp)
   have:r.length≤n-1:=ih hl.2 (y+1) (fun x hx=>by have:=hl.1 x hx;omega) (n-1) (fun x hx=>by have:=h2 x (by simp [hx]);omega)
   simp only [List.length_cons]
   omega
theorem KE {c:bC} (hc:b9 c) {a:Int} (h:0≤a∧a<c.aQ+c.nb):0≤fD c a∧fD c a<c.an:=by
 have:=hc.an
 unfold fD
 rw [if_pos h,Int.tmod_eq_emod_of_nonneg h.1]
 exact⟨Int.emod_nonneg a (by omega),Int.emod_lt_of_pos a (by omega)⟩
theorem uD (hc:b9 c) (h:iA c k s) (he:jw s) (ay:Int):nE c k (nk s ay):=by
 unfold nk
 split
 · rename_i hs
   simp only [Bool.and_eq_true,decide_eq_true_eq] at hs
   obtain⟨M6,AB⟩:=hs
   have CO:=pE (s.bp.bU.map (fD s.cf))
   have Oz:=Cl (s.bp.bU.map (fD s.cf))
   have hr:∀x∈dV (s.bp.bU.map (fD s.cf)),0≤x∧x<c.an:=fun x hx=>by
    obtain⟨a,ha,rfl⟩:=List.mem_map.1 ((CO.2 x).1 hx)
    rw [h.cf];exact KE hc (h.Dn a ha)
   refine⟨{ h.to (s':={ s with ay:=ay,aI:=some ⟨s.am,dV (dV (s.bp.bU.map (fD s.cf))),[],0,false⟩,aG:=.eR }) rfl rfl rfl rfl rfl rfl rfl rfl rfl rfl with Rr:=?_,Tv:=hr },⟨he.aH,he.ao,he.Ql⟩,⟨M6,?_⟩,_,rfl,Oz,rfl,?_,⟨.zero _,fun e=>(by cases e),fun w hw=>(by cases hw)⟩⟩
   · show (dV (s.bp.bU.map (fD s.cf))).length≤64
     have ho:=hc.an
     have:=KD CO.1 0 (fun x hx=>(hr x hx).1) c.an.toNat fun x hx=>by have:=(hr x hx).2;omega
     omega
   · show (decide (ay=1) && decide (0<s.bp.bU.length))=true
     simp [M6,AB]
   · show 0<(dV (dV (s.bp.bU.map (fD s.cf)))).length
     rw [Oz]
     have hm:fD s.cf s.bp.bU[0]∈dV (s.bp.bU.map (fD s.cf)):=(CO.2 _).2 (List.mem_map.2 ⟨_,List.getElem_mem AB,rfl⟩)
     exact List.length_pos_of_mem hm
 · rename_i hs
   refine⟨h.to rfl rfl rfl rfl rfl rfl rfl rfl rfl rfl,⟨he.ao,he.Ql⟩,⟨.inl ⟨he.an,he.aI⟩,⟨fun e=>absurd e hs,fun e=>?_⟩⟩,_,rfl,rfl,?_⟩
   · rw [show ({ s with ay:=ay,aH:=some ⟨false,0,false⟩,aG:=aU.db }:aT).an=s.an from rfl,he.an] at e;simp at e
   show (0:Int)≤0∧(0:Int)≤k
   omega
theorem qP (h:iA c k s) (hp:s.ao=0) (hl:qn k s) (hd:s.aj=true→s.an=[]) (ht:∃t,s.aH=some t):nE c k (ga s):=by
 unfold ga
 split
 · exact⟨h.to rfl rfl rfl rfl rfl rfl rfl rfl rfl rfl,hp,ht⟩
 · rename_i hn
   have Xf:s.aj=false:=by
    cases e:s.aj with
    | false=>rfl
    | true=>rw [hd e] at hn;simp at hn
   refine⟨h.to rfl rfl rfl rfl rfl rfl rfl rfl rfl rfl,hp,fun e=>?_,hl,ht,0,by show 0<s.an.length;omega,?_⟩
   · rw [show ({ s with aG:=aU.cD ⟨s.an,s.eo⟩ }:aT).aj=s.aj from rfl,Xf] at e;cases e
   · rw [List.drop_zero,List.drop_zero]
     show (⟨s.an,s.eo⟩:iQ)=⟨s.an,vk _⟩
     unfold vk
     rw [if_neg (by show ¬s.aj=true;rw [Xf];decide)]
     rfl
theorem jw.to {s s':aT} (h:jw s) (h1:s'.an=s.an) (h2:s'.aI=s.aI) (h3:s'.aH=s.aH) (h4:s'.ao=s.ao) (h5:s'.aj=s.aj):jw s':=
 ⟨h1.trans h.an,h2.trans h.aI,h3.trans h.aH,h4.trans h.ao,h5.trans h.Ql⟩
theorem pX (s:nK) (a v:Int):(eB s a v).2.ew=s.ew∧(eB s a v).2.index.length=s.index.length∧(∀x∈(eB s a v).2.bU,x∈s.bU∨x=a):=by
 unfold eB
 split
 · exact⟨rfl,rfl,fun x hx=>.inl hx⟩
 · split
   · exact⟨rfl,rfl,fun x hx=>.inl hx⟩
   · refine⟨rfl,by simp,fun x hx=>?_⟩
     rw [List.mem_append] at hx
     rcases hx with hx|hx
     · exact .inl hx
     · exact .inr (by simpa using hx)
theorem iA.put (h:iA c k s) {a:Int} (ha:0≤a∧a<c.aQ+c.nb) (v:Int):iA c k { s with bp:=(eB s.bp a v).2 }:=by
 obtain⟨h1,h2,h3⟩:=pX s.bp a v
 refine⟨h.cf,h.Ki,Bu h.bp ha.1 v,h1.trans h.ew,by have:=h.dq;show (eB s.bp a v).2.index.length≤64;omega,?_,h.JU,h.kT,h.push,h.set,h.Pe,h.Pb,h.xn,h.tD,h.Rr,h.Tv⟩
 intro x hx
 rcases h3 x hx with h4|h4
 · exact h.Dn x h4
 · subst h4;exact ha
structure Fs (s s':aT):Prop where
 aG:s'.aG=s.aG
 an:s'.an=s.an
 aI:s'.aI=s.aI
 aH:s'.aH=s.aH
 ao:s'.ao=s.ao
 Ql:s'.aj=s.aj
 cf:s'.cf=s.cf
 av:s'.av=s.av
theorem Fs.LZ {s s':aT} (h:Fs s s') (he:jw s):jw s':=he.to h.an h.aI h.aH h.ao h.Ql
theorem Fs.trans {s s' Wz:aT} (h:Fs s s') (h':Fs s' Wz):Fs s Wz:=
 ⟨h'.aG.trans h.aG,h'.an.trans h.an,h'.aI.trans h.aI,h'.aH.trans h.aH,h'.ao.trans h.ao,h'.Ql.trans h.Ql,h'.cf.trans h.cf,h'.av.trans h.av⟩
theorem xr (hc:b9 c) (h:iA c k s) {a:Int} (ha:0≤a∧a<c.aQ+c.nb) (v:Int):((jj s a v).1=true∧iA c k (jj s a v).2∧Fs s (jj s a v).2)∨((jj s a v).1=false∧nE c k (jj s a v).2):=by
 unfold jj
 split
 · exact .inl ⟨rfl,h.put ha v,rfl,rfl,rfl,rfl,rfl,rfl,rfl,rfl⟩
 · exact .inr ⟨rfl,oS hc h 3⟩
theorem Bx (h:iA c k s) (he:jw s) (hd:s.aG=.bK):nE c k s:=⟨h,by rw [hd];exact fun _=>he⟩
theorem BF (hc:b9 c) (h:iA c k s) (he:jw s) (hd:s.aG=.bK) (b st:Int) (hb:0≤b∧b<c.nb):nE c k (jK s b st):=by
 have sx:=h.cf
 subst sx
 unfold jK
 split
 · exact uD hc h he 8
 · split
   · exact oS hc h 3
   · rename_i hf
     have hw:=hc.aQ
     rcases xr hc h (a:=s.cf.aQ+b) (by omega) 0 with ⟨h1,h2,h3⟩|⟨h1,h2⟩
     · rw [if_pos h1]
       refine Bx ?_ ((h3.LZ he).to rfl rfl rfl rfl rfl) (h3.aG.trans hd)
       refine { h2.to (s':={ (jj s (s.cf.aQ+b) 0).2 with av:=s.av }) rfl rfl rfl rfl rfl rfl rfl h3.av.symm rfl rfl with xn:=?_ }
       show ((s.av++[b]).length:Int)≤s.cf.av
       simp only [List.length_append,List.length_cons,List.length_nil]
       omega
     · rw [if_neg (by rw [h1];decide)];exact h2
theorem AU (hc:b9 c):∀(n:Nat) (a:Int) (s:aT),iA c k s→0≤a→a+n≤c.aQ+c.nb→((gO n a s).1=true∧iA c k (gO n a s).2∧Fs s (gO n a s).2)∨((gO n a s).1=false∧nE c k (gO n a s).2)
 | 0,a,s,h,_,_=>.inl ⟨rfl,h,rfl,rfl,rfl,rfl,rfl,rfl,rfl,rfl⟩
 | n+1,a,s,h,h0,hn=>by
   unfold gO
   rcases xr hc h (a:=a) (by omega) 0 with ⟨h1,h2,h3⟩|⟨h1,h2⟩
   · rw [if_pos h1]
     rcases AU hc n (a+1) _ h2 (by omega) (by omega) with ⟨g1,g2,g3⟩|⟨g1,g2⟩
     · exact .inl ⟨g1,g2,h3.trans g3⟩
     · exact .inr ⟨g1,g2⟩
   · rw [if_neg (by rw [h1];decide)];exact .inr ⟨rfl,h2⟩
theorem AR (hc:b9 c) (h:iA c k s) (he:jw s) (hd:s.aG=.bK) (hl:(s.ai.length:Int)<c.ai) (d5 b:Int) (hb:-1≤b∧b<c.nb) (vG:0≤b→cG c b=d5):nE c k (fU s d5 b):=by
 have sx:=h.cf
 subst sx
 unfold fU
 split
 · exact oS hc h 4
 · rename_i P2
   have hw:=hc.aQ
   have rM:=ul hc b (by omega)
   have i8:=vG (by omega)
   have xj:=nf hc
   have h1:iA s.cf k { s with ai:=s.ai++[b] }:=by
    refine⟨rfl,h.Ki,h.bp,h.ew,h.dq,h.Dn,?_,?_,?_,h.set,h.Pe,h.Pb,h.xn,h.tD,h.Rr,h.Tv⟩
    · intro x hx
      rw [List.mem_append] at hx
      rcases hx with hx|hx
      · exact h.JU x hx
      · have:x=b:=by simpa using hx
        omega
    · show ((s.ai++[b]).length:Int)≤s.cf.ai
      simp only [List.length_append,List.length_cons,List.length_nil]
      omega
    · show s.ao≤(s.ai++[b]).length
      have:=h.push
      simp only [List.length_append,List.length_cons,List.length_nil]
      omega
   have e1:jw { s with ai:=s.ai++[b] }:=he.to rfl rfl rfl rfl rfl
   dsimp only
   rcases xr hc h1 (a:=s.cf.aQ+b) (by omega) (d5+1) with ⟨g1,g2,g3⟩|⟨g1,g2⟩
   · rw [if_pos g1]
     have ZF:((2 ^ d5.toNat:Nat):Int)=2 ^ (cG s.cf b).toNat:=by rw [i8];push_cast;rfl
     rcases AU hc (2 ^ d5.toNat) (gs s.cf b) _ g2 rM.2.1 (by rw [ZF];have:=rM.2.2;omega) with ⟨z1,z2,z3⟩|⟨z1,z2⟩
     · rw [if_pos z1]
       have Ok:=g3.trans z3
       exact Bx (z2.to rfl rfl rfl rfl rfl rfl rfl rfl rfl rfl) ((Ok.LZ e1).to rfl rfl rfl rfl rfl) (Ok.aG.trans hd)
     · rw [if_neg (by rw [z1];decide)];exact z2
   · rw [if_neg (by rw [g1];decide)];exact g2
theorem MZ (hc:b9 c) (h:iA c k s) (he:jw s) (hd:s.aG=.bK) (l:Fu) (hl:SJ c l):nE c k (rU s l):=by
 cases l with
 | qq=>exact uD hc h he 7
 | L4=>exact uD hc h he 8
 | bS ay=>exact uD hc h he ay
 | take v=>exact Bx (h.to rfl rfl rfl rfl rfl rfl rfl rfl rfl rfl) (he.to rfl rfl rfl rfl rfl) hd
 | k4 a v=>
   have hw:=hc.aQ
   show nE c k (if s.cf.aQ≤a then nk s 7 else (jj s a v).2)
   split
   · exact uD hc h he 7
   · rename_i hn
     rw [h.cf] at hn
     rcases xr hc h (a:=a) ⟨hl,by have:=nf hc;omega⟩ v with ⟨h1,h2,h3⟩|⟨h1,h2⟩
     · exact Bx h2 (h3.LZ he) (h3.aG.trans hd)
     · exact h2
 | y6=>exact oS hc h 3
 | cM b v=>exact BF hc h he hd b v hl
theorem MH (hc:b9 c) (h:iA c k s) (he:jw s) (hd:s.aG=.bK) (v:Int) (u:zM) (hu:NX c u):nE c k (xR s v u):=by
 cases u with
 | take=>exact Bx (h.to rfl rfl rfl rfl rfl rfl rfl rfl rfl rfl) (he.to rfl rfl rfl rfl rfl) hd
 | cM b=>exact BF hc h he hd b v hu
end
def mL (c:bC) (nt k:Nat) (r:qy):Prop:=nE c (k+1) r.2.2.1∧jN c nt (k+1) r.2.2.2
theorem mL.of {c:bC} {nt k:Nat} {a:ba} {ph:Int} {s':aT} {M':Mm} (h1:nE c (k+1) s') (h2:jN c nt (k+1) M'):mL c nt k (a,ph,s',M'):=⟨h1,h2⟩
section
variable {c:bC} {nt k:Nat} {s:aT} {M:Mm}
theorem Ie (hM:jN c nt k M) (fY:Int) (g:Int→Int×Bool):0≤(fz M fY 3 0 g).fg∧(fz M fY 3 0 g).fg≤k:=by
 rcases oZ M fY 3 0 g with h|⟨_,h⟩
 · rw [h];omega
 · rw [h];exact hM.tD
theorem Nv (hM:jN c nt k M) (fY:Int) (g:Int→Int×Bool):0≤(fz M fY 4 0 g).fg∧(fz M fY 4 0 g).fg≤k:=by
 rcases oZ M fY 4 0 g with h|⟨_,h⟩
 · rw [h];omega
 · rw [h];exact hM.SN
theorem y5 (hc:b9 c) (hM:jN c nt k M) (fY:Int) {dq:Int} (hi:0≤dq) (g:Int→Int×Bool):iz c dq (fz M fY 7 dq g).fg:=by
 rcases oZ M fY 7 dq g with h|⟨_,h⟩
 · rw [h];exact .zero hc _
 · have e:dq=(dq.toNat:Int):=by omega
   have:=hM.head dq.toNat
   rw [h]
   rw [←e] at this
   exact this
theorem LK (hc:b9 c) (hM:jN c nt k M) (fY:Int) {dq:Int} (hi:0≤dq) (g:Int→Int×Bool):lq c (cG c dq) (fz M fY 8 dq g).fg:=by
 rcases oZ M fY 8 dq g with h|⟨_,h⟩
 · rw [h];exact .zero hc _
 · have e:dq=(dq.toNat:Int):=by omega
   have:=hM.next dq.toNat
   rw [h]
   rw [←e] at this
   exact this
theorem C0 (e:gH) (M:Mm) (sz:0≤e.bX∧e.bX≤2):(e.bX=0∧gj e M=(zN M 6 e.am 1,{ e with bX:=1 },Ck M 6 e.am 1)) ∨
 (e.bX=1∧gj e M=(gI M 3 0,{ e with bX:=2,ax:=(gI M 3 0).fg },M)) ∨
 (e.bX=2∧gj e M=(zN M 6 e.am (IntKind.u64.wrap (e.ax+2)),{ e with bX:=3 },Ck M 6 e.am (IntKind.u64.wrap (e.ax+2)))):=by
 unfold gj
 by_cases h0:e.bX=0
 · exact .inl ⟨h0,if_pos h0⟩
 · by_cases h1:e.bX=1
   · exact .inr (.inl ⟨h1,by rw [if_neg h0,if_pos h1]⟩)
   · have h2:e.bX=2:=by omega
     exact .inr (.inr ⟨h2,by rw [if_neg h0,if_neg h1,if_pos h2]⟩)
theorem G6 (hM:jN c nt k M) (h:iA c k s) (he:jw s) (e:gH) (AG:0≤e.ax∧e.ax≤k) (sz:0≤e.bX∧e.bX≤2) (ht:e.am=s.am) (hd:s.aG=.eN):mL c nt k (hW s M e):=by
 have hb:=h.mono (Nat.le_succ k)
 unfold hW
 rcases C0 e M sz with ⟨h0,e0⟩|⟨h0,e0⟩|⟨h0,e0⟩
 · rw [e0]
   dsimp only
   rw [if_neg (by decide)]
   refine⟨⟨hb.to rfl rfl rfl rfl rfl rfl rfl rfl rfl rfl,?_⟩,hM.QH (by omega) _ _ _ (by decide)⟩
   show SL c (k+1) _ s.aG
   rw [hd]
   refine⟨he.to rfl rfl rfl rfl rfl,_,rfl,⟨AG.1,?_⟩,by show (0:Int)≤1∧(1:Int)≤2;omega,ht⟩
   show e.ax≤((k+1:Nat):Int)
   have:=AG.2
   omega
 · rw [e0]
   dsimp only
   rw [if_neg (by decide)]
   refine⟨⟨hb.to rfl rfl rfl rfl rfl rfl rfl rfl rfl rfl,?_⟩,hM.mono (by omega)⟩
   show SL c (k+1) _ s.aG
   rw [hd]
   have hg:=Ie hM 1 kM
   refine⟨he.to rfl rfl rfl rfl rfl,_,rfl,⟨hg.1,?_⟩,by show (0:Int)≤2∧(2:Int)≤2;omega,ht⟩
   show (fz M 1 3 0 kM).fg≤((k+1:Nat):Int)
   have:=hg.2
   omega
 · rw [e0]
   dsimp only
   rw [if_pos rfl]
   exact⟨Bx (hb.to rfl rfl rfl rfl rfl rfl rfl rfl rfl rfl) (he.to rfl rfl rfl rfl rfl) rfl,hM.QH (by omega) _ _ _ (by decide)⟩
theorem IR {l:List Int} {a:Int} (h:l.Nodup) (ha:¬a∈l):(l++[a]).Nodup:=by
 rw [List.nodup_append]
 refine⟨h,by simp,?_⟩
 intro x hx y hy e
 have:y=a:=by simpa using hy
 subst this
 subst e
 exact ha hx
theorem F1 {ew:Nat} {l:List Int} (x:Int) (h:l.length≤ew):(dF ew l x).2.length≤ew:=by
 unfold dF
 split
 · exact h
 · split
   · exact h
   · simp;omega
theorem D9 (r:gN) (M:Mm):(dE r M).2.1.c8=r.c8∧(dE r M).2.1.fO=r.fO∧(dE r M).2.1.rv=r.rv∧(dE r M).2.2=M:=by
 unfold dE
 dsimp only
 by_cases h0:r.bX=0
 · rw [if_pos h0]
   dsimp only
   split<;>exact⟨rfl,rfl,rfl,rfl⟩
 · rw [if_neg h0]
   by_cases h1:r.bX=1
   · rw [if_pos h1];exact⟨rfl,rfl,rfl,rfl⟩
   · rw [if_neg h1]
     by_cases h2:r.bX=2
     · rw [if_pos h2];exact⟨rfl,rfl,rfl,rfl⟩
     · rw [if_neg h2];exact⟨rfl,rfl,rfl,rfl⟩
theorem Ea (r:gN) (M:Mm) (sz:0≤r.bX∧r.bX≤2) (sx:r.gb=false) (lm:(dE r M).2.1.done=false):(dE r M).2.1.gb=false∧0≤(dE r M).2.1.bX∧(dE r M).2.1.bX≤2:=by
 revert lm
 unfold dE
 dsimp only
 by_cases h0:r.bX=0
 · rw [if_pos h0]
   dsimp only
   split
   · intro lm;simp [gN.done] at lm
   · intro _;exact⟨sx,by dsimp only;omega,by dsimp only;omega⟩
 · rw [if_neg h0]
   by_cases h1:r.bX=1
   · rw [if_pos h1];intro _;exact⟨sx,by dsimp only;omega,by dsimp only;omega⟩
   · have h2:r.bX=2:=by omega
     rw [if_neg h1,if_pos h2]
     intro lm;simp [gN.done] at lm
theorem IM (hc:b9 c) (hM:jN c nt k M) (h:iA c k s) (he:jw s) (r:gN) (u:zM) (hd:s.aG=.bm r u) (sz:0≤r.bX∧r.bX≤2) (ho:r.fO=fD c r.c8) (sx:r.gb=false) (hu:NX c u) (ha:0≤r.c8∧r.c8<c.aQ+c.nb) (YI:r.rv=s.rv):mL c nt k (dw s M r u):=by
 have hb:=h.mono (Nat.le_succ k)
 obtain⟨i1,i2,i3,i4⟩:=D9 r M
 have LD:=Ea r M sz sx
 unfold dw
 dsimp only
 split
 · rename_i lm
   obtain⟨g1,g2,g3⟩:=LD lm
   refine⟨⟨hb.to rfl rfl rfl rfl rfl rfl rfl rfl rfl rfl,he.to rfl rfl rfl rfl rfl,⟨g2,g3⟩,?_,g1,hu,?_,?_⟩,by rw [i4];exact hM.mono (by omega)⟩
   · rw [i2,i1];exact ho
   · rw [i1];exact ha
   · rw [i3];exact YI
 · split
   · exact⟨oS hc hb 9,by rw [i4];exact hM.mono (by omega)⟩
   · have h2:∀s2:aT,s2=(if r.c8<s.cf.aQ∧¬r.c8∈s.reads then { s with aG:=.bm (dE r M).2.1 u,reads:=s.reads++[r.c8] } else { s with aG:=.bm (dE r M).2.1 u })→iA c (k+1) s2∧jw s2∧s2.cf=s.cf∧s2.set=s.set:=by
      rintro _ rfl
      split
      · rename_i hn
        refine⟨{ hb.to (s':={ s with aG:=.bm (dE r M).2.1 u }) rfl rfl rfl rfl rfl rfl rfl rfl rfl rfl with Pe:=IR h.Pe hn.2,Pb:=?_ },he.to rfl rfl rfl rfl rfl,rfl,rfl⟩
        intro a hx
        have hx:a∈s.reads++[r.c8]:=hx
        rw [List.mem_append] at hx
        rcases hx with hx|hx
        · exact h.Pb a hx
        · have:a=r.c8:=by simpa using hx
          rw [h.cf] at hn
          omega
      · exact⟨hb.to rfl rfl rfl rfl rfl rfl rfl rfl rfl rfl,he.to rfl rfl rfl rfl rfl,rfl,rfl⟩
     generalize AB:(if r.c8<s.cf.aQ∧¬r.c8∈s.reads then { s with aG:=aU.bm (dE r M).2.1 u,reads:=s.reads++[r.c8] } else { s with aG:=aU.bm (dE r M).2.1 u }:aT)=s2
     obtain⟨b2,e2,c2,t2⟩:=h2 s2 AB.symm
     split
     · rename_i jB
       refine mL.of ?_ (by rw [i4];exact hM.mono (by omega))
       refine MH hc ?_ ?_ rfl _ _ hu
       case refine_2=>exact e2.to rfl rfl rfl rfl rfl
       refine { b2.to (s':={ s2 with aG:=.bK }) rfl rfl rfl rfl rfl rfl rfl rfl rfl rfl with set:=?_ }
       show (dF s.cf.reads.toNat s.set r.fO).2.length≤c.reads.toNat
       rw [h.cf]
       exact F1 _ h.set
     · exact⟨oS hc b2 3,by rw [i4];exact hM.mono (by omega)⟩
theorem sq (p:oO) (M:Mm) (sz:0≤p.bX∧p.bX≤2):(p.bX=0∧fK p M=(gI M 7 p.d5,{ p with head:=(gI M 7 p.d5).fg,bX:=if gP (gI M 7 p.d5).fg<0 then 3 else 1 },M)) ∨
 (p.bX=1∧fK p M=(gI M 8 (gP p.head),{ p with next:=(gI M 8 (gP p.head)).fg,bX:=2 },M)) ∨
 (p.bX=2∧∃w,w=lS p.head (IntKind.i64.wrap (IntKind.i64.wrap p.next-1))∧fK p M=(Aa M 7 p.d5 p.head w,if (Aa M 7 p.d5 p.head w).done=true then { p with bX:=3,block:=gP p.head } else { p with bX:=0 },ML M 7 p.d5 p.head w)):=by
 unfold fK
 by_cases h0:p.bX=0
 · exact .inl ⟨h0,if_pos h0⟩
 · by_cases h1:p.bX=1
   · exact .inr (.inl ⟨h1,by rw [if_neg h0,if_pos h1]⟩)
   · have h2:p.bX=2:=by omega
     exact .inr (.inr ⟨h2,_,rfl,by rw [if_neg h0,if_neg h1,if_pos h2]⟩)
theorem KA (hc:b9 c) (hM:jN c nt k M) (h:iA c k s) (he:jw s) (p:oO) (hl:(s.ai.length:Int)<c.ai) (i8:0≤p.d5∧p.d5≤3) (hh:iz c p.d5 p.head) (hn:lq c p.d5 p.next) (hb:p.block = -1) (sz:0≤p.bX∧p.bX≤2) (Se:1≤p.bX→0≤gP p.head):mL c nt k (lN s M p):=by
 have rN:=h.mono (Nat.le_succ k)
 have xj:=nf hc
 have bS:∀(b:Int),-1≤b∧b<c.nb→(0≤b→cG c b=p.d5)→nE c (k+1) (fU { s with aG:=.bK } p.d5 b):=fun b hb PZ=>by
  refine AR (s:={ s with aG:=.bK }) hc ?_ ?_ rfl hl _ _ hb PZ
  · exact rN.to rfl rfl rfl rfl rfl rfl rfl rfl rfl rfl
  · exact he.to rfl rfl rfl rfl rfl
 unfold lN
 rcases sq p M sz with ⟨h0,e0⟩|⟨h0,e0⟩|⟨h0,w,hw,e0⟩
 · rw [e0]
   have hg:=y5 hc hM 1 i8.1 kM
   dsimp only
   refine mL.of ?_ (hM.mono (by omega))
   by_cases ES:gP (gI M 7 p.d5).fg<0
   · rw [if_pos (by rw [if_pos ES]),hb]
     exact bS _ (by omega) (fun e=>by omega)
   · rw [if_neg (by rw [if_neg ES];decide)]
     refine⟨rN.to rfl rfl rfl rfl rfl rfl rfl rfl rfl rfl,he.to rfl rfl rfl rfl rfl,hl,i8,hg,hn,hb,?_,fun _=>?_⟩
     · dsimp only
       rw [if_neg ES]
       omega
     · show 0≤gP (gI M 7 p.d5).fg
       omega
 · rw [e0]
   have ht:=Se (by omega)
   have hg:=LK hc hM 1 ht kM
   rw [hh.2.2 ht] at hg
   dsimp only
   rw [if_neg (by decide)]
   exact⟨⟨rN.to rfl rfl rfl rfl rfl rfl rfl rfl rfl rfl,he.to rfl rfl rfl rfl rfl,hl,i8,hh,hg,hb,by dsimp only;omega,fun _=>ht⟩,hM.mono (by omega)⟩
 · rw [e0]
   dsimp only
   have ht:=Se (by omega)
   have GN:=hn.1
   have FD:=hn.2.1
   have VY:=hc.nb
   have iV:IntKind.i64.wrap (IntKind.i64.wrap p.next-1)=p.next-1:=by
    rw [aw (x:=p.next) (by omega) (by omega),aw (by omega) (by omega)]
   rw [iV] at hw
   refine mL.of ?_ (hM.op (by omega) _ _ _ fun _=>⟨fun _=>?_,fun e=>by omega,fun e=>by omega,fun e=>by omega⟩)
   · by_cases lm:(Aa M 7 p.d5 p.head w).done=true
     · rw [if_pos (by rw [if_pos lm]),if_pos lm]
       exact bS _ ⟨by dsimp only;omega,hh.2.1⟩ hh.2.2
     · rw [if_neg (by rw [if_neg lm];show ¬(0:Int)=3;decide),if_neg lm]
       exact⟨rN.to rfl rfl rfl rfl rfl rfl rfl rfl rfl rfl,he.to rfl rfl rfl rfl rfl,hl,i8,hh,hn,hb,by dsimp only;omega,fun e=>by dsimp only at e;omega⟩
   · show iz c p.d5 w
     rw [hw]
     exact zt hc (by omega) fun e=>hn.2.2 (by omega)
theorem qT (p:fm) (M:Mm) (sz:0≤p.bX∧p.bX≤2):(p.bX=0∧dP p M=(gI M 7 p.d5,{ p with head:=(gI M 7 p.d5).fg,bX:=1 },M)) ∨
 (p.bX=1∧∃w,w=IntKind.u64.wrap (IntKind.i64.wrap (gP p.head+1))∧dP p M=(zN M 8 p.block w,{ p with bX:=2 },Ck M 8 p.block w)) ∨
 (p.bX=2∧∃w,w=lS p.head p.block∧dP p M=(Aa M 7 p.d5 p.head w,{ p with bX:=if (Aa M 7 p.d5 p.head w).done=true then 3 else 0 },ML M 7 p.d5 p.head w)):=by
 unfold dP
 by_cases h0:p.bX=0
 · exact .inl ⟨h0,if_pos h0⟩
 · by_cases h1:p.bX=1
   · exact .inr (.inl ⟨h1,_,rfl,by rw [if_neg h0,if_pos h1]⟩)
   · have h2:p.bX=2:=by omega
     exact .inr (.inr ⟨h2,_,rfl,by rw [if_neg h0,if_neg h1,if_pos h2]⟩)
theorem IN (hc:b9 c) (hM:jN c nt k M) (h:iA c k s) (p:fm) (BC:s.ay≠1) (dO:s.ao<s.ai.length) (TV:p.block=s.ai.getD s.ao 0) (i8:p.d5=cG c p.block) (hh:iz c p.d5 p.head) (sz:0≤p.bX∧p.bX≤2):mL c nt k (iJ s M p):=by
 have rN:=h.mono (Nat.le_succ k)
 have hb:=h.JU _ (LL dO)
 rw [←TV] at hb
 have rM:=ul hc p.block hb
 rw [←i8] at rM
 unfold iJ
 rcases qT p M sz with ⟨h0,e0⟩|⟨h0,w,hw,e0⟩|⟨h0,w,hw,e0⟩
 · rw [e0]
   have hg:=y5 hc hM 1 rM.1.1 kM
   dsimp only
   rw [if_neg (by decide)]
   exact⟨⟨rN.to rfl rfl rfl rfl rfl rfl rfl rfl rfl rfl,BC,dO,TV,i8,hg,by dsimp only;omega⟩,hM.mono (by omega)⟩
 · rw [e0]
   dsimp only
   rw [if_neg (by decide)]
   refine⟨⟨rN.to rfl rfl rfl rfl rfl rfl rfl rfl rfl rfl,BC,dO,TV,i8,hh,by dsimp only;omega⟩,hM.op (by omega) _ _ _ fun _=>⟨fun e=>by omega,fun _=>?_,fun e=>by omega,fun e=>by omega⟩⟩
   have U3:=D0 hh.1
   have VY:=hc.nb
   have YF:=hh.2.1
   have iV:IntKind.u64.wrap (IntKind.i64.wrap (gP p.head+1))=gP p.head+1:=by
    rw [aw (by omega) (by omega),az (by omega) (by omega)]
   show lq c (cG c p.block) w
   rw [hw,iV,←i8]
   refine⟨by omega,by omega,fun e=>?_⟩
   rw [show gP p.head+1-1=gP p.head by omega]
   exact hh.2.2 (by omega)
 · rw [e0]
   dsimp only
   refine mL.of ?_ (hM.op (by omega) _ _ _ fun _=>⟨fun _=>?_,fun e=>by omega,fun e=>by omega,fun e=>by omega⟩)
   · by_cases lm:(Aa M 7 p.d5 p.head w).done=true
     · rw [if_pos (by rw [if_pos lm])]
       refine tj hc ?_
       refine { rN.to (s':={ s with aG:=.bK }) rfl rfl rfl rfl rfl rfl rfl rfl rfl rfl with push:=?_ }
       show s.ao+1≤s.ai.length
       omega
     · rw [if_neg (by rw [if_neg lm];decide)]
       refine⟨rN.to rfl rfl rfl rfl rfl rfl rfl rfl rfl rfl,BC,dO,TV,i8,hh,?_⟩
       dsimp only
       rw [if_neg lm]
       omega
   · show iz c p.d5 w
     rw [hw]
     exact zt hc hb.2 fun _=>i8.symm
theorem LJ (hM:jN c nt k M) (fY dq:Int) (g:Int→Int×Bool):iM k (fz M fY 2 dq g).fg:=by
 rcases oZ M fY 2 dq g with h|⟨_,h⟩
 · rw [h];exact .zero k
 · rw [h];exact hM.Uy _
theorem CQ {k:Nat} {x:Int} (h:iM k x):kJ x<0↔x % 64=0:=by
 have h1:=h.1
 unfold kJ
 rw [Int.tmod_eq_emod_of_nonneg h1,aw (x:=x % 64) (by omega) (by omega),aw (by omega) (by omega)]
 omega
theorem Gt {k:Nat} (hk:k<2^41) {l:gy} (h:uT k l) (hl:l.fw=true) (ht:0≤l.am∧l.am<16):kH l=l.dY+l.am+1:=by
 have h1:=h.dY.1
 have h2:=h.dY.2.1
 have h3:=h.load hl
 unfold kH
 rw [az (x:=l.am) (by omega) (by omega),az (x:=l.dY+l.am) (by omega) (by omega),az (by omega) (by omega)]
theorem EI (l:gy) (hM:jN c nt k M) (hk:k<2^40) (ht:0≤l.am∧l.am<16) (h3:l.eo.length<l.an.length) (hI:uT k l):(eC l M).2.1.an=l.an∧(eC l M).2.1.am=l.am∧(eC l M).2.1.eo.length≤l.an.length∧uT (k+1) (eC l M).2.1∧jN c nt (k+1) (eC l M).2.2:=by
 have Q3:=hI.mono (Nat.le_succ k)
 unfold eC
 dsimp only
 split
 · exact⟨rfl,rfl,by dsimp only;omega,Q3,hM.mono (by omega)⟩
 · split
   · have hg:=LJ hM 1 (gY l) kM
     refine⟨rfl,rfl,by dsimp only;omega,⟨hg.mono (by omega),fun e=>?_,Q3.eo⟩,hM.mono (by omega)⟩
     exact(CQ hg).1 (by simpa using e)
   · rename_i GO
     have RW:l.fw=true:=by simpa using GO
     have h1:=hI.dY.1
     have h2:=hI.dY.2.1
     have h4:=hI.load RW
     refine⟨rfl,rfl,?_,⟨Q3.dY,fun e=>(by cases e),?_⟩,hM.WL (by omega) _ _ ?_⟩
     · dsimp only
       split
       · simp;omega
       · omega
     · dsimp only
       split
       · intro w hw
         rw [List.mem_append] at hw
         rcases hw with hw|hw
         · exact Q3.eo w hw
         · have:w=l.dY:=by simpa using hw
           subst this
           exact⟨Q3.dY,h4⟩
       · exact Q3.eo
     · show iM (k+1) (kH l)
       rw [Gt (by omega) hI RW ht]
       refine⟨by omega,by omega,by omega⟩
theorem IS (hM:jN c nt k M) (hk:k<2^40) (h:iA c k s) (l:gy) (hs:s.aI=some l) (hn:s.aH=none∧s.ao=0∧s.aj=false) (BC:s.ay=1) (cX:s.gQ=true) (h1:l.an=s.an) (h2:l.am=s.am) (h3:l.eo.length<l.an.length) (hI:uT k l) (hd:s.aG=.eR):mL c nt k (iw s M l):=by
 have rN:=h.mono (Nat.le_succ k)
 obtain⟨g1,g2,g3,g5,g4⟩:=EI l hM hk (by rw [h2];exact h.Ki) h3 hI
 unfold iw
 dsimp only
 refine mL.of ?_ (g4)
 split
 · rename_i lm
   have PV:(eC l M).2.1.eo.length=(eC l M).2.1.an.length:=by simpa [gy.done] using lm
   have GK:0<s.an.length:=by rw [←h1];omega
   refine⟨rN.to rfl rfl rfl rfl rfl rfl rfl rfl rfl rfl,hn.2,⟨.inr ⟨_,rfl,g1.trans h1,?_,GK,g5⟩,⟨fun _=>GK,fun _=>cX⟩⟩,_,rfl,rfl,?_⟩
   · show (eC l M).2.1.eo.length=s.an.length
     rw [PV,g1,h1]
   · show (0:Int)≤0∧(0:Int)≤((k+1:Nat):Int)
     omega
 · rename_i lm
   have PV:¬(eC l M).2.1.eo.length=(eC l M).2.1.an.length:=by simpa [gy.done] using lm
   refine⟨rN.to rfl rfl rfl rfl rfl rfl rfl rfl rfl rfl,?_⟩
   show SL c (k+1) _ s.aG
   rw [hd]
   refine⟨hn,⟨BC,cX⟩,_,rfl,g1.trans h1,g2.trans h2,?_,g5⟩
   rw [g1] at PV ⊢
   omega
theorem DZ (hM:jN c nt k M) (hk:k<2^40) (t:ju) (h1:t.done=false) (h2:0≤t.je∧t.je≤k):(0≤(gU t M).2.1.je∧(gU t M).2.1.je≤k)∧jN c nt (k+1) (gU t M).2.2:=by
 unfold gU
 rw [if_neg (by rw [h1];decide)]
 split
 · refine⟨Nv hM 4 (AI 1),hM.op (by omega) _ _ _ fun _=>⟨fun e=>by omega,fun e=>by omega,fun _=>?_,fun e=>by omega⟩⟩
   have hg:=hM.SN
   show 0≤IntKind.u64.wrap ((M 3).getD 0 0+1)∧IntKind.u64.wrap ((M 3).getD 0 0+1)≤((k+1:Nat):Int)
   rw [az (by omega) (by omega)]
   omega
 · exact⟨h2,hM.mono (by omega)⟩
theorem Iz (hM:jN c nt k M) (hk:k<2^40) (h:iA c k s) (t:ju) (hs:s.aH=some t) (hn:s.ao=0∧s.aj=false) (hl:kW k s) (h1:t.done=false) (h2:0≤t.je∧t.je≤k) (hd:s.aG=.db):mL c nt k (go s M t):=by
 have rN:=h.mono (Nat.le_succ k)
 obtain⟨g1,g2⟩:=DZ hM hk t h1 h2
 unfold go
 dsimp only
 refine mL.of ?_ (g2)
 split
 · by_cases hz:s.set.length=0
   · refine⟨rN.to rfl rfl rfl rfl rfl rfl rfl rfl rfl rfl,?_⟩
     simp only [if_pos hz]
     exact⟨hn,hl.mono (by omega),_,rfl⟩
   · refine⟨rN.to rfl rfl rfl rfl rfl rfl rfl rfl rfl rfl,?_⟩
     simp only [if_neg hz]
     exact⟨hn,hl.mono (by omega),⟨_,rfl⟩,rfl,⟨0,by show 0<s.set.length;omega,rfl⟩,rfl⟩
 · rename_i lm
   refine⟨rN.to rfl rfl rfl rfl rfl rfl rfl rfl rfl rfl,?_⟩
   show SL c (k+1) _ s.aG
   rw [hd]
   refine⟨hn,hl.mono (by omega),_,rfl,by simpa using lm,g1.1,?_⟩
   have:=g1.2
   show (gU t M).2.1.je≤((k+1:Nat):Int)
   omega
theorem Hc (hM:jN c nt k M) (h:iA c k s) (ck:gl) (hn:s.ao=0∧s.aj=false) (hl:kW k s) (ht:∃t,s.aH=some t) (h1:ck.ik=false) (h2:∃k,k<s.set.length∧ck.an=s.set.drop k) (h3:ck.rv=s.rv):mL c nt k (fZ s M ck):=by
 have rN:=h.mono (Nat.le_succ k)
 obtain⟨q,hq,xD⟩:=h2
 have VE:ck.done=false:=by
  simp only [gl.done,h1,xD,Bool.false_or,List.length_drop,decide_eq_false_iff_not]
  omega
 have e0:jG ck M=(gI M 2 (ck.an.getD 0 0),{ ck with an:=ck.an.tail,ik:=decide (jO (gI M 2 (ck.an.getD 0 0)).fg>ck.rv) },M):=by
  unfold jG
  rw [if_neg (by rw [VE];decide)]
 unfold fZ
 rw [e0]
 dsimp only
 refine mL.of ?_ (hM.mono (by omega))
 split
 · exact qP (rN.to rfl rfl rfl rfl rfl rfl rfl rfl rfl rfl) hn.1 (hl.1.mono (by omega)) (fun e=>by rw [show s.aj=false from hn.2] at e;cases e) ht
 · rename_i hf
   split
   · exact⟨rN.to rfl rfl rfl rfl rfl rfl rfl rfl rfl rfl,hn,hl.mono (by omega),ht⟩
   · rename_i lm
     refine⟨rN.to rfl rfl rfl rfl rfl rfl rfl rfl rfl rfl,hn,hl.mono (by omega),ht,by simpa using hf,⟨q+1,?_,?_⟩,h3⟩
     · simp only [gl.done,Bool.or_eq_true,decide_eq_true_eq,xD,List.length_tail,List.length_drop] at lm
       show q+1<s.set.length
       omega
     · show ck.an.tail=s.set.drop (q+1)
       rw [xD,List.tail_drop]
theorem Fc (hM:jN c nt k M) (h:iA c k s) (hn:s.ao=0∧s.aj=false) (hl:kW k s) (ht:∃t,s.aH=some t):mL c nt k (fp s M):=by
 have rN:=h.mono (Nat.le_succ k)
 have hg:=Ie hM 1 kM
 have jX:iA c (k+1) { s with ax:=(gI M 3 0).fg }:=by
  refine { rN.to (s':={ s with aG:=.bK }) rfl rfl rfl rfl rfl rfl rfl rfl rfl rfl with tD:=?_ }
  show 0≤(gI M 3 0).fg∧(gI M 3 0).fg≤((k+1:Nat):Int)
  refine⟨hg.1,?_⟩
  have:=hg.2
  show (fz M 1 3 0 kM).fg≤_
  omega
 unfold fp
 dsimp only
 refine mL.of ?_ (hM.mono (by omega))
 split
 · exact qP (jX.to rfl rfl rfl rfl rfl rfl rfl rfl rfl rfl) hn.1 (hl.1.mono (by omega)) (fun e=>by rw [show s.aj=false from hn.2] at e;cases e) ht
 · split
   · rename_i cX
     refine⟨jX.to rfl rfl rfl rfl rfl rfl rfl rfl rfl rfl,hn.1,⟨rfl,cX⟩,hl.mono (by omega),ht,0,?_,rfl⟩
     have PC:s.gQ=true:=cX
     unfold aT.gQ at PC
     simp only [Bool.and_eq_true,decide_eq_true_eq] at PC
     exact PC.2
   · rename_i cX
     refine qP (jX.to rfl rfl rfl rfl rfl rfl rfl rfl rfl rfl) hn.1 (hl.1.mono (by omega)) (fun _=>?_) ht
     have:¬0<s.an.length:=fun e=>cX (hl.2.2 e)
     exact List.eq_nil_of_length_eq_zero (by show s.an.length=0;omega)
theorem FI (hM:jN c nt k M) (h:iA c k s) (w:iQ) (hn:s.ao=0) (yW:s.aj=true∧s.gQ=true) (hl:kW k s) (ht:∃t,s.aH=some t) (h1:∃k,k<s.bp.bU.length∧w=⟨s.bp.bU.drop k,s.bp.ey.drop k⟩):mL c nt k (gn s M w):=by
 have rN:=h.mono (Nat.le_succ k)
 obtain⟨q,hq,rfl⟩:=h1
 have GK:=hl.2.1 yW.2
 unfold gn lf
 rw [if_neg (by simp only [iQ.done,decide_eq_true_eq,List.length_drop];omega)]
 dsimp only
 refine mL.of ?_ (hM.QH (by omega) _ _ _ (by decide))
 split
 · refine⟨rN.to rfl rfl rfl rfl rfl rfl rfl rfl rfl rfl,hn,fun _=>yW.2,hl.1.mono (by omega),ht,0,GK,?_⟩
   show (⟨s.an,List.replicate s.an.length (kN s.qE)⟩:iQ)=⟨s.an,vk _⟩
   unfold vk
   rw [if_pos (by exact yW.1)]
   rfl
 · rename_i lm
   simp only [iQ.done,decide_eq_true_eq,List.length_tail,List.length_drop] at lm
   exact⟨rN.to rfl rfl rfl rfl rfl rfl rfl rfl rfl rfl,hn,yW,hl.mono (by omega),ht,q+1,by show q+1<s.bp.bU.length;omega,by rw [List.tail_drop,List.tail_drop]⟩
theorem FL (h:iA c k s) (hk:k<2^40) (yW:s.aj=true∧s.gQ=true):s.qE=s.ax+1:=by
 have AG:=h.tD
 unfold aT.qE
 rw [if_pos yW,aw (x:=s.ax) (by omega) (by omega),aw (by omega) (by omega)]
theorem Kw (hM:jN c nt k M) (hk:k<2^40) (h:iA c k s) (w:iQ) (hn:s.ao=0) (yW:s.aj=true→s.gQ=true) (hl:qn k s) (ht:∃t,s.aH=some t) (h1:∃k,k<s.an.length∧w=⟨s.an.drop k,(vk s).drop k⟩):mL c nt k (lL s M w):=by
 have rN:=h.mono (Nat.le_succ k)
 obtain⟨q,hq,rfl⟩:=h1
 unfold lL jz
 rw [if_neg (by simp only [iQ.done,decide_eq_true_eq,List.length_drop];omega)]
 dsimp only
 have kl:iM (k+1) (((vk s).drop q).getD 0 0):=by
  have e:((vk s).drop q).getD 0 0=(vk s).getD q 0:=by simp [List.getD_eq_getElem?_getD]
  rw [e]
  unfold vk
  split
  · rename_i R7
    have hv:=FL h hk ⟨R7,yW R7⟩
    have AG:=h.tD
    rw [List.getD_eq_getElem?_getD,List.getElem?_replicate,if_pos hq]
    show iM (k+1) (kN s.qE)
    rw [hv]
    unfold kN
    rw [if_pos (by omega)]
    exact⟨by omega,by omega,by omega⟩
  · rcases hl with ⟨hl,_⟩|⟨l,h1,h2,h3,h4,h5⟩
    · rw [hl] at hq;simp at hq
    · unfold aT.eo
      rw [h1]
      rcases E1 l.eo q with e|e
      · show iM (k+1) (l.eo.getD q 0)
        rw [e];exact .zero _
      · exact(h5.eo _ e).1.mono (by omega)
 refine mL.of ?_ (hM.WL (by omega) _ _ kl)
 by_cases lm:iQ.done ⟨(s.an.drop q).tail,((vk s).drop q).tail⟩=true
 · by_cases hv:0≤s.qE
   · refine⟨rN.to rfl rfl rfl rfl rfl rfl rfl rfl rfl rfl,?_⟩
     simp only [if_pos lm,if_pos hv]
     refine⟨hn,?_,ht⟩
     show s.aj=true∧s.gQ=true
     have:s.aj=true:=by
      cases e:s.aj with
      | true=>rfl
      | false=>unfold aT.qE at hv;rw [if_neg (by rw [e];simp)] at hv;omega
     exact⟨this,yW this⟩
   · refine⟨rN.to rfl rfl rfl rfl rfl rfl rfl rfl rfl rfl,?_⟩
     simp only [if_pos lm,if_neg hv]
     exact⟨hn,ht⟩
 · refine⟨rN.to rfl rfl rfl rfl rfl rfl rfl rfl rfl rfl,?_⟩
   simp only [if_neg lm]
   simp only [iQ.done,decide_eq_true_eq,List.length_tail,List.length_drop] at lm
   exact⟨hn,yW,hl.mono (by omega),ht,q+1,by show q+1<s.an.length;omega,by rw [List.tail_drop,List.tail_drop];rfl⟩
theorem A7 (hc:b9 c) (hk:k<2^40) (h:nE c k s) (hM:jN c nt k M):mL c nt k (cB s M):=by
 have hb:=h.b
 have rN:=hb.mono (Nat.le_succ k)
 have hd:=h.d
 have Xm:=hM.mono (Nat.le_succ k)
 unfold cB
 cases e:s.aG with
 | bK=>exact⟨h.mono (Nat.le_succ k),Xm⟩
 | gZ l=>
   rw [e] at hd
   refine mL.of ?_ Xm
   refine MZ hc ?_ ?_ rfl l hd.2
   · exact rN.to rfl rfl rfl rfl rfl rfl rfl rfl rfl rfl
   · exact hd.1.to rfl rfl rfl rfl rfl
 | eN=>
   rw [e] at hd
   obtain⟨h0,en,h1,h2,h3,h4⟩:=hd
   dsimp only
   rw [h1]
   exact G6 hM hb h0 en h2 h3 h4 e
 | bm r u=>
   rw [e] at hd
   obtain⟨h0,h1,h2,h3,h4,h5,h6⟩:=hd
   exact IM hc hM hb h0 r u e h1 h2 h3 h4 h5 h6
 | eL p=>
   rw [e] at hd
   obtain⟨h0,h1,h2,h3,h4,h5,h6,h7⟩:=hd
   exact KA hc hM hb h0 p h1 h2 h3 h4 h5 h6 h7
 | eR=>
   rw [e] at hd
   obtain⟨h0,Ic,l,h1,h2,h3,h4,h5⟩:=hd
   dsimp only
   rw [h1]
   exact IS hM hk hb l h1 h0 Ic.1 Ic.2 h2 h3 h4 h5 e
 | db=>
   rw [e] at hd
   obtain⟨h0,hl,t,h1,h2,h3⟩:=hd
   dsimp only
   rw [h1]
   exact Iz hM hk hb t h1 h0 hl h2 h3 e
 | dM ck=>
   rw [e] at hd
   obtain⟨h0,hl,ht,h1,h2,h3⟩:=hd
   exact Hc hM hb ck h0 hl ht h1 h2 h3
 | cu=>
   rw [e] at hd
   obtain⟨h0,hl,ht⟩:=hd
   exact Fc hM hb h0 hl ht
 | ee w=>
   rw [e] at hd
   obtain⟨h0,yW,hl,ht,h1⟩:=hd
   exact FI hM hb w h0 yW hl ht h1
 | cD w=>
   rw [e] at hd
   obtain⟨h0,yW,hl,ht,h1⟩:=hd
   exact Kw hM hk hb w h0 yW hl ht h1
 | gV=>
   rw [e] at hd
   refine⟨⟨rN.to rfl rfl rfl rfl rfl rfl rfl rfl rfl rfl,hd.1,hd.2.2⟩,hM.op (by omega) _ _ _ fun _=>⟨fun e=>by omega,fun e=>by omega,fun _=>?_,fun e=>by omega⟩⟩
   have AG:=hb.tD
   show 0≤IntKind.u64.wrap (s.ax+1)∧IntKind.u64.wrap (s.ax+1)≤((k+1:Nat):Int)
   rw [az (by omega) (by omega)]
   omega
 | fL=>
   rw [e] at hd
   exact⟨tj hc rN,hM.QH (by omega) _ _ _ (by decide)⟩
 | eK p=>
   rw [e] at hd
   obtain⟨h0,h1,h2,h3,h4,h5⟩:=hd
   exact IN hc hM hb p h0 h1 h2 h3 h4 h5
 | hP=>
   exact⟨⟨rN.to rfl rfl rfl rfl rfl rfl rfl rfl rfl rfl,fun e=>absurd rfl e⟩,hM.QH (by omega) _ _ _ (by decide)⟩
theorem pu (h:nE c k s) {st:Int} (cX:st≠2) (hf:s.kO st=true):jw s∧s.aG=.bK∧s.aA=st:=by
 simp only [aT.kO,Bool.and_eq_true,decide_eq_true_eq] at hf
 have hd:s.aG=.bK:=by
  have h1:=hf.1
  revert h1
  cases s.aG<;>simp [aU.dT]
 have JR:=h.d
 rw [hd] at JR
 exact⟨JR (by rw [hf.2];exact cX),hd,hf.2⟩
theorem BK (h:nE c k s):nE c k (gf s).2:=by
 unfold gf
 split
 · rename_i hf
   obtain⟨he,hd,hs⟩:=pu h (by decide) hf
   exact⟨h.b.to rfl rfl rfl rfl rfl rfl rfl rfl rfl rfl,he.to rfl rfl rfl rfl rfl,_,rfl,by show (0:Int)≤0∧(0:Int)≤k;omega,by show (0:Int)≤0∧(0:Int)≤2;omega,rfl⟩
 · exact h
theorem yl (h:nE c k s) (he:jw s) (a:Int) (ha:0≤a∧a<c.aQ+c.nb) (u:zM) (hu:NX c u):nE c k (tF s a u):=by
 refine⟨h.b.to rfl rfl rfl rfl rfl rfl rfl rfl rfl rfl,he.to rfl rfl rfl rfl rfl,by show (0:Int)≤0∧(0:Int)≤2;omega,?_,rfl,hu,ha,rfl⟩
 show fD s.cf a=fD c a
 rw [h.b.cf]
theorem Ky (hc:b9 c) (h:nE c k s) (a:Int) (ha:0≤a):nE c k (Eb s a).2:=by
 have xj:=nf hc
 unfold Eb
 split
 · rename_i hf
   obtain⟨he,hd,hs⟩:=pu h (by decide) hf
   split
   · exact⟨h.b.to rfl rfl rfl rfl rfl rfl rfl rfl rfl rfl,he.to rfl rfl rfl rfl rfl,trivial⟩
   · rename_i hn
     rw [h.b.cf] at hn
     split
     · exact⟨h.b.to rfl rfl rfl rfl rfl rfl rfl rfl rfl rfl,he.to rfl rfl rfl rfl rfl,trivial⟩
     · exact yl h he a (by omega) .take trivial
 · exact h
theorem J0 (h:nE c k s) (a v:Int) (ha:0≤a):nE c k (DH s a v).2:=by
 unfold DH
 split
 · rename_i hf
   obtain⟨he,hd,hs⟩:=pu h (by decide) hf
   exact⟨h.b.to rfl rfl rfl rfl rfl rfl rfl rfl rfl rfl,he.to rfl rfl rfl rfl rfl,ha⟩
 · exact h
theorem Qu (hc:b9 c) (h:nE c k s) (d5:Int):nE c k (Ip s d5).2:=by
 have xj:=nf hc
 unfold Ip
 split
 · rename_i hf
   obtain⟨he,hd,hs⟩:=pu h (by decide) hf
   split
   · exact h
   · split
     · exact⟨h.b.to rfl rfl rfl rfl rfl rfl rfl rfl rfl rfl,he.to rfl rfl rfl rfl rfl,trivial⟩
     · rename_i h1 h2
       rw [h.b.cf] at h2
       exact⟨h.b.to rfl rfl rfl rfl rfl rfl rfl rfl rfl rfl,he.to rfl rfl rfl rfl rfl,by show (s.ai.length:Int)<c.ai;omega,by dsimp only;omega,.zero hc _,.zero hc _,rfl,by dsimp only;omega,fun e=>by dsimp only at e;omega⟩
 · exact h
theorem Jl (hc:b9 c) (a:Int):i9 c a<0∨(0≤i9 c a∧i9 c a<c.nb):=by
 unfold i9
 split
 · rename_i b hb
   have hm:=List.mem_of_find?_eq_some hb
   have:=List.mem_range.1 hm
   have xj:=nf hc
   right
   omega
 · left;decide
theorem P8 (hc:b9 c) (h:nE c k s) (a:Int):nE c k (If s a).2:=by
 have hw:=hc.aQ
 have sx:=h.b.cf
 subst sx
 unfold If
 split
 · rename_i hf
   obtain⟨he,hd,hs⟩:=pu h (by decide) hf
   split
   · exact⟨h.b.to rfl rfl rfl rfl rfl rfl rfl rfl rfl rfl,he.to rfl rfl rfl rfl rfl,trivial⟩
   · rename_i hn
     have qB:=Jl hc a
     split
     · exact⟨h.b.to rfl rfl rfl rfl rfl rfl rfl rfl rfl rfl,he.to rfl rfl rfl rfl rfl,by show 0≤i9 s.cf a∧i9 s.cf a<s.cf.nb;omega⟩
     · exact yl h he _ (by omega) _ (by show 0≤i9 s.cf a∧i9 s.cf a<s.cf.nb;omega)
 · exact h
theorem G7 (h:nE c k s) (ay:Int):nE c k (zS s ay).2:=by
 unfold zS
 split
 · rename_i hf
   obtain⟨he,hd,hs⟩:=pu h (by decide) hf
   split
   · exact h
   · exact⟨h.b.to rfl rfl rfl rfl rfl rfl rfl rfl rfl rfl,he.to rfl rfl rfl rfl rfl,trivial⟩
 · exact h
theorem Gm (w:Nat) (hw:w≤32):lV (gq w)∧(gq w).ew=w∧(gq w).index.length≤64:=by
 have:∀w:Fin 33,lV (gq (w:Nat))∧(gq (w:Nat)).ew=w∧(gq (w:Nat)).index.length≤64:=by
  intro w
  have CU:(gq (w:Nat)).ew=w:=by simp [gq]
  have hw:=w.2
  have vJ:(gq (w:Nat)).bU=[]:=rfl
  have hval:(gq (w:Nat)).ey=[]:=rfl
  have PN:∃n,(gq (w:Nat)).index=List.replicate n (-1)∧(w:Nat)<n∧n≤64:=by
   refine⟨_,rfl,?_⟩
   constructor
   · repeat' split
     all_goals omega
   · repeat' split
     all_goals omega
  obtain⟨n,hn,GN,FD⟩:=PN
  have Vr:∀q,ix (gq (w:Nat)).index q = -1:=by
   intro q
   unfold ix
   rw [hn,List.getD_eq_getElem?_getD]
   by_cases hq:q<n
   · rw [List.getElem?_replicate,if_pos hq];rfl
   · rw [List.getElem?_eq_none (by simp;omega)];rfl
  refine⟨⟨by rw [vJ,hval],by rw [vJ];simp,by rw [CU,hn];simpa using GN,by rw [vJ];simp,fun q _=>by rw [Vr,vJ];simp,?_,fun e he=>by rw [vJ] at he;simp at he,fun i j hi=>by rw [vJ] at hi;simp at hi⟩,CU,by rw [hn];simpa using FD⟩
  rw [vJ,hn]
  unfold re
  rw [List.countP_replicate]
  simp
 exact this ⟨w,by omega⟩
theorem yG (hc:b9 c) (k:Nat) (t:Int) (ht:0≤t∧t<16):nE c k (fl c t):=by
 have hw:=hc.bN
 obtain⟨w,Oi⟩:∃w:Nat,c.bN=w:=⟨c.bN.toNat,by omega⟩
 obtain⟨h1,h2,h3⟩:=Gm w (by omega)
 have ha:=hc.ai
 have hf:=hc.av
 have e:(fl c t).bp=gq w:=by unfold fl;rw [Oi]
 refine⟨⟨rfl,ht,by rw [e];exact h1,by rw [e,h2,Oi];rfl,by rw [e];exact h3,by rw [e];exact fun a ha=>(by cases ha),fun x hx=>(by cases hx),by show ((0:Nat):Int)≤c.ai;omega,Nat.le_refl _,Nat.zero_le _,List.nodup_nil,fun a ha=>(by cases ha),by show ((0:Nat):Int)≤c.av;omega,by show (0:Int)≤0∧(0:Int)≤k;omega,Nat.zero_le _,fun x hx=>(by cases hx)⟩,fun _=>⟨rfl,rfl,rfl,rfl,rfl⟩⟩
end
theorem IP {c:bC} {M:Mm} (p:oO) (sz:0≤p.bX∧p.bX≤2) (hc:b9 c) (hh:iz c p.d5 p.head) (hb:p.block = -1):(fK p M).2.1.block<c.nb:=by
 have xj:=nf hc
 rcases sq p M sz with ⟨h0,e0⟩|⟨h0,e0⟩|⟨h0,w,hw,e0⟩
 · rw [e0];dsimp only;omega
 · rw [e0];dsimp only;omega
 · rw [e0]
   dsimp only
   split
   · exact hh.2.1
   · dsimp only;omega
end
end Go.Stx
