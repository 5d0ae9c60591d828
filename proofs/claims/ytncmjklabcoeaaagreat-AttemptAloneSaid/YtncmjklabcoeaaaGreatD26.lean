/-
 One attempt, without the program: what always holds of the cells and of its state.
-/
import Derived.Test.YtncmjklabcoeaaaGreatD16
import Derived.Test.YtncmjklabcoeaaaGreatD17
import Derived.Test.YtncmjklabcoeaaaGreatD25
set_option linter.unusedVariables false
set_option linter.unusedSimpArgs false
set_option maxRecDepth 20000
set_option maxHeartbeats 4000000
namespace Go.Stx
open Go Go.Proofs
attribute [local irreducible] fj cm aH bB dK ei
section
theorem Gj (l:List Int) (i:Nat):l.getD i 0=0∨l.getD i 0∈l:=by
 rw [List.getD_eq_getElem?_getD]
 by_cases h:i<l.length
 · rw [List.getElem?_eq_getElem h];exact .inr (List.getElem_mem h)
 · rw [List.getElem?_eq_none (by omega)];exact .inl rfl
theorem p9 (M:Mm) (eV cell cc:Int) (g:Int→Int×Bool):(de M eV cell cc g).fI=0∨(dw M cell cc=true∧(de M eV cell cc g).fI=(eJ M cell).getD cc.toNat 0):=by
 unfold de
 split
 · rename_i h;exact .inr ⟨h,rfl⟩
 · exact .inl rfl
theorem Ha (M:Mm) (cell cc v:Int) (k:Nat):(setRow M cell cc v k).length=(M k).length:=by
 unfold setRow
 split<;>simp
theorem pj (M:Mm) (cell cc:Int) (g:Int→Int×Bool) (k:Nat):(kd M cell cc g k).length=(M k).length:=by
 unfold kd
 split
 · exact Ha _ _ _ _ _
 · rfl
theorem y5 (M:Mm) (cell cc:Int) (g:Int→Int×Bool) (k j:Nat) :
 (kd M cell cc g k).getD j 0=(M k).getD j 0∨(dw M cell cc=true∧k=(cell-1).toNat∧j=cc.toNat∧(kd M cell cc g k).getD j 0=(g ((eJ M cell).getD cc.toNat 0)).1):=by
 unfold kd
 split
 · rename_i hc
   unfold setRow
   split
   · rename_i e
     by_cases hj:j=cc.toNat
     · by_cases hl:j<(M k).length
       · refine .inr ⟨hc.1,e,hj,?_⟩
         subst hj
         rw [List.getD_eq_getElem?_getD,List.getElem?_set_self hl];rfl
       · left
         simp only [List.getD_eq_getElem?_getD]
         rw [List.getElem?_eq_none (by simp;omega),List.getElem?_eq_none (by omega)]
     · left
       simp only [List.getD_eq_getElem?_getD]
       rw [List.getElem?_set_ne (Ne.symm hj)]
   · exact .inl rfl
 · exact .inl rfl
theorem wQ {M:Mm} {cell cc:Int} (h:dw M cell cc=true):(1≤cell∧cell≤8)∧0≤cc∧cc<(M (cell-1).toNat).length:=by
 unfold dw eJ at h
 split at h
 · rename_i hh
   refine⟨hh,?_⟩
   simpa using h
 · simp at h;omega
def jp (k:Nat) (x:Int):Prop:=0≤x∧x / 64≤k∧x % 64≤16
theorem jp.mono {k k':Nat} {x:Int} (h:jp k x) (hk:k≤k'):jp k' x:=⟨h.1,by have:=h.2.1;omega,h.2.2⟩
theorem jp.zero (k:Nat):jp k 0:=⟨by omega,by omega,by omega⟩
def kG (c:bG) (dB x:Int):Prop:=0≤x∧iu x<c.nb∧(0≤iu x→ds c (iu x)=dB)
def nd (c:bG) (dB x:Int):Prop:=0≤x∧x≤c.nb∧(0<x→ds c (x-1)=dB)
theorem oC {c:bG} (hc:dt c):0≤c.nb:=by
 have h0:=hc.k0
 have h1:=hc.k1
 have h3:=hc.k2
 have h4:=hc.k3
 have e:c.nb=c.c0+c.c1+c.c2+c.c3:=rfl
 omega
theorem vC:iu 0 = -1:=by decide
theorem kG.zero {c:bG} (hc:dt c) (dB:Int):kG c dB 0:=by
 have h:=oC hc
 refine⟨by omega,by rw [vC];omega,fun e=>?_⟩
 rw [vC] at e
 omega
theorem nd.zero {c:bG} (hc:dt c) (dB:Int):nd c dB 0:=⟨by omega,oC hc,fun e=>by omega⟩
structure oR (c:bG) (nt k:Nat) (M:Mm):Prop where
 l0:((M 0).length:Int)=c.aF+c.nb
 l1:((M 1).length:Int)=c.aj
 l2:(M 2).length=1
 l3:(M 3).length=1
 l4:(M 4).length=1
 l5:(M 5).length=nt
 l6:(M 6).length=4
 l7:((M 7).length:Int)=c.nb
 eP:∀i:Nat,kG c i ((M 6).getD i 0)
 next:∀b:Nat,nd c (ds c b) ((M 7).getD b 0)
 H2:0≤(M 2).getD 0 0∧(M 2).getD 0 0≤k
 SA:0≤(M 3).getD 0 0∧(M 3).getD 0 0≤k
 Tv:∀i:Nat,jp k ((M 1).getD i 0)
theorem oR.mono {c:bG} {nt k k':Nat} {M:Mm} (h:oR c nt k M) (hk:k≤k'):oR c nt k' M:=
 ⟨h.l0,h.l1,h.l2,h.l3,h.l4,h.l5,h.l6,h.l7,h.eP,h.next,by have:=h.H2;omega,by have:=h.SA;omega,fun i=>(h.Tv i).mono hk⟩
theorem oR.op {c:bG} {nt k k':Nat} {M:Mm} (h:oR c nt k M) (hk:k≤k') (cell cc:Int) (g:Int→Int×Bool)
 (hv:dw M cell cc=true→(cell=7→kG c cc (g ((eJ M cell).getD cc.toNat 0)).1)∧
  (cell=8→nd c (ds c cc) (g ((eJ M cell).getD cc.toNat 0)).1)∧
  (cell=3∨cell=4→0≤(g ((eJ M cell).getD cc.toNat 0)).1∧(g ((eJ M cell).getD cc.toNat 0)).1≤k')∧
  (cell=2→jp k' (g ((eJ M cell).getD cc.toNat 0)).1)):oR c nt k' (kd M cell cc g):=by
 have dg:dw M cell cc=true→(1≤cell∧cell≤8)∧0≤cc:=fun h=>⟨(wQ h).1,(wQ h).2.1⟩
 refine⟨by rw [pj];exact h.l0,by rw [pj];exact h.l1,by rw [pj];exact h.l2,by rw [pj];exact h.l3,by rw [pj];exact h.l4,by rw [pj];exact h.l5,by rw [pj];exact h.l6,by rw [pj];exact h.l7,?_,?_,?_,?_,?_⟩
 · intro i
   rcases y5 M cell cc g 6 i with h1|⟨h1,h2,h3,h4⟩
   · rw [h1];exact h.eP i
   · have hr:=dg h1
     have:=(hv h1).1 (by omega)
     rw [h4]
     have e:cc=(i:Int):=by omega
     rw [e] at this ⊢
     exact this
 · intro i
   rcases y5 M cell cc g 7 i with h1|⟨h1,h2,h3,h4⟩
   · rw [h1];exact h.next i
   · have hr:=dg h1
     have:=(hv h1).2.1 (by omega)
     rw [h4]
     have e:cc=(i:Int):=by omega
     rw [e] at this ⊢
     exact this
 · rcases y5 M cell cc g 2 0 with h1|⟨h1,h2,h3,h4⟩
   · rw [h1];have:=h.H2;omega
   · have hr:=dg h1
     rw [h4]
     exact(hv h1).2.2.1 (by omega)
 · rcases y5 M cell cc g 3 0 with h1|⟨h1,h2,h3,h4⟩
   · rw [h1];have:=h.SA;omega
   · have hr:=dg h1
     rw [h4]
     exact(hv h1).2.2.1 (by omega)
 · intro i
   rcases y5 M cell cc g 1 i with h1|⟨h1,h2,h3,h4⟩
   · rw [h1];exact(h.Tv i).mono hk
   · have hr:=dg h1
     rw [h4]
     exact(hv h1).2.2.2 (by omega)
theorem oR.Rc {c:bG} {nt k k':Nat} {M:Mm} (h:oR c nt k M) (hk:k≤k') (cell cc:Int) (g:Int→Int×Bool) (h1:cell≠7∧cell≠8∧cell≠3∧cell≠4∧cell≠2):oR c nt k' (kd M cell cc g):=
 h.op hk cell cc g fun _=>⟨fun e=>absurd e h1.1,fun e=>absurd e h1.2.1,fun e=>by rcases e with e|e;exact absurd e h1.2.2.1;exact absurd e h1.2.2.2.1,fun e=>absurd e h1.2.2.2.2⟩
theorem oR.Vp {c:bG} {nt k k':Nat} {M:Mm} (h:oR c nt k M) (hk:k≤k') (cc:Int) (g:Int→Int×Bool) (h1:jp k' (g ((eJ M 2).getD cc.toNat 0)).1):oR c nt k' (kd M 2 cc g):=
 h.op hk 2 cc g fun _=>⟨fun e=>by omega,fun e=>by omega,fun e=>by omega,fun _=>h1⟩
theorem CH {h:Int} (h0:0≤h):iu h=h % 65536-1:=by
 unfold iu
 rw [Int.tmod_eq_emod_of_nonneg h0]
 rw [ak (x:=h % 65536) (by omega) (by omega),ak (by omega) (by omega)]
theorem KC {h:Int} (h0:0≤h):-1≤iu h∧iu h≤65534:=by rw [CH h0];omega
theorem JN (t p:Int):0≤mK t p∧(iu (mK t p)=p∨iu (mK t p) = -1):=by
 unfold mK
 split
 · rename_i h
   refine⟨by omega,.inl ?_⟩
   rw [CH (by omega)]
   omega
 · exact⟨by omega,.inr vC⟩
theorem Gv {c:bG} (hc:dt c) {h p dB:Int} (hp:p<c.nb) (iz:0≤p→ds c p=dB):kG c dB (lV h p):=by
 have xv:=oC hc
 obtain⟨h1,h2⟩:=JN ((IntKind.i64.wrap (G4 h+1)).tmod 281474976710656) p
 refine⟨h1,?_,fun h0=>?_⟩
 · show iu (mK _ _)<c.nb
   rcases h2 with h2|h2<;>rw [h2]<;>omega
 · have MG:0≤iu (mK ((IntKind.i64.wrap (G4 h+1)).tmod 281474976710656) p):=h0
   show ds c (iu (mK _ _))=dB
   rcases h2 with h2|h2
   · rw [h2] at MG ⊢;exact iz MG
   · rw [h2] at MG;omega
def Ob (c:bG):vu→Prop
 | .fu a _=>0≤a
 | .cM b _=>0≤b∧b<c.nb
 | _=>True
def Ka (c:bG):qX→Prop
 | .take=>True
 | .cM b=>0≤b∧b<c.nb
structure fe (s:aD):Prop where
 aj:s.aj=[]
 aG:s.aG=none
 aE:s.aE=none
 am:s.am=0
 Qc:s.ai=false
structure tz (k:Nat) (l:eM):Prop where
 d8:jp k l.d8
 load:l.fg=true→l.d8 % 64=0
 dH:∀w∈l.dH,jp k w∧w % 64=0
theorem tz.mono {k k':Nat} {l:eM} (h:tz k l) (hk:k≤k'):tz k' l:=⟨h.d8.mono hk,h.load,fun w hw=>⟨((h.dH w hw).1).mono hk,(h.dH w hw).2⟩⟩
def mu (k:Nat) (s:aD):Prop:=(s.aj=[]∧s.aG=none)∨∃l,s.aG=some l∧l.aj=s.aj∧l.dH.length=s.aj.length∧0<s.aj.length∧tz k l
def kJ (k:Nat) (s:aD):Prop:=mu k s∧(s.iv=true↔0<s.aj.length)
theorem mu.mono {k k':Nat} {s:aD} (h:mu k s) (hk:k≤k'):mu k' s:=by
 rcases h with h|⟨l,h1,h2,h3,h4,h5⟩
 · exact .inl h
 · exact .inr ⟨l,h1,h2,h3,h4,h5.mono hk⟩
theorem kJ.mono {k k':Nat} {s:aD} (h:kJ k s) (hk:k≤k'):kJ k' s:=⟨h.1.mono hk,h.2⟩
def lB (s:aD):List Int:=if s.ai=true then List.replicate s.aj.length (gN s.sy) else s.dH
structure iW (c:bG) (k:Nat) (s:aD):Prop where
 cf:s.cf=c
 G2:0≤s.ag∧s.ag<16
 aM:jq s.aM
 dA:s.aM.dA=c.bX.toNat
 cc:s.aM.index.length≤64
 I6:∀a∈s.aM.bl,0≤a∧a<c.aF+c.nb
 GU:∀x∈s.ac,0≤x∧x<c.nb
 kN:(s.ac.length:Int)≤c.ac
 push:s.am≤s.ac.length
 set:s.set.length≤c.ah.toNat
 O6:s.ah.Nodup
 O3:∀a∈s.ah,0≤a∧a<c.aF
 EQ:(s.ap.length:Int)≤c.ap
 H2:0≤s.ao∧s.ao≤k
 Qt:s.aj.length≤64
 Q8:∀x∈s.aj,0≤x∧x<c.aj
def Sw (c:bG) (k:Nat) (s:aD):ba→Prop
 | .bm=>s.av≠2→fe s
 | .jV l=>fe s∧Ob c l
 | .ej=>fe s∧∃e,s.br=some e∧(0≤e.ao∧e.ao≤k)∧(0≤e.cj∧e.cj≤2)∧e.ag=s.ag
 | .bz r u=>fe s∧(0≤r.cj∧r.cj≤2)∧r.dl=fJ c r.cA∧r.du=false∧Ka c u∧(0≤r.cA∧r.cA<c.aF+c.nb)∧r.rv=s.rv
 | .eE p=>fe s∧(s.ac.length:Int)<c.ac∧(0≤p.dB∧p.dB≤3)∧kG c p.dB p.eP∧nd c p.dB p.next∧p.block = -1∧(0≤p.cj∧p.cj≤2)∧(1≤p.cj→0≤iu p.eP)
 | .fF=>(s.aE=none∧s.am=0∧s.ai=false)∧(s.ax=1∧s.iv=true)∧∃l,s.aG=some l∧l.aj=s.aj∧l.ag=s.ag∧l.dH.length<l.aj.length∧tz k l
 | .dI=>(s.am=0∧s.ai=false)∧kJ k s∧∃t,s.aE=some t∧t.done=false∧(0≤t.gP∧t.gP≤k)
 | .dG ck=>(s.am=0∧s.ai=false)∧kJ k s∧(∃t,s.aE=some t)∧ck.ii=false∧(∃q,q<s.set.length∧ck.aj=s.set.drop q)∧ck.rv=s.rv
 | .cN=>(s.am=0∧s.ai=false)∧kJ k s∧∃t,s.aE=some t
 | .et w=>s.am=0∧(s.ai=true∧s.iv=true)∧kJ k s∧(∃t,s.aE=some t)∧∃q,q<s.aM.bl.length∧w=⟨s.aM.bl.drop q,s.aM.df.drop q⟩
 | .cK w=>s.am=0∧(s.ai=true→s.iv=true)∧mu k s∧(∃t,s.aE=some t)∧∃q,q<s.aj.length∧w=⟨s.aj.drop q,(lB s).drop q⟩
 | .ij=>s.am=0∧(s.ai=true∧s.iv=true)∧∃t,s.aE=some t
 | .fm=>s.am=0∧∃t,s.aE=some t
 | .eZ p=>s.ax≠1∧s.am<s.ac.length∧p.block=s.ac.getD s.am 0∧p.dB=ds c p.block∧kG c p.dB p.eP∧(0≤p.cj∧p.cj≤2)
 | .fW=>True
structure oW (c:bG) (k:Nat) (s:aD):Prop where
 b:iW c k s
 d:Sw c k s s.aA
theorem iW.mono {c:bG} {k k':Nat} {s:aD} (h:iW c k s) (hk:k≤k'):iW c k' s:={ h with H2:=⟨h.H2.1,by have:=h.H2.2;omega⟩ }
theorem oW.mono {c:bG} {k k':Nat} {s:aD} (h:oW c k s) (hk:k≤k'):oW c k' s:=by
 refine⟨h.b.mono hk,?_⟩
 have hd:=h.d
 revert hd
 cases s.aA with
 | ej=>
   rintro ⟨h0,e,h1,h2,h3⟩
   exact⟨h0,e,h1,⟨h2.1,by omega⟩,h3⟩
 | fF=>
   rintro ⟨h0,OL,l,h1,h2,h3,h4,h5⟩
   exact⟨h0,OL,l,h1,h2,h3,h4,h5.mono hk⟩
 | dI=>
   rintro ⟨h0,hl,t,h1,h2,h3⟩
   exact⟨h0,hl.mono hk,t,h1,h2,h3.1,by omega⟩
 | dG ck=>
   rintro ⟨h0,hl,h1⟩
   exact⟨h0,hl.mono hk,h1⟩
 | cN=>
   rintro ⟨h0,hl,h1⟩
   exact⟨h0,hl.mono hk,h1⟩
 | et w=>
   rintro ⟨h0,hd,hl,h1⟩
   exact⟨h0,hd,hl.mono hk,h1⟩
 | cK w=>
   rintro ⟨h0,hd,hl,h1⟩
   exact⟨h0,hd,hl.mono hk,h1⟩
 | _=>exact id
theorem iW.to {c:bG} {k:Nat} {s s':aD} (h:iW c k s) (h1:s'.cf=s.cf) (h2:s'.ag=s.ag) (h3:s'.aM=s.aM) (h4:s'.ac=s.ac) (h5:s'.am=s.am) (h6:s'.set=s.set) (h7:s'.ah=s.ah) (h8:s'.ap=s.ap) (h9:s'.ao=s.ao) (GS:s'.aj=s.aj):iW c k s':=by
 obtain⟨cf,ag,av,ax,value,br,ai,ah,ac,ap,set,aM,ao,aj,aG,aE,am,aA⟩:=s
 obtain⟨YO,MR,O0,mL,OX,UY,LY,O8,N7,P6,Tl,TB,Qe,Pc,Rk,Q0,M1,Qa⟩:=s'
 dsimp only at h1 h2 h3 h4 h5 h6 h7 h8 h9 GS
 subst h1 h2 h3 h4 h5 h6 h7 h8 h9 GS
 exact⟨h.cf,h.G2,h.aM,h.dA,h.cc,h.I6,h.GU,h.kN,h.push,h.set,h.O6,h.O3,h.EQ,h.H2,h.Qt,h.Q8⟩
section
variable {c:bG} {k:Nat} {s:aD}
theorem zN {l:List Int} {i:Nat} (h:i<l.length):l.getD i 0∈l:=by
 rw [List.getD_eq_getElem?_getD,List.getElem?_eq_getElem h]
 exact List.getElem_mem h
theorem tU (hc:dt c) (h:iW c k s):oW c k (gg s):=by
 unfold gg
 split
 · exact⟨h.to rfl rfl rfl rfl rfl rfl rfl rfl rfl rfl,trivial⟩
 · rename_i hn
   have hp:=h.push
   have dQ:s.am<s.ac.length:=by omega
   refine⟨h.to rfl rfl rfl rfl rfl rfl rfl rfl rfl rfl,fun e=>hn (.inl e),dQ,rfl,?_,.zero hc _,by show (0:Int)≤0;omega,by show (0:Int)≤2;omega⟩
   show ds s.cf (s.ac.getD s.am 0)=ds c (s.ac.getD s.am 0)
   rw [h.cf]
theorem pS (hc:dt c) (h:iW c k s) (ax:Int):oW c k (gy s ax):=tU hc (h.to rfl rfl rfl rfl rfl rfl rfl rfl rfl rfl)
theorem qw (l:List Int):(dX l).Pairwise (·< ·)∧∀z,z∈dX l↔z∈l:=by rw [ym];exact ra l
theorem ug (l:List Int):dX (dX l)=dX l:=by
 obtain⟨h1,h2⟩:=qw l
 obtain⟨h3,h4⟩:=qw (dX l)
 exact HY _ _ h3 h1 h4
theorem KR {l:List Int} (hl:l.Pairwise (·< ·)) (a:Int):(∀x∈l,a≤x)→∀n:Nat,(∀x∈l,x<a+n)→l.length≤n:=by
 induction l generalizing a with
 | nil=>intro _ n _;simp
 | cons y r ih=>
   intro h1 n h2
   rw [List.pairwise_cons] at hl
   have Zh:=h1 y (by simp)
   have Zg:=h2 y (by simp)
   have:r.length≤n-1:=ih hl.2 (y+1) (fun x hx=>by have:=hl.1 x hx;omega) (n-1) (fun x hx=>by have:=h2 x (by simp [hx]);omega)
   simp only [List.length_cons]
   omega
theorem KS {c:bG} (hc:dt c) {a:Int} (h:0≤a∧a<c.aF+c.nb):0≤fJ c a∧fJ c a<c.aj:=by
 have:=hc.aj
 unfold fJ
 rw [if_pos h,Int.tmod_eq_emod_of_nonneg h.1]
 exact⟨Int.emod_nonneg a (by omega),Int.emod_lt_of_pos a (by omega)⟩
theorem vc (hc:dt c) (h:iW c k s) (he:fe s) (ax:Int):oW c k (nN s ax):=by
 unfold nN
 split
 · rename_i hs
   simp only [Bool.and_eq_true,decide_eq_true_eq] at hs
   obtain⟨HK,Pt⟩:=hs
   have zB:=qw (s.aM.bl.map (fJ s.cf))
   have IS:=ug (s.aM.bl.map (fJ s.cf))
   have hr:∀x∈dX (s.aM.bl.map (fJ s.cf)),0≤x∧x<c.aj:=fun x hx=>by
    obtain⟨a,ha,rfl⟩:=List.mem_map.1 ((zB.2 x).1 hx)
    rw [h.cf];exact KS hc (h.I6 a ha)
   refine⟨{ h.to (s':={ s with ax:=ax,aG:=some ⟨s.ag,dX (dX (s.aM.bl.map (fJ s.cf))),[],0,false⟩,aA:=.fF }) rfl rfl rfl rfl rfl rfl rfl rfl rfl rfl with Qt:=?_,Q8:=hr },⟨he.aE,he.am,he.Qc⟩,⟨HK,?_⟩,_,rfl,IS,rfl,?_,⟨.zero _,fun e=>(by cases e),fun w hw=>(by cases hw)⟩⟩
   · show (dX (s.aM.bl.map (fJ s.cf))).length≤64
     have ho:=hc.aj
     have:=KR zB.1 0 (fun x hx=>(hr x hx).1) c.aj.toNat fun x hx=>by have:=(hr x hx).2;omega
     omega
   · show (decide (ax=1) && decide (0<s.aM.bl.length))=true
     simp [HK,Pt]
   · show 0<(dX (dX (s.aM.bl.map (fJ s.cf)))).length
     rw [IS]
     have hm:fJ s.cf s.aM.bl[0]∈dX (s.aM.bl.map (fJ s.cf)):=(zB.2 _).2 (List.mem_map.2 ⟨_,List.getElem_mem Pt,rfl⟩)
     exact List.length_pos_of_mem hm
 · rename_i hs
   refine⟨h.to rfl rfl rfl rfl rfl rfl rfl rfl rfl rfl,⟨he.am,he.Qc⟩,⟨.inl ⟨he.aj,he.aG⟩,⟨fun e=>absurd e hs,fun e=>?_⟩⟩,_,rfl,rfl,?_⟩
   · rw [show ({ s with ax:=ax,aE:=some ⟨false,0,false⟩,aA:=ba.dI }:aD).aj=s.aj from rfl,he.aj] at e;simp at e
   show (0:Int)≤0∧(0:Int)≤k
   omega
theorem rF (h:iW c k s) (hp:s.am=0) (hl:mu k s) (hd:s.ai=true→s.aj=[]) (ht:∃t,s.aE=some t):oW c k (fH s):=by
 unfold fH
 split
 · exact⟨h.to rfl rfl rfl rfl rfl rfl rfl rfl rfl rfl,hp,ht⟩
 · rename_i hn
   have s9:s.ai=false:=by
    cases e:s.ai with
    | false=>rfl
    | true=>rw [hd e] at hn;simp at hn
   refine⟨h.to rfl rfl rfl rfl rfl rfl rfl rfl rfl rfl,hp,fun e=>?_,hl,ht,0,by show 0<s.aj.length;omega,?_⟩
   · rw [show ({ s with aA:=ba.cK ⟨s.aj,s.dH⟩ }:aD).ai=s.ai from rfl,s9] at e;cases e
   · rw [List.drop_zero,List.drop_zero]
     show (⟨s.aj,s.dH⟩:gL)=⟨s.aj,lB _⟩
     unfold lB
     rw [if_neg (by show ¬s.ai=true;rw [s9];decide)]
     rfl
theorem fe.to {s s':aD} (h:fe s) (h1:s'.aj=s.aj) (h2:s'.aG=s.aG) (h3:s'.aE=s.aE) (h4:s'.am=s.am) (h5:s'.ai=s.ai):fe s':=
 ⟨h1.trans h.aj,h2.trans h.aG,h3.trans h.aE,h4.trans h.am,h5.trans h.Qc⟩
theorem lR (s:ln) (a v:Int):(di s a v).2.dA=s.dA∧(di s a v).2.index.length=s.index.length∧(∀x∈(di s a v).2.bl,x∈s.bl∨x=a):=by
 unfold di
 split
 · exact⟨rfl,rfl,fun x hx=>.inl hx⟩
 · split
   · exact⟨rfl,rfl,fun x hx=>.inl hx⟩
   · refine⟨rfl,by simp,fun x hx=>?_⟩
     rw [List.mem_append] at hx
     rcases hx with hx|hx
     · exact .inl hx
     · exact .inr (by simpa using hx)
theorem iW.put (h:iW c k s) {a:Int} (ha:0≤a∧a<c.aF+c.nb) (v:Int):iW c k { s with aM:=(di s.aM a v).2 }:=by
 obtain⟨h1,h2,h3⟩:=lR s.aM a v
 refine⟨h.cf,h.G2,sM h.aM ha.1 v,h1.trans h.dA,by have:=h.cc;show (di s.aM a v).2.index.length≤64;omega,?_,h.GU,h.kN,h.push,h.set,h.O6,h.O3,h.EQ,h.H2,h.Qt,h.Q8⟩
 intro x hx
 rcases h3 x hx with h4|h4
 · exact h.I6 x h4
 · subst h4;exact ha
structure GI (s s':aD):Prop where
 aA:s'.aA=s.aA
 aj:s'.aj=s.aj
 aG:s'.aG=s.aG
 aE:s'.aE=s.aE
 am:s'.am=s.am
 Qc:s'.ai=s.ai
 cf:s'.cf=s.cf
 ap:s'.ap=s.ap
theorem GI.LX {s s':aD} (h:GI s s') (he:fe s):fe s':=he.to h.aj h.aG h.aE h.am h.Qc
theorem GI.trans {s s' Vh:aD} (h:GI s s') (h':GI s' Vh):GI s Vh:=
 ⟨h'.aA.trans h.aA,h'.aj.trans h.aj,h'.aG.trans h.aG,h'.aE.trans h.aE,h'.am.trans h.am,h'.Qc.trans h.Qc,h'.cf.trans h.cf,h'.ap.trans h.ap⟩
theorem xD (hc:dt c) (h:iW c k s) {a:Int} (ha:0≤a∧a<c.aF+c.nb) (v:Int):((iI s a v).1=true∧iW c k (iI s a v).2∧GI s (iI s a v).2)∨((iI s a v).1=false∧oW c k (iI s a v).2):=by
 unfold iI
 split
 · exact .inl ⟨rfl,h.put ha v,rfl,rfl,rfl,rfl,rfl,rfl,rfl,rfl⟩
 · exact .inr ⟨rfl,pS hc h 3⟩
theorem Ck (h:iW c k s) (he:fe s) (hd:s.aA=.bm):oW c k s:=⟨h,by rw [hd];exact fun _=>he⟩
theorem Cr (hc:dt c) (h:iW c k s) (he:fe s) (hd:s.aA=.bm) (b st:Int) (hb:0≤b∧b<c.nb):oW c k (jX s b st):=by
 have gt:=h.cf
 subst gt
 unfold jX
 split
 · exact vc hc h he 8
 · split
   · exact pS hc h 3
   · rename_i hf
     have hw:=hc.aF
     rcases xD hc h (a:=s.cf.aF+b) (by omega) 0 with ⟨h1,h2,h3⟩|⟨h1,h2⟩
     · rw [if_pos h1]
       refine Ck ?_ ((h3.LX he).to rfl rfl rfl rfl rfl) (h3.aA.trans hd)
       refine { h2.to (s':={ (iI s (s.cf.aF+b) 0).2 with ap:=s.ap }) rfl rfl rfl rfl rfl rfl rfl h3.ap.symm rfl rfl with EQ:=?_ }
       show ((s.ap++[b]).length:Int)≤s.cf.ap
       simp only [List.length_append,List.length_cons,List.length_nil]
       omega
     · rw [if_neg (by rw [h1];decide)];exact h2
theorem BT (hc:dt c):∀(n:Nat) (a:Int) (s:aD),iW c k s→0≤a→a+n≤c.aF+c.nb→((hY n a s).1=true∧iW c k (hY n a s).2∧GI s (hY n a s).2)∨((hY n a s).1=false∧oW c k (hY n a s).2)
 | 0,a,s,h,_,_=>.inl ⟨rfl,h,rfl,rfl,rfl,rfl,rfl,rfl,rfl,rfl⟩
 | n+1,a,s,h,h0,hn=>by
   unfold hY
   rcases xD hc h (a:=a) (by omega) 0 with ⟨h1,h2,h3⟩|⟨h1,h2⟩
   · rw [if_pos h1]
     rcases BT hc n (a+1) _ h2 (by omega) (by omega) with ⟨g1,g2,g3⟩|⟨g1,g2⟩
     · exact .inl ⟨g1,g2,h3.trans g3⟩
     · exact .inr ⟨g1,g2⟩
   · rw [if_neg (by rw [h1];decide)];exact .inr ⟨rfl,h2⟩
theorem BR (hc:dt c) (h:iW c k s) (he:fe s) (hd:s.aA=.bm) (hl:(s.ac.length:Int)<c.ac) (dB b:Int) (hb:-1≤b∧b<c.nb) (qj:0≤b→ds c b=dB):oW c k (fV s dB b):=by
 have gt:=h.cf
 subst gt
 unfold fV
 split
 · exact pS hc h 4
 · rename_i V8
   have hw:=hc.aF
   have AA:=nL hc b (by omega)
   have iz:=qj (by omega)
   have xv:=oC hc
   have h1:iW s.cf k { s with ac:=s.ac++[b] }:=by
    refine⟨rfl,h.G2,h.aM,h.dA,h.cc,h.I6,?_,?_,?_,h.set,h.O6,h.O3,h.EQ,h.H2,h.Qt,h.Q8⟩
    · intro x hx
      rw [List.mem_append] at hx
      rcases hx with hx|hx
      · exact h.GU x hx
      · have:x=b:=by simpa using hx
        omega
    · show ((s.ac++[b]).length:Int)≤s.cf.ac
      simp only [List.length_append,List.length_cons,List.length_nil]
      omega
    · show s.am≤(s.ac++[b]).length
      have:=h.push
      simp only [List.length_append,List.length_cons,List.length_nil]
      omega
   have e1:fe { s with ac:=s.ac++[b] }:=he.to rfl rfl rfl rfl rfl
   dsimp only
   rcases xD hc h1 (a:=s.cf.aF+b) (by omega) (dB+1) with ⟨g1,g2,g3⟩|⟨g1,g2⟩
   · rw [if_pos g1]
     have Yx:((2 ^ dB.toNat:Nat):Int)=2 ^ (ds s.cf b).toNat:=by rw [iz];push_cast;rfl
     rcases BT hc (2 ^ dB.toNat) (eL s.cf b) _ g2 AA.2.1 (by rw [Yx];have:=AA.2.2;omega) with ⟨z1,z2,z3⟩|⟨z1,z2⟩
     · rw [if_pos z1]
       have Ov:=g3.trans z3
       exact Ck (z2.to rfl rfl rfl rfl rfl rfl rfl rfl rfl rfl) ((Ov.LX e1).to rfl rfl rfl rfl rfl) (Ov.aA.trans hd)
     · rw [if_neg (by rw [z1];decide)];exact z2
   · rw [if_neg (by rw [g1];decide)];exact g2
theorem M7 (hc:dt c) (h:iW c k s) (he:fe s) (hd:s.aA=.bm) (l:vu) (hl:Ob c l):oW c k (nK s l):=by
 cases l with
 | fy=>exact vc hc h he 7
 | Gw=>exact vc hc h he 8
 | cC ax=>exact vc hc h he ax
 | take v=>exact Ck (h.to rfl rfl rfl rfl rfl rfl rfl rfl rfl rfl) (he.to rfl rfl rfl rfl rfl) hd
 | fu a v=>
   have hw:=hc.aF
   show oW c k (if s.cf.aF≤a then nN s 7 else (iI s a v).2)
   split
   · exact vc hc h he 7
   · rename_i hn
     rw [h.cf] at hn
     rcases xD hc h (a:=a) ⟨hl,by have:=oC hc;omega⟩ v with ⟨h1,h2,h3⟩|⟨h1,h2⟩
     · exact Ck h2 (h3.LX he) (h3.aA.trans hd)
     · exact h2
 | r9=>exact pS hc h 3
 | cM b v=>exact Cr hc h he hd b v hl
theorem MP (hc:dt c) (h:iW c k s) (he:fe s) (hd:s.aA=.bm) (v:Int) (u:qX) (hu:Ka c u):oW c k (AD s v u):=by
 cases u with
 | take=>exact Ck (h.to rfl rfl rfl rfl rfl rfl rfl rfl rfl rfl) (he.to rfl rfl rfl rfl rfl) hd
 | cM b=>exact Cr hc h he hd b v hu
end
def nQ (c:bG) (nt k:Nat) (r:ri):Prop:=oW c (k+1) r.2.2.1∧oR c nt (k+1) r.2.2.2
theorem nQ.of {c:bG} {nt k:Nat} {a:bq} {ph:Int} {s':aD} {M':Mm} (h1:oW c (k+1) s') (h2:oR c nt (k+1) M'):nQ c nt k (a,ph,s',M'):=⟨h1,h2⟩
section
variable {c:bG} {nt k:Nat} {s:aD} {M:Mm}
theorem xL (hM:oR c nt k M) (eV:Int) (g:Int→Int×Bool):0≤(de M eV 3 0 g).fI∧(de M eV 3 0 g).fI≤k:=by
 rcases p9 M eV 3 0 g with h|⟨_,h⟩
 · rw [h];omega
 · rw [h];exact hM.H2
theorem NN (hM:oR c nt k M) (eV:Int) (g:Int→Int×Bool):0≤(de M eV 4 0 g).fI∧(de M eV 4 0 g).fI≤k:=by
 rcases p9 M eV 4 0 g with h|⟨_,h⟩
 · rw [h];omega
 · rw [h];exact hM.SA
theorem Gi (hc:dt c) (hM:oR c nt k M) (eV:Int) {cc:Int} (hi:0≤cc) (g:Int→Int×Bool):kG c cc (de M eV 7 cc g).fI:=by
 rcases p9 M eV 7 cc g with h|⟨_,h⟩
 · rw [h];exact .zero hc _
 · have e:cc=(cc.toNat:Int):=by omega
   have:=hM.eP cc.toNat
   rw [h]
   rw [←e] at this
   exact this
theorem LQ (hc:dt c) (hM:oR c nt k M) (eV:Int) {cc:Int} (hi:0≤cc) (g:Int→Int×Bool):nd c (ds c cc) (de M eV 8 cc g).fI:=by
 rcases p9 M eV 8 cc g with h|⟨_,h⟩
 · rw [h];exact .zero hc _
 · have e:cc=(cc.toNat:Int):=by omega
   have:=hM.next cc.toNat
   rw [h]
   rw [←e] at this
   exact this
theorem u9 (e:dC) (M:Mm) (pE:0≤e.cj∧e.cj≤2):(e.cj=0∧go e M=(wx M 6 e.ag 1,{ e with cj:=1 },ww M 6 e.ag 1)) ∨
 (e.cj=1∧go e M=(gX M 3 0,{ e with cj:=2,ao:=(gX M 3 0).fI },M)) ∨
 (e.cj=2∧go e M=(wx M 6 e.ag (IntKind.u64.wrap (e.ao+2)),{ e with cj:=3 },ww M 6 e.ag (IntKind.u64.wrap (e.ao+2)))):=by
 unfold go
 by_cases h0:e.cj=0
 · exact .inl ⟨h0,if_pos h0⟩
 · by_cases h1:e.cj=1
   · exact .inr (.inl ⟨h1,by rw [if_neg h0,if_pos h1]⟩)
   · have h2:e.cj=2:=by omega
     exact .inr (.inr ⟨h2,by rw [if_neg h0,if_neg h1,if_pos h2]⟩)
theorem H0 (hM:oR c nt k M) (h:iW c k s) (he:fe s) (e:dC) (zJ:0≤e.ao∧e.ao≤k) (pE:0≤e.cj∧e.cj≤2) (ht:e.ag=s.ag) (hd:s.aA=.ej):nQ c nt k (gD s M e):=by
 have hb:=h.mono (Nat.le_succ k)
 unfold gD
 rcases u9 e M pE with ⟨h0,e0⟩|⟨h0,e0⟩|⟨h0,e0⟩
 · rw [e0]
   dsimp only
   rw [if_neg (by decide)]
   refine⟨⟨hb.to rfl rfl rfl rfl rfl rfl rfl rfl rfl rfl,?_⟩,hM.Rc (by omega) _ _ _ (by decide)⟩
   show Sw c (k+1) _ s.aA
   rw [hd]
   refine⟨he.to rfl rfl rfl rfl rfl,_,rfl,⟨zJ.1,?_⟩,by show (0:Int)≤1∧(1:Int)≤2;omega,ht⟩
   show e.ao≤((k+1:Nat):Int)
   have:=zJ.2
   omega
 · rw [e0]
   dsimp only
   rw [if_neg (by decide)]
   refine⟨⟨hb.to rfl rfl rfl rfl rfl rfl rfl rfl rfl rfl,?_⟩,hM.mono (by omega)⟩
   show Sw c (k+1) _ s.aA
   rw [hd]
   have hg:=xL hM 1 gF
   refine⟨he.to rfl rfl rfl rfl rfl,_,rfl,⟨hg.1,?_⟩,by show (0:Int)≤2∧(2:Int)≤2;omega,ht⟩
   show (de M 1 3 0 gF).fI≤((k+1:Nat):Int)
   have:=hg.2
   omega
 · rw [e0]
   dsimp only
   rw [if_pos rfl]
   exact⟨Ck (hb.to rfl rfl rfl rfl rfl rfl rfl rfl rfl rfl) (he.to rfl rfl rfl rfl rfl) rfl,hM.Rc (by omega) _ _ _ (by decide)⟩
theorem JA {l:List Int} {a:Int} (h:l.Nodup) (ha:¬a∈l):(l++[a]).Nodup:=by
 rw [List.nodup_append]
 refine⟨h,by simp,?_⟩
 intro x hx y hy e
 have:y=a:=by simpa using hy
 subst this
 subst e
 exact ha hx
theorem tD {dA:Nat} {l:List Int} (x:Int) (h:l.length≤dA):(cr dA l x).2.length≤dA:=by
 unfold cr
 split
 · exact h
 · split
   · exact h
   · simp;omega
theorem rJ (r:dY) (M:Mm):(cB r M).2.1.cA=r.cA∧(cB r M).2.1.dl=r.dl∧(cB r M).2.1.rv=r.rv∧(cB r M).2.2=M:=by
 unfold cB
 dsimp only
 by_cases h0:r.cj=0
 · rw [if_pos h0]
   dsimp only
   split<;>exact⟨rfl,rfl,rfl,rfl⟩
 · rw [if_neg h0]
   by_cases h1:r.cj=1
   · rw [if_pos h1];exact⟨rfl,rfl,rfl,rfl⟩
   · rw [if_neg h1]
     by_cases h2:r.cj=2
     · rw [if_pos h2];exact⟨rfl,rfl,rfl,rfl⟩
     · rw [if_neg h2];exact⟨rfl,rfl,rfl,rfl⟩
theorem wD (r:dY) (M:Mm) (pE:0≤r.cj∧r.cj≤2) (gt:r.du=false) (jx:(cB r M).2.1.done=false):(cB r M).2.1.du=false∧0≤(cB r M).2.1.cj∧(cB r M).2.1.cj≤2:=by
 revert jx
 unfold cB
 dsimp only
 by_cases h0:r.cj=0
 · rw [if_pos h0]
   dsimp only
   split
   · intro jx;simp [dY.done] at jx
   · intro _;exact⟨gt,by dsimp only;omega,by dsimp only;omega⟩
 · rw [if_neg h0]
   by_cases h1:r.cj=1
   · rw [if_pos h1];intro _;exact⟨gt,by dsimp only;omega,by dsimp only;omega⟩
   · have h2:r.cj=2:=by omega
     rw [if_neg h1,if_pos h2]
     intro jx;simp [dY.done] at jx
theorem Js (hc:dt c) (hM:oR c nt k M) (h:iW c k s) (he:fe s) (r:dY) (u:qX) (hd:s.aA=.bz r u) (pE:0≤r.cj∧r.cj≤2) (ho:r.dl=fJ c r.cA) (gt:r.du=false) (hu:Ka c u) (ha:0≤r.cA∧r.cA<c.aF+c.nb) (XA:r.rv=s.rv):nQ c nt k (dZ s M r u):=by
 have hb:=h.mono (Nat.le_succ k)
 obtain⟨i1,i2,i3,i4⟩:=rJ r M
 have LK:=wD r M pE gt
 unfold dZ
 dsimp only
 split
 · rename_i jx
   obtain⟨g1,g2,g3⟩:=LK jx
   refine⟨⟨hb.to rfl rfl rfl rfl rfl rfl rfl rfl rfl rfl,he.to rfl rfl rfl rfl rfl,⟨g2,g3⟩,?_,g1,hu,?_,?_⟩,by rw [i4];exact hM.mono (by omega)⟩
   · rw [i2,i1];exact ho
   · rw [i1];exact ha
   · rw [i3];exact XA
 · split
   · exact⟨pS hc hb 9,by rw [i4];exact hM.mono (by omega)⟩
   · have h2:∀s2:aD,s2=(if r.cA<s.cf.aF∧¬r.cA∈s.ah then { s with aA:=.bz (cB r M).2.1 u,ah:=s.ah++[r.cA] } else { s with aA:=.bz (cB r M).2.1 u })→iW c (k+1) s2∧fe s2∧s2.cf=s.cf∧s2.set=s.set:=by
      rintro _ rfl
      split
      · rename_i hn
        refine⟨{ hb.to (s':={ s with aA:=.bz (cB r M).2.1 u }) rfl rfl rfl rfl rfl rfl rfl rfl rfl rfl with O6:=JA h.O6 hn.2,O3:=?_ },he.to rfl rfl rfl rfl rfl,rfl,rfl⟩
        intro a hx
        have hx:a∈s.ah++[r.cA]:=hx
        rw [List.mem_append] at hx
        rcases hx with hx|hx
        · exact h.O3 a hx
        · have:a=r.cA:=by simpa using hx
          rw [h.cf] at hn
          omega
      · exact⟨hb.to rfl rfl rfl rfl rfl rfl rfl rfl rfl rfl,he.to rfl rfl rfl rfl rfl,rfl,rfl⟩
     generalize Pt:(if r.cA<s.cf.aF∧¬r.cA∈s.ah then { s with aA:=ba.bz (cB r M).2.1 u,ah:=s.ah++[r.cA] } else { s with aA:=ba.bz (cB r M).2.1 u }:aD)=s2
     obtain⟨b2,e2,c2,t2⟩:=h2 s2 Pt.symm
     split
     · rename_i fz
       refine nQ.of ?_ (by rw [i4];exact hM.mono (by omega))
       refine MP hc ?_ ?_ rfl _ _ hu
       case refine_2=>exact e2.to rfl rfl rfl rfl rfl
       refine { b2.to (s':={ s2 with aA:=.bm }) rfl rfl rfl rfl rfl rfl rfl rfl rfl rfl with set:=?_ }
       show (cr s.cf.ah.toNat s.set r.dl).2.length≤c.ah.toNat
       rw [h.cf]
       exact tD _ h.set
     · exact⟨pS hc b2 3,by rw [i4];exact hM.mono (by omega)⟩
theorem pC (p:mN) (M:Mm) (pE:0≤p.cj∧p.cj≤2):(p.cj=0∧fx p M=(gX M 7 p.dB,{ p with eP:=(gX M 7 p.dB).fI,cj:=if iu (gX M 7 p.dB).fI<0 then 3 else 1 },M)) ∨
 (p.cj=1∧fx p M=(gX M 8 (iu p.eP),{ p with next:=(gX M 8 (iu p.eP)).fI,cj:=2 },M)) ∨
 (p.cj=2∧∃w,w=lV p.eP (IntKind.i64.wrap (IntKind.i64.wrap p.next-1))∧fx p M=(Aw M 7 p.dB p.eP w,if (Aw M 7 p.dB p.eP w).done=true then { p with cj:=3,block:=iu p.eP } else { p with cj:=0 },Mo M 7 p.dB p.eP w)):=by
 unfold fx
 by_cases h0:p.cj=0
 · exact .inl ⟨h0,if_pos h0⟩
 · by_cases h1:p.cj=1
   · exact .inr (.inl ⟨h1,by rw [if_neg h0,if_pos h1]⟩)
   · have h2:p.cj=2:=by omega
     exact .inr (.inr ⟨h2,_,rfl,by rw [if_neg h0,if_neg h1,if_pos h2]⟩)
theorem KQ (hc:dt c) (hM:oR c nt k M) (h:iW c k s) (he:fe s) (p:mN) (hl:(s.ac.length:Int)<c.ac) (iz:0≤p.dB∧p.dB≤3) (hh:kG c p.dB p.eP) (hn:nd c p.dB p.next) (hb:p.block = -1) (pE:0≤p.cj∧p.cj≤2) (R3:1≤p.cj→0≤iu p.eP):nQ c nt k (mE s M p):=by
 have sQ:=h.mono (Nat.le_succ k)
 have xv:=oC hc
 have cC:∀(b:Int),-1≤b∧b<c.nb→(0≤b→ds c b=p.dB)→oW c (k+1) (fV { s with aA:=.bm } p.dB b):=fun b hb P1=>by
  refine BR (s:={ s with aA:=.bm }) hc ?_ ?_ rfl hl _ _ hb P1
  · exact sQ.to rfl rfl rfl rfl rfl rfl rfl rfl rfl rfl
  · exact he.to rfl rfl rfl rfl rfl
 unfold mE
 rcases pC p M pE with ⟨h0,e0⟩|⟨h0,e0⟩|⟨h0,w,hw,e0⟩
 · rw [e0]
   have hg:=Gi hc hM 1 iz.1 gF
   dsimp only
   refine nQ.of ?_ (hM.mono (by omega))
   by_cases qK:iu (gX M 7 p.dB).fI<0
   · rw [if_pos (by rw [if_pos qK]),hb]
     exact cC _ (by omega) (fun e=>by omega)
   · rw [if_neg (by rw [if_neg qK];decide)]
     refine⟨sQ.to rfl rfl rfl rfl rfl rfl rfl rfl rfl rfl,he.to rfl rfl rfl rfl rfl,hl,iz,hg,hn,hb,?_,fun _=>?_⟩
     · dsimp only
       rw [if_neg qK]
       omega
     · show 0≤iu (gX M 7 p.dB).fI
       omega
 · rw [e0]
   have ht:=R3 (by omega)
   have hg:=LQ hc hM 1 ht gF
   rw [hh.2.2 ht] at hg
   dsimp only
   rw [if_neg (by decide)]
   exact⟨⟨sQ.to rfl rfl rfl rfl rfl rfl rfl rfl rfl rfl,he.to rfl rfl rfl rfl rfl,hl,iz,hh,hg,hb,by dsimp only;omega,fun _=>ht⟩,hM.mono (by omega)⟩
 · rw [e0]
   dsimp only
   have ht:=R3 (by omega)
   have qh:=hn.1
   have tR:=hn.2.1
   have Yu:=hc.nb
   have gJ:IntKind.i64.wrap (IntKind.i64.wrap p.next-1)=p.next-1:=by
    rw [ak (x:=p.next) (by omega) (by omega),ak (by omega) (by omega)]
   rw [gJ] at hw
   refine nQ.of ?_ (hM.op (by omega) _ _ _ fun _=>⟨fun _=>?_,fun e=>by omega,fun e=>by omega,fun e=>by omega⟩)
   · by_cases jx:(Aw M 7 p.dB p.eP w).done=true
     · rw [if_pos (by rw [if_pos jx]),if_pos jx]
       exact cC _ ⟨by dsimp only;omega,hh.2.1⟩ hh.2.2
     · rw [if_neg (by rw [if_neg jx];show ¬(0:Int)=3;decide),if_neg jx]
       exact⟨sQ.to rfl rfl rfl rfl rfl rfl rfl rfl rfl rfl,he.to rfl rfl rfl rfl rfl,hl,iz,hh,hn,hb,by dsimp only;omega,fun e=>by dsimp only at e;omega⟩
   · show kG c p.dB w
     rw [hw]
     exact Gv hc (by omega) fun e=>hn.2.2 (by omega)
theorem rM (p:kM) (M:Mm) (pE:0≤p.cj∧p.cj≤2):(p.cj=0∧dE p M=(gX M 7 p.dB,{ p with eP:=(gX M 7 p.dB).fI,cj:=1 },M)) ∨
 (p.cj=1∧∃w,w=IntKind.u64.wrap (IntKind.i64.wrap (iu p.eP+1))∧dE p M=(wx M 8 p.block w,{ p with cj:=2 },ww M 8 p.block w)) ∨
 (p.cj=2∧∃w,w=lV p.eP p.block∧dE p M=(Aw M 7 p.dB p.eP w,{ p with cj:=if (Aw M 7 p.dB p.eP w).done=true then 3 else 0 },Mo M 7 p.dB p.eP w)):=by
 unfold dE
 by_cases h0:p.cj=0
 · exact .inl ⟨h0,if_pos h0⟩
 · by_cases h1:p.cj=1
   · exact .inr (.inl ⟨h1,_,rfl,by rw [if_neg h0,if_pos h1]⟩)
   · have h2:p.cj=2:=by omega
     exact .inr (.inr ⟨h2,_,rfl,by rw [if_neg h0,if_neg h1,if_pos h2]⟩)
theorem Jv (hc:dt c) (hM:oR c nt k M) (h:iW c k s) (p:kM) (qi:s.ax≠1) (dQ:s.am<s.ac.length) (NG:p.block=s.ac.getD s.am 0) (iz:p.dB=ds c p.block) (hh:kG c p.dB p.eP) (pE:0≤p.cj∧p.cj≤2):nQ c nt k (kv s M p):=by
 have sQ:=h.mono (Nat.le_succ k)
 have hb:=h.GU _ (zN dQ)
 rw [←NG] at hb
 have AA:=nL hc p.block hb
 rw [←iz] at AA
 unfold kv
 rcases rM p M pE with ⟨h0,e0⟩|⟨h0,w,hw,e0⟩|⟨h0,w,hw,e0⟩
 · rw [e0]
   have hg:=Gi hc hM 1 AA.1.1 gF
   dsimp only
   rw [if_neg (by decide)]
   exact⟨⟨sQ.to rfl rfl rfl rfl rfl rfl rfl rfl rfl rfl,qi,dQ,NG,iz,hg,by dsimp only;omega⟩,hM.mono (by omega)⟩
 · rw [e0]
   dsimp only
   rw [if_neg (by decide)]
   refine⟨⟨sQ.to rfl rfl rfl rfl rfl rfl rfl rfl rfl rfl,qi,dQ,NG,iz,hh,by dsimp only;omega⟩,hM.op (by omega) _ _ _ fun _=>⟨fun e=>by omega,fun _=>?_,fun e=>by omega,fun e=>by omega⟩⟩
   have Xv:=KC hh.1
   have Yu:=hc.nb
   have Zi:=hh.2.1
   have gJ:IntKind.u64.wrap (IntKind.i64.wrap (iu p.eP+1))=iu p.eP+1:=by
    rw [ak (by omega) (by omega),au (by omega) (by omega)]
   show nd c (ds c p.block) w
   rw [hw,gJ,←iz]
   refine⟨by omega,by omega,fun e=>?_⟩
   rw [show iu p.eP+1-1=iu p.eP by omega]
   exact hh.2.2 (by omega)
 · rw [e0]
   dsimp only
   refine nQ.of ?_ (hM.op (by omega) _ _ _ fun _=>⟨fun _=>?_,fun e=>by omega,fun e=>by omega,fun e=>by omega⟩)
   · by_cases jx:(Aw M 7 p.dB p.eP w).done=true
     · rw [if_pos (by rw [if_pos jx])]
       refine tU hc ?_
       refine { sQ.to (s':={ s with aA:=.bm }) rfl rfl rfl rfl rfl rfl rfl rfl rfl rfl with push:=?_ }
       show s.am+1≤s.ac.length
       omega
     · rw [if_neg (by rw [if_neg jx];decide)]
       refine⟨sQ.to rfl rfl rfl rfl rfl rfl rfl rfl rfl rfl,qi,dQ,NG,iz,hh,?_⟩
       dsimp only
       rw [if_neg jx]
       omega
   · show kG c p.dB w
     rw [hw]
     exact Gv hc hb.2 fun _=>iz.symm
theorem LP (hM:oR c nt k M) (eV cc:Int) (g:Int→Int×Bool):jp k (de M eV 2 cc g).fI:=by
 rcases p9 M eV 2 cc g with h|⟨_,h⟩
 · rw [h];exact .zero k
 · rw [h];exact hM.Tv _
theorem DI {k:Nat} {x:Int} (h:jp k x):iF x<0↔x % 64=0:=by
 have h1:=h.1
 unfold iF
 rw [Int.tmod_eq_emod_of_nonneg h1,ak (x:=x % 64) (by omega) (by omega),ak (by omega) (by omega)]
 omega
theorem zt {k:Nat} (hk:k<2^41) {l:eM} (h:tz k l) (hl:l.fg=true) (ht:0≤l.ag∧l.ag<16):jD l=l.d8+l.ag+1:=by
 have h1:=h.d8.1
 have h2:=h.d8.2.1
 have h3:=h.load hl
 unfold jD
 rw [au (x:=l.ag) (by omega) (by omega),au (x:=l.d8+l.ag) (by omega) (by omega),au (by omega) (by omega)]
theorem FU (l:eM) (hM:oR c nt k M) (hk:k<2^40) (ht:0≤l.ag∧l.ag<16) (h3:l.dH.length<l.aj.length) (hI:tz k l):(dF l M).2.1.aj=l.aj∧(dF l M).2.1.ag=l.ag∧(dF l M).2.1.dH.length≤l.aj.length∧tz (k+1) (dF l M).2.1∧oR c nt (k+1) (dF l M).2.2:=by
 have QK:=hI.mono (Nat.le_succ k)
 unfold dF
 dsimp only
 split
 · exact⟨rfl,rfl,by dsimp only;omega,QK,hM.mono (by omega)⟩
 · split
   · have hg:=LP hM 1 (ew l) gF
     refine⟨rfl,rfl,by dsimp only;omega,⟨hg.mono (by omega),fun e=>?_,QK.dH⟩,hM.mono (by omega)⟩
     exact(DI hg).1 (by simpa using e)
   · rename_i uT
     have RM:l.fg=true:=by simpa using uT
     have h1:=hI.d8.1
     have h2:=hI.d8.2.1
     have h4:=hI.load RM
     refine⟨rfl,rfl,?_,⟨QK.d8,fun e=>(by cases e),?_⟩,hM.Vp (by omega) _ _ ?_⟩
     · dsimp only
       split
       · simp;omega
       · omega
     · dsimp only
       split
       · intro w hw
         rw [List.mem_append] at hw
         rcases hw with hw|hw
         · exact QK.dH w hw
         · have:w=l.d8:=by simpa using hw
           subst this
           exact⟨QK.d8,h4⟩
       · exact QK.dH
     · show jp (k+1) (jD l)
       rw [zt (by omega) hI RM ht]
       refine⟨by omega,by omega,by omega⟩
theorem JB (hM:oR c nt k M) (hk:k<2^40) (h:iW c k s) (l:eM) (hs:s.aG=some l) (hn:s.aE=none∧s.am=0∧s.ai=false) (qi:s.ax=1) (dn:s.iv=true) (h1:l.aj=s.aj) (h2:l.ag=s.ag) (h3:l.dH.length<l.aj.length) (hI:tz k l) (hd:s.aA=.fF):nQ c nt k (jk s M l):=by
 have sQ:=h.mono (Nat.le_succ k)
 obtain⟨g1,g2,g3,g5,g4⟩:=FU l hM hk (by rw [h2];exact h.G2) h3 hI
 unfold jk
 dsimp only
 refine nQ.of ?_ (g4)
 split
 · rename_i jx
   have HS:(dF l M).2.1.dH.length=(dF l M).2.1.aj.length:=by simpa [eM.done] using jx
   have oE:0<s.aj.length:=by rw [←h1];omega
   refine⟨sQ.to rfl rfl rfl rfl rfl rfl rfl rfl rfl rfl,hn.2,⟨.inr ⟨_,rfl,g1.trans h1,?_,oE,g5⟩,⟨fun _=>oE,fun _=>dn⟩⟩,_,rfl,rfl,?_⟩
   · show (dF l M).2.1.dH.length=s.aj.length
     rw [HS,g1,h1]
   · show (0:Int)≤0∧(0:Int)≤((k+1:Nat):Int)
     omega
 · rename_i jx
   have HS:¬(dF l M).2.1.dH.length=(dF l M).2.1.aj.length:=by simpa [eM.done] using jx
   refine⟨sQ.to rfl rfl rfl rfl rfl rfl rfl rfl rfl rfl,?_⟩
   show Sw c (k+1) _ s.aA
   rw [hd]
   refine⟨hn,⟨qi,dn⟩,_,rfl,g1.trans h1,g2.trans h2,?_,g5⟩
   rw [g1] at HS ⊢
   omega
theorem E1 (hM:oR c nt k M) (hk:k<2^40) (t:fL) (h1:t.done=false) (h2:0≤t.gP∧t.gP≤k):(0≤(gn t M).2.1.gP∧(gn t M).2.1.gP≤k)∧oR c nt (k+1) (gn t M).2.2:=by
 unfold gn
 rw [if_neg (by rw [h1];decide)]
 split
 · refine⟨NN hM 4 (qM 1),hM.op (by omega) _ _ _ fun _=>⟨fun e=>by omega,fun e=>by omega,fun _=>?_,fun e=>by omega⟩⟩
   have hg:=hM.SA
   show 0≤IntKind.u64.wrap ((M 3).getD 0 0+1)∧IntKind.u64.wrap ((M 3).getD 0 0+1)≤((k+1:Nat):Int)
   rw [au (by omega) (by omega)]
   omega
 · exact⟨h2,hM.mono (by omega)⟩
theorem Jd (hM:oR c nt k M) (hk:k<2^40) (h:iW c k s) (t:fL) (hs:s.aE=some t) (hn:s.am=0∧s.ai=false) (hl:kJ k s) (h1:t.done=false) (h2:0≤t.gP∧t.gP≤k) (hd:s.aA=.dI):nQ c nt k (im s M t):=by
 have sQ:=h.mono (Nat.le_succ k)
 obtain⟨g1,g2⟩:=E1 hM hk t h1 h2
 unfold im
 dsimp only
 refine nQ.of ?_ (g2)
 split
 · by_cases hz:s.set.length=0
   · refine⟨sQ.to rfl rfl rfl rfl rfl rfl rfl rfl rfl rfl,?_⟩
     simp only [if_pos hz]
     exact⟨hn,hl.mono (by omega),_,rfl⟩
   · refine⟨sQ.to rfl rfl rfl rfl rfl rfl rfl rfl rfl rfl,?_⟩
     simp only [if_neg hz]
     exact⟨hn,hl.mono (by omega),⟨_,rfl⟩,rfl,⟨0,by show 0<s.set.length;omega,rfl⟩,rfl⟩
 · rename_i jx
   refine⟨sQ.to rfl rfl rfl rfl rfl rfl rfl rfl rfl rfl,?_⟩
   show Sw c (k+1) _ s.aA
   rw [hd]
   refine⟨hn,hl.mono (by omega),_,rfl,by simpa using jx,g1.1,?_⟩
   have:=g1.2
   show (gn t M).2.1.gP≤((k+1:Nat):Int)
   omega
theorem H4 (hM:oR c nt k M) (h:iW c k s) (ck:ft) (hn:s.am=0∧s.ai=false) (hl:kJ k s) (ht:∃t,s.aE=some t) (h1:ck.ii=false) (h2:∃k,k<s.set.length∧ck.aj=s.set.drop k) (h3:ck.rv=s.rv):nQ c nt k (hU s M ck):=by
 have sQ:=h.mono (Nat.le_succ k)
 obtain⟨q,hq,zD⟩:=h2
 have Uy:ck.done=false:=by
  simp only [ft.done,h1,zD,Bool.false_or,List.length_drop,decide_eq_false_iff_not]
  omega
 have e0:eR ck M=(gX M 2 (ck.aj.getD 0 0),{ ck with aj:=ck.aj.tail,ii:=decide (ge (gX M 2 (ck.aj.getD 0 0)).fI>ck.rv) },M):=by
  unfold eR
  rw [if_neg (by rw [Uy];decide)]
 unfold hU
 rw [e0]
 dsimp only
 refine nQ.of ?_ (hM.mono (by omega))
 split
 · exact rF (sQ.to rfl rfl rfl rfl rfl rfl rfl rfl rfl rfl) hn.1 (hl.1.mono (by omega)) (fun e=>by rw [show s.ai=false from hn.2] at e;cases e) ht
 · rename_i hf
   split
   · exact⟨sQ.to rfl rfl rfl rfl rfl rfl rfl rfl rfl rfl,hn,hl.mono (by omega),ht⟩
   · rename_i jx
     refine⟨sQ.to rfl rfl rfl rfl rfl rfl rfl rfl rfl rfl,hn,hl.mono (by omega),ht,by simpa using hf,⟨q+1,?_,?_⟩,h3⟩
     · simp only [ft.done,Bool.or_eq_true,decide_eq_true_eq,zD,List.length_tail,List.length_drop] at jx
       show q+1<s.set.length
       omega
     · show ck.aj.tail=s.set.drop (q+1)
       rw [zD,List.tail_drop]
theorem Gr (hM:oR c nt k M) (h:iW c k s) (hn:s.am=0∧s.ai=false) (hl:kJ k s) (ht:∃t,s.aE=some t):nQ c nt k (fb s M):=by
 have sQ:=h.mono (Nat.le_succ k)
 have hg:=xL hM 1 gF
 have xz:iW c (k+1) { s with ao:=(gX M 3 0).fI }:=by
  refine { sQ.to (s':={ s with aA:=.bm }) rfl rfl rfl rfl rfl rfl rfl rfl rfl rfl with H2:=?_ }
  show 0≤(gX M 3 0).fI∧(gX M 3 0).fI≤((k+1:Nat):Int)
  refine⟨hg.1,?_⟩
  have:=hg.2
  show (de M 1 3 0 gF).fI≤_
  omega
 unfold fb
 dsimp only
 refine nQ.of ?_ (hM.mono (by omega))
 split
 · exact rF (xz.to rfl rfl rfl rfl rfl rfl rfl rfl rfl rfl) hn.1 (hl.1.mono (by omega)) (fun e=>by rw [show s.ai=false from hn.2] at e;cases e) ht
 · split
   · rename_i dn
     refine⟨xz.to rfl rfl rfl rfl rfl rfl rfl rfl rfl rfl,hn.1,⟨rfl,dn⟩,hl.mono (by omega),ht,0,?_,rfl⟩
     have HJ:s.iv=true:=dn
     unfold aD.iv at HJ
     simp only [Bool.and_eq_true,decide_eq_true_eq] at HJ
     exact HJ.2
   · rename_i dn
     refine rF (xz.to rfl rfl rfl rfl rfl rfl rfl rfl rfl rfl) hn.1 (hl.1.mono (by omega)) (fun _=>?_) ht
     have:¬0<s.aj.length:=fun e=>dn (hl.2.2 e)
     exact List.eq_nil_of_length_eq_zero (by show s.aj.length=0;omega)
theorem GX (hM:oR c nt k M) (h:iW c k s) (w:gL) (hn:s.am=0) (mf:s.ai=true∧s.iv=true) (hl:kJ k s) (ht:∃t,s.aE=some t) (h1:∃k,k<s.aM.bl.length∧w=⟨s.aM.bl.drop k,s.aM.df.drop k⟩):nQ c nt k (iZ s M w):=by
 have sQ:=h.mono (Nat.le_succ k)
 obtain⟨q,hq,rfl⟩:=h1
 have oE:=hl.2.1 mf.2
 unfold iZ lq
 rw [if_neg (by simp only [gL.done,decide_eq_true_eq,List.length_drop];omega)]
 dsimp only
 refine nQ.of ?_ (hM.Rc (by omega) _ _ _ (by decide))
 split
 · refine⟨sQ.to rfl rfl rfl rfl rfl rfl rfl rfl rfl rfl,hn,fun _=>mf.2,hl.1.mono (by omega),ht,0,oE,?_⟩
   show (⟨s.aj,List.replicate s.aj.length (gN s.sy)⟩:gL)=⟨s.aj,lB _⟩
   unfold lB
   rw [if_pos (by exact mf.1)]
   rfl
 · rename_i jx
   simp only [gL.done,decide_eq_true_eq,List.length_tail,List.length_drop] at jx
   exact⟨sQ.to rfl rfl rfl rfl rfl rfl rfl rfl rfl rfl,hn,mf,hl.mono (by omega),ht,q+1,by show q+1<s.aM.bl.length;omega,by rw [List.tail_drop,List.tail_drop]⟩
theorem xT (h:iW c k s) (hk:k<2^40) (mf:s.ai=true∧s.iv=true):s.sy=s.ao+1:=by
 have zJ:=h.H2
 unfold aD.sy
 rw [if_pos mf,ak (x:=s.ao) (by omega) (by omega),ak (by omega) (by omega)]
theorem KN (hM:oR c nt k M) (hk:k<2^40) (h:iW c k s) (w:gL) (hn:s.am=0) (mf:s.ai=true→s.iv=true) (hl:mu k s) (ht:∃t,s.aE=some t) (h1:∃k,k<s.aj.length∧w=⟨s.aj.drop k,(lB s).drop k⟩):nQ c nt k (lC s M w):=by
 have sQ:=h.mono (Nat.le_succ k)
 obtain⟨q,hq,rfl⟩:=h1
 unfold lC j3
 rw [if_neg (by simp only [gL.done,decide_eq_true_eq,List.length_drop];omega)]
 dsimp only
 have it:jp (k+1) (((lB s).drop q).getD 0 0):=by
  have e:((lB s).drop q).getD 0 0=(lB s).getD q 0:=by simp [List.getD_eq_getElem?_getD]
  rw [e]
  unfold lB
  split
  · rename_i RW
    have hv:=xT h hk ⟨RW,mf RW⟩
    have zJ:=h.H2
    rw [List.getD_eq_getElem?_getD,List.getElem?_replicate,if_pos hq]
    show jp (k+1) (gN s.sy)
    rw [hv]
    unfold gN
    rw [if_pos (by omega)]
    exact⟨by omega,by omega,by omega⟩
  · rcases hl with ⟨hl,_⟩|⟨l,h1,h2,h3,h4,h5⟩
    · rw [hl] at hq;simp at hq
    · unfold aD.dH
      rw [h1]
      rcases Gj l.dH q with e|e
      · show jp (k+1) (l.dH.getD q 0)
        rw [e];exact .zero _
      · exact(h5.dH _ e).1.mono (by omega)
 refine nQ.of ?_ (hM.Vp (by omega) _ _ it)
 by_cases jx:gL.done ⟨(s.aj.drop q).tail,((lB s).drop q).tail⟩=true
 · by_cases hv:0≤s.sy
   · refine⟨sQ.to rfl rfl rfl rfl rfl rfl rfl rfl rfl rfl,?_⟩
     simp only [if_pos jx,if_pos hv]
     refine⟨hn,?_,ht⟩
     show s.ai=true∧s.iv=true
     have:s.ai=true:=by
      cases e:s.ai with
      | true=>rfl
      | false=>unfold aD.sy at hv;rw [if_neg (by rw [e];simp)] at hv;omega
     exact⟨this,mf this⟩
   · refine⟨sQ.to rfl rfl rfl rfl rfl rfl rfl rfl rfl rfl,?_⟩
     simp only [if_pos jx,if_neg hv]
     exact⟨hn,ht⟩
 · refine⟨sQ.to rfl rfl rfl rfl rfl rfl rfl rfl rfl rfl,?_⟩
   simp only [if_neg jx]
   simp only [gL.done,decide_eq_true_eq,List.length_tail,List.length_drop] at jx
   exact⟨hn,mf,hl.mono (by omega),ht,q+1,by show q+1<s.aj.length;omega,by rw [List.tail_drop,List.tail_drop];rfl⟩
theorem BY (hc:dt c) (hk:k<2^40) (h:oW c k s) (hM:oR c nt k M):nQ c nt k (cD s M):=by
 have hb:=h.b
 have sQ:=hb.mono (Nat.le_succ k)
 have hd:=h.d
 have Wd:=hM.mono (Nat.le_succ k)
 unfold cD
 cases e:s.aA with
 | bm=>exact⟨h.mono (Nat.le_succ k),Wd⟩
 | jV l=>
   rw [e] at hd
   refine nQ.of ?_ Wd
   refine M7 hc ?_ ?_ rfl l hd.2
   · exact sQ.to rfl rfl rfl rfl rfl rfl rfl rfl rfl rfl
   · exact hd.1.to rfl rfl rfl rfl rfl
 | ej=>
   rw [e] at hd
   obtain⟨h0,en,h1,h2,h3,h4⟩:=hd
   dsimp only
   rw [h1]
   exact H0 hM hb h0 en h2 h3 h4 e
 | bz r u=>
   rw [e] at hd
   obtain⟨h0,h1,h2,h3,h4,h5,h6⟩:=hd
   exact Js hc hM hb h0 r u e h1 h2 h3 h4 h5 h6
 | eE p=>
   rw [e] at hd
   obtain⟨h0,h1,h2,h3,h4,h5,h6,h7⟩:=hd
   exact KQ hc hM hb h0 p h1 h2 h3 h4 h5 h6 h7
 | fF=>
   rw [e] at hd
   obtain⟨h0,OL,l,h1,h2,h3,h4,h5⟩:=hd
   dsimp only
   rw [h1]
   exact JB hM hk hb l h1 h0 OL.1 OL.2 h2 h3 h4 h5 e
 | dI=>
   rw [e] at hd
   obtain⟨h0,hl,t,h1,h2,h3⟩:=hd
   dsimp only
   rw [h1]
   exact Jd hM hk hb t h1 h0 hl h2 h3 e
 | dG ck=>
   rw [e] at hd
   obtain⟨h0,hl,ht,h1,h2,h3⟩:=hd
   exact H4 hM hb ck h0 hl ht h1 h2 h3
 | cN=>
   rw [e] at hd
   obtain⟨h0,hl,ht⟩:=hd
   exact Gr hM hb h0 hl ht
 | et w=>
   rw [e] at hd
   obtain⟨h0,mf,hl,ht,h1⟩:=hd
   exact GX hM hb w h0 mf hl ht h1
 | cK w=>
   rw [e] at hd
   obtain⟨h0,mf,hl,ht,h1⟩:=hd
   exact KN hM hk hb w h0 mf hl ht h1
 | ij=>
   rw [e] at hd
   refine⟨⟨sQ.to rfl rfl rfl rfl rfl rfl rfl rfl rfl rfl,hd.1,hd.2.2⟩,hM.op (by omega) _ _ _ fun _=>⟨fun e=>by omega,fun e=>by omega,fun _=>?_,fun e=>by omega⟩⟩
   have zJ:=hb.H2
   show 0≤IntKind.u64.wrap (s.ao+1)∧IntKind.u64.wrap (s.ao+1)≤((k+1:Nat):Int)
   rw [au (by omega) (by omega)]
   omega
 | fm=>
   rw [e] at hd
   exact⟨tU hc sQ,hM.Rc (by omega) _ _ _ (by decide)⟩
 | eZ p=>
   rw [e] at hd
   obtain⟨h0,h1,h2,h3,h4,h5⟩:=hd
   exact Jv hc hM hb p h0 h1 h2 h3 h4 h5
 | fW=>
   exact⟨⟨sQ.to rfl rfl rfl rfl rfl rfl rfl rfl rfl rfl,fun e=>absurd rfl e⟩,hM.Rc (by omega) _ _ _ (by decide)⟩
theorem qm (h:oW c k s) {st:Int} (dn:st≠2) (hf:s.jY st=true):fe s∧s.aA=.bm∧s.av=st:=by
 simp only [aD.jY,Bool.and_eq_true,decide_eq_true_eq] at hf
 have hd:s.aA=.bm:=by
  have h1:=hf.1
  revert h1
  cases s.aA<;>simp [ba.eo]
 have MB:=h.d
 rw [hd] at MB
 exact⟨MB (by rw [hf.2];exact dn),hd,hf.2⟩
theorem Cy (h:oW c k s):oW c k (jG s).2:=by
 unfold jG
 split
 · rename_i hf
   obtain⟨he,hd,hs⟩:=qm h (by decide) hf
   exact⟨h.b.to rfl rfl rfl rfl rfl rfl rfl rfl rfl rfl,he.to rfl rfl rfl rfl rfl,_,rfl,by show (0:Int)≤0∧(0:Int)≤k;omega,by show (0:Int)≤0∧(0:Int)≤2;omega,rfl⟩
 · exact h
theorem GW (h:oW c k s) (a v:Int) (ha:0≤a):oW c k (CF s a v).2:=by
 unfold CF
 split
 · rename_i hf
   obtain⟨he,hd,hs⟩:=qm h (by decide) hf
   exact⟨h.b.to rfl rfl rfl rfl rfl rfl rfl rfl rfl rfl,he.to rfl rfl rfl rfl rfl,ha⟩
 · exact h
theorem DV (h:oW c k s) (ax:Int):oW c k (xN s ax).2:=by
 unfold xN
 split
 · rename_i hf
   obtain⟨he,hd,hs⟩:=qm h (by decide) hf
   split
   · exact h
   · exact⟨h.b.to rfl rfl rfl rfl rfl rfl rfl rfl rfl rfl,he.to rfl rfl rfl rfl rfl,trivial⟩
 · exact h
theorem Hw (w:Nat) (hw:w≤32):jq (gv w)∧(gv w).dA=w∧(gv w).index.length≤64:=by
 have:∀w:Fin 33,jq (gv (w:Nat))∧(gv (w:Nat)).dA=w∧(gv (w:Nat)).index.length≤64:=by
  intro w
  have k6:(gv (w:Nat)).dA=w:=by simp [gv]
  have hw:=w.2
  have u5:(gv (w:Nat)).bl=[]:=rfl
  have hval:(gv (w:Nat)).df=[]:=rfl
  have PJ:∃n,(gv (w:Nat)).index=List.replicate n (-1)∧(w:Nat)<n∧n≤64:=by
   refine⟨_,rfl,?_⟩
   constructor
   · repeat' split
     all_goals omega
   · repeat' split
     all_goals omega
  obtain⟨n,hn,qh,tR⟩:=PJ
  have Ut:∀q,ix (gv (w:Nat)).index q = -1:=by
   intro q
   unfold ix
   rw [hn,List.getD_eq_getElem?_getD]
   by_cases hq:q<n
   · rw [List.getElem?_replicate,if_pos hq];rfl
   · rw [List.getElem?_eq_none (by simp;omega)];rfl
  refine⟨⟨by rw [u5,hval],by rw [u5];simp,by rw [k6,hn];simpa using qh,by rw [u5];simp,fun q _=>by rw [Ut,u5];simp,?_,fun e he=>by rw [u5] at he;simp at he,fun i j hi=>by rw [u5] at hi;simp at hi⟩,k6,by rw [hn];simpa using tR⟩
  rw [u5,hn]
  unfold sh
  rw [List.countP_replicate]
  simp
 exact this ⟨w,by omega⟩
theorem tK (hc:dt c) (k:Nat) (t:Int) (ht:0≤t∧t<16):oW c k (iD c t):=by
 have hw:=hc.bX
 obtain⟨w,Mq⟩:∃w:Nat,c.bX=w:=⟨c.bX.toNat,by omega⟩
 obtain⟨h1,h2,h3⟩:=Hw w (by omega)
 have ha:=hc.ac
 have hf:=hc.ap
 have e:(iD c t).aM=gv w:=by unfold iD;rw [Mq]
 refine⟨⟨rfl,ht,by rw [e];exact h1,by rw [e,h2,Mq];rfl,by rw [e];exact h3,by rw [e];exact fun a ha=>(by cases ha),fun x hx=>(by cases hx),by show ((0:Nat):Int)≤c.ac;omega,Nat.le_refl _,Nat.zero_le _,List.nodup_nil,fun a ha=>(by cases ha),by show ((0:Nat):Int)≤c.ap;omega,by show (0:Int)≤0∧(0:Int)≤k;omega,Nat.zero_le _,fun x hx=>(by cases hx)⟩,fun _=>⟨rfl,rfl,rfl,rfl,rfl⟩⟩
end
end
section
theorem an.KP {A:AW} {L:List It} {p:Prop} (hp:p) (h:an A L):an A (.h (rc p)::L):=bK.pr.2 ⟨hp,h⟩
structure RV where
 bh:Nat
 aY:Nat
 az:Nat
 aJ:Nat
 aK:Nat
 m:Nat
 dy:Nat
 k:Nat
 ja:Int
 dr:Value
 bS:Value
 aw:Value
 aB:Value
 va:Value
 vv:Value
 vi:Value
 fA:Value
 fk:Value
 dD:Value
 dL:Value
 cI:Value
 jv:Value
 dO:Value
 dP:Value
 cG:Value
 cx:Value
 dv:Value
 cH:Value
 dN:Value
 bU:Value
 bt:Value
 dM:Value
 bT:Value
def wU (s:aD) (a:Int):Bool:=(eC s.aM a).2 || decide (s.aM.bl.length<s.aM.dA)
def eS (s:aD):vu→Bool
 | .fy | .Gw | .cC _=>true
 | .fu a _=>decide (s.cf.aF≤a)
 | _=>false
def jH (s:aD):vu→Bool
 | .r9=>true
 | .fu a _=>!decide (s.cf.aF≤a) && !wU s a
 | _=>false
def ez (s:aD) (j:Value):vu→Value
 | .fy=>.int .i64 7
 | .Gw=>.int .i64 8
 | .cC c=>.int .i64 c
 | .r9=>.int .i64 3
 | .fu a _=>if s.cf.aF≤a then .int .i64 7 else if wU s a=true then j else .int .i64 3
 | _=>j
def H1 (st:Int) (j:Value):Value:=if st=2 then j else .bool false
theorem m8 (st:Int):H1 st (.bool false)=.bool false:=by unfold H1;split<;>rfl
theorem gK (j:Value):H1 1 j=.bool false:=rfl
theorem ms (j:Value):H1 0 j=.bool false:=rfl
def eQ:ba→Int
 | .bm=>0 | .ej=>1 | .jV _=>2 | .bz _ _=>3 | .eE _=>4 | .fF=>5 | .dI=>6 | .dG _=>7
 | .cN=>8 | .et _=>9 | .cK _=>10 | .ij=>11 | .fm=>12 | .eZ _=>13 | .fW=>14
def cO:ba→RV→Value
 | .jV (.take _),_=>.int .i64 10 | .jV (.fu _ _),_=>.int .i64 11 | .jV (.cM _ _),_=>.int .i64 15
 | .bz _ .take,_=>.int .i64 10 | .bz _ (.cM _),_=>.int .i64 15|_,f=>f.dL
def bf:ba→RV→Value | .jV (.take _),f=>.int .u64 f.ja | .jV (.fu a _),_=>.int .u64 a|_,f=>f.cI
def ff:ba→RV→Value | .jV (.fu _ v),_=>.int .u64 v|_,f=>f.jv
def bO:ba→RV→Value | .eE p,_=>.int .i64 p.dB|_,f=>f.dO
def bP:ba→RV→Value | .jV (.cM b _),_=>.int .i64 b | .bz _ (.cM b),_=>.int .i64 b|_,f=>f.dP
def bd (s:aD):ba→RV→Value | .jV k,f=>ez s f.cG k|_,f=>f.cG
def be (s:aD):ba→RV→Value
 | .jV k,_=>.bool (eS s k) | .bm,f=>H1 s.av f.cx | .ej,_=>.bool false | .bz _ _,_=>.bool false | .eE _,_=>.bool false|_,f=>f.cx
def bL (s:aD):ba→RV→Value
 | .jV k,_=>.bool (jH s k) | .bm,f=>H1 s.av f.dv | .ej,_=>.bool false | .bz _ _,_=>.bool false | .eE _,_=>.bool false|_,f=>f.dv
def bc:ba→RV→Value | .bz _ _,f=>pv f.m|_,f=>f.cH
def bN:ba→RV→Value | .eE _,f=>pv f.m|_,f=>f.dN
def aO:ba→RV→Value | .dG _,f=>pv f.m|_,f=>f.bU
def aI:ba→RV→Value | .et _,f=>pv f.m|_,f=>f.bt
def bM:ba→RV→Value | .et _,f=>pv f.dy | .cK _,f=>pv f.m|_,f=>f.dM
def aN:ba→RV→Value | .eZ _,f=>pv f.m|_,f=>f.bT
def bH (s:aD) (n:Int) (d:ba) (f:RV):ef:=.cells [
 .int .i64 s.cf.aF,.int .i64 s.cf.aj,.int .i64 s.cf.base,.int .i64 s.cf.c0,.int .i64 s.cf.c1,.int .i64 s.cf.c2,.int .i64 s.cf.c3,.int .i64 s.cf.ah,.int .i64 s.cf.bX,.int .i64 s.cf.ac,.int .i64 s.cf.ap,.int .i64 s.cf.ao,.bool s.cf.cT,
 .int .i64 s.ag,.int .i64 s.av,.int .i64 s.ax,.int .u64 s.value,.int .i64 s.rv,.bool s.ai,.int .i64 s.sy,f.bS,f.aw,f.aB,pv f.bh,pv f.aY,
 .int .i64 n,cO d f,bf d f,ff d f,bO d f,bP d f,bd s d f,be s d f,bL s d f,
 bJ s.br f.az,bc d f,bN d f,aT s.aG f.aJ,aQ s.aE f.aK,aO d f,aI d f,bM d f,.int .u64 s.ao,aN d f] true 1
def xh:Option dC→Nat→HP|none,_=>fa|some e,n=>pt n (eY e)
def qY:Option fL→Nat→HP|none,_=>fa|some t,n=>pt n (iy t)
def jA (l:eM) (fA fk:Value):ef:=.cells [.int .i64 l.ag,fA,fk,.bool l.fg,.int .u64 l.d8] true 1
def hW:Option eM→Nat→Value→Value→HP|none,_,_,_=>fa|some l,n,fA,fk=>pt n (jA l fA fk)*(ar .i64 fA l.aj*ar .u64 fk l.dH)
def mA:Value→Nat→Value
 | .slice (some a) n c,k=>.slice (some ⟨a.block,a.off+k,none⟩) (n-k) (c-k)
 | v,_=>v
def iA (c:bG) (v p:Value):ef:=.cells [.int .i64 c.aF,.int .i64 c.aj,.int .i64 c.base,.int .i64 c.c0,.int .i64 c.c1,.int .i64 c.c2,.int .i64 c.c3,.int .i64 c.ah,.int .i64 c.bX,.int .i64 c.ac,.int .i64 c.ap,.int .i64 c.ao,.bool c.cT,v,p] true 1
def bE (b:Nat) (s:aD) (n:Int) (d:ba) (f:RV):List It:=[.at b (bH s n d f),.h (xh s.br f.az),.h (hW s.aG f.aJ f.fA f.fk),.h (qY s.aE f.aK),
 .at f.bh (ko s.cf.ah.toNat f.dr),.h (ar .i64 f.dr s.set),.h (ar .i64 f.bS s.ah),.h (ar .i64 f.aw s.ac),.h (ar .i64 f.aB s.ap)]
def cR (s:aD):ba→RV→List It
 | .et _,f=>[.at f.aY (gw s.aM.dA f.va f.vv f.vi),.h (ar .i64 f.va s.aM.bl),.h (ar .u64 f.vv s.aM.df),.h (ar .i64 f.vi s.aM.index)]
 | _,f=>[.h (fY f.aY s.aM)]
def bj (s:aD):ba→RV→List It
 | .jV (.take v),f=>[.h (rc (eC s.aM f.ja=(v,true)∧0≤f.ja∧f.ja<2^40))]
 | .jV (.cM b v),f=>[.h (rc (eC s.aM (s.cf.aF+b)=(v,true)))]
 | .bz r _,f=>[.at f.m (gA r)]
 | .eE p,f=>[.at f.m (kQ p)]
 | .dG ck,f=>[.at f.m (jC f.dr ck.rv f.k ck.ii),.h (rc (ck.aj=s.set.drop f.k∧f.k≤s.set.length))]
 | .et w,f=>[.at f.m (gp 1 f.va f.vv f.k),.at f.dy (gp 2 f.fA f.dD 0),.h (ar .u64 f.dD (List.replicate s.aj.length (gN s.sy))),.h (rc (w=⟨s.aM.bl.drop f.k,s.aM.df.drop f.k⟩∧f.k≤s.aM.bl.length))]
 | .cK w,f=>(match s.ai with
  | true=>[.at f.m (gp 2 f.fA f.dD f.k),.h (ar .u64 f.dD (List.replicate s.aj.length (gN s.sy)))]
  | false=>[.at f.m (gp 2 f.fA f.fk f.k)])++[.h (rc (w=⟨s.aj.drop f.k,(lB s).drop f.k⟩∧f.k≤s.aj.length))]
 | .eZ p,f=>[.at f.m (iA s.cf (mA f.aw s.am) (pv f.dy)),.at f.dy (gj p)]
 | _,_=>[]
def cJ (s:aD) (d:ba) (f:RV):List It:=cR s d f++bj s d f
def jz (b:Nat) (s:aD) (n:Int) (d:ba):HP:=rt fun f:RV=>bn (bE b s n d f++[.h (fY f.aY s.aM)])
def gz (b:Nat) (s:aD) (n:Int) (d:ba):HP:=rt fun f:RV=>bn (bE b s n d f++cJ s d f)
def bF (b:Nat) (s:aD):HP:=gz b s (eQ s.aA) s.aA
theorem ay.ly {n:Nat} {t:fL} {L:List It}:ay (.at n (iy t)::L) (.h (qY (some t) n)) L:=.e rfl
theorem ay.qC {n:Nat} {t:dC} {L:List It}:ay (.at n (eY t)::L) (.h (xh (some t) n)) L:=.e rfl
theorem cV (cf:bG) (ag av ax value:Int) (br:Option dC) (ah ac ap set:List Int) (aM:ln) (ao:Int) (aj:List Int) (aG:Option eM) (aE:Option fL) (am:Nat) (aA:ba) :
 aD.sy ⟨cf,ag,av,ax,value,br,false,ah,ac,ap,set,aM,ao,aj,aG,aE,am,aA⟩ = -1:=if_neg (by simp)
section
variable {A:AW} {L K:List It} {b:Nat} {s:aD} {n:Int} {d:ba}
theorem jz.open (h:an A L) (hp:ay L (.h (jz b s n d)) K):∃f,an A (bE b s n d f++[.h (fY f.aY s.aM)]++K):=mo h hp
theorem gz.open (h:an A L) (hp:ay L (.h (gz b s n d)) K):∃f,an A (bE b s n d f++cJ s d f++K):=mo h hp
theorem bF.open (h:an A L) (hp:ay L (.h (bF b s)) K):∃f,an A (bE b s (eQ s.aA) s.aA f++cJ s s.aA f++K):=mo h hp
theorem jz.eh {bh aY az aJ aK m dy k:Nat} {ja:Int} {dr bS aw aB va vv vi fA fk dD dL cI jv dO dP cG cx dv cH dN bU bt dM bT:Value} (h:an A L) (e:aX L (bE b s n d ⟨bh,aY,az,aJ,aK,m,dy,k,ja,dr,bS,aw,aB,va,vv,vi,fA,fk,dD,dL,cI,jv,dO,dP,cG,cx,dv,cH,dN,bU,bt,dM,bT⟩++[.h (fY aY s.aM)]) K):an A (.h (jz b s n d)::K):=k4 ⟨bh,aY,az,aJ,aK,m,dy,k,ja,dr,bS,aw,aB,va,vv,vi,fA,fk,dD,dL,cI,jv,dO,dP,cG,cx,dv,cH,dN,bU,bt,dM,bT⟩ h e
theorem gz.eh {bh aY az aJ aK m dy k:Nat} {ja:Int} {dr bS aw aB va vv vi fA fk dD dL cI jv dO dP cG cx dv cH dN bU bt dM bT:Value} (h:an A L) (e:aX L (bE b s n d ⟨bh,aY,az,aJ,aK,m,dy,k,ja,dr,bS,aw,aB,va,vv,vi,fA,fk,dD,dL,cI,jv,dO,dP,cG,cx,dv,cH,dN,bU,bt,dM,bT⟩++cJ s d ⟨bh,aY,az,aJ,aK,m,dy,k,ja,dr,bS,aw,aB,va,vv,vi,fA,fk,dD,dL,cI,jv,dO,dP,cG,cx,dv,cH,dN,bU,bt,dM,bT⟩) K):an A (.h (gz b s n d)::K):=k4 ⟨bh,aY,az,aJ,aK,m,dy,k,ja,dr,bS,aw,aB,va,vv,vi,fA,fk,dD,dL,cI,jv,dO,dP,cG,cx,dv,cH,dN,bU,bt,dM,bT⟩ h e
theorem bF.eh {bh aY az aJ aK m dy k:Nat} {ja:Int} {dr bS aw aB va vv vi fA fk dD dL cI jv dO dP cG cx dv cH dN bU bt dM bT:Value} (h:an A L) (e:aX L (bE b s (eQ s.aA) s.aA ⟨bh,aY,az,aJ,aK,m,dy,k,ja,dr,bS,aw,aB,va,vv,vi,fA,fk,dD,dL,cI,jv,dO,dP,cG,cx,dv,cH,dN,bU,bt,dM,bT⟩++cJ s s.aA ⟨bh,aY,az,aJ,aK,m,dy,k,ja,dr,bS,aw,aB,va,vv,vi,fA,fk,dD,dL,cI,jv,dO,dP,cG,cx,dv,cH,dN,bU,bt,dM,bT⟩) K):an A (.h (bF b s)::K):=gz.eh h e
theorem jz.cC {bh aY az aJ aK m dy k:Nat} {ja:Int} {dr bS aw aB va vv vi fA fk dD dL cI jv dO dP cG cx dv cH dN bU bt dM bT:Value} {G K2:List It} (h:an A L) (e:aX L (bE b s n d ⟨bh,aY,az,aJ,aK,m,dy,k,ja,dr,bS,aw,aB,va,vv,vi,fA,fk,dD,dL,cI,jv,dO,dP,cG,cx,dv,cH,dN,bU,bt,dM,bT⟩++[.h (fY aY s.aM)]) K) (e2:aX K G K2):an A (.h (jz b s n d)::G):=an.cC (jz.eh h e) (.s .z e2)
theorem gz.cC {bh aY az aJ aK m dy k:Nat} {ja:Int} {dr bS aw aB va vv vi fA fk dD dL cI jv dO dP cG cx dv cH dN bU bt dM bT:Value} {G K2:List It} (h:an A L) (e:aX L (bE b s n d ⟨bh,aY,az,aJ,aK,m,dy,k,ja,dr,bS,aw,aB,va,vv,vi,fA,fk,dD,dL,cI,jv,dO,dP,cG,cx,dv,cH,dN,bU,bt,dM,bT⟩++cJ s d ⟨bh,aY,az,aJ,aK,m,dy,k,ja,dr,bS,aw,aB,va,vv,vi,fA,fk,dD,dL,cI,jv,dO,dP,cG,cx,dv,cH,dN,bU,bt,dM,bT⟩) K) (e2:aX K G K2):an A (.h (gz b s n d)::G):=an.cC (gz.eh h e) (.s .z e2)
theorem bF.cC {bh aY az aJ aK m dy k:Nat} {ja:Int} {dr bS aw aB va vv vi fA fk dD dL cI jv dO dP cG cx dv cH dN bU bt dM bT:Value} {G K2:List It} (h:an A L) (e:aX L (bE b s (eQ s.aA) s.aA ⟨bh,aY,az,aJ,aK,m,dy,k,ja,dr,bS,aw,aB,va,vv,vi,fA,fk,dD,dL,cI,jv,dO,dP,cG,cx,dv,cH,dN,bU,bt,dM,bT⟩++cJ s s.aA ⟨bh,aY,az,aJ,aK,m,dy,k,ja,dr,bS,aw,aB,va,vv,vi,fA,fk,dD,dL,cI,jv,dO,dP,cG,cx,dv,cH,dN,bU,bt,dM,bT⟩) K) (e2:aX K G K2):an A (.h (bF b s)::G):=an.cC (bF.eh h e) (.s .z e2)
theorem aP.Io {P:Program} {f:FuncId} {args:List Value} {pd:List It} {φ:Value→Prop} {post:Value→List It} (hc:aP P f args (.h (jz b s n d)::pd) φ post) {bh aY az aJ aK m dy k:Nat} {ja:Int} {dr bS aw aB va vv vi fA fk dD dL cI jv dO dP cG cx dv cH dN bU bt dM bT:Value} {K0:List It} {k':Value→AW→Prop} (hw:A.Wf) (hS:an A L)
 (e:aX L (bE b s n d ⟨bh,aY,az,aJ,aK,m,dy,k,ja,dr,bS,aw,aB,va,vv,vi,fA,fk,dD,dL,cI,jv,dO,dP,cG,cx,dv,cH,dN,bU,bt,dM,bT⟩++[.h (fY aY s.aM)]) K0) (e2:aX K0 pd K) (hk:∀v A',φ v→an A' (post v++K)→A'.Wf→A.next≤A'.next→k' v A'):aH P f args A k':=
 aP.el hc hw (jz.eh hS e) (.s .z e2) hk
theorem aP.E6 {P:Program} {f:FuncId} {args:List Value} {pd:List It} {φ:Value→Prop} {post:Value→List It} (hc:aP P f args (.h (gz b s n d)::pd) φ post) {bh aY az aJ aK m dy k:Nat} {ja:Int} {dr bS aw aB va vv vi fA fk dD dL cI jv dO dP cG cx dv cH dN bU bt dM bT:Value} {K0:List It} {k':Value→AW→Prop} (hw:A.Wf) (hS:an A L)
 (e:aX L (bE b s n d ⟨bh,aY,az,aJ,aK,m,dy,k,ja,dr,bS,aw,aB,va,vv,vi,fA,fk,dD,dL,cI,jv,dO,dP,cG,cx,dv,cH,dN,bU,bt,dM,bT⟩++cJ s d ⟨bh,aY,az,aJ,aK,m,dy,k,ja,dr,bS,aw,aB,va,vv,vi,fA,fk,dD,dL,cI,jv,dO,dP,cG,cx,dv,cH,dN,bU,bt,dM,bT⟩) K0) (e2:aX K0 pd K) (hk:∀v A',φ v→an A' (post v++K)→A'.Wf→A.next≤A'.next→k' v A'):aH P f args A k':=
 aP.el hc hw (gz.eh hS e) (.s .z e2) hk
theorem aP.Og {P:Program} {f:FuncId} {args:List Value} {pd:List It} {φ:Value→Prop} {post:Value→List It} (hc:aP P f args (.h (bF b s)::pd) φ post) {bh aY az aJ aK m dy k:Nat} {ja:Int} {dr bS aw aB va vv vi fA fk dD dL cI jv dO dP cG cx dv cH dN bU bt dM bT:Value} {K0:List It} {k':Value→AW→Prop} (hw:A.Wf) (hS:an A L)
 (e:aX L (bE b s (eQ s.aA) s.aA ⟨bh,aY,az,aJ,aK,m,dy,k,ja,dr,bS,aw,aB,va,vv,vi,fA,fk,dD,dL,cI,jv,dO,dP,cG,cx,dv,cH,dN,bU,bt,dM,bT⟩++cJ s s.aA ⟨bh,aY,az,aJ,aK,m,dy,k,ja,dr,bS,aw,aB,va,vv,vi,fA,fk,dD,dL,cI,jv,dO,dP,cG,cx,dv,cH,dN,bU,bt,dM,bT⟩) K0) (e2:aX K0 pd K) (hk:∀v A',φ v→an A' (post v++K)→A'.Wf→A.next≤A'.next→k' v A'):aH P f args A k':=
 aP.el hc hw (bF.eh hS e) (.s .z e2) hk
theorem xh.op {n:Nat} {e:dC} (h:an A L) (hp:ay L (.h (xh (some e) n)) K):an A (.at n (eY e)::K):=by
 unfold an at h ⊢
 rw [hp.bn] at h
 exact h
theorem qY.op {n:Nat} {e:fL} (h:an A L) (hp:ay L (.h (qY (some e) n)) K):an A (.at n (iy e)::K):=by
 unfold an at h ⊢
 rw [hp.bn] at h
 exact h
theorem hW.op {n:Nat} {l:eM} {fA fk:Value} (h:an A L) (hp:ay L (.h (hW (some l) n fA fk)) K):an A (.at n (jA l fA fk)::.h (ar .i64 fA l.aj)::.h (ar .u64 fk l.dH)::K):=by
 unfold an at h ⊢
 rw [hp.bn] at h
 have h1:bK A (pt n (jA l fA fk)*(ar .i64 fA l.aj*ar .u64 fk l.dH)*bn K):=h
 rw [HP.cq,HP.cq] at h1
 exact h1
theorem hW.cl {n:Nat} {l:eM} {fA fk:Value} (h:an A L) (hp:aX L [.at n (jA l fA fk),.h (ar .i64 fA l.aj),.h (ar .u64 fk l.dH)] K):an A (.h (hW (some l) n fA fk)::K):=by
 unfold an at h ⊢
 rw [hp.bn] at h
 have h1:bK A (pt n (jA l fA fk)*(ar .i64 fA l.aj*(ar .u64 fk l.dH*fa))*bn K):=h
 rw [dx] at h1
 exact h1
end
theorem pR {L G K:List It} (h':aX L G K:=by first|((repeat' (first|apply aX.z|apply aX.s|apply ay.z|apply ay.ly|apply ay.qC|apply ay.s));done)|fail):aX L G K:=h'
theorem kR {L K:List It} {x:It} (h':ay L x K:=by first|((repeat' (first|apply aX.z|apply aX.s|apply ay.z|apply ay.ly|apply ay.qC|apply ay.s));done)|fail):ay L x K:=h'
theorem fR {L G K:List It} (h':aX L G K:=by first|((dsimp only [bE,bH,cJ,bj,cR,eQ,cO,bf,ff,bO,bP,bd,be,bL,bc,bN,aO,aI,bM,aN,bJ,aT,aQ,aD.rv,na,zo];(try simp only [cV]);(try simp only [h]));(repeat' (first|apply aX.z|apply aX.s|apply ay.z|apply ay.ly|apply ay.qC|apply ay.s));done)|fail):aX L G K:=h'
end
section
open T28 T16
theorem rK (b:Nat) (dh:List Value) (n:Int) (hn:dh[25]? = some (.int .i64 n)) (A:AW) (hg:A.cy b=some (.cells dh true 1)):eF 75 [pv b] A (.bool (!decide (n=0))):=by
 refine ab Tryz.func75 rfl (by kernel_rfl) fun _=>?_
 refine Wr trivial (J3 hg hn @AW.aa) (J1 ?_)<;>unhygienic intros
 all_goals exact⟨_,by first|(simp;done)|(simp;rfl),by simp,rfl⟩
theorem iP (b:Nat) (dh:List Value) (n st:Int) (hn:dh[25]? = some (.int .i64 n)) (hs:dh[14]? = some (.int .i64 st)) (A:AW) (hg:A.cy b=some (.cells dh true 1)):eF 82 [pv b] A (.bool (decide (n=0) && decide (st=1))):=by
 refine ab Tryz.func82 rfl (by kernel_rfl) fun _=>?_
 have hb:=fun A' h=>rK b dh n hn A' h
 by_cases h0:n=0
 · have xA:∀A':AW,A'.cy b=some (.cells dh true 1)→eF 75 [pv b] A' (.bool false):=fun A' h=>by have:=hb A' h;rwa [show (!decide (n=0))=false by simp [h0]] at this
   refine Wr (J1 (xA _ hg)) (J5 hg hn hs h0 @AW.aa) (J1 ?_)<;>unhygienic intros
   all_goals exact⟨_,by first|(simp;done)|(simp;rfl),by simp [h0],rfl⟩
 · have xA:∀A':AW,A'.cy b=some (.cells dh true 1)→eF 75 [pv b] A' (.bool true):=fun A' h=>by have:=hb A' h;rwa [show (!decide (n=0))=true by simp [h0]] at this
   (repeat first|revert hc|revert zn|revert zA|revert R|revert K);refine Wr (J1 (xA _ hg)) (J5 hg hn hs h0 @AW.aa) (J1 ?_)<;>unhygienic intros
   all_goals exact⟨_,by first|(simp;done)|(simp;rfl),by simp [h0],rfl⟩
theorem KM (b:Nat) (dh:List Value) (hl:dh.length=44) (ax:Int) (u:Bool):aP Tryz.prog 83 [pv b,.int .i64 ax,.bool u] [.at b (.cells dh true 1)] (fun _=>True)
 (fun _=>[.at b (.cells (if ax=0 then dh.set 25 (.int .i64 2) else (((dh.set 25 (.int .i64 2)).set 31 (.int .i64 ax)).set 32 (.bool (!u))).set 33 (.bool u)) true 1)]):=by
 intro A F hw hS
 refine ab Tryz.func83 rfl (by kernel_rfl) fun _=>?_
 dsimp only [na,zo] at hS
 have hq:=ZL hS hw
 by_cases h0:ax=0
 · revert hq hS hw;refine Wr trivial (J4 hl h0 @AW.aa @af.eq_1) (J1 ?_)<;>unhygienic intros
   refine⟨_,by first|rfl|(simp;rfl),trivial,?_⟩
   rw [if_pos h0]
   apply an.cC
   (·exact sA)
   (·first|exact pR|exact kR)
 · revert hq hS hw;(repeat first|clear hq|clear hS|clear hw|revert hc|revert zn|revert zA|revert R|revert K);refine Wr trivial (J4 hl h0 @AW.aa @af.eq_1) (J1 ?_)<;>unhygienic intros
   refine⟨_,by first|rfl|(simp;rfl),trivial,?_⟩
   rw [if_neg h0]
   apply an.cC
   (·exact sA)
   (·first|exact pR|exact kR)
end
end Go.Stx
