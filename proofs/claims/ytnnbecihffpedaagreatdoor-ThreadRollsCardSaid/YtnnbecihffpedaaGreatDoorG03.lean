/-
 Made instructions.
-/
import Derived.Test.YtnnbecihffpedaaGreatDoorG02
import Derived.Test.YtnnbecihffpedaaGreatDoorF4
set_option linter.unusedVariables false
set_option linter.unusedSimpArgs false
set_option linter.unusedSectionVars false
set_option maxRecDepth 20000
set_option maxHeartbeats 4000000
namespace Go.Stx
open Go Go.Proofs
attribute [local irreducible] TW bC cB aW az aG bZ cz
section
namespace TMdW
theorem kI [Gl] {A:AW} {L:List It} {T:Prop} (hS:ah A L) (hw:A.Wf) (h':(aK A L/\ba A L/\bD L)=T:=by first|(dsimp only [aa,af,aK,ba,bD,dN];done)|exact rfl):T:=h'▸hS.dT hw
end TMdW
open TMdW
variable [Gl]
theorem FW (op:Int) (n:Nat) (hn:(n:Int)<18446744073709551616):∃x:bg,x.op=op/\(1<=op/\op<=17->D6 x)/\∀A,az Tryz.prog 24 [.int .i64 op,.int .u64 n] A (λu A'=>u=.agg (ao x).toArray/\A=A'):=by
 obtain⟨va,ha⟩:∃va,IntKind.i64.wrap ((n:Int).tmod 4)=va:=⟨_,rfl⟩;obtain⟨vb,hb⟩:∃vb,IntKind.i64.wrap (((n:Int) / 4).tmod 4)=vb:=⟨_,rfl⟩;obtain⟨vc,kK⟩:∃vc,IntKind.i64.wrap (((n:Int) / 16).tmod 4)=vc:=⟨_,rfl⟩;obtain⟨kk,hk⟩:∃kk,IntKind.i64.wrap (((n:Int) / 64).tmod 1024)=kk:=⟨_,rfl⟩;have RE:0<=kk/\kk<1024:=by
  rw [<-hk,Int.tmod_eq_emod_of_nonneg (by omega),an (by omega) (by omega)];omega
 obtain⟨r7,h7⟩:∃r7,kk.tmod 7=r7:=⟨_,rfl⟩;obtain⟨r6,h6⟩:∃r6,kk.tmod 6=r6:=⟨_,rfl⟩;obtain⟨r5,h5⟩:∃r5,kk.tmod 5=r5:=⟨_,rfl⟩;obtain⟨r3,h3⟩:∃r3,kk.tmod 3=r3:=⟨_,rfl⟩;obtain⟨r2,h2⟩:∃r2,r3.tmod 2=r2:=⟨_,rfl⟩;have h60:0<=r6/\r6<6:=by rw [<-h6,Int.tmod_eq_emod_of_nonneg RE.1];omega
 have U0:0<=r3/\r3<3:=by rw [<-h3,Int.tmod_eq_emod_of_nonneg RE.1];omega
 obtain⟨r1,h1⟩:∃r1,IntKind.i64.wrap (1+r3)=r1:=⟨_,rfl⟩;have hva:0<=va/\va<4:=by rw [<-ha,Int.tmod_eq_emod_of_nonneg (by omega),an (by omega) (by omega)];omega
 have hvb:0<=vb/\vb<4:=by rw [<-hb,Int.tmod_eq_emod_of_nonneg (by omega),an (by omega) (by omega)];omega
 have hvc:0<=vc/\vc<4:=by rw [<-kK,Int.tmod_eq_emod_of_nonneg (by omega),an (by omega) (by omega)];omega
 have h20:0<=r2/\r2<2:=by rw [<-h2,Int.tmod_eq_emod_of_nonneg U0.1];omega
 have QN:1<=r1/\r1<4:=by rw [<-h1,an (by omega) (by omega)];omega
 have bI:∀(A:AW) (v:Value) (o o':dG),v=v->A.le ((A.alloc o).set A.next (some o')):=λA v o o' _=>by
  refine⟨by simp,λi hi=>?_⟩;have e1:¬i=A.next:=by omega
  have e2:¬A.next=i:=by omega
  simp [AW.dM,AW.eY,e1,e2]
 by_cases o1:op=1
 . subst o1;refine⟨⟨1,va,0,0,r7⟩,rfl,λ_=>⟨by simp [bT,fE,ko,jd,km,ej]<;>omega,by simp,by simp [i8]⟩,λA=>az.rR (da.agg (by simp [ao])) (λhw=>?_) (by kernel_rfl)⟩;refine aH Tryz.func24 λ_=>?_;refine W cy (GK ha hb kK hk h7 h5 h3 h2 h1 bF) ?_<;>intros
   all_goals(refine ⟨_,by simp [i9,AW.ab];rfl,by simp [ao],?_⟩;repeat' (first|exact AW.le.refl _|refine AW.le.set ?_ (by simp<;>omega) _|refine AW.le.trans ?_ (AW.le.alloc _ _)))
 by_cases o2:op=2
 . subst o2;refine⟨⟨2,va,vb,0,0⟩,rfl,λ_=>⟨by simp [bT,fE,ko,jd,km,ej]<;>omega,by simp,by simp [i8]⟩,λA=>az.rR (da.agg (by simp [ao])) (λhw=>?_) (by kernel_rfl)⟩;refine aH Tryz.func24 λ_=>?_;refine W cy (IX ha hb kK hk h7 h5 h3 h2 h1 o1 bF) ?_<;>intros
   all_goals(refine ⟨_,by simp [i9,AW.ab];rfl,by simp [ao],?_⟩;repeat' (first|exact AW.le.refl _|refine AW.le.set ?_ (by simp<;>omega) _|refine AW.le.trans ?_ (AW.le.alloc _ _)))
 by_cases o3:op=3
 . subst o3;have hr:r6=0\/r6=1\/r6=2\/r6=3\/r6=4\/r6=5:=(by omega);rcases hr with rfl|rfl|rfl|rfl|rfl|rfl
   . skip
     refine⟨⟨3,va,vb,vc,0⟩,rfl,λ_=>⟨by simp [bT,fE,ko,jd,km,ej]<;>omega,by simp,by simp [i8]⟩,λA=>az.rR (da.agg (by simp [ao])) (λhw=>?_) (by kernel_rfl)⟩;refine aH Tryz.func24 λ_=>?_;refine W cy (kM ha hb kK hk h7 h5 h3 h2 h1 h6 o1 o2 bF) ?_<;>intros
     all_goals(refine ⟨_,by simp [i9,AW.ab];rfl,by simp [ao],?_⟩;repeat' (first|exact AW.le.refl _|refine AW.le.set ?_ (by simp<;>omega) _|refine AW.le.trans ?_ (AW.le.alloc _ _)))
   . skip
     refine⟨⟨3,va,vb,vc,1⟩,rfl,λ_=>⟨by simp [bT,fE,ko,jd,km,ej]<;>omega,by simp,by simp [i8]⟩,λA=>az.rR (da.agg (by simp [ao])) (λhw=>?_) (by kernel_rfl)⟩;refine aH Tryz.func24 λ_=>?_;refine W cy (kM ha hb kK hk h7 h5 h3 h2 h1 h6 o1 o2 bF) ?_<;>intros
     all_goals(refine ⟨_,by simp [i9,AW.ab];rfl,by simp [ao],?_⟩;repeat' (first|exact AW.le.refl _|refine AW.le.set ?_ (by simp<;>omega) _|refine AW.le.trans ?_ (AW.le.alloc _ _)))
   . skip
     refine⟨⟨3,va,vb,vc,5⟩,rfl,λ_=>⟨by simp [bT,fE,ko,jd,km,ej]<;>omega,by simp,by simp [i8]⟩,λA=>az.rR (da.agg (by simp [ao])) (λhw=>?_) (by kernel_rfl)⟩;refine aH Tryz.func24 λ_=>?_;refine W cy (kM ha hb kK hk h7 h5 h3 h2 h1 h6 o1 o2 bF) ?_<;>intros
     all_goals(refine ⟨_,by simp [i9,AW.ab];rfl,by simp [ao],?_⟩;repeat' (first|exact AW.le.refl _|refine AW.le.set ?_ (by simp<;>omega) _|refine AW.le.trans ?_ (AW.le.alloc _ _)))
   . skip
     refine⟨⟨3,va,vb,vc,8⟩,rfl,λ_=>⟨by simp [bT,fE,ko,jd,km,ej]<;>omega,by simp,by simp [i8]⟩,λA=>az.rR (da.agg (by simp [ao])) (λhw=>?_) (by kernel_rfl)⟩;refine aH Tryz.func24 λ_=>?_;refine W cy (kM ha hb kK hk h7 h5 h3 h2 h1 h6 o1 o2 bF) ?_<;>intros
     all_goals(refine ⟨_,by simp [i9,AW.ab];rfl,by simp [ao],?_⟩;repeat' (first|exact AW.le.refl _|refine AW.le.set ?_ (by simp<;>omega) _|refine AW.le.trans ?_ (AW.le.alloc _ _)))
   . skip
     refine⟨⟨3,va,vb,vc,11⟩,rfl,λ_=>⟨by simp [bT,fE,ko,jd,km,ej]<;>omega,by simp,by simp [i8]⟩,λA=>az.rR (da.agg (by simp [ao])) (λhw=>?_) (by kernel_rfl)⟩;refine aH Tryz.func24 λ_=>?_;refine W cy (kM ha hb kK hk h7 h5 h3 h2 h1 h6 o1 o2 bF) ?_<;>intros
     all_goals(refine ⟨_,by simp [i9,AW.ab];rfl,by simp [ao],?_⟩;repeat' (first|exact AW.le.refl _|refine AW.le.set ?_ (by simp<;>omega) _|refine AW.le.trans ?_ (AW.le.alloc _ _)))
   skip
   refine⟨⟨3,va,vb,vc,12⟩,rfl,λ_=>⟨by simp [bT,fE,ko,jd,km,ej]<;>omega,by simp,by simp [i8]⟩,λA=>az.rR (da.agg (by simp [ao])) (λhw=>?_) (by kernel_rfl)⟩;refine aH Tryz.func24 λ_=>?_;refine W cy (kM ha hb kK hk h7 h5 h3 h2 h1 h6 o1 o2 bF) ?_<;>intros
   all_goals(refine ⟨_,by simp [i9,AW.ab];rfl,by simp [ao],?_⟩;repeat' (first|exact AW.le.refl _|refine AW.le.set ?_ (by simp<;>omega) _|refine AW.le.trans ?_ (AW.le.alloc _ _)))
 by_cases lH:op=10
 . subst lH;refine⟨⟨10,va,vb,0,r5⟩,rfl,λ_=>⟨by simp [bT,fE,ko,jd,km,ej]<;>omega,by simp,by simp [i8]⟩,λA=>az.rR (da.agg (by simp [ao])) (λhw=>?_) (by kernel_rfl)⟩;refine aH Tryz.func24 λ_=>?_;refine W cy (kM ha hb kK hk h7 h5 h3 h2 h1 o1 o2 o3 bF) ?_<;>intros
   all_goals(refine ⟨_,by simp [i9,AW.ab];rfl,by simp [ao],?_⟩;repeat' (first|exact AW.le.refl _|refine AW.le.set ?_ (by simp<;>omega) _|refine AW.le.trans ?_ (AW.le.alloc _ _)))
 by_cases o11:op=11
 . subst o11;refine⟨⟨11,va,vb,0,r5⟩,rfl,λ_=>⟨by simp [bT,fE,ko,jd,km,ej]<;>omega,by simp,by simp [i8]⟩,λA=>az.rR (da.agg (by simp [ao])) (λhw=>?_) (by kernel_rfl)⟩;refine aH Tryz.func24 λ_=>?_;refine W cy (vD ha hb kK hk h7 h5 h3 h2 h1 o1 o2 o3 lH bF) ?_<;>intros
   all_goals(refine ⟨_,by simp [i9,AW.ab];rfl,by simp [ao],?_⟩;repeat' (first|exact AW.le.refl _|refine AW.le.set ?_ (by simp<;>omega) _|refine AW.le.trans ?_ (AW.le.alloc _ _)))
 by_cases o12:op=12
 . subst o12;refine⟨⟨12,va,vb,0,r5⟩,rfl,λ_=>⟨by simp [bT,fE,ko,jd,km,ej]<;>omega,by simp,by simp [i8]⟩,λA=>az.rR (da.agg (by simp [ao])) (λhw=>?_) (by kernel_rfl)⟩;refine aH Tryz.func24 λ_=>?_;refine W cy (N9 ha hb kK hk h7 h5 h3 h2 h1 o1 o2 o3 lH o11 bF) ?_<;>intros
   all_goals(refine ⟨_,by simp [i9,AW.ab];rfl,by simp [ao],?_⟩;repeat' (first|exact AW.le.refl _|refine AW.le.set ?_ (by simp<;>omega) _|refine AW.le.trans ?_ (AW.le.alloc _ _)))
 by_cases o13:op=13
 . subst o13;refine⟨⟨13,va,vb,0,r5⟩,rfl,λ_=>⟨by simp [bT,fE,ko,jd,km,ej]<;>omega,by simp,by simp [i8]⟩,λA=>az.rR (da.agg (by simp [ao])) (λhw=>?_) (by kernel_rfl)⟩;refine aH Tryz.func24 λ_=>?_;refine W cy (NM ha hb kK hk h7 h5 h3 h2 h1 o1 o2 o3 lH o11 o12 bF) ?_<;>intros
   all_goals(refine ⟨_,by simp [i9,AW.ab];rfl,by simp [ao],?_⟩;repeat' (first|exact AW.le.refl _|refine AW.le.set ?_ (by simp<;>omega) _|refine AW.le.trans ?_ (AW.le.alloc _ _)))
 by_cases o14:op=14
 . subst o14;refine⟨⟨14,va,0,0,r2⟩,rfl,λ_=>⟨by simp [bT,fE,ko,jd,km,ej]<;>omega,by simp,by simp [i8]⟩,λA=>az.rR (da.agg (by simp [ao])) (λhw=>?_) (by kernel_rfl)⟩;refine aH Tryz.func24 λ_=>?_;refine W cy (J17 ha hb kK hk h7 h5 h3 h2 h1 o1 o2 o3 lH o11 o12 o13 bF) ?_<;>intros
   all_goals(refine ⟨_,by simp [i9,AW.ab];rfl,by simp [ao],?_⟩;repeat' (first|exact AW.le.refl _|refine AW.le.set ?_ (by simp<;>omega) _|refine AW.le.trans ?_ (AW.le.alloc _ _)))
 by_cases o15:op=15
 . subst o15;refine⟨⟨15,va,0,0,0⟩,rfl,λ_=>⟨by simp [bT,fE,ko,jd,km,ej]<;>omega,by simp,by simp [i8]⟩,λA=>az.rR (da.agg (by simp [ao])) (λhw=>?_) (by kernel_rfl)⟩;refine aH Tryz.func24 λ_=>?_;refine W cy (Vx ha hb kK hk h7 h5 h3 h2 h1 o1 o2 o3 lH o11 o12 o13 o14 bF) ?_<;>intros
   all_goals(refine ⟨_,by simp [i9,AW.ab];rfl,by simp [ao],?_⟩;repeat' (first|exact AW.le.refl _|refine AW.le.set ?_ (by simp<;>omega) _|refine AW.le.trans ?_ (AW.le.alloc _ _)))
 by_cases o17:op=17
 . subst o17;refine⟨⟨17,va,0,0,0⟩,rfl,λ_=>⟨by simp [bT,fE,ko,jd,km,ej]<;>omega,by simp,by simp [i8]⟩,λA=>az.rR (da.agg (by simp [ao])) (λhw=>?_) (by kernel_rfl)⟩;refine aH Tryz.func24 λ_=>?_;refine W cy (J19 ha hb kK hk h7 h5 h3 h2 h1 o1 o2 o3 lH o11 o12 o13 o14 o15 bF) ?_<;>intros
   all_goals(refine ⟨_,by simp [i9,AW.ab];rfl,by simp [ao],?_⟩;repeat' (first|exact AW.le.refl _|refine AW.le.set ?_ (by simp<;>omega) _|refine AW.le.trans ?_ (AW.le.alloc _ _)))
 by_cases o7:op=7
 . subst o7;refine⟨⟨7,0,0,0,r1⟩,rfl,λ_=>⟨by simp [bT,fE,ko,jd,km,ej]<;>omega,by simp,by simp [i8]⟩,λA=>az.rR (da.agg (by simp [ao])) (λhw=>?_) (by kernel_rfl)⟩;refine aH Tryz.func24 λ_=>?_;refine W cy (J20 ha hb kK hk h7 h5 h3 h2 h1 o1 o2 o3 lH o11 o12 o13 o14 o15 o17 (J1 bF)) ?_<;>intros
   all_goals(refine ⟨_,by simp [i9,AW.ab];rfl,by simp [ao],?_⟩;repeat' (first|exact AW.le.refl _|refine AW.le.set ?_ (by simp<;>omega) _|refine AW.le.trans ?_ (AW.le.alloc _ _)))
 refine⟨⟨op,0,0,0,0⟩,rfl,λho=>?_,λA=>az.rR (da.agg (by simp [ao])) (λhw=>?_) (by kernel_rfl)⟩;have RB:op=4\/op=5\/op=6\/op=8\/op=9\/op=16:=by omega
 rcases RB with rfl|rfl|rfl|rfl|rfl|rfl<;>exact⟨by decide,by simp,by simp⟩;refine aH Tryz.func24 λ_=>?_;refine W cy (J20 ha hb kK hk h7 h5 h3 h2 h1 o1 o2 o3 lH o11 o12 o13 o14 o15 o17 (J2 o7 bF)) ?_<;>intros
 all_goals(refine ⟨_,by simp [i9,AW.ab];rfl,by simp [ao],?_⟩;repeat' (first|exact AW.le.refl _|refine AW.le.set ?_ (by simp<;>omega) _|refine AW.le.trans ?_ (AW.le.alloc _ _)))
end
section
namespace TMdY
theorem kI [Gl] {A:AW} {L:List It} {T:Prop} (hS:ah A L) (hw:A.Wf) (h':(aK A L/\ba A L/\bD L)=T:=by first|(dsimp only [aa,af,aK,ba,bD,dN];done)|exact rfl):T:=h'▸hS.dT hw
end TMdY
open TMdY
variable [Gl]
structure PJ (A0 A:AW) (vp vj:Value) (ps:List bg) (jl:List Int) (N:Nat):Prop where
 own:ez A0.next A 5 vp ps.length (ps.flatMap ao)
 BL:eA A0.next A .i64 vj jl
 range:∀x∈jl,0<=x/\x<(N:Int)
 Ct:∀j,gK vp=some j->gK vj≠some j
 le:A0.le A
 wf:A.Wf
theorem PJ.grow {A0 A B:AW} {vp vj:Value} {ps:List bg} {jl:List Int} {N:Nat} (h:PJ A0 A vp vj ps jl N) (hl:A.le B) (hw:B.Wf):PJ A0 B vp vj ps jl N:=
 ⟨h.own.le hl h.wf,ez.le hl h.wf h.BL,h.range,h.Ct,h.le.trans hl,hw⟩
theorem PJ.ne {A0 A:AW} {vp vj:Value} {ps:List bg} {jl:List Int} {N:Nat} (h:PJ A0 A vp vj ps jl N) {b:Nat} (hb:A.next<=b):gK vp≠some b/\gK vj≠some b:=by
 refine⟨λe=>?_,λe=>?_⟩;have:=h.own.lt h.wf e;omega;have:=ez.lt h.BL h.wf e;omega
theorem PJ.JR {A0 A:AW} {vp vj:Value} {ps:List bg} {jl:List Int} (h:PJ A0 A vp vj ps jl ps.length) (hj:jl.length<2 ^ 30) {b:Nat} {o:dG} (hb:A.bt b=some o) (gl:gK vp≠some b/\gK vj≠some b) :
 ∃Qy A',eK Tryz.prog (A.alloc (.cells [.int .i64 ps.length] true 1)) 23 23 vj (.slice (some ⟨A.next,0,none⟩) 1 1)=some (Qy,A')/\PJ A0 A' vp Qy ps (jl++[(ps.length:Int)]) (ps.length+1)/\A'.bt b=some o/\gK vp≠some b:=by
 have PM:=h.wf.lt hb;obtain⟨Qy,A',e,h2,k⟩:=Si (ps.length:Int) h.BL hj h.le.next h.wf;refine⟨Qy,A',e,⟨h.own.BG λj hj=>k.bt j (h.own.lt h.wf hj).2 (h.Ct j hj),h2,λx hx=>?_,λj hj uB=>?_,k.le A0 (Nat.le_refl _) h.le,k.wf⟩,?_,gl.1⟩;rcases List.mem_append.1 hx with hx|hx;have:=h.range x hx;omega;simp at hx;omega;rcases k.kD j uB with e2|e2;exact h.Ct j hj e2;have:=(h.own.lt h.wf hj).2;omega;rw [k.bt b PM gl.2,hb]
theorem PJ.eX {A0 A:AW} {vp vj:Value} {ps:List bg} {jl:List Int} {N:Nat} (h:PJ A0 A vp vj ps jl N) (hn:ps.length<2 ^ 30) (x:bg) :
 ∃tc A',eK Tryz.prog (A.alloc (.cells (ao x) true 5)) 30 30 vp (.slice (some ⟨A.next,0,none⟩) 1 1)=some (tc,A')/\PJ A0 A' tc vj (ps++[x]) jl N:=by
 obtain⟨tc,A',e,h2,k⟩:=L9 x h.own hn h.le.next h.wf;refine⟨tc,A',e,⟨?_,ez.BG h.BL λj hj=>k.bt j (ez.lt h.BL h.wf hj).2 λe2=>h.Ct j e2 hj,h.range,λj hj uB=>?_,k.le A0 (Nat.le_refl _) h.le,k.wf⟩⟩
 simpa [List.flatMap_append] using h2
 rcases k.kD j hj with e2|e2;exact h.Ct j e2 uB;have:=(ez.lt h.BL h.wf uB).2;omega
theorem PJ.mono {A0 A:AW} {vp vj:Value} {ps:List bg} {jl:List Int} {N M:Nat} (h:PJ A0 A vp vj ps jl N) (hm:N<=M):PJ A0 A vp vj ps jl M:=
 ⟨h.own,h.BL,λx hx=>by have:=h.range x hx;omega,h.Ct,h.le,h.wf⟩
theorem PJ.Oy {A0 A:AW} {p:Addr} {n c:Nat} {vj:Value} {ps:List bg} {jl:List Int} {N:Nat} (y:Int) (h:PJ A0 A (.slice (some p) n c) vj ps jl N) (hn:n=ps.length) {j:Nat} (hj:j<ps.length) :
 ∃A',aD Tryz.prog A 3 ⟨p.block,p.off+j*5+4,none⟩ (.int .i64 y)=some A'/\PJ A0 A' (.slice (some p) n c) vj (ps.set j { ps[j] with bL:=y }) jl N:=by
 subst hn;obtain⟨A',e,h2,hw,hn,hg,_⟩:=Mt y h.own hj h.wf;have hb:=(h.own.lt h.wf (j:=p.block) rfl).1;refine⟨A',e,⟨?_,ez.BG h.BL λi hi=>hg i λe2=>h.Ct p.block rfl (by rw [<-e2];exact hi),h.range,h.Ct,⟨by rw [hn];exact h.le.next,λi hi=>?_⟩,hw⟩⟩;rw [List.length_set];exact h2;rw [hg i (by omega)];exact h.le.bt i hi
structure Halt (p:Prop):Prop where
 bt:p
theorem halt2 {P:Program} {n:Nat} {Q:Exit->Fr->AW->Prop} {a:Fr} {A:AW} {c:Code} (h:Halt (cB P n (.block 2 c) Q a A)):cB P n (.block 2 c) Q a A:=h.bt
theorem haltc {P:Program} {n:Nat} {Q:Exit->Fr->AW->Prop} {a:Fr} {A:AW} {c d:Code} (h:Halt (cB P n (.cond (.tmp 158) c d) Q a A)):cB P n (.cond (.tmp 158) c d) Q a A:=h.bt
theorem Iy {P:Program} {n:Nat} {Q:Exit->Fr->AW->Prop} {a:Fr} {A:AW} {x:Code} {K:Fr->AW->Prop} (J:Fr->AW->Prop) (h1:cB P n x (aM J Q) a A) (h2:∀a A,J a A->K a A):cB P n x (aM K Q) a A:=
 CI h1 λe a A h=>by cases e<;>first|exact h2 a A h|exact h
theorem rG {P:Program} {n:Nat} {id:Nat} {Q:Exit->Fr->AW->Prop} {a:Fr} {A:AW} {x:Code} {K:Fr->AW->Prop} (J:Fr->AW->Prop) (h1:cB P n x (b7 id (aM J Q)) a A) (h2:∀a A,J a A->K a A):cB P n x (b7 id (aM K Q)) a A:=
 CI h1 λe a A h=>by
  cases e with
  | normal=>exact h2 a A h
  | exit k=>
    simp only [b7] at h ⊢;split at h;rename_i e;rw [ay e];exact h2 a A h;rename_i e;rw [ap e];exact h
  | _=>exact h
def tb (ps:List bg) (jl:List Int):Prop:=(∀x∈jl,∃j:Nat,x=(j:Int)/\∃i,ps[j]? = some i/\i.bL=0/\i.op≠3)/\jl.Nodup
def Aq (ps:List bg):Prop:=∀x∈ps,x.op=3->i8 x.bL
theorem tb.nil (ps:List bg):tb ps []:=⟨λx hx=>by(cases hx),List.nodup_nil⟩
theorem tb.lz {ps:List bg} {jl:List Int} (h:tb ps jl) (x:bg):tb (ps++[x]) jl:=by
 refine⟨λy hy=>?_,h.2⟩;obtain⟨j,e,i,h1,h2⟩:=h.1 y hy;have hl:=(List.getElem?_eq_some_iff.1 h1).1;exact⟨j,e,i,by rw [List.getElem?_append_left hl];exact h1,h2⟩
theorem tb.JR {ps:List bg} {jl:List Int} (h:tb ps jl) {x:bg} (h0:x.bL=0) (h3:x.op≠3):tb (ps++[x]) (jl++[(ps.length:Int)]):=by
 have h1:=h.lz x;refine⟨λy hy=>?_,?_⟩;rcases List.mem_append.1 hy with hy|hy;exact h1.1 y hy;rw [List.mem_singleton] at hy;exact⟨ps.length,hy,x,by simp,h0,h3⟩;rw [List.nodup_append];refine⟨h.2,by simp,λa ha b hb=>?_⟩;rw [List.mem_singleton] at hb;subst hb;obtain⟨j,e,i,g1,_⟩:=h.1 a ha;have hl:=(List.getElem?_eq_some_iff.1 g1).1;omega
theorem tb.set {ps:List bg} {j:Nat} {jl:List Int} (h:tb ps ((j:Int)::jl)) (y:bg):tb (ps.set j y) jl:=by
 obtain⟨h1,h2⟩:=h;rw [List.nodup_cons] at h2;refine⟨λx hx=>?_,h2.2⟩;obtain⟨k,e,i,g1,g2⟩:=h1 x (List.mem_cons_of_mem _ hx);have gl:¬j=k:=λe2=>h2.1 (by rw [e2,<-e];exact hx);exact⟨k,e,i,by rw [List.getElem?_set_ne gl];exact g1,g2⟩
theorem tb.head {ps:List bg} {j:Nat} {jl:List Int} (h:tb ps ((j:Int)::jl)) (hj:j<ps.length):ps[j].bL=0/\ps[j].op≠3:=by
 obtain⟨k,e,i,g1,g2⟩:=h.1 _ List.mem_cons_self;have:j=k:=by omega
 subst this;rw [List.getElem?_eq_getElem hj] at g1;injection g1 with g1;rw [g1];exact g2
theorem Aq.set {ps:List bg} (h:Aq ps) {j:Nat} {y:bg} (hy:y.op≠3):Aq (ps.set j y):=λx hx h3=>by
 rcases List.mem_or_eq_of_mem_set hx with h1|h1;exact h x h1 h3;subst h1;exact absurd h3 hy
theorem D6.Ws {a b c r:Int} {o bL:Int} (ho:o=5\/o=6) (h:D6 ⟨o,a,b,c,bL⟩) (hr:0<=r/\r<4):D6 ⟨o,r,b,c,bL⟩:=by
 obtain⟨h1,h2,h3⟩:=h;refine⟨?_,h2,h3⟩;rcases ho with rfl|rfl;simp [bT,fE,ko,jd,km,ej] at h1 ⊢;omega;simp [bT,fE,ko,jd,km,ej] at h1 ⊢;omega
theorem uP.v {b:Bool} {o:Int} (h:uP b o):1<=o/\o<=17:=by
 rcases h with h|⟨_,h⟩|⟨_,h⟩<;>omega
def IW (plain:Bool) (ps:List bg):Prop:=∀x∈ps,1<=x.op/\(plain=false->x.op≠12/\x.op≠13/\x.op≠16)
theorem IW.lz {pl:Bool} {ps:List bg} (h:IW pl ps) {x:bg} (h1:1<=x.op) (hx:pl=false->x.op≠12/\x.op≠13/\x.op≠16):IW pl (ps++[x]):=λy hy=>by
 rcases List.mem_append.1 hy with h2|h2;exact h y h2;rw [List.mem_singleton.1 h2];exact⟨h1,hx⟩
theorem IW.set1 {pl:Bool} {ps:List bg} (h:IW pl ps) {j:Nat} (hj:j<ps.length) (n:Int):IW pl (ps.set j { ps[j] with bL:=n }):=λy hy=>by
 rcases List.mem_or_eq_of_mem_set hy with h1|h1;exact h y h1;subst h1;exact h ps[j] (List.getElem_mem hj)
def PgJ (A0:AW) (ol:Option Addr) (cl:Nat) (l:List Int) (wm:Int) (heap plain:Bool) (i:Nat) (vp vj:Value) (b:Bool) (fr:Fr):Prop:=
 fr 0=.slice ol l.length cl/\fr 1=.int .i64 wm/\fr 2=.bool heap/\fr 3=.bool plain/\fr 9=vp/\fr 10=.bool b/\fr 11=vj/\fr 12=.int .i64 i
set_option maxHeartbeats 16000000 in
theorem BB (hn:Gl.N=4) (vl:Value) (l:List Int) (wm:Int) (heap plain:Bool) (A:AW) (h:dz A .i64 vl l) (hm:0<=wm/\wm<=1000) :
 az Tryz.prog 9 [vl,.int .i64 wm,.bool heap,.bool plain] A (λu A'=>∃p:List bg,p.length<=1001/\ez A.next A' 5 u p.length (p.flatMap ao)/\A.le A'/\A'.Wf/\(wm<=64->(cK p).2=0)/\Aq p/\IW plain p/\p.length<=l.length+1):=by
 refine aH Tryz.func9 λhw=>?_;obtain⟨ol,cl,rfl,_⟩:=h.dO;have hws:IntKind.i64.wrap (wm-1)=wm-1:=an (by omega) (by omega);revert hw;refine W cy cy ?_<;>(unhygienic intros);refine rG (λfr A'=>∃(ps:List bg) (jl:List Int) (vp vj:Value) (b:Bool),ps.length<=1000/\jl.length<=1000/\fr 9=vp/\fr 10=.bool b/\fr 11=vj/\PJ A A' vp vj ps jl ps.length/\iP ps b/\tb ps jl/\((ps.length:Int)<=wm-1\/ps.length=0)/\IW plain ps/\ps.length<=l.length) ?_ ?_
 rotate_left
 . rintro fr A' ⟨ps,jl,vp,vj,b,NZ,wP,g9,kT,jX,hJ,Kq,EK,PB,H5,hLL⟩
   repeat' (first|(refine jK λR hR=>?_;simp [an,ax,g9,kT,jX];try simp (disch:=omega) only [ay,ap,an,ax])|(refine hR _ _ ?_;clear hR R)|(refine hK _ _ ?_;clear hK K)|refine nx ?_|refine wn λK hK=>?_|simp only [wS]|(refine haltc ?_)|(show cB _ _ _ _ _ _;refine nx ?_)|(refine wc rfl (λhc=>?_) (λhc=>?_)<;>(try simp at hc)<;>(try omega))|(refine ib (λhc=>?_) (λhc=>?_)<;>(try omega)<;>(try simp (disch:=omega) only [ay,ap])))
   refine⟨?_⟩;refine Iy (λfr A'=>∃(ps:List bg) (vp:Value),ps.length<=1001/\fr 9=vp/\fr 11=vj/\PJ A A' vp vj ps jl ps.length/\(wm<=64->(cK ps).2=0)/\tb ps jl/\Aq ps/\IW plain ps/\ps.length<=l.length+1) ?_ ?_
   . cases b with
     | false=>
       refine W cy (J3 g9 kT jX) ?_<;>intros;exact⟨ps,vp,by omega,by simp [g9],by simp [jX],hJ,λhm6=>Kq.ok (by omega),EK,Kq.eW,H5,by omega⟩
     | true=>
       obtain⟨tc,A5,e5,EL⟩:=hJ.eX (by omega) ⟨8,0,0,0,0⟩;simp only [ao] at e5;refine W cy (J4 g9 kT jX e5) ?_<;>intros;have hG8:iP (ps++[⟨8,0,0,0,0⟩]) false:=iP.lz (x:=⟨8,0,0,0,0⟩) Kq ⟨by decide,by simp,by simp⟩ (by simp [uP]);have QH:ps.length=0->False:=λe=>by rw [List.eq_nil_of_length_eq_zero e] at Kq;have:=Kq.TM.1;simp [bN] at this
       exact⟨ps++[⟨8,0,0,0,0⟩],tc,by simp;omega,by simp,by simp [jX],EL.mono (by simp),λhm6=>hG8.ok (by rw [List.length_append,List.length_singleton];rcases PB with h1|h1<;>first|omega|exact absurd h1 QH),EK.lz ⟨8,0,0,0,0⟩,λx hx h3=>hG8.eW x hx h3,H5.lz (by decide) λ_=>by decide,by rw [List.length_append,List.length_singleton];omega⟩
   clear hJ g9 kT jX Kq EK PB;rintro fr A' ⟨ps,vp,NZ,g9,jX,hJ,hV,EK,Wa,H5,hLL⟩;obtain⟨oj,cj,hvj,_⟩:=hJ.BL.is.dO;obtain⟨op,cp,u6,_⟩:=hJ.own.is.dO;subst u6;subst hvj;generalize Ai:ps.length=nl at g9 hJ NZ hLL;revert hw;(repeat first|clear hw|revert hc|revert R|revert K);refine W cy (J2 g9 jX) ?_<;>(unhygienic intros);refine dW (λk fr A'=>∃(i:Nat) (ps:List bg),k=jl.length-i/\i<=jl.length/\ps.length=nl/\fr 9=.slice op nl cp/\fr 11=.slice oj jl.length cj/\fr 17=.int .i64 i/\PJ A A' (.slice op nl cp) (.slice oj jl.length cj) ps jl nl/\(wm<=64->(cK ps).2=0)/\tb ps (jl.drop i)/\Aq ps/\IW plain ps) jl.length ?_ ?_;exact⟨0,ps,rfl,Nat.zero_le _,Ai,by simp [g9],by simp [jX],by simp,hJ,hV,EK,Wa,H5⟩;clear Ai hJ g9 jX hV EK Wa;rintro k fr A' ⟨i,ps,rfl,hi,Ai,g9,jX,U2,hJ,hV,EK,Wa,H5⟩;by_cases cF:i<jl.length;obtain⟨q,cD,FY,cH,hcell⟩:=hJ.BL.is.at cF;subst FY;obtain⟨VT,Ux⟩:=hJ.range jl[i] (List.getElem_mem cF);obtain⟨j,hj⟩:∃j:Nat,jl[i]=(j:Int):=⟨jl[i].toNat,by omega⟩
   rw [hj] at hcell Ux;have V0:j<nl:=(by omega);rw [List.drop_eq_getElem_cons cF,hj] at EK;obtain⟨hz0,hz3⟩:=EK.head (show j<ps.length by omega);have hP:=D9 (i:=i);have hpa:∃pa,op=some pa:=by
    rcases hJ.own with ⟨e,e2,_⟩|⟨p,c,cD,e,_⟩;omega;injection e with e _ _;exact⟨p,e⟩
   obtain⟨pa,rfl⟩:=hpa;obtain⟨A1,e1,hJ1⟩:=hJ.Oy 1 Ai.symm (show j<ps.length by omega);have hal1:Aq (ps.set j { ps[j] with bL:=1 }):=Wa.set hz3;have WZ:IW plain (ps.set j { ps[j] with bL:=1 }):=H5.set1 _ 1;have hjl1:=EK.set { ps[j] with bL:=1 };have hjl0:=EK.set ps[j];rw [List.set_getElem_self] at hjl0;obtain⟨QB,Uz⟩:∃QB,ps.set j { ps[j] with bL:=1 }=QB:=⟨_,rfl⟩;have S8:∀h:j<QB.length,QB.set j { QB[j] with bL:=0 }=ps:=by
    subst Uz;intro h;rw [List.set_set,List.getElem_set_self];have e:({ ({ ps[j] with bL:=1 }:bg) with bL:=0 }:bg)=ps[j]:=by
     generalize ps[j]=y at hz0;obtain⟨y1,y2,y3,y4,y5⟩:=y;dsimp only at hz0;subst hz0;rfl
    rw [e,List.set_getElem_self]
   rw [Uz] at hJ1 hal1 hjl1 WZ;have UB:QB.length=nl:=(by rw [<-Uz,List.length_set,Ai]);have cC:=Dv hn (.slice (some pa) nl cp) QB A1 (by have:=hJ1.own.is;unfold kl;rw [UB] at this ⊢;exact this);unfold nd at cC;obtain⟨q2,row2,QF,WT,PK⟩:=hJ1.BL.is.at cF;injection QF with QF;subst QF;rw [hj] at PK;have cL:jl.length-i=(jl.length-(i+1))+1:=(by omega);by_cases z:(kB QB).2=0;refine bh ?_;refine W (J1 @cC) (GK g9 jX U2 cF hP cH hcell V0 e1 z) ?_<;>intros;exact⟨jl.length-(i+1),by omega,i+1,QB,rfl,by omega,UB,by simp [g9],by simp [jX],by simp,hJ1,λ_=>by rw [<-Qa];exact z,hjl1,hal1,WZ⟩;obtain⟨A2,e2,Ko⟩:=hJ1.Oy 0 UB.symm (show j<QB.length by omega);refine bh ?_;refine W (J1 @cC) (kM g9 jX U2 cF hP cH hcell WT PK V0 e1 e2 z) ?_<;>intros;rw [S8] at Ko;exact⟨jl.length-(i+1),by omega,i+1,ps,rfl,by omega,Ai,by simp [g9],by simp [jX],by simp,Ko,hV,hjl0,Wa,H5⟩;refine bh ?_;refine W cy (J4 g9 jX U2 cF) ?_<;>intros
   refine⟨_,rfl,ps,by omega,?_,hJ.le,hJ.wf,hV,Wa,H5,by omega⟩;have:=hJ.own;rw [Ai] at this ⊢;exact this
 refine dW (λk fr A'=>∃(i:Nat) (ps:List bg) (jl:List Int) (vp vj:Value) (b:Bool),k=l.length-i/\i<=l.length/\i<=1000/\ps.length=i/\jl.length<=i/\PgJ A ol cl l wm heap plain i vp vj b fr/\PJ A A' vp vj ps jl ps.length/\iP ps b/\tb ps jl/\((ps.length:Int)<=wm-1\/ps.length=0)/\IW plain ps) l.length ?_ ?_;exact⟨0,[],[],_,_,false,rfl,Nat.zero_le _,Nat.zero_le _,rfl,Nat.zero_le _,⟨rfl,rfl,rfl,rfl,rfl,rfl,rfl,rfl⟩,⟨ez.nil _ _ _,eA.nil _ _ _,by simp,by simp [gK],AW.le.refl A,hw⟩,.nil,tb.nil _,.inr rfl,λx hx=>by cases hx⟩;rintro k fr A' ⟨i,ps,jl,vp,vj,b,rfl,hi,hi9,NZ,wP,⟨g0,g1,g2,g3,g9,kT,jX,nX⟩,hJ,Kq,EK,PB,H5⟩;obtain⟨op,cp,u6,hcp⟩:=hJ.own.is.dO;have hvp0:=u6;by_cases cF:i<l.length
 . by_cases B8:(ps.length:Int)<wm-1
   . obtain⟨q,cD,FY,cH,hcell⟩:=(h.le hJ.le hw).at cF;subst FY;obtain⟨nn,VV⟩:∃nn:Nat,IntKind.u64.wrap l[i]=(nn:Int):=⟨(IntKind.u64.wrap l[i]).toNat,by
      simp only [IntKind.wrap,IntKind.bits,IntKind.signed,Bool.false_and,Bool.false_eq_true,if_false];omega⟩
     have hnn2:(nn:Int)<18446744073709551616:=by
      rw [<-VV];simp only [IntKind.wrap,IntKind.bits,IntKind.signed,Bool.false_and,Bool.false_eq_true,if_false];omega
     obtain⟨kd,uA⟩:∃kd,IntKind.i64.wrap ((nn:Int).tmod 16)=kd:=⟨_,rfl⟩;have hkd0:0<=kd/\kd<16:=by
      rw [<-uA,Int.tmod_eq_emod_of_nonneg (by omega),an (by omega) (by omega)];omega
     obtain⟨n1,DO⟩:∃n1:Nat,(nn:Int) / 16=(n1:Int):=⟨nn / 16,by omega⟩;have hn12:(n1:Int)<18446744073709551616:=(by omega);have hP:=D9 (i:=i);have cL:l.length-i=(l.length-(i+1))+1:=(by omega);refine bh ?_
     repeat' (first|(refine halt2 ?_)|(refine jK λR hR=>?_;simp [an,ax,g0,g1,g2,g3,g9,kT,jX,nX,u6,cF,B8,hws,cH,hcell,VV,uA,DO];try simp (disch:=omega) only [ay,ap,an,ax])|(refine hR _ _ ?_;clear hR R)|(refine hK _ _ ?_;clear hK K)|refine nx ?_|refine wn λK hK=>?_|simp only [wS]|(show cB _ _ _ _ _ _;refine nx ?_)|(refine wc rfl (λhc=>?_) (λhc=>?_)<;>(try simp at hc)<;>(try omega))|(refine ib (λhc=>?_) (λhc=>?_)<;>(try omega)<;>(try simp (disch:=omega) only [ay,ap])))
     refine⟨?_⟩;refine Iy (λfr2 A2=>∃(o:Int) (n2:Nat),(n2:Int)<18446744073709551616/\fr2 15=.int .i64 o/\fr2 13=.int .u64 n2/\PgJ A (some q) cl l wm heap plain i vp vj b fr2/\A'.le A2/\A2.Wf/\uP b o/\(plain=false->o≠12/\o≠13/\o≠16)) ?_ ?_
     . have S0:(n1:Int).tmod 3=((n1 % 3:Nat):Int):=(by rw [Int.tmod_eq_emod_of_nonneg (by omega)];omega);have Px:(n1:Int).tmod 5=((n1 % 5:Nat):Int):=(by rw [Int.tmod_eq_emod_of_nonneg (by omega)];omega);obtain⟨n3,QL⟩:∃n3:Nat,(n1:Int) / 3=(n3:Int):=⟨n1 / 3,by omega⟩;obtain⟨n5,N4⟩:∃n5:Nat,(n1:Int) / 5=(n5:Int):=⟨n1 / 5,by omega⟩;have hr3:n1 % 3=0\/n1 % 3=1\/n1 % 3=2:=(by omega);have hr5:n1 % 5=0\/n1 % 5=1\/n1 % 5=2\/n1 % 5=3\/n1 % 5=4:=(by omega);have Us:(n3:Int)<18446744073709551616:=(by omega);have hv5:(n5:Int)<18446744073709551616:=(by omega);by_cases k1:kd<2
       . rcases hr3 with hr|hr|hr<;>rw [hr] at S0
         . skip
           refine W cy (vD g0 g1 g2 g3 g9 kT jX nX u6 uA k1 S0 QL @AW.ab) ?_<;>intros
           all_goals(refine ⟨_,_,?_,rfl,rfl,⟨by simp [g0],by simp [g1],by simp [g2],by simp [g3],by simp [g9],by simp [kT],by simp [jX],by simp [nX]⟩,?_,?_,?_,?_⟩<;>first|exact AW.le.refl _|exact AW.le.alloc _ _|exact hJ.wf|exact hJ.wf.alloc _|omega|(simp [uP];done))
         . skip
           refine W cy (vD g0 g1 g2 g3 g9 kT jX nX u6 uA k1 S0 QL @AW.ab) ?_<;>intros
           all_goals(refine ⟨_,_,?_,rfl,rfl,⟨by simp [g0],by simp [g1],by simp [g2],by simp [g3],by simp [g9],by simp [kT],by simp [jX],by simp [nX]⟩,?_,?_,?_,?_⟩<;>first|exact AW.le.refl _|exact AW.le.alloc _ _|exact hJ.wf|exact hJ.wf.alloc _|omega|(simp [uP];done))
         skip
         refine W cy (vD g0 g1 g2 g3 g9 kT jX nX u6 uA k1 S0 QL @AW.ab) ?_<;>intros
         all_goals(refine ⟨_,_,?_,rfl,rfl,⟨by simp [g0],by simp [g1],by simp [g2],by simp [g3],by simp [g9],by simp [kT],by simp [jX],by simp [nX]⟩,?_,?_,?_,?_⟩<;>first|exact AW.le.refl _|exact AW.le.alloc _ _|exact hJ.wf|exact hJ.wf.alloc _|omega|(simp [uP];done))
       by_cases k2:kd=2/\0<ps.length
       . obtain⟨k2,k3⟩:=k2;subst k2;rcases hr3 with hr|hr|hr<;>rw [hr] at S0
         . skip
           refine W cy (vD g0 g1 g2 g3 g9 kT jX nX u6 uA k3 S0 QL @AW.ab) ?_<;>intros
           all_goals(refine ⟨_,_,?_,rfl,rfl,⟨by simp [g0],by simp [g1],by simp [g2],by simp [g3],by simp [g9],by simp [kT],by simp [jX],by simp [nX]⟩,?_,?_,?_,?_⟩<;>first|exact AW.le.refl _|exact AW.le.alloc _ _|exact hJ.wf|exact hJ.wf.alloc _|omega|(simp [uP];done))
         . skip
           refine W cy (vD g0 g1 g2 g3 g9 kT jX nX u6 uA k3 S0 QL @AW.ab) ?_<;>intros
           all_goals(refine ⟨_,_,?_,rfl,rfl,⟨by simp [g0],by simp [g1],by simp [g2],by simp [g3],by simp [g9],by simp [kT],by simp [jX],by simp [nX]⟩,?_,?_,?_,?_⟩<;>first|exact AW.le.refl _|exact AW.le.alloc _ _|exact hJ.wf|exact hJ.wf.alloc _|omega|(simp [uP];done))
         skip
         refine W cy (vD g0 g1 g2 g3 g9 kT jX nX u6 uA k3 S0 QL @AW.ab) ?_<;>intros
         all_goals(refine ⟨_,_,?_,rfl,rfl,⟨by simp [g0],by simp [g1],by simp [g2],by simp [g3],by simp [g9],by simp [kT],by simp [jX],by simp [nX]⟩,?_,?_,?_,?_⟩<;>first|exact AW.le.refl _|exact AW.le.alloc _ _|exact hJ.wf|exact hJ.wf.alloc _|omega|(simp [uP];done))
       have k3:kd=2->¬0<ps.length:=λh1 h2=>k2 ⟨h1,h2⟩;clear k2;cases b with
       | false=>
         cases plain with
         | true=>
           by_cases k4:kd<7
           . rcases hr5 with hr|hr|hr|hr|hr<;>rw [hr] at Px
             . by_cases k5:kd=2
               . have k6:=k3 k5;subst k5;refine W cy (vD g0 g1 g2 g3 g9 kT jX nX u6 uA k6 Px N4 @AW.ab) ?_<;>intros
                 all_goals(refine ⟨_,_,?_,rfl,rfl,⟨by simp [g0],by simp [g1],by simp [g2],by simp [g3],by simp [g9],by simp [kT],by simp [jX],by simp [nX]⟩,?_,?_,?_,?_⟩<;>first|exact AW.le.refl _|exact AW.le.alloc _ _|exact hJ.wf|exact hJ.wf.alloc _|omega|(simp [uP];done))
               skip
               refine W cy (NM g0 g1 g2 g3 g9 kT jX nX u6 uA k1 k4 k5 Px N4 @AW.ab) ?_<;>intros
               all_goals(refine ⟨_,_,?_,rfl,rfl,⟨by simp [g0],by simp [g1],by simp [g2],by simp [g3],by simp [g9],by simp [kT],by simp [jX],by simp [nX]⟩,?_,?_,?_,?_⟩<;>first|exact AW.le.refl _|exact AW.le.alloc _ _|exact hJ.wf|exact hJ.wf.alloc _|omega|(simp [uP];done))
             . by_cases k5:kd=2
               . have k6:=k3 k5;subst k5;refine W cy (vD g0 g1 g2 g3 g9 kT jX nX u6 uA k6 Px N4 @AW.ab) ?_<;>intros
                 all_goals(refine ⟨_,_,?_,rfl,rfl,⟨by simp [g0],by simp [g1],by simp [g2],by simp [g3],by simp [g9],by simp [kT],by simp [jX],by simp [nX]⟩,?_,?_,?_,?_⟩<;>first|exact AW.le.refl _|exact AW.le.alloc _ _|exact hJ.wf|exact hJ.wf.alloc _|omega|(simp [uP];done))
               skip
               refine W cy (NM g0 g1 g2 g3 g9 kT jX nX u6 uA k1 k4 k5 Px N4 @AW.ab) ?_<;>intros
               all_goals(refine ⟨_,_,?_,rfl,rfl,⟨by simp [g0],by simp [g1],by simp [g2],by simp [g3],by simp [g9],by simp [kT],by simp [jX],by simp [nX]⟩,?_,?_,?_,?_⟩<;>first|exact AW.le.refl _|exact AW.le.alloc _ _|exact hJ.wf|exact hJ.wf.alloc _|omega|(simp [uP];done))
             . by_cases k5:kd=2
               . have k6:=k3 k5;subst k5;refine W cy (vD g0 g1 g2 g3 g9 kT jX nX u6 uA k6 Px N4 @AW.ab) ?_<;>intros
                 all_goals(refine ⟨_,_,?_,rfl,rfl,⟨by simp [g0],by simp [g1],by simp [g2],by simp [g3],by simp [g9],by simp [kT],by simp [jX],by simp [nX]⟩,?_,?_,?_,?_⟩<;>first|exact AW.le.refl _|exact AW.le.alloc _ _|exact hJ.wf|exact hJ.wf.alloc _|omega|(simp [uP];done))
               skip
               refine W cy (NM g0 g1 g2 g3 g9 kT jX nX u6 uA k1 k4 k5 Px N4 @AW.ab) ?_<;>intros
               all_goals(refine ⟨_,_,?_,rfl,rfl,⟨by simp [g0],by simp [g1],by simp [g2],by simp [g3],by simp [g9],by simp [kT],by simp [jX],by simp [nX]⟩,?_,?_,?_,?_⟩<;>first|exact AW.le.refl _|exact AW.le.alloc _ _|exact hJ.wf|exact hJ.wf.alloc _|omega|(simp [uP];done))
             . by_cases k5:kd=2
               . have k6:=k3 k5;subst k5;refine W cy (vD g0 g1 g2 g3 g9 kT jX nX u6 uA k6 Px N4 @AW.ab) ?_<;>intros
                 all_goals(refine ⟨_,_,?_,rfl,rfl,⟨by simp [g0],by simp [g1],by simp [g2],by simp [g3],by simp [g9],by simp [kT],by simp [jX],by simp [nX]⟩,?_,?_,?_,?_⟩<;>first|exact AW.le.refl _|exact AW.le.alloc _ _|exact hJ.wf|exact hJ.wf.alloc _|omega|(simp [uP];done))
               skip
               refine W cy (NM g0 g1 g2 g3 g9 kT jX nX u6 uA k1 k4 k5 Px N4 @AW.ab) ?_<;>intros
               all_goals(refine ⟨_,_,?_,rfl,rfl,⟨by simp [g0],by simp [g1],by simp [g2],by simp [g3],by simp [g9],by simp [kT],by simp [jX],by simp [nX]⟩,?_,?_,?_,?_⟩<;>first|exact AW.le.refl _|exact AW.le.alloc _ _|exact hJ.wf|exact hJ.wf.alloc _|omega|(simp [uP];done))
             by_cases k5:kd=2
             . have k6:=k3 k5;subst k5;refine W cy (vD g0 g1 g2 g3 g9 kT jX nX u6 uA k6 Px N4 @AW.ab) ?_<;>intros
               all_goals(refine ⟨_,_,?_,rfl,rfl,⟨by simp [g0],by simp [g1],by simp [g2],by simp [g3],by simp [g9],by simp [kT],by simp [jX],by simp [nX]⟩,?_,?_,?_,?_⟩<;>first|exact AW.le.refl _|exact AW.le.alloc _ _|exact hJ.wf|exact hJ.wf.alloc _|omega|(simp [uP];done))
             skip
             refine W cy (NM g0 g1 g2 g3 g9 kT jX nX u6 uA k1 k4 k5 Px N4 @AW.ab) ?_<;>intros
             all_goals(refine ⟨_,_,?_,rfl,rfl,⟨by simp [g0],by simp [g1],by simp [g2],by simp [g3],by simp [g9],by simp [kT],by simp [jX],by simp [nX]⟩,?_,?_,?_,?_⟩<;>first|exact AW.le.refl _|exact AW.le.alloc _ _|exact hJ.wf|exact hJ.wf.alloc _|omega|(simp [uP];done))
           have k5:¬kd=2:=(by omega);refine W cy (vD g0 g1 g2 g3 g9 kT jX nX u6 uA k1 k4 k5 @AW.ab) (J2 ?_ ?_)<;>intros
           all_goals(refine ⟨_,_,?_,rfl,rfl,⟨by simp [g0],by simp [g1],by simp [g2],by simp [g3],by simp [g9],by simp [kT],by simp [jX],by simp [nX]⟩,?_,?_,?_,?_⟩<;>first|exact AW.le.refl _|exact AW.le.alloc _ _|exact hJ.wf|exact hJ.wf.alloc _|omega|(simp [uP];done))
         | false=>
           by_cases k5:kd=2
           . have k6:=k3 k5;subst k5;refine W cy (rL g0 g1 g2 g3 g9 kT jX nX u6 uA k6 @AW.ab) ?_<;>intros
             all_goals(refine ⟨_,_,?_,rfl,rfl,⟨by simp [g0],by simp [g1],by simp [g2],by simp [g3],by simp [g9],by simp [kT],by simp [jX],by simp [nX]⟩,?_,?_,?_,?_⟩<;>first|exact AW.le.refl _|exact AW.le.alloc _ _|exact hJ.wf|exact hJ.wf.alloc _|omega|(simp [uP];done))
           skip
           refine W cy (kM g0 g1 g2 g3 g9 kT jX nX u6 uA k1 k5 @AW.ab) (J3 ?_ ?_ ?_)<;>intros
           all_goals(refine ⟨_,_,?_,rfl,rfl,⟨by simp [g0],by simp [g1],by simp [g2],by simp [g3],by simp [g9],by simp [kT],by simp [jX],by simp [nX]⟩,?_,?_,?_,?_⟩<;>first|exact AW.le.refl _|exact AW.le.alloc _ _|exact hJ.wf|exact hJ.wf.alloc _|omega|(simp [uP];done))
       | true=>
         have hm4:(n1:Int).tmod 4=((n1 % 4:Nat):Int):=(by rw [Int.tmod_eq_emod_of_nonneg (by omega)];omega);by_cases k5:kd=2
         . have k6:=k3 k5;subst k5;refine W cy (rL g0 g1 g2 g3 g9 kT jX nX u6 uA k6 @AW.ab) ?_<;>intros
           all_goals(refine ⟨_,_,?_,rfl,rfl,⟨by simp [g0],by simp [g1],by simp [g2],by simp [g3],by simp [g9],by simp [kT],by simp [jX],by simp [nX]⟩,?_,?_,?_,?_⟩<;>first|exact AW.le.refl _|exact AW.le.alloc _ _|exact hJ.wf|exact hJ.wf.alloc _|omega|(simp [uP];done))
         skip
         refine W cy (vD g0 g1 g2 g3 g9 kT jX nX u6 uA k1 k5 hm4 @AW.ab) (J9 ?_ ?_ ?_ ?_ ?_ ?_ ?_ ?_ ?_)<;>intros
         all_goals(refine ⟨_,_,?_,rfl,rfl,⟨by simp [g0],by simp [g1],by simp [g2],by simp [g3],by simp [g9],by simp [kT],by simp [jX],by simp [nX]⟩,?_,?_,?_,?_⟩<;>first|exact AW.le.refl _|exact AW.le.alloc _ _|exact hJ.wf|exact hJ.wf.alloc _|omega|(simp [uP];done))
     rintro fr2 A2 ⟨o,n2,GR,Wd,QP,⟨f0,f1,f2,f3,f9,GU,N7,GT⟩,hle2,kS,Nf,VU⟩;clear VV hnn2 uA hkd0 DO hn12 cH hcell;subst u6;obtain⟨x,hx,hIG0,cI⟩:=FW o n2 GR;have Ko:=hJ.grow hle2 kS;obtain⟨ra,IT⟩:∃ra,IntKind.i64.wrap ((n2:Int).tmod 4)=ra:=⟨_,rfl⟩;have WW:0<=ra/\ra<4:=(by rw [<-IT,Int.tmod_eq_emod_of_nonneg (by omega),an (by omega) (by omega)];omega);obtain⟨xo,xa,xb,xc,xi⟩:=x;simp only at hx;subst hx;simp only [ao] at cI;have RV:=hIG0 Nf.v;clear hIG0;have hz:∀O O',((A2.alloc O).set A2.next O').Wf:=λO O'=>(kS.alloc O).set _ (by simp);by_cases o5:xo=5
     . subst o5;obtain⟨A3,H6⟩:∃A3,((A2.alloc (.cells [.int .i64 0,.int .i64 0,.int .i64 0,.int .i64 0,.int .i64 0] true 1)).set A2.next (some (.cells [.int .i64 5,.int .i64 xa,.int .i64 xb,.int .i64 xc,.int .i64 xi] true 1))).set A2.next (some (.cells [.int .i64 5,.int .i64 ra,.int .i64 xb,.int .i64 xc,.int .i64 xi] true 1))=A3:=⟨_,rfl⟩;have tI:(A2.alloc (.cells [.int .i64 0,.int .i64 0,.int .i64 0,.int .i64 0,.int .i64 0] true 1)).set A2.next (some (.cells [.int .i64 5,.int .i64 ra,.int .i64 xb,.int .i64 xc,.int .i64 xi] true 1))=A3:=(by rw [<-H6,AW.set_set]);have Kn:PJ A A3 (.slice op ps.length cp) vj ps jl ps.length:=(by rw [<-tI];exact Ko.grow (AW.le.kQ A2 _ _) (hz _ _));have uD:A3.bt A2.next=some (.cells [.int .i64 5,.int .i64 ra,.int .i64 xb,.int .i64 xc,.int .i64 xi] true 1):=(by rw [<-tI];simp);obtain⟨Qy,A4,e4,QM,UY,-⟩:=Kn.JR (by omega) uD (Ko.ne (Nat.le_refl _));obtain⟨tc,A5,e5,EL⟩:=QM.eX (by omega) ⟨5,ra,xb,xc,xi⟩
       simp only [ao] at e5
       repeat' (first|(refine jK λR hR=>?_;simp [an,ax,f0,f1,f2,f3,f9,GU,N7,GT,QP,Wd,IT,hP,AW.ab,aD,H6,uD,e4,UY,e5,ite_self];try simp (disch:=omega) only [ay,ap,an,ax])|(refine hR _ _ ?_;clear hR R)|(refine hK _ _ ?_;clear hK K)|refine nx ?_|refine wn λK hK=>?_|simp only [wS]|(refine bV (cI _) ?_;rintro _ _ ⟨rfl,rfl⟩ _ _)|(show cB _ _ _ _ _ _;refine nx ?_)|(refine wc rfl (λhc=>?_) (λhc=>?_)<;>(try simp at hc)<;>(try omega))|(refine ib (λhc=>?_) (λhc=>?_)<;>(try omega)<;>(try simp (disch:=omega) only [ay,ap])))
       refine⟨l.length-(i+1),by omega,i+1,ps++[⟨5,ra,xb,xc,xi⟩],(jl++[(ps.length:Int)]),tc,Qy,b,rfl,by omega,by omega,by simp [NZ],by first|omega|(simp;omega),⟨?_,?_,?_,?_,?_,?_,?_,?_⟩,?_,?_,?_,.inl (by rw [List.length_append,List.length_singleton];omega),H5.lz Nf.v.1 VU⟩
       iterate 8 simp [f0,f1,f2,f3,f9,GU,N7,GT]
       exact EL.mono (by simp);exact iP.lz (x:=⟨5,ra,xb,xc,xi⟩) Kq (D6.Ws (by omega) RV WW) Nf;exact EK.JR (x:=⟨5,ra,xb,xc,xi⟩) (RV.j (by simp)) (by simp)
     by_cases o6:xo=6
     . subst o6;obtain⟨A3,H6⟩:∃A3,((A2.alloc (.cells [.int .i64 0,.int .i64 0,.int .i64 0,.int .i64 0,.int .i64 0] true 1)).set A2.next (some (.cells [.int .i64 6,.int .i64 xa,.int .i64 xb,.int .i64 xc,.int .i64 xi] true 1))).set A2.next (some (.cells [.int .i64 6,.int .i64 ra,.int .i64 xb,.int .i64 xc,.int .i64 xi] true 1))=A3:=⟨_,rfl⟩;have tI:(A2.alloc (.cells [.int .i64 0,.int .i64 0,.int .i64 0,.int .i64 0,.int .i64 0] true 1)).set A2.next (some (.cells [.int .i64 6,.int .i64 ra,.int .i64 xb,.int .i64 xc,.int .i64 xi] true 1))=A3:=(by rw [<-H6,AW.set_set]);have Kn:PJ A A3 (.slice op ps.length cp) vj ps jl ps.length:=(by rw [<-tI];exact Ko.grow (AW.le.kQ A2 _ _) (hz _ _));have uD:A3.bt A2.next=some (.cells [.int .i64 6,.int .i64 ra,.int .i64 xb,.int .i64 xc,.int .i64 xi] true 1):=(by rw [<-tI];simp);obtain⟨Qy,A4,e4,QM,UY,-⟩:=Kn.JR (by omega) uD (Ko.ne (Nat.le_refl _));obtain⟨tc,A5,e5,EL⟩:=QM.eX (by omega) ⟨6,ra,xb,xc,xi⟩
       simp only [ao] at e5
       repeat' (first|(refine jK λR hR=>?_;simp [an,ax,f0,f1,f2,f3,f9,GU,N7,GT,QP,Wd,IT,hP,AW.ab,aD,H6,uD,e4,UY,e5,o5,ite_self];try simp (disch:=omega) only [ay,ap,an,ax])|(refine hR _ _ ?_;clear hR R)|(refine hK _ _ ?_;clear hK K)|refine nx ?_|refine wn λK hK=>?_|simp only [wS]|(refine bV (cI _) ?_;rintro _ _ ⟨rfl,rfl⟩ _ _)|(show cB _ _ _ _ _ _;refine nx ?_)|(refine wc rfl (λhc=>?_) (λhc=>?_)<;>(try simp at hc)<;>(try omega))|(refine ib (λhc=>?_) (λhc=>?_)<;>(try omega)<;>(try simp (disch:=omega) only [ay,ap])))
       refine⟨l.length-(i+1),by omega,i+1,ps++[⟨6,ra,xb,xc,xi⟩],(jl++[(ps.length:Int)]),tc,Qy,b,rfl,by omega,by omega,by simp [NZ],by first|omega|(simp;omega),⟨?_,?_,?_,?_,?_,?_,?_,?_⟩,?_,?_,?_,.inl (by rw [List.length_append,List.length_singleton];omega),H5.lz Nf.v.1 VU⟩
       iterate 8 simp [f0,f1,f2,f3,f9,GU,N7,GT]
       exact EL.mono (by simp);exact iP.lz (x:=⟨6,ra,xb,xc,xi⟩) Kq (D6.Ws (by omega) RV WW) Nf;exact EK.JR (x:=⟨6,ra,xb,xc,xi⟩) (RV.j (by simp)) (by simp)
     by_cases o4:xo=4
     . subst o4;obtain⟨A3,H6⟩:∃A3,(A2.alloc (.cells [.int .i64 0,.int .i64 0,.int .i64 0,.int .i64 0,.int .i64 0] true 1)).set A2.next (some (.cells [.int .i64 4,.int .i64 xa,.int .i64 xb,.int .i64 xc,.int .i64 xi] true 1))=A3:=⟨_,rfl⟩;have tI:=H6;have Kn:PJ A A3 (.slice op ps.length cp) vj ps jl ps.length:=(by rw [<-tI];exact Ko.grow (AW.le.kQ A2 _ _) (hz _ _));have uD:A3.bt A2.next=some (.cells [.int .i64 4,.int .i64 xa,.int .i64 xb,.int .i64 xc,.int .i64 xi] true 1):=(by rw [<-tI];simp);obtain⟨Qy,A4,e4,QM,UY,-⟩:=Kn.JR (by omega) uD (Ko.ne (Nat.le_refl _));obtain⟨tc,A5,e5,EL⟩:=QM.eX (by omega) ⟨4,xa,xb,xc,xi⟩;simp only [ao] at e5
       repeat' (first|(refine jK λR hR=>?_;simp [an,ax,f0,f1,f2,f3,f9,GU,N7,GT,QP,Wd,IT,hP,AW.ab,aD,H6,uD,e4,UY,e5,o5,o6,ite_self];try simp (disch:=omega) only [ay,ap,an,ax])|(refine hR _ _ ?_;clear hR R)|(refine hK _ _ ?_;clear hK K)|refine nx ?_|refine wn λK hK=>?_|simp only [wS]|(refine bV (cI _) ?_;rintro _ _ ⟨rfl,rfl⟩ _ _)|(show cB _ _ _ _ _ _;refine nx ?_)|(refine wc rfl (λhc=>?_) (λhc=>?_)<;>(try simp at hc)<;>(try omega))|(refine ib (λhc=>?_) (λhc=>?_)<;>(try omega)<;>(try simp (disch:=omega) only [ay,ap])))
       refine⟨l.length-(i+1),by omega,i+1,ps++[⟨4,xa,xb,xc,xi⟩],(jl++[(ps.length:Int)]),tc,Qy,b,rfl,by omega,by omega,by simp [NZ],by first|omega|(simp;omega),⟨?_,?_,?_,?_,?_,?_,?_,?_⟩,?_,?_,?_,.inl (by rw [List.length_append,List.length_singleton];omega),H5.lz Nf.v.1 VU⟩
       iterate 8 simp [f0,f1,f2,f3,f9,GU,N7,GT]
       exact EL.mono (by simp);exact iP.lz (x:=⟨4,xa,xb,xc,xi⟩) Kq (RV) Nf;exact EK.JR (x:=⟨4,xa,xb,xc,xi⟩) (RV.j (by simp)) (by simp)
     by_cases o7:xo=7
     . subst o7;obtain⟨A3,H6⟩:∃A3,(A2.alloc (.cells [.int .i64 0,.int .i64 0,.int .i64 0,.int .i64 0,.int .i64 0] true 1)).set A2.next (some (.cells [.int .i64 7,.int .i64 xa,.int .i64 xb,.int .i64 xc,.int .i64 xi] true 1))=A3:=⟨_,rfl⟩;have tI:=H6;have Kn:PJ A A3 (.slice op ps.length cp) vj ps jl ps.length:=(by rw [<-tI];exact Ko.grow (AW.le.kQ A2 _ _) (hz _ _));have uD:A3.bt A2.next=some (.cells [.int .i64 7,.int .i64 xa,.int .i64 xb,.int .i64 xc,.int .i64 xi] true 1):=(by rw [<-tI];simp);obtain⟨tc,A5,e5,EL⟩:=Kn.eX (by omega) ⟨7,xa,xb,xc,xi⟩;simp only [ao] at e5
       repeat' (first|(refine jK λR hR=>?_;simp [an,ax,f0,f1,f2,f3,f9,GU,N7,GT,QP,Wd,IT,hP,AW.ab,aD,H6,uD,e5,o5,o6,o4,ite_self];try simp (disch:=omega) only [ay,ap,an,ax])|(refine hR _ _ ?_;clear hR R)|(refine hK _ _ ?_;clear hK K)|refine nx ?_|refine wn λK hK=>?_|simp only [wS]|(refine bV (cI _) ?_;rintro _ _ ⟨rfl,rfl⟩ _ _)|(show cB _ _ _ _ _ _;refine nx ?_)|(refine wc rfl (λhc=>?_) (λhc=>?_)<;>(try simp at hc)<;>(try omega))|(refine ib (λhc=>?_) (λhc=>?_)<;>(try omega)<;>(try simp (disch:=omega) only [ay,ap])))
       refine⟨l.length-(i+1),by omega,i+1,ps++[⟨7,xa,xb,xc,xi⟩],jl,tc,vj,true,rfl,by omega,by omega,by simp [NZ],by first|omega|(simp;omega),⟨?_,?_,?_,?_,?_,?_,?_,?_⟩,?_,?_,?_,.inl (by rw [List.length_append,List.length_singleton];omega),H5.lz Nf.v.1 VU⟩
       iterate 8 simp [f0,f1,f2,f3,f9,GU,N7,GT]
       exact EL.mono (by simp);exact iP.lz (x:=⟨7,xa,xb,xc,xi⟩) Kq (RV) Nf;exact EK.lz _
     by_cases o8:xo=8
     . subst o8;obtain⟨A3,H6⟩:∃A3,(A2.alloc (.cells [.int .i64 0,.int .i64 0,.int .i64 0,.int .i64 0,.int .i64 0] true 1)).set A2.next (some (.cells [.int .i64 8,.int .i64 xa,.int .i64 xb,.int .i64 xc,.int .i64 xi] true 1))=A3:=⟨_,rfl⟩;have tI:=H6;have Kn:PJ A A3 (.slice op ps.length cp) vj ps jl ps.length:=(by rw [<-tI];exact Ko.grow (AW.le.kQ A2 _ _) (hz _ _));have uD:A3.bt A2.next=some (.cells [.int .i64 8,.int .i64 xa,.int .i64 xb,.int .i64 xc,.int .i64 xi] true 1):=(by rw [<-tI];simp);obtain⟨tc,A5,e5,EL⟩:=Kn.eX (by omega) ⟨8,xa,xb,xc,xi⟩;simp only [ao] at e5
       repeat' (first|(refine jK λR hR=>?_;simp [an,ax,f0,f1,f2,f3,f9,GU,N7,GT,QP,Wd,IT,hP,AW.ab,aD,H6,uD,e5,o5,o6,o4,o7,ite_self];try simp (disch:=omega) only [ay,ap,an,ax])|(refine hR _ _ ?_;clear hR R)|(refine hK _ _ ?_;clear hK K)|refine nx ?_|refine wn λK hK=>?_|simp only [wS]|(refine bV (cI _) ?_;rintro _ _ ⟨rfl,rfl⟩ _ _)|(show cB _ _ _ _ _ _;refine nx ?_)|(refine wc rfl (λhc=>?_) (λhc=>?_)<;>(try simp at hc)<;>(try omega))|(refine ib (λhc=>?_) (λhc=>?_)<;>(try omega)<;>(try simp (disch:=omega) only [ay,ap])))
       refine⟨l.length-(i+1),by omega,i+1,ps++[⟨8,xa,xb,xc,xi⟩],jl,tc,vj,false,rfl,by omega,by omega,by simp [NZ],by first|omega|(simp;omega),⟨?_,?_,?_,?_,?_,?_,?_,?_⟩,?_,?_,?_,.inl (by rw [List.length_append,List.length_singleton];omega),H5.lz Nf.v.1 VU⟩
       iterate 8 simp [f0,f1,f2,f3,f9,GU,N7,GT]
       exact EL.mono (by simp);exact iP.lz (x:=⟨8,xa,xb,xc,xi⟩) Kq (RV) Nf;exact EK.lz _
     obtain⟨A3,H6⟩:∃A3,(A2.alloc (.cells [.int .i64 0,.int .i64 0,.int .i64 0,.int .i64 0,.int .i64 0] true 1)).set A2.next (some (.cells [.int .i64 xo,.int .i64 xa,.int .i64 xb,.int .i64 xc,.int .i64 xi] true 1))=A3:=⟨_,rfl⟩;have tI:=H6;have Kn:PJ A A3 (.slice op ps.length cp) vj ps jl ps.length:=(by rw [<-tI];exact Ko.grow (AW.le.kQ A2 _ _) (hz _ _));have uD:A3.bt A2.next=some (.cells [.int .i64 xo,.int .i64 xa,.int .i64 xb,.int .i64 xc,.int .i64 xi] true 1):=(by rw [<-tI];simp);obtain⟨tc,A5,e5,EL⟩:=Kn.eX (by omega) ⟨xo,xa,xb,xc,xi⟩;simp only [ao] at e5
     repeat' (first|(refine jK λR hR=>?_;simp [an,ax,f0,f1,f2,f3,f9,GU,N7,GT,QP,Wd,IT,hP,AW.ab,aD,H6,uD,e5,o5,o6,o4,o7,o8,ite_self];try simp (disch:=omega) only [ay,ap,an,ax])|(refine hR _ _ ?_;clear hR R)|(refine hK _ _ ?_;clear hK K)|refine nx ?_|refine wn λK hK=>?_|simp only [wS]|(refine bV (cI _) ?_;rintro _ _ ⟨rfl,rfl⟩ _ _)|(show cB _ _ _ _ _ _;refine nx ?_)|(refine wc rfl (λhc=>?_) (λhc=>?_)<;>(try simp at hc)<;>(try omega))|(refine ib (λhc=>?_) (λhc=>?_)<;>(try omega)<;>(try simp (disch:=omega) only [ay,ap])))
     refine⟨l.length-(i+1),by omega,i+1,ps++[⟨xo,xa,xb,xc,xi⟩],jl,tc,vj,b,rfl,by omega,by omega,by simp [NZ],by first|omega|(simp;omega),⟨?_,?_,?_,?_,?_,?_,?_,?_⟩,?_,?_,?_,.inl (by rw [List.length_append,List.length_singleton];omega),H5.lz Nf.v.1 VU⟩
     iterate 8 simp [f0,f1,f2,f3,f9,GU,N7,GT]
     exact EL.mono (by simp);have hg:=iP.lz Kq RV Nf;rw [show T8 b xo=b by simp [T8,o7,o8]] at hg;exact hg;exact EK.lz _
   refine bh ?_;refine W cy (rL g0 g1 g2 g3 g9 kT jX nX u6 cF B8 hws) ?_<;>intros;exact⟨ps,jl,vp,vj,b,by omega,by omega,by simp [g9,u6],by simp [kT],by simp [jX],hJ,Kq,EK,PB,H5,by omega⟩
 refine bh ?_;refine W cy (IX g0 g1 g2 g3 g9 kT jX nX u6 cF hws) ?_<;>intros;exact⟨ps,jl,vp,vj,b,by omega,by omega,by simp [g9,u6],by simp [kT],by simp [jX],hJ,Kq,EK,PB,H5,by omega⟩
end
section
namespace TGFbI
theorem kI [Gl] {A:AW} {L:List It} {T:Prop} (hS:ah A L) (hw:A.Wf) (h':(aK A L/\ba A L/\bD L)=T:=by first|(dsimp only [aa,af,aK,ba,bD,dN];done)|exact rfl):T:=h'▸hS.dT hw
end TGFbI
open TGFbI
open Go.RowKit
variable [Gl]
def i6:List (List UInt8×List UInt8):=[([110,111,112],[]),([99,111,110,115,116],[65,73]),([109,111,118,101],[65,66]),([],[65,66,67]),([106,117,109,112],[73]),([122,101,114,111],[65,73]),
 ([110,111,110,122,101,114,111],[65,73]),([98,101,103,105,110],[73]),([99,111,109,109,105,116],[]),([97,98,111,114,116],[]),([116,114,101,97,100],[65,66,73]),([116,119,114,105,116,101],[65,66,73]),
 ([112,114,101,97,100],[65,66,73]),([112,119,114,105,116,101],[65,66,73]),([97,108,108,111,99],[65,73]),([102,114,101,101],[65]),([102,101,110,99,101],[]),([111,117,116,99,111,109,101],[65])]
def fx:List Value:=i6.flatMap λx=>[.string (bs x.1),.string (bs x.2)]
def jm (k:Nat):List UInt8:=(i6.getD k ([],[])).2
structure FOK [Gl]:Prop where
 n:Gl.N=4
 ok:Gl.ok 0=true
 forms:∃e fr,Gl.B 0=some (.cells fx.toArray e fr)
theorem Nj {k:Nat} (hk:k<18):fx[k*2+1]? = some (.string (bs (jm k))):=by
 have h:((List.range 18).all λk=>match fx[k*2+1]? with|some (.string s)=>decide (s.data.toList=jm k)|_=>false)=true:=by kernel_rfl
 have:=List.all_eq_true.1 h k (List.mem_range.2 hk);cases hc:fx[k*2+1]? with
 | none=>rw [hc] at this;cases this
 | some v=>
   rw [hc] at this;cases v with
   | string s=>
     have h2:s.data.toList=jm k:=by simpa using this
     rw [<-h2];rfl
   | _=>cases this
theorem caps {k:Nat} (hk:k<18):decide (0<=Lib.indexByte (jm k) 65)=ko k/\decide (0<=Lib.indexByte (jm k) 66)=jd k/\decide (0<=Lib.indexByte (jm k) 67)=km k:=by
 have h:((List.range 18).all λk=>(decide (0<=Lib.indexByte (jm k) 65) == ko k) && (decide (0<=Lib.indexByte (jm k) 66) == jd k) && (decide (0<=Lib.indexByte (jm k) 67) == km k))=true:=by kernel_rfl
 have:=List.all_eq_true.1 h k (List.mem_range.2 hk);simp only [Bool.and_eq_true,beq_iff_eq] at this;exact⟨this.1.1,this.1.2,this.2⟩
theorem rf (s:List UInt8) (c:UInt8) (A:AW):uh Tryz.prog 163 [.string (bs s),.string ⟨#[c]⟩] A (.bool (decide (0<=Lib.indexByte s c))):=by
 refine⟨by kernel_rfl,rfl,λm w fL hs hl=>?_⟩;have e2:fL = #[.string (bs s),.string ⟨#[c]⟩]:=by
  apply Array.ext';obtain⟨v1,l1,h1,h2,h3⟩:=hl.kE;obtain⟨v2,l2,rfl,h4,h5⟩:=h3.kE;rw [h1,h2.lQ rfl,h4.lQ rfl,h5.nL]
 subst e2;refine(Tryz.strings_Contains_one (bs s) c w).mono ?_;rintro e w' ⟨rfl,rfl⟩;exact⟨rfl,⟨λ_ _=>rfl,rfl,rfl,rfl,Nat.le_refl _⟩⟩
theorem Hz (x:bg) (A:AW):az Tryz.prog 164 [.agg (ao x).toArray] A (λu A'=>u=.bool (ej x.op x.bL)/\A=A'):=by
 refine az.rR (V:=.bool (ej x.op x.bL)) (by simp) (λhw=>?_) (by kernel_rfl);refine aH Tryz.func164 λ_=>?_;obtain⟨op,a,b,c,bL⟩:=x;by_cases o1:op=1
 . subst o1;have he:ej 1 bL=true:=(by unfold ej;rfl);rw [he];refine W cy (J2 @AW.ab @ao.eq_1) ?_<;>intros
   all_goals first|exact AW.le.alloc A _|(simp [aM,aS,bA,aN,aO]<;>exact AW.le.alloc A _)
 by_cases lH:op=10
 . subst lH;have he:ej 10 bL=true:=(by unfold ej;rfl);rw [he];refine W cy (J3 o1 @AW.ab @ao.eq_1) ?_<;>intros
   all_goals first|exact AW.le.alloc A _|(simp [aM,aS,bA,aN,aO]<;>exact AW.le.alloc A _)
 by_cases o11:op=11
 . subst o11;have he:ej 11 bL=true:=(by unfold ej;rfl);rw [he];refine W cy (J4 o1 lH @AW.ab @ao.eq_1) ?_<;>intros
   all_goals first|exact AW.le.alloc A _|(simp [aM,aS,bA,aN,aO]<;>exact AW.le.alloc A _)
 by_cases o12:op=12
 . subst o12;have he:ej 12 bL=true:=(by unfold ej;rfl);rw [he];refine W cy (J5 o1 lH o11 @AW.ab @ao.eq_1) ?_<;>intros
   all_goals first|exact AW.le.alloc A _|(simp [aM,aS,bA,aN,aO]<;>exact AW.le.alloc A _)
 by_cases o13:op=13
 . subst o13;have he:ej 13 bL=true:=(by unfold ej;rfl);rw [he];refine W cy (J6 o1 lH o11 o12 @AW.ab @ao.eq_1) ?_<;>intros
   all_goals first|exact AW.le.alloc A _|(simp [aM,aS,bA,aN,aO]<;>exact AW.le.alloc A _)
 by_cases o3:op=3
 . subst o3;have he:ej 3 bL=(decide (0<=bL) && decide (bL<22)):=(by unfold ej;rfl);rw [he];by_cases q1:0<=bL
   . by_cases q2:bL<22
     . skip
       refine W cy (J9 o1 lH o11 o12 o13 q1 q2 @AW.ab @ao.eq_1) ?_<;>intros
       all_goals first|exact AW.le.alloc A _|(simp [aM,aS,bA,aN,aO,q1,q2]<;>exact AW.le.alloc A _)
     skip
     refine W cy (J9 o1 lH o11 o12 o13 q1 q2 @AW.ab @ao.eq_1) ?_<;>intros
     all_goals first|exact AW.le.alloc A _|(simp [aM,aS,bA,aN,aO,q1,q2]<;>exact AW.le.alloc A _)
   skip
   refine W cy (J8 o1 lH o11 o12 o13 q1 @AW.ab @ao.eq_1) ?_<;>intros
   all_goals first|exact AW.le.alloc A _|(simp [aM,aS,bA,aN,aO,q1]<;>exact AW.le.alloc A _)
 by_cases o4:op=4
 . subst o4;have he:ej 4 bL=(decide (0<=bL) && decide (bL<=64)):=(by unfold ej;rfl);rw [he];by_cases q1:0<=bL
   . by_cases q2:bL<=64
     . skip
       refine W cy (GK o1 lH o11 o12 o13 o3 q1 q2 @AW.ab @ao.eq_1) ?_<;>intros
       all_goals first|exact AW.le.alloc A _|(simp [aM,aS,bA,aN,aO,q1,q2]<;>exact AW.le.alloc A _)
     skip
     refine W cy (GK o1 lH o11 o12 o13 o3 q1 q2 @AW.ab @ao.eq_1) ?_<;>intros
     all_goals first|exact AW.le.alloc A _|(simp [aM,aS,bA,aN,aO,q1,q2]<;>exact AW.le.alloc A _)
   skip
   refine W cy (J9 o1 lH o11 o12 o13 o3 q1 @AW.ab @ao.eq_1) ?_<;>intros
   all_goals first|exact AW.le.alloc A _|(simp [aM,aS,bA,aN,aO,q1]<;>exact AW.le.alloc A _)
 by_cases o5:op=5
 . subst o5;have he:ej 5 bL=(decide (0<=bL) && decide (bL<=64)):=(by unfold ej;rfl);rw [he];by_cases q1:0<=bL
   . by_cases q2:bL<=64
     . skip
       refine W cy (IX o1 lH o11 o12 o13 o3 o4 q1 q2 @AW.ab @ao.eq_1) ?_<;>intros
       all_goals first|exact AW.le.alloc A _|(simp [aM,aS,bA,aN,aO,q1,q2]<;>exact AW.le.alloc A _)
     skip
     refine W cy (IX o1 lH o11 o12 o13 o3 o4 q1 q2 @AW.ab @ao.eq_1) ?_<;>intros
     all_goals first|exact AW.le.alloc A _|(simp [aM,aS,bA,aN,aO,q1,q2]<;>exact AW.le.alloc A _)
   skip
   refine W cy (GK o1 lH o11 o12 o13 o3 o4 q1 @AW.ab @ao.eq_1) ?_<;>intros
   all_goals first|exact AW.le.alloc A _|(simp [aM,aS,bA,aN,aO,q1]<;>exact AW.le.alloc A _)
 by_cases o6:op=6
 . subst o6;have he:ej 6 bL=(decide (0<=bL) && decide (bL<=64)):=(by unfold ej;rfl);rw [he];by_cases q1:0<=bL
   . by_cases q2:bL<=64
     . skip
       refine W cy (rL o1 lH o11 o12 o13 o3 o4 o5 q1 q2 @AW.ab @ao.eq_1) ?_<;>intros
       all_goals first|exact AW.le.alloc A _|(simp [aM,aS,bA,aN,aO,q1,q2]<;>exact AW.le.alloc A _)
     skip
     refine W cy (rL o1 lH o11 o12 o13 o3 o4 o5 q1 q2 @AW.ab @ao.eq_1) ?_<;>intros
     all_goals first|exact AW.le.alloc A _|(simp [aM,aS,bA,aN,aO,q1,q2]<;>exact AW.le.alloc A _)
   skip
   refine W cy (IX o1 lH o11 o12 o13 o3 o4 o5 q1 @AW.ab @ao.eq_1) ?_<;>intros
   all_goals first|exact AW.le.alloc A _|(simp [aM,aS,bA,aN,aO,q1]<;>exact AW.le.alloc A _)
 by_cases o7:op=7
 . subst o7;have he:ej 7 bL=(decide (1<=bL) && decide (bL<=8)):=(by unfold ej;rfl);rw [he];by_cases q1:1<=bL
   . by_cases q2:bL<=8
     . skip
       refine W cy (kM o1 lH o11 o12 o13 o3 o4 o5 o6 q1 q2 @AW.ab @ao.eq_1) ?_<;>intros
       all_goals first|exact AW.le.alloc A _|(simp [aM,aS,bA,aN,aO,q1,q2]<;>exact AW.le.alloc A _)
     skip
     refine W cy (kM o1 lH o11 o12 o13 o3 o4 o5 o6 q1 q2 @AW.ab @ao.eq_1) ?_<;>intros
     all_goals first|exact AW.le.alloc A _|(simp [aM,aS,bA,aN,aO,q1,q2]<;>exact AW.le.alloc A _)
   skip
   refine W cy (rL o1 lH o11 o12 o13 o3 o4 o5 o6 q1 @AW.ab @ao.eq_1) ?_<;>intros
   all_goals first|exact AW.le.alloc A _|(simp [aM,aS,bA,aN,aO,q1]<;>exact AW.le.alloc A _)
 by_cases o14:op=14
 . subst o14;have he:ej 14 bL=(decide (0<=bL) && decide (bL<4)):=(by unfold ej;rfl);rw [he];by_cases q1:0<=bL
   . by_cases q2:bL<4
     . skip
       refine W cy (vD o1 lH o11 o12 o13 o3 o4 o5 o6 o7 q1 q2 @AW.ab @ao.eq_1) ?_<;>intros
       all_goals first|exact AW.le.alloc A _|(simp [aM,aS,bA,aN,aO,q1,q2]<;>exact AW.le.alloc A _)
     skip
     refine W cy (vD o1 lH o11 o12 o13 o3 o4 o5 o6 o7 q1 q2 @AW.ab @ao.eq_1) ?_<;>intros
     all_goals first|exact AW.le.alloc A _|(simp [aM,aS,bA,aN,aO,q1,q2]<;>exact AW.le.alloc A _)
   skip
   refine W cy (kM o1 lH o11 o12 o13 o3 o4 o5 o6 o7 q1 @AW.ab @ao.eq_1) ?_<;>intros
   all_goals first|exact AW.le.alloc A _|(simp [aM,aS,bA,aN,aO,q1]<;>exact AW.le.alloc A _)
 have he:ej op bL=decide (bL=0):=by
  unfold ej;rw [ap (by omega),ap o3,ap (by omega),ap o7,ap o14]
 rw [he];by_cases q1:bL=0
 . skip
   refine W cy (vD o1 lH o11 o12 o13 o3 o4 o5 o6 o7 o14 q1 @AW.ab @ao.eq_1) ?_<;>intros
   all_goals first|exact AW.le.alloc A _|(simp [aM,aS,bA,aN,aO,q1]<;>exact AW.le.alloc A _)
 skip
 refine W cy (vD o1 lH o11 o12 o13 o3 o4 o5 o6 o7 o14 q1 @AW.ab @ao.eq_1) ?_<;>intros
 all_goals first|exact AW.le.alloc A _|(simp [aM,aS,bA,aN,aO,q1]<;>exact AW.le.alloc A _)
end
section
abbrev dJ:List (Nat×Nat):=[(0,0),(1,0),(2,0),(3,0),(4,0),(5,0),(6,0),(7,0),(8,0),(9,2),(10,0)]
namespace TGFbJ
theorem kI [Gl] {A:AW} {L:List It} {T:Prop} (hS:ah A L) (hw:A.Wf) (h':(aK A L/\ba A L/\bD L)=T:=by first|(dsimp only [aa,af,aK,ba,bD,dN];done)|exact rfl):T:=h'▸hS.dT hw
end TGFbJ
open TGFbJ
section
variable (G1 G2:Gl) (hG:∀g,G1.ok g=true->G2.ok g=true)
include hG
theorem zy {n:Nat} {o:Operand} (h:@vW G1 n o=true):@vW G2 n o=true:=by
 cases o with
 | global g=>exact hG g h
 | _=>exact h
theorem Hs {n:Nat} {o:Oper} (h:@lC G1 n o=true):@lC G2 n o=true:=by
 unfold lC at h ⊢;rw [Bool.and_eq_true] at h ⊢;refine⟨?_,h.2⟩;have h1:=h.1;rw [Array.all_eq_true] at h1 ⊢;exact λi hi=>zy G1 G2 hG (h1 i hi)
theorem jY {n:Nat}:∀{c:Code},@jZ G1 n c=true->@jZ G2 n c=true
 | .region _ bz _,h=>by
   unfold jZ at h ⊢;rw [Array.all_eq_true] at h ⊢;exact λi hi=>Hs G1 G2 hG (h i hi)
 | .seq a b,h=>by
   unfold jZ at h ⊢;rw [Bool.and_eq_true] at h ⊢;exact⟨jY h.1,jY h.2⟩
 | .cond c a b,h=>by
   unfold jZ at h ⊢;rw [Bool.and_eq_true,Bool.and_eq_true] at h ⊢;exact⟨⟨zy G1 G2 hG h.1.1,jY h.1.2⟩,jY h.2⟩
 | .block _ b,h=>by
   unfold jZ at h ⊢;exact jY h
 | .loop b,h=>by
   unfold jZ at h ⊢;exact jY h
 | .skip,h=>rfl
 | .exit _,h=>rfl
 | .ret,h=>rfl
end
@[reducible] def GlF:Gl:={ B:=λ_=>none,ok:=λg=>g == 0,N:=1,lt:=λg h=>by have:=eq_of_beq h;omega }
variable [Gl]
theorem Kx (lq:Gl.ok 0=true) {fn:Func} {n:Nat} (h:@If GlF fn n=true):If fn n=true:=by
 have hG:∀g,GlF.ok g=true->Gl.ok g=true:=λg hg=>by
  have:g=0:=eq_of_beq hg;subst this;exact lq
 unfold If at h ⊢;simp only [Bool.and_eq_true] at h ⊢;obtain⟨⟨⟨h1,h2⟩,h3⟩,h4⟩:=h;refine⟨⟨⟨h1,h2⟩,?_⟩,?_⟩;rw [List.all_eq_true] at h3 ⊢;exact λr hr=>h3 r hr;cases hb:fn.body with
 | none=>rw [hb] at h4;exact h4
 | some c=>rw [hb] at h4;exact jY GlF _ hG h4
theorem dl (a:Fr) (g:Nat):iO a (.global g)=.pointer (some ⟨g,0,none⟩):=rfl
theorem DL (hF:FOK) (x:bg) (A:AW):uh Tryz.prog 99 [.agg (ao x).toArray] A (.int .i64 (bT x)):=by
 refine uh.Rf rfl ?_;obtain⟨e,fr,hB⟩:=hF.forms;refine az.Uf (cs:=fx) hF.ok hB (λk v h=>?_) ?_;refine⟨by simpa using h,?_⟩;have h1:fx.all eQ=true:=by kernel_rfl
 exact List.all_eq_true.1 h1 v (List.mem_of_getElem? h);generalize A.ro=A0;have cH:(A0.set 0 (some (.cells fx false 1))).cD 0=some fx:=by simp [AW.ab]
 have iG:(A0.set 0 (some (.cells fx false 1))).bt 0=some (.cells fx false 1):=by simp
 generalize A0.set 0 (some (.cells fx false 1))=A at cH iG;refine zX Tryz.func99 rfl (Kx hF.ok (by kernel_rfl)) λhw=>?_;have hz:¬0=A.next:=λe=>by have:=hw.lt iG;omega
 have pV:¬A.next=0:=λe=>hz e.symm;obtain⟨op,a,b,c,bL⟩:=x;by_cases h1:op<0
 . have he:bT ⟨op,a,b,c,bL⟩=10:=(by unfold bT;rw [ay (.inl h1)]);rw [he];refine W (J1 (od dJ)) (J3 h1 @AW.ab @ao.eq_1) ?_<;>intros
   all_goals simp [aM,aS,bA,aN,aO]
 by_cases h2:18<=op
 . have he:bT ⟨op,a,b,c,bL⟩=10:=(by unfold bT;rw [ay (.inr h2)]);rw [he];refine W (J1 (od dJ)) (J4 h1 h2 @AW.ab @ao.eq_1) ?_<;>intros
   all_goals simp [aM,aS,bA,aN,aO]
 obtain⟨k,rfl⟩:∃k:Nat,op=k:=⟨op.toNat,by omega⟩;have hk:k<18:=by omega
 have jC:¬((18:Int)<=k):=by omega
 obtain⟨l1,l2,l3⟩:=caps hk;have hcell:=Nj hk;have b6:fx.length=36:=by kernel_rfl
 have c1:∀A,az Tryz.prog 163 [.string (bs (jm k)),.string ((⟨#[65,66,67]⟩:ByteArray).extract 0 1)] A (λu A'=>u=.bool (ko k)/\A=A'):=λA=>by rw [<-l1];exact(rf (jm k) 65 A).call ⟨rfl,rfl⟩
 have c2:∀A,az Tryz.prog 163 [.string (bs (jm k)),.string ((⟨#[65,66,67]⟩:ByteArray).extract 1 2)] A (λu A'=>u=.bool (jd k)/\A=A'):=λA=>by rw [<-l2];exact(rf (jm k) 66 A).call ⟨rfl,rfl⟩
 have c3:∀A,az Tryz.prog 163 [.string (bs (jm k)),.string ((⟨#[65,66,67]⟩:ByteArray).extract 2 3)] A (λu A'=>u=.bool (km k)/\A=A'):=λA=>by rw [<-l3];exact(rf (jm k) 67 A).call ⟨rfl,rfl⟩
 have he:bT ⟨k,a,b,c,bL⟩=if (fE a (ko k) && fE b (jd k) && fE c (km k)) && ej k bL then 0 else 11:=by unfold bT;rw [ap (by simp;omega)]
 rw [he];have cN:=Hz ⟨(k:Int),a,b,c,bL⟩;simp only [ao] at cN;generalize ej (k:Int) bL=no at cN ⊢;generalize ko k=ua at c1 ⊢;generalize jd k=ub at c2 ⊢;generalize km k=uc at c3 ⊢;generalize IT:fE a ua=ra;generalize hrb:fE b ub=rb;generalize wz:fE c uc=rc;have key:∀(r:Int) (u:Bool),fE r u=(if u then decide (0<=r) && decide (r<8) else decide (r=0)):=λ_ _=>rfl;rw [key] at IT hrb wz;revert hw;(repeat first|clear hw|revert hc|revert R|revert K);refine W (J1 (od dJ)) (J4 h1 jC @AW.ab @ao.eq_1) ?_<;>(unhygienic intros);refine gM 4 ?_;cases ua with
 | false=>
   by_cases ya0:a=0
   . have QU:ra=true:=(by rw [<-IT];simp [ya0]);subst QU;subst ya0;cases ub with
     | false=>
       by_cases yb0:b=0
       . have E2:rb=true:=(by rw [<-hrb];simp [yb0]);subst E2;subst yb0;cases uc with
         | false=>
           by_cases yc0:c=0
           . have rT:rc=true:=(by rw [<-wz];simp [yc0]);subst rT;subst yc0;cases no with
             | false=>
               refine W (J5 (od dJ) @c1 @c2 @c3 @cN) (IX h1 jC iG hcell b6 hz pV hk @AW.ab @ao.eq_1 @dl) ?_<;>intros
               all_goals first|exact AW.le.refl _|simp [b7,aM,aS,bA,aN,aO]
             | true=>
               refine W (J5 (od dJ) @c1 @c2 @c3 @cN) (IX h1 jC iG hcell b6 hz pV hk @AW.ab @ao.eq_1 @dl) ?_<;>intros
               all_goals first|exact AW.le.refl _|simp [b7,aM,aS,bA,aN,aO]
           have rT:rc=false:=(by rw [<-wz];simp [yc0]);subst rT;refine W (J5 (od dJ) @c1 @c2 @c3 @cN) (rL h1 jC iG hcell b6 hz pV hk yc0 @AW.ab @ao.eq_1 @dl) ?_<;>intros
           all_goals first|exact AW.le.refl _|simp [b7,aM,aS,bA,aN,aO]
         | true=>
           by_cases yc0:c<0
           . have rT:rc=false:=(by rw [<-wz];simp;omega);subst rT;refine W (J5 (od dJ) @c1 @c2 @c3 @cN) (rL h1 jC iG hcell b6 hz pV hk yc0 @AW.ab @ao.eq_1 @dl) ?_<;>intros
             all_goals first|exact AW.le.refl _|simp [b7,aM,aS,bA,aN,aO]
           by_cases yc2:8<=c
           . have rT:rc=false:=(by rw [<-wz];simp;omega);subst rT;refine W (J5 (od dJ) @c1 @c2 @c3 @cN) (kM h1 jC iG hcell b6 hz pV hk yc0 yc2 @AW.ab @ao.eq_1 @dl) ?_<;>intros
             all_goals first|exact AW.le.refl _|simp [b7,aM,aS,bA,aN,aO]
           have rT:rc=true:=(by rw [<-wz];simp;omega);subst rT;cases no with
           | false=>
             refine W (J5 (od dJ) @c1 @c2 @c3 @cN) (kM h1 jC iG hcell b6 hz pV hk yc0 yc2 @AW.ab @ao.eq_1 @dl) ?_<;>intros
             all_goals first|exact AW.le.refl _|simp [b7,aM,aS,bA,aN,aO]
           | true=>
             refine W (J5 (od dJ) @c1 @c2 @c3 @cN) (kM h1 jC iG hcell b6 hz pV hk yc0 yc2 @AW.ab @ao.eq_1 @dl) ?_<;>intros
             all_goals first|exact AW.le.refl _|simp [b7,aM,aS,bA,aN,aO]
       have E2:rb=false:=(by rw [<-hrb];simp [yb0]);subst E2;refine W (J5 (od dJ) @c1 @c2 @c3 @cN) (rL h1 jC iG hcell b6 hz pV hk yb0 @AW.ab @ao.eq_1 @dl) ?_<;>intros
       all_goals first|exact AW.le.refl _|simp [b7,aM,aS,bA,aN,aO]
     | true=>
       by_cases yb0:b<0
       . have E2:rb=false:=(by rw [<-hrb];simp;omega);subst E2;refine W (J5 (od dJ) @c1 @c2 @c3 @cN) (rL h1 jC iG hcell b6 hz pV hk yb0 @AW.ab @ao.eq_1 @dl) ?_<;>intros
         all_goals first|exact AW.le.refl _|simp [b7,aM,aS,bA,aN,aO]
       by_cases yb2:8<=b
       . have E2:rb=false:=(by rw [<-hrb];simp;omega);subst E2;refine W (J5 (od dJ) @c1 @c2 @c3 @cN) (kM h1 jC iG hcell b6 hz pV hk yb0 yb2 @AW.ab @ao.eq_1 @dl) ?_<;>intros
         all_goals first|exact AW.le.refl _|simp [b7,aM,aS,bA,aN,aO]
       have E2:rb=true:=(by rw [<-hrb];simp;omega);subst E2;cases uc with
       | false=>
         by_cases yc0:c=0
         . have rT:rc=true:=(by rw [<-wz];simp [yc0]);subst rT;subst yc0;cases no with
           | false=>
             refine W (J5 (od dJ) @c1 @c2 @c3 @cN) (kM h1 jC iG hcell b6 hz pV hk yb0 yb2 @AW.ab @ao.eq_1 @dl) ?_<;>intros
             all_goals first|exact AW.le.refl _|simp [b7,aM,aS,bA,aN,aO]
           | true=>
             refine W (J5 (od dJ) @c1 @c2 @c3 @cN) (kM h1 jC iG hcell b6 hz pV hk yb0 yb2 @AW.ab @ao.eq_1 @dl) ?_<;>intros
             all_goals first|exact AW.le.refl _|simp [b7,aM,aS,bA,aN,aO]
         have rT:rc=false:=(by rw [<-wz];simp [yc0]);subst rT;refine W (J5 (od dJ) @c1 @c2 @c3 @cN) (vD h1 jC iG hcell b6 hz pV hk yb0 yb2 yc0 @AW.ab @ao.eq_1 @dl) ?_<;>intros
         all_goals first|exact AW.le.refl _|simp [b7,aM,aS,bA,aN,aO]
       | true=>
         by_cases yc0:c<0
         . have rT:rc=false:=(by rw [<-wz];simp;omega);subst rT;refine W (J5 (od dJ) @c1 @c2 @c3 @cN) (vD h1 jC iG hcell b6 hz pV hk yb0 yb2 yc0 @AW.ab @ao.eq_1 @dl) ?_<;>intros
           all_goals first|exact AW.le.refl _|simp [b7,aM,aS,bA,aN,aO]
         by_cases yc2:8<=c
         . have rT:rc=false:=(by rw [<-wz];simp;omega);subst rT;refine W (J5 (od dJ) @c1 @c2 @c3 @cN) (N9 h1 jC iG hcell b6 hz pV hk yb0 yb2 yc0 yc2 @AW.ab @ao.eq_1 @dl) ?_<;>intros
           all_goals first|exact AW.le.refl _|simp [b7,aM,aS,bA,aN,aO]
         have rT:rc=true:=(by rw [<-wz];simp;omega);subst rT;cases no with
         | false=>
           refine W (J5 (od dJ) @c1 @c2 @c3 @cN) (N9 h1 jC iG hcell b6 hz pV hk yb0 yb2 yc0 yc2 @AW.ab @ao.eq_1 @dl) ?_<;>intros
           all_goals first|exact AW.le.refl _|simp [b7,aM,aS,bA,aN,aO]
         | true=>
           refine W (J5 (od dJ) @c1 @c2 @c3 @cN) (N9 h1 jC iG hcell b6 hz pV hk yb0 yb2 yc0 yc2 @AW.ab @ao.eq_1 @dl) ?_<;>intros
           all_goals first|exact AW.le.refl _|simp [b7,aM,aS,bA,aN,aO]
   have QU:ra=false:=(by rw [<-IT];simp [ya0]);subst QU;refine W (J5 (od dJ) @c1 @c2 @c3 @cN) (rL h1 jC iG hcell b6 hz pV hk ya0 @AW.ab @ao.eq_1 @dl) ?_<;>intros
   all_goals first|exact AW.le.refl _|simp [b7,aM,aS,bA,aN,aO]
 | true=>
   by_cases ya0:a<0
   . have QU:ra=false:=(by rw [<-IT];simp;omega);subst QU;refine W (J5 (od dJ) @c1 @c2 @c3 @cN) (rL h1 jC iG hcell b6 hz pV hk ya0 @AW.ab @ao.eq_1 @dl) ?_<;>intros
     all_goals first|exact AW.le.refl _|simp [b7,aM,aS,bA,aN,aO]
   by_cases ya2:8<=a
   . have QU:ra=false:=(by rw [<-IT];simp;omega);subst QU;refine W (J5 (od dJ) @c1 @c2 @c3 @cN) (kM h1 jC iG hcell b6 hz pV hk ya0 ya2 @AW.ab @ao.eq_1 @dl) ?_<;>intros
     all_goals first|exact AW.le.refl _|simp [b7,aM,aS,bA,aN,aO]
   have QU:ra=true:=(by rw [<-IT];simp;omega);subst QU;cases ub with
   | false=>
     by_cases yb0:b=0
     . have E2:rb=true:=(by rw [<-hrb];simp [yb0]);subst E2;subst yb0;cases uc with
       | false=>
         by_cases yc0:c=0
         . have rT:rc=true:=(by rw [<-wz];simp [yc0]);subst rT;subst yc0;cases no with
           | false=>
             refine W (J5 (od dJ) @c1 @c2 @c3 @cN) (kM h1 jC iG hcell b6 hz pV hk ya0 ya2 @AW.ab @ao.eq_1 @dl) ?_<;>intros
             all_goals first|exact AW.le.refl _|simp [b7,aM,aS,bA,aN,aO]
           | true=>
             refine W (J5 (od dJ) @c1 @c2 @c3 @cN) (kM h1 jC iG hcell b6 hz pV hk ya0 ya2 @AW.ab @ao.eq_1 @dl) ?_<;>intros
             all_goals first|exact AW.le.refl _|simp [b7,aM,aS,bA,aN,aO]
         have rT:rc=false:=(by rw [<-wz];simp [yc0]);subst rT;refine W (J5 (od dJ) @c1 @c2 @c3 @cN) (vD h1 jC iG hcell b6 hz pV hk ya0 ya2 yc0 @AW.ab @ao.eq_1 @dl) ?_<;>intros
         all_goals first|exact AW.le.refl _|simp [b7,aM,aS,bA,aN,aO]
       | true=>
         by_cases yc0:c<0
         . have rT:rc=false:=(by rw [<-wz];simp;omega);subst rT;refine W (J5 (od dJ) @c1 @c2 @c3 @cN) (vD h1 jC iG hcell b6 hz pV hk ya0 ya2 yc0 @AW.ab @ao.eq_1 @dl) ?_<;>intros
           all_goals first|exact AW.le.refl _|simp [b7,aM,aS,bA,aN,aO]
         by_cases yc2:8<=c
         . have rT:rc=false:=(by rw [<-wz];simp;omega);subst rT;refine W (J5 (od dJ) @c1 @c2 @c3 @cN) (N9 h1 jC iG hcell b6 hz pV hk ya0 ya2 yc0 yc2 @AW.ab @ao.eq_1 @dl) ?_<;>intros
           all_goals first|exact AW.le.refl _|simp [b7,aM,aS,bA,aN,aO]
         have rT:rc=true:=(by rw [<-wz];simp;omega);subst rT;cases no with
         | false=>
           refine W (J5 (od dJ) @c1 @c2 @c3 @cN) (N9 h1 jC iG hcell b6 hz pV hk ya0 ya2 yc0 yc2 @AW.ab @ao.eq_1 @dl) ?_<;>intros
           all_goals first|exact AW.le.refl _|simp [b7,aM,aS,bA,aN,aO]
         | true=>
           refine W (J5 (od dJ) @c1 @c2 @c3 @cN) (N9 h1 jC iG hcell b6 hz pV hk ya0 ya2 yc0 yc2 @AW.ab @ao.eq_1 @dl) ?_<;>intros
           all_goals first|exact AW.le.refl _|simp [b7,aM,aS,bA,aN,aO]
     have E2:rb=false:=(by rw [<-hrb];simp [yb0]);subst E2;refine W (J5 (od dJ) @c1 @c2 @c3 @cN) (vD h1 jC iG hcell b6 hz pV hk ya0 ya2 yb0 @AW.ab @ao.eq_1 @dl) ?_<;>intros
     all_goals first|exact AW.le.refl _|simp [b7,aM,aS,bA,aN,aO]
   | true=>
     by_cases yb0:b<0
     . have E2:rb=false:=(by rw [<-hrb];simp;omega);subst E2;refine W (J5 (od dJ) @c1 @c2 @c3 @cN) (vD h1 jC iG hcell b6 hz pV hk ya0 ya2 yb0 @AW.ab @ao.eq_1 @dl) ?_<;>intros
       all_goals first|exact AW.le.refl _|simp [b7,aM,aS,bA,aN,aO]
     by_cases yb2:8<=b
     . have E2:rb=false:=(by rw [<-hrb];simp;omega);subst E2;refine W (J5 (od dJ) @c1 @c2 @c3 @cN) (N9 h1 jC iG hcell b6 hz pV hk ya0 ya2 yb0 yb2 @AW.ab @ao.eq_1 @dl) ?_<;>intros
       all_goals first|exact AW.le.refl _|simp [b7,aM,aS,bA,aN,aO]
     have E2:rb=true:=(by rw [<-hrb];simp;omega);subst E2;cases uc with
     | false=>
       by_cases yc0:c=0
       . have rT:rc=true:=(by rw [<-wz];simp [yc0]);subst rT;subst yc0;cases no with
         | false=>
           refine W (J5 (od dJ) @c1 @c2 @c3 @cN) (N9 h1 jC iG hcell b6 hz pV hk ya0 ya2 yb0 yb2 @AW.ab @ao.eq_1 @dl) ?_<;>intros
           all_goals first|exact AW.le.refl _|simp [b7,aM,aS,bA,aN,aO]
         | true=>
           refine W (J5 (od dJ) @c1 @c2 @c3 @cN) (N9 h1 jC iG hcell b6 hz pV hk ya0 ya2 yb0 yb2 @AW.ab @ao.eq_1 @dl) ?_<;>intros
           all_goals first|exact AW.le.refl _|simp [b7,aM,aS,bA,aN,aO]
       have rT:rc=false:=(by rw [<-wz];simp [yc0]);subst rT;refine W (J5 (od dJ) @c1 @c2 @c3 @cN) (NM h1 jC iG hcell b6 hz pV hk ya0 ya2 yb0 yb2 yc0 @AW.ab @ao.eq_1 @dl) ?_<;>intros
       all_goals first|exact AW.le.refl _|simp [b7,aM,aS,bA,aN,aO]
     | true=>
       by_cases yc0:c<0
       . have rT:rc=false:=(by rw [<-wz];simp;omega);subst rT;refine W (J5 (od dJ) @c1 @c2 @c3 @cN) (NM h1 jC iG hcell b6 hz pV hk ya0 ya2 yb0 yb2 yc0 @AW.ab @ao.eq_1 @dl) ?_<;>intros
         all_goals first|exact AW.le.refl _|simp [b7,aM,aS,bA,aN,aO]
       by_cases yc2:8<=c
       . have rT:rc=false:=(by rw [<-wz];simp;omega);subst rT;refine W (J5 (od dJ) @c1 @c2 @c3 @cN) (J17 h1 jC iG hcell b6 hz pV hk ya0 ya2 yb0 yb2 yc0 yc2 @AW.ab @ao.eq_1 @dl) ?_<;>intros
         all_goals first|exact AW.le.refl _|simp [b7,aM,aS,bA,aN,aO]
       have rT:rc=true:=(by rw [<-wz];simp;omega);subst rT;cases no with
       | false=>
         refine W (J5 (od dJ) @c1 @c2 @c3 @cN) (J17 h1 jC iG hcell b6 hz pV hk ya0 ya2 yb0 yb2 yc0 yc2 @AW.ab @ao.eq_1 @dl) ?_<;>intros
         all_goals first|exact AW.le.refl _|simp [b7,aM,aS,bA,aN,aO]
       | true=>
         refine W (J5 (od dJ) @c1 @c2 @c3 @cN) (J17 h1 jC iG hcell b6 hz pV hk ya0 ya2 yb0 yb2 yc0 yc2 @AW.ab @ao.eq_1 @dl) ?_<;>intros
         all_goals first|exact AW.le.refl _|simp [b7,aM,aS,bA,aN,aO]
end
end Go.Stx
