/-
 One thread alone whose transaction does not commit, without the program.
-/
import Derived.Test.YtnnbecihffpedaaGreatDoorG13
set_option linter.unusedVariables false
set_option linter.unusedSimpArgs false
set_option linter.unusedSectionVars false
set_option maxRecDepth 20000
set_option maxHeartbeats 4000000
namespace Go.Stx
open Go Go.Proofs
attribute [local irreducible] cB aW az aG bZ cz TW bC
section
variable [Gl]
variable {c:bH} {k:Nat} {M:Mm} {A R:Nat}
theorem R8.gs (r:R8) (a i v:Int) (ha:0<=a/\a<8) (hi:0<=i/\i<8):(r.set a v).bt i=if i=a then v else r.bt i:=by
 have h1:a=0\/a=1\/a=2\/a=3\/a=4\/a=5\/a=6\/a=7:=by omega
 have h2:i=0\/i=1\/i=2\/i=3\/i=4\/i=5\/i=6\/i=7:=by omega
 rcases h1 with rfl|rfl|rfl|rfl|rfl|rfl|rfl|rfl<;>rcases h2 with rfl|rfl|rfl|rfl|rfl|rfl|rfl|rfl<;>rfl
structure Vv (p:List bg) (v:Nat->Int):Prop where
 l0:11<=p.length
 con:∀j,j<8->p[j]? = some ⟨1,j,0,0,v j⟩
 beg:p[8]? = some ⟨7,0,0,0,1⟩
 bod:∀j,9<=j->j+1<p.length->cu p j=0\/cu p j=1\/cu p j=2\/cu p j=3\/cu p j=9\/cu p j=10\/cu p j=11\/cu p j=14\/cu p j=15
 abt:cu p (p.length-2)=9
 com:cu p (p.length-1)=8
def SD (v:Nat->Int):R8:=⟨IntKind.u64.wrap (v 0),IntKind.u64.wrap (v 1),IntKind.u64.wrap (v 2),IntKind.u64.wrap (v 3),IntKind.u64.wrap (v 4),IntKind.u64.wrap (v 5),IntKind.u64.wrap (v 6),IntKind.u64.wrap (v 7)⟩
variable {p:List bg} {v:Nat->Int}
theorem Vv.end_ (h:Vv p v):cQ p 8=p.length-1:=by
 have hl:=h.l0;obtain⟨h1,h2,h3,h4⟩:=jS (p:=p) (k:=9) (by omega);show jh p 9=_;rcases Nat.lt_trichotomy (jh p 9) (p.length-1) with e|e|e;have h5:=h4 (by omega);have:=h.bod (jh p 9) h1 (by omega);omega;exact e;exact absurd h.com (h3 (p.length-1) (by omega) e)
def AbD (s:aF):Prop:=s.aC=.gE (.bI 2)\/re s=true
theorem Io {s:aF}:re (fC s)=true:=by unfold fC;split<;>rfl
theorem Im {s:aF} (h:s.am.length=0):re (fK s)=true:=by unfold fK;rw [ay h];rfl
theorem So {s:aF} {nt:Nat} (hA:nj c k s) (hM:js c nt k M) (h:C0 s M) (cL:s.aA=1) (hb:s.gD=true) (ha:AbD s):re (bE s M).2.2.1=true:=by
 have hD:=hA.d;unfold bE;rcases ha with ha|ha;rw [ha];show re (lZ _ 2)=true;unfold lZ;rw [show (decide ((2:Int)=1) && decide (0<s.bp.bK.length))=false from rfl,ap (by decide)];rfl;have s8:=h.cd ha;unfold re at ha;cases hd:s.aC with
 | bq=>unfold aF.gD at hb;rw [hd] at hb;cases hb
 | cq=>
   rw [hd] at hD;obtain⟨_,_,t,ht,_⟩:=hD;rw [ht];dsimp only [gi];split;split<;>rfl;unfold re;dsimp only;rw [hd]
 | cG ck=>
   rw [hd] at hD;obtain⟨_,hL,_⟩:=hD;dsimp only [fO];have ho:s.am.length=0:=by
    have:=hL.2;rw [show s.fU=false by unfold aF.fU lm at *;rw [decide_eq_false (by omega)];rfl] at this;have:=mt this.2 (by decide);omega
   split;exact Im ho;split<;>rfl
 | bJ=>
   rw [hd] at hD;obtain⟨_,hL,_⟩:=hD;have hs:s.fU=false:=(by unfold aF.fU lm at *;rw [decide_eq_false (by omega)];rfl);have ho:s.am.length=0:=by
    have:=hL.2;rw [hs] at this;have:=mt this.2 (by decide);omega
   dsimp only [fb];rw [ap (by rw [hs];simp),ap (by rw [hs];decide)];exact Im ho
 | eT=>exact Io
 | dX p=>
   dsimp only [gU];split;exact Io;rfl
 | go=>rfl
 | _=>rw [hd] at ha;cases ha
structure RlB (p:List bg) (v:Nat->Int) (t:aV) (j:Nat):Prop where
 co:t.av=p
 fe:t.dx=none
 st:t.aT=false
 be:t.bB=8
 sv:t.jg=SD v
 pc:t.pc=j
 j8:8<=j
 jl:j+1<p.length
def RlS (A R:Nat) (p:List bg) (v:Nat->Int) (m:Nat) (t:aV) (M:Mm):Prop:=
 (t.av=p/\t.dx=none/\t.gP=none/\t.aT=false/\D3 M/\Tz M/\∃j:Nat,j<=8/\t.pc=j/\(∀i:Nat,i<j->t.df.bt i=IntKind.u64.wrap (v i))/\(8-j)+(10+3*A+R+4*p.length)<=m)
 \/ (∃s j,t.gP=some s/\RlB p v t j/\D3 M/\C0 s M/\(cu p j=9->s.gD=true->AbD s)/\(s.gD=false->9<=j)/\nu A R s+4*(p.length-j-if s.gD=true then 1 else 0)<=m)
 \/ (t.done=true/\t.df=SD v/\lm t.gA)
theorem AC {s:aF} (h:s.gD=false):s.aC=.bq:=Ny h
theorem K6 (hc:cx c) (hk:k<2^40) (hM:js c 1 k M) (hQ:Vv p v) (V3:c.ag.toNat<=A) (UU:c.reads.toNat<=R) {t:aV} {j:Nat} (hB:RlB p v t j) {s:aF} (hA:nj c k s) (cL:s.aA=1) (hZ:D3 M) (h:C0 s M) (hab:cu p j=9->AbD s) {m:Nat} (hm:nu A R s+4*(p.length-j-1)<=m+1) (W4:s.gD=false->nu A R s+4*(p.length-j-1)<=m):RlS A R p v m (t.vz M s).2.2.1 (t.vz M s).2.2.2:=by
 have key:D3 (bE s M).2.2.2/\C0 (bE s M).2.2.1 (bE s M).2.2.2/\nu A R (bE s M).2.2.1+4*(p.length-j-1)<=m/\(cu p j=9->re (bE s M).2.2.1=true):=by
  cases hb:s.gD;have e:bE s M=(aU.zero,0,s,M):=by unfold bE;rw [AC hb]
  rw [e];exact⟨hZ,h,W4 hb,λe9=>by
   rcases hab e9 with h1|h1;rw [AC hb] at h1;cases h1;exact h1⟩
  obtain⟨g1,g2,g3⟩:=Q4 hc hk hA hM hZ h cL hb V3 UU;exact⟨g1,g2,by omega,λe9=>So hA hM h cL hb (hab e9)⟩
 obtain⟨g1,g2,g3,g4⟩:=key;unfold aV.vz;dsimp only;generalize (bE s M).2.2.1=r at *;generalize (bE s M).2.2.2=M' at *;cases hb:r.gD;rw [ap (by decide)];have hi:=AC hb;unfold aV.rI;by_cases h2:r.aA=2;rw [ay h2,ap (by dsimp only;rw [hB.st];decide)];have s8:lm r.av:=g2.cd (by unfold re;rw [hi];simpa using h2);unfold aV.bI;rw [ap (by unfold lm at s8;omega)];have h1:¬r.av=1:=by unfold lm at s8;omega
 unfold aV.nf;rw [ap h1];refine .inr (.inr ⟨?_,hB.sv,s8⟩);have hl:=hQ.l0;have he:=hQ.end_;show decide (((cQ t.av t.bB.toNat:Nat):Int)+1=t.av.length)=true;rw [hB.co,hB.be];rw [show (8:Int).toNat=8 from rfl,he];exact decide_eq_true (by omega);rw [ap h2,ap (by dsimp only;rw [hB.st];decide)];have n9:cu p j≠9:=λe=>by
  have:=g4 e;unfold re at this;rw [hi] at this;exact h2 (by simpa using this)
 have wP:j+2<p.length:=by
  rcases Nat.lt_or_ge (j+2) p.length with e|e;exact e;exfalso;have:=hB.jl;exact n9 (by rw [show j=p.length-2 by omega];exact hQ.abt)
 have bI:∀t':aV,t'.av=p->t'.dx=none->t'.aT=false->t'.bB=8->t'.jg=SD v->t'.pc=j->t'.gP=some r->RlS A R p v m t'.m9 M':=λt' q1 q2 q3 q4 q5 q6 q7=>
  .inr (.inl ⟨r,j+1,q7,⟨q1,q2,q3,q4,q5,by show t'.pc+1=_;rw [q6];push_cast;rfl,by have:=hB.j8;omega,by omega⟩,g1,g2,λ_ e=>(by rw [hb] at e;cases e),λ_=>(by have:=hB.j8;omega),by rw [hb,ap (by decide)];omega⟩)
 by_cases o1:t.eX.op=10;rw [ay o1];exact bI _ hB.co hB.fe hB.st hB.be hB.sv hB.pc rfl;rw [ap o1];by_cases o2:t.eX.op=14;rw [ay o2];exact bI _ hB.co hB.fe hB.st hB.be hB.sv hB.pc rfl;rw [ap o2];exact bI _ hB.co hB.fe hB.st hB.be hB.sv hB.pc rfl;rw [ay rfl];exact .inr (.inl ⟨r,j,rfl,⟨hB.co,hB.fe,hB.st,hB.be,hB.sv,hB.pc,hB.j8,hB.jl⟩,g1,g2,λe _=>.inr (g4 e),λe=>(by rw [hb] at e;cases e),by rw [hb,ay rfl];exact g3⟩)
theorem TR {t:aV} {s:aF} {i:bg} (h:Pr s M) (hi:i.op=9\/i.op=10\/i.op=11\/i.op=14\/i.op=15):C0 (t.Bw i s) M/\nu A R (t.Bw i s)<=9+3*A+R/\((t.Bw i s).gD=false->nu A R (t.Bw i s)=6+3*A+R)/\(i.op=9->AbD (t.Bw i s)):=by
 have RG:=sx (A:=A) (R:=R) h;have hf:s.kF 1=true:=by unfold aF.kF;rw [h.i,h.st];rfl
 have Fw:s.aC=.bq->C0 s M/\nu A R s<=9+3*A+R/\(s.gD=false->nu A R s=6+3*A+R):=λ_=>⟨RG.1,by omega,λ_=>RG.2⟩
 have lc:∀l:D4,(∀av,l=.bI av->av=2)->C0 { s with aC:=.gE l } M/\nu A R { s with aC:=.gE l }<=9+3*A+R/\(({ s with aC:=.gE l }:aF).gD=false->nu A R { s with aC:=.gE l }=6+3*A+R):=λl hl=>
  ⟨⟨⟨h.tz,hl⟩,λe=>(by cases e),λ_=>h.rv,λe=>(by cases e)⟩,by simp only [nu];omega,λe=>(by cases e)⟩
 have rd:∀(a:Int) (u:yf),C0 (mA s a u) M/\nu A R (mA s a u)<=9+3*A+R/\((mA s a u).gD=false->nu A R (mA s a u)=6+3*A+R):=λa u=>
  ⟨⟨⟨h.tz,λe=>by simp at e⟩,λe=>(by cases e),λ_=>h.rv,λe=>(by cases e)⟩,by simp only [nu,mA];omega,λe=>(by cases e)⟩
 unfold aV.Bw;rcases hi with e|e|e|e|e;rw [ap (by omega),ap (by omega),ap (by omega),ap (by omega),ap (by omega),ay e];unfold Cq;rw [ay hf,ap (by decide)];obtain⟨q1,q2,q3⟩:=lc (.bI 2) (λav h=>by injection h with h;exact h.symm);exact⟨q1,q2,q3,λ_=>.inl rfl⟩;rw [ay e];unfold GP;rw [ay hf];split;obtain⟨q1,q2,q3⟩:=lc .rO (λav h=>by cases h);exact⟨q1,q2,q3,λ_=>by omega⟩;split;obtain⟨q1,q2,q3⟩:=lc (.take _) (λav h=>by cases h);exact⟨q1,q2,q3,λ_=>by omega⟩;obtain⟨q1,q2,q3⟩:=rd (t.cg i.b i.bL) .take;exact⟨q1,q2,q3,λ_=>by omega⟩;rw [ap (by omega),ay e];unfold E4;rw [ay hf];obtain⟨q1,q2,q3⟩:=lc (.kX _ _) (λav h=>by cases h);exact⟨q1,q2,q3,λ_=>by omega⟩;rw [ap (by omega),ap (by omega),ay e];unfold K4;rw [ay hf];split;obtain⟨q1,q2,q3⟩:=Fw h.i;exact⟨q1,q2,q3,λ_=>by omega⟩;split;obtain⟨q1,q2,q3⟩:=lc .yV (λav h=>by cases h);exact⟨q1,q2,q3,λ_=>by omega⟩;exact⟨⟨⟨h.tz,λe=>by simp at e⟩,λe=>(by cases e),λ_=>h.rv,λe=>(by cases e)⟩,by simp only [nu];omega,λe=>(by cases e),λ_=>by omega⟩
 rw [ap (by omega),ap (by omega),ap (by omega),ay e];unfold Kv;rw [ay hf];split;obtain⟨q1,q2,q3⟩:=lc .NB (λav h=>by cases h);exact⟨q1,q2,q3,λ_=>by omega⟩;split;obtain⟨q1,q2,q3⟩:=lc (.cU _ _) (λav h=>by cases h);exact⟨q1,q2,q3,λ_=>by omega⟩;obtain⟨q1,q2,q3⟩:=rd (s.cf.aR+ju s.cf (t.df.bt i.a)) (.cU _);exact⟨q1,q2,q3,λ_=>by omega⟩
theorem TN {r:R8} (h:∀i:Nat,i<8->r.bt i=IntKind.u64.wrap (v i)):r=SD v:=by
 obtain⟨r0,r1,r2,r3,r4,r5,r6,r7⟩:=r;have h0:=h 0 (by decide);have h1:=h 1 (by decide);have h2:=h 2 (by decide);have h3:=h 3 (by decide);have h4:=h 4 (by decide);have h5:=h 5 (by decide);have h6:=h 6 (by decide);have h7:=h 7 (by decide);have h0:r0=_:=h0;have h1:r1=_:=h1;have h2:r2=_:=h2;have h3:r3=_:=h3;have h4:r4=_:=h4;have h5:r5=_:=h5;have h6:r6=_:=h6;have h7:r7=_:=h7;subst h0 h1 h2 h3 h4 h5 h6 h7;rfl
theorem JV {t:aV} (mu:t.av=p) {j:Nat} (jV:t.pc=j) {x:bg} (h:p[j]? = some x):t.eX=x:=by
 unfold aV.eX aV.sQ;rw [mu,jV,Int.toNat_natCast,List.getD_eq_getElem?_getD,h];rfl
theorem HU {j:Nat} (hj:j<p.length):∃x,p[j]? = some x/\x.op=cu p j:=⟨p[j],List.getElem?_eq_getElem hj,by unfold cu;rw [List.getElem?_eq_getElem hj];rfl⟩
theorem Mz {eW:Int->Int->Int->Int} (hc:cx c) (hk:k<2^40) (hM:js c 1 k M) (hQ:Vv p v) (V3:c.ag.toNat<=A) (UU:c.reads.toNat<=R) {t:aV} (hT:j5 c 1 k t) {m:Nat} (h:RlS A R p v m t M) (hd:t.done=false) :
 ∃m',m'+1<=m/\RlS A R p v m' (t.ly eW M).2.2.1 (t.ly eW M).2.2.2:=by
 have hl:=hQ.l0;rcases h with ⟨mu,EG,nc,cL,hZ,hz,j,hj,jV,WV,hm⟩|⟨s,j,ha,hB,hZ,hI,hab,hj9,hm⟩|⟨h1,_⟩
 . by_cases h8:j=8;subst h8;have hi:=JV mu jV hQ.beg;have h1:=Uc hc hT.co;have e:t.ly eW M=(({ t with bB:=t.pc,jg:=t.df,gF:=t.gF+1 }:aV).ot).vz M (fy (ey t.cf t.id)).2:=by
    unfold aV.ly;rw [EG];dsimp only;rw [nc];dsimp only;unfold aV.lj;rw [hi,ay rfl,nc,EG]
   rw [e];refine⟨8+3*A+R+4*(p.length-9),by omega,K6 (t:=({ t with bB:=t.pc,jg:=t.df,gF:=t.gF+1 }:aV).ot) hc hk hM hQ V3 UU (j:=8) ⟨mu,EG,cL,jV,TN WV,jV,by omega,by omega⟩ h1.1 h1.2 hZ ?_ (λe=>?_) ?_ (λe=>?_)⟩;exact⟨hz,λ_ e he h2=>(by have he:=Option.some.inj he;subst he;cases h2),λe=>absurd rfl e,λe=>(by cases e)⟩;obtain⟨x,hx,WN⟩:=HU (p:=p) (j:=8) (by omega);rw [hQ.beg] at hx;have hx:=Option.some.inj hx;subst hx;rw [e] at WN;cases WN;have:nu A R (fy (ey t.cf t.id)).2=6+3*A+R+3:=rfl;omega;cases e;have hj8:j<8:=(by omega);have hi:=JV mu jV (hQ.con j hj8);have e:t.ly eW M=(gu.zero,[],t.gE eW t.eX,M):=by
    unfold aV.ly;rw [EG];dsimp only;rw [nc];dsimp only;unfold aV.lj;rw [hi,ap (show ¬(1:Int)=7 by decide),nc];dsimp only;rw [ap (show ¬((1:Int)=12\/(1:Int)=13) by decide),ap (show ¬(1:Int)=16 by decide)]
   rw [e];refine⟨(8-(j+1))+(10+3*A+R+4*p.length),by omega,.inl ⟨?_,?_,?_,?_,hZ,hz,j+1,by omega,?_,λi RH=>?_,Nat.le_refl _⟩⟩
   all_goals(dsimp only;rw [hi];unfold aV.gE;dsimp only;rw [ay rfl])
   exact mu;exact EG;exact nc;exact cL;show t.pc+1+(if _ then _ else _)=_;rw [ap (by simp),jV];push_cast;omega;show (t.df.set j (IntKind.u64.wrap (v j))).bt i=_;rw [R8.gs _ _ _ _ (by omega) (by omega)];split;rename_i e;rw [show i=j by omega];rename_i e;exact WV i (by omega)
 . have cF:j<p.length:=by have:=hB.jl;omega
   obtain⟨x,hx,WN⟩:=HU cF;have hi:=JV hB.co hB.pc hx;obtain⟨EE,_,_,_⟩:=hT.Bn s ha;have wP:=hB.jl;cases hb:s.gD
   . rw [ap (by rw [hb,hB.st];simp)] at EE;rw [hb,ap (by decide)] at hm;have h9:=hj9 hb;have hdi:=AC hb;have hD:=EE.ok.d;rw [hdi] at hD;have hp:Pr s M:=⟨hI.rv (by rw [hdi];intro e;cases e),by have:=hI.d;rw [hdi] at this;exact this.resolve_left (by rw [EE.st];decide),EE.st,hD (by rw [EE.st];decide),hdi⟩;have yN:=(sx (A:=A) (R:=R) hp).2;have kJ:=hQ.bod j h9 wP;rw [<-WN] at kJ;have n7:¬x.op=7:=(by omega);have e:t.ly eW M=t.lj eW M x:=by
      unfold aV.ly;rw [hB.fe];dsimp only;rw [ha];dsimp only;rw [hb,ap (by decide),hB.st,ap (by decide),hi]
     rw [e];unfold aV.lj;rw [ap n7,ha];dsimp only;by_cases hr:x.op=10\/x.op=11\/x.op=14\/x.op=15\/x.op=8\/x.op=9;rw [ay hr];obtain⟨q1,q2,q3,q4⟩:=TR (A:=A) (R:=R) (t:=t) (i:=x) hp (by omega);refine⟨8+3*A+R+4*(p.length-j-1),by omega,K6 hc hk hM hQ V3 UU (j:=j) ⟨hB.co,hB.fe,hB.st,hB.be,hB.sv,hB.pc,hB.j8,hB.jl⟩ (Jp hc EE.ok x) (yD EE.st x) hZ q1 (λe=>q4 (by omega)) (by omega) (λe=>?_)⟩;have:=q3 e;omega;rw [ap hr];have hjl2:j+2<p.length:=by
      rcases Nat.lt_or_ge (j+2) p.length with e|e;exact e;exfalso;have h2:=hQ.abt;rw [show p.length-2=j by omega,<-WN] at h2;omega
     have PL:x.op=0\/x.op=1\/x.op=2\/x.op=3:=(by omega);have UA:(t.gE eW x).av=p/\(t.gE eW x).dx=none/\(t.gE eW x).aT=false/\(t.gE eW x).bB=8/\(t.gE eW x).jg=SD v/\(t.gE eW x).pc=((j+1:Nat):Int)/\(t.gE eW x).gP=some s:=by
      have LP:t.pc+1+(if x.op=4\/(x.op=5/\t.df.bt x.a=0)\/(x.op=6/\t.df.bt x.a≠0) then x.bL else 0)=((j+1:Nat):Int):=by
       rw [ap (by omega),hB.pc];push_cast;omega
      unfold aV.gE;rw [LP];refine⟨?_,?_,?_,?_,?_,rfl,?_⟩
      all_goals(rcases PL with e|e|e|e)
      all_goals(simp only [e,aV.to,aV.fp];simp [hB.co,hB.fe,hB.st,hB.be,hB.sv,ha])
     obtain⟨w1,w2,w3,w4,w5,w6,w7⟩:=UA;exact⟨nu A R s+4*(p.length-(j+1)),by omega,.inr (.inl ⟨s,j+1,w7,⟨w1,w2,w3,w4,w5,w6,by omega,by omega⟩,hZ,hI,λ_ e=>(by rw [hb] at e;cases e),λ_=>by omega,by rw [hb,ap (by decide)];exact Nat.le_refl _⟩)⟩
   rw [ay (.inl hb)] at EE;rw [hb,ay rfl] at hm;have e:t.ly eW M=t.vz M s:=by
    unfold aV.ly;rw [hB.fe];dsimp only;rw [ha];dsimp only;rw [hb,ay rfl]
   rw [e];exact⟨nu A R s+4*(p.length-j-1)-1,by omega,K6 hc hk hM hQ V3 UU hB EE.ok EE.st hZ hI (λe=>hab e hb) (by omega) (λe=>by rw [hb] at e;cases e)⟩
 rw [hd] at h1;cases h1
end
section
open Go.Proofs Go
variable [Gl]
theorem ep.Gn {P:Program} {A:AW} {t e:TypeId} {i:TypeInfo} {z:Value} {v:Value} {size m:Nat} {cs kD:List Value} {F:HP} (n:Nat)
 (hu:P.underlying t=some (.slice e)) (hi:P.info? e=some i) (hz:i.zero=some z) (gf:i.size=size) (nz:z.cells.size=size) (h0:0<size)
 (hn:A.bt n=some (.cells kD true size)) (Ai:kD.length=size) (mS:kD.all Value.oneCell'=true) (h:bn A (ep size v m cs*F)) (b6:m<2 ^ 30) (yS:i.bytes<=2 ^ 16) (hw:A.Wf) :
 ∃v' A',eK P A t t v (.slice (some ⟨n,0,none⟩) 1 1)=some (v',A')/\bn A' (ep size v' (m+1) (cs++kD)*F)/\A'.Wf/\A.next<=A'.next:=by
 subst gf;have iN:ga A i.size (.slice (some ⟨n,0,none⟩) 1 1)=some (1,kD):=by
  have e1:kD.take i.size=kD:=List.take_of_length_le (by omega);simp [ga,AW.cD,hn,Ai,e1]
 have hb:(m+1)*i.bytes<=140737488355328:=by
  have h1:=Nat.mul_le_mul (show m+1<=2 ^ 30 by omega) yS;omega
 have ks:m+1<=140737488355328:=by omega
 rcases ep.cases h with ⟨rfl,rfl,rfl,h2⟩|⟨b,off,c,cD,rfl,h1,h2,h3,h4⟩
 . refine⟨.slice (some ⟨A.next,0,none⟩) (0+1) (0+1),A.alloc (.cells ([]++kD) true i.size),?_,?_,hw.alloc _,by simp⟩
   . simp only [eK,hu,hi,hz,iN,fQ];rw [ay ⟨nz,h0,trivial⟩,ap (by omega),ay ⟨ks,hb,mS⟩]
     try simp
   have:=h2.alloc hw (.cells ([]++kD) true i.size);have h9:bn (A.alloc (.cells ([]++kD) true i.size)) (pt A.next (.cells kD true i.size)*F):=this;exact ep.mk (size:=i.size) (n:=1) (off:=0) (c:=1) (by simp) (by simp [Ai]) (by simp [<-Ai]) h9
 have hg:=h4.bt;have cF:=hw.lt hg;have iR:cs.length=m*i.size:=by rw [h3,List.length_take,List.length_drop];omega
 refine⟨.slice (some ⟨A.next,0,none⟩) (m+1) (m+1),(A.set b none).alloc (.cells ((cD.drop off).take (m*i.size)++kD) true i.size),?_,?_,
  (hw.set none cF).alloc _,by simp⟩
 simp only [eK,hu,hi,hz,iN,fQ,hg];rw [ay ⟨nz,h0,trivial⟩,ap (by simp),ay ⟨trivial,h2⟩];simp only;rw [ap (by omega),ay ⟨ks,hb,mS⟩];have h5:=(h4.JQ).alloc (hw.set none cF) (.cells ((cD.drop off).take (m*i.size)++kD) true i.size);have h6:bn ((A.set b none).alloc (.cells ((cD.drop off).take (m*i.size)++kD) true i.size)) (pt A.next (.cells (cs++kD) true i.size)*F):=by
  have:=h5;rw [<-h3] at this ⊢;exact this
 have h7:(cs++kD).length=(m+1)*i.size:=by rw [List.length_append,iR,Ai,Nat.add_mul,Nat.one_mul]
 refine ep.mk (Nat.le_refl _) (by omega) ?_ h6;rw [List.drop_zero,List.take_of_length_le (by omega)]
theorem ep.Sh {P:Program} {A:AW} {t e:TypeId} {i:TypeInfo} {z:Value} {v x:Value} {size m m2:Nat} {cs kD:List Value} {F:HP}
 (hu:P.underlying t=some (.slice e)) (hi:P.info? e=some i) (hz:i.zero=some z) (gf:i.size=size) (nz:z.cells.size=size) (h0:0<size)
 (hx:gZ A size x m2 kD) (mS:kD.all Value.oneCell'=true) (h:bn A (ep size v m cs*F)) (b6:m+m2<2 ^ 30) (yS:i.bytes<=2 ^ 16) (hw:A.Wf) :
 ∃v' A',eK P A t t v x=some (v',A')/\bn A' (ep size v' (m+m2) (cs++kD)*F)/\A'.Wf/\A.next<=A'.next:=by
 subst gf;have iN:ga A i.size x=some (m2,kD):=gZ.mn hx;have Ai:kD.length=m2*i.size:=hx.length;have hb:(m+m2)*i.bytes<=140737488355328:=by
  have h1:=Nat.mul_le_mul (show m+m2<=2 ^ 30 by omega) yS;omega
 have ks:m+m2<=140737488355328:=by omega
 by_cases hm:m2=0;subst hm;have M3:kD=[]:=List.eq_nil_of_length_eq_zero (by omega);subst M3;refine⟨v,A,?_,by simpa using h,hw,Nat.le_refl _⟩;have holds:∃b,fQ A i.size v=some (b,m,cs):=by
  rcases ep.cases h with ⟨rfl,rfl,rfl,h2⟩|⟨b,off,c,cD,rfl,h1,h2,h3,h4⟩;exact⟨none,rfl⟩;refine⟨some ⟨b,off,none⟩,?_⟩;simp [fQ,h4.bt,h2,h3]
 obtain⟨b,xH⟩:=holds;simp [eK,hu,hi,hz,nz,h0,iN,xH];rcases ep.cases h with ⟨rfl,rfl,rfl,h2⟩|⟨b,off,c,cD,rfl,h1,h2,h3,h4⟩;refine⟨.slice (some ⟨A.next,0,none⟩) (0+m2) (0+m2),A.alloc (.cells kD true i.size),?_,?_,hw.alloc _,by simp⟩;simp only [eK,hu,hi,hz,iN,fQ];rw [ay ⟨nz,h0,trivial⟩,ap hm,ay ⟨ks,hb,mS⟩];simp;have h9:=h2.alloc hw (.cells kD true i.size);exact ep.mk (size:=i.size) (n:=0+m2) (off:=0) (c:=0+m2) (Nat.le_refl _) (by simp [Ai]) (by simp [<-Ai]) h9;have hg:=h4.bt;have cF:=hw.lt hg;have iR:cs.length=m*i.size:=by rw [h3,List.length_take,List.length_drop];omega
 refine⟨.slice (some ⟨A.next,0,none⟩) (m+m2) (m+m2),(A.set b none).alloc (.cells ((cD.drop off).take (m*i.size)++kD) true i.size),?_,?_,
  (hw.set none cF).alloc _,by simp⟩
 simp only [eK,hu,hi,hz,iN,fQ,hg];rw [ay ⟨nz,h0,trivial⟩,ap (by simp),ay ⟨trivial,h2⟩];simp only;rw [ap hm,ay ⟨ks,hb,mS⟩];have h5:=(h4.JQ).alloc (hw.set none cF) (.cells ((cD.drop off).take (m*i.size)++kD) true i.size);have h6:bn ((A.set b none).alloc (.cells ((cD.drop off).take (m*i.size)++kD) true i.size)) (pt A.next (.cells (cs++kD) true i.size)*F):=by
  have:=h5;rw [<-h3] at this ⊢;exact this
 have h7:(cs++kD).length=(m+m2)*i.size:=by rw [List.length_append,iR,Ai,Nat.add_mul]
 refine ep.mk (Nat.le_refl _) (by omega) ?_ h6;rw [List.drop_zero,List.take_of_length_le (by omega)]
section
variable {P:Program} {S:AW->Prop} {K:Fr->AW->Prop} {gI:List zg} {a:Fr} {A:AW} {d:Option Tmp} {m:Nat} {x y:Operand} {t e:TypeId} {i:TypeInfo} {z:Value} {n size:Nat} {v:Value} {cs kD:List Value} {L K':List It}
theorem OE {k':Value->AW->Prop} (hu:P.underlying t=some (.slice e)) (hi:P.info? e=some i) (hz:i.zero=some z) (gf:i.size=size) (nz:z.cells.size=size) (h0:0<size) (yS:i.bytes<=2 ^ 16)
 (e1:iO a x=v) (e2:iO a y=.slice (some ⟨n,0,none⟩) 1 1) (hw:A.Wf) (hS:ah A L) (hp:aB L (.h (ep size v m cs)) K') (hn:A.bt n=some (.cells kD true size)) (Ai:kD.length=size) (mS:kD.all Value.oneCell'=true) (b6:m<2 ^ 30)
 (hk:∀o c A',ah A' (.h (ep size (.slice o (m+1) c) (m+1) (cs++kD))::K')->A'.Wf->A.next<=A'.next->k' (.slice o (m+1) c) A') :
 hY P (.call ⟨.builtin .append,#[x,y],#[t,t]⟩) (iO a) A k':=by
 have h1:bn A (ep size v m cs*aL K'):=by
  unfold ah at hS;rw [hp.aL] at hS;exact hS
 obtain⟨v',A',e3,h2,h3,h4⟩:=ep.Gn (P:=P) (t:=t) n hu hi hz gf nz h0 hn Ai mS h1 b6 yS hw;obtain⟨o,c,h5,_⟩:=(ep.is h2).dO;subst h5;exact y6 e1 e2 e3 (hk o c A' h2 h3 h4)
theorem O6 (hu:P.underlying t=some (.slice e)) (hi:P.info? e=some i) (hz:i.zero=some z) (gf:i.size=size) (nz:z.cells.size=size) (h0:0<size) (yS:i.bytes<=2 ^ 16)
 (e1:iO a x=v) (e2:iO a y=.slice (some ⟨n,0,none⟩) 1 1) (hw:A.Wf) (hS:ah A L) (hp:aB L (.h (ep size v m cs)) K') (hn:A.bt n=some (.cells kD true size)) (Ai:kD.length=size) (mS:kD.all Value.oneCell'=true) (b6:m<2 ^ 30)
 (hs:∀A',ah A' K'->S A')
 (hk:∀o c A',ah A' (.h (ep size (.slice o (m+1) c) (m+1) (cs++kD))::K')->A'.Wf->A.next<=A'.next->aW P S K gI (ew a d (.slice o (m+1) c)) A') :
 aW P S K (⟨d,.call ⟨.builtin .append,#[x,y],#[t,t]⟩,none,3⟩::gI) a A:=by
 unfold aW;rw [ay (by simp)];exact OE hu hi hz gf nz h0 yS e1 e2 hw hS hp hn Ai mS b6 λo c A' h1 h2 h3=>⟨hs A' h1.tail,hk o c A' h1 h2 h3⟩
end
def lT.cells (o:lT):List Value:=[.int .i64 o.pc,.int .i64 o.gd,.int .u64 o.val]
def oY (l:List lT):List Value:=l.flatMap lT.cells
def jf (v:Value) (l:List lT):HP:=ep 3 v l.length (oY l)
theorem OT (l:List lT) (o:lT):oY l++o.cells=oY (l++[o]):=by simp [oY]
section
variable {S:AW->Prop} {K:Fr->AW->Prop} {gI:List zg} {a:Fr} {A:AW} {d:Option Tmp} {x y:Operand} {l:List lT} {n:Nat} {v:Value} {L K' K2:List It} {y1 y2 y3:Int}
theorem Ex (e1:iO a x=v) (e2:iO a y=.slice (some ⟨n,0,none⟩) 1 1) (hw:A.Wf) (hS:ah A L) (hp:aB L (.h (jf v l)) K') (hn:A.bt n=some (.cells [.int .i64 y1,.int .i64 y2,.int .u64 y3] true 3)) (b6:l.length<2 ^ 30)
 (hs:∀A',ah A' K'->S A')
 (hk:∀o c A',ah A' (.h (jf (.slice o (l.length+1) c) (l++[⟨y1,y2,y3⟩]))::K')->A'.Wf->A.next<=A'.next->aW Tryz.prog S K gI (ew a d (.slice o (l.length+1) c)) A') :
 aW Tryz.prog S K (⟨d,.call ⟨.builtin .append,#[x,y],#[80,80]⟩,none,3⟩::gI) a A:=by
 refine O6 (P:=Tryz.prog) (size:=3) (m:=l.length) (cs:=oY l) Tryz.underlying80 Tryz.info83 Tryz.zero83 rfl rfl (by omega) (by decide) e1 e2 hw hS hp hn rfl rfl b6 hs λo c A' h1 h2 h3=>hk o c A' ?_ h2 h3;have e:jf (.slice o (l.length+1) c) (l++[⟨y1,y2,y3⟩])=ep 3 (.slice o (l.length+1) c) (l.length+1) (oY l++[.int .i64 y1,.int .i64 y2,.int .u64 y3]):=by
  unfold jf;rw [<-OT,List.length_append];rfl
 rw [e];exact h1
theorem Lu (l:List lT):(oY l).all Value.oneCell'=true:=by
 rw [List.all_eq_true];intro v hv;obtain⟨x,_,hx⟩:=List.mem_flatMap.1 hv;simp only [lT.cells,List.mem_cons,List.not_mem_nil,or_false] at hx;rcases hx with rfl|rfl|rfl<;>rfl
theorem O7 {v2:Value} {l2:List lT} (e1:iO a x=v) (e2:iO a y=v2) (hw:A.Wf) (hS:ah A L) (hp:aB L (.h (jf v l)) K') (LP:aB L (.h (jf v2 l2)) K2) (b6:l.length+l2.length<2 ^ 30)
 (hs:∀A',ah A' K'->S A')
 (hk:∀o c A',ah A' (.h (jf (.slice o (l.length+l2.length) c) (l++l2))::K')->A'.Wf->A.next<=A'.next->aW Tryz.prog S K gI (ew a d (.slice o (l.length+l2.length) c)) A') :
 aW Tryz.prog S K (⟨d,.call ⟨.builtin .append,#[x,y],#[80,80]⟩,none,3⟩::gI) a A:=by
 have h1:bn A (ep 3 v l.length (oY l)*aL K'):=by
  have mT:=hS;unfold ah at mT;rw [hp.aL] at mT;exact mT
 have h2:gZ A 3 v2 l2.length (oY l2):=by
  have mT:=hS;unfold ah at mT;rw [LP.aL] at mT;exact ep.is mT
 obtain⟨v',A',e3,h3,h4,h5⟩:=ep.Sh (P:=Tryz.prog) (size:=3) (t:=80) Tryz.underlying80 Tryz.info83 Tryz.zero83 rfl rfl (by omega) h2 (Lu l2) h1 b6 (by decide) hw;obtain⟨o,c,h6,_⟩:=(ep.is h3).dO;subst h6;have h7:ah A' (.h (jf (.slice o (l.length+l2.length) c) (l++l2))::K'):=by
  have e:jf (.slice o (l.length+l2.length) c) (l++l2)=ep 3 (.slice o (l.length+l2.length) c) (l.length+l2.length) (oY l++oY l2):=by
   unfold jf;rw [List.length_append,show oY (l++l2)=oY l++oY l2 by simp [oY]]
  show bn A' (jf (.slice o (l.length+l2.length) c) (l++l2)*aL K');rw [e];exact h3
 unfold aW;rw [ay (by simp)];exact y6 e1 e2 e3 ⟨hs A' h7.tail,hk o c A' h7 h4 h5⟩
end
structure vB where
 bB:Int
 jg:R8
 gF:Int
 aT:Bool
 eU:Int
 cf:bH
 id:Int
 nt:Int
 pc:Int
 df:R8
 gA:Int
 done:Bool
 hU:Int
structure NJ where
 va:Value
 vs:Value
 vf:Value
 vd:Value
 vc:Value
 vl:Value
 vo:Value
def aV.d (t:aV):vB:=⟨t.bB,t.jg,t.gF,t.aT,t.eU,t.cf,t.id,t.nt,t.pc,t.df,t.gA,t.done,t.hU⟩
def lW (d:vB) (w:NJ):List Value:=[w.va,.int .i64 d.bB,.int .u64 d.jg.r0,.int .u64 d.jg.r1,.int .u64 d.jg.r2,.int .u64 d.jg.r3,.int .u64 d.jg.r4,.int .u64 d.jg.r5,.int .u64 d.jg.r6,.int .u64 d.jg.r7,.int .i64 d.gF,w.vs,.bool d.aT,.int .i64 d.eU,w.vf,w.vd,.int .i64 d.cf.aR,.int .i64 d.cf.am,.int .i64 d.cf.base,.int .i64 d.cf.c0,.int .i64 d.cf.c1,.int .i64 d.cf.c2,.int .i64 d.cf.c3,.int .i64 d.cf.reads,.int .i64 d.cf.cM,.int .i64 d.cf.ag,.int .i64 d.cf.ar,.int .i64 d.cf.aw,.bool d.cf.aT,.int .i64 d.id,.int .i64 d.nt,w.vc,.int .i64 d.pc,.int .u64 d.df.r0,.int .u64 d.df.r1,.int .u64 d.df.r2,.int .u64 d.df.r3,.int .u64 d.df.r4,.int .u64 d.df.r5,.int .u64 d.df.r6,.int .u64 d.df.r7,.int .i64 d.gA,.bool d.done,w.vl,w.vo,.int .i64 d.hU]
abbrev oT (d:vB) (w:NJ):dG:=.cells (lW d w) true 1
variable {d:vB} {w:NJ}
@[simp] theorem thC_len:(lW d w).length=46:=rfl
@[simp] theorem thC_g0:(lW d w)[0]? = some (w.va):=rfl
@[simp] theorem thC_g1:(lW d w)[1]? = some (.int .i64 d.bB):=rfl
@[simp] theorem thC_g10:(lW d w)[10]? = some (.int .i64 d.gF):=rfl
@[simp] theorem thC_g11:(lW d w)[11]? = some (w.vs):=rfl
@[simp] theorem thC_g12:(lW d w)[12]? = some (.bool d.aT):=rfl
@[simp] theorem thC_g13:(lW d w)[13]? = some (.int .i64 d.eU):=rfl
@[simp] theorem thC_g14:(lW d w)[14]? = some (w.vf):=rfl
@[simp] theorem thC_g15:(lW d w)[15]? = some (w.vd):=rfl
@[simp] theorem thC_g29:(lW d w)[29]? = some (.int .i64 d.id):=rfl
@[simp] theorem thC_g30:(lW d w)[30]? = some (.int .i64 d.nt):=rfl
@[simp] theorem thC_g31:(lW d w)[31]? = some (w.vc):=rfl
@[simp] theorem thC_g32:(lW d w)[32]? = some (.int .i64 d.pc):=rfl
@[simp] theorem thC_g41:(lW d w)[41]? = some (.int .i64 d.gA):=rfl
@[simp] theorem thC_g42:(lW d w)[42]? = some (.bool d.done):=rfl
@[simp] theorem thC_g43:(lW d w)[43]? = some (w.vl):=rfl
@[simp] theorem thC_g44:(lW d w)[44]? = some (w.vo):=rfl
@[simp] theorem thC_g45:(lW d w)[45]? = some (.int .i64 d.hU):=rfl
@[simp] theorem thC_g16:(lW d w)[16]? = some (.int .i64 d.cf.aR):=rfl
@[simp] theorem thC_g28:(lW d w)[28]? = some (.bool d.cf.aT):=rfl
@[simp] theorem thC_cf:((lW d w).drop 16).take 13=[.int .i64 d.cf.aR,.int .i64 d.cf.am,.int .i64 d.cf.base,.int .i64 d.cf.c0,.int .i64 d.cf.c1,.int .i64 d.cf.c2,.int .i64 d.cf.c3,.int .i64 d.cf.reads,.int .i64 d.cf.cM,.int .i64 d.cf.ag,.int .i64 d.cf.ar,.int .i64 d.cf.aw,.bool d.cf.aT]:=rfl
@[simp] theorem thC_rg:((lW d w).drop 33).take 8=d.df.cells:=rfl
@[simp] theorem thC_sv:((lW d w).drop 2).take 8=d.jg.cells:=rfl
@[simp] theorem thC_st:((lW d w).drop 32).take 11=.int .i64 d.pc::(d.df.cells++[.int .i64 d.gA,.bool d.done]):=rfl
@[simp] theorem thC_s0 {x:Value}:(lW d w).set 0 (x)=lW d { w with va:=x }:=rfl
@[simp] theorem thC_s1 {x:Int}:(lW d w).set 1 (.int .i64 x)=lW { d with bB:=x } w:=rfl
@[simp] theorem thC_s10 {x:Int}:(lW d w).set 10 (.int .i64 x)=lW { d with gF:=x } w:=rfl
@[simp] theorem thC_s11 {x:Value}:(lW d w).set 11 (x)=lW d { w with vs:=x }:=rfl
@[simp] theorem thC_s12 {x:Bool}:(lW d w).set 12 (.bool x)=lW { d with aT:=x } w:=rfl
@[simp] theorem thC_s13 {x:Int}:(lW d w).set 13 (.int .i64 x)=lW { d with eU:=x } w:=rfl
@[simp] theorem thC_s14 {x:Value}:(lW d w).set 14 (x)=lW d { w with vf:=x }:=rfl
@[simp] theorem thC_s15 {x:Value}:(lW d w).set 15 (x)=lW d { w with vd:=x }:=rfl
@[simp] theorem thC_s32 {x:Int}:(lW d w).set 32 (.int .i64 x)=lW { d with pc:=x } w:=rfl
@[simp] theorem thC_s41 {x:Int}:(lW d w).set 41 (.int .i64 x)=lW { d with gA:=x } w:=rfl
@[simp] theorem thC_s42 {x:Bool}:(lW d w).set 42 (.bool x)=lW { d with done:=x } w:=rfl
@[simp] theorem thC_s44 {x:Value}:(lW d w).set 44 (x)=lW d { w with vo:=x }:=rfl
@[simp] theorem thC_s45 {x:Int}:(lW d w).set 45 (.int .i64 x)=lW { d with hU:=x } w:=rfl
@[simp] theorem thC_ssv {r:R8}:eD (lW d w) 2 r.cells=lW { d with jg:=r } w:=rfl
@[simp] theorem thC_srg {r:R8}:eD (lW d w) 33 r.cells=lW { d with df:=r } w:=rfl
theorem oh {i:Int} (h:0<=i/\i<8):(lW d w)[33+i.toNat]? = some (.int .u64 (d.df.bt i)):=by
 have h1:i=0\/i=1\/i=2\/i=3\/i=4\/i=5\/i=6\/i=7:=by omega
 rcases h1 with rfl|rfl|rfl|rfl|rfl|rfl|rfl|rfl<;>rfl
theorem vK {i x:Int} (h:0<=i/\i<8):(lW d w).set (33+i.toNat) (.int .u64 x)=lW { d with df:=d.df.set i x } w:=by
 have h1:i=0\/i=1\/i=2\/i=3\/i=4\/i=5\/i=6\/i=7:=by omega
 rcases h1 with rfl|rfl|rfl|rfl|rfl|rfl|rfl|rfl<;>rfl
def E1 (v:Value) (l:List bg):HP:=ep 5 v l.length (l.flatMap ao)
theorem u9 {ι:Type} {φ ψ:ι->Prop} {x:ι} (h1:φ x) (h2:ψ x):∃x,φ x/\ψ x:=⟨x,h1,h2⟩
theorem ah.EA {A:AW} {L K:List It} {size n:Nat} {v:Value} {cs:List Value} (h:ah A L) (hp:aB L (.h (ep size v n cs)) K):gZ A size v n cs:=by
 unfold ah at h;rw [hp.aL] at h;exact ep.is h
end
section
abbrev LA:List (Nat×Nat):=[(0,0),(1,0),(2,0),(3,0),(4,0),(5,0),(6,0),(7,0),(8,0),(9,0),(10,0),(11,0),(12,0),(13,2),(14,3),(15,0),(16,0),(17,3)]
open T7
variable [Gl]
theorem vJ (b:Nat) (d:vB) (va vs vf vd vl vo:Value) (o:Option Addr) (n c:Nat) (pc:Int):bf Tryz.prog 32 [pv b,.int .i64 pc] [.at b (oT d ⟨va,vs,vf,vd,.slice o n c,vl,vo⟩)] (λ_=>True)
 (λ_=>[.at b (oT { d with pc:=pc,done:=decide (pc=n) } ⟨va,vs,vf,vd,.slice o n c,vl,vo⟩)]):=by
 intro A F hw hS;refine aH Tryz.func32 λ_=>?_;dsimp only [aa,af] at hS;have hq:=eO hS hw;revert hq hS hw;refine W cy (J1 bF) ?_<;>(unhygienic intros);refine⟨_,by first|rfl|(simp;rfl),by first|trivial|rfl|(simp;done),?_⟩;apply ah.bI
 (·exact sA)
 (·first|exact pA|exact kA)
theorem jM (b:Nat) (d:vB) (va vs vf vd vl vo:Value) (o:Option Addr) (n c:Nat) (h:0<=d.pc/\d.pc<2^40):bf Tryz.prog 68 [pv b] [.at b (oT d ⟨va,vs,vf,vd,.slice o n c,vl,vo⟩)] (λ_=>True)
 (λ_=>[.at b (oT { d with pc:=d.pc+1,done:=decide (d.pc+1=n) } ⟨va,vs,vf,vd,.slice o n c,vl,vo⟩)]):=by
 intro A F hw hS;refine aH Tryz.func68 λ_=>?_;dsimp only [aa,af] at hS;have hq:=eO hS hw;have LL:IntKind.i64.wrap (d.pc+1)=d.pc+1:=an (by omega) (by omega);revert hq hS hw;refine W (J1 (vJ b d va vs vf vd vl vo o n c (d.pc+1))) (J2 LL bF) ?_<;>(unhygienic intros);refine⟨_,by first|rfl|(simp;rfl),by first|trivial|rfl|(simp;done),?_⟩;apply ah.bI
 (·exact sA)
 (·first|exact pA|exact kA)
theorem iB (b:Nat) (d:vB) (w:NJ) (l:List lT) (kd v:Int) (hl:l.length<2^30):d8 Tryz.prog 67 [pv b,.int .i64 kd,.int .u64 v] [.at b (oT d w),.h (jf w.vo l)] (λ_ _=>True)
 (λvo=>[.at b (oT d { w with vo:=vo }),.h (jf vo (l++[⟨d.pc,kd,v⟩]))]):=by
 intro A F hw hS;refine aH Tryz.func67 λ_=>?_;dsimp only [aa,af] at hS;have hq:=eO hS hw
 repeat' (first|(with_reducible apply Ex;(·first|(simp;done)|(simp;rfl));(·first|(simp;done)|(simp;rfl));(·exact wA);(·exact sA);(·first|exact pA|exact kA);(·first|exact AW.dw _ _|((repeat' (first|apply aB.z|apply aB.s));done)|(simp [hq];(repeat' (first|rfl|refine⟨rfl,?_⟩));done)|(simp;done)|(simp;rfl)|(simp [hq];done)|(simp [hq];rfl));(·first|omega|(simp;omega));(·intro _ _;trivial);rintro _ _ _ hS hw _;(try dsimp only [AW.bx] at hS);have hq:=eO hS hw)|(refine jK λR hR=>?_;simp [an,ax,hq,AW.ab,aD];try simp (disch:=omega) only [ay,ap,an,ax])|(refine hR _ _ ?_;clear hR R)|(refine hK _ _ ?_;clear hK K)|refine nx ?_|refine wn λK hK=>?_|simp only [wS,LA]|refine wl Tryz.mx LA (by decide +kernel) λK hK=>?_|(show cB _ _ _ _ _ _;refine nx ?_)|(refine wc rfl (λhc=>?_) (λhc=>?_)<;>(try simp at hc)<;>(try omega))|(refine ib (λhc=>?_) (λhc=>?_)<;>(try omega)<;>(try simp (disch:=omega) only [ay,ap])))
 refine⟨_,by first|rfl|(simp;rfl),?_⟩;apply u9
 (·first|trivial|rfl|(simp;done))
 apply ah.bI
 (·exact sA)
 (·first|exact pA|exact kA)
theorem sL (b:Nat) (d:vB) (w:NJ) (r bL:Int) (h:0<=r/\r<8) (A:AW) (hg:A.bt b=some (oT d w)):et 139 [pv b,.int .i64 r,.int .i64 bL] A (.int .u64 (IntKind.u64.wrap (d.df.bt r+IntKind.u64.wrap bL))):=by
 refine aH Tryz.func139 λ_=>?_;have ym:=oh (d:=d) (w:=w) h;refine W cy (J5 hg ym h.1 h.2 bF) ?_<;>intros;exact⟨_,by first|rfl|(simp;rfl),rfl,rfl⟩
def je (i:bg):Value:=.agg #[.int .i64 i.op,.int .i64 i.a,.int .i64 i.b,.int .i64 i.c,.int .i64 i.bL]
def nG (d:vB) (i:bg):Int:=if i.op=12 then IntKind.u64.wrap (d.df.bt i.b+IntKind.u64.wrap i.bL) else IntKind.u64.wrap (d.df.bt i.a+IntKind.u64.wrap i.bL)
theorem Fd (b:Nat) (d:vB) (w:NJ) (i:bg) (ha:i.op=12\/i.op=13) (h:bT i=0) (A:AW) (hg:A.bt b=some (oT d w)):et 76 [pv b,je i] A (.int .u64 (nG d i)):=by
 refine az.rR (V:=.int .u64 (nG d i)) (by simp) (λhw=>?_) (by kernel_rfl);refine aH Tryz.func76 λ_=>?_;obtain⟨r1,r2,_⟩:=lB h;have cF:=hw.lt hg;have gl:¬b=A.next:=by omega
 unfold je nG;rcases ha with h2|h2
 . have hb:=r2 (by rw [h2];rfl)
   repeat' (first|(refine jK λR hR=>?_;simp [an,ax,hg,h2,gl,AW.ab,aD];try simp (disch:=omega) only [ay,ap,an,ax])|(refine hR _ _ ?_;clear hR R)|(refine hK _ _ ?_;clear hK K)|refine nx ?_|refine wn λK hK=>?_|simp only [wS]|(refine bV (sL b d w i.b i.bL hb _ ((AW.fz _ _ gl).trans hg)) ?_;rintro _ _ ⟨rfl,rfl⟩ _ _)|(show cB _ _ _ _ _ _;refine nx ?_)|(refine wc rfl (λhc=>?_) (λhc=>?_)<;>(try simp at hc)<;>(try omega))|(refine ib (λhc=>?_) (λhc=>?_)<;>(try omega)<;>(try simp (disch:=omega) only [ay,ap])))
   exact⟨_,by first|(simp;done)|(simp;rfl),by simp [h2],AW.le.alloc _ _⟩
 have hb:=r1 (by rw [h2];rfl)
 repeat' (first|(refine jK λR hR=>?_;simp [an,ax,hg,h2,gl,AW.ab,aD];try simp (disch:=omega) only [ay,ap,an,ax])|(refine hR _ _ ?_;clear hR R)|(refine hK _ _ ?_;clear hK K)|refine nx ?_|refine wn λK hK=>?_|simp only [wS]|(refine bV (sL b d w i.a i.bL hb _ ((AW.fz _ _ gl).trans hg)) ?_;rintro _ _ ⟨rfl,rfl⟩ _ _)|(show cB _ _ _ _ _ _;refine nx ?_)|(refine wc rfl (λhc=>?_) (λhc=>?_)<;>(try simp at hc)<;>(try omega))|(refine ib (λhc=>?_) (λhc=>?_)<;>(try omega)<;>(try simp (disch:=omega) only [ay,ap])))
 exact⟨_,by first|(simp;done)|(simp;rfl),by simp [h2],AW.le.alloc _ _⟩
end
section
abbrev Lz:List (Nat×Nat):=[(0,0),(1,0),(2,0),(3,0),(4,0),(5,0),(6,0),(7,0),(8,3)]
abbrev Ly:List (Nat×Nat):=[(0,0),(1,0),(2,0),(3,0),(4,0),(5,0),(6,0),(7,0),(8,0),(9,0),(10,0),(11,0),(12,0),(13,0),(14,2),(15,3),(16,0),(17,0),(18,0),(19,3)]
abbrev Lx:List (Nat×Nat):=[(0,0),(1,0),(2,0),(3,0),(4,0),(5,0),(6,0),(7,0),(8,0),(9,0),(10,3),(11,0),(12,0),(13,0),(14,3),(15,0),(16,0),(17,0),(18,3)]
abbrev uu:List (Nat×Nat):=[(0,0),(1,0),(2,0),(3,0),(4,0),(5,0),(6,0),(7,0),(8,0),(9,0),(10,2),(11,3)]
abbrev ut:List (Nat×Nat):=[(0,0),(1,0),(2,0),(3,0),(4,0),(5,0),(6,0),(7,0),(8,0),(9,0),(11,0),(12,0),(13,0),(14,0),(15,0),(16,0),(17,0),(18,0),(10,2),(19,3)]
abbrev ur:List (Nat×Nat):=[(0,0),(1,0),(2,0),(3,0),(4,0),(5,0),(6,0),(7,3)]
abbrev uq:List (Nat×Nat):=[(0,0),(1,0),(2,0),(3,0),(4,0),(5,0),(6,0),(7,0),(8,0),(9,0),(10,0),(11,0),(12,0),(13,3)]
abbrev Az:List (Nat×Nat):=[(0,0),(1,0),(2,0),(3,0),(4,0),(5,0),(6,0),(7,2),(8,3)]
abbrev Ay:List (Nat×Nat):=[(0,0),(1,0),(2,0),(3,0),(4,0),(5,0),(6,0),(8,0),(9,0),(10,0),(11,0),(12,0),(13,0),(14,0),(15,0),(7,2),(16,3)]
open T7
variable [Gl]
theorem sV (n:Nat) (s:aF):∀A':AW,A'.Wf->ah A' [.h (aX n s)]->et 34 [pv n] A' (.bool s.gD):=λA' h1 h2=>ES n s s.aC A' h1 (aX.Qz h2 .z)
theorem yx (n:Nat) (s:aF):∀A':AW,A'.Wf->ah A' [.h (aX n s)]->et 125 [pv n] A' (.int .i64 s.aA):=λA' h1 h2=>Je n s _ s.aC A' h1 (aX.Qz h2 .z)
theorem sU (n:Nat) (s:aF):∀A':AW,A'.Wf->ah A' [.h (aX n s)]->et 72 [pv n] A' (.int .i64 s.av):=λA' h1 h2=>Nv n s _ s.aC A' h1 (aX.Qz h2 .z)
theorem AT (n:Nat) (s:aF):∀A':AW,A'.Wf->ah A' [.h (aX n s)]->et 211 [pv n] A' (.int .u64 s.value):=λA' h1 h2=>I4 n s _ s.aC A' h1 (aX.Qz h2 .z)
theorem P6 (n:Nat) (s:aF):∀A':AW,A'.Wf->ah A' [.h (aX n s)]->et 70 [pv n] A' (.bool s.ai):=λA' h1 h2=>Gb n s _ s.aC A' h1 (aX.Qz h2 .z)
theorem G5 (n:Nat) (s:aF):∀A':AW,A'.Wf->ah A' [.h (aX n s)]->et 206 [pv n] A' (.int .i64 s.sX):=λA' h1 h2=>nE n s _ s.aC A' h1 (aX.Qz h2 .z)
theorem newE (c:bH) (hc:cx c) (t:Int):d8 Tryz.prog 142 [c.v,.int .i64 t] [] (λn v=>v=pv n) (λn=>[.h (aX n (ey c t))]):=
 λA F hw hS=>O2 c hc t A F hw hS
theorem zW (b:Nat) (d:vB) (va vs vf vd vl vo:Value) (o:Option Addr) (n c:Nat) (i1 i2 i3 bL:Int) (v:Int) (gx:List lT) (hi:bT ⟨12,i1,i2,i3,bL⟩=0) (jV:0<=d.pc/\d.pc<2^40) (hl:gx.length<2^30) :
 d8 Tryz.prog 146 [pv b,je ⟨12,i1,i2,i3,bL⟩,.int .u64 v] [.at b (oT d ⟨va,vs,vf,vd,.slice o n c,vl,vo⟩),.h (jf vo gx)] (λ_ _=>True)
  (λvo=>[.at b (oT { d with df:=d.df.set i1 v,pc:=d.pc+1,done:=decide (d.pc+1=n) } ⟨va,vs,vf,vd,.slice o n c,vl,vo⟩),.h (jf vo (gx++[⟨d.pc,4,v⟩]))]):=by
 unfold je;have ha:=(lB hi).1 rfl;dsimp only at ha;have wO:=λx=>vK (d:=d) (w:=⟨va,vs,vf,vd,.slice o n c,vl,vo⟩) (x:=x) ha;intro A F hw hS;refine aH Tryz.func146 λ_=>?_;dsimp only [aa,af] at hS;have hq:=eO hS hw;revert hq hS hw;refine Wu (J3 (Tg.mk (n:=36) (λx1=>iB b { d with df:=d.df.set i1 v } x1 gx 4 v hl)) (Tg.mk (n:=37) (λx1 x2 x3 x4 x5 x6 x7 x8 x9=>jM b { d with df:=d.df.set i1 v } x1 x2 x3 x4 x5 x6 x7 x8 x9 jV)) (od Lz)) (J4 wO ha.1 ha.2 bF) ?_<;>(unhygienic intros);refine⟨_,by first|rfl|(simp;rfl),?_⟩;apply u9
 (·first|trivial|rfl|(simp;done))
 apply ah.bI
 (·exact sA)
 (·first|exact pA|exact kA)
theorem zV (b:Nat) (d:vB) (va vs vf vd vl vo:Value) (o:Option Addr) (n c:Nat) (i1 i2 i3 bL:Int) (v:Int) (gx:List lT) (hi:bT ⟨13,i1,i2,i3,bL⟩=0) (jV:0<=d.pc/\d.pc<2^40) (hl:gx.length<2^30) :
 d8 Tryz.prog 146 [pv b,je ⟨13,i1,i2,i3,bL⟩,.int .u64 v] [.at b (oT d ⟨va,vs,vf,vd,.slice o n c,vl,vo⟩),.h (jf vo gx)] (λ_ _=>True)
  (λvo=>[.at b (oT { d with pc:=d.pc+1,done:=decide (d.pc+1=n) } ⟨va,vs,vf,vd,.slice o n c,vl,vo⟩),.h (jf vo (gx++[⟨d.pc,5,v⟩]))]):=by
 unfold je;intro A F hw hS;refine aH Tryz.func146 λ_=>?_;dsimp only [aa,af] at hS;have hq:=eO hS hw;revert hq hS hw;refine Wu (J3 (Tg.mk (n:=36) (λx1=>iB b d x1 gx 5 v hl)) (Tg.mk (n:=37) (λx1 x2 x3 x4 x5 x6 x7 x8 x9=>jM b d x1 x2 x3 x4 x5 x6 x7 x8 x9 jV)) (od Lz)) (J1 bF) ?_<;>(unhygienic intros);refine⟨_,by first|rfl|(simp;rfl),?_⟩;apply u9
 (·first|trivial|rfl|(simp;done))
 apply ah.bI
 (·exact sA)
 (·first|exact pA|exact kA)
theorem H9 (b n:Nat) (d:vB) (vs vf vd vc vl vo:Value) (s:aF) (d7:List lT) (r kd:Int) (hr:0<=r/\r<8) (hl:d7.length<2^30) :
 d8 Tryz.prog 128 [pv b,.int .i64 r,.int .i64 kd] [.at b (oT d ⟨pv n,vs,vf,vd,vc,vl,vo⟩),.h (aX n s),.h (jf vs d7)] (λ_ _=>True)
  (λvs=>[.at b (oT { d with df:=d.df.set r s.value } ⟨pv n,vs,vf,vd,vc,vl,vo⟩),.h (aX n s),.h (jf vs (d7++[⟨d.pc,kd,s.value⟩]))]):=by
 have wO:=λx=>vK (d:=d) (w:=⟨pv n,vs,vf,vd,vc,vl,vo⟩) (x:=x) hr;intro A F hw hS;refine aH Tryz.func128 λ_=>?_;dsimp only [aa,af] at hS;have hq:=eO hS hw
 repeat' (first|(with_reducible apply Ex;(·first|(simp;done)|(simp;rfl));(·first|(simp;done)|(simp;rfl));(·exact wA);(·exact sA);(·first|exact pA|exact kA);(·first|exact AW.dw _ _|((repeat' (first|apply aB.z|apply aB.s));done)|(simp [hq];(repeat' (first|rfl|refine⟨rfl,?_⟩));done)|(simp;done)|(simp;rfl)|(simp [hq];done)|(simp [hq];rfl));(·first|omega|(simp;omega));(·intro _ _;trivial);rintro _ _ _ hS hw _;(try dsimp only [AW.bx] at hS);have hq:=eO hS hw)|(refine jK λR hR=>?_;simp [an,ax,hq,wO,hr.1,hr.2,AW.ab,aD];try simp (disch:=omega) only [ay,ap,an,ax])|(refine hR _ _ ?_;clear hR R)|(refine hK _ _ ?_;clear hK K)|refine nx ?_|refine wn λK hK=>?_|simp only [wS,Ly]|refine wl Tryz.mx Ly (by decide +kernel) λK hK=>?_|(apply eF (AT n s);(·exact wA);(·exact sA);(·first|exact pA|exact kA);)|(show cB _ _ _ _ _ _;refine nx ?_)|(refine wc rfl (λhc=>?_) (λhc=>?_)<;>(try simp at hc)<;>(try omega))|(refine ib (λhc=>?_) (λhc=>?_)<;>(try omega)<;>(try simp (disch:=omega) only [ay,ap])))
 refine⟨_,by first|rfl|(simp;rfl),?_⟩;apply u9
 (·first|trivial|rfl|(simp;done))
 apply ah.bI
 (·exact sA)
 (·first|exact pA|exact kA)
theorem ah.Ub {A:AW} {L:List It} (h:ah A L):ah A (.h (jf (.slice none 0 0) [])::L):=ep.nil h
theorem zj (b:Nat) (d:vB) (w:NJ) (hc:cx d.cf) (hct:0<=d.hU/\d.hU<2^40):d8 Tryz.prog 78 [pv b] [.at b (oT d w)] (λ_ _=>True)
 (λn=>[.at b (oT { d with hU:=d.hU+1 } { w with va:=pv n,vs:=.slice none 0 0 }),.h (aX n (fy (ey d.cf d.id)).2),.h (jf (.slice none 0 0) [])]):=by
 have LL:IntKind.i64.wrap (d.hU+1)=d.hU+1:=an (by omega) (by omega);intro A F hw hS;refine aH Tryz.func78 λ_=>?_;dsimp only [aa,af] at hS;have hq:=eO hS hw
 repeat' (first|(refine jK λR hR=>?_;simp [an,ax,hq,LL,AW.ab,aD];try simp (disch:=omega) only [ay,ap,an,ax])|(refine hR _ _ ?_;clear hR R)|(refine hK _ _ ?_;clear hK K)|refine nx ?_|refine wn λK hK=>?_|simp only [wS,Lx]|refine wl Tryz.mx Lx (by decide +kernel) λK hK=>?_|(apply d8.eH (newE d.cf hc d.id);(·exact wA);(·exact sA);(·first|exact pA|exact kA);(rintro xw _ _ rfl hS hw _;have hS:=lA hS;(try (have hq:=eO hS hw))))|(apply bf.eH (KM _ (ey d.cf d.id));(·exact wA);(·exact sA);(·first|exact pA|exact kA);rintro _ _ _ hS hw _;have hS:=lA hS;have hq:=eO hS hw)|(show cB _ _ _ _ _ _;refine nx ?_)|(refine wc rfl (λhc=>?_) (λhc=>?_)<;>(try simp at hc)<;>(try omega))|(refine ib (λhc=>?_) (λhc=>?_)<;>(try omega)<;>(try simp (disch:=omega) only [ay,ap])))
 refine⟨_,by first|rfl|(simp;rfl),?_⟩;apply u9
 (·trivial)
 apply ah.bI;apply ah.Ub
 (·exact sA)
 (·first|exact pA|exact kA)
def yE (d:vB) (i:bg) (s:aF):aF:=
 if i.op=10 then (GP s (IntKind.u64.wrap (d.df.bt i.b+IntKind.u64.wrap i.bL))).2 else if i.op=11 then (E4 s (IntKind.u64.wrap (d.df.bt i.a+IntKind.u64.wrap i.bL)) (d.df.bt i.b)).2 else if i.op=14 then (K4 s i.bL).2
 else if i.op=15 then (Kv s (d.df.bt i.a)).2 else if i.op=8 then (Cq s 1).2 else if i.op=9 then (Cq s 2).2 else s
theorem Oj (x:Int):0<=IntKind.u64.wrap x:=(lu x).1
theorem Tm (b:Nat) (d:vB) (w:NJ) (r bL:Int) (h:0<=r/\r<8) {A:AW} {L K:List It} {k:Value->AW->Prop} (hw:A.Wf) (hS:ah A L) (hp:aB L (.at b (oT d w)) K)
 (hk:k (.int .u64 (IntKind.u64.wrap (d.df.bt r+IntKind.u64.wrap bL))) A):az Tryz.prog 139 [pv b,.int .i64 r,.int .i64 bL] A k:=by
 have hg:A.bt b=some (oT d w):=by
  unfold ah at hS;rw [hp.aL] at hS;exact bn.bt hS
 refine bV (sL b d w r bL h A hg) ?_;rintro _ _ ⟨rfl,rfl⟩ _ _;exact hk
theorem Ba (b:Nat) (d:vB) (w:NJ) (i:bg) (ha:i.op=12\/i.op=13) (h:bT i=0) {A:AW} {L K:List It} {k:Value->AW->Prop} (hw:A.Wf) (hS:ah A L) (hp:aB L (.at b (oT d w)) K)
 (hk:k (.int .u64 (nG d i)) A):az Tryz.prog 76 [pv b,je i] A k:=by
 have hg:A.bt b=some (oT d w):=by
  unfold ah at hS;rw [hp.aL] at hS;exact bn.bt hS
 refine bV (Fd b d w i ha h A hg) ?_;rintro _ _ ⟨rfl,rfl⟩ _ _;exact hk
theorem FB (b n:Nat) (d:vB) (vs vf vd vc vl vo:Value) (i:bg) (s:aF) (hC:fN s) (kJ:i.op=10\/i.op=11\/i.op=14\/i.op=15\/i.op=8\/i.op=9) (hi:bT i=0) :
 bf Tryz.prog 79 [pv b,je i] [.at b (oT d ⟨pv n,vs,vf,vd,vc,vl,vo⟩),.h (aX n s)] (λ_=>True) (λ_=>[.at b (oT d ⟨pv n,vs,vf,vd,vc,vl,vo⟩),.h (aX n (yE d i s))]):=by
 obtain⟨r1,r2,_⟩:=lB hi;unfold je;rcases kJ with h2|h2|h2|h2|h2|h2
 . have hb:=r2 (by rw [h2];rfl);have e:yE d i s=_:=ay h2;intro A F hw hS;refine aH Tryz.func79 λ_=>?_;dsimp only [aa,af] at hS;have hq:=eO hS hw;revert hq hS hw;refine Wu (J6 (Tg.mk (n:=10) (λ{A L K k} x1=>Tm (A:=A) (L:=L) (K:=K) (k:=k) b d x1 i.b i.bL hb)) (Tg.mk (n:=37) (λx1=>Ep n s _ hC (Oj x1))) (od uu) (od ut) (od ur) (od uq)) (J2 h2 bF) ?_<;>(unhygienic intros);rw [e];refine⟨_,by first|rfl|(simp;rfl),by first|trivial|rfl|(simp;done),?_⟩;apply ah.bI
   (·exact sA)
   (·first|exact pA|exact kA)
 . have ha:=r1 (by rw [h2];rfl);have hb:=r2 (by rw [h2];rfl);have ym:=oh (d:=d) (w:=⟨pv n,vs,vf,vd,vc,vl,vo⟩) hb;have e:yE d i s=(E4 s (IntKind.u64.wrap (d.df.bt i.a+IntKind.u64.wrap i.bL)) (d.df.bt i.b)).2:=(by unfold yE;rw [ap (by omega),ay h2]);intro A F hw hS;refine aH Tryz.func79 λ_=>?_;dsimp only [aa,af] at hS;have hq:=eO hS hw;revert hq hS hw;(repeat first|clear hq|clear hS|clear hw|revert hc|revert R|revert K);refine W (J6 (Tg.mk (n:=10) (λ{A L K k} x1=>Tm (A:=A) (L:=L) (K:=K) (k:=k) b d x1 i.a i.bL ha)) (od uu) (od ut) (od ur) (od uq) (AR n s)) (J5 h2 ym hb.1 hb.2 bF) ?_<;>(unhygienic intros);rw [e];refine⟨_,by first|rfl|(simp;rfl),by first|trivial|rfl|(simp;done),?_⟩;apply ah.bI
   (·exact sA)
   (·first|exact pA|exact kA)
 . have e:yE d i s=(K4 s i.bL).2:=(by unfold yE;rw [ap (by omega),ap (by omega),ay h2]);intro A F hw hS;refine aH Tryz.func79 λ_=>?_;dsimp only [aa,af] at hS;have hq:=eO hS hw;revert hq hS hw;(repeat first|clear hq|clear hS|clear hw|revert hc|revert R|revert K);refine Wu (J5 (Tg.mk (n:=37) (λx1=>KX n s x1 hC)) (od uu) (od ut) (od ur) (od uq)) (J2 h2 bF) ?_<;>(unhygienic intros);rw [e];refine⟨_,by first|rfl|(simp;rfl),by first|trivial|rfl|(simp;done),?_⟩;apply ah.bI
   (·exact sA)
   (·first|exact pA|exact kA)
 . have ha:=r1 (by rw [h2];rfl);have ym:=oh (d:=d) (w:=⟨pv n,vs,vf,vd,vc,vl,vo⟩) ha;have e:yE d i s=(Kv s (d.df.bt i.a)).2:=(by unfold yE;rw [ap (by omega),ap (by omega),ap (by omega),ay h2]);intro A F hw hS;refine aH Tryz.func79 λ_=>?_;dsimp only [aa,af] at hS;have hq:=eO hS hw;revert hq hS hw;(repeat first|clear hq|clear hS|clear hw|revert hc|revert R|revert K);refine Wu (J5 (Tg.mk (n:=37) (λx1=>Ni n s x1 hC)) (od uu) (od ut) (od ur) (od uq)) (J5 h2 ym ha.1 ha.2 bF) ?_<;>(unhygienic intros);rw [e];refine⟨_,by first|rfl|(simp;rfl),by first|trivial|rfl|(simp;done),?_⟩;apply ah.bI
   (·exact sA)
   (·first|exact pA|exact kA)
 . have e:yE d i s=(Cq s 1).2:=(by unfold yE;rw [ap (by omega),ap (by omega),ap (by omega),ap (by omega),ay h2]);intro A F hw hS;refine aH Tryz.func79 λ_=>?_;dsimp only [aa,af] at hS;have hq:=eO hS hw;revert hq hS hw;(repeat first|clear hq|clear hS|clear hw|revert hc|revert R|revert K);refine W (J5 (od uu) (od ut) (od ur) (od uq) (tS n s 1)) (J2 h2 bF) ?_<;>(unhygienic intros);rw [e];refine⟨_,by first|rfl|(simp;rfl),by first|trivial|rfl|(simp;done),?_⟩;apply ah.bI
   (·exact sA)
   (·first|exact pA|exact kA)
 have e:yE d i s=(Cq s 2).2:=by unfold yE;rw [ap (by omega),ap (by omega),ap (by omega),ap (by omega),ap (by omega),ay h2]
 intro A F hw hS;refine aH Tryz.func79 λ_=>?_;dsimp only [aa,af] at hS;have hq:=eO hS hw;revert hq hS hw;(repeat first|clear hq|clear hS|clear hw|revert hc|revert R|revert K);refine W (J5 (od uu) (od ut) (od ur) (od uq) (tS n s 2)) (J2 h2 bF) ?_<;>(unhygienic intros);rw [e];refine⟨_,by first|rfl|(simp;rfl),by first|trivial|rfl|(simp;done),?_⟩;apply ah.bI
 (·exact sA)
 (·first|exact pA|exact kA)
def KR (d:vB) (i:bg) (s:aF):aF:=if 1<d.eU+1 then (Cq s 1).2 else if i.op=12 then (GP s (nG d i)).2 else (E4 s (nG d i) (d.df.bt i.b)).2
theorem Oo (d:vB) (i:bg):0<=nG d i:=by unfold nG;split<;>exact Oj _
theorem Mr (b n:Nat) (d:vB) (vs vf vd vc vl vo:Value) (i:bg) (s:aF) (hC:fN s) (kJ:i.op=12\/i.op=13) (hi:bT i=0) (hak:0<=d.eU/\d.eU<2^40) :
 bf Tryz.prog 36 [pv b,je i] [.at b (oT d ⟨pv n,vs,vf,vd,vc,vl,vo⟩),.h (aX n s)] (λ_=>True) (λ_=>[.at b (oT { d with eU:=d.eU+1 } ⟨pv n,vs,vf,vd,vc,vl,vo⟩),.h (aX n (KR d i s))]):=by
 have LL:IntKind.i64.wrap (d.eU+1)=d.eU+1:=an (by omega) (by omega);obtain⟨r1,r2,_⟩:=lB hi;obtain⟨op,i1,i2,i3,bL⟩:=i;dsimp only at kJ r2;unfold je;by_cases h1:1<d.eU+1
 . have e:KR d ⟨op,i1,i2,i3,bL⟩ s=_:=ay h1;intro A F hw hS;refine aH Tryz.func36 λ_=>?_;dsimp only [aa,af] at hS;have hq:=eO hS hw;revert hq hS hw;refine W (J3 (od Az) (od Ay) (tS n s 1)) (J3 LL h1 bF) ?_<;>(unhygienic intros);rw [e];refine⟨_,by first|rfl|(simp;rfl),by first|trivial|rfl|(simp;done),?_⟩;apply ah.bI
   (·exact sA)
   (·first|exact pA|exact kA)
 rcases kJ with h2|h2
 . subst h2;have e:KR d ⟨12,i1,i2,i3,bL⟩ s=(GP s (nG { d with eU:=d.eU+1 } ⟨12,i1,i2,i3,bL⟩)).2:=(by unfold KR;rw [ap h1,ay rfl];rfl);intro A F hw hS;refine aH Tryz.func36 λ_=>?_;dsimp only [aa,af] at hS;have hq:=eO hS hw
   repeat' (first|(refine jK λR hR=>?_;simp [an,ax,hq,LL,h1,AW.ab,aD];try simp (disch:=omega) only [ay,ap,an,ax])|(refine hR _ _ ?_;clear hR R)|(refine hK _ _ ?_;clear hK K)|refine nx ?_|refine wn λK hK=>?_|simp only [wS,Az,Ay]|refine wl Tryz.mx Az (by decide +kernel) λK hK=>?_|refine wl Tryz.mx Ay (by decide +kernel) λK hK=>?_|(apply Ba b { d with eU:=d.eU+1 } _ ⟨12,i1,i2,i3,bL⟩ (.inl rfl) hi;(·exact wA);(·exact sA);(·first|exact pA|exact kA);)|(apply bf.eH (Ep n s _ hC (Oo _ _));(·exact wA);(·exact sA);(·first|exact pA|exact kA);rintro _ _ _ hS hw _;have hS:=lA hS;have hq:=eO hS hw)|(show cB _ _ _ _ _ _;refine nx ?_)|(refine wc rfl (λhc=>?_) (λhc=>?_)<;>(try simp at hc)<;>(try omega))|(refine ib (λhc=>?_) (λhc=>?_)<;>(try omega)<;>(try simp (disch:=omega) only [ay,ap])))
   rw [e];refine⟨_,by first|rfl|(simp;rfl),by first|trivial|rfl|(simp;done),?_⟩;apply ah.bI
   (·exact sA)
   (·first|exact pA|exact kA)
 subst h2;have hb:=r2 rfl;have ym:=oh (d:={ d with eU:=d.eU+1 }) (w:=⟨pv n,vs,vf,vd,vc,vl,vo⟩) hb;have e:KR d ⟨13,i1,i2,i3,bL⟩ s=(E4 s (nG { d with eU:=d.eU+1 } ⟨13,i1,i2,i3,bL⟩) (d.df.bt i2)).2:=by unfold KR;rw [ap h1,ap (show ¬(13:Int)=12 by decide)];rfl
 intro A F hw hS;refine aH Tryz.func36 λ_=>?_;dsimp only [aa,af] at hS;have hq:=eO hS hw;revert hq hS hw;(repeat first|clear hq|clear hS|clear hw|revert hc|revert R|revert K);refine W (J4 (Tg.mk (n:=10) (λ{A L K k} x1=>Ba (A:=A) (L:=L) (K:=K) (k:=k) b { d with eU:=d.eU+1 } x1 ⟨13,i1,i2,i3,bL⟩ (.inr rfl) hi)) (od Az) (od Ay) (AR n s)) (J6 LL h1 ym hb.1 hb.2 bF) ?_<;>(unhygienic intros);rw [e];refine⟨_,by first|rfl|(simp;rfl),by first|trivial|rfl|(simp;done),?_⟩;apply ah.bI
 (·exact sA)
 (·first|exact pA|exact kA)
end
section
abbrev Lw:List (Nat×Nat):=[(0,0),(1,0),(2,0),(3,0),(4,0),(5,0),(6,0),(7,0),(8,0),(9,0),(10,0),(11,0),(12,0),(13,0),(14,0),(15,0)]
abbrev Lv:List (Nat×Nat):=[(0,0),(1,0),(2,0),(3,0),(4,0),(5,0),(6,0),(7,0),(8,0)]
open T24
variable [Gl]
theorem k9 {f:FuncId} {args:List Value} {V:Value} {b:Nat} {o:dG} (hC:∀A:AW,A.bt b=some o->et f args A V) {A:AW} {L K:List It} {k:Value->AW->Prop} (hw:A.Wf) (hS:ah A L) (hp:aB L (.at b o) K) (hk:k V A):az Tryz.prog f args A k:=by
 have hg:A.bt b=some o:=by
  unfold ah at hS;rw [hp.aL] at hS;exact bn.bt hS
 refine bV (hC A hg) ?_;rintro _ _ ⟨rfl,rfl⟩ _ _;exact hk
def rE (f:iJ):dG:=.cells [.int .i64 f.ak,.int .i64 f.lw,.bool f.fH,.int .u64 f.xD,.int .i64 f.next] true 1
theorem DB (t n:Int) (A:AW):az Tryz.prog 81 [.int .i64 t,.int .i64 n] A (λv A'=>v=.pointer (some ⟨A.next,0,none⟩)/\A'=A.alloc (rE ⟨t,n,false,0,0⟩)):=by
 refine aH Tryz.func81 λ_=>?_;refine W cy cy ?_<;>intros;exact⟨_,rfl,rfl,rfl⟩
theorem lP (b:Nat) (s:iJ) (A:AW) (hg:A.bt b=some (rE s)):et 61 [.pointer (some ⟨b,0,none⟩)] A (.bool s.done):=by
 refine aH Tryz.func61 λ_=>?_;dsimp only [rE] at hg;unfold iJ.done;cases h:s.fH;refine W (J1 (od Lw)) (J3 hg h @AW.ab) ?_<;>intros;exact⟨_,rfl,by simp,rfl⟩;refine W (J1 (od Lw)) (J3 hg h @AW.ab) ?_<;>intros;exact⟨_,rfl,by simp,rfl⟩
theorem DS (b:Nat) (s:iJ) (A:AW) (hg:A.bt b=some (rE s)):et 63 [.pointer (some ⟨b,0,none⟩)] A (.int .i64 s.me):=by
 refine aH Tryz.func63 λ_=>?_;dsimp only [rE] at hg;unfold iJ.me;cases h:s.fH;refine W cy (J3 hg h @AW.ab) ?_<;>intros;exact⟨_,rfl,by simp,rfl⟩;refine W cy (J3 hg h @AW.ab) ?_<;>intros;exact⟨_,rfl,by simp,rfl⟩
theorem tj (x:Int) (A:AW):et 170 [.int .u64 x] A (.int .i64 (if x=0 then 0 else if x=1 then 1 else 2)):=by
 refine aH Tryz.func170 λ_=>?_;refine W cy cy (J3 ?_ ?_ ?_)<;>intros
 all_goals exact⟨_,rfl,by simp_all,rfl⟩
theorem tO (b:Nat) (s:iJ) (x:Int) (A:AW) (hg:A.bt b=some (rE s)):et 104 [.pointer (some ⟨b,0,none⟩),.int .u64 x] A (.bool (s.yI x)):=by
 refine aH Tryz.func104 λ_=>?_;dsimp only [rE] at hg;unfold iJ.yI;by_cases h0:x=0;have cL:=tj x;rw [ay h0] at cL;refine W (J1 @cL) (J2 hg @AW.ab) ?_<;>intros;exact⟨_,rfl,by simp [h0],rfl⟩;by_cases h1:x=1;have cL:=tj x;rw [ap h0,ay h1] at cL;refine W (J1 @cL) (J2 hg @AW.ab) ?_<;>intros;exact⟨_,rfl,by simp [h1],rfl⟩;have cL:=tj x;rw [ap h0,ap h1] at cL;refine W (J1 @cL) (J2 hg @AW.ab) ?_<;>intros;exact⟨_,rfl,by simp [h0,h1],rfl⟩
theorem xP (b:Nat) (f:iJ) (hn:0<=f.next/\f.next<2^40):bf Tryz.prog 103 [.pointer (some ⟨b,0,none⟩)] [.at b (rE f)] (λ_=>True) (λ_=>[.at b (rE f.skip)]):=by
 intro A F hw hS;refine aH Tryz.func103 λ_=>?_;dsimp only [aa,af] at hS;have hq:=nA hS hw;have LL:IntKind.i64.wrap (f.next+1)=f.next+1:=an (by omega) (by omega);unfold iJ.skip;by_cases h:f.next=f.ak
 . have e:(if f.next=f.ak then ({ f with next:=f.next+1 }:iJ) else f)={ f with next:=f.next+1 }:=ay h;rw [<-h] at hq;revert hq hS hw;refine W (J1 (od Lv)) (J2 LL bF) ?_<;>(unhygienic intros)
   all_goals(
    try rw [e]
    refine⟨_,by simp [hq,AW.ab,aD];rfl,by first|trivial|(simp [aU.v,aU.zero,h];done),?_⟩;apply ah.bI
    (·exact sA)
    (·repeat' (first|apply aQ.z|apply aQ.s|apply aB.z|(apply aB.GO;simp [rE,h];done)|apply aB.s)))
 have e:(if f.next=f.ak then ({ f with next:=f.next+1 }:iJ) else f)=f:=ap h;revert hq hS hw;(repeat first|clear hq|clear hS|clear hw|revert hc|revert R|revert K);refine W (J1 (od Lv)) (J2 h bF) ?_<;>(unhygienic intros)
 all_goals(
  try rw [e]
  refine⟨_,by simp [hq,AW.ab,aD];rfl,by first|trivial|(simp [aU.v,aU.zero,h];done),?_⟩;apply ah.bI
  (·exact sA)
  (·repeat' (first|apply aQ.z|apply aQ.s|apply aB.z|(apply aB.GO;simp [rE,h];done)|apply aB.s)))
theorem Nm (f:iJ) (M:Mm):(f.done=true/\gq f M=(aU.zero,f)) \/
 ((f.done=false/\f.fH=false)/\gq f M=(gy M 3 0,({ f with fH:=true,xD:=(gy M 3 0).eV }:iJ).skip)) \/
 ((f.done=false/\f.fH=true/\f.yI (gy M 6 f.next).eV=true)/\gq f M=(gy M 6 f.next,({ f with next:=f.next+1 }:iJ).skip)) \/
 ((f.done=false/\f.fH=true/\f.yI (gy M 6 f.next).eV=false)/\gq f M=(gy M 6 f.next,f)):=by
 unfold gq;cases h0:f.done<;>cases h1:f.fH<;>cases h2:f.yI (gy M 6 f.next).eV<;>simp
theorem F6 (b pb:Nat) (f:iJ) (M:Mm) (hn:0<=f.next/\f.next<2^39) :
 bf Tryz.prog 60 [.pointer (some ⟨b,0,none⟩),.pointer (some ⟨pb,0,none⟩)] [.at b (rE f),dH pb M]
  (λv=>v=(gq f M).1.v) (λ_=>[.at b (rE (gq f M).2),dH pb M]):=by
 intro A F hw hS;refine aH Tryz.func60 λ_=>?_;dsimp only [aa,af] at hS;have hq:=nA hS hw;have LL:IntKind.i64.wrap (f.next+1)=f.next+1:=an (by omega) (by omega);have GR:0<=f.next/\f.next<2^40:=by omega
 have hn3:0<=f.next+1/\f.next+1<2^40:=by omega
 rcases Nm f M with ⟨h,e⟩|⟨h,e⟩|⟨h,e⟩|⟨h,e⟩
 . have hd:=λA hg=>lP b f A hg;rw [h] at hd;revert hq hS hw;refine W (J1 (Tg.mk (n:=10) (λ{A L K k}=>k9 (A:=A) (L:=L) (K:=K) (k:=k) hd))) (J4 h bF @bd.eq_1 @aU.v.eq_1) ?_<;>(unhygienic intros)
   all_goals(
    try rw [e]
    refine⟨_,by simp [hq,AW.ab,aD];rfl,by first|trivial|(simp [aU.v,aU.zero,h];done),?_⟩;apply ah.bI
    (·exact sA)
    (·repeat' (first|apply aQ.z|apply aQ.s|apply aB.z|(apply aB.GO;simp [rE,h];done)|apply aB.s)))
 . have hd:=λA hg=>lP b f A hg;rw [h.1] at hd;revert hq hS hw;(repeat first|clear hq|clear hS|clear hw|revert hc|revert R|revert K);refine Wu (J4 (Tg.mk (n:=10) (λ{A L K k}=>k9 (A:=A) (L:=L) (K:=K) (k:=k) hd)) (⟨⟩:Os (λA'=>A'.bt (A.next+1)=some (.cells (Vu (gy M 3 0)) true 1)) [(0,0),(1,0),(2,0),(3,1),(4,0),(5,0),(6,3),(7,0),(8,0),(9,3)]) (Pg pb) (xP b { f with fH:=true,xD:=(gy M 3 0).eV } GR)) (J4 h bF @bd.eq_1 @aU.v.eq_1) ?_<;>(unhygienic intros)
   all_goals(
    try rw [e]
    refine⟨_,by simp [hq,AW.ab,aD];rfl,by first|trivial|(simp [aU.v,aU.zero,h];done),?_⟩;apply ah.bI
    (·exact sA)
    (·repeat' (first|apply aQ.z|apply aQ.s|apply aB.z|(apply aB.GO;simp [rE,h];done)|apply aB.s)))
 . have hd:=λA hg=>lP b f A hg;have hp:=λA hg=>tO b f (gy M 6 f.next).eV A hg;rw [h.1] at hd;rw [h.2.2] at hp;have e2:({ f with next:=f.next+1 }:iJ)=⟨f.ak,f.lw,true,f.xD,f.next+1⟩:=(by rw [<-h.2.1]);rw [e2] at e;revert hq hS hw;(repeat first|clear hq|clear hS|clear hw|revert hc|revert R|revert K);refine W (J4 (Tg.mk (n:=10) (λ{A L K k}=>k9 (A:=A) (L:=L) (K:=K) (k:=k) hd)) (Tg.mk (n:=10) (λ{A L K k}=>k9 (A:=A) (L:=L) (K:=K) (k:=k) hp)) (Pg pb) (xP b ⟨f.ak,f.lw,true,f.xD,f.next+1⟩ hn3)) (J5 h LL bF @bd.eq_1 @aU.v.eq_1) ?_<;>(unhygienic intros)
   all_goals(
    try rw [e]
    refine⟨_,by simp [hq,AW.ab,aD];rfl,by first|trivial|(simp [aU.v,aU.zero,h];done),?_⟩;apply ah.bI
    (·exact sA)
    (·repeat' (first|apply aQ.z|apply aQ.s|apply aB.z|(apply aB.GO;simp [rE,h];done)|apply aB.s)))
 have hd:=λA hg=>lP b f A hg;have hp:=λA hg=>tO b f (gy M 6 f.next).eV A hg;rw [h.1] at hd;rw [h.2.2] at hp;revert hq hS hw;(repeat first|clear hq|clear hS|clear hw|revert hc|revert R|revert K);refine W (J3 (Tg.mk (n:=10) (λ{A L K k}=>k9 (A:=A) (L:=L) (K:=K) (k:=k) hd)) (Tg.mk (n:=10) (λ{A L K k}=>k9 (A:=A) (L:=L) (K:=K) (k:=k) hp)) (Pg pb)) (J4 h bF @bd.eq_1 @aU.v.eq_1) ?_<;>(unhygienic intros)
 all_goals(
  try rw [e]
  refine⟨_,by simp [hq,AW.ab,aD];rfl,by first|trivial|(simp [aU.v,aU.zero,h];done),?_⟩;apply ah.bI
  (·exact sA)
  (·repeat' (first|apply aQ.z|apply aQ.s|apply aB.z|(apply aB.GO;simp [rE,h];done)|apply aB.s)))
end
section
open Go.Proofs Go
variable [Gl]
def Nq (l:List (Int×Int)):List Value:=l.flatMap λx=>[.int .i64 x.1,.int .i64 x.2]
def QT (v:Value) (l:List (Int×Int)):HP:=ep 2 v l.length (Nq l)
def zf (v:Value) (l:List Nat):HP:=ep 1 v l.length (l.map pv)
theorem gZ.Ww {A:AW} {o:Option Addr} {c n m size:Nat} {cs x:List Value} (h:gZ A size (.slice o n c) m cs) {i:Nat} (hi:i<m) (hx:(cs.drop (i*size)).take size=x) :
 ∃p cD,o=some p/\A.cD p.block=some cD/\p.off+i*size+size<=cD.length/\(cD.drop (p.off+i*size)).take size=x:=by
 rcases h with ⟨⟨o,h1⟩,h2,_⟩|⟨p,c,cD,own,u,h1,h2,h3,h4,h5,h6⟩;omega;injection h1 with h1 _ _;have h7:i*size+size<=m*size:=by
  have:=Nat.mul_le_mul_right size (show i+1<=m by omega);rwa [Nat.add_mul,Nat.one_mul] at this
 refine⟨p,cD,h1,AW.Fy h3,by omega,?_⟩;rw [<-hx,h6,<-List.drop_drop,List.drop_take,List.take_take];congr 1;omega
theorem vR {α:Type} (f:α->List Value) (k:Nat) (hf:∀x,(f x).length=k):∀(l:List α) (i:Nat) (hi:i<l.length),((l.flatMap f).drop (i*k)).take k=f l[i]
 | [],i,hi=>by simp at hi
 | x::l,0,hi=>by
   simp only [List.flatMap_cons,Nat.zero_mul,List.drop_zero,List.getElem_cons_zero];rw [<-hf x,List.take_left'];rfl
 | x::l,i+1,hi=>by
   rw [List.flatMap_cons,Nat.add_mul,Nat.one_mul,Nat.add_comm,<-List.drop_drop,List.drop_left' (hf x)];exact vR f k hf l i (by simpa using hi)
theorem ah.entAt {A:AW} {L K:List It} {o:Option Addr} {n c:Nat} {l:List (Int×Int)} (hS:ah A L) (hp:aB L (.h (QT (.slice o n c) l)) K) {i:Nat} (hi:i<l.length) :
 ∃p cD,o=some p/\A.cD p.block=some cD/\p.off+i*2+2<=cD.length/\(cD.drop (p.off+i*2)).take 2=[.int .i64 l[i].1,.int .i64 l[i].2]:=
 gZ.Ww (ah.EA hS hp) hi (vR _ 2 (λ_=>rfl) l i hi)
section
variable {S:AW->Prop} {K:Fr->AW->Prop} {gI:List zg} {a:Fr} {A:AW} {d:Option Tmp} {x y:Operand} {n:Nat} {v:Value} {L K':List It}
theorem SJ {l:List (Int×Int)} {y1 y2:Int} (e1:iO a x=v) (e2:iO a y=.slice (some ⟨n,0,none⟩) 1 1) (hw:A.Wf) (hS:ah A L) (hp:aB L (.h (QT v l)) K') (hn:A.bt n=some (.cells [.int .i64 y1,.int .i64 y2] true 2)) (b6:l.length<2 ^ 30)
 (hs:∀A',ah A' K'->S A')
 (hk:∀o c A',ah A' (.h (QT (.slice o (l.length+1) c) (l++[(y1,y2)]))::K')->A'.Wf->A.next<=A'.next->aW Tryz.prog S K gI (ew a d (.slice o (l.length+1) c)) A') :
 aW Tryz.prog S K (⟨d,.call ⟨.builtin .append,#[x,y],#[149,149]⟩,none,3⟩::gI) a A:=by
 refine O6 (P:=Tryz.prog) (size:=2) (m:=l.length) (cs:=Nq l) Tryz.underlying149 Tryz.info227 Tryz.zero227 rfl rfl (by omega) (by decide) e1 e2 hw hS hp hn rfl rfl b6 hs λo c A' h1 h2 h3=>hk o c A' ?_ h2 h3;have e:QT (.slice o (l.length+1) c) (l++[(y1,y2)])=ep 2 (.slice o (l.length+1) c) (l.length+1) (Nq l++[.int .i64 y1,.int .i64 y2]):=by
  unfold QT;rw [List.length_append,show Nq (l++[(y1,y2)])=Nq l++[.int .i64 y1,.int .i64 y2] by simp [Nq]];rfl
 rw [e];exact h1
theorem Ue {l:List Nat} {q:Nat} (e1:iO a x=v) (e2:iO a y=.slice (some ⟨n,0,none⟩) 1 1) (hw:A.Wf) (hS:ah A L) (hp:aB L (.h (zf v l)) K') (hn:A.bt n=some (.cells [pv q] true 1)) (b6:l.length<2 ^ 30)
 (hs:∀A',ah A' K'->S A')
 (hk:∀o c A',ah A' (.h (zf (.slice o (l.length+1) c) (l++[q]))::K')->A'.Wf->A.next<=A'.next->aW Tryz.prog S K gI (ew a d (.slice o (l.length+1) c)) A') :
 aW Tryz.prog S K (⟨d,.call ⟨.builtin .append,#[x,y],#[223,223]⟩,none,3⟩::gI) a A:=by
 refine O6 (P:=Tryz.prog) (size:=1) (m:=l.length) (cs:=l.map pv) Tryz.underlying223 Tryz.info168 Tryz.zero168 rfl rfl (by omega) (by decide) e1 e2 hw hS hp hn rfl rfl b6 hs λo c A' h1 h2 h3=>hk o c A' ?_ h2 h3;have e:zf (.slice o (l.length+1) c) (l++[q])=ep 1 (.slice o (l.length+1) c) (l.length+1) (l.map pv++[pv q]):=by
  unfold zf;rw [List.length_append,List.map_append];rfl
 rw [e];exact h1
end
def Pc (c:bH) (v:Value):dG:=.cells [.int .i64 c.aR,.int .i64 c.am,.int .i64 c.base,.int .i64 c.c0,.int .i64 c.c1,.int .i64 c.c2,.int .i64 c.c3,.int .i64 c.reads,.int .i64 c.cM,.int .i64 c.ag,.int .i64 c.ar,.int .i64 c.aw,.bool c.aT,v] true 1
def MO (p:Nat) (c:bH) (l:List (Int×Int)) (v:Value):List It:=[.at p (Pc c v),.h (QT v l)]
def ni (p:Nat) (c:bH) (l:List (Int×Int)):HP:=pe λv:Value=>aL (MO p c l v)
def mQ (q:List (Nat×eZ)):HP:=q.foldr (λx P=>pt x.1 (gt x.2)*P) eP
theorem Ju (q:List (Nat×eZ)) (x:Nat×eZ):mQ (q++[x])=pt x.1 (gt x.2)*mQ q:=by
 induction q with
 | nil=>rfl
 | cons y q ih=>
   show pt y.1 (gt y.2)*mQ (q++[x])=pt x.1 (gt x.2)*(pt y.1 (gt y.2)*mQ q);rw [ih]
   ac_rfl
theorem ah.Wy {A:AW} {L K:List It} {n:Nat} {p:eZ} {q:List (Nat×eZ)} (h:ah A L) (h1:aB L (.h (mQ ((n,p)::q))) K):ah A (.at n (gt p)::.h (mQ q)::K):=by
 unfold ah at h ⊢;rw [h1.aL] at h;exact h.dV (by show (pt n (gt p)*mQ q)*aL K=pt n (gt p)*(mQ q*aL K);ac_rfl)
theorem ah.Wz {A:AW} {L K K2:List It} {n:Nat} {p:eZ} {q:List (Nat×eZ)} (h:ah A L) (h1:aB L (.at n (gt p)) K) (h2:aB K (.h (mQ q)) K2):ah A (.h (mQ ((n,p)::q))::K2):=by
 unfold ah at h ⊢;rw [h1.aL,h2.aL] at h;exact h.dV (by show pt n (gt p)*(mQ q*aL K2)=(pt n (gt p)*mQ q)*aL K2;ac_rfl)
def R5 (p:Nat) (x:Value×List (Nat×eZ)):List It:=[.at p (.cells [x.1] true 1),.h (zf x.1 (x.2.map Prod.fst)),.h (mQ x.2)]
def yj (p:Nat) (l:List eZ):HP:=pe λx:Value×{ q:List (Nat×eZ) // q.map Prod.snd=l }=>aL (R5 p (x.1,x.2.1))
section
variable {A:AW} {L K:List It} {p:Nat}
theorem ni.open {c:bH} {l:List (Int×Int)} (h:ah A L) (hp:aB L (.h (ni p c l)) K):∃v,ah A (MO p c l v++K):=ld h hp
theorem ni.dU {c:bH} {l:List (Int×Int)} {v:Value} (h:ah A L) (e:aQ L (MO p c l v) K):ah A (.h (ni p c l)::K):=iH v h e
theorem yj.open {l:List eZ} (h:ah A L) (hp:aB L (.h (yj p l)) K):∃v q,q.map Prod.snd=l/\ah A (R5 p (v,q)++K):=by
 obtain⟨⟨v,q,hq⟩,h⟩:=ld h hp;exact⟨v,q,hq,h⟩
theorem yj.dU {l:List eZ} {v:Value} {q:List (Nat×eZ)} (hq:q.map Prod.snd=l) (h:ah A L) (e:aQ L (R5 p (v,q)) K):ah A (.h (yj p l)::K):=iH (g:=λx:Value×{ q:List (Nat×eZ) // q.map Prod.snd=l }=>R5 p (x.1,x.2.1)) (v,⟨q,hq⟩) h e
theorem yj.nil (h:ah A L) (h1:aB L (.at p (.cells [.slice none 0 0] true 1)) K):ah A (.h (yj p [])::K):=by
 have h2:ah A (.at p (.cells [.slice none 0 0] true 1)::K):=by
  unfold ah at h ⊢;rw [h1.aL] at h;exact h
 have h3:ah A (.h eP::.at p (.cells [.slice none 0 0] true 1)::K):=ah.ll h2;have h4:ah A (.h (zf (.slice none 0 0) [])::.h eP::.at p (.cells [.slice none 0 0] true 1)::K):=ep.nil h3;exact yj.dU (v:=.slice none 0 0) (q:=[]) rfl h4 (.s (.s (.s .z)) (.s .z (.s .z .z)))
theorem yj.lz {K1 K2 K3:List It} {n:Nat} {v:Value} {q:List (Nat×eZ)} {x:eZ} {l:List eZ} (hq:q.map Prod.snd=l) (h:ah A L) (h1:aB L (.at p (.cells [v] true 1)) K) (h2:aB K (.h (zf v (q.map Prod.fst++[n]))) K1) (h3:aB K1 (.h (mQ q)) K2) (h4:aB K2 (.at n (gt x)) K3) :
 ah A (.h (yj p (l++[x]))::K3):=by
 have h5:ah A (.h (mQ (q++[(n,x)]))::.at p (.cells [v] true 1)::.h (zf v ((q++[(n,x)]).map Prod.fst))::K3):=by
  unfold ah at h ⊢;rw [h1.aL,h2.aL,h3.aL,h4.aL] at h;show bn A (mQ (q++[(n,x)])*(pt p (.cells [v] true 1)*(zf v ((q++[(n,x)]).map Prod.fst)*aL K3)));rw [Ju,List.map_append];exact h.dV (by show pt p (.cells [v] true 1)*(zf v (q.map Prod.fst++[n])*(mQ q*(pt n (gt x)*aL K3)))=_;ac_rfl)
 exact yj.dU (v:=v) (q:=q++[(n,x)]) (by rw [List.map_append,hq];rfl) h5 (.s (.s .z) (.s (.s .z) (.s .z .z)))
theorem ah.Rb {v:Value} {n:Nat} {ns:List Nat} (h:ah A L) (hp:aB L (.h (zf v (n::ns))) K) :
 ∃b off c cD,v=.slice (some ⟨b,off,none⟩) (ns.length+1) c/\ns.length+1<=c/\off+(ns.length+1)<=cD.length/\cD[off]? = some (pv n)/\ah A (.at b (.cells cD true 1)::K)/\
  (∀(A':AW) (L' K':List It),ah A' L'->aB L' (.at b (.cells cD true 1)) K'->ah A' (.h (zf (.slice (some ⟨b,off,none⟩) (ns.length+1) c) (n::ns))::K')/\ah A' (.h (zf (.slice (some ⟨b,off+1,none⟩) ns.length (c-1)) ns)::K')):=by
 unfold ah at h;rw [hp.aL] at h;rcases ep.cases h with ⟨_,h0,_⟩|⟨b,off,c,cD,rfl,h1,h2,h3,h4⟩;simp at h0;simp only [List.length_cons,Nat.mul_one] at h1 h2 h3;have h3':=h3;rw [List.drop_eq_getElem_cons (by omega),List.map_cons,List.take_succ_cons] at h3';obtain⟨h5,h6⟩:=List.cons.inj h3';refine⟨b,off,c,cD,by simp,h1,h2,?_,h4,λA' L' K' hS hq=>?_⟩;rw [List.getElem?_eq_getElem (by omega),<-h5];unfold ah at hS;rw [hq.aL] at hS;refine⟨ep.mk (by simpa using h1) (by simpa using h2) (by simpa using h3) hS,?_⟩;exact ep.mk (by omega) (by omega) (by simpa using h6) hS
theorem ah.nilE (h:ah A L):ah A (.h (QT (.slice none 0 0) [])::L):=ep.nil h
end
end
section
abbrev up:List (Nat×Nat):=[(0,0),(1,0),(2,0),(3,0),(4,0),(5,0),(6,0),(7,0),(8,0),(9,0),(10,0),(12,0),(13,0),(11,2),(14,2),(15,2),(16,3),(17,0),(18,0),(19,3)]
open T26
variable [Gl]
theorem zT (c:bH) (l:List (Int×Int)) (sX:Int) (bs:List Int) (b:Int):lS c l sX (bs++[b])=if 0<=c8 c b then lS c l sX bs++[(b,sX)] else lS c l sX bs:=by
 unfold lS;rw [List.filter_append];by_cases h:0<=c8 c b;simp [h];simp [h]
theorem K7 (c:bH) (l:List (Int×Int)) (sX:Int) (bs:List Int):(lS c l sX bs).length<=l.length+bs.length:=by
 unfold lS;have:=List.length_filter_le (λb=>decide (0<=c8 c b)) bs;rw [List.length_append,List.length_map];omega
theorem HQ (p:Nat) (c:bH) (tG:cx c) (l:List (Int×Int)) (sX:Int) (vb:Value) (bs:List Int) (hb:∀b∈bs,b<2^62) (hl:l.length<2^28) (H2:bs.length<2^28) :
 bf Tryz.prog 213 [pv p,.int .i64 sX,vb] [.h (ni p c l),.h (au .i64 vb bs)] (λ_=>True) (λ_=>[.h (ni p c (lS c l sX bs)),.h (au .i64 vb bs)]):=by
 intro A F hw hS;refine aH Tryz.func213 λ_=>?_;obtain⟨v0,hS⟩:=ni.open hS .z;dsimp only [MO,aa,af] at hS;have hI:=ah.pG hS (.s (.s .z));obtain⟨ob,cb,rfl,_⟩:=hI.dO;have hq:=xG hS hw;revert hq hS hw;clear hS;refine W cy (J1 bF) ?_<;>(unhygienic intros)
 refine dW (λk fr A'=>A'.Wf/\∃(i:Nat),k=bs.length-i/\i<=bs.length/\fr 0=pv p/\fr 1=.int .i64 sX/\fr 10=.slice ob bs.length cb/\fr 11=.int .i64 bs.length/\fr 12=.int .i64 i/\
  ah A' [.h (ni p c (lS c l sX (bs.take i))),.h (au .i64 (.slice ob bs.length cb) bs),.h F]) bs.length ?_ ?_
 refine⟨hw,0,by simp,by simp,by simp,by simp,by simp,by simp,by simp,?_⟩;have e:lS c l sX (bs.take 0)=l:=by simp [lS]
 rw [e];exact ni.dU (v:=v0) hS (.s .z (.s .z .z));clear hq hI hS hw;rintro k fr A' ⟨hw,i,rfl,hi,h0,h1,QN,DQ,F4,hS⟩;obtain⟨v,hS⟩:=ni.open hS .z;dsimp only [MO,aa,af] at hS;have hI:=ah.pG hS (.s (.s .z));have sS:=K7 c l sX (bs.take i);have htl:(bs.take i).length<=bs.length:=by simp;omega
 have hq:=xG hS hw;refine bh ?_;by_cases cF:i<bs.length
 . have fZ:(i:Int)<bs.length:=(by omega);have hP:=D9 (i:=i);obtain⟨pp,cD,rfl,cH,hcell⟩:=hI.at cF;have IS:bs.take (i+1)=bs.take i++[bs[i]]:=List.take_succ_eq_append_getElem cF;have iR:=sE c tG bs[i] (hb _ (List.getElem_mem cF));dsimp only [bH.v] at iR;by_cases h:0<=c8 c bs[i]
   . repeat' (first|(with_reducible apply SJ;(·first|(simp;done)|(simp;rfl));(·first|(simp;done)|(simp;rfl));(·exact wA);(·exact sA);(·first|exact pA|exact kA);(·first|exact AW.dw _ _|((repeat' (first|apply aB.z|apply aB.s));done)|(simp [hq];(repeat' (first|rfl|refine⟨rfl,?_⟩));done)|(simp;done)|(simp;rfl)|(simp [hq];done)|(simp [hq];rfl));(·first|omega|(simp;omega));(·intro _ _;trivial);rintro _ _ _ hS hw _;(try dsimp only [AW.bx] at hS);have hq:=xG hS hw)|(refine jK λR hR=>?_;simp [an,ax,h0,h1,QN,DQ,F4,hq,cH,hcell,h,cF,fZ,hP,AW.ab,aD];try simp (disch:=omega) only [ay,ap,an,ax])|(refine hR _ _ ?_;clear hR R)|(refine hK _ _ ?_;clear hK K)|refine nx ?_|refine wn λK hK=>?_|simp only [wS]|(refine bV (iR _) ?_;rintro _ _ ⟨rfl,rfl⟩ _ _)|(show cB _ _ _ _ _ _;refine nx ?_)|(refine wc rfl (λhc=>?_) (λhc=>?_)<;>(try simp at hc)<;>(try omega))|(refine ib (λhc=>?_) (λhc=>?_)<;>(try omega)<;>(try simp (disch:=omega) only [ay,ap])))
     refine⟨bs.length-(i+1),by omega,?_,i+1,rfl,by omega,by simp [h0],by simp [h1],by simp [QN],by simp [DQ],by simp,?_⟩
     first|exact hw|exact hw.set _ (hw.lt (hS.g 2 rfl))
     rw [IS,zT,ay h];apply ah.bI;apply ni.dU
     (·exact sA)
     (·first|exact pA|exact kA)
     (·first|exact pA|exact kA)
   revert hq hS hw;(repeat first|clear hq|clear hS|clear hw|revert hc|revert R|revert K);refine W (J1 @iR) (rL h0 h1 QN DQ F4 cH hcell h cF fZ hP bF) ?_<;>(unhygienic intros);refine⟨bs.length-(i+1),by omega,hw,i+1,rfl,by omega,by simp [h0],by simp [h1],by simp [QN],by simp [DQ],by simp,?_⟩;rw [IS,zT,ap h];apply ah.bI;apply ni.dU
   (·exact sA)
   (·first|exact pA|exact kA)
   (·first|exact pA|exact kA)
 have Ki:i=bs.length:=by omega
 subst Ki;rw [List.take_length] at hS;revert hq hS hw;(repeat first|clear hq|clear hS|clear hw|revert hc|revert R|revert K);refine W cy (J6 h0 h1 QN DQ F4 bF) ?_<;>(unhygienic intros);refine⟨_,by first|rfl|(simp;rfl),trivial,?_⟩;exact ni.dU (v:=v) hS (.s .z (.s .z .z))
theorem wX (l:List (Int×Int)) (me:Int) (x:Int×Int):jk (l++[x]) me=if me<x.2 then jk l me++[x] else jk l me:=by
 unfold jk;rw [List.filter_append];by_cases h:me<x.2<;>simp [h]
theorem w9 (c:bH) (l:List (Int×Int)) (me:Int) (x:Int×Int):kH c (l++[x]) me=if me<x.2 then kH c l me else kH c l me++[⟨c8 c x.1,x.1,0,0⟩]:=by
 unfold kH;rw [List.filter_append];by_cases h:me<x.2<;>simp [h]
theorem u5 (p:Nat) (c:bH) (tG:cx c) (l:List (Int×Int)) (me:Int) (hb:∀x∈l,x.1<2^62) (hl:l.length<2^28) :
 d8 Tryz.prog 62 [pv p,.int .i64 me] [.h (ni p c l)] (λdp v=>v=pv dp) (λdp=>[.h (ni p c (jk l me)),.h (yj dp (kH c l me))]):=by
 intro A F hw hS;refine aH Tryz.func62 λ_=>?_;obtain⟨v0,hS⟩:=ni.open hS .z;dsimp only [MO,aa,af] at hS;have hI:=ah.EA hS (.s .z);obtain⟨ob,cb,rfl,_⟩:=hI.dO;have hq:=xG hS hw;revert hq hS hw;clear hS;refine W (J1 (od up)) (J1 bF) ?_<;>(unhygienic intros)
 refine dW (λk fr A'=>A'.Wf/\∃(i:Nat),k=l.length-i/\i<=l.length/\fr 0=pv p/\fr 1=.int .i64 me/\fr 5=pv A.next/\fr 17=.slice ob l.length cb/\fr 18=.int .i64 l.length/\fr 19=.int .i64 i/\
  ah A' [.h (QT (fr 6) (jk (l.take i) me)),.h (yj A.next (kH c (l.take i) me)),.at p (Pc c (.slice ob l.length cb)),.h (QT (.slice ob l.length cb) l),.h F]) l.length ?_ ?_
 have h1:=hS.alloc hw (.cells [.slice none 0 0] true 1);have h2:=ah.nilE (yj.nil h1 .z);refine⟨hw.alloc _,0,by simp,by simp,by simp,by simp,by simp,by simp,by simp,by simp,?_⟩;exact h2;clear hq hI hS;rintro k fr A' ⟨lp,i,rfl,hi,h0,h1,h5,h17,h18,h19,hS⟩;obtain⟨vl,q,NY,hS⟩:=yj.open hS (.s .z);dsimp only [R5,aa,af] at hS;have sS:(jk (l.take i) me).length<=l.length:=by
  have e1:=List.length_filter_le (λx:Int×Int=>decide (me<x.2)) (l.take i);have e2:(l.take i).length<=l.length:=by simp;omega
  unfold jk;omega
 have hal2:(q.map Prod.fst).length<=l.length:=by
  have e0:q.length=(kH c (l.take i) me).length:=by rw [<-NY,List.length_map]
  have e1:=List.length_filter_le (λx:Int×Int=>!decide (me<x.2)) (l.take i);have e2:(l.take i).length<=l.length:=by simp;omega
  unfold kH at e0;rw [List.length_map] at e0 ⊢;omega
 replace hw:=lp;refine bh ?_;by_cases cF:i<l.length
 . have fZ:(i:Int)<l.length:=(by omega);have hP:=D9 (i:=i);obtain⟨pp,cD,rfl,cH,fo,hcell⟩:=ah.entAt hS (.s (.s (.s (.s (.s .z))))) cF;have IS:l.take (i+1)=l.take i++[l[i]]:=List.take_succ_eq_append_getElem cF;have iR:=sE c tG l[i].1 (hb _ (List.getElem_mem cF));dsimp only [bH.v] at iR;have hq:=xG hS hw;by_cases h:me<l[i].2
   . repeat' (first|(with_reducible apply SJ;(·first|(simp;done)|(simp;rfl));(·first|(simp;done)|(simp;rfl));(·exact wA);(·exact sA);(·first|exact pA|exact kA);(·first|exact AW.dw _ _|((repeat' (first|apply aB.z|apply aB.s));done)|(simp [hq];(repeat' (first|rfl|refine⟨rfl,?_⟩));done)|(simp;done)|(simp;rfl)|(simp [hq];done)|(simp [hq];rfl));(·first|omega|(simp;omega));(·intro _ _;trivial);rintro _ _ _ hS hw _;(try dsimp only [AW.bx] at hS);have hq:=xG hS hw)|(refine jK λR hR=>?_;simp [an,ax,h0,h1,h5,h17,h18,h19,hq,cH,fo,hcell,h,cF,fZ,hP,AW.ab,aD];try simp (disch:=omega) only [ay,ap,an,ax])|(refine hR _ _ ?_;clear hR R)|(refine hK _ _ ?_;clear hK K)|refine nx ?_|refine wn λK hK=>?_|simp only [wS,up]|refine wl Tryz.mx up (by decide +kernel) λK hK=>?_|(show cB _ _ _ _ _ _;refine nx ?_)|(refine wc rfl (λhc=>?_) (λhc=>?_)<;>(try simp at hc)<;>(try omega))|(refine ib (λhc=>?_) (λhc=>?_)<;>(try omega)<;>(try simp (disch:=omega) only [ay,ap])))
     refine⟨l.length-(i+1),by omega,hw,i+1,rfl,by omega,by simp [h0],by simp [h1],by simp [h5],by simp [h17],by simp [h18],by simp,?_⟩;rw [IS,wX,ay h,w9,ay h];simp;apply ah.bI;apply yj.dU NY
     (·exact sA)
     (·first|exact pA|exact kA)
     (·first|exact pA|exact kA)
   . repeat' (first|(with_reducible apply Ue;(·first|(simp;done)|(simp;rfl));(·first|(simp;done)|(simp;rfl));(·exact wA);(·exact sA);(·first|exact pA|exact kA);(·first|exact AW.dw _ _|((repeat' (first|apply aB.z|apply aB.s));done)|(simp [hq];(repeat' (first|rfl|refine⟨rfl,?_⟩));done)|(simp;done)|(simp;rfl)|(simp [hq];done)|(simp [hq];rfl));(·first|omega|(simp;omega));(·intro _ _;trivial);rintro _ _ _ hS hw _;(try dsimp only [AW.bx] at hS);have hq:=xG hS hw)|(refine jK λR hR=>?_;simp [an,ax,h0,h1,h5,h17,h18,h19,hq,cH,fo,hcell,h,cF,fZ,hP,AW.ab,aD];try simp (disch:=omega) only [ay,ap,an,ax])|(refine hR _ _ ?_;clear hR R)|(refine hK _ _ ?_;clear hK K)|refine nx ?_|refine wn λK hK=>?_|simp only [wS,up]|refine wl Tryz.mx up (by decide +kernel) λK hK=>?_|(refine bV (iR _) ?_;rintro _ _ ⟨rfl,rfl⟩ _ _)|(refine bV (xx _ _ _) ?_;rintro _ _ ⟨rfl,rfl⟩ _ _)|(show cB _ _ _ _ _ _;refine nx ?_)|(refine wc rfl (λhc=>?_) (λhc=>?_)<;>(try simp at hc)<;>(try omega))|(refine ib (λhc=>?_) (λhc=>?_)<;>(try omega)<;>(try simp (disch:=omega) only [ay,ap])))
     simp only [List.length_map] at hS;refine⟨l.length-(i+1),by omega,?_,i+1,rfl,by omega,by simp [h0],by simp [h1],by simp [h5],by simp [h17],by simp [h18],by simp,?_⟩;exact wA;rw [IS,wX,ap h,w9,ap h];simp;apply ah.bI;apply yj.lz NY
     (·exact sA)
     (·first|exact pA|exact kA)
     (·first|exact pA|exact kA)
     (·first|exact pA|exact kA)
     (·first|exact pA|exact kA)
     (·first|exact pA|exact kA)
 have Ki:i=l.length:=by omega
 subst Ki;rw [List.take_length] at hS NY;obtain⟨o6,c6,h6,_⟩:=(ah.EA hS (.s (.s (.s .z)))).dO;rw [h6] at hS;have hq:=xG hS hw;revert hq hS hw;(repeat first|clear hq|clear hS|clear hw|revert hc|revert R|revert K);refine W (J1 (od up)) (J8 h0 h1 h5 h6 h17 h18 h19 bF) ?_<;>(unhygienic intros);refine⟨_,by first|rfl|(simp [h5];rfl),?_⟩;apply u9
 (·first|rfl|(simp;done))
 apply ah.bI;apply ni.dU;apply yj.dU NY
 (·exact sA)
 (·first|exact pA|exact kA)
 (·first|exact pA|exact kA)
 (·first|exact pA|exact kA)
theorem L2 (p:Nat) (o:Option Addr) (n c:Nat) (A:AW) (hg:A.bt p=some (.cells [.slice o n c] true 1)):et 66 [pv p] A (.bool (decide (n=0))):=by
 refine aH Tryz.func66 λ_=>?_;refine W cy (J2 hg @AW.ab) ?_<;>intros;exact⟨_,by first|rfl|(simp;rfl),by simp,rfl⟩
theorem Iq (p:Nat) (l:List eZ):bf Tryz.prog 66 [pv p] [.h (yj p l)] (λv=>v=.bool (decide (l.length=0))) (λ_=>[.h (yj p l)]):=by
 intro A F hw hS;obtain⟨vl,q,NY,hS⟩:=yj.open hS .z;dsimp only [R5,aa,af] at hS;obtain⟨o,c,rfl,_⟩:=(ah.EA hS (.s .z)).dO;have VY:q.length=l.length:=by rw [<-NY,List.length_map]
 refine(L2 p o _ c A (hS.g 0 rfl)).mono ?_;rintro _ _ ⟨rfl,rfl⟩;exact⟨by simp [VY],yj.dU NY hS (.s .z (.s .z (.s .z .z)))⟩
theorem Ip (p pb:Nat) (x:eZ) (l:List eZ) (M:Mm) (hl:l.length<2^29) :
 bf Tryz.prog 64 [pv p,pv pb] [.h (yj p (x::l)),dH pb M] (λv=>v=(wF (x::l) M).1.v) (λ_=>[.h (yj p (wF (x::l) M).2.1),dH pb (wF (x::l) M).2.2]):=by
 intro A F hw di;refine aH Tryz.func64 λ_=>?_;dsimp only [aa,af] at di;obtain⟨vl,q,NY,hS⟩:=yj.open di .z;clear di;dsimp only [R5,aa,af] at hS;cases q with
 | nil=>cases NY
 | cons y q=>
   obtain⟨n,x'⟩:=y;obtain⟨h1,hqn⟩:=List.cons.inj NY;clear NY;dsimp only at h1;subst h1;rw [List.map_cons] at hS;dsimp only at hS;have iI:=ah.Wy hS (.s (.s .z));clear hS;obtain⟨bb,off,c,cD,rfl,IV,yR,cH,hS,iR⟩:=ah.Rb iI (.s (.s (.s .z)));clear iI;have hd:=λA hg=>L2 p (some ⟨bb,off,none⟩) ((q.map Prod.fst).length+1) c A hg;rw [decide_eq_false (by omega)] at hd;have hlq:(q.map Prod.fst).length=l.length:=(by rw [<-hqn,List.length_map,List.length_map]);rw [hlq] at hS hd iR IV yR;have hc3:off<cD.length:=(by omega);have e1:(1:Int)<=(l.length:Int)+1:=(by omega);have e0:(0:Int)<(l.length:Int)+1:=(by omega);have hpd:=λA hg=>uZ n (ct x' M).2.1 A hg;have hcl1:=λA' L' K' h1 h2=>(iR A' L' K' h1 h2).1;have hcl2:=λA' L' K' h1 h2=>(iR A' L' K' h1 h2).2;unfold wF;have hq:=xG hS hw;by_cases h:(ct x' M).2.1.br=3
   . rw [decide_eq_true h] at hpd;revert hq hS hw;refine W (J3 (Tg.mk (n:=10) (λ{A L K k}=>k9 (A:=A) (L:=L) (K:=K) (k:=k) hd)) (Tg.mk (n:=10) (λ{A L K k}=>k9 (A:=A) (L:=L) (K:=K) (k:=k) hpd)) (pQ n pb x' M)) (J9 cH IV e1 e0 @wJ.eq_1 @eo.eq_1 bF @bd.eq_1 @aU.v.eq_1) ?_<;>(unhygienic intros);refine⟨_,by first|rfl|(simp [hq,AW.ab,aD];rfl),by first|rfl|(simp [aU.v];done),?_⟩;rw [ay h];apply ah.bI;apply yj.dU hqn;apply hcl2
     (·exact sA)
     (·first|exact pA|exact kA)
     dsimp only [R5]
     (·first|exact pA|exact kA)
     (·first|exact pA|exact kA)
   rw [decide_eq_false h] at hpd;revert hq hS hw;(repeat first|clear hq|clear hS|clear hw|revert hc|revert R|revert K);refine W (J3 (Tg.mk (n:=10) (λ{A L K k}=>k9 (A:=A) (L:=L) (K:=K) (k:=k) hd)) (Tg.mk (n:=10) (λ{A L K k}=>k9 (A:=A) (L:=L) (K:=K) (k:=k) hpd)) (pQ n pb x' M)) (J9 cH IV e1 e0 @wJ.eq_1 @eo.eq_1 bF @bd.eq_1 @aU.v.eq_1) ?_<;>(unhygienic intros);refine⟨_,by first|rfl|(simp [hq,AW.ab,aD];rfl),by first|rfl|(simp [aU.v];done),?_⟩;rw [ap h];apply ah.bI;apply yj.dU (q:=(n,(ct x' M).2.1)::q) (by rw [List.map_cons,hqn]);apply ah.Wz (n:=n) (p:=(ct x' M).2.1) (q:=q);apply hcl1
   (·exact sA)
   (·first|exact pA|exact kA)
   (·first|exact pA|exact kA)
   (·first|exact pA|exact kA)
   dsimp only [R5,List.map_cons]
   (·first|exact pA|exact kA)
   (·first|exact pA|exact kA)
end
end Go.Stx
