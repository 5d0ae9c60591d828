/-
 The program's attempt: what follows a read and a pop.
-/
import Derived.Test.YtncmjklabcoeaaaGreatD19
set_option linter.unusedVariables false
set_option linter.unusedSimpArgs false
set_option maxRecDepth 20000
set_option maxHeartbeats 4000000
namespace Go.Stx
open Go Go.Proofs
attribute [local irreducible] fj cm aH bB dK ei
section
abbrev uM:List (Nat×Nat):=[(0,0),(1,0),(2,0),(3,0),(4,0),(5,0),(6,0),(7,0),(8,0),(9,0),(10,0),(11,0),(12,0)]
open T15 T16
theorem lR (s:ln) (a v:Int):(di s a v).2.dA=s.dA∧(di s a v).2.index.length=s.index.length∧(∀x∈(di s a v).2.bl,x∈s.bl∨x=a):=by
 unfold di
 split
 · exact⟨rfl,rfl,fun x hx=>.inl hx⟩
 · split
   · exact⟨rfl,rfl,fun x hx=>.inl hx⟩
   · exact⟨rfl,by simp,fun x hx=>by simpa using hx⟩
theorem ep.put {s:aD} (hC:ep s) {a:Int} (ha:0≤a∧a<2^40) (v:Int):ep { s with aM:=(di s.aM a v).2 }:=by
 obtain⟨h1,h2,h3⟩:=lR s.aM a v
 refine⟨hC.cf,hC.G2,sM hC.aM ha.1 v,?_,?_,?_,hC.GU,hC.kN,hC.push,hC.set,hC.EG,hC.EQ⟩
 · show (di s.aM a v).2.dA≤32
   rw [h1];exact hC.dA
 · show (di s.aM a v).2.index.length≤64
   rw [h2];exact hC.cc
 · intro x hx
   rcases h3 x hx with h|rfl
   · exact hC.I6 x h
   · exact ha.2
theorem wT (s:aD) (b st:Int):(¬st=IntKind.u64.wrap (IntKind.u64.wrap (ds s.cf b)+1)∧jX s b st=nN s 8) ∨
 ((st=IntKind.u64.wrap (IntKind.u64.wrap (ds s.cf b)+1)∧s.cf.ap≤s.ap.length)∧jX s b st=gy s 3) ∨
 (((st=IntKind.u64.wrap (IntKind.u64.wrap (ds s.cf b)+1)∧¬s.cf.ap≤s.ap.length)∧(di s.aM (s.cf.aF+b) 0).1=true)∧jX s b st={ s with aM:=(di s.aM (s.cf.aF+b) 0).2,ap:=s.ap++[b] }) ∨
 (((st=IntKind.u64.wrap (IntKind.u64.wrap (ds s.cf b)+1)∧¬s.cf.ap≤s.ap.length)∧(di s.aM (s.cf.aF+b) 0).1=false)∧jX s b st=gy s 3):=by
 unfold jX
 by_cases h1:st=IntKind.u64.wrap (IntKind.u64.wrap (ds s.cf b)+1)
 · by_cases h2:s.cf.ap≤s.ap.length
   · simp [h1,h2]
   · cases h3:(di s.aM (s.cf.aF+b) 0).1<;>simp [h1,h2,iI,h3]
 · simp [h1]
theorem zO (b:Nat) (s:aD) (k st:Int) (hd:s.aA=.bm) (hC:ep s) (hk:0≤k∧k<s.cf.nb) :
 aP Tryz.prog 180 [pv b,.int .i64 k,.int .u64 st] [.h (bI b s)] (fun _=>True) (fun _=>[.h (bI b (jX s k st))]):=by
 have pO:=wT s k st
 have GP:=sD s (s.cf.aF+k) 0
 obtain⟨cf,ag,av,ax,value,br,ai,ah,ac,ap,set,aM,ao,aj,aG,aE,am,aA⟩:=s
 dsimp only at hd
 subst hd
 intro A F hw hS
 refine ab Tryz.func180 rfl (by kernel_rfl) fun _=>?_
 obtain⟨⟨bh,aY,az,aJ,aK,m,c0,c1,c2,bx,aw,aB,aV,bQ,bg,cE,aW,aU,aC,bA,bC,cP,bR⟩,hS⟩:=bI.open hS .z
 dsimp only [cg,fq,bW,da,ba.eo,na,zo] at hS
 have hq:=ZN hS hw
 dsimp only at pO hk GP
 have QF:=hC.EQ
 dsimp only at QF
 have xv:=hC.cf.nb
 have Nc:=hC.cf.aF
 dsimp only at xv Nc
 have iz:=zZ cf hC.cf k (by omega)
 dsimp only [bG.v] at iz
 obtain⟨Tx,U1,rfl,_⟩:=(an.gM hS (.s (.s (.s (.s (.s (.s (.s (.s .z))))))))).cL
 have DF:IntKind.i64.wrap (cf.aF+k)=cf.aF+k:=ak (by omega) (by omega)
 rcases pO with ⟨h,e⟩|⟨h,e⟩|⟨h,e⟩|⟨h,e⟩
 · rw [e]
   revert hq hS hw;clear hS;refine Wp (J3 (Tg.mk (n:=21) (sk b ⟨cf,ag,av,ax,value,br,ai,ah,ac,ap,set,aM,ao,aj,aG,aE,am,.bm⟩ 8 rfl hC)) (od uM) @iz) (J3 h @AW.aa @af.eq_1) (J1 ?_)<;>unhygienic intros
   exact⟨_,by first|rfl|(simp;rfl),trivial,an.cC hS (.s .z (.s .z .z))⟩
 · rw [e]
   revert hq hS hw;(repeat first|clear hq|clear hS|clear hw|revert hc|revert zn|revert zA|revert R|revert K);refine Wp (J3 (Tg.mk (n:=20) (iO b ⟨cf,ag,av,ax,value,br,ai,ah,ac,ap,set,aM,ao,aj,aG,aE,am,.bm⟩ 0 3 .bm hC.cf hC.al hC.push (Nat.lt_of_le_of_lt hC.kN (by decide)))) (od uM) @iz) (J3 h @AW.aa @af.eq_1) (J1 ?_)<;>unhygienic intros
   exact⟨_,by first|rfl|(simp;rfl),trivial,an.cC hS (.s .z (.s .z .z))⟩
 · rw [e]
   have HM:=rL b ⟨cf,ag,av,ax,value,br,ai,ah,ac,ap,set,aM,ao,aj,aG,aE,am,.bm⟩ (cf.aF+k) 0 rfl hC (by omega)
   rcases GP with ⟨h9,e9⟩|⟨h9,e9⟩
   · rw [e9] at HM
     repeat' (first
     | (with_reducible apply Kj;(·first|(simp;done)|(simp;rfl));(·first|(simp;done)|(simp;rfl));(·exact wA);(·exact sA);(·first|exact pP|exact kP);(·first|(simp;done)|(simp;rfl)|(simp [hq];done)|(simp [hq];rfl));(·first|omega|(simp;omega));(·intro _ _;trivial);rintro _ _ _ hS hw _;(try dsimp only [AW.aZ] at hS);have hq:=ZT hS hw)
     | (refine il fun R hR=>?_;simp [ak,au,hq,h,DF,AW.aa,af];try simp (disch:=omega) only [if_pos,if_neg,ak,au])
     | (refine hR _ _ ?_;clear hR R)|(refine hK _ _ ?_;clear hK K)|refine nx ?_
     | refine wn fun K hK=>?_
     | simp only [wS,uM]
     | refine wl Tryz.mx uM (by decide +kernel) fun K hK=>?_
     | (refine bD (iz _) ?_;rintro _ _ ⟨rfl,rfl⟩ _ _)
     | (apply aP.xU (HM);(·exact wA);(·exact sA);(·exact fP);(·first|exact pP|exact kP);(rintro _ _ rfl hS hw _;have hS:=lA hS;(obtain ⟨⟨bh,aY,az,aJ,aK,m,c0,c1,c2,bx,aw,aB,aV,bQ,bg,cE,aW,aU,aC,bA,bC,cP,bR⟩,hS⟩:=bI.open hS .z;dsimp only [cg,fq,bW,da,ba.eo,na,zo] at hS;have hq:=ZN hS hw));all_goals(try (first|exact 0|exact undef)))
     | refine wb ?_|refine wr ?_|refine wk ?_|refine we ?_|refine ws ?_|refine wq ?_
     | (refine wc rfl (fun hc=>?_) (fun hc=>?_)<;>(try simp at hc)<;>(try omega)<;>(try (simp [h2] at hc;done))<;>(try (simp [h3] at hc;done))<;>(try (simp [h4] at hc;done)))
     | (refine ib (fun hc=>?_) (fun hc=>?_)<;>(try omega)<;>(try simp (disch:=omega) only [if_pos,if_neg])))
     refine⟨_,by first|rfl|(simp;rfl),trivial,?_⟩
     apply bI.cC
     (·exact sA)
     (dsimp only [cg,fi,fq,bW,da,ba.eo,bJ,aT,aQ,dT,cY,dV,fC,cZ,cW,bV,dU,dR,fB,dS,na,zo])
     try simp only [h]
     (·first|exact pP|exact kP)
     (·first|exact pP|exact kP)
     all_goals(first|exact 0|exact undef)
   · rw [h.2] at h9;cases h9
 · rw [e]
   have HM:=rL b ⟨cf,ag,av,ax,value,br,ai,ah,ac,ap,set,aM,ao,aj,aG,aE,am,.bm⟩ (cf.aF+k) 0 rfl hC (by omega)
   rcases GP with ⟨h9,e9⟩|⟨h9,e9⟩
   · rw [h.2] at h9;cases h9
   · rw [e9] at HM
     revert hq hS hw;(repeat first|clear hq|clear hS|clear hw|revert hc|revert zn|revert zA|revert R|revert K);refine Wp (J3 (Tg.mk (n:=21) @HM) (od uM) @iz) (J4 h DF @AW.aa @af.eq_1) (J1 ?_)<;>unhygienic intros
     exact⟨_,by first|rfl|(simp;rfl),trivial,an.cC hS (.s .z (.s .z .z))⟩
end
section
open T15 T16
def Kd (b:Nat) (s:aD) (cj:Int) (p:mN):HP:=rt fun f:pL=>bn (cg b s cj (.eE p) f++[.at f.m (ll p)])
theorem Kd.open {A:AW} {L K:List It} {b:Nat} {s:aD} {cj:Int} {p:mN} (h:an A L) (hp:ay L (.h (Kd b s cj p)) K):∃f,an A (cg b s cj (.eE p) f++[.at f.m (ll p)]++K):=mo h hp
theorem aP.QX {P:Program} {f:FuncId} {args:List Value} {pd:List It} {φ:Value→Prop} {post:Value→List It} {b:Nat} {s:aD} {cj:Int} {p:mN} (hc:aP P f args (.h (Kd b s cj p)::pd) φ post) {A:AW} {L K:List It} {bh aY az aJ aK m c0 c1 c2:Nat} {bx aw aB aV bQ bg cE aW aU aC bA bC cP bR:Value} {K0:List It} {k:Value→AW→Prop} (hw:A.Wf) (hS:an A L)
 (e:aX L (cg b s cj (.eE p) ⟨bh,aY,az,aJ,aK,m,c0,c1,c2,bx,aw,aB,aV,bQ,bg,cE,aW,aU,aC,bA,bC,cP,bR⟩++[.at m (ll p)]) K0) (e2:aX K0 pd K) (hk:∀v A',φ v→an A' (post v++K)→A'.Wf→A.next≤A'.next→k v A'):aH P f args A k:=
 aP.el hc hw (k4 (g:=fun f:pL=>cg b s cj (.eE p) f++[.at f.m (ll p)]) ⟨bh,aY,az,aJ,aK,m,c0,c1,c2,bx,aw,aB,aV,bQ,bg,cE,aW,aU,aC,bA,bC,cP,bR⟩ hS e) (.s .z e2) hk
theorem wo (n:Nat) (a:Int) (s:aD):hY (n+1) a s=if (iI s a 0).1=true then hY n (a+1) (iI s a 0).2 else (false,(iI s a 0).2):=rfl
theorem wm (a:Int) (s:aD):hY 0 a s=(true,s):=rfl
theorem Al (b:Nat) (s:aD) (p:mN) (hC:ep { s with aA:=.bm }) (uZ:s.ac.length<8) (hp:p.block<s.cf.nb) (iz:0≤p.dB∧p.dB≤3) :
 aP Tryz.prog 81 [pv b,.int .i64 p.dB] [.h (Kd b { s with aA:=.bm } 0 p)] (fun _=>True) (fun _=>[.h (bI b (fV { s with aA:=.bm } p.dB p.block))]):=by
 obtain⟨cf,ag,av,ax,value,br,ai,ah,ac,ap,set,aM,ao,aj,aG,aE,am,aA⟩:=s
 obtain⟨dB,SH,Iv,Is,gi⟩:=p
 dsimp only at hC uZ hp iz ⊢
 intro A F hw hS
 refine ab Tryz.func81 rfl (by kernel_rfl) fun _=>?_
 obtain⟨⟨bh,aY,az,aJ,aK,m,c0,c1,c2,bx,aw,aB,aV,bQ,bg,cE,aW,aU,aC,bA,bC,cP,bR⟩,hS⟩:=Kd.open hS .z
 dsimp only [cg,fq,bW,da,ba.eo,na,zo] at hS
 have hq:=ZN hS hw
 have xv:=hC.cf.nb
 have Nc:=hC.cf.aF
 dsimp only at xv Nc
 have DH:=Br m ⟨dB,SH,Iv,Is,gi⟩
 by_cases h:gi<0
 · have e:fV ⟨cf,ag,av,ax,value,br,ai,ah,ac,ap,set,aM,ao,aj,aG,aE,am,.bm⟩ dB gi=gy ⟨cf,ag,av,ax,value,br,ai,ah,ac,ap,set,aM,ao,aj,aG,aE,am,.bm⟩ 4:=if_pos h
   rw [e]
   repeat' (first
   | (refine il fun R hR=>?_;simp [ak,au,hq,h,AW.aa,af];try simp (disch:=omega) only [if_pos,if_neg,ak,au])
   | (refine hR _ _ ?_;clear hR R)|(refine hK _ _ ?_;clear hK K)|refine nx ?_
   | refine wn fun K hK=>?_
   | simp only [wS]
   | (refine bD (DH _ (by simp [hq])) ?_;rintro _ _ ⟨rfl,rfl⟩ _ _)
   | (apply aP.Jb (iO b ⟨cf,ag,av,ax,value,br,ai,ah,ac,ap,set,aM,ao,aj,aG,aE,am,.bm⟩ 0 4 (.eE ⟨dB,SH,Iv,Is,gi⟩) hC.cf hC.al hC.push (Nat.lt_of_le_of_lt hC.kN (by decide)));(·exact wA);(·exact sA);(·exact fP);(·first|exact pP|exact kP);(rintro _ _ _ hS hw _;have hS:=lA hS);(try (have hq:=ZT hS hw));all_goals(try (first|exact 0|exact undef)))
   | refine wb ?_|refine wr ?_|refine wk ?_|refine we ?_|refine ws ?_|refine wq ?_
   | (refine wc rfl (fun hc=>?_) (fun hc=>?_)<;>(try simp at hc)<;>(try omega)<;>(try (simp [h2] at hc;done))<;>(try (simp [h3] at hc;done))<;>(try (simp [h4] at hc;done)))
   | (refine ib (fun hc=>?_) (fun hc=>?_)<;>(try omega)<;>(try simp (disch:=omega) only [if_pos,if_neg])))
   refine⟨_,by first|rfl|(simp;rfl),trivial,?_⟩
   apply an.cC hS
   (·first|exact pP|exact kP)
 · have DF:IntKind.i64.wrap (cf.aF+gi)=cf.aF+gi:=ak (by omega) (by omega)
   have JE:IntKind.u64.wrap (IntKind.u64.wrap dB+1)=dB+1:=by
    rw [au (x:=dB) (by omega) (by omega),au (by omega) (by omega)]
   have NL:ep ⟨cf,ag,av,ax,value,br,ai,ah,ac++[gi],ap,set,aM,ao,aj,aG,aE,am,.bm⟩:=by
    refine⟨hC.cf,hC.G2,hC.aM,hC.dA,hC.cc,hC.I6,?_,?_,?_,hC.set,hC.EG,hC.EQ⟩
    · intro x hx
      rcases List.mem_append.1 hx with h1|h1
      · exact hC.GU x h1
      · simp at h1;subst h1;omega
    · show (ac++[gi]).length≤8
      simp;omega
    · show am≤(ac++[gi]).length
      have:=hC.push
      dsimp only at this
      simp;omega
   have HM:=rL b ⟨cf,ag,av,ax,value,br,ai,ah,ac++[gi],ap,set,aM,ao,aj,aG,aE,am,.bm⟩ (cf.aF+gi) (dB+1) rfl NL (by omega)
   have e:fV ⟨cf,ag,av,ax,value,br,ai,ah,ac,ap,set,aM,ao,aj,aG,aE,am,.bm⟩ dB gi =
    if (iI ⟨cf,ag,av,ax,value,br,ai,ah,ac++[gi],ap,set,aM,ao,aj,aG,aE,am,.bm⟩ (cf.aF+gi) (dB+1)).1=true then
     if (hY (2 ^ dB.toNat) (eL cf gi) (iI ⟨cf,ag,av,ax,value,br,ai,ah,ac++[gi],ap,set,aM,ao,aj,aG,aE,am,.bm⟩ (cf.aF+gi) (dB+1)).2).1=true then { (hY (2 ^ dB.toNat) (eL cf gi) (iI ⟨cf,ag,av,ax,value,br,ai,ah,ac++[gi],ap,set,aM,ao,aj,aG,aE,am,.bm⟩ (cf.aF+gi) (dB+1)).2).2 with value:=IntKind.u64.wrap (eL cf gi) }
     else (hY (2 ^ dB.toNat) (eL cf gi) (iI ⟨cf,ag,av,ax,value,br,ai,ah,ac++[gi],ap,set,aM,ao,aj,aG,aE,am,.bm⟩ (cf.aF+gi) (dB+1)).2).2
    else (iI ⟨cf,ag,av,ax,value,br,ai,ah,ac++[gi],ap,set,aM,ao,aj,aG,aE,am,.bm⟩ (cf.aF+gi) (dB+1)).2:=if_neg h
   rcases sD ⟨cf,ag,av,ax,value,br,ai,ah,ac++[gi],ap,set,aM,ao,aj,aG,aE,am,.bm⟩ (cf.aF+gi) (dB+1) with ⟨h9,e9⟩|⟨h9,e9⟩
   · have zM:=NL.put (a:=cf.aF+gi) (by omega) (dB+1)
     rw [e9] at HM e
     rw [if_pos rfl] at e
     rw [e]
     dsimp only at HM zM ⊢
     have Kq:=zP cf hC.cf gi (by omega)
     dsimp only [bG.v] at Kq
     have Mv:¬dB<0:=by omega
     obtain⟨n,hn⟩:∃n,2 ^ dB.toNat=n:=⟨_,rfl⟩
     have XS:n≤8:=by
      have h4:dB=0∨dB=1∨dB=2∨dB=3:=by omega
      rcases h4 with rfl|rfl|rfl|rfl<;>(rw [←hn];decide)
     have Ps:mt .shl .i64 1 dB=some (.int .i64 (n:Int)):=by
      have h4:dB=0∨dB=1∨dB=2∨dB=3:=by omega
      rw [←hn]
      rcases h4 with rfl|rfl|rfl|rfl<;>rfl
     obtain⟨_,V2,V1⟩:=nL hC.cf gi (by dsimp only;omega)
     dsimp only at V2 V1
     have Kr:eL cf gi≤64:=by
      have h5:(0:Int)<2 ^ (ds cf gi).toNat:=Int.pow_pos (by omega)
      omega
     rw [hn]
     generalize eL cf gi=fst at *
     repeat' (first
     | (with_reducible apply Kj;(·first|(simp;done)|(simp;rfl));(·first|(simp;done)|(simp;rfl));(·exact wA);(·exact sA);(·first|exact pP|exact kP);(·first|(simp;done)|(simp;rfl)|(simp [hq];done)|(simp [hq];rfl));(·first|omega|(simp;omega));(·intro _ _;trivial);rintro _ _ _ hS hw _;(try dsimp only [AW.aZ] at hS);have hq:=ZT hS hw)
     | (refine il fun R hR=>?_;simp [ak,au,hq,h,DF,JE,Ps,AW.aa,af];try simp (disch:=omega) only [if_pos,if_neg,ak,au])
     | (refine hR _ _ ?_;clear hR R)|(refine hK _ _ ?_;clear hK K)|refine nx ?_
     | refine wn fun K hK=>?_
     | simp only [wS]
     | (refine bD (DH _ (by simp [hq])) ?_;rintro _ _ ⟨rfl,rfl⟩ _ _)
     | (refine bD (Kq _) ?_;rintro _ _ ⟨rfl,rfl⟩ _ _)
     | (apply aP.xU (HM);(·exact wA);(·exact sA);(·exact fP);(·first|exact pP|exact kP);(rintro _ _ rfl hS hw _;have hS:=lA hS;(obtain ⟨⟨bh,aY,az,aJ,aK,m,c0,c1,c2,bx,aw,aB,aV,bQ,bg,cE,aW,aU,aC,bA,bC,cP,bR⟩,hS⟩:=bI.open hS .z;dsimp only [cg,fq,bW,da,ba.eo,na,zo] at hS;have hq:=ZN hS hw));all_goals(try (first|exact 0|exact undef)))
     | refine wb ?_|refine wr ?_|refine wk ?_|refine we ?_|refine ws ?_|refine wq ?_
     | (refine wc rfl (fun hc=>?_) (fun hc=>?_)<;>(try simp at hc)<;>(try omega)<;>(try (simp [h2] at hc;done))<;>(try (simp [h3] at hc;done))<;>(try (simp [h4] at hc;done)))
     | (refine ib (fun hc=>?_) (fun hc=>?_)<;>(try omega)<;>(try simp (disch:=omega) only [if_pos,if_neg])))
     refine ed (fun kk fr A'=>A'.Wf∧∃(i:Nat) (si:aD),kk=n-i∧i≤n∧fr 0=pv b∧fr 5=.int .i64 fst∧fr 49=.int .i64 n∧fr 50=.int .i64 i∧si.aA=.bm∧ep si∧
      hY n fst ⟨cf,ag,av,ax,value,br,ai,ah,ac++[gi],ap,set,(di aM (cf.aF+gi) (dB+1)).2,ao,aj,aG,aE,am,.bm⟩=hY (n-i) (fst+i) si∧an A' [.h (bI b si),.h F]) n ?_ ?_
     · refine⟨hw,0,⟨cf,ag,av,ax,value,br,ai,ah,ac++[gi],ap,set,(di aM (cf.aF+gi) (dB+1)).2,ao,aj,aG,aE,am,.bm⟩,by simp,by simp,by simp,by simp,by simp,by simp,rfl,zM,by simp,?_⟩
       apply bI.cC
       (·exact sA)
       (dsimp only [cg,fi,fq,bW,da,ba.eo,bJ,aT,aQ,dT,cY,dV,fC,cZ,cW,bV,dU,dR,fB,dS,na,zo])
       try simp only [h]
       (·first|exact pP|exact kP)
       (·first|exact pP|exact kP)
       all_goals(first|exact 0|exact undef)
     · clear hS hq
       rintro kk fr A' ⟨hw,i,si,rfl,hi,h0,h5,S9,US,ST,Wg,hz,hS⟩
       refine eW ?_
       by_cases dQ:i<n
       · have ey:(i:Int)<n:=by omega
         have mc:IntKind.i64.wrap ((i:Int)+1)=((i+1:Nat):Int):=ak (by omega) (by omega)
         have Kk:IntKind.i64.wrap (fst+(i:Int))=fst+(i:Int):=ak (by omega) (by omega)
         have RB:n-i=(n-(i+1))+1:=by omega
         have Nm:=rL b si (fst+i) 0 ST Wg (by omega)
         rw [RB,wo] at hz
         rcases sD si (fst+i) 0 with ⟨g9,f9⟩|⟨g9,f9⟩
         · rw [f9] at Nm hz
           rw [if_pos rfl] at hz
           revert hq hS hw;(repeat first|clear hq|clear hS|clear hw|revert hc|revert zn|revert zA|revert R|revert K);refine Wp (J1 @Nm) (J9 h0 h5 S9 US ey mc Kk @AW.aa @af.eq_1) (J1 ?_)<;>unhygienic intros
           refine⟨n-(i+1),by omega,hw,i+1,{ si with aM:=(di si.aM (fst+i) 0).2 },rfl,by omega,by simp [h0],by simp [h5],by simp [S9],by simp,ST,Wg.put (by omega) 0,?_,hS⟩
           rw [hz]
           have:fst+(i:Int)+1=fst+((i+1:Nat):Int):=by omega
           rw [this]
         · rw [f9] at Nm hz
           rw [if_neg (by simp)] at hz
           revert hq hS hw;(repeat first|clear hq|clear hS|clear hw|revert hc|revert zn|revert zA|revert R|revert K);refine Wp (J1 @Nm) (J9 h0 h5 S9 US ey mc Kk @AW.aa @af.eq_1) (J1 ?_)<;>unhygienic intros
           refine⟨_,by first|rfl|(simp;rfl),trivial,?_⟩
           rw [hz,if_neg (by simp)]
           exact hS
       · have zG:i=n:=by omega
         subst zG
         rw [Nat.sub_self,wm] at hz
         obtain⟨cf,ag,av,ax,value,br,ai,ah,ac,ap,set,aM,ao,aj,aG,aE,am,aA⟩:=si
         dsimp only at ST
         subst ST
         obtain⟨⟨bh,aY,az,aJ,aK,m,c0,c1,c2,bx,aw,aB,aV,bQ,bg,cE,aW,aU,aC,bA,bC,cP,bR⟩,hS⟩:=bI.open hS .z
         dsimp only [cg,fq,bW,da,ba.eo,na,zo] at hS
         have hq:=ZN hS hw
         revert hq hS hw;(repeat first|clear hq|clear hS|clear hw|revert hc|revert zn|revert zA|revert R|revert K);refine Wp trivial (J6 h0 h5 S9 US @AW.aa @af.eq_1) (J1 ?_)<;>unhygienic intros
         refine⟨_,by first|rfl|(simp;rfl),trivial,?_⟩
         rw [hz,if_pos rfl,show IntKind.u64.wrap fst=fst from au (by omega) (by omega)]
         apply bI.cC
         (·exact sA)
         (dsimp only [cg,fi,fq,bW,da,ba.eo,bJ,aT,aQ,dT,cY,dV,fC,cZ,cW,bV,dU,dR,fB,dS,na,zo])
         try simp only [h]
         (·first|exact pP|exact kP)
         (·first|exact pP|exact kP)
         all_goals(first|exact 0|exact undef)
   · rw [e9] at HM e
     rw [if_neg (by simp)] at e
     rw [e]
     dsimp only at HM ⊢
     repeat' (first
     | (with_reducible apply Kj;(·first|(simp;done)|(simp;rfl));(·first|(simp;done)|(simp;rfl));(·exact wA);(·exact sA);(·first|exact pP|exact kP);(·first|(simp;done)|(simp;rfl)|(simp [hq];done)|(simp [hq];rfl));(·first|omega|(simp;omega));(·intro _ _;trivial);rintro _ _ _ hS hw _;(try dsimp only [AW.aZ] at hS);have hq:=ZT hS hw)
     | (refine il fun R hR=>?_;simp [ak,au,hq,h,DF,JE,AW.aa,af];try simp (disch:=omega) only [if_pos,if_neg,ak,au])
     | (refine hR _ _ ?_;clear hR R)|(refine hK _ _ ?_;clear hK K)|refine nx ?_
     | refine wn fun K hK=>?_
     | simp only [wS]
     | (refine bD (DH _ (by simp [hq])) ?_;rintro _ _ ⟨rfl,rfl⟩ _ _)
     | (apply aP.xU (HM);(·exact wA);(·exact sA);(·exact fP);(·first|exact pP|exact kP);(rintro _ _ rfl hS hw _;have hS:=lA hS);(try (have hq:=ZT hS hw));all_goals(try (first|exact 0|exact undef)))
     | refine wb ?_|refine wr ?_|refine wk ?_|refine we ?_|refine ws ?_|refine wq ?_
     | (refine wc rfl (fun hc=>?_) (fun hc=>?_)<;>(try simp at hc)<;>(try omega)<;>(try (simp [h2] at hc;done))<;>(try (simp [h3] at hc;done))<;>(try (simp [h4] at hc;done)))
     | (refine ib (fun hc=>?_) (fun hc=>?_)<;>(try omega)<;>(try simp (disch:=omega) only [if_pos,if_neg])))
     refine⟨_,by first|rfl|(simp;rfl),trivial,?_⟩
     apply an.cC hS
     (·first|exact pP|exact kP)
end
end Go.Stx
