/-
 The program's attempt: how it is made, and its lists.
-/
import Derived.Test.YtejgooipbmnioaaGreatDoorG11
set_option linter.unusedVariables false
set_option linter.unusedSimpArgs false
set_option linter.unusedSectionVars false
set_option maxRecDepth 20000
set_option maxHeartbeats 4000000
namespace Go.Stx
open Go Go.Proofs
attribute [local irreducible] TW cg eg bn aC aV cR df
section
open T17 T10
variable [Gl]
theorem ak.kj {A:AW} {L:List It} (h:ak A L):ak A (.h eG::L):=by
 unfold ak at h ⊢
 show bz A (eG*aR L)
 rw [hQ]
 exact h
theorem Gk {A:AW} {L:List It} {k:Value→AW→Prop} {w:Nat} (Ln:w≤32) (hw:A.Wf) (hS:ak A L) (hk:∀n A',ak A' (.h (mK n (gq w))::L)→A'.Wf→k (pv n) A'):aC Tryz.prog 259 [.int .i64 w] A k:=by
 refine bT (Ez w Ln A L hw hS) ?_
 rintro _ A' ⟨n,rfl,h1⟩ km _
 exact hk n A' h1 km
set_option maxRecDepth 20000 in
set_option maxHeartbeats 4000000 in
theorem KT (c:bC) (hc:b9 c) (t:Int) (A:AW) (F:HP) (hw:A.Wf) (hS:ak A [.h F]) :
 aC Tryz.prog 180 [c.v,.int .i64 t] A (fun v A'=>∃b,v=pv b∧ak A' [.h (bf b (fl c t)),.h F]):=by
 refine ab Tryz.func180 rfl (by kernel_rfl) fun _=>?_
 obtain⟨r0,r1⟩:=hc.reads
 obtain⟨w0,w1⟩:=hc.bN
 obtain⟨w,Oi⟩:∃w:Nat,c.bN=w:=⟨c.bN.toNat,by omega⟩
 dsimp only [bC.v]
 rw [Oi]
 repeat' (first
 | (refine jx fun R hR=>?_;simp [aw,az,AW.aa,ah];try simp (disch:=omega) only [if_pos,if_neg,aw,az])
 | (refine hR _ _ ?_;clear hR R)|(refine hK _ _ ?_;clear hK K)|refine nx ?_
 | refine wn fun K hK=>?_
 | simp only [wS]
 | (refine bT (Ex c.reads _ ⟨by omega,r1⟩) ?_;rintro _ _ ⟨rfl,rfl⟩ _ _)
 | (refine ⟨fun A' uy=>by simp [AW.aa,uy],?_⟩)
 | (refine ⟨by simp [hq],?_⟩)
 | (refine O2 (fun A'=>A'.bR A.next=some (.cells [.int .i64 c.aQ,.int .i64 c.an,.int .i64 c.base,.int .i64 c.c0,.int .i64 c.c1,.int .i64 c.c2,.int .i64 c.c3,.int .i64 c.reads,.int .i64 w,.int .i64 c.ai,.int .i64 c.av,.int .i64 c.ax,.bool c.aK] true 1)) Tryz.mx [(0,0),(1,0),(3,0),(4,0),(7,1),(8,0),(2,2),(5,3),(6,0),(9,0),(10,2),(11,0)] (by decide +kernel) fun K hK=>?_)
 | (apply Gk (by omega);(·exact wA);(·exact sA);((first|rintro _ _ _ hS hw eT|rintro _ _ hS hw eT|rintro _ _ hS hw);(try refine⟨eT,?_⟩);(try dsimp only [AW.bq] at hS);have hq:=RM hS hw))
 | refine wb ?_|refine wr ?_|refine wk ?_|refine we ?_|refine ws ?_|refine wq ?_
 | (refine wc rfl (fun hc=>?_) (fun hc=>?_)<;>(try simp at hc)<;>(try omega)<;>(try (simp [h2] at hc;done))<;>(try (simp [h3] at hc;done))<;>(try (simp [h4] at hc;done)))
 | (refine ib (fun hc=>?_) (fun hc=>?_)<;>(try omega)<;>(try simp (disch:=omega) only [if_pos,if_neg])))
 have e:fl c t=⟨c,t,0,0,0,none,false,[],[],[],[],gq w,0,[],none,none,0,.bK⟩:=by unfold fl;rw [Oi]
 have h:=Oi
 refine⟨_,by first|rfl|(simp;rfl),_,rfl,?_⟩
 rw [e]
 apply bf.bS
 · apply ak.oD .i64
   apply ak.oD .i64
   apply ak.oD .i64
   apply ak.oD .i64
   apply ak.kj
   apply ak.kj
   apply ak.kj
   apply rZ.dR (ew:=c.reads.toNat) (l:=[]) (v:=.slice none 0 0)
   · apply ak.oD .i64
     (·exact sA)
   (·first|exact pP|exact kP)
 (dsimp only [bx,eP,ei,br,b8,aU.dT,ed,cF,cy,dk,cp,dm,eV,cq,cm,bt,dl,dh,eU,di,af,ag])
 simp only [h]
 (·first|exact pP|exact kP)
 (·first|exact pP|exact kP)
 all_goals(first|exact 0|exact undef)
theorem GV (b:Nat) (s:aT) (bX:Int) (d:aU) (A:AW) (hw:A.Wf) (hS:ak A [.h (gM b s bX d)]) (hl:s.av.length<2^38) :
 aC Tryz.prog 250 [pv b] A (fun u A'=>fe A.next A' .i64 u s.av∧A.le A'):=by
 refine ab Tryz.func250 rfl (by kernel_rfl) fun _=>?_
 obtain⟨⟨bD,bJ,aJ,aX,aW,m,c0,c1,c2,aZ,aE,aL,aN,bk,aS,bP,aO,aM,aB,bc,bd,bZ,bl⟩,hS⟩:=gM.open hS .z
 dsimp only [bx,af,ag] at hS
 have hI:=ak.nH hS (.s (.s (.s (.s (.s (.s (.s (.s .z))))))))
 have hq:=eW hS hw
 revert hq hS hw;clear hS;refine Wp trivial (J1 @AW.aa) (J1 ?_)<;>unhygienic intros
 refine bT (js _ _ A hI (by omega)) ?_
 rintro u A1 ⟨h1,h2⟩ iV _
 revert hq hS hw;(repeat first|clear hq|clear hS|clear hw|revert hc|revert zn|revert zA|revert R|revert K);refine Wp trivial trivial (J1 ?_)<;>unhygienic intros
 exact⟨_,by first|rfl|(simp;rfl),h1,h2⟩
end
section
open T17 T10
variable [Gl]
def jV (s:aT):List Int:=s.bp.bU.filter (fun a=>decide (a<s.cf.aQ))
theorem Jx {A:AW} {L K:List It} {k:Value→AW→Prop} {v:Value} {l:List Int} (hw:A.Wf) (hS:ak A L) (hp:ap L (.h (au .i64 v l)) K) (hl:l.length<2^38)
 (hk:∀o c A',ak A' (.h (au .i64 (.slice o l.length c) l)::L)→A'.Wf→A.le A'→k (.slice o l.length c) A'):aC Tryz.prog 122 [v] A k:=by
 refine bT (js v l A (ak.nH hS hp) (by omega)) ?_
 rintro u A' ⟨h1,h2⟩ km _
 obtain⟨o,c,rfl,_⟩:=h1.is.dJ
 exact hk o c A' (au.gG hS hw h2 h1) km h2
set_option maxRecDepth 20000 in
set_option maxHeartbeats 4000000 in
theorem DU (b:Nat) (s:aT) (bX:Int) (d:aU) (hC:fA s) (f:nL) (A:AW) (F:HP) (hw:A.Wf) (hS:ak A (bx b s bX d f++[.h F])) :
 aC Tryz.prog 108 [pv b] A (fun v A'=>∃u w,v=.tuple #[u,w]∧ak A' (.h (au .i64 u s.reads)::.h (au .i64 w (jV s))::(bx b s bX d f++[.h F]))):=by
 refine ab Tryz.func108 rfl (by kernel_rfl) fun _=>?_
 have bW:=hC.len
 have Oo:=hC.yx
 obtain⟨bD,bJ,aJ,aX,aW,m,c0,c1,c2,aZ,aE,aL,aN,bk,aS,bP,aO,aM,aB,bc,bd,bZ,bl⟩:=f
 dsimp only [bx,af,ag] at hS
 have hq:=eW hS hw
 repeat' (first
 | (refine jx fun R hR=>?_;simp [aw,az,hq,AW.aa,ah];try simp (disch:=omega) only [if_pos,if_neg,aw,az])
 | (refine hR _ _ ?_;clear hR R)|(refine hK _ _ ?_;clear hK K)|refine nx ?_
 | refine wn fun K hK=>?_
 | simp only [wS]
 | refine wb ?_|refine wr ?_|refine wk ?_|refine we ?_|refine ws ?_|refine wq ?_
 | (refine wc rfl (fun hc=>?_) (fun hc=>?_)<;>(try simp at hc)<;>(try omega)<;>(try (simp [h2] at hc;done))<;>(try (simp [h3] at hc;done))<;>(try (simp [h4] at hc;done)))
 | (refine ib (fun hc=>?_) (fun hc=>?_)<;>(try omega)<;>(try simp (disch:=omega) only [if_pos,if_neg])))
 apply pZ (n:=bJ) (s:=s.bp)
 · exact hw
 · exact hS
 (·first|exact pP|exact kP)
 · omega
 intro o1 c3 A1 hS hw _
 generalize hn:s.bp.bU=ad at *
 revert hq hS hw;(repeat first|clear hq|clear hS|clear hw|revert hc|revert zn|revert zA|revert R|revert K);refine Wp trivial (J2 @AW.aa @ah.eq_1) (J1 ?_)<;>unhygienic intros
 refine eS (fun k fr A'=>A'.Wf∧∃(i:Nat) (v:Value) (q:List Int),q=(ad.take i).filter (fun a=>decide (a<s.cf.aQ))∧k=ad.length-i∧i≤ad.length∧fr 0=pv b∧fr 3=v∧fr 11=.slice o1 ad.length c3∧fr 12=.int .i64 ad.length∧fr 13=.int .i64 i∧
  ak A' (.h (au .i64 v q)::.h (au .i64 (.slice o1 ad.length c3) ad)::(bx b s bX d ⟨bD,bJ,aJ,aX,aW,m,c0,c1,c2,aZ,aE,aL,aN,bk,aS,bP,aO,aM,aB,bc,bd,bZ,bl⟩++[.h F]))) ad.length ?_ ?_
 · refine⟨hw,0,.slice none 0 0,[],by simp,by simp,by simp,by simp,by simp,by simp,by simp,by simp,?_⟩
   exact ak.oD .i64 hS
 · rintro k fr A' ⟨hw,i,v,q,xD,rfl,hi,h0,h3,y4,AH,GS,hS⟩
   have hI:=ak.nH hS (.s .z)
   have OF:=ak.nH hS .z
   have TG:q.length≤i:=by
    rw [xD]
    have:=List.length_filter_le (fun a=>decide (a<s.cf.aQ)) (ad.take i)
    have h9:(ad.take i).length≤i:=by simp;omega
    omega
   obtain⟨ov,cv,rfl,_⟩:=OF.dJ
   dsimp only [bx,ei,br,b8,aU.dT,af,ag] at hS
   have hq:=H5 hS hw
   refine dI ?_
   by_cases dO:i<ad.length
   · have fG:(i:Int)<ad.length:=by omega
     have mf:IntKind.i64.wrap ((i:Int)+1)=((i+1:Nat):Int):=aw (by omega) (by omega)
     obtain⟨p,cK,rfl,dG,bA⟩:=hI.at dO
     have FA:ad.take (i+1)=ad.take i++[ad[i]]:=List.take_succ_eq_append_getElem dO
     by_cases h:ad[i]<s.cf.aQ
     · revert hq hS hw;(repeat first|clear hq|clear hS|clear hw|revert hc|revert zn|revert zA|revert R|revert K);refine Wu trivial (rQ h0 h3 y4 AH GS dG bA h dO fG mf @AW.aa @ah.eq_1) (J1 ?_)<;>unhygienic intros
       refine⟨ad.length-(i+1),by omega,hw,i+1,_,q++[ad[i]],?_,rfl,by omega,by simp [h0],by simp;rfl,by simp [y4],by simp [AH],by simp,?_⟩
       · rw [xD,FA,List.filter_append];simp [h]
       · apply ak.bS hS
         dsimp only [bx,ei,br,b8,aU.dT,af,ag]
         (·first|exact pP|exact kP)
     · revert hq hS hw;(repeat first|clear hq|clear hS|clear hw|revert hc|revert zn|revert zA|revert R|revert K);refine Wp trivial (rQ h0 h3 y4 AH GS dG bA h dO fG mf @AW.aa @ah.eq_1) (J1 ?_)<;>unhygienic intros
       refine⟨ad.length-(i+1),by omega,hw,i+1,_,q,?_,rfl,by omega,by simp [h0],by simp [h3];rfl,by simp [y4],by simp [AH],by simp,?_⟩
       · rw [xD,FA,List.filter_append];simp [h]
       · apply ak.bS hS
         dsimp only [bx,ei,br,b8,aU.dT,af,ag]
         (·first|exact pP|exact kP)
   · have GQ:i=ad.length:=by omega
     subst GQ
     rw [List.take_length] at xD
     revert hq hS hw;(repeat first|clear hq|clear hS|clear hw|revert hc|revert zn|revert zA|revert R|revert K);refine Wp (J1 (Tg.mk (n:=11) @Jx)) (J7 h0 h3 y4 AH GS @AW.aa @ah.eq_1) (J1 ?_)<;>unhygienic intros
     refine⟨_,by first|(simp [h3];done)|(simp [h3];rfl),?_⟩
     refine⟨_,_,rfl,?_⟩
     have Pz:jV s=q:=by unfold jV;rw [hn,xD]
     rw [Pz]
     apply ak.bS hS
     dsimp only [bx,af,ag]
     (·first|exact pP|exact kP)
theorem BU (n:Nat) (s:aT) (hC:fA s):ct Tryz.prog 108 [pv n] [.h (bf n s)] (fun (x:(Option Addr×Nat)×Option Addr×Nat) v=>v=.tuple #[.slice x.1.1 s.reads.length x.1.2,.slice x.2.1 (jV s).length x.2.2]) (fun x=>[.h (au .i64 (.slice x.1.1 s.reads.length x.1.2) s.reads),.h (au .i64 (.slice x.2.1 (jV s).length x.2.2) (jV s)),.h (bf n s)]):=by
 intro A F hw hS
 obtain⟨f,hS⟩:=bf.open hS .z
 rw [List.append_assoc] at hS
 have ke:ak A (bx n s s.aG.dT s.aG f++[.h (aR (ei n s.aG f++[.h F]))]):=by
  unfold ak at hS ⊢
  rw [eZ] at hS ⊢
  show bz A (aR (bx n s s.aG.dT s.aG f)*(aR (ei n s.aG f++[.h F])*eG))
  rw [dg]
  exact hS
 refine(DU n s s.aG.dT s.aG hC f A _ hw ke).mono ?_
 rintro v A' ⟨u,w,rfl,h⟩
 obtain⟨o1,c1,rfl,_⟩:=(ak.nH h .z).dJ
 obtain⟨o2,c2,rfl,_⟩:=(ak.nH h (.s .z)).dJ
 refine⟨((o1,c1),o2,c2),rfl,?_⟩
 show ak A' [.h (au .i64 (.slice o1 s.reads.length c1) s.reads),.h (au .i64 (.slice o2 (jV s).length c2) (jV s)),.h (bf n s),.h F]
 generalize hu:Value.slice o1 s.reads.length c1=u at h ⊢
 generalize hv:Value.slice o2 (jV s).length c2=w at h ⊢
 unfold ak at h ⊢
 have h3:bz A' (au .i64 u s.reads*(au .i64 w (jV s)*aR (bx n s s.aG.dT s.aG f++[.h (aR (ei n s.aG f++[.h F]))]))):=h
 rw [eZ,show aR [It.h (aR (ei n s.aG f++[.h F]))]=aR (ei n s.aG f++[.h F]) from dg _,eZ] at h3
 show bz A' (au .i64 u s.reads*(au .i64 w (jV s)*(bf n s*(F*eG))))
 rw [dg]
 have h4:bz A' (aR (bx n s s.aG.dT s.aG f++ei n s.aG f)*(au .i64 u s.reads*(au .i64 w (jV s)*F))):=by
  rw [eZ]
  refine h3.dH ?_
  rw [show aR [It.h F]=F from dg F]
  ac_rfl
 have h5:bz A' (bf n s*(au .i64 u s.reads*(au .i64 w (jV s)*F))):=by
  show bz A' (nI (fun f:nL=>aR (bx n s s.aG.dT s.aG f++ei n s.aG f))*_)
  rw [bz.ex]
  exact⟨f,h4⟩
 exact h5.dH (by ac_rfl)
end
section
abbrev HT:List (Nat×Nat):=[(0,0),(1,0),(2,0),(3,0),(4,0),(5,0),(6,0),(7,0),(8,0),(9,2),(10,0)]
open T6
variable [Gl]
structure Hu (c:bC):Prop where
 ok:b9 c
 aQ:4≤c.aQ∧c.aQ≤12
 an:c.an≤8
 base:c.base=2
 c0:c.c0≤2
 c1:c.c1≤2
 c2:c.c2=0
 c3:c.c3=0
 reads:c.reads≤6
 bN:c.bN≤8
 ai:c.ai≤2
 av:c.av≤2
 ax:c.ax≤50
def yK (p0 p1 p2 p3 p4 p5 ck n0 n1:Int):bC:=⟨4+p0,1+p1,2,n0,n1,0,0,1+p2,1+p3,p4,p5,ck,false⟩
set_option maxRecDepth 20000 in
set_option maxHeartbeats 4000000 in
theorem Fd (l0 l1 l2 l3 l4:Int):∃c,Hu c∧∀A,aC Tryz.prog 13 [.int .i64 l0,.int .i64 l1,.int .i64 l2,.int .i64 l3,.int .i64 l4] A (fun v A'=>v=c.v∧A=A'):=by
 obtain⟨p0,FC⟩:∃p0,jl l0 9=p0:=⟨_,rfl⟩
 have Uu:=fq l0 9 (by omega)
 have Ps:=fun A=>gE l0 9 A (by omega) (by omega)
 rw [FC] at Uu Ps
 obtain⟨p1,I6⟩:∃p1,jl l1 8=p1:=⟨_,rfl⟩
 have Yj:=fq l1 8 (by omega)
 have US:=fun A=>gE l1 8 A (by omega) (by omega)
 rw [I6] at Yj US
 obtain⟨p2,JQ⟩:∃p2,jl l2 6=p2:=⟨_,rfl⟩
 have Yi:=fq l2 6 (by omega)
 have UR:=fun A=>gE l2 6 A (by omega) (by omega)
 rw [JQ] at Yi UR
 obtain⟨p3,YT⟩:∃p3,jl (IntKind.i64.wrap (l2.tdiv 7)) 8=p3:=⟨_,rfl⟩
 have Yh:=fq (IntKind.i64.wrap (l2.tdiv 7)) 8 (by omega)
 have UQ:=fun A=>gE (IntKind.i64.wrap (l2.tdiv 7)) 8 A (by omega) (by omega)
 rw [YT] at Yh UQ
 obtain⟨p4,YS⟩:∃p4,jl l3 3=p4:=⟨_,rfl⟩
 have Yg:=fq l3 3 (by omega)
 have UP:=fun A=>gE l3 3 A (by omega) (by omega)
 rw [YS] at Yg UP
 obtain⟨p5,YR⟩:∃p5,jl (IntKind.i64.wrap (l3.tdiv 3)) 3=p5:=⟨_,rfl⟩
 have Yf:=fq (IntKind.i64.wrap (l3.tdiv 3)) 3 (by omega)
 have UO:=fun A=>gE (IntKind.i64.wrap (l3.tdiv 3)) 3 A (by omega) (by omega)
 rw [YR] at Yf UO
 obtain⟨p6,YQ⟩:∃p6,jl l4 5=p6:=⟨_,rfl⟩
 have Ye:=fq l4 5 (by omega)
 have UN:=fun A=>gE l4 5 A (by omega) (by omega)
 rw [YQ] at Ye UN
 obtain⟨p7,YP⟩:∃p7,jl (IntKind.i64.wrap (l4.tdiv 5)) 4=p7:=⟨_,rfl⟩
 have Yd:=fq (IntKind.i64.wrap (l4.tdiv 5)) 4 (by omega)
 have UM:=fun A=>gE (IntKind.i64.wrap (l4.tdiv 5)) 4 A (by omega) (by omega)
 rw [YP] at Yd UM
 obtain⟨p8,YO⟩:∃p8,jl (IntKind.i64.wrap (l3.tdiv 9)) (4+p0-2+1)=p8:=⟨_,rfl⟩
 have Yc:=fq (IntKind.i64.wrap (l3.tdiv 9)) (4+p0-2+1) (by omega)
 have RB:=fun A=>gE (IntKind.i64.wrap (l3.tdiv 9)) (4+p0-2+1) A (by omega) (by omega)
 rw [YO] at Yc RB
 obtain⟨n0,BA⟩:∃n0,(if 2<p8 then 2 else p8)=n0:=⟨_,rfl⟩
 have Y4:0≤n0∧n0≤2∧n0≤4+p0-2:=by
  rw [←BA]
  split<;>omega
 obtain⟨m1,CS⟩:∃m1,(4+p0-2-n0).fdiv 2=m1:=⟨_,rfl⟩
 have Y6:0≤m1∧m1*2≤4+p0-2-n0∧m1≤20:=by
  have h9:(4+p0-2-n0).fdiv 2=(4+p0-2-n0) / 2:=Int.fdiv_eq_ediv_of_nonneg _ (by omega)
  rw [h9] at CS
  omega
 have TL:IntKind.i64.wrap (m1+1)=m1+1:=aw (by omega) (by omega)
 obtain⟨Tu,Vd⟩:∃Tu,jl (IntKind.i64.wrap (l3.tdiv 29)) (m1+1)=Tu:=⟨_,rfl⟩
 have Ut:=fq (IntKind.i64.wrap (l3.tdiv 29)) (m1+1) (by omega)
 have Pr:=fun A=>gE (IntKind.i64.wrap (l3.tdiv 29)) (m1+1) A (by omega) (by omega)
 rw [Vd] at Ut Pr
 obtain⟨n1,GN⟩:∃n1,(if 2<Tu then 2 else Tu)=n1:=⟨_,rfl⟩
 have Y3:0≤n1∧n1≤2∧n1≤m1:=by
  rw [←GN]
  split<;>omega
 obtain⟨ck,AG⟩:∃ck,(if p6=0 then p7 else 50)=ck:=⟨_,rfl⟩
 have Zp:0≤ck∧ck≤50:=by
  rw [←AG]
  split<;>omega
 have key:∀A:AW,A.Wf→aC Tryz.prog 13 [.int .i64 l0,.int .i64 l1,.int .i64 l2,.int .i64 l3,.int .i64 l4] A (fun v A'=>v=(yK p0 p1 p2 p3 p4 p5 ck n0 n1).v∧A.le A'):=by
  intro A hw
  refine ab Tryz.func13 rfl (by kernel_rfl) fun _=>?_
  by_cases h:p6=0
  · rw [if_pos h] at AG
    revert hw;refine W (w8 (od HT) @Ps @US @UR @UQ @UP @UO @UN @UM @RB) (J8 h BA GN CS TL @Pg @AW.aa @ah.eq_1) (J1 ?_)<;>unhygienic intros
    refine bu 3 ?_
    revert hw;(repeat first|clear hw|revert hc|revert zn|revert zA|revert R|revert K);refine W (J3 (od HT) @RB @Pr) (J8 h BA GN CS TL @Pg @AW.aa @ah.eq_1) (J1 ?_)<;>unhygienic intros
    refine⟨_,by simp [AW.aa];rfl,by simp [yK,bC.v,BA,GN,AG,AW.aa],?_⟩
    repeat' (first|exact AW.le.refl _|refine AW.le.set ?_ (by simp<;>omega) _|refine AW.le.trans ?_ (AW.le.alloc _ _))
  · rw [if_neg h] at AG
    revert hw;(repeat first|clear hw|revert hc|revert zn|revert zA|revert R|revert K);refine W (w8 (od HT) @Ps @US @UR @UQ @UP @UO @UN @UM @RB) (J8 h BA GN CS TL @Pg @AW.aa @ah.eq_1) (J1 ?_)<;>unhygienic intros
    refine bu 3 ?_
    revert hw;(repeat first|clear hw|revert hc|revert zn|revert zA|revert R|revert K);refine W (J3 (od HT) @RB @Pr) (J8 h BA GN CS TL @Pg @AW.aa @ah.eq_1) (J1 ?_)<;>unhygienic intros
    refine⟨_,by simp [AW.aa];rfl,by simp [yK,bC.v,BA,GN,AG,AW.aa],?_⟩
    repeat' (first|exact AW.le.refl _|refine AW.le.set ?_ (by simp<;>omega) _|refine AW.le.trans ?_ (AW.le.alloc _ _))
 refine⟨yK p0 p1 p2 p3 p4 p5 ck n0 n1,?_,fun A=>aC.DP (V:=(yK p0 p1 p2 p3 p4 p5 ck n0 n1).v) (eE.agg (by simp [yK])) (fun hw=>key A hw) (by kernel_rfl)⟩
 refine⟨⟨?_,?_,?_,?_,?_,?_,?_,?_,?_,?_,?_,?_,?_,?_⟩,?_,?_,?_,?_,?_,?_,?_,?_,?_,?_,?_,?_⟩<;>(simp only [yK,bC.nb,bC.hw]<;>omega)
end
end Go.Stx
