/-
 The image of the program's cells, all of it, is one's own.
-/
import Derived.Test.YtejgooipbmnioaaGreatDoorG38
set_option linter.unusedVariables false
set_option linter.unusedSimpArgs false
set_option linter.unusedSectionVars false
set_option maxRecDepth 20000
set_option maxHeartbeats 4000000
namespace Go.Stx
open Go Go.Proofs
attribute [local irreducible] TW cg eg bn aC aV cR df
section
abbrev pS:List (Nat×Nat):=[(0,0),(1,0),(2,0),(3,0),(4,0),(6,0),(7,0),(8,0),(9,0),(10,0),(12,0),(13,0),(14,0),(15,0),(16,0),(17,0),(18,0),(19,0),(20,0),(21,0),(22,0),(23,0),(24,0),(25,0),(26,0),(27,0),(28,0),(29,0),(30,0),(31,0),(32,0),(33,0),(34,0),(35,0),(36,0),(37,0),(39,0),(40,0),(41,0),(42,0),(43,0),(45,0),(46,0),(47,0),(48,0),(49,0),(5,2),(11,2),(38,2),(44,2),(50,2),(51,0),(52,3)]
open T6
variable [Gl]
set_option maxHeartbeats 4000000 in
theorem GH (pb:Nat) (M:Nat→List Int) (A:AW) (F:HP) (h:bz A (dS pb M*F)) (bW:∀k,k<8→(M k).length<2^39) (h2:0<(M 2).length) (h3:0<(M 3).length) (h4:0<(M 4).length) :
 aC Tryz.prog 20 [.pointer (some ⟨pb,0,none⟩)] A (fun v A'=>∃o0 c0 o1 c1 o5 c5 o6 c6 o7 c7,v=.agg #[.slice o0 (M 0).length c0,.slice o1 (M 1).length c1,.int .u64 ((M 2).getD 0 0),.int .u64 ((M 3).getD 0 0),.int .u64 ((M 4).getD 0 0),.slice o5 (M 5).length c5,.slice o6 (M 6).length c6,.slice o7 (M 7).length c7]∧bz A' (au .u64 (.slice o0 (M 0).length c0) (M 0)*(au .u64 (.slice o1 (M 1).length c1) (M 1)*(au .u64 (.slice o5 (M 5).length c5) (M 5)*(au .u64 (.slice o6 (M 6).length c6) (M 6)*(au .u64 (.slice o7 (M 7).length c7) (M 7)*(dS pb M*F))))))∧A.le A'):=by
 refine ab Tryz.func20 rfl (by kernel_rfl) fun hw=>?_
 obtain⟨r,oX,vs,Nj,rW,qs,Oy⟩:=dS.eu h
 obtain⟨q0,f0⟩:=qs 0 (by omega)
 have f0:d6 (.int .i64) (.int .i64 1) oX 0=some (some (q0,vs 0)):=f0
 obtain⟨q1,f1⟩:=qs 1 (by omega)
 have f1:d6 (.int .i64) (.int .i64 2) oX 0=some (some (q1,vs 1)):=f1
 obtain⟨q2,f2⟩:=qs 2 (by omega)
 have f2:d6 (.int .i64) (.int .i64 3) oX 0=some (some (q2,vs 2)):=f2
 obtain⟨q3,f3⟩:=qs 3 (by omega)
 have f3:d6 (.int .i64) (.int .i64 4) oX 0=some (some (q3,vs 3)):=f3
 obtain⟨q4,f4⟩:=qs 4 (by omega)
 have f4:d6 (.int .i64) (.int .i64 5) oX 0=some (some (q4,vs 4)):=f4
 obtain⟨q5,f5⟩:=qs 5 (by omega)
 have f5:d6 (.int .i64) (.int .i64 6) oX 0=some (some (q5,vs 5)):=f5
 obtain⟨q6,f6⟩:=qs 6 (by omega)
 have f6:d6 (.int .i64) (.int .i64 7) oX 0=some (some (q6,vs 6)):=f6
 obtain⟨q7,f7⟩:=qs 7 (by omega)
 have f7:d6 (.int .i64) (.int .i64 8) oX 0=some (some (q7,vs 7)):=f7
 obtain⟨np,Rv⟩:=hw.eo Nj
 obtain⟨nr,Ru⟩:=hw.eo rW
 have i2:=Oy 2 (by omega)
 have i3:=Oy 3 (by omega)
 have i4:=Oy 4 (by omega)
 obtain⟨o2,c2,e2,_⟩:=i2.dJ
 obtain⟨o3,c3,e3,_⟩:=i3.dJ
 obtain⟨o4,c4,e4,_⟩:=i4.dJ
 rw [e2] at i2 f2
 rw [e3] at i3 f3
 rw [e4] at i4 f4
 obtain⟨p2,r2,w2,rfl,g2,d2⟩:=i2.Wb h2
 obtain⟨n2,Yp⟩:=hw.eo g2
 obtain⟨p3,r3,w3,rfl,g3,d3⟩:=i3.Wb h3
 obtain⟨n3,UF⟩:=hw.eo g3
 obtain⟨p4,r4,w4,rfl,g4,d4⟩:=i4.Wb h4
 obtain⟨n4,Yo⟩:=hw.eo g4
 simp only [Nat.add_zero] at d2 d3 d4
 repeat' (first
 | (refine jx fun R hR=>?_;simp [aw,az,Nj,rW,AW.aa,np,Rv,nr,Ru,f0,f1,f2,f3,f4,f5,f6,f7,g2,g3,g4,d2,d3,d4,n2,n3,n4,Yp,UF,Yo,h2,h3,h4];try simp (disch:=omega) only [if_pos,if_neg,aw,az])
 | (refine hR _ _ ?_;clear hR R)|(refine hK _ _ ?_;clear hK K)|refine nx ?_
 | refine wn fun K hK=>?_
 | simp only [wS,pS]
 | refine wl Tryz.mx pS (by decide +kernel) fun K hK=>?_
 | refine wb ?_|refine wr ?_|refine wk ?_|refine we ?_|refine ws ?_|refine wq ?_
 | (refine wc rfl (fun hc=>?_) (fun hc=>?_)<;>(try simp at hc)<;>(try omega))
 | (refine ib (fun hc=>?_) (fun hc=>?_)<;>(try omega)<;>(try simp (disch:=omega) only [if_pos,if_neg])))
 have WU:A.le (A.alloc (.cells xi true 1)):=AW.le.alloc A _
 have ZY:=h.alloc hw (.cells xi true 1)
 have Fz:=hw.alloc (.cells xi true 1)
 have Zc:(A.alloc (.cells xi true 1)).bR A.next=some (.cells xi true 1):=AW.cW _ _
 refine bT (gw (vs 0) (M 0) (A.alloc (.cells xi true 1)) ((Oy 0 (by omega)).le WU hw) (bW 0 (by omega))) ?_
 rintro v0 B0 ⟨WE,m0⟩ Wv _
 have S0:=au.gG ZY Fz m0 WE
 obtain⟨WK,XF,rfl,_⟩:=WE.is.dJ
 have WV:=WU.trans m0
 have z0:=m0.qA Fz Zc
 refine⟨m0,?_⟩
 revert hw;(repeat first|clear hw|revert hc|revert zn|revert zA|revert R|revert K);refine W (J1 (od pS)) (J4 z0 @AW.aa @ah.eq_1 @xi.eq_1) (J1 ?_)<;>unhygienic intros
 refine bT (gw (vs 1) (M 1) _ ((Oy 1 (by omega)).le WV hw) (bW 1 (by omega))) ?_
 rintro v1 B1 ⟨WD,m1⟩ Wt _
 have S1:=au.gG S0 Wv m1 WD
 obtain⟨WJ,XE,rfl,_⟩:=WD.is.dJ
 have WT:=WV.trans m1
 have z1:=m1.qA Wv z0
 refine⟨m1,?_⟩
 revert hw;(repeat first|clear hw|revert hc|revert zn|revert zA|revert R|revert K);refine W (J1 (od pS)) (J4 z1 @AW.aa @ah.eq_1 @xi.eq_1) (J1 ?_)<;>unhygienic intros
 refine bT (gw (vs 5) (M 5) _ ((Oy 5 (by omega)).le WT hw) (bW 5 (by omega))) ?_
 rintro v5 B2 ⟨WC,m5⟩ Ws _
 have S2:=au.gG S1 Wt m5 WC
 obtain⟨WI,XD,rfl,_⟩:=WC.is.dJ
 have WS:=WT.trans m5
 have z2:=m5.qA Wt z1
 refine⟨m5,?_⟩
 revert hw;(repeat first|clear hw|revert hc|revert zn|revert zA|revert R|revert K);refine W (J1 (od pS)) (J4 z2 @AW.aa @ah.eq_1 @xi.eq_1) (J1 ?_)<;>unhygienic intros
 refine bT (gw (vs 6) (M 6) _ ((Oy 6 (by omega)).le WS hw) (bW 6 (by omega))) ?_
 rintro v6 B3 ⟨WB,m6⟩ Wr _
 have S3:=au.gG S2 Ws m6 WB
 obtain⟨WH,XC,rfl,_⟩:=WB.is.dJ
 have WR:=WS.trans m6
 have z3:=m6.qA Ws z2
 refine⟨m6,?_⟩
 revert hw;(repeat first|clear hw|revert hc|revert zn|revert zA|revert R|revert K);refine W (J1 (od pS)) (J4 z3 @AW.aa @ah.eq_1 @xi.eq_1) (J1 ?_)<;>unhygienic intros
 refine bT (gw (vs 7) (M 7) _ ((Oy 7 (by omega)).le WR hw) (bW 7 (by omega))) ?_
 rintro v7 B4 ⟨WA,m7⟩ w7' _
 have S4:=au.gG S3 Wr m7 WA
 obtain⟨WG,XB,rfl,_⟩:=WA.is.dJ
 have Ys:=WR.trans m7
 have z4:=m7.qA Wr z3
 refine⟨m7,?_⟩
 revert hw;(repeat first|clear hw|revert hc|revert zn|revert zA|revert R|revert K);refine W (J1 (od pS)) (J4 z4 @AW.aa @ah.eq_1 @xi.eq_1) (J1 ?_)<;>unhygienic intros
 have gd:∀(l:List Int) (h:0<l.length),l[0]=l.getD 0 0:=fun l hl=>by
  rw [List.getD_eq_getElem?_getD,List.getElem?_eq_getElem hl];rfl
 have S5:bz B4 (pt A.next (.cells xi true 1)*(au .u64 (.slice WK (M 0).length XF) (M 0)*(au .u64 (.slice WJ (M 1).length XE) (M 1)*(au .u64 (.slice WI (M 5).length XD) (M 5)*(au .u64 (.slice WH (M 6).length XC) (M 6)*(au .u64 (.slice WG (M 7).length XB) (M 7)*(dS pb M*F))))))):=S4.dH (by ac_rfl)
 refine⟨_,by first|(simp [AW.dX,AW.aa];done)|(simp [AW.dX,AW.aa];rfl),WK,XF,WJ,XE,WI,XD,WH,XC,WG,XB,?_,(S5.set _).right,Ys.set (Nat.le_refl _) _⟩
 rw [gd _ h2,gd _ h3,gd _ h4]
structure Qy where
 v0:Option Addr×Nat
 v1:Option Addr×Nat
 v5:Option Addr×Nat
 v6:Option Addr×Nat
 v7:Option Addr×Nat
def mm (x:Option Addr×Nat) (l:List Int):Value:=.slice x.1 l.length x.2
def ry (M:Mm) (f:Qy):HP:=au .u64 (mm f.v0 (M 0)) (M 0)*(au .u64 (mm f.v1 (M 1)) (M 1)*(au .u64 (mm f.v5 (M 5)) (M 5)*(au .u64 (mm f.v6 (M 6)) (M 6)*au .u64 (mm f.v7 (M 7)) (M 7))))
theorem GG (pb:Nat) (M:Mm) (bW:∀k,k<8→(M k).length<2^39) (h2:0<(M 2).length) (h3:0<(M 3).length) (h4:0<(M 4).length) {A:AW} {L K:List It} {k:Value→AW→Prop} (hw:A.Wf) (hS:ak A L) (hp:ap L (dx pb M) K)
 (hk:∀f A',ak A' (.h (ry M f)::L)→A'.Wf→A.le A'→k (.agg #[mm f.v0 (M 0),mm f.v1 (M 1),.int .u64 ((M 2).getD 0 0),.int .u64 ((M 3).getD 0 0),.int .u64 ((M 4).getD 0 0),mm f.v5 (M 5),mm f.v6 (M 6),mm f.v7 (M 7)]) A') :
 aC Tryz.prog 20 [pv pb] A k:=by
 have h:bz A (dS pb M*aR K):=by
  unfold ak at hS
  rw [hp.aR] at hS
  exact hS
 refine bT (GH pb M A (aR K) h bW h2 h3 h4) ?_
 rintro v A' ⟨o0,c0,o1,c1,o5,c5,o6,c6,o7,c7,rfl,h1,eT⟩ km _
 refine hk ⟨(o0,c0),(o1,c1),(o5,c5),(o6,c6),(o7,c7)⟩ A' ?_ km eT
 unfold ak
 refine bz.dH h1 ?_
 show _=ry M _*aR L
 rw [hp.aR]
 show _=(au .u64 (.slice o0 (M 0).length c0) (M 0)*(au .u64 (.slice o1 (M 1).length c1) (M 1)*(au .u64 (.slice o5 (M 5).length c5) (M 5)*(au .u64 (.slice o6 (M 6).length c6) (M 6)*au .u64 (.slice o7 (M 7).length c7) (M 7)))))*(dS pb M*aR K)
 ac_rfl
theorem tT {A:AW} {k:IntKind} {v:Value} {l:List Int} {R Q:HP} (h:bz A R) (e:R=au k v l*Q):dB A k v l:=au.is (h.dH e)
theorem ry.is {A:AW} {L K:List It} {M:Mm} {f:Qy} (hS:ak A L) (hp:ap L (.h (ry M f)) K):DA A (.agg #[mm f.v0 (M 0),mm f.v1 (M 1),.int .u64 ((M 2).getD 0 0),.int .u64 ((M 3).getD 0 0),.int .u64 ((M 4).getD 0 0),mm f.v5 (M 5),mm f.v6 (M 6),mm f.v7 (M 7)]) M:=by
 unfold ak at hS
 rw [hp.aR] at hS
 have hr:bz A (ry M f*aR K):=hS
 unfold ry at hr
 refine⟨_,_,_,_,_,rfl,?_,?_,?_,?_,?_⟩
 · exact tT hr (Q:=au .u64 (mm f.v1 (M 1)) (M 1)*(au .u64 (mm f.v5 (M 5)) (M 5)*(au .u64 (mm f.v6 (M 6)) (M 6)*au .u64 (mm f.v7 (M 7)) (M 7)))*aR K) (by ac_rfl)
 · exact tT hr (Q:=au .u64 (mm f.v0 (M 0)) (M 0)*(au .u64 (mm f.v5 (M 5)) (M 5)*(au .u64 (mm f.v6 (M 6)) (M 6)*au .u64 (mm f.v7 (M 7)) (M 7)))*aR K) (by ac_rfl)
 · exact tT hr (Q:=au .u64 (mm f.v1 (M 1)) (M 1)*(au .u64 (mm f.v0 (M 0)) (M 0)*(au .u64 (mm f.v6 (M 6)) (M 6)*au .u64 (mm f.v7 (M 7)) (M 7)))*aR K) (by ac_rfl)
 · exact tT hr (Q:=au .u64 (mm f.v1 (M 1)) (M 1)*(au .u64 (mm f.v5 (M 5)) (M 5)*(au .u64 (mm f.v0 (M 0)) (M 0)*au .u64 (mm f.v7 (M 7)) (M 7)))*aR K) (by ac_rfl)
 · exact tT hr (Q:=au .u64 (mm f.v1 (M 1)) (M 1)*(au .u64 (mm f.v5 (M 5)) (M 5)*(au .u64 (mm f.v6 (M 6)) (M 6)*au .u64 (mm f.v0 (M 0)) (M 0)))*aR K) (by ac_rfl)
end
section
open T19
variable [Gl]
theorem zq (c:bC) (hF:nB c) (nt:Nat) (h1:1≤nt) (tC:nt≤16) (vi:Value) (cx:List Int) (hi:(cx.length:Int)=c.aQ) (A:AW) (F:HP) (hw:A.Wf) (hS:ak A [.h (au .u64 vi cx),.h F]) :
 aC Tryz.prog 49 [c.v,.int .i64 (nt:Int),vi] A (fun v A'=>∃pb,v=.tuple #[pv pb,.int .i64 0]∧ak A' [dx pb (jW c nt cx),.h (au .u64 vi cx),.h F]):=by
 have ho:=hF.ok.an
 have hl:=rK hF
 obtain⟨aQ,an,base,n0,n1,n2,n3,reads,bN,ai,av,ax,aK⟩:=c
 dsimp only at hi ho hl
 have cY:bz A (au .u64 vi cx*(F*eG)):=hS
 refine(AK nt (eQ n0 n1).length an.toNat vi cx aQ an base n0 n1 n2 n3 reads bN ai av ax aK hF A (F*eG) (au .u64 vi cx) (fun A F h=>au.is h) hw cY h1 tC hi (by omega) rfl).mono ?_
 rintro v A' ⟨pb,rfl,h⟩
 refine⟨pb,rfl,?_⟩
 have e:(fun k=>if k=0 then cx++List.replicate (eQ n0 n1).length 0 else if k=1 then List.replicate an.toNat 0 else if k=5 then List.replicate nt 0 else if k=6 then eH n0 n1 else if k=7 then eQ n0 n1 else [0])=jW ⟨aQ,an,base,n0,n1,n2,n3,reads,bN,ai,av,ax,aK⟩ nt cx:=by
  unfold jW
  dsimp only
  rw [←hl,Int.toNat_natCast]
 rw [e] at h
 exact h
theorem sN {c:bC} (hc:b9 c):((ia c).length:Int)=c.aQ:=by
 have:=hc.aQ
 unfold ia
 simp
 omega
theorem DV {c:bC} (j:Nat) (hj:(j:Int)<c.aQ):(ia c).take (j+1)=(ia c).take j++[10*(j:Int)+1]:=by
 rw [List.take_add_one]
 congr 1
 unfold ia
 rw [List.getElem?_map,List.getElem?_range (by omega)]
 rfl
theorem LO {P:Program} {f:FuncId} {args:List Value} {A:AW} {Q:HP} {X:Nat→It} {g:Nat→Value} (h:∀F,ak A [.h Q,.h F]→aC P f args A (fun v A'=>∃pb,v=g pb∧ak A' [X pb,.h Q,.h F]))
 {L K:List It} {k:Value→AW→Prop} (hS:ak A L) (hp:ap L (.h Q) K) (hk:∀pb A',ak A' (X pb::.h Q::K)→A'.Wf→k (g pb) A'):aC P f args A k:=by
 have mh:ak A [.h Q,.h (aR K)]:=by
  unfold ak at *
  rw [hp.aR] at hS
  show bz A (Q*(aR K*eG))
  rw [dg]
  exact hS
 refine bT (h (aR K) mh) ?_
 rintro _ A' ⟨pb,rfl,h2⟩ km _
 refine hk pb A' ?_ km
 unfold ak at *
 have h3:bz A' ((X pb).hp*(Q*(aR K*eG))):=h2
 rwa [dg] at h3
set_option maxRecDepth 100000 in
set_option maxHeartbeats 4000000 in
theorem yj (c:bC) (hF:nB c) (nt:Nat) (GN:1≤nt) (tC:nt≤16) (A:AW) (F:HP) (hw:A.Wf) (hS:ak A [.h F]) :
 aC Tryz.prog 16 [c.v,.int .i64 (nt:Int)] A (fun v A'=>∃pb mb,v=.tuple #[.agg #[pv pb,pv mb],.bool true]∧ak A' [dx pb (jW c nt (ia c)),F8 c mb (jW c nt (ia c)),.h F]):=by
 refine ab Tryz.func16 rfl (by kernel_rfl) fun _=>?_
 have RD:=hF.ok.aQ
 have bW:=sN hF.ok
 have I8:=fun vi A F hw hS=>zq c hF nt GN tC vi (ia c) bW A F hw hS
 have Om:=fun vi A F hw hS=>D8 c hF nt tC vi (ia c) bW A F hw hS
 dsimp only [bC.v] at I8 Om ⊢
 revert hS hw;refine W trivial (J2 @AW.aa @ah.eq_1) (J1 ?_)<;>unhygienic intros
 refine eS (fun k fr A'=>A'.Wf∧∃(j:Nat) (v6:Value) (q:List Int),q=(ia c).take j∧k=(ia c).length-j∧j≤(ia c).length∧fr 1=.int .i64 (nt:Int)∧fr 2=pv A.next∧fr 4=pv (A.next+1)∧fr 6=v6∧fr 7=.int .i64 (j:Int)∧
  ak A' [.at A.next (qC c),.at (A.next+1) (.cells [.pointer none,.pointer none] true 1),.h (au .u64 v6 q),.h F]) (ia c).length ?_ ?_
 · refine⟨(hw.alloc _).alloc _,0,me,[],by simp,by simp,by simp,by simp,by simp,by simp,by simp,by simp,?_⟩
   apply ak.bS
   · apply ak.oD .u64
     (·exact sA)
   (·first|exact pA|exact kA)
 clear hS hw
 rintro k fr A1 ⟨hw,j,v6,q,xD,rfl,hj,f1,f2,f4,f6,f7,hS⟩
 have TG:q.length=j:=by rw [xD];simp;omega
 obtain⟨o6,c6,rfl,_⟩:=(ak.nH hS (.s (.s .z))).dJ
 have hq:=Lr hS hw
 by_cases fG:(j:Int)<c.aQ
 · have H8:IntKind.i64.wrap ((j:Int)+1)=((j+1:Nat):Int):=aw (by omega) (by omega)
   have e0:IntKind.i64.wrap (10*(j:Int))=10*(j:Int):=aw (by omega) (by omega)
   have e2:IntKind.i64.wrap (10*(j:Int)+1)=10*(j:Int)+1:=aw (by omega) (by omega)
   have e3:IntKind.u64.wrap (10*(j:Int)+1)=10*(j:Int)+1:=az (by omega) (by omega)
   have FA:=DV j fG
   repeat' (first
   | (with_reducible apply WO;(·first|(simp;done)|(simp;rfl));(·first|(simp;done)|(simp;rfl));(·exact wA);(·exact sA);(·first|exact pA|exact kA);(·first|(simp;done)|(simp;rfl)|(simp [hq];done)|(simp [hq];rfl));(·first|omega|(simp;omega));(·intro _ _;trivial);rintro _ _ _ hS hw _;(try dsimp only [AW.bq] at hS);have hq:=H4 hS hw)
   | (refine jx fun R hR=>?_;simp [aw,az,f1,f2,f4,f6,f7,hq,fG,e0,e2,e3,H8,AW.aa,ah];try simp (disch:=omega) only [if_pos,if_neg,aw,az])
   | (refine hR _ _ ?_;clear hR R)|(refine hK _ _ ?_;clear hK K)|refine nx ?_
   | refine wn fun K hK=>?_
   | simp only [wS]
   | refine wb ?_|refine wr ?_|refine wk ?_|refine we ?_|refine ws ?_|refine wq ?_
   | (refine wc rfl (fun hc=>?_) (fun hc=>?_)<;>(try simp at hc)<;>(try omega))
   | (refine ib (fun hc=>?_) (fun hc=>?_)<;>(try omega)<;>(try simp (disch:=omega) only [if_pos,if_neg])))
   refine⟨(ia c).length-(j+1),by omega,?_,j+1,_,q++[10*(j:Int)+1],by rw [FA,xD],rfl,by omega,by simp [f1],by simp [f2],by simp [f4],by simp;rfl,by simp,?_⟩
   · exact wA
   · apply ak.bS
     (·exact sA)
     (·first|exact pA|exact kA)
 have QX:j=(ia c).length:=by omega
 have M8:q=ia c:=by rw [xD,QX,List.take_length]
 subst M8
 clear xD
 repeat' (first
 | (refine jx fun R hR=>?_;simp [aw,az,f1,f2,f4,f6,f7,hq,fG,AW.aa,ah];try simp (disch:=omega) only [if_pos,if_neg,aw,az])
 | (refine hR _ _ ?_;clear hR R)|(refine hK _ _ ?_;clear hK K)|refine nx ?_
 | refine wn fun K hK=>?_
 | simp only [wS]
 | refine wb ?_|refine wr ?_|refine wk ?_|refine we ?_|refine ws ?_|refine wq ?_
 | (refine wc rfl (fun hc=>?_) (fun hc=>?_)<;>(try simp at hc)<;>(try omega))
 | (refine ib (fun hc=>?_) (fun hc=>?_)<;>(try omega)<;>(try simp (disch:=omega) only [if_pos,if_neg])))
 refine LO (X:=fun pb=>dx pb (jW c nt (ia c))) (g:=fun pb=>.tuple #[pv pb,.int .i64 0]) (fun F hS=>I8 _ A1 F hw hS) hS (.s (.s .z)) ?_
 intro pb A2 hS hw
 have hq:=Lr hS hw
 repeat' (first
 | (refine jx fun R hR=>?_;simp [aw,az,f1,f2,f4,f6,f7,hq,AW.aa,ah];try simp (disch:=omega) only [if_pos,if_neg,aw,az])
 | (refine hR _ _ ?_;clear hR R)|(refine hK _ _ ?_;clear hK K)|refine nx ?_
 | refine wn fun K hK=>?_
 | simp only [wS]
 | refine wb ?_|refine wr ?_|refine wk ?_|refine we ?_|refine ws ?_|refine wq ?_
 | (refine wc rfl (fun hc=>?_) (fun hc=>?_)<;>(try simp at hc)<;>(try omega))
 | (refine ib (fun hc=>?_) (fun hc=>?_)<;>(try omega)<;>(try simp (disch:=omega) only [if_pos,if_neg])))
 refine LO (X:=fun pb=>F8 c pb (jW c nt (ia c))) (g:=fun pb=>pv pb) (fun F hS=>Om _ A2 F hw hS) hS (.s .z) ?_
 intro mb A3 hS hw
 have hq:=Lr hS hw
 repeat' (first
 | (refine jx fun R hR=>?_;simp [aw,az,f1,f2,f4,f6,f7,hq,AW.aa,ah];try simp (disch:=omega) only [if_pos,if_neg,aw,az])
 | (refine hR _ _ ?_;clear hR R)|(refine hK _ _ ?_;clear hK K)|refine nx ?_
 | refine wn fun K hK=>?_
 | simp only [wS]
 | refine wb ?_|refine wr ?_|refine wk ?_|refine we ?_|refine ws ?_|refine wq ?_
 | (refine wc rfl (fun hc=>?_) (fun hc=>?_)<;>(try simp at hc)<;>(try omega))
 | (refine ib (fun hc=>?_) (fun hc=>?_)<;>(try omega)<;>(try simp (disch:=omega) only [if_pos,if_neg])))
 refine⟨_,by first|(simp [hq,f4,AW.aa];done)|(simp [hq,f4,AW.aa];rfl),pb,mb,rfl,?_⟩
 apply ak.bS
 (·exact sA)
 (·first|exact pA|exact kA)
end
section
variable [Gl]
instance Yn:AF:=⟨fun _=>False⟩
theorem Ob:DB fun _ _ _=>0:=fun fn x y h=>h.elim
def qx:bC:=⟨4,2,0,0,0,0,0,2,2,0,0,9,false⟩
def Rq:List cz:=[⟨7,0,0,0,2⟩,⟨11,0,1,0,0⟩,⟨8,0,0,0,0⟩]
def SB:Int→Int→Int→Int:=fun _ _ _=>0
def jh:Nat→be×Mm
 | 0=>(qW qx 0 1 Rq,jW qx 1 (ia qx))
 | i+1=>((jh i).1.step SB (jh i).2).2.2.2
theorem BH:nB qx:=⟨⟨by decide,by decide,by decide,by decide,by decide,by decide,by decide,by decide,by decide,by decide,by decide,by decide,by decide,by decide⟩,by decide,by decide,rfl,rfl⟩
theorem OJ:(dW Rq).2=0:=by decide +kernel
theorem Qi:∀i,i<15→(jh i).1.done=false:=by decide +kernel
theorem Su:(jh 15).1.done=true∧(jh 15).1.pc=3∧(jh 15).1.iZ=1∧(jh 15).1.gv=1∧(jh 15).1.fV.map (fun o=>(o.pc,o.fY,o.val))=[(0,3,1)]:=by decide +kernel
theorem Uz (i:Nat) (hi:i<2^30):jM qx 1 i (jh i).1∧jN qx 1 i (jh i).2:=by
 induction i with
 | zero=>exact⟨Bs ⟨by decide,by decide,by decide⟩ OJ,Ba BH 1 (sN BH.ok)⟩
 | succ i ih=>
   obtain⟨h1,h2⟩:=ih (by omega)
   exact HC BH.ok (by omega) h2 h1
theorem Qm (i:Nat):(jh i).1.ay=Rq:=by
 induction i with
 | zero=>rfl
 | succ i ih=>exact A8.trans ih
end
section
namespace TLawK
theorem jD [Gl] {A:AW} {L:List It} {T:Prop} (hS:ak A L) (hw:A.Wf) (h':(bg A L∧bB A L∧cj L)=T:=by first|(dsimp only [af,ag,bg,bB,cj,eA];done)|exact rfl):T:=h'▸hS.eu hw
end TLawK
open TLawK
variable [Gl]
set_option maxHeartbeats 1000000 in
theorem Ax (va vb:Value) (M:Nat→List Int) (A:AW) (ha:DA A va M) (hb:DA A vb M) (bW:∀k,k<8→(M k).length<2^39) :
 aC Tryz.prog 23 [va,vb] A (fun v A'=>v=.bool true∧A.le A'):=by
 refine ab Tryz.func23 rfl (by kernel_rfl) fun hw=>?_
 obtain⟨a0,a1,a5,a6,a7,rfl,i0,i1,i5,i6,i7⟩:=ha
 obtain⟨b0,b1,b5,b6,b7,rfl,j0,j1,j5,j6,j7⟩:=hb
 have l2:∀x y,A.le ((A.alloc x).alloc y):=fun x y=>(AW.le.alloc A x).trans (AW.le.alloc _ y)
 have m0:=bW 0 (by omega)
 have m1:=bW 1 (by omega)
 have m5:=bW 5 (by omega)
 have m6:=bW 6 (by omega)
 have m7:=bW 7 (by omega)
 repeat' (first
 | (refine jx fun R hR=>?_;simp [aw,az,AW.aa];try simp (disch:=omega) only [if_pos,if_neg,aw,az])
 | (refine hR _ _ ?_;clear hR R)|(refine hK _ _ ?_;clear hK K)|refine nx ?_
 | refine wn fun K hK=>?_
 | simp only [wS]
 | (refine bT (mS a0 b0 (M 0) (M 0) _ (i0.le (l2 _ _) hw) (j0.le (l2 _ _) hw) (by omega)) ?_;rintro _ _ ⟨rfl,rfl⟩ _ _)
 | (refine bT (mS a1 b1 (M 1) (M 1) _ (i1.le (l2 _ _) hw) (j1.le (l2 _ _) hw) (by omega)) ?_;rintro _ _ ⟨rfl,rfl⟩ _ _)
 | (refine bT (mS a5 b5 (M 5) (M 5) _ (i5.le (l2 _ _) hw) (j5.le (l2 _ _) hw) (by omega)) ?_;rintro _ _ ⟨rfl,rfl⟩ _ _)
 | (refine bT (mS a6 b6 (M 6) (M 6) _ (i6.le (l2 _ _) hw) (j6.le (l2 _ _) hw) (by omega)) ?_;rintro _ _ ⟨rfl,rfl⟩ _ _)
 | (refine bT (mS a7 b7 (M 7) (M 7) _ (i7.le (l2 _ _) hw) (j7.le (l2 _ _) hw) (by omega)) ?_;rintro _ _ ⟨rfl,rfl⟩ _ _)
 | refine wb ?_|refine wr ?_|refine wk ?_|refine we ?_|refine ws ?_|refine wq ?_
 | (refine wc rfl (fun hc=>?_) (fun hc=>?_)<;>(try simp at hc)<;>(try omega))
 | (refine ib (fun hc=>?_) (fun hc=>?_)<;>(try omega)<;>(try simp (disch:=omega) only [if_pos,if_neg])))
 refine⟨_,by first|(simp;done)|(simp;rfl),by first|rfl|simp,l2 _ _⟩
end
end Go.Stx
