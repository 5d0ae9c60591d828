/-
 What the thread's step needs, from what always holds of it.
-/
import Derived.Test.YtejgooipbmnioaaGreatDoorG36
set_option linter.unusedVariables false
set_option linter.unusedSimpArgs false
set_option linter.unusedSectionVars false
set_option maxRecDepth 20000
set_option maxHeartbeats 4000000
namespace Go.Stx
open Go Go.Proofs
attribute [local irreducible] eg bn aC aV cR df TW cg
section
variable [Gl]
variable [AF]
variable {fF:Int→Int→Int→Int} {c:bC} {nt k:Nat} {M:Mm} {t:be} {s:aT}
theorem B6 (hc:b9 c) (hk:k<2^24) (h:ln c nt k t) (th:t.fV.length+t.dY.length≤4*k):JW t:=by
 have h1:=h.fV
 have h2:=h.sn
 have h3:=h.rV
 have h4:=h.pc
 have h5:=(fX h.nD).1
 have h6:=h.qI
 have h7:=h.tz
 have h8:=h.kS
 exact⟨by rw [h.cf];exact hc,⟨h4.1,by omega⟩,by omega,by omega,by omega,by omega,by omega,h.nD⟩
theorem CN (h:ln c nt k t) (hd:t.done=false):dL t.fv=0:=by
 obtain⟨ld,hi⟩:=h.fv hd
 rw [hi]
 exact(qV h.nD ld).2.2
theorem xN (hc:b9 c) (hk:k+1<2^24) (hM:jN c nt k M) (h:ln c nt (k+1) t) (hd:t.done=false) (hA:Wk c k t s):DC t s M:=by
 have h1:=h.fV
 have h2:=h.sn
 obtain⟨Nu,TX⟩:=A7 hc (by omega) hA.ok hM
 have AE:=BM hA.ok hA.xn M
 have xj:=hc.nb
 have e1:=Nu.b.xn
 have e2:=hc.av
 exact⟨B6 hc hk h (by omega),hA.ok.O6 hc hM,Nu.b.NM hc,CN h hd,h.lt hd,fun e=>(hA.Fy e).1,fun e=>⟨(hA.zU e).1,(hA.zU e).2.2.1⟩,fun x hx=>by have:=AE x hx;omega,by omega⟩
theorem HD (hc:b9 c) (hk:k+1<2^24) (hM:jN c nt k M) (h:ln c nt (k+1) t) (Zo:t.gv≤k) (hd:t.done=false)
 (hs:t.aK=true→(t.fv.op=12∨t.fv.op=13)∧cJ t.ay t.pc.toNat=none) (hw:t.aK=false→t.pc=t.bQ∧t.fv.op=7∧cJ t.ay t.pc.toNat=none) :
 DC t.qM (gf (fl t.cf t.id)).2 M:=by
 have R2:=h.tA
 have VH:=h.qI
 have h1:ln c nt (k+1) t.qM:=⟨h.cf,h.nn,h.tA,h.nD,h.pc,h.dn,h.fV,by show ([]:List lp).length≤_;simp,h.rV,h.um,by show 0≤t.gv+1∧t.gv+1≤((k+1:Nat):Int);omega,h.tz,h.kS⟩
 have hn:(fl t.cf t.id).kO 0=true:=rfl
 have hb:nE c k (gf (fl t.cf t.id)).2:=BK (by rw [h.cf];exact yG hc k t.id (by omega))
 have cX:(gf (fl t.cf t.id)).2.aA=1:=by unfold gf;rw [if_pos hn]
 have VP:∀x∈(gf (fl t.cf t.id)).2.av,0≤x∧x<c.nb:=by
  unfold gf
  rw [if_pos hn]
  intro x hx
  cases hx
 refine xN hc hk hM h1 hd ⟨hb,cX,VP,hs,fun e=>?_⟩
 obtain⟨w1,w2,w3⟩:=hw e
 have ki:=h.pc
 have ho:=mP h hd
 show eh t.ay t.bQ.toNat=7∧cJ t.ay t.bQ.toNat=none∧0≤t.bQ∧_
 rw [←w1]
 exact⟨ho.trans w2,w3,ki.1,.inl ⟨w1,w2⟩⟩
theorem Bv (hc:b9 c) (h:ln c nt k t):∀x∈t.fu,x.1<2^62:=fun x hx=>by
 have h1:=zl hc (h.um x hx)
 have h2:=hc.nb
 omega
theorem Mg (h:ln c nt k t) (hd:t.done=false) (rX:JH t.ay):t.fv.op=3→zE t.fv.cQ:=by
 obtain⟨ld,hi⟩:=h.fv hd
 rw [hi]
 exact rX _ (List.getElem_mem ld)
theorem Qe (hA:DB fF) (hc:b9 c) (hk:k+1<2^24) (hM:jN c nt k M) (h:jM c nt k t) (hd:t.done=false) (ha:t.iE=none) (hf:t.dA=none) (rX:JH t.ay):XK fF t M t.fv:=by
 have om:=h.co
 have h':=om.mono (Nat.le_succ k)
 obtain⟨hs,gh⟩:=h.HZ ha
 obtain⟨ld,hi⟩:=om.fv hd
 have qG:=(qV om.nD ld).1 gh
 rw [←hi] at qG
 have WX:=om.tz
 have h1:=om.fV
 have h2:=om.sn
 refine⟨hA,B6 hc (by omega) om (by omega),CN om hd,Mg om hd rX,qG,fun h7=>?_,fun _ mg=>?_,Bv hc om⟩
 · exact HD hc hk hM (t:={ t with bQ:=t.pc,jP:=t.dC,gB:=t.gB+1 }) ⟨h'.cf,h'.nn,h'.tA,h'.nD,h'.pc,h'.dn,h'.fV,h'.sn,h'.rV,h'.um,h'.qI,by dsimp only;omega,h'.kS⟩ om.qI.2 hd (fun e=>(by rw [show t.aK=true from e] at hs;cases hs)) (fun _=>⟨rfl,h7,gh⟩)
 · exact HD hc hk hM (t:={ t with aK:=true,eO:=0 }) ⟨h'.cf,h'.nn,h'.tA,h'.nD,h'.pc,h'.dn,h'.fV,h'.sn,h'.rV,h'.um,h'.qI,h'.tz,by dsimp only;omega⟩ om.qI.2 hd (fun _=>⟨mg,gh⟩) (fun e=>(by cases e))
theorem Sz (hc:b9 c) (hk:k+1<2^24) (hM:jN c nt k M) (h:jM c nt k t) (hd:t.done=false) (ha:t.iE=some s) (hs:t.aK=true):DC (t.SA t.fv s) (t.rm t.fv s) M:=by
 have om:=h.co
 have h':=om.mono (Nat.le_succ k)
 have Xk:=om.kS
 obtain⟨g1,_,_,g2⟩:=h.Be s ha
 rw [if_pos (.inr hs)] at g1
 exact xN hc hk hM (t:=t.SA t.fv s) ⟨h'.cf,h'.nn,h'.tA,h'.nD,h'.pc,h'.dn,h'.fV,h'.sn,h'.rV,h'.um,h'.qI,h'.tz,by show 0≤t.eO+1∧t.eO+1≤((k+1:Nat):Int);omega⟩ hd ⟨Mc hc g1.ok _,Mb g1.st _,BN g1.xn _,g1.Fy,fun e=>(by rw [show t.aK=false from e] at hs;cases hs)⟩
theorem Qq (hc:b9 c) (hk:k+1<2^24) (hM:jN c nt k M) (h:jM c nt k t) (hd:t.done=false) (ha:t.iE=some s) (hb:s.jt=true):DC t s M:=by
 obtain⟨g1,_,_,g2⟩:=h.Be s ha
 rw [if_pos (.inl hb)] at g1
 exact xN hc hk hM (h.co.mono (Nat.le_succ k)) hd g1
theorem Qd (hA:DB fF) (hc:b9 c) (hk:k+1<2^24) (hM:jN c nt k M) (h:jM c nt k t) (hd:t.done=false) (ha:t.iE=some s) (hb:s.jt=false) (hs:t.aK=false) (rX:JH t.ay):XJ fF t s M t.fv:=by
 have om:=h.co
 have h':=om.mono (Nat.le_succ k)
 have h1:=om.fV
 have h2:=om.sn
 obtain⟨g1,_,_,g2⟩:=h.Be s ha
 rw [if_neg (by rw [hb,hs];simp)] at g1
 have hR:=g1
 obtain⟨w1,w2,w3,w4⟩:=hR.zU
 obtain⟨ld,hi⟩:=om.fv hd
 have qG:=(qV om.nD ld).2.1 _ w4
 rw [←hi] at qG
 refine⟨hA,B6 hc (by omega) om (by omega),hR.ok.b.NM hc,CN om hd,Mg om hd rX,qG,fun mg=>?_⟩
 refine xN hc hk hM (t:={ t with iE:=some (t.D7 t.fv s) }) ⟨h'.cf,h'.nn,h'.tA,h'.nD,h'.pc,h'.dn,h'.fV,h'.sn,h'.rV,h'.um,h'.qI,h'.tz,h'.kS⟩ hd ⟨Kv hc hR.ok _,Bh hR.st _,Bi hR.xn _,fun e=>(by have e2:t.aK=true:=e;rw [hR.Fy] at e2;cases e2),fun _=>⟨w1,w2,w3,?_⟩⟩
 by_cases h89:t.fv.op=8∨t.fv.op=9
 · right;right
   unfold be.D7
   rw [if_neg (by omega),if_neg (by omega),if_neg (by omega),if_neg (by omega)]
   split
   · exact xI hR.st hb (.inl rfl)
   · rw [if_pos (by omega)]
     exact xI hR.st hb (.inr rfl)
 · exact .inr (.inl ⟨w4,by show t.fv.op=10∨t.fv.op=11∨t.fv.op=14∨t.fv.op=15;omega⟩)
theorem vX (i:cz) (v:Int):(t.zI i v).ay=t.ay:=by unfold be.zI;split<;>rfl
theorem vM:(t.mG s).ay=t.ay:=by unfold be.mG;split<;>rfl
theorem LR:(t.bS s).ay=t.ay:=by
 unfold be.bS
 split
 · split
   · exact vM
   · exact vM
 · exact vM
theorem JA (i:cz):(t.qg i s).ay=t.ay:=by
 unfold be.qg
 split
 · split
   · unfold be.jY
     dsimp only
     split
     · exact vX _ _
     · split<;>rfl
   · exact LR
 · split
   · rfl
   · (repeat' split)<;>rfl
theorem rq:(t.vW M s).2.2.1.ay=t.ay:=by
 unfold be.vW
 dsimp only
 split
 · rfl
 · exact JA _
theorem qd:t.ja.ay=t.ay:=by unfold be.ja;split<;>rfl
theorem AV (f:il):(t.rR M f).2.1.ay=t.ay:=by
 unfold be.rR
 split
 · dsimp only
   split
   · exact qd
   · exact qd
 · exact qd
theorem Gd (i:cz):(t.plain M i).2.2.1.ay=t.ay:=by
 unfold be.plain
 dsimp only
 split
 · split<;>rfl
 · split
   · exact rq
   · split
     · exact vX _ _
     · exact vX _ _
theorem BI (i:cz):(t.kR fF M i).2.2.1.ay=t.ay:=by
 unfold be.kR
 split
 · exact rq
 · split
   · split
     · exact rq
     · exact(uk fF t i).2.2.2.1
   · split
     · exact Gd i
     · split
       · exact AV _
       · exact(uk fF t i).2.2.2.1
theorem FV:(t.se fF M).2.2.1.ay=t.ay:=by
 unfold be.se
 split
 · exact AV _
 · split
   · split
     · exact rq
     · split
       · exact rq
       · exact BI _
   · exact BI _
theorem A8:(t.step fF M).2.2.2.1.ay=t.ay:=by
 unfold be.step
 split
 · rfl
 · exact FV
theorem K4 (fF:Int→Int→Int→Int) (t:be) (i:cz):(t.gZ fF i).id=t.id:=by
 unfold be.gZ
 split
 · rfl
 · split
   · rfl
   · split
     · rfl
     · split<;>rfl
theorem Dq (i:cz) (v:Int):(t.zI i v).id=t.id:=by unfold be.zI;split<;>rfl
theorem C1:(t.mG s).id=t.id:=by unfold be.mG;split<;>rfl
theorem Qb:(t.bS s).id=t.id:=by
 unfold be.bS
 split
 · split
   · exact C1
   · exact C1
 · exact C1
theorem NS (i:cz):(t.qg i s).id=t.id:=by
 unfold be.qg
 split
 · split
   · unfold be.jY
     dsimp only
     split
     · exact Dq _ _
     · split<;>rfl
   · exact Qb
 · split
   · rfl
   · (repeat' split)<;>rfl
theorem zG:(t.vW M s).2.2.1.id=t.id:=by
 unfold be.vW
 dsimp only
 split
 · rfl
 · exact NS _
theorem tp:t.ja.id=t.id:=by unfold be.ja;split<;>rfl
theorem Hz (f:il):(t.rR M f).2.1.id=t.id:=by
 unfold be.rR
 split
 · dsimp only
   split
   · exact tp
   · exact tp
 · exact tp
theorem KC (i:cz):(t.plain M i).2.2.1.id=t.id:=by
 unfold be.plain
 dsimp only
 split
 · split<;>rfl
 · split
   · exact zG
   · split
     · exact Dq _ _
     · exact Dq _ _
theorem Ih (i:cz):(t.kR fF M i).2.2.1.id=t.id:=by
 unfold be.kR
 split
 · exact zG
 · split
   · split
     · exact zG
     · exact(K4 fF t i)
   · split
     · exact KC i
     · split
       · exact Hz _
       · exact(K4 fF t i)
theorem HC (hc:b9 c) (hk:k<2^40) (hM:jN c nt k M) (h:jM c nt k t):jM c nt (k+1) (t.step fF M).2.2.2.1∧jN c nt (k+1) (t.step fF M).2.2.2.2:=by
 unfold be.step
 split
 · exact⟨h.mono (by omega),hM.mono (by omega)⟩
 · rename_i hd
   exact Ko hc hk hM h (by simpa using hd)
end
section
abbrev tU:List (Nat×Nat):=[(0,0),(1,0),(2,0),(3,0),(4,0),(5,0),(6,0),(7,0),(8,0),(9,0),(10,0),(11,2),(12,3)]
open T2
variable [Gl]
variable [AF]
theorem aY.Bp {P:Program} {f:FuncId} {args:List Value} {q:ls} {b:Nat} {t:be} {nG post:List It} {φ:Value→Prop} (h:aY P f args nG φ (fun _=>.h (fx q b t)::post)) :
 ct P f args nG (fun (_:OO) v=>φ v) (fun x=>.at b (nM t.d ⟨fb t.iE x.cr,x.vs,fa t.dA x.dQ,jF t.dt x.iN,.slice (some ⟨q.bb,q.off,none⟩) t.ay.length q.ew,pv x.ef,x.vo⟩)::.h (dv t.iE x.cr)::.h (hZ x.vs t.dY)::.h (du t.dA x.dQ)::.h (ff t.dt x.iN) ::
  .at q.bb q.o::.h (ml x.ef t.cf t.fu)::.h (hZ x.vo t.fV)::post):=fun A F hw hS=>by
 refine bT (h A F hw hS) ?_
 rintro v A' ⟨h1,h2⟩ _ _
 obtain⟨x,hx⟩:=fx.open h2 .z
 exact⟨x,h1,hx⟩
theorem ct.Bp {P:Program} {f:FuncId} {args:List Value} {q:ls} {b:Nat} {t:be} {nG:List It} {post:Value→List It} {φ:Value→Value→Prop} (h:ct P f args nG φ (fun ev=>.h (fx q b t)::post ev)) :
 ct P f args nG (fun (y:Value×OO) v=>φ y.1 v) (fun y=>.at b (nM t.d ⟨fb t.iE y.2.cr,y.2.vs,fa t.dA y.2.dQ,jF t.dt y.2.iN,.slice (some ⟨q.bb,q.off,none⟩) t.ay.length q.ew,pv y.2.ef,y.2.vo⟩)::.h (dv t.iE y.2.cr)::.h (hZ y.2.vs t.dY)::.h (du t.dA y.2.dQ)::.h (ff t.dt y.2.iN) ::
  .at q.bb q.o::.h (ml y.2.ef t.cf t.fu)::.h (hZ y.2.vo t.fV)::post y.1):=fun A F hw hS=>by
 refine bT (h A F hw hS) ?_
 rintro v A' ⟨ev,h1,h2⟩ _ _
 obtain⟨x,hx⟩:=fx.open h2 .z
 exact⟨(ev,x),h1,hx⟩
theorem D1 {fF:Int→Int→Int→Int} (hA:DB fF) (hF:FOK) {c:bC} {nt k:Nat} (hc:b9 c) (hk:k+1<2^24) (q:ls) (b pb:Nat) (t:be) (M:Mm) (hM:jN c nt k M) (h:jM c nt k t) (rX:JH t.ay) (xm:CR q t.ay) (hd:t.done=false) :
 ct Tryz.prog 19 [pv b,pv pb] [.h (fx q b t),dx pb M] (fun ev v=>v=.tuple #[dD (t.step fF M).2.1,ev,.bool true]) (fun ev=>[.h (fx q b (t.step fF M).2.2.2.1),dx pb (t.step fF M).2.2.2.2,.h (iR ev (t.step fF M).2.2.1)]):=by
 have hB:JW t:=by
  have h1:=h.co.fV
  have h2:=h.co.sn
  exact B6 hc (by omega) h.co (by omega)
 have ki:0≤t.pc∧t.pc<2^40:=hB.pc
 have dO:=h.co.lt hd
 have EU:t.pc.toNat<t.ay.length:=by omega
 obtain⟨EV,Ic⟩:=xm.at EU
 have PO:t.ay[t.pc.toNat]=t.fv:=by
  unfold be.fv be.ol
  rw [List.getD_eq_getElem?_getD,List.getElem?_eq_getElem EU]
  rfl
 rw [PO] at Ic
 have xk:q.off+t.d.pc.toNat*5+5≤q.cK.length:=EV
 have yY:(q.cK.drop (q.off+t.d.pc.toNat*5)).take 5=aP t.fv:=Ic
 have FC:0≤t.d.pc:=ki.1
 have I6:t.d.pc<(t.ay.length:Int):=dO
 have Jf:t.d.done=false:=hd
 have hi:=CN h.co hd
 unfold be.step
 rw [if_neg (by rw [hd];decide)]
 dsimp only
 unfold be.se
 cases de:t.dA with
 | some f=>
   obtain⟨da,_,g3,g4,g5,g6,g7⟩:=h.V5 f de
   have R2:=h.co.tA
   have I1:=AX q b pb t M f da de hB (by omega) (Bv hc h.co) (fun l e=>by
    obtain⟨h1,h2,_⟩:=h.dr l e
    exact⟨h1,by omega⟩)
   dsimp only
   have CP:(t.rR M f).2.1.d.id=t.d.id:=Hz f
   generalize t.rR M f=r at I1 CP ⊢
   have et:=de
   intro A F hw cY
   refine ab Tryz.func19 rfl (by kernel_rfl) fun _=>?_
   dsimp only [af,ag] at cY
   obtain⟨⟨cr,dQ,iN,ef,vs,vo⟩,hS⟩:=fx.open cY .z
   clear cY
   dsimp only [gC,af,ag] at hS
   rw [da,de] at hS
   dsimp only [dv,fb,du,fa,ff,jF] at hS
   have hq:=jC hS hw
   have jX:∀k l,(b=A.next+k+l)=False:=fun k l=>by simp [hq,Nat.add_assoc]
   have CW:∀k l,(q.bb=A.next+k+l)=False:=fun k l=>by simp [hq,Nat.add_assoc]
   revert hq hS hw;(try revert hc);refine Wu (J2 (Tg.mk (n:=35) (aY.Bp I1)) (od tU)) (Ix jX CW CP Jf FC I6 xk yY @dD.eq_1 @AW.aa @ah.eq_1) (J1 ?_)<;>unhygienic intros
   refine⟨_,by first|rfl|(simp;rfl)|(simp [hq,AW.aa,ah];rfl),?_⟩
   apply sB
   (·first|rfl|(simp [dD,gA.zero,ba.v,ba.zero];done)|(simp [dD,gA.zero,ba.v,ba.zero];rfl))
   apply fx.bS
   · apply iR.nil
     (·exact sA)
   · dsimp only [gC]
     (·repeat' (first|apply aD.z|apply aD.s|apply ap.z|apply ap.pt|apply ap.s))
   (·repeat' (first|apply aD.z|apply aD.s|apply ap.z|apply ap.pt|apply ap.s))
 | none=>
   have et:=h.KS de
   dsimp only
   cases da:t.iE with
   | none=>
     dsimp only
     have nI:=LV hF q b pb t M t.fv da de et (Qe hA hc hk hM h hd da de rX) xm
     have CP:(t.kR fF M t.fv).2.2.1.d.id=t.d.id:=Ih _
     generalize t.kR fF M t.fv=r at nI CP ⊢
     generalize t.fv=i at *
     obtain⟨op,i1,i2,i3,cQ⟩:=i
     unfold iC at nI
     intro A F hw cY
     refine ab Tryz.func19 rfl (by kernel_rfl) fun _=>?_
     dsimp only [af,ag] at cY
     obtain⟨⟨cr,dQ,iN,ef,vs,vo⟩,hS⟩:=fx.open cY .z
     clear cY
     dsimp only [gC,af,ag] at hS
     rw [da,de,et] at hS
     dsimp only [dv,fb,du,fa,ff,jF] at hS
     have hq:=jC hS hw
     have jX:∀k l,(b=A.next+k+l)=False:=fun k l=>by simp [hq,Nat.add_assoc]
     have CW:∀k l,(q.bb=A.next+k+l)=False:=fun k l=>by simp [hq,Nat.add_assoc]
     revert hq hS hw;(repeat first|clear hq|clear hS|clear hw|revert hc|revert zn|revert zA|revert xw|revert R|revert K);refine Wu (J2 (Tg.mk (n:=35) (ct.Bp nI)) (od tU)) (AT jX CW CP Jf FC I6 xk yY @aP.eq_1 @dD.eq_1 @AW.aa @ah.eq_1) (J1 ?_)<;>unhygienic intros
     refine⟨_,by first|rfl|(simp;rfl)|(simp [hq,AW.aa,ah];rfl),?_⟩
     apply sB
     (·first|rfl|(simp [dD,gA.zero,ba.v,ba.zero];done)|(simp [dD,gA.zero,ba.v,ba.zero];rfl))
     apply fx.bS
     · skip
       (·exact sA)
     · dsimp only [gC]
       (·repeat' (first|apply aD.z|apply aD.s|apply ap.z|apply ap.pt|apply ap.s))
     (·repeat' (first|apply aD.z|apply aD.s|apply ap.z|apply ap.pt|apply ap.s))
   | some s=>
     dsimp only
     by_cases hb:s.jt=true
     · rw [if_pos hb]
       have Jh:=rr hF (Qq hc hk hM h hd da hb) q b pb da de et xm
       have qH:=fun n=>qw n s
       simp only [hb] at qH
       have CP:(t.vW M s).2.2.1.d.id=t.d.id:=zG
       generalize t.vW M s=r at Jh CP ⊢
       intro A F hw cY
       refine ab Tryz.func19 rfl (by kernel_rfl) fun _=>?_
       dsimp only [af,ag] at cY
       obtain⟨⟨cr,dQ,iN,ef,vs,vo⟩,hS⟩:=fx.open cY .z
       clear cY
       dsimp only [gC,af,ag] at hS
       rw [da,de,et] at hS
       dsimp only [dv,fb,du,fa,ff,jF] at hS
       have hq:=jC hS hw
       have jX:∀k l,(b=A.next+k+l)=False:=fun k l=>by simp [hq,Nat.add_assoc]
       have CW:∀k l,(q.bb=A.next+k+l)=False:=fun k l=>by simp [hq,Nat.add_assoc]
       revert hq hS hw;(repeat first|clear hq|clear hS|clear hw|revert hc|revert zn|revert zA|revert xw|revert R|revert K);refine Wu (J3 (Tg.mk (n:=10) (fun {A L K k}=>ej (A:=A) (L:=L) (K:=K) (k:=k) (qH cr))) (Tg.mk (n:=35) (ct.Bp Jh)) (od tU)) (Ix jX CW CP Jf FC I6 xk yY @dD.eq_1 @AW.aa @ah.eq_1) (J1 ?_)<;>unhygienic intros
       refine⟨_,by first|rfl|(simp;rfl)|(simp [hq,AW.aa,ah];rfl),?_⟩
       apply sB
       (·first|rfl|(simp [dD,gA.zero,ba.v,ba.zero];done)|(simp [dD,gA.zero,ba.v,ba.zero];rfl))
       apply fx.bS
       · skip
         (·exact sA)
       · dsimp only [gC]
         (·repeat' (first|apply aD.z|apply aD.s|apply ap.z|apply ap.pt|apply ap.s))
       (·repeat' (first|apply aD.z|apply aD.s|apply ap.z|apply ap.pt|apply ap.s))
     · rw [if_neg hb]
       have jX:s.jt=false:=by simpa using hb
       have qH:=fun n=>qw n s
       simp only [jX] at qH
       by_cases hs:t.aK=true
       · rw [if_pos hs]
         have AB:t.d.aK=true:=hs
         have Jh:=rr hF (t:={ t with eO:=t.eO+1,iE:=some (t.rm t.fv s) }) (Sz hc hk hM h hd da hs) q b pb rfl de et xm
         obtain⟨g1,_,_,g2⟩:=h.Be s da
         rw [if_pos (.inr hs)] at g1
         have Nr:=fun vs vf vd vc vl vo n=>IE b n t.d vs vf vd vc vl vo t.fv s (g1.ok.b.NM hc) (g1.Fy hs).1 hi hB.kS
         have ea:Hj t.d t.fv s=t.rm t.fv s:=rfl
         rw [ea] at Nr
         have CP:(({ t with eO:=t.eO+1,iE:=some (t.rm t.fv s) }:be).vW M (t.rm t.fv s)).2.2.1.d.id=t.d.id:=zG
         rw [show t.SA t.fv s={ t with eO:=t.eO+1,iE:=some (t.rm t.fv s) } from rfl]
         generalize ({ t with eO:=t.eO+1,iE:=some (t.rm t.fv s) }:be).vW M (t.rm t.fv s)=r at Jh CP ⊢
         generalize t.rm t.fv s=s2 at Jh Nr ⊢
         generalize t.fv=i at *
         obtain⟨op,i1,i2,i3,cQ⟩:=i
         unfold iC at Nr
         intro A F hw cY
         refine ab Tryz.func19 rfl (by kernel_rfl) fun _=>?_
         dsimp only [af,ag] at cY
         obtain⟨⟨cr,dQ,iN,ef,vs,vo⟩,hS⟩:=fx.open cY .z
         clear cY
         dsimp only [gC,af,ag] at hS
         rw [da,de,et] at hS
         dsimp only [dv,fb,du,fa,ff,jF] at hS
         have hq:=jC hS hw
         have jX:∀k l,(b=A.next+k+l)=False:=fun k l=>by simp [hq,Nat.add_assoc]
         have CW:∀k l,(q.bb=A.next+k+l)=False:=fun k l=>by simp [hq,Nat.add_assoc]
         revert hq hS hw;(repeat first|clear hq|clear hS|clear hw|revert hc|revert zn|revert zA|revert xw|revert R|revert K);refine Wu (J4 (Tg.mk (n:=10) (fun {A L K k}=>ej (A:=A) (L:=L) (K:=K) (k:=k) (qH cr))) (Tg.mk (n:=37) (fun x1 x2 x3 x4 x5 x6=>Nr x1 x2 x3 x4 x5 x6 cr)) (Tg.mk (n:=35) (ct.Bp Jh)) (od tU)) (rQ jX CW CP Jf AB FC I6 xk yY @aP.eq_1 @dD.eq_1 @AW.aa @ah.eq_1) (J1 ?_)<;>unhygienic intros
         refine⟨_,by first|rfl|(simp;rfl)|(simp [hq,AW.aa,ah];rfl),?_⟩
         apply sB
         (·first|rfl|(simp [dD,gA.zero,ba.v,ba.zero];done)|(simp [dD,gA.zero,ba.v,ba.zero];rfl))
         apply fx.bS
         · skip
           (·exact sA)
         · dsimp only [gC]
           (·repeat' (first|apply aD.z|apply aD.s|apply ap.z|apply ap.pt|apply ap.s))
         (·repeat' (first|apply aD.z|apply aD.s|apply ap.z|apply ap.pt|apply ap.s))
       · rw [if_neg hs]
         have M6:t.aK=false:=by simpa using hs
         have AB:t.d.aK=false:=M6
         have nI:=LU hF q b pb t s M t.fv da de et (Qd hA hc hk hM h hd da jX M6 rX) xm
         have CP:(t.kR fF M t.fv).2.2.1.d.id=t.d.id:=Ih _
         generalize t.kR fF M t.fv=r at nI CP ⊢
         generalize t.fv=i at *
         obtain⟨op,i1,i2,i3,cQ⟩:=i
         unfold iC at nI
         intro A F hw cY
         refine ab Tryz.func19 rfl (by kernel_rfl) fun _=>?_
         dsimp only [af,ag] at cY
         obtain⟨⟨cr,dQ,iN,ef,vs,vo⟩,hS⟩:=fx.open cY .z
         clear cY
         dsimp only [gC,af,ag] at hS
         rw [da,de,et] at hS
         dsimp only [dv,fb,du,fa,ff,jF] at hS
         have hq:=jC hS hw
         have jX:∀k l,(b=A.next+k+l)=False:=fun k l=>by simp [hq,Nat.add_assoc]
         have CW:∀k l,(q.bb=A.next+k+l)=False:=fun k l=>by simp [hq,Nat.add_assoc]
         revert hq hS hw;(repeat first|clear hq|clear hS|clear hw|revert hc|revert zn|revert zA|revert xw|revert R|revert K);refine Wu (J3 (Tg.mk (n:=10) (fun {A L K k}=>ej (A:=A) (L:=L) (K:=K) (k:=k) (qH cr))) (Tg.mk (n:=35) (ct.Bp nI)) (od tU)) (rQ jX CW CP Jf AB FC I6 xk yY @aP.eq_1 @dD.eq_1 @AW.aa @ah.eq_1) (J1 ?_)<;>unhygienic intros
         refine⟨_,by first|rfl|(simp;rfl)|(simp [hq,AW.aa,ah];rfl),?_⟩
         apply sB
         (·first|rfl|(simp [dD,gA.zero,ba.v,ba.zero];done)|(simp [dD,gA.zero,ba.v,ba.zero];rfl))
         apply fx.bS
         · skip
           (·exact sA)
         · dsimp only [gC]
           (·repeat' (first|apply aD.z|apply aD.s|apply ap.z|apply ap.pt|apply ap.s))
         (·repeat' (first|apply aD.z|apply aD.s|apply ap.z|apply ap.pt|apply ap.s))
end
end Go.Stx
