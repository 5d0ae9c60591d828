/-
 The program's thread: made anew; its state and its observations.
-/
import Derived.Test.YtejgooipbmnioaaGreatDoorG37
set_option linter.unusedVariables false
set_option linter.unusedSimpArgs false
set_option linter.unusedSectionVars false
set_option maxRecDepth 20000
set_option maxHeartbeats 4000000
namespace Go.Stx
open Go Go.Proofs
attribute [local irreducible] TW cg eg bn aC aV cR df
section
abbrev MU:List (Nat×Nat):=[(0,0),(1,0),(2,0),(3,0),(4,0),(5,0),(6,0),(7,0),(8,0),(9,0),(10,0),(11,2),(12,3)]
abbrev xu:List (Nat×Nat):=[(0,0),(1,0),(2,0),(3,0),(5,0),(4,2),(6,2),(7,0),(8,2),(9,0)]
open T6
variable [Gl]
theorem C8 (v:Value) (n:Nat) (cs:List Value) (A:AW) (h:iF A 5 v n cs) (h1:cs.all Value.oneCell'=true) (hl:n<2^30) :
 aC Tryz.prog 53 [v] A (fun u A'=>lU A.next A' 5 u n cs∧A.le A'∧A'.Wf):=by
 refine ab Tryz.func53 rfl (by kernel_rfl) fun hw=>?_
 have hv:(∃c,v=.slice none n c)∨∃q c,v=.slice (some q) n c:=by
  rcases h with ⟨⟨o,rfl⟩,rfl,rfl⟩|⟨p,c,cK,own,u,rfl,_⟩
  · cases o with
    | none=>exact .inl ⟨_,rfl⟩
    | some q=>exact .inr ⟨_,_,rfl⟩
  · exact .inr ⟨_,_,rfl⟩
 rcases hv with ⟨c,rfl⟩|⟨q,c,rfl⟩
 · obtain⟨rfl,rfl,rfl⟩:n=0∧c=0∧cs=[]:=by
    rcases h with ⟨⟨o,h0⟩,h2,h3⟩|⟨p,c',cK,own,u,h0,_⟩
    · injection h0 with h4 h5 h6
      exact⟨h2,h6,h3⟩
    · cases h0
   revert hw;refine W trivial trivial (J1 ?_)<;>unhygienic intros
   exact⟨_,rfl,.inl ⟨rfl,rfl,rfl⟩,AW.le.refl A,hw⟩
 · have h2:=iF.le (AW.le.alloc A (.cells [] true 5)) hw h
   have uu:lU A.next (A.alloc (.cells [] true 5)) 5 (.slice (some ⟨A.next,0,none⟩) 0 0) 0 []:=.inr ⟨⟨A.next,0,none⟩,0,[],rfl,Nat.le_refl _,rfl,Nat.le_refl _,by simp,by simp,by simp⟩
   obtain⟨v',A',e1,e2,e3,e4,e5,e6,e7⟩:=rt (P:=Tryz.prog) (size:=5) (t:=30) Tryz.underlying30 Tryz.info33 Tryz.zero33 rfl rfl (by omega) uu (iF.lj h2) h1 (by omega) (by simp;omega) (by simp) (hw.alloc _)
   revert hw;(repeat first|clear hw|revert hc|revert zn|revert zA|revert R|revert K);refine W trivial (J1 e1) (J1 ?_)<;>unhygienic intros
   refine⟨_,rfl,?_,?_,e4⟩
   · simpa using e2
   · exact e3 A (Nat.le_refl _) (AW.le.alloc A _)
theorem C7 (v:Value) (n:Nat) (cs:List Value) (A:AW) (h:iF A 3 v n cs) (h1:cs.all Value.oneCell'=true) (hl:n<2^30) :
 aC Tryz.prog 62 [v] A (fun u A'=>lU A.next A' 3 u n cs∧A.le A'∧A'.Wf):=by
 refine ab Tryz.func62 rfl (by kernel_rfl) fun hw=>?_
 have hv:(∃c,v=.slice none n c)∨∃q c,v=.slice (some q) n c:=by
  rcases h with ⟨⟨o,rfl⟩,rfl,rfl⟩|⟨p,c,cK,own,u,rfl,_⟩
  · cases o with
    | none=>exact .inl ⟨_,rfl⟩
    | some q=>exact .inr ⟨_,_,rfl⟩
  · exact .inr ⟨_,_,rfl⟩
 rcases hv with ⟨c,rfl⟩|⟨q,c,rfl⟩
 · obtain⟨rfl,rfl,rfl⟩:n=0∧c=0∧cs=[]:=by
    rcases h with ⟨⟨o,h0⟩,h2,h3⟩|⟨p,c',cK,own,u,h0,_⟩
    · injection h0 with h4 h5 h6
      exact⟨h2,h6,h3⟩
    · cases h0
   revert hw;refine W trivial trivial (J1 ?_)<;>unhygienic intros
   exact⟨_,rfl,.inl ⟨rfl,rfl,rfl⟩,AW.le.refl A,hw⟩
 · have h2:=iF.le (AW.le.alloc A (.cells [] true 3)) hw h
   have uu:lU A.next (A.alloc (.cells [] true 3)) 3 (.slice (some ⟨A.next,0,none⟩) 0 0) 0 []:=.inr ⟨⟨A.next,0,none⟩,0,[],rfl,Nat.le_refl _,rfl,Nat.le_refl _,by simp,by simp,by simp⟩
   obtain⟨v',A',e1,e2,e3,e4,e5,e6,e7⟩:=rt (P:=Tryz.prog) (size:=3) (t:=64) Tryz.underlying64 Tryz.info63 Tryz.zero63 rfl rfl (by omega) uu (iF.lj h2) h1 (by omega) (by simp;omega) (by simp) (hw.alloc _)
   revert hw;(repeat first|clear hw|revert hc|revert zn|revert zA|revert R|revert K);refine W trivial (J1 e1) (J1 ?_)<;>unhygienic intros
   refine⟨_,rfl,?_,?_,e4⟩
   · simpa using e2
   · exact e3 A (Nat.le_refl _) (AW.le.alloc A _)
def zZ (b:Nat) (t:be) (f:OO) (vc:Value):List It:=[.at b (nM t.d ⟨fb t.iE f.cr,f.vs,fa t.dA f.dQ,jF t.dt f.iN,vc,pv f.ef,f.vo⟩),.h (dv t.iE f.cr),.h (hZ f.vs t.dY),.h (du t.dA f.dQ),.h (ff t.dt f.iN),
 .h (BR vc t.ay),.h (ml f.ef t.cf t.fu),.h (hZ f.vo t.fV)]
def vY (b:Nat) (t:be):HP:=nI fun f:OO×Value=>aR (zZ b t f.1 f.2)
theorem vY.open {A:AW} {L K:List It} {b:Nat} {t:be} (h:ak A L) (hp:ap L (.h (vY b t)) K):∃f:OO×Value,ak A (zZ b t f.1 f.2++K):=jE h hp
theorem vY.dR {A:AW} {L K:List It} {b:Nat} {t:be} {f:OO} {vc:Value} (h:ak A L) (e:aD L (zZ b t f vc) K):ak A (.h (vY b t)::K):=ii (f,vc) h e
theorem vY.bS {A:AW} {L K G K2:List It} {b:Nat} {t:be} {cr dQ iN ef:Nat} {vs vo vc:Value} (h:ak A L) (e:aD L (zZ b t ⟨cr,dQ,iN,ef,vs,vo⟩ vc) K) (e2:aD K G K2):ak A (.h (vY b t)::G):=ak.bS (vY.dR h e) (.s .z e2)
theorem vY.X3 {A:AW} {L K:List It} {b:Nat} {t:be} (h:ak A L) (hp:ap L (.h (vY b t)) K) (hl:0<t.ay.length):∃q,CR q t.ay∧ak A (.h (fx q b t)::K):=by
 obtain⟨⟨⟨cr,dQ,iN,ef,vs,vo⟩,vc⟩,h1⟩:=vY.open h hp
 dsimp only [zZ,af,ag] at h1
 obtain⟨q,rfl,h2,h3⟩:=L2 h1 (.s (.s (.s (.s (.s .z))))) hl
 refine⟨q,h2,fx.dR (cr:=cr) (dQ:=dQ) (iN:=iN) (ef:=ef) (vs:=vs) (vo:=vo) h3 ?_⟩
 unfold gC
 dsimp only
 (·repeat' (first|apply aD.z|apply aD.s|apply ap.z|apply ap.pt|apply ap.s))
theorem fx.X4 {A:AW} {L K:List It} {q:ls} {b:Nat} {t:be} (h:ak A L) (hp:ap L (.h (fx q b t)) K) (hR:CR q t.ay):ak A (.h (vY b t)::K):=by
 obtain⟨⟨cr,dQ,iN,ef,vs,vo⟩,h1⟩:=fx.open h hp
 dsimp only [gC,af,ag] at h1
 have h2:=Jw hR h1 (.s (.s (.s (.s (.s .z)))))
 refine vY.dR (f:=⟨cr,dQ,iN,ef,vs,vo⟩) (vc:=.slice (some ⟨q.bb,q.off,none⟩) t.ay.length q.ew) h2 ?_
 unfold zZ
 dsimp only
 (·repeat' (first|apply aD.z|apply aD.s|apply ap.z|apply ap.pt|apply ap.s))
def Tq (d:vZ):Value:=.agg (.int .i64 d.pc::(d.dC.cells++[.int .i64 d.iZ,.bool d.done])).toArray
theorem tE (b:Nat) (d:vZ) (w:JV):aY Tryz.prog 18 [pv b] [.at b (nM d w)] (fun v=>v=Tq d) (fun _=>[.at b (nM d w)]):=by
 intro A F hw hS
 refine ab Tryz.func18 rfl (by kernel_rfl) fun _=>?_
 dsimp only [af,ag] at hS
 have hq:=eD hS hw
 revert hq hS hw;refine W trivial (J2 @AW.aa @ah.eq_1) (J1 ?_)<;>unhygienic intros
 refine⟨_,by first|rfl|(simp;rfl)|(simp [hq,AW.aa,ah];rfl),by first|rfl|(simp [Tq];done),?_⟩
 apply ak.bS
 (·exact sA)
 (·repeat' (first|apply aD.z|apply aD.s|apply ap.z|apply ap.pt|apply ap.s))
theorem D2 (b:Nat) (t:be) (M:Mm) (pb:Nat) (hd:t.done=true):aY Tryz.prog 19 [pv b,pv pb] [.h (vY b t)] (fun v=>v=.tuple #[dD gA.zero,.slice none 0 0,.bool false]) (fun _=>[.h (vY b t)]):=by
 intro A F hw cY
 refine ab Tryz.func19 rfl (by kernel_rfl) fun _=>?_
 dsimp only [af,ag] at cY
 obtain⟨⟨⟨cr,dQ,iN,ef,vs,vo⟩,vc⟩,hS⟩:=vY.open cY .z
 clear cY
 dsimp only [zZ,af,ag] at hS
 have hq:=eD hS hw
 have Jf:t.d.done=true:=hd
 revert hq hS hw;refine W (J1 (od MU)) (J3 Jf @AW.aa @ah.eq_1) (J1 ?_)<;>unhygienic intros
 refine⟨_,by first|rfl|(simp;rfl)|(simp [hq,AW.aa,ah];rfl),by first|rfl|(simp [dD,gA.zero,ba.v,ba.zero];done),?_⟩
 apply vY.bS
 (·exact sA)
 · unfold zZ
   dsimp only
   (·repeat' (first|apply aD.z|apply aD.s|apply ap.z|apply ap.pt|apply ap.s))
 (·repeat' (first|apply aD.z|apply aD.s|apply ap.z|apply ap.pt|apply ap.s))
theorem M4 (l:List cz):(l.flatMap aP).all Value.oneCell'=true:=by
 rw [List.all_eq_true]
 intro v hv
 obtain⟨x,_,hx⟩:=List.mem_flatMap.1 hv
 simp only [aP,List.mem_cons,List.not_mem_nil,or_false] at hx
 rcases hx with rfl|rfl|rfl|rfl|rfl<;>rfl
theorem Gx (c:bC) {A:AW} {L:List It} {k:Value→AW→Prop} (hw:A.Wf) (hS:ak A L) (hk:∀n A',ak A' (.h (ml n c [])::L)→A'.Wf→A.le A'→k (pv n) A'):aC Tryz.prog 54 [c.v] A k:=by
 refine ab Tryz.func54 rfl (by kernel_rfl) fun _=>?_
 obtain⟨FK,sX,Hf,c0,c1,c2,c3,yx,FH,Hm,GW,tD,FS⟩:=c
 simp only [bC.v,bC.cells]
 revert hS hw;refine W trivial (J2 @AW.aa @ah.eq_1) (J1 ?_)<;>unhygienic intros
 refine⟨_,by first|rfl|(simp;rfl),?_⟩
 have w1:=hw.alloc (.cells [.int .i64 FK,.int .i64 sX,.int .i64 Hf,.int .i64 c0,.int .i64 c1,.int .i64 c2,.int .i64 c3,.int .i64 yx,.int .i64 FH,.int .i64 Hm,.int .i64 GW,.int .i64 tD,.bool FS] true 1)
 have h1:ak _ L:=bz.alloc hS hw (.cells [.int .i64 FK,.int .i64 sX,.int .i64 Hf,.int .i64 c0,.int .i64 c1,.int .i64 c2,.int .i64 c3,.int .i64 yx,.int .i64 FH,.int .i64 Hm,.int .i64 GW,.int .i64 tD,.bool FS] true 1) |>.right
 refine hk (A.next+1) _ ?_ (w1.alloc _) ((AW.le.alloc A _).trans (AW.le.alloc _ _))
 refine ml.dR (v:=.slice none 0 0) (L:=.h (MD (.slice none 0 0) [])::.at (A.next+1) (Lh ⟨FK,sX,Hf,c0,c1,c2,c3,yx,FH,Hm,GW,tD,FS⟩ (.slice none 0 0))::L) ?_ (.s (.s .z) (.s .z .z))
 exact d9.nil (bz.alloc h1 w1 _)
theorem Kh (b:Nat) (d:vZ) (va vs vf vd vl vo:Value) (o:Option Addr) (n c:Nat) (pc:Int) (A:AW) (hg:A.bR b=some (nM d ⟨va,vs,vf,vd,.slice o n c,vl,vo⟩)) :
 aC Tryz.prog 55 [pv b,.int .i64 pc] A (fun u A'=>A'=A.set b (some (nM { d with pc:=pc,done:=decide (pc=n) } ⟨va,vs,vf,vd,.slice o n c,vl,vo⟩))):=by
 refine ab Tryz.func55 rfl (by kernel_rfl) fun _=>?_
 refine W trivial (J3 hg @AW.aa @ah.eq_1) (J1 ?_)<;>unhygienic intros
 exact⟨_,rfl,AW.HF⟩
theorem ak.Qg {A:AW} {L:List It} (h:ak A L):ak A (.h eG::L):=by
 unfold ak at *
 show bz A (eG*aR L)
 rw [hQ]
 exact h
theorem ak.Sx {A:AW} {x y:It} {L:List It} (h:ak A (x::y::L)):ak A (x::L):=by
 have h2:bz A (y.hp*(x.hp*aR L)):=bz.dH h (by show x.hp*(y.hp*aR L)=_;ac_rfl)
 exact h2.right
theorem Ew (hF:FOK) {c:bC} (hc:b9 c) (id n:Int) (R2:0≤id∧id<n∧n≤16) (v:Value) (p:List cz) (hp:(dW p).2=0) {A:AW} {L:List It} {k:Value→AW→Prop} (hw:A.Wf) (hS:ak A L) (h:lX A v p)
 (hk:∀b A',ak A' (.h (vY b (qW c id n p))::L)→A'.Wf→A.le A'→k (.tuple #[pv b,.int .i64 0]) A'):aC Tryz.prog 17 [c.v,.int .i64 id,.int .i64 n,v] A k:=by
 refine ab Tryz.func17 rfl (by kernel_rfl) fun _=>?_
 have hl:p.length≤64:=(fX hp).1
 obtain⟨o,cc,rfl,_⟩:=h.dJ
 have AG:=nl c hc
 have ki:=fun O=>qU hF (.slice o p.length cc) p (A.alloc O) (iF.le (AW.le.alloc A O) hw h)
 have QU:=fun {A:AW} {L:List It} {k:Value→AW→Prop}=>Gx c (A:=A) (L:=L) (k:=k)
 generalize I5:dW p=pp at hp ki
 obtain⟨p1,p2⟩:=pp
 dsimp only at hp
 subst hp
 unfold E8 at ki
 have a1:¬n<1:=by omega
 have a2:¬16<n:=by omega
 have a3:¬id<0:=by omega
 have a4:¬n≤id:=by omega
 obtain⟨FK,sX,Hf,c0,c1,c2,c3,yx,FH,Hm,GW,tD,FS⟩:=c
 simp only [bC.v,bC.cells] at AG QU ⊢
 revert hS hw;(try revert hc);refine W (J3 (od xu) @AG @ki) (J6 a1 a2 a3 a4 @AW.aa @ah.eq_1) (J1 ?_)<;>unhygienic intros
 have w1:=hw.alloc (.cells [.int .i64 FK,.int .i64 sX,.int .i64 Hf,.int .i64 c0,.int .i64 c1,.int .i64 c2,.int .i64 c3,.int .i64 yx,.int .i64 FH,.int .i64 Hm,.int .i64 GW,.int .i64 tD,.bool FS] true 1)
 have h1:ak _ (.at A.next _::L):=bz.alloc hS hw (.cells [.int .i64 FK,.int .i64 sX,.int .i64 Hf,.int .i64 c0,.int .i64 c1,.int .i64 c2,.int .i64 c3,.int .i64 yx,.int .i64 FH,.int .i64 Hm,.int .i64 GW,.int .i64 tD,.bool FS] true 1)
 refine bT (C8 _ _ _ _ (iF.le (AW.le.alloc A _) hw h) (M4 p) (by omega)) ?_
 rintro u A4 ⟨W6,PK,TB⟩ _ _
 first|refine⟨PK,?_⟩|skip
 have h4:ak A4 (.h (BR u p)::.at A.next _::L):=d9.gG h1 w1 PK W6
 obtain⟨o4,c4,rfl,_⟩:=W6.is.dJ
 have Ze:=h4.g 1 rfl
 revert hS hw;(repeat first|clear hS|clear hw|revert hc|revert zn|revert zA|revert R|revert K);refine W (J1 (od xu)) (J3 Ze @AW.aa @ah.eq_1) (J1 ?_)<;>unhygienic intros
 refine QU TB h4 ?_
 intro n5 A5 h5 By EV
 first|refine⟨EV,?_⟩|skip
 revert hS hw;(repeat first|clear hS|clear hw|revert hc|revert zn|revert zA|revert R|revert K);refine W (J1 (od xu)) (J2 @AW.aa @ah.eq_1) (J1 ?_)<;>unhygienic intros
 refine bT (Kh A5.next ⟨0,.zero,0,false,0,⟨FK,sX,Hf,c0,c1,c2,c3,yx,FH,Hm,GW,tD,FS⟩,id,n,0,.zero,0,false,0⟩ (.pointer none) (.slice none 0 0) (.pointer none) (.pointer none) (pv n5) (.slice none 0 0) o4 p.length c4 0 _ (AW.cW _ _)) ?_
 rintro u A6 rfl _ _
 first|refine⟨AW.le.refl _,?_⟩|skip
 revert hS hw;(repeat first|clear hS|clear hw|revert hc|revert zn|revert zA|revert R|revert K);refine W (J1 (od xu)) (J2 @AW.aa @ah.eq_1) (J1 ?_)<;>unhygienic intros
 refine⟨.tuple #[pv A5.next,.int .i64 0],by simp [cH,bI,bM],?_⟩
 have h6:ak ((A5.alloc (nM ⟨0,.zero,0,false,0,⟨FK,sX,Hf,c0,c1,c2,c3,yx,FH,Hm,GW,tD,FS⟩,id,n,0,.zero,0,false,0⟩ ⟨.pointer none,.slice none 0 0,.pointer none,.pointer none,.slice o4 p.length c4,pv n5,.slice none 0 0⟩)).set A5.next (some (nM ⟨0,.zero,0,false,0,⟨FK,sX,Hf,c0,c1,c2,c3,yx,FH,Hm,GW,tD,FS⟩,id,n,0,.zero,0,decide ((0:Int)=p.length),0⟩ ⟨.pointer none,.slice none 0 0,.pointer none,.pointer none,.slice o4 p.length c4,pv n5,.slice none 0 0⟩))) (.at A5.next (nM ⟨0,.zero,0,false,0,⟨FK,sX,Hf,c0,c1,c2,c3,yx,FH,Hm,GW,tD,FS⟩,id,n,0,.zero,0,decide ((0:Int)=p.length),0⟩ ⟨.pointer none,.slice none 0 0,.pointer none,.pointer none,.slice o4 p.length c4,pv n5,.slice none 0 0⟩)::.h (ml n5 ⟨FK,sX,Hf,c0,c1,c2,c3,yx,FH,Hm,GW,tD,FS⟩ [])::.h (BR (.slice o4 p.length c4) p)::.at A.next (.cells [.int .i64 FK,.int .i64 sX,.int .i64 Hf,.int .i64 c0,.int .i64 c1,.int .i64 c2,.int .i64 c3,.int .i64 yx,.int .i64 FH,.int .i64 Hm,.int .i64 GW,.int .i64 tD,.bool FS] true 1)::L):=
  bz.set (bz.alloc h5 By _) _
 refine hk A5.next _ ?_ ((By.alloc _).set _ (by simp)) (((AW.le.alloc A _).trans PK).trans (EV.trans (AW.le.BW A5 _ _)))
 have h7:=ak.Qg (ak.Qg (ak.Qg (ak.Pm (ak.Pm h6))))
 have e:decide ((0:Int)=p.length)=decide (p.length=0):=by
  by_cases e:p.length=0
  · simp [e]
  · rw [decide_eq_false e,decide_eq_false (by omega)]
 rw [e] at h7
 have h8:=vY.dR (b:=A5.next) (t:=qW ⟨FK,sX,Hf,c0,c1,c2,c3,yx,FH,Hm,GW,tD,FS⟩ id n p) (f:=⟨0,0,0,n5,.slice none 0 0,.slice none 0 0⟩) (vc:=.slice o4 p.length c4) (K:=.at A.next (.cells [.int .i64 FK,.int .i64 sX,.int .i64 Hf,.int .i64 c0,.int .i64 c1,.int .i64 c2,.int .i64 c3,.int .i64 yx,.int .i64 FH,.int .i64 Hm,.int .i64 GW,.int .i64 tD,.bool FS] true 1)::L) h7 (by
  show aD _ [.at A5.next (nM ⟨0,.zero,0,false,0,⟨FK,sX,Hf,c0,c1,c2,c3,yx,FH,Hm,GW,tD,FS⟩,id,n,0,.zero,0,decide (p.length=0),0⟩ ⟨.pointer none,.slice none 0 0,.pointer none,.pointer none,.slice o4 p.length c4,pv n5,.slice none 0 0⟩),.h eG,.h (hZ (.slice none 0 0) []),.h eG,.h eG,.h (BR (.slice o4 p.length c4) p),.h (ml n5 _ []),.h (hZ (.slice none 0 0) [])] _
  repeat' (first|apply aD.z|apply aD.s|apply ap.z|apply ap.s))
 have h9:=ak.Sx h8
 rw [←e] at h9
 exact h9
theorem ct.ZJ {P:Program} {f:FuncId} {args:List Value} {nG:List It} {x y:Value} {a1 a2:It} (h:ct P f args nG (fun ev v=>v=.tuple #[x,ev,y]) (fun ev=>[a1,a2,.h (iR ev [])])) :
 ct P f args nG (fun (z:Option Addr×Nat) v=>v=.tuple #[x,.slice z.1 0 z.2,y]) (fun _=>[a1,a2]):=fun A F hw hS=>by
 refine bT (h A F hw hS) ?_
 rintro v A' ⟨ev,rfl,h2⟩ _ _
 obtain⟨q,hq,h3⟩:=iR.open h2 (.s (.s .z))
 have Va:q=[]:=List.map_eq_nil_iff.1 hq
 subst Va
 dsimp only [LW,af,ag] at h3
 obtain⟨o,c,rfl,_⟩:=iF.dJ (ak.wF h3 .z)
 refine⟨(o,c),rfl,?_⟩
 exact h3.tail.tail
end
section
abbrev xt:List (Nat×Nat):=[(0,0),(1,0),(2,0),(3,0),(4,0),(5,0),(6,0),(7,0),(8,0)]
open T6
variable [Gl]
variable [AF]
theorem HB {fF:Int→Int→Int→Int} (hA:DB fF) (hF:FOK) {c:bC} {nt k:Nat} (hc:b9 c) (hk:k+1<2^24) (b pb:Nat) (t:be) (M:Mm) (hM:jN c nt k M) (h:jM c nt k t) (rX:JH t.ay) (hd:t.done=false) :
 ct Tryz.prog 19 [pv b,pv pb] [.h (vY b t),dx pb M] (fun ev v=>v=.tuple #[dD (t.step fF M).2.1,ev,.bool true]) (fun ev=>[.h (vY b (t.step fF M).2.2.2.1),dx pb (t.step fF M).2.2.2.2,.h (iR ev (t.step fF M).2.2.1)]):=by
 intro A F hw hS
 have dO:=h.co.lt hd
 have ki:=h.co.pc
 obtain⟨q,hR,ke⟩:=vY.X3 hS .z (by omega)
 refine bT (D1 hA hF hc hk q b pb t M hM h rX hR hd A F hw ke) ?_
 rintro v A' ⟨ev,h1,h2⟩ _ _
 exact⟨ev,h1,fx.X4 h2 .z (by rw [A8];exact hR)⟩
theorem AZ (b:Nat) (d:vZ) (w:JV) (l:List lp) (hl:l.length<2^30) {A:AW} {L K:List It} {k:Value→AW→Prop} (hw:A.Wf) (hS:ak A L) (hp:aD L [.at b (nM d w),.h (hZ w.vo l)] K)
 (hk:∀o c A',ak A' (.h (hZ (.slice o l.length c) l)::L)→A'.Wf→A.le A'→k (.slice o l.length c) A'):aC Tryz.prog 22 [pv b] A k:=by
 have ke:ak A (.at b (nM d w)::.h (hZ w.vo l)::K):=by
  unfold ak at hS ⊢
  rw [hp.aR] at hS
  refine bz.dH hS ?_
  show (pt b (nM d w)*(hZ w.vo l*eG))*aR K=pt b (nM d w)*(hZ w.vo l*aR K)
  rw [dg]
  ac_rfl
 have hq:=ke.eu hw
 dsimp only [af,ag,bg,bB,cj,eA] at hq
 have I2:iF A 3 w.vo l.length (oC l):=ak.wF ke (.s .z)
 refine ab Tryz.func22 rfl (by kernel_rfl) fun _=>?_
 repeat' (first
 | (refine jx fun R hR=>?_;simp [aw,az,hq,AW.aa,ah];try simp (disch:=omega) only [if_pos,if_neg,aw,az])
 | (refine hR _ _ ?_;clear hR R)|(refine hK _ _ ?_;clear hK K)|refine nx ?_
 | refine wn fun K hK=>?_
 | simp only [wS]
 | refine wb ?_|refine wr ?_|refine wk ?_|refine we ?_|refine ws ?_|refine wq ?_
 | (refine wc rfl (fun hc=>?_) (fun hc=>?_)<;>(try simp at hc)<;>(try omega))
 | (refine ib (fun hc=>?_) (fun hc=>?_)<;>(try omega)<;>(try simp (disch:=omega) only [if_pos,if_neg])))
 refine bT (C7 _ _ _ _ I2 (HL l) hl) ?_
 rintro u A4 ⟨ho,eT,TB⟩ _ _
 obtain⟨o,c,rfl,_⟩:=ho.is.dJ
 first|refine⟨eT,?_⟩|skip
 revert hq hS hw;(repeat first|clear hq|clear hS|clear hw|revert hc|revert zn|revert zA|revert R|revert K);refine W trivial (J2 @AW.aa @ah.eq_1) (J1 ?_)<;>unhygienic intros
 refine⟨_,by first|rfl|(simp;rfl),?_⟩
 exact hk o c A4 (d9.gG hS hw eT ho) TB eT
theorem En:∀(l:List lp) (j:Nat) (hj:j<l.length),((oC l).drop (j*3)).take 3=(l[j]).cells
 | x::l,0,_=>by simp [oC,lp.cells]
 | x::l,j+1,h=>by
   have:=En l j (by simpa using h)
   simp only [List.getElem_cons_succ]
   rw [←this]
   have e:(j+1)*3=3+j*3:=by omega
   rw [e,←List.drop_drop]
   rfl
theorem KJ {A:AW} {v:Value} {l:List lp} (h:iF A 3 v l.length (oC l)) {i:Nat} (hi:i<l.length) :
 ∃p c cK own,v=.slice (some p) l.length c∧A.bR p.block=some (.cells cK own 3)∧p.off+i*3+3≤cK.length∧(cK.drop (p.off+i*3)).take 3=[.int .i64 l[i].pc,.int .i64 l[i].fY,.int .u64 l[i].val]:=by
 rcases h with ⟨_,h0,_⟩|⟨p,c,cK,own,u,e1,e2,e3,e4,e5,e6⟩
 · omega
 · subst e4
   refine⟨p,c,cK,own,e1,e3,by omega,?_⟩
   have:=En l i hi
   rw [e6,List.drop_take,List.drop_drop,List.take_take,Nat.min_eq_left (by omega)] at this
   exact this
theorem su (va vb:Value) (l:List lp) (A:AW) (ha:iF A 3 va l.length (oC l)) (hb:iF A 3 vb l.length (oC l)) (hl:l.length<2^30) :
 aC Tryz.prog 21 [va,vb] A (fun v A'=>v=.bool true∧A.le A'):=by
 refine ab Tryz.func21 rfl (by kernel_rfl) fun hw=>?_
 obtain⟨oa,ca,rfl,_⟩:=ha.dJ
 obtain⟨ob,cb,rfl,_⟩:=hb.dJ
 revert hw;refine W (J1 (od xt)) (J1 @AW.aa) (J1 ?_)<;>unhygienic intros
 refine eS (fun k fr A'=>A.le A'∧A'.Wf∧∃i:Nat,k=l.length-i∧i≤l.length∧fr 0=.slice oa l.length ca∧fr 1=.slice ob l.length cb∧fr 5=.int .i64 i) l.length ?_ ?_
 · refine⟨AW.le.refl A,hw,0,by simp,by simp,rfl,rfl,rfl⟩
 · rintro k fr A' ⟨eT,km,i,rfl,hi,h0,h1,h5⟩
   by_cases dO:i<l.length
   · obtain⟨x1,c1,r1,w1,q1,q2,q3,q4⟩:=KJ (iF.le eT hw ha) dO
     obtain⟨x2,c2,r2,w2,p1,p2,p3,p4⟩:=KJ (iF.le eT hw hb) dO
     injection q1 with q1 _ q5
     injection p1 with p1 _ p5
     subst q1 p1 q5 p5
     have mf:IntKind.i64.wrap ((i:Int)+1)=((i+1:Nat):Int):=aw (by omega) (by omega)
     refine dI ?_
     repeat' (first
     | (refine jx fun R hR=>?_;simp [aw,az,h0,h1,h5,q2,q3,q4,p2,p3,p4,dO,mf,AW.aa];try simp (disch:=omega) only [if_pos,if_neg,aw,az])
     | (refine hR _ _ ?_;clear hR R)|(refine hK _ _ ?_;clear hK K)|refine nx ?_
     | refine wn fun K hK=>?_
     | simp only [wS,xt]
     | refine wl Tryz.mx xt (by decide +kernel) fun K hK=>?_
     | refine wb ?_|refine wr ?_|refine wk ?_|refine we ?_|refine ws ?_|refine wq ?_
     | (refine wc rfl (fun hc=>?_) (fun hc=>?_)<;>(try simp at hc)<;>(try omega))
     | (refine ib (fun hc=>?_) (fun hc=>?_)<;>(try omega)<;>(try simp (disch:=omega) only [if_pos,if_neg])))
     refine⟨l.length-(i+1),by omega,eT,km,i+1,rfl,by omega,?_,?_,?_⟩
     · simp [h0]
     · simp [h1]
     · simp
   · refine dI ?_
     revert hw;(repeat first|clear hw|revert hc|revert zn|revert zA|revert R|revert K);refine W (J1 (od xt)) (J4 h0 h1 h5 dO) (J1 ?_)<;>unhygienic intros
     exact⟨_,by first|rfl|(simp;rfl),rfl,eT⟩
end
section
variable [Gl]
def p4 (v n:Int):List cz:=[⟨1,1,0,0,v⟩,⟨12,1,0,0,n⟩,⟨13,0,1,0,n⟩,⟨12,2,0,0,-1⟩]
theorem Ek (v n:Int):(dW (p4 v n)).2=0:=by
 have h1:∀xa k,pd xa k none ⟨1,1,0,0,v⟩=0:=fun xa k=>by simp [pd,dL,cU,eM,mY,xT,qz,xS,fQ]
 have h2:∀xa k,pd xa k none ⟨12,1,0,0,n⟩=0:=fun xa k=>by simp [pd,dL,cU,eM,mY,xT,qz,xS,fQ]
 have h3:∀xa k,pd xa k none ⟨13,0,1,0,n⟩=0:=fun xa k=>by simp [pd,dL,cU,eM,mY,xT,qz,xS,fQ]
 have h4:∀xa k,pd xa k none ⟨12,2,0,0,-1⟩=0:=fun xa k=>by simp [pd,dL,cU,eM,mY,xT,qz,xS,fQ]
 simp [dW,p4,lG,h1,h2,h3,h4,Br]
variable (fF:Int→Int→Int→Int)
def f4 (v n:Int) (c:bC) (j:Nat):be:=
 { qW c 0 1 (p4 v n) with pc:=j,done:=decide (j=4),dC:=if j=1 then R8.zero.set 1 (IntKind.u64.wrap v) else .zero,fV:=[⟨1,7,7⟩,⟨2,7,7⟩,⟨3,7,7⟩].take (j-1) }
theorem LT {c:bC} (hc:b9 c) {n:Int} (h1:c.aQ≤n) (h2:n<2^40):c.aQ≤IntKind.u64.wrap (0+IntKind.u64.wrap n):=by
 have:=hc.aQ
 rw [az (x:=n) (by omega) (by omega),Int.zero_add,az (x:=n) (by omega) (by omega)]
 exact h1
theorem KU {c:bC} (hc:b9 c):c.aQ≤IntKind.u64.wrap (0+IntKind.u64.wrap (-1)):=by
 have:=hc.aQ
 have e:IntKind.u64.wrap (0+IntKind.u64.wrap (-1))=18446744073709551615:=by decide +kernel
 rw [e]
 omega
theorem Ig {v n:Int} {c:bC} (hc:b9 c) (h1:c.aQ≤n) (h2:n<2^40) (M:Mm) (j:Nat) (hj:j<4):(f4 v n c j).step fF M=(true,gA.zero,[],f4 v n c (j+1),M):=by
 have a1:=LT hc h1 h2
 have a2:=KU hc
 rw [Int.zero_add] at a1 a2
 have h4:j=0∨j=1∨j=2∨j=3:=by omega
 rcases h4 with rfl|rfl|rfl|rfl
 · rfl
 · simp [f4,qW,be.step,be.se,be.kR,be.plain,be.fv,be.ol,p4,be.lY,be.c8,R8.bR,R8.set,R8.zero,a1,be.ez,be.lK,be.lO,be.to,gA.zero]
 · simp [f4,qW,be.step,be.se,be.kR,be.plain,be.fv,be.ol,p4,be.lY,be.c8,R8.bR,R8.set,R8.zero,a1,be.ez,be.lK,be.lO,be.to,gA.zero]
 · simp [f4,qW,be.step,be.se,be.kR,be.plain,be.fv,be.ol,p4,be.lY,be.c8,R8.bR,R8.set,R8.zero,a2,be.ez,be.lK,be.lO,be.to,gA.zero]
end
section
namespace TImageA
theorem jD [Gl] {A:AW} {L:List It} {T:Prop} (hS:ak A L) (hw:A.Wf) (h':(bg A L∧bB A L∧cj L)=T:=by first|(dsimp only [af,ag,bg,bB,cj,eA];done)|exact rfl):T:=h'▸hS.eu hw
end TImageA
open TImageA
variable [Gl]
theorem dS.eu {A:AW} {pb:Nat} {M:Nat→List Int} {F:HP} (h:bz A (dS pb M*F)) :
 ∃(r:Nat) (oX:List (Value×Value)) (vs:Nat→Value),A.bR pb=some (.cells [.map (some r)] true 1)∧A.bR r=some (.map oX true)∧(∀k:Nat,k<8→∃q,d6 (.int .i64) (.int .i64 ((k:Int)+1)) oX 0=some (some (q,vs k)))∧∀k:Nat,k<8→dB A .u64 (vs k) (M k):=by
 obtain⟨r,vs,hS⟩:=dS.open h
 have Nj:=hS.bR
 obtain⟨oX,rW,qs,_⟩:=fy.eu hS.right
 refine⟨r,oX,vs,Nj,rW,fun k hk=>qs .i64 _ _ ?_,fun k hk=>?_⟩
 · have:(1:Int)≤k+1∧(k:Int)+1≤8:=by omega
   simp only [rT,if_pos this]
   congr 2
   omega
 · exact au.is (bz.pick (f:=fun k=>au .u64 (vs k) (M k)) hS.right.right hk)
def DA (A:AW) (v:Value) (M:Nat→List Int):Prop:=
 ∃v0 v1 v5 v6 v7,v=.agg #[v0,v1,.int .u64 ((M 2).getD 0 0),.int .u64 ((M 3).getD 0 0),.int .u64 ((M 4).getD 0 0),v5,v6,v7]∧
  dB A .u64 v0 (M 0)∧dB A .u64 v1 (M 1)∧dB A .u64 v5 (M 5)∧dB A .u64 v6 (M 6)∧dB A .u64 v7 (M 7)
def xi:List Value:=[.slice none 0 0,.slice none 0 0,.int .u64 0,.int .u64 0,.int .u64 0,.slice none 0 0,.slice none 0 0,.slice none 0 0]
end
end Go.Stx
