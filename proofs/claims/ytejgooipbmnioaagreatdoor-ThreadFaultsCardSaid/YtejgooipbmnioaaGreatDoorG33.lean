/-
 The program's thread: how an attempt's end is answered.
-/
import Derived.Test.YtejgooipbmnioaaGreatDoorG29
import Derived.Test.YtejgooipbmnioaaGreatDoorG32
set_option linter.unusedVariables false
set_option linter.unusedSimpArgs false
set_option linter.unusedSectionVars false
set_option maxRecDepth 20000
set_option maxHeartbeats 4000000
namespace Go.Stx
open Go Go.Proofs
attribute [local irreducible] TW cg eg bn aC aV cR df
section
abbrev xx:List (Nat×Nat):=[(0,0),(1,0),(2,0),(3,0),(4,0),(6,0),(7,0),(8,0),(9,0),(10,0),(5,2),(11,2),(12,0),(13,0)]
abbrev xv:List (Nat×Nat):=[(0,0),(1,0),(2,0),(3,0),(4,0),(5,0),(6,0),(7,0),(8,0)]
abbrev lE:List (Nat×Nat):=[(0,0),(1,0),(2,0),(3,0),(4,0),(5,0),(6,0),(7,0),(8,0),(9,0),(10,2),(11,0),(12,0)]
abbrev lD:List (Nat×Nat):=[(0,0),(1,0),(2,0),(3,0),(4,0),(5,0),(6,0),(7,0),(8,0),(9,0),(10,3),(11,0),(12,0),(13,3)]
abbrev lC:List (Nat×Nat):=[(0,0),(1,0),(2,0),(3,0),(4,0),(6,0),(5,2),(7,3)]
abbrev lB:List (Nat×Nat):=[(0,0),(1,0),(2,0),(3,0),(4,0),(5,0),(6,0),(7,0),(8,0),(9,0),(10,0),(11,0),(12,0),(13,0),(14,0),(15,0),(16,0),(17,0)]
abbrev lz:List (Nat×Nat):=[(0,0),(1,0),(2,0),(3,0),(4,0),(5,0),(6,0),(7,0),(8,0),(9,0),(10,0),(11,0),(12,0),(13,2),(14,3),(15,0),(16,0),(17,3)]
abbrev ly:List (Nat×Nat):=[(0,0),(1,0),(2,0),(3,0),(4,0),(5,0),(6,0),(7,0),(8,0),(9,0),(10,2),(11,0),(12,3)]
open T6
variable [Gl]
theorem xL (hF:FOK) {q:ls} {l:List cz} (hR:CR q l) (k:Int) (QW:0≤k) (hl:(dW l).2=0) (h7:eh l k.toNat=7) {A:AW} {L K:List It} {kk:Value→AW→Prop} (hw:A.Wf) (hS:ak A L) (hp:ap L (.at q.bb q.o) K)
 (hk:kk (.int .i64 (dy l k.toNat)) A):aC Tryz.prog 252 [.slice (some ⟨q.bb,q.off,none⟩) l.length q.ew,.int .i64 k] A kk:=by
 obtain⟨n,rfl⟩:=Int.eq_ofNat_of_zero_le QW
 refine bT (Fe hF _ l n A (hR.is (ak.gR hS hp)) (up (by rw [Int.toNat_natCast] at h7;omega))) ?_
 rintro _ _ ⟨rfl,rfl⟩ _ _
 have e:xK l n=dy l n:=by
  unfold xK
  rw [if_pos ⟨by simp [vp,hl],by simpa using h7⟩]
 rw [e]
 simpa using hk
theorem LN (n:Nat) (s:aT) (hl:s.av.length<2^38):ct Tryz.prog 250 [pv n] [.h (bf n s)] (fun (x:Option Addr×Nat) v=>v=.slice x.1 s.av.length x.2) (fun x=>[.h (au .i64 (.slice x.1 s.av.length x.2) s.av),.h (bf n s)]):=by
 intro A F hw hS
 refine bT (GV n s _ s.aG A hw (bf.Ms (ak.bS hS (.s .z .z)) .z) hl) ?_
 rintro u A' ⟨h1,h2⟩ km _
 obtain⟨o,c,rfl,_⟩:=h1.is.dJ
 exact⟨(o,c),rfl,au.gG hS hw h2 h1⟩
structure JW (t:be):Prop where
 cf:b9 t.cf
 pc:0≤t.pc∧t.pc<2^40
 fV:t.fV.length+t.dY.length<2^29
 k9:t.fu.length<2^27
 qI:0≤t.gv∧t.gv<2^40
 tz:0≤t.gB∧t.gB<2^40
 kS:0≤t.eO∧t.eO<2^40
 nD:(dW t.ay).2=0
theorem zf (q:ls) (b:Nat) (t:be) (s:aT) (i:cz) (da:t.iE=some s) (de:t.dA=none) (et:t.dt=none) (hB:JW t) (mg:i.op=12∨i.op=13) (hi:dL i=0) :
 aY Tryz.prog 164 [pv b,iC i] [.h (fx q b t)] (fun _=>True) (fun _=>[.h (fx q b (t.jY i s))]):=by
 have ki:0≤t.pc∧t.pc<2^40:=hB.pc
 have rM:t.fV.length<2^30:=by have:=hB.fV;omega
 obtain⟨r1,r2,_⟩:=kw hi
 obtain⟨op,i1,i2,i3,cQ⟩:=i
 dsimp only at mg r2
 unfold iC
 by_cases h1:s.ay=1
 · rcases mg with h2|h2
   · subst h2
     have e:t.jY ⟨12,i1,i2,i3,cQ⟩ s=((({ t with iE:=none,aK:=false }:be).ez i1 s.value).lK 4 s.value).lO:=by
      unfold be.jY
      dsimp only
      rw [if_pos h1]
      rfl
     rw [e]
     intro A F hw cY
     refine ab Tryz.func164 rfl (by kernel_rfl) fun _=>?_
     dsimp only [af,ag] at cY
     obtain⟨⟨cr,dQ,iN,ef,vs,vo⟩,hS⟩:=fx.open cY .z
     clear cY
     dsimp only [gC,af,ag] at hS
     rw [da,de,et] at hS
     dsimp only [dv,fb,du,fa,ff,jF] at hS
     have hq:=eD hS hw
     revert hq hS hw;refine Wu (J5 (Tg.mk (n:=10) (fun {A L K k}=>ej (A:=A) (L:=L) (K:=K) (k:=k) (qu cr s))) (Tg.mk (n:=10) (fun {A L K k}=>ej (A:=A) (L:=L) (K:=K) (k:=k) (xQ cr s))) (Tg.mk (n:=36) (fun x1 x2 x3 x4 x5 x6 x7 x8 x9=>wZ b { t.d with aK:=false } x1 x2 x3 x4 x5 x6 x7 x8 x9 i1 i2 i3 cQ s.value t.fV hi ki rM)) (od xx) (od xv)) (J3 h1 @AW.aa @ah.eq_1) (J1 ?_)<;>unhygienic intros
     refine⟨_,by first|rfl|(simp;rfl),by first|trivial|rfl|(simp;done),?_⟩
     apply fx.bS
     · apply ak.kj
       (·exact sA)
     · dsimp only [gC,be.lO,be.to,be.lK,be.ez,be.fg,be.iL,be.d]
       (try simp only [da,de,et])
       (·first|exact pA|exact kA)
     (·first|exact pA|exact kA)
     all_goals(first|exact 0|exact undef)
   · subst h2
     have hb:=r2 rfl
     have rW:=fun w=>mU (d:={ t.d with aK:=false }) (w:=w) hb
     have e:t.jY ⟨13,i1,i2,i3,cQ⟩ s=((({ t with iE:=none,aK:=false }:be)).lK 5 (t.dC.bR i2)).lO:=by
      unfold be.jY
      dsimp only
      rw [if_pos h1]
      rfl
     rw [e]
     intro A F hw cY
     refine ab Tryz.func164 rfl (by kernel_rfl) fun _=>?_
     dsimp only [af,ag] at cY
     obtain⟨⟨cr,dQ,iN,ef,vs,vo⟩,hS⟩:=fx.open cY .z
     clear cY
     dsimp only [gC,af,ag] at hS
     rw [da,de,et] at hS
     dsimp only [dv,fb,du,fa,ff,jF] at hS
     have hq:=eD hS hw
     revert hq hS hw;(repeat first|clear hq|clear hS|clear hw|revert hc|revert zn|revert zA|revert R|revert K);refine Wu (J5 (Tg.mk (n:=10) (fun {A L K k}=>ej (A:=A) (L:=L) (K:=K) (k:=k) (qu cr s))) (Tg.mk (n:=10) (fun {A L K k}=>ej (A:=A) (L:=L) (K:=K) (k:=k) (xQ cr s))) (Tg.mk (n:=36) (fun x1 x2 x3 x4 x5 x6 x7 x8 x9=>wY b { t.d with aK:=false } x1 x2 x3 x4 x5 x6 x7 x8 x9 i1 i2 i3 cQ (t.d.dC.bR i2) t.fV hi ki rM)) (od xx) (od xv)) (J6 h1 rW hb.1 hb.2 @AW.aa @ah.eq_1) (J1 ?_)<;>unhygienic intros
     refine⟨_,by first|rfl|(simp;rfl),by first|trivial|rfl|(simp;done),?_⟩
     apply fx.bS
     · apply ak.kj
       (·exact sA)
     · dsimp only [gC,be.lO,be.to,be.lK,be.ez,be.fg,be.iL,be.d]
       (try simp only [da,de,et])
       (·first|exact pA|exact kA)
     (·first|exact pA|exact kA)
     all_goals(first|exact 0|exact undef)
 · by_cases h2:s.ay=6
   · have e:t.jY ⟨op,i1,i2,i3,cQ⟩ s=((({ t with iE:=none,aK:=false }:be)).lK 7 6).lO:=by
      unfold be.jY
      dsimp only
      rw [if_neg h1,if_pos h2]
     rw [e]
     intro A F hw cY
     refine ab Tryz.func164 rfl (by kernel_rfl) fun _=>?_
     dsimp only [af,ag] at cY
     obtain⟨⟨cr,dQ,iN,ef,vs,vo⟩,hS⟩:=fx.open cY .z
     clear cY
     dsimp only [gC,af,ag] at hS
     rw [da,de,et] at hS
     dsimp only [dv,fb,du,fa,ff,jF] at hS
     have hq:=eD hS hw
     revert hq hS hw;(repeat first|clear hq|clear hS|clear hw|revert hc|revert zn|revert zA|revert R|revert K);refine Wu (J6 (Tg.mk (n:=10) (fun {A L K k}=>ej (A:=A) (L:=L) (K:=K) (k:=k) (qu cr s))) (Tg.mk (n:=10) (fun {A L K k}=>ej (A:=A) (L:=L) (K:=K) (k:=k) (xQ cr s))) (Tg.mk (n:=36) (fun x1=>gX b { t.d with aK:=false } x1 t.fV 7 6 rM)) (Tg.mk (n:=37) (fun x1 x2 x3 x4 x5 x6 x7 x8 x9=>jf b { t.d with aK:=false } x1 x2 x3 x4 x5 x6 x7 x8 x9 ki)) (od xx) (od xv)) (J4 h1 h2 @AW.aa @ah.eq_1) (J1 ?_)<;>unhygienic intros
     refine⟨_,by first|rfl|(simp;rfl),by first|trivial|rfl|(simp;done),?_⟩
     apply fx.bS
     · apply ak.kj
       (·exact sA)
     · dsimp only [gC,be.lO,be.to,be.lK,be.ez,be.fg,be.iL,be.d]
       (try simp only [da,de,et])
       (·first|exact pA|exact kA)
     (·first|exact pA|exact kA)
     all_goals(first|exact 0|exact undef)
   · have e:t.jY ⟨op,i1,i2,i3,cQ⟩ s=({ t with iE:=none,aK:=false }:be):=by
      unfold be.jY
      dsimp only
      rw [if_neg h1,if_neg h2]
     rw [e]
     intro A F hw cY
     refine ab Tryz.func164 rfl (by kernel_rfl) fun _=>?_
     dsimp only [af,ag] at cY
     obtain⟨⟨cr,dQ,iN,ef,vs,vo⟩,hS⟩:=fx.open cY .z
     clear cY
     dsimp only [gC,af,ag] at hS
     rw [da,de,et] at hS
     dsimp only [dv,fb,du,fa,ff,jF] at hS
     have hq:=eD hS hw
     revert hq hS hw;(repeat first|clear hq|clear hS|clear hw|revert hc|revert zn|revert zA|revert R|revert K);refine W (J4 (Tg.mk (n:=10) (fun {A L K k}=>ej (A:=A) (L:=L) (K:=K) (k:=k) (qu cr s))) (Tg.mk (n:=10) (fun {A L K k}=>ej (A:=A) (L:=L) (K:=K) (k:=k) (xQ cr s))) (od xx) (od xv)) (J4 h1 h2 @AW.aa @ah.eq_1) (J1 ?_)<;>unhygienic intros
     refine⟨_,by first|rfl|(simp;rfl),by first|trivial|rfl|(simp;done),?_⟩
     apply fx.bS
     · apply ak.kj
       (·exact sA)
     · dsimp only [gC,be.lO,be.to,be.lK,be.ez,be.fg,be.iL,be.d]
       (try simp only [da,de,et])
       (·first|exact pA|exact kA)
     (·first|exact pA|exact kA)
     all_goals(first|exact 0|exact undef)
theorem ID (hF:FOK) (q:ls) (b:Nat) (t:be) (s:aT) (da:t.iE=some s) (de:t.dA=none) (et:t.dt=none) (hB:JW t) (h7:eh t.ay t.bQ.toNat=7) (P2:0≤t.bQ) (qB:∀x∈s.av,x<2^62) (Mw:s.av.length≤8) (xm:CR q t.ay) :
 aY Tryz.prog 165 [pv b] [.h (fx q b t)] (fun _=>True) (fun _=>[.h (fx q b (t.bS s))]):=by
 have rM:=hB.fV
 have PJ:t.fV.length+t.dY.length<2^30:=by omega
 have RV:(t.fV++t.dY).length<2^30:=by rw [List.length_append];omega
 have RU:t.fV.length<2^30:=by omega
 have Jb:t.fu.length<2^28:=by have:=hB.k9;omega
 have TR:s.av.length<2^38:=by omega
 have FE:s.av.length<2^28:=by omega
 have sx:=hB.cf
 have My:t.bQ.toNat<t.ay.length:=up (by omega)
 have LE:t.bQ<t.ay.length:=by omega
 have TO:t.ol t.bQ=t.ay[t.bQ.toNat]:=by
  unfold be.ol
  rw [List.getD_eq_getElem?_getD,List.getElem?_eq_getElem My]
  rfl
 have Nb:IntKind.i64.wrap ((dy t.ay t.bQ.toNat:Int)+1)=(dy t.ay t.bQ.toNat:Int)+1:=by
  have VY:=(fX hB.nD).1
  have h65:=(pU (p:=t.ay) (k:=t.bQ.toNat+1) (by omega)).2.1
  unfold dy
  exact aw (by omega) (by omega)
 by_cases h1:s.ay=1
 · by_cases h2:0<s.av.length
   · have e:t.bS s=({ t with iE:=none,fV:=t.fV++t.dY,fu:=kU t.cf t.fu s.qE s.av }:be).iL 1:=by
      unfold be.bS be.mG
      rw [if_neg (by omega),if_pos h1,if_pos h2,h1]
     rw [e]
     intro A F hw cY
     refine ab Tryz.func165 rfl (by kernel_rfl) fun _=>?_
     dsimp only [af,ag] at cY
     obtain⟨⟨cr,dQ,iN,ef,vs,vo⟩,hS⟩:=fx.open cY .z
     clear cY
     dsimp only [gC,af,ag] at hS
     rw [da,de,et] at hS
     dsimp only [dv,fb,du,fa,ff,jF] at hS
     have hq:=eD hS hw
     repeat' (first
     | (with_reducible apply KZ;(·first|(simp;done)|(simp;rfl));(·first|(simp;done)|(simp;rfl));(·exact wA);(·exact sA);(·first|exact pA|exact kA);(·first|exact AW.cW _ _|((repeat' (first|apply ap.z|apply ap.s));done)|(simp [hq];(repeat' (first|rfl|refine⟨rfl,?_⟩));done)|(simp;done)|(simp;rfl)|(simp [hq];done)|(simp [hq];rfl));(·first|omega|(simp;omega));(·intro _ _;trivial);rintro _ _ _ hS hw _;(try dsimp only [AW.bq] at hS);have hq:=eD hS hw)
     | (with_reducible apply Bt;(·first|(simp;done)|(simp;rfl));(·first|(simp;done)|(simp;rfl));(·exact wA);(·exact sA);(·first|exact pA|exact kA);(·first|exact AW.cW _ _|((repeat' (first|apply ap.z|apply ap.s));done)|(simp [hq];(repeat' (first|rfl|refine⟨rfl,?_⟩));done)|(simp;done)|(simp;rfl)|(simp [hq];done)|(simp [hq];rfl));(·first|omega|(simp;omega));(·intro _ _;trivial);rintro _ _ _ hS hw _;(try dsimp only [AW.bq] at hS);have hq:=eD hS hw)
     | (refine jx fun R hR=>?_;simp [aw,az,hq,Nb,h1,h2,AW.aa,ah];try simp (disch:=omega) only [if_pos,if_neg,aw,az])
     | (refine hR _ _ ?_;clear hR R)|(refine hK _ _ ?_;clear hK K)|refine nx ?_
     | refine wn fun K hK=>?_
     | simp only [wS,lE,lD,lC,lB,lz,ly]
     | refine wl Tryz.mx lE (by decide +kernel) fun K hK=>?_
     | refine wl Tryz.mx lD (by decide +kernel) fun K hK=>?_
     | refine wl Tryz.mx lC (by decide +kernel) fun K hK=>?_
     | refine wl Tryz.mx lB (by decide +kernel) fun K hK=>?_
     | refine wl Tryz.mx lz (by decide +kernel) fun K hK=>?_
     | refine wl Tryz.mx ly (by decide +kernel) fun K hK=>?_
     | (apply ej (qu cr s);(·exact wA);(·exact sA);(·first|exact pA|exact kA);)
     | (apply ej (DX cr s);(·exact wA);(·exact sA);(·first|exact pA|exact kA);)
     | (apply ct.cA (LN cr s TR);(·exact wA);(·exact sA);(·first|exact pA|exact kA);(rintro xw _ _ rfl hS hw _;have hS:=lA hS;(try (have hq:=eD hS hw))))
     | (apply aY.cA (EK ef t.cf sx t.fu s.qE _ s.av qB Jb FE);(·exact wA);(·exact sA);(·first|exact pA|exact kA);rintro _ _ _ hS hw _;have hS:=lA hS;have hq:=eD hS hw)
     | (apply xL hF xm t.bQ P2 hB.nD h7;(·exact wA);(·exact sA);(·first|exact pA|exact kA);)
     | (apply aY.cA (sR b _ _ _ _ _ _ _ _ _ _ _);(·exact wA);(·exact sA);(·first|exact pA|exact kA);rintro _ _ _ hS hw _;have hS:=lA hS;have hq:=eD hS hw)
     | refine wb ?_|refine wr ?_|refine wk ?_|refine we ?_|refine ws ?_|refine wq ?_
     | (refine wc rfl (fun hc=>?_) (fun hc=>?_)<;>(try simp at hc)<;>(try omega))
     | (refine ib (fun hc=>?_) (fun hc=>?_)<;>(try omega)<;>(try simp (disch:=omega) only [if_pos,if_neg])))
     try simp only [List.length_append] at hS
     refine⟨_,by first|rfl|(simp;rfl),by first|trivial|rfl|(simp;done),?_⟩
     apply fx.bS
     · apply ak.kj
       (·exact sA)
     · dsimp only [gC,be.lO,be.to,be.lK,be.ez,be.fg,be.iL,be.d]
       (try simp only [da,de,et])
       (·first|exact pA|exact kA)
     (·first|exact pA|exact kA)
     all_goals(first|exact 0|exact undef)
   · have e:t.bS s=({ t with iE:=none,fV:=t.fV++t.dY }:be).iL 1:=by
      unfold be.bS be.mG
      rw [if_neg (by omega),if_pos h1,if_neg h2,h1]
     have h3:s.av.length=0:=by omega
     rw [e]
     intro A F hw cY
     refine ab Tryz.func165 rfl (by kernel_rfl) fun _=>?_
     dsimp only [af,ag] at cY
     obtain⟨⟨cr,dQ,iN,ef,vs,vo⟩,hS⟩:=fx.open cY .z
     clear cY
     dsimp only [gC,af,ag] at hS
     rw [da,de,et] at hS
     dsimp only [dv,fb,du,fa,ff,jF] at hS
     have hq:=eD hS hw
     repeat' (first
     | (with_reducible apply KZ;(·first|(simp;done)|(simp;rfl));(·first|(simp;done)|(simp;rfl));(·exact wA);(·exact sA);(·first|exact pA|exact kA);(·first|exact AW.cW _ _|((repeat' (first|apply ap.z|apply ap.s));done)|(simp [hq];(repeat' (first|rfl|refine⟨rfl,?_⟩));done)|(simp;done)|(simp;rfl)|(simp [hq];done)|(simp [hq];rfl));(·first|omega|(simp;omega));(·intro _ _;trivial);rintro _ _ _ hS hw _;(try dsimp only [AW.bq] at hS);have hq:=eD hS hw)
     | (with_reducible apply Bt;(·first|(simp;done)|(simp;rfl));(·first|(simp;done)|(simp;rfl));(·exact wA);(·exact sA);(·first|exact pA|exact kA);(·first|exact AW.cW _ _|((repeat' (first|apply ap.z|apply ap.s));done)|(simp [hq];(repeat' (first|rfl|refine⟨rfl,?_⟩));done)|(simp;done)|(simp;rfl)|(simp [hq];done)|(simp [hq];rfl));(·first|omega|(simp;omega));(·intro _ _;trivial);rintro _ _ _ hS hw _;(try dsimp only [AW.bq] at hS);have hq:=eD hS hw)
     | (refine jx fun R hR=>?_;simp [aw,az,hq,Nb,h1,h3,AW.aa,ah];try simp (disch:=omega) only [if_pos,if_neg,aw,az])
     | (refine hR _ _ ?_;clear hR R)|(refine hK _ _ ?_;clear hK K)|refine nx ?_
     | refine wn fun K hK=>?_
     | simp only [wS,lE,lD,lC,lB,lz,ly]
     | refine wl Tryz.mx lE (by decide +kernel) fun K hK=>?_
     | refine wl Tryz.mx lD (by decide +kernel) fun K hK=>?_
     | refine wl Tryz.mx lC (by decide +kernel) fun K hK=>?_
     | refine wl Tryz.mx lB (by decide +kernel) fun K hK=>?_
     | refine wl Tryz.mx lz (by decide +kernel) fun K hK=>?_
     | refine wl Tryz.mx ly (by decide +kernel) fun K hK=>?_
     | (apply ej (qu cr s);(·exact wA);(·exact sA);(·first|exact pA|exact kA);)
     | (apply ej (DX cr s);(·exact wA);(·exact sA);(·first|exact pA|exact kA);)
     | (apply ct.cA (LN cr s TR);(·exact wA);(·exact sA);(·first|exact pA|exact kA);(rintro xw _ _ rfl hS hw _;have hS:=lA hS;(try (have hq:=eD hS hw))))
     | (apply xL hF xm t.bQ P2 hB.nD h7;(·exact wA);(·exact sA);(·first|exact pA|exact kA);)
     | (apply aY.cA (sR b _ _ _ _ _ _ _ _ _ _ _);(·exact wA);(·exact sA);(·first|exact pA|exact kA);rintro _ _ _ hS hw _;have hS:=lA hS;have hq:=eD hS hw)
     | refine wb ?_|refine wr ?_|refine wk ?_|refine we ?_|refine ws ?_|refine wq ?_
     | (refine wc rfl (fun hc=>?_) (fun hc=>?_)<;>(try simp at hc)<;>(try omega))
     | (refine ib (fun hc=>?_) (fun hc=>?_)<;>(try omega)<;>(try simp (disch:=omega) only [if_pos,if_neg])))
     try simp only [List.length_append] at hS
     refine⟨_,by first|rfl|(simp;rfl),by first|trivial|rfl|(simp;done),?_⟩
     apply fx.bS
     · apply ak.kj
       (·exact sA)
     · dsimp only [gC,be.lO,be.to,be.lK,be.ez,be.fg,be.iL,be.d]
       (try simp only [da,de,et])
       (·first|exact pA|exact kA)
     (·first|exact pA|exact kA)
     all_goals(first|exact 0|exact undef)
 · by_cases h9:s.ay=9
   · obtain⟨EV,Ic⟩:=xm.at My
     have bA:q.cK[q.off+t.d.bQ.toNat*5+4]? = some (.int .i64 (t.ol t.bQ).cQ):=by
      rw [TO]
      exact EL Ic 4 (by omega)
     have xk:q.off+t.d.bQ.toNat*5+5≤q.cK.length:=EV
     have JS:0≤t.d.bQ:=P2
     have jX:t.d.bQ<(t.ay.length:Int):=LE
     by_cases h2:t.d.gB<(t.ol t.bQ).cQ
     · have e:t.bS s=({ t with iE:=none,dC:=t.jP }:be).to t.bQ:=by
        unfold be.bS be.mG
        rw [if_pos h9,if_pos (show t.gB<(t.ol t.bQ).cQ from h2),if_neg h1]
       rw [e]
       intro A F hw cY
       refine ab Tryz.func165 rfl (by kernel_rfl) fun _=>?_
       dsimp only [af,ag] at cY
       obtain⟨⟨cr,dQ,iN,ef,vs,vo⟩,hS⟩:=fx.open cY .z
       clear cY
       dsimp only [gC,af,ag] at hS
       rw [da,de,et] at hS
       dsimp only [dv,fb,du,fa,ff,jF] at hS
       have hq:=eD hS hw
       repeat' (first
       | (refine jx fun R hR=>?_;simp [aw,az,hq,Nb,h1,h9,h2,bA,JS,jX,AW.aa,ah];try simp (disch:=omega) only [if_pos,if_neg,aw,az])
       | (refine hR _ _ ?_;clear hR R)|(refine hK _ _ ?_;clear hK K)|refine nx ?_
       | refine wn fun K hK=>?_
       | simp only [wS,lE,lD,lC,lB,lz,ly]
       | refine wl Tryz.mx lE (by decide +kernel) fun K hK=>?_
       | refine wl Tryz.mx lD (by decide +kernel) fun K hK=>?_
       | refine wl Tryz.mx lC (by decide +kernel) fun K hK=>?_
       | refine wl Tryz.mx lB (by decide +kernel) fun K hK=>?_
       | refine wl Tryz.mx lz (by decide +kernel) fun K hK=>?_
       | refine wl Tryz.mx ly (by decide +kernel) fun K hK=>?_
       | (apply ej (qu cr s);(·exact wA);(·exact sA);(·first|exact pA|exact kA);)
       | (apply aY.cA (sR b _ _ _ _ _ _ _ _ _ _ _);(·exact wA);(·exact sA);(·first|exact pA|exact kA);rintro _ _ _ hS hw _;have hS:=lA hS;have hq:=eD hS hw)
       | refine wb ?_|refine wr ?_|refine wk ?_|refine we ?_|refine ws ?_|refine wq ?_
       | (refine wc rfl (fun hc=>?_) (fun hc=>?_)<;>(try simp at hc)<;>(try omega))
       | (refine ib (fun hc=>?_) (fun hc=>?_)<;>(try omega)<;>(try simp (disch:=omega) only [if_pos,if_neg])))
       try simp only [List.length_append] at hS
       refine⟨_,by first|rfl|(simp;rfl),by first|trivial|rfl|(simp;done),?_⟩
       apply fx.bS
       · apply ak.kj
         (·exact sA)
       · dsimp only [gC,be.lO,be.to,be.lK,be.ez,be.fg,be.iL,be.d]
         (try simp only [da,de,et])
         (·first|exact pA|exact kA)
       (·first|exact pA|exact kA)
       all_goals(first|exact 0|exact undef)
     · have e:t.bS s=({ t with iE:=none,dC:=t.jP }:be).iL 5:=by
        unfold be.bS be.mG
        rw [if_pos h9,if_neg (show ¬t.gB<(t.ol t.bQ).cQ from h2),if_neg h1]
       rw [e]
       intro A F hw cY
       refine ab Tryz.func165 rfl (by kernel_rfl) fun _=>?_
       dsimp only [af,ag] at cY
       obtain⟨⟨cr,dQ,iN,ef,vs,vo⟩,hS⟩:=fx.open cY .z
       clear cY
       dsimp only [gC,af,ag] at hS
       rw [da,de,et] at hS
       dsimp only [dv,fb,du,fa,ff,jF] at hS
       have hq:=eD hS hw
       repeat' (first
       | (with_reducible apply Bt;(·first|(simp;done)|(simp;rfl));(·first|(simp;done)|(simp;rfl));(·exact wA);(·exact sA);(·first|exact pA|exact kA);(·first|exact AW.cW _ _|((repeat' (first|apply ap.z|apply ap.s));done)|(simp [hq];(repeat' (first|rfl|refine⟨rfl,?_⟩));done)|(simp;done)|(simp;rfl)|(simp [hq];done)|(simp [hq];rfl));(·first|omega|(simp;omega));(·intro _ _;trivial);rintro _ _ _ hS hw _;(try dsimp only [AW.bq] at hS);have hq:=eD hS hw)
       | (refine jx fun R hR=>?_;simp [aw,az,hq,Nb,h1,h9,h2,bA,JS,jX,AW.aa,ah];try simp (disch:=omega) only [if_pos,if_neg,aw,az])
       | (refine hR _ _ ?_;clear hR R)|(refine hK _ _ ?_;clear hK K)|refine nx ?_
       | refine wn fun K hK=>?_
       | simp only [wS,lE,lD,lC,lB,lz,ly]
       | refine wl Tryz.mx lE (by decide +kernel) fun K hK=>?_
       | refine wl Tryz.mx lD (by decide +kernel) fun K hK=>?_
       | refine wl Tryz.mx lC (by decide +kernel) fun K hK=>?_
       | refine wl Tryz.mx lB (by decide +kernel) fun K hK=>?_
       | refine wl Tryz.mx lz (by decide +kernel) fun K hK=>?_
       | refine wl Tryz.mx ly (by decide +kernel) fun K hK=>?_
       | (apply ej (qu cr s);(·exact wA);(·exact sA);(·first|exact pA|exact kA);)
       | (apply xL hF xm t.bQ P2 hB.nD h7;(·exact wA);(·exact sA);(·first|exact pA|exact kA);)
       | (apply aY.cA (sR b _ _ _ _ _ _ _ _ _ _ _);(·exact wA);(·exact sA);(·first|exact pA|exact kA);rintro _ _ _ hS hw _;have hS:=lA hS;have hq:=eD hS hw)
       | refine wb ?_|refine wr ?_|refine wk ?_|refine we ?_|refine ws ?_|refine wq ?_
       | (refine wc rfl (fun hc=>?_) (fun hc=>?_)<;>(try simp at hc)<;>(try omega))
       | (refine ib (fun hc=>?_) (fun hc=>?_)<;>(try omega)<;>(try simp (disch:=omega) only [if_pos,if_neg])))
       try simp only [List.length_append] at hS
       refine⟨_,by first|rfl|(simp;rfl),by first|trivial|rfl|(simp;done),?_⟩
       apply fx.bS
       · apply ak.kj
         (·exact sA)
       · dsimp only [gC,be.lO,be.to,be.lK,be.ez,be.fg,be.iL,be.d]
         (try simp only [da,de,et])
         (·first|exact pA|exact kA)
       (·first|exact pA|exact kA)
       all_goals(first|exact 0|exact undef)
   · have e:t.bS s=({ t with iE:=none,dC:=t.jP }:be).iL s.ay:=by
      unfold be.bS be.mG
      rw [if_neg h9,if_neg h1]
     rw [e]
     intro A F hw cY
     refine ab Tryz.func165 rfl (by kernel_rfl) fun _=>?_
     dsimp only [af,ag] at cY
     obtain⟨⟨cr,dQ,iN,ef,vs,vo⟩,hS⟩:=fx.open cY .z
     clear cY
     dsimp only [gC,af,ag] at hS
     rw [da,de,et] at hS
     dsimp only [dv,fb,du,fa,ff,jF] at hS
     have hq:=eD hS hw
     repeat' (first
     | (with_reducible apply Bt;(·first|(simp;done)|(simp;rfl));(·first|(simp;done)|(simp;rfl));(·exact wA);(·exact sA);(·first|exact pA|exact kA);(·first|exact AW.cW _ _|((repeat' (first|apply ap.z|apply ap.s));done)|(simp [hq];(repeat' (first|rfl|refine⟨rfl,?_⟩));done)|(simp;done)|(simp;rfl)|(simp [hq];done)|(simp [hq];rfl));(·first|omega|(simp;omega));(·intro _ _;trivial);rintro _ _ _ hS hw _;(try dsimp only [AW.bq] at hS);have hq:=eD hS hw)
     | (refine jx fun R hR=>?_;simp [aw,az,hq,Nb,h1,h9,AW.aa,ah];try simp (disch:=omega) only [if_pos,if_neg,aw,az])
     | (refine hR _ _ ?_;clear hR R)|(refine hK _ _ ?_;clear hK K)|refine nx ?_
     | refine wn fun K hK=>?_
     | simp only [wS,lE,lD,lC,lB,lz,ly]
     | refine wl Tryz.mx lE (by decide +kernel) fun K hK=>?_
     | refine wl Tryz.mx lD (by decide +kernel) fun K hK=>?_
     | refine wl Tryz.mx lC (by decide +kernel) fun K hK=>?_
     | refine wl Tryz.mx lB (by decide +kernel) fun K hK=>?_
     | refine wl Tryz.mx lz (by decide +kernel) fun K hK=>?_
     | refine wl Tryz.mx ly (by decide +kernel) fun K hK=>?_
     | (apply ej (qu cr s);(·exact wA);(·exact sA);(·first|exact pA|exact kA);)
     | (apply xL hF xm t.bQ P2 hB.nD h7;(·exact wA);(·exact sA);(·first|exact pA|exact kA);)
     | (apply aY.cA (sR b _ _ _ _ _ _ _ _ _ _ _);(·exact wA);(·exact sA);(·first|exact pA|exact kA);rintro _ _ _ hS hw _;have hS:=lA hS;have hq:=eD hS hw)
     | refine wb ?_|refine wr ?_|refine wk ?_|refine we ?_|refine ws ?_|refine wq ?_
     | (refine wc rfl (fun hc=>?_) (fun hc=>?_)<;>(try simp at hc)<;>(try omega))
     | (refine ib (fun hc=>?_) (fun hc=>?_)<;>(try omega)<;>(try simp (disch:=omega) only [if_pos,if_neg])))
     try simp only [List.length_append] at hS
     refine⟨_,by first|rfl|(simp;rfl),by first|trivial|rfl|(simp;done),?_⟩
     apply fx.bS
     · apply ak.kj
       (·exact sA)
     · dsimp only [gC,be.lO,be.to,be.lK,be.ez,be.fg,be.iL,be.d]
       (try simp only [da,de,et])
       (·first|exact pA|exact kA)
     (·first|exact pA|exact kA)
     all_goals(first|exact 0|exact undef)
theorem AP (hF:FOK) (q:ls) (b:Nat) (t:be) (s:aT) (i:cz) (da:t.iE=some s) (de:t.dA=none) (et:t.dt=none) (hB:JW t) (hi:dL i=0) (cX:t.aK=true→i.op=12∨i.op=13) (QL:t.aK=false→eh t.ay t.bQ.toNat=7∧0≤t.bQ) (qB:∀x∈s.av,x<2^62) (Mw:s.av.length≤8) (xm:CR q t.ay) :
 aY Tryz.prog 110 [pv b,iC i] [.h (fx q b t)] (fun _=>True) (fun _=>[.h (fx q b (t.qg i s))]):=by
 have ki:0≤t.pc∧t.pc<2^40:=hB.pc
 have RS:t.dY.length<2^30:=by have:=hB.fV;omega
 obtain⟨r1,_⟩:=kw hi
 obtain⟨op,i1,i2,i3,cQ⟩:=i
 dsimp only at cX r1
 unfold iC
 by_cases h1:s.aA=2
 · cases hs:t.aK with
   | true=>
     have AB:t.d.aK=true:=hs
     have e:t.qg ⟨op,i1,i2,i3,cQ⟩ s=t.jY ⟨op,i1,i2,i3,cQ⟩ s:=by
      unfold be.qg
      rw [if_pos h1,if_pos hs]
     have VB:=zf q b t s ⟨op,i1,i2,i3,cQ⟩ da de et hB (cX hs) hi
     rw [e]
     intro A F hw cY
     refine ab Tryz.func110 rfl (by kernel_rfl) fun _=>?_
     dsimp only [af,ag] at cY
     obtain⟨⟨cr,dQ,iN,ef,vs,vo⟩,hS⟩:=fx.open cY .z
     clear cY
     dsimp only [gC,af,ag] at hS
     rw [da,de,et] at hS
     dsimp only [dv,fb,du,fa,ff,jF] at hS
     have hq:=eD hS hw
     revert hq hS hw;refine Wu (J2 (Tg.mk (n:=10) (fun {A L K k}=>ej (A:=A) (L:=L) (K:=K) (k:=k) (u7 cr s))) (Tg.mk (n:=34) @VB)) (J4 h1 AB @AW.aa @ah.eq_1) (J1 ?_)<;>unhygienic intros
     exact⟨_,by first|rfl|(simp;rfl),trivial,ak.bS hS (.s .z (.s (by repeat' (first|apply ap.z|apply ap.s)) .z))⟩
   | false=>
     have AB:t.d.aK=false:=hs
     have e:t.qg ⟨op,i1,i2,i3,cQ⟩ s=t.bS s:=by
      unfold be.qg
      rw [if_pos h1,if_neg (by rw [hs];decide)]
     have VB:=ID hF q b t s da de et hB (QL hs).1 (QL hs).2 qB Mw xm
     rw [e]
     intro A F hw cY
     refine ab Tryz.func110 rfl (by kernel_rfl) fun _=>?_
     dsimp only [af,ag] at cY
     obtain⟨⟨cr,dQ,iN,ef,vs,vo⟩,hS⟩:=fx.open cY .z
     clear cY
     dsimp only [gC,af,ag] at hS
     rw [da,de,et] at hS
     dsimp only [dv,fb,du,fa,ff,jF] at hS
     have hq:=eD hS hw
     revert hq hS hw;(repeat first|clear hq|clear hS|clear hw|revert hc|revert zn|revert zA|revert R|revert K);refine Wu (J2 (Tg.mk (n:=10) (fun {A L K k}=>ej (A:=A) (L:=L) (K:=K) (k:=k) (u7 cr s))) (Tg.mk (n:=34) @VB)) (J4 h1 AB @AW.aa @ah.eq_1) (J1 ?_)<;>unhygienic intros
     exact⟨_,by first|rfl|(simp;rfl),trivial,ak.bS hS (.s .z (.s (by repeat' (first|apply ap.z|apply ap.s)) .z))⟩
 · cases hs:t.aK with
   | true=>
     have AB:t.d.aK=true:=hs
     have e:t.qg ⟨op,i1,i2,i3,cQ⟩ s=t:=by
      unfold be.qg
      rw [if_neg h1,if_pos hs]
     rw [e]
     intro A F hw cY
     refine ab Tryz.func110 rfl (by kernel_rfl) fun _=>?_
     dsimp only [af,ag] at cY
     obtain⟨⟨cr,dQ,iN,ef,vs,vo⟩,hS⟩:=fx.open cY .z
     clear cY
     dsimp only [gC,af,ag] at hS
     rw [da,de,et] at hS
     dsimp only [dv,fb,du,fa,ff,jF] at hS
     have hq:=eD hS hw
     revert hq hS hw;(repeat first|clear hq|clear hS|clear hw|revert hc|revert zn|revert zA|revert R|revert K);refine W (J1 (Tg.mk (n:=10) (fun {A L K k}=>ej (A:=A) (L:=L) (K:=K) (k:=k) (u7 cr s)))) (J4 h1 AB @AW.aa @ah.eq_1) (J1 ?_)<;>unhygienic intros
     refine⟨_,by first|rfl|(simp;rfl),by first|trivial|rfl|(simp;done),?_⟩
     apply fx.bS
     (·exact sA)
     · dsimp only [gC,be.lO,be.to,be.lK,be.ez,be.fg,be.iL,be.d]
       (try simp only [da,de,et])
       (·first|exact pA|exact kA)
     (·first|exact pA|exact kA)
     all_goals(first|exact 0|exact undef)
   | false=>
     have AB:t.d.aK=false:=hs
     by_cases h2:op=10
     · subst h2
       have ha:=r1 rfl
       have e:t.qg ⟨10,i1,i2,i3,cQ⟩ s=(t.fg i1 1 s.value).lO:=by
        unfold be.qg
        rw [if_neg h1,if_neg (by rw [hs];decide),if_pos rfl]
       rw [e]
       intro A F hw cY
       refine ab Tryz.func110 rfl (by kernel_rfl) fun _=>?_
       dsimp only [af,ag] at cY
       obtain⟨⟨cr,dQ,iN,ef,vs,vo⟩,hS⟩:=fx.open cY .z
       clear cY
       dsimp only [gC,af,ag] at hS
       rw [da,de,et] at hS
       dsimp only [dv,fb,du,fa,ff,jF] at hS
       have hq:=eD hS hw
       revert hq hS hw;(repeat first|clear hq|clear hS|clear hw|revert hc|revert zn|revert zA|revert R|revert K);refine Wu (J3 (Tg.mk (n:=10) (fun {A L K k}=>ej (A:=A) (L:=L) (K:=K) (k:=k) (u7 cr s))) (Tg.mk (n:=36) (fun x1 x2 x3 x4 x5 x6=>E0 b cr t.d x1 x2 x3 x4 x5 x6 s t.dY i1 1 ha RS)) (Tg.mk (n:=37) (fun x1 x2 x3 x4 x5 x6 x7 x8 x9=>jf b { t.d with dC:=t.d.dC.set i1 s.value } x1 x2 x3 x4 x5 x6 x7 x8 x9 ki))) (J4 h1 AB @AW.aa @ah.eq_1) (J1 ?_)<;>unhygienic intros
       refine⟨_,by first|rfl|(simp;rfl),by first|trivial|rfl|(simp;done),?_⟩
       apply fx.bS
       (·exact sA)
       · dsimp only [gC,be.lO,be.to,be.lK,be.ez,be.fg,be.iL,be.d]
         (try simp only [da,de,et])
         (·first|exact pA|exact kA)
       (·first|exact pA|exact kA)
       all_goals(first|exact 0|exact undef)
     · by_cases h3:op=14
       · subst h3
         have ha:=r1 rfl
         have e:t.qg ⟨14,i1,i2,i3,cQ⟩ s=(t.fg i1 2 s.value).lO:=by
          unfold be.qg
          rw [if_neg h1,if_neg (by rw [hs];decide),if_neg (show ¬(14:Int)=10 by decide),if_pos rfl]
         rw [e]
         intro A F hw cY
         refine ab Tryz.func110 rfl (by kernel_rfl) fun _=>?_
         dsimp only [af,ag] at cY
         obtain⟨⟨cr,dQ,iN,ef,vs,vo⟩,hS⟩:=fx.open cY .z
         clear cY
         dsimp only [gC,af,ag] at hS
         rw [da,de,et] at hS
         dsimp only [dv,fb,du,fa,ff,jF] at hS
         have hq:=eD hS hw
         revert hq hS hw;(repeat first|clear hq|clear hS|clear hw|revert hc|revert zn|revert zA|revert R|revert K);refine Wu (J3 (Tg.mk (n:=10) (fun {A L K k}=>ej (A:=A) (L:=L) (K:=K) (k:=k) (u7 cr s))) (Tg.mk (n:=36) (fun x1 x2 x3 x4 x5 x6=>E0 b cr t.d x1 x2 x3 x4 x5 x6 s t.dY i1 2 ha RS)) (Tg.mk (n:=37) (fun x1 x2 x3 x4 x5 x6 x7 x8 x9=>jf b { t.d with dC:=t.d.dC.set i1 s.value } x1 x2 x3 x4 x5 x6 x7 x8 x9 ki))) (J4 h1 AB @AW.aa @ah.eq_1) (J1 ?_)<;>unhygienic intros
         refine⟨_,by first|rfl|(simp;rfl),by first|trivial|rfl|(simp;done),?_⟩
         apply fx.bS
         (·exact sA)
         · dsimp only [gC,be.lO,be.to,be.lK,be.ez,be.fg,be.iL,be.d]
           (try simp only [da,de,et])
           (·first|exact pA|exact kA)
         (·first|exact pA|exact kA)
         all_goals(first|exact 0|exact undef)
       · have e:t.qg ⟨op,i1,i2,i3,cQ⟩ s=t.lO:=by
          unfold be.qg
          rw [if_neg h1,if_neg (by rw [hs];decide),if_neg h2,if_neg h3]
         rw [e]
         intro A F hw cY
         refine ab Tryz.func110 rfl (by kernel_rfl) fun _=>?_
         dsimp only [af,ag] at cY
         obtain⟨⟨cr,dQ,iN,ef,vs,vo⟩,hS⟩:=fx.open cY .z
         clear cY
         dsimp only [gC,af,ag] at hS
         rw [da,de,et] at hS
         dsimp only [dv,fb,du,fa,ff,jF] at hS
         have hq:=eD hS hw
         revert hq hS hw;(repeat first|clear hq|clear hS|clear hw|revert hc|revert zn|revert zA|revert R|revert K);refine Wu (J2 (Tg.mk (n:=10) (fun {A L K k}=>ej (A:=A) (L:=L) (K:=K) (k:=k) (u7 cr s))) (Tg.mk (n:=37) (fun x1 x2 x3 x4 x5 x6 x7 x8 x9=>jf b t.d x1 x2 x3 x4 x5 x6 x7 x8 x9 ki))) (J6 h1 AB h2 h3 @AW.aa @ah.eq_1) (J1 ?_)<;>unhygienic intros
         refine⟨_,by first|rfl|(simp;rfl),by first|trivial|rfl|(simp;done),?_⟩
         apply fx.bS
         (·exact sA)
         · dsimp only [gC,be.lO,be.to,be.lK,be.ez,be.fg,be.iL,be.d]
           (try simp only [da,de,et])
           (·first|exact pA|exact kA)
         (·first|exact pA|exact kA)
         all_goals(first|exact 0|exact undef)
end
end Go.Stx
