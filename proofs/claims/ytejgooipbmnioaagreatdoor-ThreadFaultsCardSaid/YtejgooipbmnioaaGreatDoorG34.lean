/-
 Events in memory; what a step answers.
-/
import Derived.Test.YtejgooipbmnioaaGreatDoorG33
set_option linter.unusedVariables false
set_option linter.unusedSimpArgs false
set_option linter.unusedSectionVars false
set_option maxRecDepth 20000
set_option maxHeartbeats 4000000
namespace Go.Stx
open Go Go.Proofs
attribute [local irreducible] TW cg eg bn aC aV cR df
section
open Go.Proofs Go
variable [Gl]
def Jp (e:Qz) (r w:Value):List Value:=[.int .i64 e.bX,.int .i64 e.am,.int .i64 e.fY,.int .i64 e.Ub,r,w]
abbrev Hv:=Qz×Value×Value
def uC (q:List Hv):List Value:=q.flatMap fun y=>Jp y.1 y.2.1 y.2.2
def Qf (y:Hv):HP:=au .i64 y.2.1 y.1.reads*au .i64 y.2.2 y.1.bN
def Ii (q:List Hv):HP:=q.foldr (fun y P=>Qf y*P) eG
def LW (v:Value) (q:List Hv):List It:=[.h (d9 6 v q.length (uC q)),.h (Ii q)]
def iR (v:Value) (l:List Qz):HP:=nI fun x:{ q:List Hv // q.map Prod.fst=l }=>aR (LW v x.1)
section
variable {A:AW} {L K K1 K2:List It} {v:Value}
theorem iR.open {l:List Qz} (h:ak A L) (hp:ap L (.h (iR v l)) K):∃q,q.map Prod.fst=l∧ak A (LW v q++K):=by
 obtain⟨⟨q,hq⟩,h⟩:=jE h hp
 exact⟨q,hq,h⟩
theorem iR.dR {l:List Qz} {q:List Hv} (hq:q.map Prod.fst=l) (h:ak A L) (e:aD L (LW v q) K):ak A (.h (iR v l)::K):=ii (g:=fun x:{ q:List Hv // q.map Prod.fst=l }=>LW v x.1) ⟨q,hq⟩ h e
theorem iR.nil (h:ak A L):ak A (.h (iR (.slice none 0 0) [])::L):=by
 have h1:ak A (.h eG::L):=ak.kj h
 have h2:ak A (.h (d9 6 (.slice none 0 0) 0 [])::.h eG::L):=d9.nil h1
 exact iR.dR (q:=[]) rfl h2 (.s .z (.s .z .z))
theorem iR.bh {n:Nat} {e:Qz} {r w:Value} (h:ak A L) (h1:ap L (.at n (.cells (Jp e r w) true 6)) K) (h2:ap K (.h (au .i64 r e.reads)) K1) (h3:ap K1 (.h (au .i64 w e.bN)) K2):ak A (.h (iR (.slice (some ⟨n,0,none⟩) 1 1) [e])::K2):=by
 unfold ak at h
 rw [h1.aR,h2.aR,h3.aR] at h
 have h4:bz A (pt n (.cells (Jp e r w) true 6)*(au .i64 r e.reads*(au .i64 w e.bN*aR K2))):=h
 have e0:uC [(e,r,w)]=Jp e r w:=by simp [uC]
 have h5:ak A (.h (d9 6 (.slice (some ⟨n,0,none⟩) 1 1) [(e,r,w)].length (uC [(e,r,w)]))::.h (Ii [(e,r,w)])::K2):=by
  rw [e0]
  refine d9.mk (size:=6) (n:=1) (off:=0) (c:=1) (cK:=Jp e r w) (Nat.le_refl _) (Nat.le_refl _) rfl ?_
  refine h4.dH ?_
  show _=pt n (.cells (Jp e r w) true 6)*(((au .i64 r e.reads*au .i64 w e.bN)*eG)*aR K2)
  rw [dg]
  ac_rfl
 exact iR.dR (q:=[(e,r,w)]) rfl h5 (.s .z (.s .z .z))
end
def dD (s:gA):Value:=.agg #[.int .i64 s.am,.int .i64 s.Rp,.int .i64 s.NK,.int .i64 s.Mj.fY,.int .i64 s.Mj.cell,.int .i64 s.Mj.dq,.int .u64 s.Mj.fg,.int .u64 s.Mj.put,.bool s.Mj.done]
end
section
abbrev lx:List (Nat×Nat):=[(0,0),(1,0),(2,0),(3,0),(4,0),(5,0),(6,0),(7,0),(8,0),(9,0),(10,0),(11,0),(12,3)]
open T2
variable [Gl]
theorem Dl (hF:FOK) (q:ls) (b pb:Nat) (t:be) (s:aT) (M:Mm) (da:t.iE=some s) (de:t.dA=none) (et:t.dt=none) (hB:JW t) (uq:Dy s M) (hC:fA (cB s M).2.2.1) (hi:dL t.fv=0) (dO:t.pc<t.ay.length)
 (cX:t.aK=true→t.fv.op=12∨t.fv.op=13) (QL:t.aK=false→eh t.ay t.bQ.toNat=7∧0≤t.bQ) (qB:∀x∈(cB s M).2.2.1.av,x<2^62) (Mw:(cB s M).2.2.1.av.length≤8) (xm:CR q t.ay) :
 ct Tryz.prog 58 [pv b,pv pb] [.h (fx q b t),dx pb M] (fun ev v=>v=.tuple #[dD (t.vW M s).1,ev]) (fun ev=>[.h (fx q b (t.vW M s).2.2.1),dx pb (t.vW M s).2.2.2,.h (iR ev (t.vW M s).2.1)]):=by
 have gL:=fun n=>II n pb s M uq
 unfold eY at gL
 unfold be.vW
 generalize cB s M=r at gL hC qB Mw ⊢
 obtain⟨ac,ph,s',M'⟩:=r
 dsimp only at gL hC qB Mw ⊢
 have ki:0≤t.pc∧t.pc<2^40:=hB.pc
 have EU:t.pc.toNat<t.ay.length:=by omega
 obtain⟨EV,Ic⟩:=xm.at EU
 have PO:t.ay[t.pc.toNat]=t.fv:=by
  unfold be.fv be.ol
  rw [List.getD_eq_getElem?_getD,List.getElem?_eq_getElem EU]
  rfl
 rw [PO] at Ic
 have xk:q.off+t.d.pc.toNat*5+5≤q.cK.length:=EV
 have yY:(q.cK.drop (q.off+t.d.pc.toNat*5)).take 5=aP t.fv:=Ic
 have FC:0≤t.d.pc:=ki.1
 have I6:t.d.pc<(t.ay.length:Int):=dO
 have ZB:JW ({ t with iE:=some s' }:be):=⟨hB.cf,hB.pc,hB.fV,hB.k9,hB.qI,hB.tz,hB.kS,hB.nD⟩
 have Ns:=AP hF q b { t with iE:=some s' } s' t.fv rfl de et ZB hi cX QL qB Mw xm
 by_cases h3:ph=3
 · rw [if_pos h3]
   subst h3
   by_cases hb:s'.jt=true
   · rw [if_pos hb]
     have qH:=fun n=>qw n s'
     simp only [hb] at qH
     intro A F hw cY
     refine ab Tryz.func58 rfl (by kernel_rfl) fun _=>?_
     dsimp only [af,ag] at cY
     obtain⟨⟨cr,dQ,iN,ef,vs,vo⟩,hS⟩:=fx.open cY .z
     clear cY
     dsimp only [gC,af,ag] at hS
     rw [da,de,et] at hS
     dsimp only [dv,fb,du,fa,ff,jF] at hS
     have hq:=jC hS hw
     revert hq hS hw;refine W (J3 (Tg.mk (n:=10) (fun {A L K k}=>ej (A:=A) (L:=L) (K:=K) (k:=k) (qH cr))) (od lx) (gL cr)) (J4 @AW.aa @ah.eq_1 @bj.eq_1 @ba.v.eq_1) (J1 ?_)<;>unhygienic intros
     refine⟨_,by first|rfl|(simp;rfl)|(simp [hq,AW.aa,ah];rfl),?_⟩
     apply sB
     (·first|rfl|(simp [dD,ba.v,ba.zero];done)|(simp [dD,ba.v,ba.zero];rfl))
     apply fx.bS
     · skip
       apply iR.bh (e:=⟨0,t.id,3,0,[],[]⟩) (r:=.slice none 0 0) (w:=.slice none 0 0)
       · apply ak.oD .i64
         apply ak.oD .i64
         (·exact sA)
       (·repeat' (first|apply ap.z|apply ap.s))
       (·repeat' (first|apply ap.z|apply ap.s))
       (·repeat' (first|apply ap.z|apply ap.s))
     · dsimp only [gC,be.lO,be.to,be.lK,be.ez,be.fg,be.iL,be.d]
       (try simp only [da,de,et])
       (·first|exact pA|exact kA)
     (·first|exact pA|exact kA)
     all_goals(first|exact 0|exact undef)
   · rw [if_neg hb]
     have jX:s'.jt=false:=by simpa using hb
     have qH:=fun n=>qw n s'
     simp only [jX] at qH
     intro A F hw cY
     refine ab Tryz.func58 rfl (by kernel_rfl) fun _=>?_
     dsimp only [af,ag] at cY
     obtain⟨⟨cr,dQ,iN,ef,vs,vo⟩,hS⟩:=fx.open cY .z
     clear cY
     dsimp only [gC,af,ag] at hS
     rw [da,de,et] at hS
     dsimp only [dv,fb,du,fa,ff,jF] at hS
     have hq:=jC hS hw
     revert hq hS hw;(repeat first|clear hq|clear hS|clear hw|revert hc|revert zn|revert zA|revert xw|revert R|revert K);refine Wu (J4 (Tg.mk (n:=10) (fun {A L K k}=>ej (A:=A) (L:=L) (K:=K) (k:=k) (qH cr))) (Tg.mk (n:=34) @Ns) (od lx) (gL cr)) (J8 xk yY FC I6 @AW.aa @ah.eq_1 @bj.eq_1 @ba.v.eq_1) (J1 ?_)<;>unhygienic intros
     refine⟨_,by first|rfl|(simp;rfl)|(simp [hq,AW.aa,ah];rfl),?_⟩
     apply sB
     (·first|rfl|(simp [dD,ba.v,ba.zero];done)|(simp [dD,ba.v,ba.zero];rfl))
     apply ak.bS
     · skip
       apply iR.bh (e:=⟨0,t.id,3,0,[],[]⟩) (r:=.slice none 0 0) (w:=.slice none 0 0)
       · apply ak.oD .i64
         apply ak.oD .i64
         (·exact sA)
       (·repeat' (first|apply ap.z|apply ap.s))
       (·repeat' (first|apply ap.z|apply ap.s))
       (·repeat' (first|apply ap.z|apply ap.s))
     (·first|exact pA|exact kA)
 · rw [if_neg h3]
   by_cases tC:ph=16
   · subst tC
     have OC:=fun n=>L0 n s'
     by_cases yW:s'.aj=true
     · rw [if_pos (⟨rfl,yW⟩:(16:Int)=16∧s'.aj=true)]
       simp only [yW] at OC
       by_cases h1:s'.ay=1
       · rw [if_pos h1]
         have R9:=fun n=>qu n s'
         simp only [h1] at R9
         by_cases hb:s'.jt=true
         · rw [if_pos hb]
           have qH:=fun n=>qw n s'
           simp only [hb] at qH
           intro A F hw cY
           refine ab Tryz.func58 rfl (by kernel_rfl) fun _=>?_
           dsimp only [af,ag] at cY
           obtain⟨⟨cr,dQ,iN,ef,vs,vo⟩,hS⟩:=fx.open cY .z
           clear cY
           dsimp only [gC,af,ag] at hS
           rw [da,de,et] at hS
           dsimp only [dv,fb,du,fa,ff,jF] at hS
           have hq:=jC hS hw
           revert hq hS hw;(repeat first|clear hq|clear hS|clear hw|revert hc|revert zn|revert zA|revert xw|revert R|revert K);refine W (J6 (Tg.mk (n:=10) (fun {A L K k}=>ej (A:=A) (L:=L) (K:=K) (k:=k) (qH cr))) (Tg.mk (n:=10) (fun {A L K k}=>ej (A:=A) (L:=L) (K:=K) (k:=k) (OC cr))) (Tg.mk (n:=10) (fun {A L K k}=>ej (A:=A) (L:=L) (K:=K) (k:=k) (R9 cr))) (Tg.mk (n:=32) (BU cr s' hC)) (od lx) (gL cr)) (J4 @AW.aa @ah.eq_1 @bj.eq_1 @ba.v.eq_1) (J1 ?_)<;>unhygienic intros
           refine⟨_,by first|rfl|(simp;rfl)|(simp [hq,AW.aa,ah];rfl),?_⟩
           apply sB
           (·first|rfl|(simp [dD,ba.v,ba.zero];done)|(simp [dD,ba.v,ba.zero];rfl))
           apply fx.bS
           · skip
             apply iR.bh (e:=⟨0,t.id,4,0,s'.reads,jV s'⟩)
             (·exact sA)
             (·repeat' (first|apply ap.z|apply ap.s))
             (·repeat' (first|apply ap.z|apply ap.s))
             (·repeat' (first|apply ap.z|apply ap.s))
           · dsimp only [gC,be.lO,be.to,be.lK,be.ez,be.fg,be.iL,be.d]
             (try simp only [da,de,et])
             (·first|exact pA|exact kA)
           (·first|exact pA|exact kA)
           all_goals(first|exact 0|exact undef)
         · rw [if_neg hb]
           have jX:s'.jt=false:=by simpa using hb
           have qH:=fun n=>qw n s'
           simp only [jX] at qH
           intro A F hw cY
           refine ab Tryz.func58 rfl (by kernel_rfl) fun _=>?_
           dsimp only [af,ag] at cY
           obtain⟨⟨cr,dQ,iN,ef,vs,vo⟩,hS⟩:=fx.open cY .z
           clear cY
           dsimp only [gC,af,ag] at hS
           rw [da,de,et] at hS
           dsimp only [dv,fb,du,fa,ff,jF] at hS
           have hq:=jC hS hw
           revert hq hS hw;(repeat first|clear hq|clear hS|clear hw|revert hc|revert zn|revert zA|revert xw|revert R|revert K);refine Wu (J7 (Tg.mk (n:=10) (fun {A L K k}=>ej (A:=A) (L:=L) (K:=K) (k:=k) (qH cr))) (Tg.mk (n:=34) @Ns) (Tg.mk (n:=10) (fun {A L K k}=>ej (A:=A) (L:=L) (K:=K) (k:=k) (OC cr))) (Tg.mk (n:=10) (fun {A L K k}=>ej (A:=A) (L:=L) (K:=K) (k:=k) (R9 cr))) (Tg.mk (n:=32) (BU cr s' hC)) (od lx) (gL cr)) (J8 xk yY FC I6 @AW.aa @ah.eq_1 @bj.eq_1 @ba.v.eq_1) (J1 ?_)<;>unhygienic intros
           refine⟨_,by first|rfl|(simp;rfl)|(simp [hq,AW.aa,ah];rfl),?_⟩
           apply sB
           (·first|rfl|(simp [dD,ba.v,ba.zero];done)|(simp [dD,ba.v,ba.zero];rfl))
           apply ak.bS
           · skip
             apply iR.bh (e:=⟨0,t.id,4,0,s'.reads,jV s'⟩)
             (·exact sA)
             (·repeat' (first|apply ap.z|apply ap.s))
             (·repeat' (first|apply ap.z|apply ap.s))
             (·repeat' (first|apply ap.z|apply ap.s))
           (·first|exact pA|exact kA)
       · rw [if_neg h1]
         by_cases hb:s'.jt=true
         · rw [if_pos hb]
           have qH:=fun n=>qw n s'
           simp only [hb] at qH
           intro A F hw cY
           refine ab Tryz.func58 rfl (by kernel_rfl) fun _=>?_
           dsimp only [af,ag] at cY
           obtain⟨⟨cr,dQ,iN,ef,vs,vo⟩,hS⟩:=fx.open cY .z
           clear cY
           dsimp only [gC,af,ag] at hS
           rw [da,de,et] at hS
           dsimp only [dv,fb,du,fa,ff,jF] at hS
           have hq:=jC hS hw
           revert hq hS hw;(repeat first|clear hq|clear hS|clear hw|revert hc|revert zn|revert zA|revert xw|revert R|revert K);refine W (J6 (Tg.mk (n:=10) (fun {A L K k}=>ej (A:=A) (L:=L) (K:=K) (k:=k) (qH cr))) (Tg.mk (n:=10) (fun {A L K k}=>ej (A:=A) (L:=L) (K:=K) (k:=k) (OC cr))) (Tg.mk (n:=10) (fun {A L K k}=>ej (A:=A) (L:=L) (K:=K) (k:=k) (qu cr s'))) (Tg.mk (n:=32) (BU cr s' hC)) (od lx) (gL cr)) (J5 h1 @AW.aa @ah.eq_1 @bj.eq_1 @ba.v.eq_1) (J1 ?_)<;>unhygienic intros
           refine⟨_,by first|rfl|(simp;rfl)|(simp [hq,AW.aa,ah];rfl),?_⟩
           apply sB
           (·first|rfl|(simp [dD,ba.v,ba.zero];done)|(simp [dD,ba.v,ba.zero];rfl))
           apply fx.bS
           · skip
             apply iR.bh (e:=⟨0,t.id,4,0,s'.reads,[]⟩) (w:=.slice none 0 0)
             · apply ak.oD .i64
               (·exact sA)
             (·repeat' (first|apply ap.z|apply ap.s))
             (·repeat' (first|apply ap.z|apply ap.s))
             (·repeat' (first|apply ap.z|apply ap.s))
           · dsimp only [gC,be.lO,be.to,be.lK,be.ez,be.fg,be.iL,be.d]
             (try simp only [da,de,et])
             (·first|exact pA|exact kA)
           (·first|exact pA|exact kA)
           all_goals(first|exact 0|exact undef)
         · rw [if_neg hb]
           have jX:s'.jt=false:=by simpa using hb
           have qH:=fun n=>qw n s'
           simp only [jX] at qH
           intro A F hw cY
           refine ab Tryz.func58 rfl (by kernel_rfl) fun _=>?_
           dsimp only [af,ag] at cY
           obtain⟨⟨cr,dQ,iN,ef,vs,vo⟩,hS⟩:=fx.open cY .z
           clear cY
           dsimp only [gC,af,ag] at hS
           rw [da,de,et] at hS
           dsimp only [dv,fb,du,fa,ff,jF] at hS
           have hq:=jC hS hw
           revert hq hS hw;(repeat first|clear hq|clear hS|clear hw|revert hc|revert zn|revert zA|revert xw|revert R|revert K);refine Wu (J7 (Tg.mk (n:=10) (fun {A L K k}=>ej (A:=A) (L:=L) (K:=K) (k:=k) (qH cr))) (Tg.mk (n:=34) @Ns) (Tg.mk (n:=10) (fun {A L K k}=>ej (A:=A) (L:=L) (K:=K) (k:=k) (OC cr))) (Tg.mk (n:=10) (fun {A L K k}=>ej (A:=A) (L:=L) (K:=K) (k:=k) (qu cr s'))) (Tg.mk (n:=32) (BU cr s' hC)) (od lx) (gL cr)) (J9 h1 xk yY FC I6 @AW.aa @ah.eq_1 @bj.eq_1 @ba.v.eq_1) (J1 ?_)<;>unhygienic intros
           refine⟨_,by first|rfl|(simp;rfl)|(simp [hq,AW.aa,ah];rfl),?_⟩
           apply sB
           (·first|rfl|(simp [dD,ba.v,ba.zero];done)|(simp [dD,ba.v,ba.zero];rfl))
           apply ak.bS
           · skip
             apply iR.bh (e:=⟨0,t.id,4,0,s'.reads,[]⟩) (w:=.slice none 0 0)
             · apply ak.oD .i64
               (·exact sA)
             (·repeat' (first|apply ap.z|apply ap.s))
             (·repeat' (first|apply ap.z|apply ap.s))
             (·repeat' (first|apply ap.z|apply ap.s))
           (·first|exact pA|exact kA)
     · rw [if_neg (fun hh:(16:Int)=16∧s'.aj=true=>yW hh.2)]
       have VG:s'.aj=false:=by simpa using yW
       simp only [VG] at OC
       by_cases hb:s'.jt=true
       · rw [if_pos hb]
         have qH:=fun n=>qw n s'
         simp only [hb] at qH
         intro A F hw cY
         refine ab Tryz.func58 rfl (by kernel_rfl) fun _=>?_
         dsimp only [af,ag] at cY
         obtain⟨⟨cr,dQ,iN,ef,vs,vo⟩,hS⟩:=fx.open cY .z
         clear cY
         dsimp only [gC,af,ag] at hS
         rw [da,de,et] at hS
         dsimp only [dv,fb,du,fa,ff,jF] at hS
         have hq:=jC hS hw
         revert hq hS hw;(repeat first|clear hq|clear hS|clear hw|revert hc|revert zn|revert zA|revert xw|revert R|revert K);refine W (J4 (Tg.mk (n:=10) (fun {A L K k}=>ej (A:=A) (L:=L) (K:=K) (k:=k) (qH cr))) (Tg.mk (n:=10) (fun {A L K k}=>ej (A:=A) (L:=L) (K:=K) (k:=k) (OC cr))) (od lx) (gL cr)) (J4 @AW.aa @ah.eq_1 @bj.eq_1 @ba.v.eq_1) (J1 ?_)<;>unhygienic intros
         refine⟨_,by first|rfl|(simp;rfl)|(simp [hq,AW.aa,ah];rfl),?_⟩
         apply sB
         (·first|rfl|(simp [dD,ba.v,ba.zero];done)|(simp [dD,ba.v,ba.zero];rfl))
         apply fx.bS
         · skip
           apply iR.nil
           (·exact sA)
         · dsimp only [gC,be.lO,be.to,be.lK,be.ez,be.fg,be.iL,be.d]
           (try simp only [da,de,et])
           (·first|exact pA|exact kA)
         (·first|exact pA|exact kA)
         all_goals(first|exact 0|exact undef)
       · rw [if_neg hb]
         have jX:s'.jt=false:=by simpa using hb
         have qH:=fun n=>qw n s'
         simp only [jX] at qH
         intro A F hw cY
         refine ab Tryz.func58 rfl (by kernel_rfl) fun _=>?_
         dsimp only [af,ag] at cY
         obtain⟨⟨cr,dQ,iN,ef,vs,vo⟩,hS⟩:=fx.open cY .z
         clear cY
         dsimp only [gC,af,ag] at hS
         rw [da,de,et] at hS
         dsimp only [dv,fb,du,fa,ff,jF] at hS
         have hq:=jC hS hw
         revert hq hS hw;(repeat first|clear hq|clear hS|clear hw|revert hc|revert zn|revert zA|revert xw|revert R|revert K);refine Wu (J5 (Tg.mk (n:=10) (fun {A L K k}=>ej (A:=A) (L:=L) (K:=K) (k:=k) (qH cr))) (Tg.mk (n:=34) @Ns) (Tg.mk (n:=10) (fun {A L K k}=>ej (A:=A) (L:=L) (K:=K) (k:=k) (OC cr))) (od lx) (gL cr)) (J8 xk yY FC I6 @AW.aa @ah.eq_1 @bj.eq_1 @ba.v.eq_1) (J1 ?_)<;>unhygienic intros
         refine⟨_,by first|rfl|(simp;rfl)|(simp [hq,AW.aa,ah];rfl),?_⟩
         apply sB
         (·first|rfl|(simp [dD,ba.v,ba.zero];done)|(simp [dD,ba.v,ba.zero];rfl))
         apply ak.bS
         · skip
           apply iR.nil
           (·exact sA)
         (·first|exact pA|exact kA)
   · rw [if_neg (fun hh:ph=16∧s'.aj=true=>tC hh.1)]
     by_cases hb:s'.jt=true
     · rw [if_pos hb]
       have qH:=fun n=>qw n s'
       simp only [hb] at qH
       intro A F hw cY
       refine ab Tryz.func58 rfl (by kernel_rfl) fun _=>?_
       dsimp only [af,ag] at cY
       obtain⟨⟨cr,dQ,iN,ef,vs,vo⟩,hS⟩:=fx.open cY .z
       clear cY
       dsimp only [gC,af,ag] at hS
       rw [da,de,et] at hS
       dsimp only [dv,fb,du,fa,ff,jF] at hS
       have hq:=jC hS hw
       revert hq hS hw;(repeat first|clear hq|clear hS|clear hw|revert hc|revert zn|revert zA|revert xw|revert R|revert K);refine W (J3 (Tg.mk (n:=10) (fun {A L K k}=>ej (A:=A) (L:=L) (K:=K) (k:=k) (qH cr))) (od lx) (gL cr)) (J6 h3 tC @AW.aa @ah.eq_1 @bj.eq_1 @ba.v.eq_1) (J1 ?_)<;>unhygienic intros
       refine⟨_,by first|rfl|(simp;rfl)|(simp [hq,AW.aa,ah];rfl),?_⟩
       apply sB
       (·first|rfl|(simp [dD,ba.v,ba.zero];done)|(simp [dD,ba.v,ba.zero];rfl))
       apply fx.bS
       · skip
         apply iR.nil
         (·exact sA)
       · dsimp only [gC,be.lO,be.to,be.lK,be.ez,be.fg,be.iL,be.d]
         (try simp only [da,de,et])
         (·first|exact pA|exact kA)
       (·first|exact pA|exact kA)
       all_goals(first|exact 0|exact undef)
     · rw [if_neg hb]
       have jX:s'.jt=false:=by simpa using hb
       have qH:=fun n=>qw n s'
       simp only [jX] at qH
       intro A F hw cY
       refine ab Tryz.func58 rfl (by kernel_rfl) fun _=>?_
       dsimp only [af,ag] at cY
       obtain⟨⟨cr,dQ,iN,ef,vs,vo⟩,hS⟩:=fx.open cY .z
       clear cY
       dsimp only [gC,af,ag] at hS
       rw [da,de,et] at hS
       dsimp only [dv,fb,du,fa,ff,jF] at hS
       have hq:=jC hS hw
       revert hq hS hw;(repeat first|clear hq|clear hS|clear hw|revert hc|revert zn|revert zA|revert xw|revert R|revert K);refine Wu (J4 (Tg.mk (n:=10) (fun {A L K k}=>ej (A:=A) (L:=L) (K:=K) (k:=k) (qH cr))) (Tg.mk (n:=34) @Ns) (od lx) (gL cr)) (w8 h3 tC xk yY FC I6 @AW.aa @ah.eq_1 @bj.eq_1 @ba.v.eq_1) (J1 ?_)<;>unhygienic intros
       refine⟨_,by first|rfl|(simp;rfl)|(simp [hq,AW.aa,ah];rfl),?_⟩
       apply sB
       (·first|rfl|(simp [dD,ba.v,ba.zero];done)|(simp [dD,ba.v,ba.zero];rfl))
       apply ak.bS
       · skip
         apply iR.nil
         (·exact sA)
       (·first|exact pA|exact kA)
end
end Go.Stx
