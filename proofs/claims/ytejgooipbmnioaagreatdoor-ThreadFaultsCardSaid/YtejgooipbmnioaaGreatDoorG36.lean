/-
 The program's thread: plain accesses.
-/
import Derived.Test.YtejgooipbmnioaaGreatDoorG35
set_option linter.unusedVariables false
set_option linter.unusedSimpArgs false
set_option linter.unusedSectionVars false
set_option maxRecDepth 20000
set_option maxHeartbeats 4000000
namespace Go.Stx
open Go Go.Proofs
attribute [local irreducible] TW cg eg bn aC aV cR df
section
abbrev pR:List (Nat×Nat):=[(0,0),(1,0),(2,0),(3,0),(4,0),(5,0),(6,0),(7,3)]
abbrev pQ:List (Nat×Nat):=[(0,0),(1,0),(2,0),(3,0),(4,0),(5,0),(6,0),(7,0),(8,0),(9,0),(10,0),(11,3),(12,0),(13,0),(14,0),(15,0),(16,3)]
open T2
variable [Gl]
structure DC (t:be) (s:aT) (M:Mm):Prop where
 hB:JW t
 uq:Dy s M
 hC:fA (cB s M).2.2.1
 hi:dL t.fv=0
 dO:t.pc<t.ay.length
 cX:t.aK=true→t.fv.op=12∨t.fv.op=13
 QL:t.aK=false→eh t.ay t.bQ.toNat=7∧0≤t.bQ
 qB:∀x∈(cB s M).2.2.1.av,x<2^62
 Mw:(cB s M).2.2.1.av.length≤8
theorem rr (hF:FOK) {t:be} {s:aT} {M:Mm} (h:DC t s M) (q:ls) (b pb:Nat) (da:t.iE=some s) (de:t.dA=none) (et:t.dt=none) (xm:CR q t.ay) :
 ct Tryz.prog 58 [pv b,pv pb] [.h (fx q b t),dx pb M] (fun ev v=>v=.tuple #[dD (t.vW M s).1,ev]) (fun ev=>[.h (fx q b (t.vW M s).2.2.1),dx pb (t.vW M s).2.2.2,.h (iR ev (t.vW M s).2.1)]):=
 Dl hF q b pb t s M da de et h.hB h.uq h.hC h.hi h.dO h.cX h.QL h.qB h.Mw xm
theorem Ge (hF:FOK) (q:ls) (b pb:Nat) (t:be) (M:Mm) (i:cz) (da:t.iE=none) (de:t.dA=none) (et:t.dt=none) (hB:JW t) (mg:i.op=12∨i.op=13) (hi:dL i=0) (xm:CR q t.ay)
 (VR:t.cf.aK=true→DC ({ t with aK:=true,eO:=0 }:be).qM (gf (fl t.cf t.id)).2 M) :
 ct Tryz.prog 117 [pv b,pv pb,iC i] [.h (fx q b t),dx pb M] (fun ev v=>v=.tuple #[dD (t.plain M i).1,ev]) (fun ev=>[.h (fx q b (t.plain M i).2.2.1),dx pb (t.plain M i).2.2.2,.h (iR ev (t.plain M i).2.1)]):=by
 have ki:0≤t.pc∧t.pc<2^40:=hB.pc
 have rM:t.fV.length<2^30:=by have:=hB.fV;omega
 have sx:=hB.cf
 have JN:=sx.aQ
 have TT:=hB.qI
 have iV:IntKind.u64.wrap t.d.cf.aQ=t.d.cf.aQ:=(az (by omega) (by omega):IntKind.u64.wrap t.cf.aQ=t.cf.aQ)
 have YE:t.lY i=mA t.d i:=by
  unfold be.lY mA
  rfl
 have TD:=Kk t.d i
 unfold be.plain
 dsimp only
 rw [YE]
 by_cases h1:t.d.cf.aQ≤mA t.d i
 · rw [if_pos (show t.cf.aQ≤mA t.d i from h1)]
   rcases mg with h2|h2
   · obtain⟨op,i1,i2,i3,cQ⟩:=i
     dsimp only at h2
     subst h2
     have ha:=(kw hi).1 rfl
     dsimp only at ha
     have xC:=fun x w=>sS (d:=t.d) (w:=w) (x:=x) ha
     rw [if_pos rfl]
     unfold iC
     intro A F hw cY
     refine ab Tryz.func117 rfl (by kernel_rfl) fun _=>?_
     dsimp only [af,ag] at cY
     obtain⟨⟨cr,dQ,iN,ef,vs,vo⟩,hS⟩:=fx.open cY .z
     clear cY
     dsimp only [gC,af,ag] at hS
     rw [da,de,et] at hS
     dsimp only [dv,fb,du,fa,ff,jF] at hS
     have hq:=jC hS hw
     have My:b<A.next:=hw.lt (hS.g 0 rfl)
     have Mt:(b=A.next+1+1)=False:=eq_false (by omega)
     have ll:(b=A.next+1+1+1)=False:=eq_false (by omega)
     have rS:(A.next+1+1=b)=False:=eq_false (by omega)
     have ta:(A.next+1+1+1=b)=False:=eq_false (by omega)
     revert hq hS hw;refine Wu (J5 (Tg.mk (n:=10) (fun {A L K k} x1=>xZ (A:=A) (L:=L) (K:=K) (k:=k) b t.d x1 ⟨12,i1,i2,i3,cQ⟩ (.inl rfl) hi)) (Tg.mk (n:=36) (fun x1=>gX b { t.d with dC:=t.d.dC.set i1 0 } x1 t.fV 7 7 rM)) (Tg.mk (n:=37) (fun x1 x2 x3 x4 x5 x6 x7 x8 x9=>jf b { t.d with dC:=t.d.dC.set i1 0 } x1 x2 x3 x4 x5 x6 x7 x8 x9 ki)) (od pR) (od pQ)) (J7 iV h1 xC ha.1 ha.2 @AW.aa @ah.eq_1) (J1 ?_)<;>unhygienic intros
     refine⟨_,by first|rfl|(simp;rfl)|(simp [hq,AW.aa,ah];rfl),?_⟩
     apply sB
     (·first|rfl|(simp [dD,gA.zero,ba.v,ba.zero];done)|(simp [dD,gA.zero,ba.v,ba.zero];rfl))
     apply fx.bS
     · apply iR.nil
       (·exact sA)
     · dsimp only [gC,be.lO,be.to,be.lK,be.ez,be.fg,be.iL,be.d]
       (try simp only [da,de,et])
       dsimp only [dv,fb,du,fa,ff,jF]
       (·repeat' (first|apply aD.z|apply aD.s|apply ap.z|apply ap.pt|apply ap.s))
     (·repeat' (first|apply aD.z|apply aD.s|apply ap.z|apply ap.pt|apply ap.s))
     all_goals(first|exact 0|exact undef)
   · obtain⟨op,i1,i2,i3,cQ⟩:=i
     dsimp only at h2
     subst h2
     rw [if_neg (show ¬(13:Int)=12 by decide)]
     unfold iC
     intro A F hw cY
     refine ab Tryz.func117 rfl (by kernel_rfl) fun _=>?_
     dsimp only [af,ag] at cY
     obtain⟨⟨cr,dQ,iN,ef,vs,vo⟩,hS⟩:=fx.open cY .z
     clear cY
     dsimp only [gC,af,ag] at hS
     rw [da,de,et] at hS
     dsimp only [dv,fb,du,fa,ff,jF] at hS
     have hq:=jC hS hw
     have My:b<A.next:=hw.lt (hS.g 0 rfl)
     have Mt:(b=A.next+1+1)=False:=eq_false (by omega)
     have ll:(b=A.next+1+1+1)=False:=eq_false (by omega)
     have rS:(A.next+1+1=b)=False:=eq_false (by omega)
     have ta:(A.next+1+1+1=b)=False:=eq_false (by omega)
     revert hq hS hw;(repeat first|clear hq|clear hS|clear hw|revert hc|revert zn|revert zA|revert xw|revert R|revert K);refine Wu (J5 (Tg.mk (n:=10) (fun {A L K k} x1=>xZ (A:=A) (L:=L) (K:=K) (k:=k) b t.d x1 ⟨13,i1,i2,i3,cQ⟩ (.inr rfl) hi)) (Tg.mk (n:=36) (fun x1=>gX b t.d x1 t.fV 7 7 rM)) (Tg.mk (n:=37) (fun x1 x2 x3 x4 x5 x6 x7 x8 x9=>jf b t.d x1 x2 x3 x4 x5 x6 x7 x8 x9 ki)) (od pR) (od pQ)) (J4 iV h1 @AW.aa @ah.eq_1) (J1 ?_)<;>unhygienic intros
     refine⟨_,by first|rfl|(simp;rfl)|(simp [hq,AW.aa,ah];rfl),?_⟩
     apply sB
     (·first|rfl|(simp [dD,gA.zero,ba.v,ba.zero];done)|(simp [dD,gA.zero,ba.v,ba.zero];rfl))
     apply fx.bS
     · apply iR.nil
       (·exact sA)
     · dsimp only [gC,be.lO,be.to,be.lK,be.ez,be.fg,be.iL,be.d]
       (try simp only [da,de,et])
       dsimp only [dv,fb,du,fa,ff,jF]
       (·repeat' (first|apply aD.z|apply aD.s|apply ap.z|apply ap.pt|apply ap.s))
     (·repeat' (first|apply aD.z|apply aD.s|apply ap.z|apply ap.pt|apply ap.s))
     all_goals(first|exact 0|exact undef)
 · rw [if_neg (show ¬t.cf.aQ≤mA t.d i from h1)]
   by_cases h3:t.d.cf.aK=true
   · rw [if_pos (show t.cf.aK=true from h3)]
     have Jh:=rr hF (VR h3) q b pb rfl de et xm
     have VL:b9 t.d.cf:=sx
     rcases mg with h2|h2
     all_goals
      obtain⟨op,i1,i2,i3,cQ⟩:=i
      dsimp only at h2
      subst h2
      unfold iC
      intro A F hw cY
      refine ab Tryz.func117 rfl (by kernel_rfl) fun _=>?_
      dsimp only [af,ag] at cY
      obtain⟨⟨cr,dQ,iN,ef,vs,vo⟩,hS⟩:=fx.open cY .z
      clear cY
      dsimp only [gC,af,ag] at hS
      rw [da,de,et] at hS
      dsimp only [dv,fb,du,fa,ff,jF] at hS
      have hq:=jC hS hw
      have My:b<A.next:=hw.lt (hS.g 0 rfl)
      have Mt:(b=A.next+1+1)=False:=eq_false (by omega)
      have ll:(b=A.next+1+1+1)=False:=eq_false (by omega)
      have rS:(A.next+1+1=b)=False:=eq_false (by omega)
      have ta:(A.next+1+1+1=b)=False:=eq_false (by omega)
      all_goals(revert hq hS hw;(repeat first|clear hq|clear hS|clear hw|revert hc|revert zn|revert zA|revert xw|revert R|revert K);refine Wu (J5 (Tg.mk (n:=10) (fun {A L K k} x1=>xZ (A:=A) (L:=L) (K:=K) (k:=k) b t.d x1 ⟨_,i1,i2,i3,cQ⟩ (by first|exact .inl rfl|exact .inr rfl) hi)) (Tg.mk (n:=36) (fun x1=>wm b { t.d with aK:=true,eO:=0 } x1 VL TT)) (Tg.mk (n:=35) @Jh) (od pR) (od pQ)) (J6 iV h1 h3 @dD.eq_1 @AW.aa @ah.eq_1) (J1 ?_)<;>unhygienic intros)
      refine⟨_,by first|rfl|(simp;rfl)|(simp [hq,AW.aa,ah];rfl),?_⟩
      apply sB
      (·first|rfl|(simp [dD,gA.zero,ba.v,ba.zero];done)|(simp [dD,gA.zero,ba.v,ba.zero];rfl))
      apply ak.bS
      (·exact sA)
      (·repeat' (first|apply aD.z|apply aD.s|apply ap.z|apply ap.pt|apply ap.s))
   · rw [if_neg (show ¬t.cf.aK=true from h3)]
     have Yx:t.d.cf.aQ≤64:=JN.2
     have kl:IntKind.i64.wrap (mA t.d i)=mA t.d i:=aw (by omega) (by omega)
     rcases mg with h2|h2
     · obtain⟨op,i1,i2,i3,cQ⟩:=i
       dsimp only at h2
       subst h2
       rw [if_pos rfl]
       have e:t.zI ⟨12,i1,i2,i3,cQ⟩ (gI M 1 (mA t.d ⟨12,i1,i2,i3,cQ⟩)).put=((t.ez i1 (gI M 1 (mA t.d ⟨12,i1,i2,i3,cQ⟩)).put).lK 4 (gI M 1 (mA t.d ⟨12,i1,i2,i3,cQ⟩)).put).lO:=if_pos rfl
       rw [e]
       have Ol:=fun w {A L K} {k:Value→AW→Prop}=>xZ (A:=A) (L:=L) (K:=K) (k:=k) b t.d w ⟨12,i1,i2,i3,cQ⟩ (.inl rfl) hi
       generalize vJ:mA t.d ⟨12,i1,i2,i3,cQ⟩=Dn at *
       unfold iC
       unfold iC at Ol
       intro A F hw cY
       refine ab Tryz.func117 rfl (by kernel_rfl) fun _=>?_
       dsimp only [af,ag] at cY
       obtain⟨⟨cr,dQ,iN,ef,vs,vo⟩,hS⟩:=fx.open cY .z
       clear cY
       dsimp only [gC,af,ag] at hS
       rw [da,de,et] at hS
       dsimp only [dv,fb,du,fa,ff,jF] at hS
       have hq:=jC hS hw
       have My:b<A.next:=hw.lt (hS.g 0 rfl)
       have Mt:(b=A.next+1+1)=False:=eq_false (by omega)
       have ll:(b=A.next+1+1+1)=False:=eq_false (by omega)
       have rS:(A.next+1+1=b)=False:=eq_false (by omega)
       have ta:(A.next+1+1+1=b)=False:=eq_false (by omega)
       repeat' (first
       | (refine jx fun R hR=>?_;simp [aw,az,hq,Mt,ll,rS,ta,iV,kl,h1,h3,AW.aa,ah,bj,ba.v];try simp (disch:=omega) only [if_pos,if_neg,aw,az])
       | (refine hR _ _ ?_;clear hR R)|(refine hK _ _ ?_;clear hK K)|refine nx ?_
       | (refine N3 fun R hR=>?_;simp [aw,az,hq,Mt,ll,rS,ta,iV,kl,h1,h3,AW.aa,ah,bj,ba.v];try simp (disch:=omega) only [if_pos,if_neg,aw,az])
       | (refine MJ (fun R hR=>?_) (fun R hR=>?_)<;>(simp [aw,az,hq,Mt,ll,rS,ta,iV,kl,h1,h3,AW.aa,ah,bj,ba.v];try simp (disch:=omega) only [if_pos,if_neg,aw,az]))
       | refine N1 ?_
       | refine wn fun K hK=>?_
       | simp only [wS,pR,pQ]
       | simp only [cg,sQ,lJ,Option.map_none,Option.map_some,List.getElem?_toArray,List.getElem?_cons_zero,List.getElem?_cons_succ,List.getD_cons_zero,List.getD_cons_succ,Option.bind_some]
       | refine wl Tryz.mx pR (by decide +kernel) fun K hK=>?_
       | refine wl Tryz.mx pQ (by decide +kernel) fun K hK=>?_
       | (refine ⟨fun A' g=>by simp [AW.aa,g],?_⟩)
       | (refine ⟨by simp [hq],?_⟩)
       | (refine wt (fun A'=>A'.bR (A.next+1+1+1)=some (.cells [.int .i64 0,.int .i64 t.d.id,.int .i64 1,.int .i64 Dn,.slice none 0 0,.slice none 0 0] true 1)) Tryz.mx [0,1,2,3,0] (.bh 0 (.bh 1 (.sc 2 (.bh 3 (.bh 4 .nil)) 3 (.bh 2 (.bh 4 .nil))))) (by decide +kernel) fun K hK=>?_)
       | (apply Ol _;(·exact wA);(·exact sA);(·first|exact pA|exact kA);)
       | (apply aY.cA (Lk pb M 1 Dn);(·exact wA);(·exact sA);(·first|exact pA|exact kA);rintro _ _ rfl hS hw _;have hS:=lA hS;have hq:=jC hS hw)
       | (apply ct.cA (wZ b t.d _ _ _ _ _ _ _ _ _ i1 i2 i3 cQ _ t.fV hi ki rM);(·exact wA);(·exact sA);(·first|exact pA|exact kA);(rintro xw _ _ _ hS hw _;have hS:=lA hS;(try (have hq:=jC hS hw))))
       | refine wb ?_|refine wr ?_|refine wk ?_|refine we ?_|refine ws ?_|refine wq ?_
       | (refine wc rfl (fun hc=>?_) (fun hc=>?_)<;>(try simp at hc)<;>(try omega))
       | (refine ib (fun hc=>?_) (fun hc=>?_)<;>(try omega)<;>(try simp (disch:=omega) only [if_pos,if_neg])))
       all_goals(
        refine⟨_,by first|rfl|(simp;rfl)|(simp [hq,AW.aa,ah];rfl),?_⟩
        apply sB
        (·first|rfl|(simp [dD,gA.zero,ba.v,ba.zero];done)|(simp [dD,gA.zero,ba.v,ba.zero];rfl))
        apply fx.bS
        · apply iR.bh (e:=⟨0,t.id,1,Dn,[],[]⟩) (r:=.slice none 0 0) (w:=.slice none 0 0)
          · apply ak.oD .i64
            apply ak.oD .i64
            (·exact sA)
          (·repeat' (first|apply ap.z|apply ap.s))
          (·repeat' (first|apply ap.z|apply ap.s))
          (·repeat' (first|apply ap.z|apply ap.s))
        · dsimp only [gC,be.lO,be.to,be.lK,be.ez,be.fg,be.iL,be.d]
          (try simp only [da,de,et])
          dsimp only [dv,fb,du,fa,ff,jF]
          (·repeat' (first|apply aD.z|apply aD.s|apply ap.z|apply ap.pt|apply ap.s))
        (·repeat' (first|apply aD.z|apply aD.s|apply ap.z|apply ap.pt|apply ap.s))
        all_goals(first|exact 0|exact undef))
     · obtain⟨op,i1,i2,i3,cQ⟩:=i
       dsimp only at h2
       subst h2
       rw [if_neg (show ¬(13:Int)=12 by decide)]
       have hb:=(kw hi).2.1 rfl
       dsimp only at hb
       have rW:=fun w=>mU (d:=t.d) (w:=w) hb
       have e:t.zI ⟨13,i1,i2,i3,cQ⟩ (zN M 1 (mA t.d ⟨13,i1,i2,i3,cQ⟩) (t.d.dC.bR i2)).put=(t.lK 5 (zN M 1 (mA t.d ⟨13,i1,i2,i3,cQ⟩) (t.d.dC.bR i2)).put).lO:=if_neg (show ¬(13:Int)=12 by decide)
       have e0:t.dC.bR i2=t.d.dC.bR i2:=rfl
       dsimp only
       rw [e0,e]
       have Ol:=fun w {A L K} {k:Value→AW→Prop}=>xZ (A:=A) (L:=L) (K:=K) (k:=k) b t.d w ⟨13,i1,i2,i3,cQ⟩ (.inr rfl) hi
       generalize vJ:mA t.d ⟨13,i1,i2,i3,cQ⟩=Dn at *
       unfold iC
       unfold iC at Ol
       intro A F hw cY
       refine ab Tryz.func117 rfl (by kernel_rfl) fun _=>?_
       dsimp only [af,ag] at cY
       obtain⟨⟨cr,dQ,iN,ef,vs,vo⟩,hS⟩:=fx.open cY .z
       clear cY
       dsimp only [gC,af,ag] at hS
       rw [da,de,et] at hS
       dsimp only [dv,fb,du,fa,ff,jF] at hS
       have hq:=jC hS hw
       have My:b<A.next:=hw.lt (hS.g 0 rfl)
       have Mt:(b=A.next+1+1)=False:=eq_false (by omega)
       have ll:(b=A.next+1+1+1)=False:=eq_false (by omega)
       have rS:(A.next+1+1=b)=False:=eq_false (by omega)
       have ta:(A.next+1+1+1=b)=False:=eq_false (by omega)
       repeat' (first
       | (refine jx fun R hR=>?_;simp [aw,az,hq,Mt,ll,rS,ta,iV,kl,h1,h3,rW,hb.1,hb.2,AW.aa,ah,bj,ba.v];try simp (disch:=omega) only [if_pos,if_neg,aw,az])
       | (refine hR _ _ ?_;clear hR R)|(refine hK _ _ ?_;clear hK K)|refine nx ?_
       | (refine N3 fun R hR=>?_;simp [aw,az,hq,Mt,ll,rS,ta,iV,kl,h1,h3,rW,hb.1,hb.2,AW.aa,ah,bj,ba.v];try simp (disch:=omega) only [if_pos,if_neg,aw,az])
       | (refine MJ (fun R hR=>?_) (fun R hR=>?_)<;>(simp [aw,az,hq,Mt,ll,rS,ta,iV,kl,h1,h3,rW,hb.1,hb.2,AW.aa,ah,bj,ba.v];try simp (disch:=omega) only [if_pos,if_neg,aw,az]))
       | refine N1 ?_
       | refine wn fun K hK=>?_
       | simp only [wS,pR,pQ]
       | simp only [cg,sQ,lJ,Option.map_none,Option.map_some,List.getElem?_toArray,List.getElem?_cons_zero,List.getElem?_cons_succ,List.getD_cons_zero,List.getD_cons_succ,Option.bind_some]
       | refine wl Tryz.mx pR (by decide +kernel) fun K hK=>?_
       | refine wl Tryz.mx pQ (by decide +kernel) fun K hK=>?_
       | (refine ⟨fun A' g=>by simp [AW.aa,g],?_⟩)
       | (refine ⟨by simp [hq],?_⟩)
       | (refine wt (fun A'=>A'.bR (A.next+1+1+1)=some (.cells [.int .i64 0,.int .i64 t.d.id,.int .i64 2,.int .i64 Dn,.slice none 0 0,.slice none 0 0] true 1)) Tryz.mx [0,1,2,3,0] (.bh 0 (.bh 1 (.sc 2 (.bh 3 (.bh 4 .nil)) 3 (.bh 2 (.bh 4 .nil))))) (by decide +kernel) fun K hK=>?_)
       | (apply Ol _;(·exact wA);(·exact sA);(·first|exact pA|exact kA);)
       | (apply aY.cA (QC pb M 1 Dn _);(·exact wA);(·exact sA);(·first|exact pA|exact kA);rintro _ _ rfl hS hw _;have hS:=lA hS;have hq:=jC hS hw)
       | (apply ct.cA (wY b t.d _ _ _ _ _ _ _ _ _ i1 i2 i3 cQ _ t.fV hi ki rM);(·exact wA);(·exact sA);(·first|exact pA|exact kA);(rintro xw _ _ _ hS hw _;have hS:=lA hS;(try (have hq:=jC hS hw))))
       | refine wb ?_|refine wr ?_|refine wk ?_|refine we ?_|refine ws ?_|refine wq ?_
       | (refine wc rfl (fun hc=>?_) (fun hc=>?_)<;>(try simp at hc)<;>(try omega))
       | (refine ib (fun hc=>?_) (fun hc=>?_)<;>(try omega)<;>(try simp (disch:=omega) only [if_pos,if_neg])))
       all_goals(
        refine⟨_,by first|rfl|(simp;rfl)|(simp [hq,AW.aa,ah];rfl),?_⟩
        apply sB
        (·first|rfl|(simp [dD,gA.zero,ba.v,ba.zero];done)|(simp [dD,gA.zero,ba.v,ba.zero];rfl))
        apply fx.bS
        · apply iR.bh (e:=⟨0,t.id,2,Dn,[],[]⟩) (r:=.slice none 0 0) (w:=.slice none 0 0)
          · apply ak.oD .i64
            apply ak.oD .i64
            (·exact sA)
          (·repeat' (first|apply ap.z|apply ap.s))
          (·repeat' (first|apply ap.z|apply ap.s))
          (·repeat' (first|apply ap.z|apply ap.s))
        · dsimp only [gC,be.lO,be.to,be.lK,be.ez,be.fg,be.iL,be.d]
          (try simp only [da,de,et])
          dsimp only [dv,fb,du,fa,ff,jF]
          (·repeat' (first|apply aD.z|apply aD.s|apply ap.z|apply ap.pt|apply ap.s))
        (·repeat' (first|apply aD.z|apply aD.s|apply ap.z|apply ap.pt|apply ap.s))
        all_goals(first|exact 0|exact undef))
end
section
abbrev nT:List (Nat×Nat):=[(0,0),(1,0),(2,0),(3,0),(4,0),(5,0),(6,0),(7,0),(8,0),(9,0),(10,0),(11,0),(12,0),(13,0),(14,0),(15,3),(16,0),(17,0),(18,0),(19,3)]
abbrev nS:List (Nat×Nat):=[(0,0),(1,0),(2,0),(3,0),(4,0),(5,0),(6,0),(7,0),(8,0),(9,2),(10,0),(11,0),(12,0),(13,3)]
open T2
variable [Gl]
variable [AF]
structure XK (fF:Int→Int→Int→Int) (t:be) (M:Mm) (i:cz):Prop where
 hA:DB fF
 hB:JW t
 hi:dL i=0
 rX:i.op=3→zE i.cQ
 I7:i.op≠8∧i.op≠9∧i.op≠10∧i.op≠11∧i.op≠14∧i.op≠15
 hb:i.op=7→DC ({ t with bQ:=t.pc,jP:=t.dC,gB:=t.gB+1 }:be).qM (gf (fl t.cf t.id)).2 M
 hp:t.cf.aK=true→i.op=12∨i.op=13→DC ({ t with aK:=true,eO:=0 }:be).qM (gf (fl t.cf t.id)).2 M
 Lw:∀x∈t.fu,x.1<2^62
theorem uk (fF:Int→Int→Int→Int) (t:be) (i:cz):(t.gZ fF i).iE=t.iE∧(t.gZ fF i).dA=t.dA∧(t.gZ fF i).dt=t.dt∧(t.gZ fF i).ay=t.ay∧(t.gZ fF i).dY=t.dY∧(t.gZ fF i).cf=t.cf∧(t.gZ fF i).fu=t.fu∧(t.gZ fF i).fV=t.fV:=by
 unfold be.gZ
 split
 · exact⟨rfl,rfl,rfl,rfl,rfl,rfl,rfl,rfl⟩
 · split
   · exact⟨rfl,rfl,rfl,rfl,rfl,rfl,rfl,rfl⟩
   · split
     · exact⟨rfl,rfl,rfl,rfl,rfl,rfl,rfl,rfl⟩
     · split
       · exact⟨rfl,rfl,rfl,rfl,rfl,rfl,rfl,rfl⟩
       · exact⟨rfl,rfl,rfl,rfl,rfl,rfl,rfl,rfl⟩
theorem IT (fF:Int→Int→Int→Int) (t:be) (i:cz):(t.gZ fF i).d.gv=t.d.gv:=by
 unfold be.gZ
 split
 · rfl
 · split
   · rfl
   · split
     · rfl
     · split<;>rfl
theorem LV {fF:Int→Int→Int→Int} (hF:FOK) (q:ls) (b pb:Nat) (t:be) (M:Mm) (i:cz) (da:t.iE=none) (de:t.dA=none) (et:t.dt=none) (hE:XK fF t M i) (xm:CR q t.ay) :
 ct Tryz.prog 60 [pv b,pv pb,iC i] [.h (fx q b t),dx pb M] (fun ev v=>v=.tuple #[dD (t.kR fF M i).1,ev]) (fun ev=>[.h (fx q b (t.kR fF M i).2.2.1),dx pb (t.kR fF M i).2.2.2,.h (iR ev (t.kR fF M i).2.1)]):=by
 have hB:=hE.hB
 have ki:0≤t.pc∧t.pc<2^40:=hB.pc
 have sx:b9 t.d.cf:=hB.cf
 have TT:=hB.qI
 have WX:=hB.tz
 have iV:IntKind.i64.wrap (t.d.gB+1)=t.d.gB+1:=(aw (by omega) (by omega):IntKind.i64.wrap (t.gB+1)=t.gB+1)
 have I7:=hE.I7
 obtain⟨_,_,_,PE,_⟩:=kw hE.hi
 unfold be.kR
 rw [da]
 dsimp only
 by_cases h7:i.op=7
 · rw [if_pos h7]
   have Jh:=rr hF (hE.hb h7) q b pb rfl de et xm
   obtain⟨op,i1,i2,i3,cQ⟩:=i
   dsimp only at h7
   subst h7
   unfold iC
   intro A F hw cY
   refine ab Tryz.func60 rfl (by kernel_rfl) fun _=>?_
   dsimp only [af,ag] at cY
   obtain⟨⟨cr,dQ,iN,ef,vs,vo⟩,hS⟩:=fx.open cY .z
   clear cY
   dsimp only [gC,af,ag] at hS
   rw [da,de,et] at hS
   dsimp only [dv,fb,du,fa,ff,jF] at hS
   have hq:=jC hS hw
   revert hq hS hw;refine Wu (J4 (Tg.mk (n:=36) (fun x1=>wm b { t.d with bQ:=t.pc,jP:=t.dC,gB:=t.gB+1 } x1 sx TT)) (Tg.mk (n:=35) @Jh) (od nT) (od nS)) (J4 iV @dD.eq_1 @AW.aa @ah.eq_1) (J1 ?_)<;>unhygienic intros
   refine⟨_,by first|rfl|(simp;rfl)|(simp [hq,AW.aa,ah];rfl),?_⟩
   apply sB
   (·first|rfl|(simp [dD,gA.zero,ba.v,ba.zero];done)|(simp [dD,gA.zero,ba.v,ba.zero];rfl))
   apply ak.bS
   (·exact sA)
   (·repeat' (first|apply aD.z|apply aD.s|apply ap.z|apply ap.pt|apply ap.s))
 · rw [if_neg h7]
   by_cases hp:i.op=12∨i.op=13
   · rw [if_pos hp]
     have qG:=Ge hF q b pb t M i da de et hB hp hE.hi xm (fun h=>hE.hp h hp)
     rcases hp with h2|h2
     all_goals
      obtain⟨op,i1,i2,i3,cQ⟩:=i
      dsimp only at h2
      subst h2
      unfold iC at qG
      unfold iC
      intro A F hw cY
      refine ab Tryz.func60 rfl (by kernel_rfl) fun _=>?_
      dsimp only [af,ag] at cY
      obtain⟨⟨cr,dQ,iN,ef,vs,vo⟩,hS⟩:=fx.open cY .z
      clear cY
      dsimp only [gC,af,ag] at hS
      rw [da,de,et] at hS
      dsimp only [dv,fb,du,fa,ff,jF] at hS
      have hq:=jC hS hw
      all_goals(revert hq hS hw;(repeat first|clear hq|clear hS|clear hw|revert hc|revert zn|revert zA|revert xw|revert R|revert K);refine Wu (J3 (Tg.mk (n:=35) @qG) (od nT) (od nS)) (J3 @dD.eq_1 @AW.aa @ah.eq_1) (J1 ?_)<;>unhygienic intros)
      refine⟨_,by first|rfl|(simp;rfl)|(simp [hq,AW.aa,ah];rfl),?_⟩
      apply sB
      (·first|rfl|(simp [dD,gA.zero,ba.v,ba.zero];done)|(simp [dD,gA.zero,ba.v,ba.zero];rfl))
      apply ak.bS
      (·exact sA)
      (·repeat' (first|apply aD.z|apply aD.s|apply ap.z|apply ap.pt|apply ap.s))
   · rw [if_neg hp]
     by_cases tC:i.op=16
     · rw [if_pos tC]
       dsimp only
       have I1:=AX q b pb ({ t with dA:=some ⟨t.id,t.nt,false,0,0⟩ }:be) M ⟨t.id,t.nt,false,0,0⟩ da rfl ⟨hB.cf,hB.pc,hB.fV,hB.k9,hB.qI,hB.tz,hB.kS,hB.nD⟩ (by dsimp only;omega) hE.Lw (fun l e=>by have e2:t.dt=some l:=e;rw [et] at e2;cases e2)
       rw [da] at I1
       generalize be.rR ({ t with iE:=none,dA:=some ⟨t.id,t.nt,false,0,0⟩ }:be) M ⟨t.id,t.nt,false,0,0⟩=r at I1 ⊢
       obtain⟨op,i1,i2,i3,cQ⟩:=i
       dsimp only at tC
       subst tC
       unfold iC
       intro A F hw cY
       refine ab Tryz.func60 rfl (by kernel_rfl) fun _=>?_
       dsimp only [af,ag] at cY
       obtain⟨⟨cr,dQ,iN,ef,vs,vo⟩,hS⟩:=fx.open cY .z
       clear cY
       dsimp only [gC,af,ag] at hS
       rw [da,de,et] at hS
       dsimp only [dv,fb,du,fa,ff,jF] at hS
       have hq:=jC hS hw
       have jX:∀k l,(b=A.next+k+l)=False:=fun k l=>by simp [hq,Nat.add_assoc]
       revert hq hS hw;(repeat first|clear hq|clear hS|clear hw|revert hc|revert zn|revert zA|revert xw|revert R|revert K);refine Wu (J4 (Tg.mk (n:=34) @I1) (od nT) (od nS) @Aq) (J4 jX @dD.eq_1 @AW.aa @ah.eq_1) (J1 ?_)<;>unhygienic intros
       refine⟨_,by first|rfl|(simp;rfl)|(simp [hq,AW.aa,ah];rfl),?_⟩
       apply sB
       (·first|rfl|(simp [dD,gA.zero,ba.v,ba.zero];done)|(simp [dD,gA.zero,ba.v,ba.zero];rfl))
       apply ak.bS
       · apply iR.nil
         (·exact sA)
       (·repeat' (first|apply aD.z|apply aD.s|apply ap.z|apply ap.pt|apply ap.s))
     · rw [if_neg tC]
       have mg:(0≤i.op∧i.op≤6)∨i.op=17:=by omega
       have Nh:=fun va vs vf vd vl vo o cc=>yM hE.hA b t va vs vf vd vl vo o cc i mg hE.hi hE.rX ki
       obtain⟨l1,l2,l3,l4,l5,l6,l7,l8⟩:=uk fF t i
       rw [da] at l1
       rw [de] at l2
       rw [et] at l3
       obtain⟨n8,n9,UK,UJ,UH,UG⟩:=I7
       have KV:¬i.op=12:=fun e=>hp (.inl e)
       have UI:¬i.op=13:=fun e=>hp (.inr e)
       unfold iC at Nh
       unfold iC
       intro A F hw cY
       refine ab Tryz.func60 rfl (by kernel_rfl) fun _=>?_
       dsimp only [af,ag] at cY
       obtain⟨⟨cr,dQ,iN,ef,vs,vo⟩,hS⟩:=fx.open cY .z
       clear cY
       dsimp only [gC,af,ag] at hS
       rw [da,de,et] at hS
       dsimp only [dv,fb,du,fa,ff,jF] at hS
       have hq:=jC hS hw
       repeat' (first
       | (refine jx fun R hR=>?_;simp [aw,az,hq,h7,n8,n9,UK,UJ,KV,UI,UH,UG,tC,AW.aa,ah];try simp (disch:=omega) only [if_pos,if_neg,aw,az])
       | (refine hR _ _ ?_;clear hR R)|(refine hK _ _ ?_;clear hK K)|refine nx ?_
       | refine wn fun K hK=>?_
       | simp only [wS,nT,nS]
       | refine wl Tryz.mx nT (by decide +kernel) fun K hK=>?_
       | refine wl Tryz.mx nS (by decide +kernel) fun K hK=>?_
       | (apply aY.cA (Nh _ _ _ _ _ _ _ _);(·exact wA);(·exact sA);(·first|exact pA|exact kA);rintro _ _ _ hS hw _;have hS:=lA hS;have hq:=jC hS hw)
       | refine wb ?_|refine wr ?_|refine wk ?_|refine we ?_|refine ws ?_|refine wq ?_
       | (refine wc rfl (fun hc=>?_) (fun hc=>?_)<;>(try simp at hc)<;>(try omega))
       | (refine ib (fun hc=>?_) (fun hc=>?_)<;>(try omega)<;>(try simp (disch:=omega) only [if_pos,if_neg])))
       refine⟨_,by first|rfl|(simp;rfl)|(simp [hq,AW.aa,ah];rfl),?_⟩
       apply sB
       (·first|rfl|(simp [dD,gA.zero,ba.v,ba.zero];done)|(simp [dD,gA.zero,ba.v,ba.zero];rfl))
       apply fx.bS
       · apply iR.nil
         (·exact sA)
       · dsimp only [gC]
         simp only [l1,l2,l3,l4,l5,l6,l7,l8]
         dsimp only [dv,fb,du,fa,ff,jF]
         (·repeat' (first|apply aD.z|apply aD.s|apply ap.z|apply ap.pt|apply ap.s))
       (·repeat' (first|apply aD.z|apply aD.s|apply ap.z|apply ap.pt|apply ap.s))
       all_goals(first|exact 0|exact undef)
structure XJ (fF:Int→Int→Int→Int) (t:be) (s:aT) (M:Mm) (i:cz):Prop where
 hA:DB fF
 hB:JW t
 hC:fA s
 hi:dL i=0
 rX:i.op=3→zE i.cQ
 ti:i.op≠7∧i.op≠12∧i.op≠13∧i.op≠16∧i.op≠17
 hr:i.op=10∨i.op=11∨i.op=14∨i.op=15∨i.op=8∨i.op=9→DC ({ t with iE:=some (t.D7 i s) }:be) (t.D7 i s) M
theorem LU {fF:Int→Int→Int→Int} (hF:FOK) (q:ls) (b pb:Nat) (t:be) (s:aT) (M:Mm) (i:cz) (da:t.iE=some s) (de:t.dA=none) (et:t.dt=none) (hE:XJ fF t s M i) (xm:CR q t.ay) :
 ct Tryz.prog 60 [pv b,pv pb,iC i] [.h (fx q b t),dx pb M] (fun ev v=>v=.tuple #[dD (t.kR fF M i).1,ev]) (fun ev=>[.h (fx q b (t.kR fF M i).2.2.1),dx pb (t.kR fF M i).2.2.2,.h (iR ev (t.kR fF M i).2.1)]):=by
 have hB:=hE.hB
 have ki:0≤t.pc∧t.pc<2^40:=hB.pc
 have ti:=hE.ti
 obtain⟨_,_,_,PE,_⟩:=kw hE.hi
 unfold be.kR
 rw [if_neg ti.1,da]
 dsimp only
 by_cases hp:i.op=10∨i.op=11∨i.op=14∨i.op=15∨i.op=8∨i.op=9
 · rw [if_pos hp]
   have Jh:=rr hF (hE.hr hp) q b pb rfl de et xm
   have TF:=fun vs vf vd vc vl vo n=>Cv b n t.d vs vf vd vc vl vo i s hE.hC hp hE.hi
   have er:vj t.d i s=t.D7 i s:=rfl
   rw [er] at TF
   generalize t.D7 i s=s2 at Jh TF ⊢
   rcases hp with h|h|h|h|h|h
   all_goals
    obtain⟨op,i1,i2,i3,cQ⟩:=i
    dsimp only at h
    subst h
    unfold iC at TF
    unfold iC
    intro A F hw cY
    refine ab Tryz.func60 rfl (by kernel_rfl) fun _=>?_
    dsimp only [af,ag] at cY
    obtain⟨⟨cr,dQ,iN,ef,vs,vo⟩,hS⟩:=fx.open cY .z
    clear cY
    dsimp only [gC,af,ag] at hS
    rw [da,de,et] at hS
    dsimp only [dv,fb,du,fa,ff,jF] at hS
    have hq:=jC hS hw
    all_goals(revert hq hS hw;refine Wu (J4 (Tg.mk (n:=37) (fun x1 x2 x3 x4 x5 x6=>TF x1 x2 x3 x4 x5 x6 cr)) (Tg.mk (n:=35) @Jh) (od nT) (od nS)) (J3 @dD.eq_1 @AW.aa @ah.eq_1) (J1 ?_)<;>unhygienic intros)
    refine⟨_,by first|rfl|(simp;rfl)|(simp [hq,AW.aa,ah];rfl),?_⟩
    apply sB
    (·first|rfl|(simp [dD,gA.zero,ba.v,ba.zero];done)|(simp [dD,gA.zero,ba.v,ba.zero];rfl))
    apply ak.bS
    (·exact sA)
    (·repeat' (first|apply aD.z|apply aD.s|apply ap.z|apply ap.pt|apply ap.s))
 · rw [if_neg hp]
   have mg:(0≤i.op∧i.op≤6)∨i.op=17:=by omega
   have Nh:=fun va vs vf vd vl vo o cc=>yM hE.hA b t va vs vf vd vl vo o cc i mg hE.hi hE.rX ki
   obtain⟨l1,l2,l3,l4,l5,l6,l7,l8⟩:=uk fF t i
   have l9:(t.gZ fF i).d.gv=t.d.gv:=IT fF t i
   rw [da] at l1
   rw [de] at l2
   rw [et] at l3
   obtain⟨n7,KV,UI,Yq,n17⟩:=ti
   have n8:¬i.op=8:=by omega
   have n9:¬i.op=9:=by omega
   have UK:¬i.op=10:=by omega
   have UJ:¬i.op=11:=by omega
   have UH:¬i.op=14:=by omega
   have UG:¬i.op=15:=by omega
   unfold iC at Nh
   unfold iC
   intro A F hw cY
   refine ab Tryz.func60 rfl (by kernel_rfl) fun _=>?_
   dsimp only [af,ag] at cY
   obtain⟨⟨cr,dQ,iN,ef,vs,vo⟩,hS⟩:=fx.open cY .z
   clear cY
   dsimp only [gC,af,ag] at hS
   rw [da,de,et] at hS
   dsimp only [dv,fb,du,fa,ff,jF] at hS
   have hq:=jC hS hw
   repeat' (first
   | (refine jx fun R hR=>?_;simp [aw,az,hq,n7,n8,n9,UK,UJ,KV,UI,UH,UG,Yq,l9,AW.aa,ah];try simp (disch:=omega) only [if_pos,if_neg,aw,az])
   | (refine hR _ _ ?_;clear hR R)|(refine hK _ _ ?_;clear hK K)|refine nx ?_
   | refine wn fun K hK=>?_
   | simp only [wS,nT,nS]
   | refine wl Tryz.mx nT (by decide +kernel) fun K hK=>?_
   | refine wl Tryz.mx nS (by decide +kernel) fun K hK=>?_
   | (apply aY.cA (Nh _ _ _ _ _ _ _ _);(·exact wA);(·exact sA);(·first|exact pA|exact kA);rintro _ _ _ hS hw _;have hS:=lA hS;have hq:=jC hS hw)
   | refine wb ?_|refine wr ?_|refine wk ?_|refine we ?_|refine ws ?_|refine wq ?_
   | (refine wc rfl (fun hc=>?_) (fun hc=>?_)<;>(try simp at hc)<;>(try omega))
   | (refine ib (fun hc=>?_) (fun hc=>?_)<;>(try omega)<;>(try simp (disch:=omega) only [if_pos,if_neg])))
   refine⟨_,by first|rfl|(simp;rfl)|(simp [hq,AW.aa,ah];rfl),?_⟩
   apply sB
   (·first|rfl|(simp [dD,gA.zero,ba.v,ba.zero];done)|(simp [dD,gA.zero,ba.v,ba.zero];rfl))
   apply fx.bS
   · apply iR.nil
     (·exact sA)
   · dsimp only [gC]
     simp only [l1,l2,l3,l4,l5,l6,l7,l8]
     dsimp only [dv,fb,du,fa,ff,jF]
     (·repeat' (first|apply aD.z|apply aD.s|apply ap.z|apply ap.pt|apply ap.s))
   (·repeat' (first|apply aD.z|apply aD.s|apply ap.z|apply ap.pt|apply ap.s))
   all_goals(first|exact 0|exact undef)
end
end Go.Stx
