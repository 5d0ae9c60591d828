/-
 The program's thread: plain accesses.
-/
import Derived.Test.YtnnbecihffpedaaGreatDoorG15
set_option linter.unusedVariables false
set_option linter.unusedSimpArgs false
set_option linter.unusedSectionVars false
set_option maxRecDepth 20000
set_option maxHeartbeats 4000000
namespace Go.Stx
open Go Go.Proofs
attribute [local irreducible] TW bC cB aW az aG bZ cz
section
abbrev sj:List (Nat×Nat):=[(0,0),(1,0),(2,0),(3,0),(4,0),(5,0),(6,0),(7,3)]
abbrev sh:List (Nat×Nat):=[(0,0),(1,0),(2,0),(3,0),(4,0),(5,0),(6,0),(7,0),(8,0),(9,0),(10,0),(11,3),(12,0),(13,0),(14,0),(15,0),(16,3)]
open T2
variable [Gl]
structure GL (t:aV) (s:aF) (M:Mm):Prop where
 hB:N8 t
 xF:GI s M
 hC:fN (bE s M).2.2.1
 hi:bT t.eX=0
 cF:t.pc<t.av.length
 cL:t.aT=true->t.eX.op=12\/t.eX.op=13
 VP:t.aT=false->cu t.av t.bB.toNat=7/\0<=t.bB
 s7:∀x∈(bE s M).2.2.1.ar,x<2^62
 QJ:(bE s M).2.2.1.ar.length<=8
theorem ud (hF:FOK) {t:aV} {s:aF} {M:Mm} (h:GL t s M) (q:my) (b pb:Nat) (du:t.gP=some s) (dv:t.dx=none) (eE:t.dB=none) (Am:CR q t.av) :
 d8 Tryz.prog 35 [pv b,pv pb] [.h (fI q b t),dH pb M] (λev v=>v=.tuple #[dL (t.vz M s).1,ev]) (λev=>[.h (fI q b (t.vz M s).2.2.1),dH pb (t.vz M s).2.2.2,.h (kh ev (t.vz M s).2.1)]):=
 Gv hF q b pb t s M du dv eE h.hB h.xF h.hC h.hi h.cF h.cL h.VP h.s7 h.QJ Am
theorem Jw (hF:FOK) (q:my) (b pb:Nat) (t:aV) (M:Mm) (i:bg) (du:t.gP=none) (dv:t.dx=none) (eE:t.dB=none) (hB:N8 t) (kJ:i.op=12\/i.op=13) (hi:bT i=0) (Am:CR q t.av)
 (hadv:t.cf.aT=true->GL ({ t with aT:=true,eU:=0 }:aV).ot (fy (ey t.cf t.id)).2 M) :
 d8 Tryz.prog 80 [pv b,pv pb,je i] [.h (fI q b t),dH pb M] (λev v=>v=.tuple #[dL (t.plain M i).1,ev]) (λev=>[.h (fI q b (t.plain M i).2.2.1),dH pb (t.plain M i).2.2.2,.h (kh ev (t.plain M i).2.1)]):=by
 have jV:0<=t.pc/\t.pc<2^40:=hB.pc;have uz:t.gx.length<2^30:=by have:=hB.gx;omega
 have tG:=hB.cf;have QD:=tG.aR;have hct:=hB.tg;have i5:IntKind.u64.wrap t.d.cf.aR=t.d.cf.aR:=(ax (by omega) (by omega):IntKind.u64.wrap t.cf.aR=t.cf.aR);have htg:t.rU i=nG t.d i:=by
  unfold aV.rU nG;rfl
 have htn:=Oo t.d i;unfold aV.plain;dsimp only;rw [htg];by_cases h1:t.d.cf.aR<=nG t.d i
 . rw [ay (show t.cf.aR<=nG t.d i from h1)];rcases kJ with h2|h2
   . obtain⟨op,i1,i2,i3,bL⟩:=i;dsimp only at h2;subst h2;have ha:=(lB hi).1 rfl;dsimp only at ha;have wO:=λx w=>vK (d:=t.d) (w:=w) (x:=x) ha;rw [ay rfl];unfold je;intro A F hw di;refine aH Tryz.func80 λ_=>?_;dsimp only [aa,af] at di;obtain⟨⟨b8,dS,jr,eC,vs,vo⟩,hS⟩:=fI.open di .z;clear di;dsimp only [ic,aa,af] at hS;rw [du,dv,eE] at hS;dsimp only [dF,fl,dE,fk,fm,kg] at hS;have hq:=ke hS hw;have H2:b<A.next:=hw.lt (hS.g 0 rfl);have QC:(b=A.next+1+1)=False:=eq_false (by omega);have mq:(b=A.next+1+1+1)=False:=eq_false (by omega);have uI:(A.next+1+1=b)=False:=eq_false (by omega);have wh:(A.next+1+1+1=b)=False:=eq_false (by omega);revert hq hS hw;refine Wu (J5 (Tg.mk (n:=10) (λ{A L K k} x1=>Ba (A:=A) (L:=L) (K:=K) (k:=k) b t.d x1 ⟨12,i1,i2,i3,bL⟩ (.inl rfl) hi)) (Tg.mk (n:=36) (λx1=>iB b { t.d with df:=t.d.df.set i1 0 } x1 t.gx 7 7 uz)) (Tg.mk (n:=37) (λx1 x2 x3 x4 x5 x6 x7 x8 x9=>jM b { t.d with df:=t.d.df.set i1 0 } x1 x2 x3 x4 x5 x6 x7 x8 x9 jV)) (od sj) (od sh)) (J6 i5 h1 wO ha.1 ha.2 bF) ?_<;>(unhygienic intros)
     refine⟨_,by first|rfl|(simp;rfl)|(simp [hq,AW.ab,aD];rfl),?_⟩;apply u9
     (·first|rfl|(simp [dL,gu.zero,aU.v,aU.zero];done)|(simp [dL,gu.zero,aU.v,aU.zero];rfl))
     apply fI.bI;apply kh.nil
     (·exact sA)
     . dsimp only [ic,aV.m9,aV.to,aV.nk,aV.fp,aV.eV,aV.jo,aV.d]
       (try simp only [du,dv,eE])
       dsimp only [dF,fl,dE,fk,fm,kg]
       (·first|exact rN|exact rP)
     (·first|exact rN|exact rP)
     all_goals(first|exact 0|exact undef)
   obtain⟨op,i1,i2,i3,bL⟩:=i;dsimp only at h2;subst h2;rw [ap (show ¬(13:Int)=12 by decide)];unfold je;intro A F hw di;refine aH Tryz.func80 λ_=>?_;dsimp only [aa,af] at di;obtain⟨⟨b8,dS,jr,eC,vs,vo⟩,hS⟩:=fI.open di .z;clear di;dsimp only [ic,aa,af] at hS;rw [du,dv,eE] at hS;dsimp only [dF,fl,dE,fk,fm,kg] at hS;have hq:=ke hS hw;have H2:b<A.next:=hw.lt (hS.g 0 rfl);have QC:(b=A.next+1+1)=False:=eq_false (by omega);have mq:(b=A.next+1+1+1)=False:=eq_false (by omega);have uI:(A.next+1+1=b)=False:=eq_false (by omega);have wh:(A.next+1+1+1=b)=False:=eq_false (by omega);revert hq hS hw;(repeat first|clear hq|clear hS|clear hw|revert hc|revert R|revert K);refine Wu (J5 (Tg.mk (n:=10) (λ{A L K k} x1=>Ba (A:=A) (L:=L) (K:=K) (k:=k) b t.d x1 ⟨13,i1,i2,i3,bL⟩ (.inr rfl) hi)) (Tg.mk (n:=36) (λx1=>iB b t.d x1 t.gx 7 7 uz)) (Tg.mk (n:=37) (λx1 x2 x3 x4 x5 x6 x7 x8 x9=>jM b t.d x1 x2 x3 x4 x5 x6 x7 x8 x9 jV)) (od sj) (od sh)) (J3 i5 h1 bF) ?_<;>(unhygienic intros)
   refine⟨_,by first|rfl|(simp;rfl)|(simp [hq,AW.ab,aD];rfl),?_⟩;apply u9
   (·first|rfl|(simp [dL,gu.zero,aU.v,aU.zero];done)|(simp [dL,gu.zero,aU.v,aU.zero];rfl))
   apply fI.bI;apply kh.nil
   (·exact sA)
   . dsimp only [ic,aV.m9,aV.to,aV.nk,aV.fp,aV.eV,aV.jo,aV.d]
     (try simp only [du,dv,eE])
     dsimp only [dF,fl,dE,fk,fm,kg]
     (·first|exact rN|exact rP)
   (·first|exact rN|exact rP)
   all_goals(first|exact 0|exact undef)
 rw [ap (show ¬t.cf.aR<=nG t.d i from h1)];by_cases h3:t.d.cf.aT=true
 . rw [ay (show t.cf.aT=true from h3)];have Nd:=ud hF (hadv h3) q b pb rfl dv eE Am;have UR:cx t.d.cf:=tG;rcases kJ with h2|h2
   all_goals
    obtain⟨op,i1,i2,i3,bL⟩:=i;dsimp only at h2;subst h2;unfold je;intro A F hw di;refine aH Tryz.func80 λ_=>?_;dsimp only [aa,af] at di;obtain⟨⟨b8,dS,jr,eC,vs,vo⟩,hS⟩:=fI.open di .z;clear di;dsimp only [ic,aa,af] at hS;rw [du,dv,eE] at hS;dsimp only [dF,fl,dE,fk,fm,kg] at hS;have hq:=ke hS hw;have H2:b<A.next:=hw.lt (hS.g 0 rfl);have QC:(b=A.next+1+1)=False:=eq_false (by omega);have mq:(b=A.next+1+1+1)=False:=eq_false (by omega);have uI:(A.next+1+1=b)=False:=eq_false (by omega);have wh:(A.next+1+1+1=b)=False:=eq_false (by omega)
    all_goals(revert hq hS hw;(repeat first|clear hq|clear hS|clear hw|revert hc|revert R|revert K);refine Wu (J5 (Tg.mk (n:=10) (λ{A L K k} x1=>Ba (A:=A) (L:=L) (K:=K) (k:=k) b t.d x1 ⟨_,i1,i2,i3,bL⟩ (by first|exact .inl rfl|exact .inr rfl) hi)) (Tg.mk (n:=36) (λx1=>zj b { t.d with aT:=true,eU:=0 } x1 UR hct)) (Tg.mk (n:=35) @Nd) (od sj) (od sh)) (J5 i5 h1 h3 @dL.eq_1 bF) ?_<;>unhygienic intros)
    refine⟨_,by first|rfl|(simp;rfl)|(simp [hq,AW.ab,aD];rfl),?_⟩;apply u9
    (·first|rfl|(simp [dL,gu.zero,aU.v,aU.zero];done)|(simp [dL,gu.zero,aU.v,aU.zero];rfl))
    apply ah.bI
    (·exact sA)
    (·first|exact rN|exact rP)
 rw [ap (show ¬t.cf.aT=true from h3)];have hwd2:t.d.cf.aR<=64:=QD.2;have kS:IntKind.i64.wrap (nG t.d i)=nG t.d i:=an (by omega) (by omega);rcases kJ with h2|h2
 . obtain⟨op,i1,i2,i3,bL⟩:=i;dsimp only at h2;subst h2;rw [ay rfl];have e:t.CW ⟨12,i1,i2,i3,bL⟩ (gy M 1 (nG t.d ⟨12,i1,i2,i3,bL⟩)).put=((t.fp i1 (gy M 1 (nG t.d ⟨12,i1,i2,i3,bL⟩)).put).nk 4 (gy M 1 (nG t.d ⟨12,i1,i2,i3,bL⟩)).put).m9:=ay rfl;rw [e];have SQ:=λw {A L K} {k:Value->AW->Prop}=>Ba (A:=A) (L:=L) (K:=K) (k:=k) b t.d w ⟨12,i1,i2,i3,bL⟩ (.inl rfl) hi;generalize yT:nG t.d ⟨12,i1,i2,i3,bL⟩=Gx at *;unfold je;unfold je at SQ;intro A F hw di;refine aH Tryz.func80 λ_=>?_;dsimp only [aa,af] at di;obtain⟨⟨b8,dS,jr,eC,vs,vo⟩,hS⟩:=fI.open di .z;clear di;dsimp only [ic,aa,af] at hS;rw [du,dv,eE] at hS;dsimp only [dF,fl,dE,fk,fm,kg] at hS;have hq:=ke hS hw;have H2:b<A.next:=hw.lt (hS.g 0 rfl);have QC:(b=A.next+1+1)=False:=eq_false (by omega);have mq:(b=A.next+1+1+1)=False:=eq_false (by omega);have uI:(A.next+1+1=b)=False:=eq_false (by omega);have wh:(A.next+1+1+1=b)=False:=eq_false (by omega)
   repeat' (first|(refine jK λR hR=>?_;simp [an,ax,hq,QC,mq,uI,wh,i5,kS,h1,h3,AW.ab,aD,bd,aU.v];try simp (disch:=omega) only [ay,ap,an,ax])|(refine hR _ _ ?_;clear hR R)|(refine hK _ _ ?_;clear hK K)|refine nx ?_|(refine Sw λR hR=>?_;simp [an,ax,hq,QC,mq,uI,wh,i5,kS,h1,h3,AW.ab,aD,bd,aU.v];try simp (disch:=omega) only [ay,ap,an,ax])|(refine QZ (λR hR=>?_) (λR hR=>?_)<;>(simp [an,ax,hq,QC,mq,uI,wh,i5,kS,h1,h3,AW.ab,aD,bd,aU.v];try simp (disch:=omega) only [ay,ap,an,ax]))|refine Sv ?_|refine wn λK hK=>?_|simp only [wS,sj,sh]|simp only [bC,vI,mN,Option.map_none,Option.map_some,List.getElem?_toArray,List.getElem?_cons_zero,List.getElem?_cons_succ,List.getD_cons_zero,List.getD_cons_succ,Option.bind_some]|refine wl Tryz.mx sj (by decide +kernel) λK hK=>?_|refine wl Tryz.mx sh (by decide +kernel) λK hK=>?_|(refine ⟨λA' g=>by simp [AW.ab,g],?_⟩)|(refine ⟨by simp [hq],?_⟩)|(refine wt (λA'=>A'.bt (A.next+1+1+1)=some (.cells [.int .i64 0,.int .i64 t.d.id,.int .i64 1,.int .i64 Gx,.slice none 0 0,.slice none 0 0] true 1)) Tryz.mx [0,1,2,3,0] (.aY 0 (.aY 1 (.uS 2 (.aY 3 (.aY 4 .nil)) 3 (.aY 2 (.aY 4 .nil))))) (by decide +kernel) λK hK=>?_)|(apply SQ _;(·exact wA);(·exact sA);(·first|exact pA|exact kA);)|(apply bf.eH (Pg pb M 1 Gx);(·exact wA);(·exact sA);(·first|exact pA|exact kA);rintro _ _ rfl hS hw _;have hS:=lA hS;have hq:=ke hS hw)|(apply d8.eH (zW b t.d _ _ _ _ _ _ _ _ _ i1 i2 i3 bL _ t.gx hi jV uz);(·exact wA);(·exact sA);(·first|exact pA|exact kA);(rintro xw _ _ _ hS hw _;have hS:=lA hS;(try (have hq:=ke hS hw))))|(show cB _ _ _ _ _ _;refine nx ?_)|(refine wc rfl (λhc=>?_) (λhc=>?_)<;>(try simp at hc)<;>(try omega))|(refine ib (λhc=>?_) (λhc=>?_)<;>(try omega)<;>(try simp (disch:=omega) only [ay,ap])))
   all_goals(
    refine⟨_,by first|rfl|(simp;rfl)|(simp [hq,AW.ab,aD];rfl),?_⟩;apply u9
    (·first|rfl|(simp [dL,gu.zero,aU.v,aU.zero];done)|(simp [dL,gu.zero,aU.v,aU.zero];rfl))
    apply fI.bI
    . apply kh.aY (e:=⟨0,t.id,1,Gx,[],[]⟩) (r:=.slice none 0 0) (w:=.slice none 0 0);apply ah.pS .i64;apply ah.pS .i64
      (·exact sA)
      (·repeat' (first|apply aB.z|apply aB.s))
      (·repeat' (first|apply aB.z|apply aB.s))
      (·repeat' (first|apply aB.z|apply aB.s))
    . dsimp only [ic,aV.m9,aV.to,aV.nk,aV.fp,aV.eV,aV.jo,aV.d]
      (try simp only [du,dv,eE])
      dsimp only [dF,fl,dE,fk,fm,kg]
      (·first|exact rN|exact rP)
    (·first|exact rN|exact rP)
    all_goals(first|exact 0|exact undef))
 obtain⟨op,i1,i2,i3,bL⟩:=i;dsimp only at h2;subst h2;rw [ap (show ¬(13:Int)=12 by decide)];have hb:=(lB hi).2.1 rfl;dsimp only at hb;have ym:=λw=>oh (d:=t.d) (w:=w) hb;have e:t.CW ⟨13,i1,i2,i3,bL⟩ (Bm M 1 (nG t.d ⟨13,i1,i2,i3,bL⟩) (t.d.df.bt i2)).put=(t.nk 5 (Bm M 1 (nG t.d ⟨13,i1,i2,i3,bL⟩) (t.d.df.bt i2)).put).m9:=ap (show ¬(13:Int)=12 by decide);have e0:t.df.bt i2=t.d.df.bt i2:=rfl;dsimp only;rw [e0,e];have SQ:=λw {A L K} {k:Value->AW->Prop}=>Ba (A:=A) (L:=L) (K:=K) (k:=k) b t.d w ⟨13,i1,i2,i3,bL⟩ (.inr rfl) hi;generalize yT:nG t.d ⟨13,i1,i2,i3,bL⟩=Gx at *;unfold je;unfold je at SQ;intro A F hw di;refine aH Tryz.func80 λ_=>?_;dsimp only [aa,af] at di;obtain⟨⟨b8,dS,jr,eC,vs,vo⟩,hS⟩:=fI.open di .z;clear di;dsimp only [ic,aa,af] at hS;rw [du,dv,eE] at hS;dsimp only [dF,fl,dE,fk,fm,kg] at hS;have hq:=ke hS hw;have H2:b<A.next:=hw.lt (hS.g 0 rfl);have QC:(b=A.next+1+1)=False:=eq_false (by omega)
 have mq:(b=A.next+1+1+1)=False:=eq_false (by omega);have uI:(A.next+1+1=b)=False:=eq_false (by omega);have wh:(A.next+1+1+1=b)=False:=eq_false (by omega)
 repeat' (first|(refine jK λR hR=>?_;simp [an,ax,hq,QC,mq,uI,wh,i5,kS,h1,h3,ym,hb.1,hb.2,AW.ab,aD,bd,aU.v];try simp (disch:=omega) only [ay,ap,an,ax])|(refine hR _ _ ?_;clear hR R)|(refine hK _ _ ?_;clear hK K)|refine nx ?_|(refine Sw λR hR=>?_;simp [an,ax,hq,QC,mq,uI,wh,i5,kS,h1,h3,ym,hb.1,hb.2,AW.ab,aD,bd,aU.v];try simp (disch:=omega) only [ay,ap,an,ax])|(refine QZ (λR hR=>?_) (λR hR=>?_)<;>(simp [an,ax,hq,QC,mq,uI,wh,i5,kS,h1,h3,ym,hb.1,hb.2,AW.ab,aD,bd,aU.v];try simp (disch:=omega) only [ay,ap,an,ax]))|refine Sv ?_|refine wn λK hK=>?_|simp only [wS,sj,sh]|simp only [bC,vI,mN,Option.map_none,Option.map_some,List.getElem?_toArray,List.getElem?_cons_zero,List.getElem?_cons_succ,List.getD_cons_zero,List.getD_cons_succ,Option.bind_some]|refine wl Tryz.mx sj (by decide +kernel) λK hK=>?_|refine wl Tryz.mx sh (by decide +kernel) λK hK=>?_|(refine ⟨λA' g=>by simp [AW.ab,g],?_⟩)|(refine ⟨by simp [hq],?_⟩)|(refine wt (λA'=>A'.bt (A.next+1+1+1)=some (.cells [.int .i64 0,.int .i64 t.d.id,.int .i64 2,.int .i64 Gx,.slice none 0 0,.slice none 0 0] true 1)) Tryz.mx [0,1,2,3,0] (.aY 0 (.aY 1 (.uS 2 (.aY 3 (.aY 4 .nil)) 3 (.aY 2 (.aY 4 .nil))))) (by decide +kernel) λK hK=>?_)|(apply SQ _;(·exact wA);(·exact sA);(·first|exact pA|exact kA);)|(apply bf.eH (VF pb M 1 Gx _);(·exact wA);(·exact sA);(·first|exact pA|exact kA);rintro _ _ rfl hS hw _;have hS:=lA hS;have hq:=ke hS hw)|(apply d8.eH (zV b t.d _ _ _ _ _ _ _ _ _ i1 i2 i3 bL _ t.gx hi jV uz);(·exact wA);(·exact sA);(·first|exact pA|exact kA);(rintro xw _ _ _ hS hw _;have hS:=lA hS;(try (have hq:=ke hS hw))))|(show cB _ _ _ _ _ _;refine nx ?_)|(refine wc rfl (λhc=>?_) (λhc=>?_)<;>(try simp at hc)<;>(try omega))|(refine ib (λhc=>?_) (λhc=>?_)<;>(try omega)<;>(try simp (disch:=omega) only [ay,ap])))
 all_goals(
  refine⟨_,by first|rfl|(simp;rfl)|(simp [hq,AW.ab,aD];rfl),?_⟩;apply u9
  (·first|rfl|(simp [dL,gu.zero,aU.v,aU.zero];done)|(simp [dL,gu.zero,aU.v,aU.zero];rfl))
  apply fI.bI
  . apply kh.aY (e:=⟨0,t.id,2,Gx,[],[]⟩) (r:=.slice none 0 0) (w:=.slice none 0 0);apply ah.pS .i64;apply ah.pS .i64
    (·exact sA)
    (·repeat' (first|apply aB.z|apply aB.s))
    (·repeat' (first|apply aB.z|apply aB.s))
    (·repeat' (first|apply aB.z|apply aB.s))
  . dsimp only [ic,aV.m9,aV.to,aV.nk,aV.fp,aV.eV,aV.jo,aV.d]
    (try simp only [du,dv,eE])
    dsimp only [dF,fl,dE,fk,fm,kg]
    (·first|exact rN|exact rP)
  (·first|exact rN|exact rP)
  all_goals(first|exact 0|exact undef))
end
section
abbrev pw:List (Nat×Nat):=[(0,0),(1,0),(2,0),(3,0),(4,0),(5,0),(6,0),(7,0),(8,0),(9,0),(10,0),(11,0),(12,0),(13,0),(14,0),(15,3),(16,0),(17,0),(18,0),(19,3)]
abbrev pu:List (Nat×Nat):=[(0,0),(1,0),(2,0),(3,0),(4,0),(5,0),(6,0),(7,0),(8,0),(9,2),(10,0),(11,0),(12,0),(13,3)]
open T2
variable [Gl]
variable [AF]
structure ExN (eW:Int->Int->Int->Int) (t:aV) (M:Mm) (i:bg):Prop where
 hA:D7 eW
 hB:N8 t
 hi:bT i=0
 sS:i.op=3->CP i.bL
 M1:i.op≠8/\i.op≠9/\i.op≠10/\i.op≠11/\i.op≠14/\i.op≠15
 hb:i.op=7->GL ({ t with bB:=t.pc,jg:=t.df,gF:=t.gF+1 }:aV).ot (fy (ey t.cf t.id)).2 M
 hp:t.cf.aT=true->i.op=12\/i.op=13->GL ({ t with aT:=true,eU:=0 }:aV).ot (fy (ey t.cf t.id)).2 M
 Pz:∀x∈t.fG,x.1<2^62
theorem xB (eW:Int->Int->Int->Int) (t:aV) (i:bg):(t.gE eW i).gP=t.gP/\(t.gE eW i).dx=t.dx/\(t.gE eW i).dB=t.dB/\(t.gE eW i).av=t.av/\(t.gE eW i).d7=t.d7/\(t.gE eW i).cf=t.cf/\(t.gE eW i).fG=t.fG/\(t.gE eW i).gx=t.gx:=by
 unfold aV.gE;split;exact⟨rfl,rfl,rfl,rfl,rfl,rfl,rfl,rfl⟩;split;exact⟨rfl,rfl,rfl,rfl,rfl,rfl,rfl,rfl⟩;split;exact⟨rfl,rfl,rfl,rfl,rfl,rfl,rfl,rfl⟩;split;exact⟨rfl,rfl,rfl,rfl,rfl,rfl,rfl,rfl⟩;exact⟨rfl,rfl,rfl,rfl,rfl,rfl,rfl,rfl⟩
theorem MM (eW:Int->Int->Int->Int) (t:aV) (i:bg):(t.gE eW i).d.hU=t.d.hU:=by
 unfold aV.gE;split;rfl;split;rfl;split;rfl;split<;>rfl
theorem P1 {eW:Int->Int->Int->Int} (hF:FOK) (q:my) (b pb:Nat) (t:aV) (M:Mm) (i:bg) (du:t.gP=none) (dv:t.dx=none) (eE:t.dB=none) (hE:ExN eW t M i) (Am:CR q t.av) :
 d8 Tryz.prog 37 [pv b,pv pb,je i] [.h (fI q b t),dH pb M] (λev v=>v=.tuple #[dL (t.lj eW M i).1,ev]) (λev=>[.h (fI q b (t.lj eW M i).2.2.1),dH pb (t.lj eW M i).2.2.2,.h (kh ev (t.lj eW M i).2.1)]):=by
 have hB:=hE.hB;have jV:0<=t.pc/\t.pc<2^40:=hB.pc;have tG:cx t.d.cf:=hB.cf;have hct:=hB.tg;have htr:=hB.wN;have i5:IntKind.i64.wrap (t.d.gF+1)=t.d.gF+1:=(an (by omega) (by omega):IntKind.i64.wrap (t.gF+1)=t.gF+1);have M1:=hE.M1;obtain⟨_,_,_,Uv,_⟩:=lB hE.hi;unfold aV.lj;rw [du];dsimp only;by_cases h7:i.op=7
 . rw [ay h7];have Nd:=ud hF (hE.hb h7) q b pb rfl dv eE Am;obtain⟨op,i1,i2,i3,bL⟩:=i;dsimp only at h7;subst h7;unfold je;intro A F hw di;refine aH Tryz.func37 λ_=>?_;dsimp only [aa,af] at di;obtain⟨⟨b8,dS,jr,eC,vs,vo⟩,hS⟩:=fI.open di .z;clear di;dsimp only [ic,aa,af] at hS;rw [du,dv,eE] at hS;dsimp only [dF,fl,dE,fk,fm,kg] at hS;have hq:=ke hS hw;revert hq hS hw;refine Wu (J4 (Tg.mk (n:=36) (λx1=>zj b { t.d with bB:=t.pc,jg:=t.df,gF:=t.gF+1 } x1 tG hct)) (Tg.mk (n:=35) @Nd) (od pw) (od pu)) (J3 i5 @dL.eq_1 bF) ?_<;>(unhygienic intros);refine⟨_,by first|rfl|(simp;rfl)|(simp [hq,AW.ab,aD];rfl),?_⟩;apply u9
   (·first|rfl|(simp [dL,gu.zero,aU.v,aU.zero];done)|(simp [dL,gu.zero,aU.v,aU.zero];rfl))
   apply ah.bI
   (·exact sA)
   (·first|exact rN|exact rP)
 rw [ap h7];by_cases hp:i.op=12\/i.op=13
 . rw [ay hp];have s4:=Jw hF q b pb t M i du dv eE hB hp hE.hi Am (λh=>hE.hp h hp);rcases hp with h2|h2
   all_goals
    obtain⟨op,i1,i2,i3,bL⟩:=i;dsimp only at h2;subst h2;unfold je at s4;unfold je;intro A F hw di;refine aH Tryz.func37 λ_=>?_;dsimp only [aa,af] at di;obtain⟨⟨b8,dS,jr,eC,vs,vo⟩,hS⟩:=fI.open di .z;clear di;dsimp only [ic,aa,af] at hS;rw [du,dv,eE] at hS;dsimp only [dF,fl,dE,fk,fm,kg] at hS;have hq:=ke hS hw
    all_goals(revert hq hS hw;(repeat first|clear hq|clear hS|clear hw|revert hc|revert R|revert K);refine Wu (J3 (Tg.mk (n:=35) @s4) (od pw) (od pu)) (J2 @dL.eq_1 bF) ?_<;>unhygienic intros)
    refine⟨_,by first|rfl|(simp;rfl)|(simp [hq,AW.ab,aD];rfl),?_⟩;apply u9
    (·first|rfl|(simp [dL,gu.zero,aU.v,aU.zero];done)|(simp [dL,gu.zero,aU.v,aU.zero];rfl))
    apply ah.bI
    (·exact sA)
    (·first|exact rN|exact rP)
 rw [ap hp];by_cases wR:i.op=16
 . rw [ay wR];dsimp only;have B4:=Eb q b pb ({ t with dx:=some ⟨t.id,t.nt,false,0,0⟩ }:aV) M ⟨t.id,t.nt,false,0,0⟩ du rfl ⟨hB.cf,hB.pc,hB.gx,hB.me,hB.tg,hB.wN,hB.lR,hB.oW⟩ (by dsimp only;omega) hE.Pz (λl e=>by have e2:t.dB=some l:=e;rw [eE] at e2;cases e2);rw [du] at B4;generalize aV.uH ({ t with gP:=none,dx:=some ⟨t.id,t.nt,false,0,0⟩ }:aV) M ⟨t.id,t.nt,false,0,0⟩=r at B4 ⊢;obtain⟨op,i1,i2,i3,bL⟩:=i;dsimp only at wR;subst wR;unfold je;intro A F hw di;refine aH Tryz.func37 λ_=>?_;dsimp only [aa,af] at di;obtain⟨⟨b8,dS,jr,eC,vs,vo⟩,hS⟩:=fI.open di .z;clear di;dsimp only [ic,aa,af] at hS;rw [du,dv,eE] at hS;dsimp only [dF,fl,dE,fk,fm,kg] at hS;have hq:=ke hS hw;have ks:∀k l,(b=A.next+k+l)=False:=λk l=>by simp [hq,Nat.add_assoc]
   revert hq hS hw;(repeat first|clear hq|clear hS|clear hw|revert hc|revert R|revert K);refine Wu (J4 (Tg.mk (n:=34) @B4) (od pw) (od pu) @DB) (J3 ks @dL.eq_1 bF) ?_<;>(unhygienic intros);refine⟨_,by first|rfl|(simp;rfl)|(simp [hq,AW.ab,aD];rfl),?_⟩;apply u9
   (·first|rfl|(simp [dL,gu.zero,aU.v,aU.zero];done)|(simp [dL,gu.zero,aU.v,aU.zero];rfl))
   apply ah.bI;apply kh.nil
   (·exact sA)
   (·first|exact rN|exact rP)
 rw [ap wR];have kJ:(0<=i.op/\i.op<=6)\/i.op=17:=by omega
 have PC:=λva vs vf vd vl vo o cc=>BW hE.hA b t va vs vf vd vl vo o cc i kJ hE.hi hE.sS jV;obtain⟨l1,l2,l3,l4,l5,l6,l7,l8⟩:=xB eW t i;rw [du] at l1;rw [dv] at l2;rw [eE] at l3;obtain⟨n8,n9,n10,n11,n14,n15⟩:=M1;have O3:¬i.op=12:=λe=>hp (.inl e);have n13:¬i.op=13:=λe=>hp (.inr e);unfold je at PC;unfold je;intro A F hw di;refine aH Tryz.func37 λ_=>?_;dsimp only [aa,af] at di;obtain⟨⟨b8,dS,jr,eC,vs,vo⟩,hS⟩:=fI.open di .z;clear di;dsimp only [ic,aa,af] at hS;rw [du,dv,eE] at hS;dsimp only [dF,fl,dE,fk,fm,kg] at hS;have hq:=ke hS hw
 repeat' (first|(refine jK λR hR=>?_;simp [an,ax,hq,h7,n8,n9,n10,n11,O3,n13,n14,n15,wR,AW.ab,aD];try simp (disch:=omega) only [ay,ap,an,ax])|(refine hR _ _ ?_;clear hR R)|(refine hK _ _ ?_;clear hK K)|refine nx ?_|refine wn λK hK=>?_|simp only [wS,pw,pu]|refine wl Tryz.mx pw (by decide +kernel) λK hK=>?_|refine wl Tryz.mx pu (by decide +kernel) λK hK=>?_|(apply bf.eH (PC _ _ _ _ _ _ _ _);(·exact wA);(·exact sA);(·first|exact pA|exact kA);rintro _ _ _ hS hw _;have hS:=lA hS;have hq:=ke hS hw)|(show cB _ _ _ _ _ _;refine nx ?_)|(refine wc rfl (λhc=>?_) (λhc=>?_)<;>(try simp at hc)<;>(try omega))|(refine ib (λhc=>?_) (λhc=>?_)<;>(try omega)<;>(try simp (disch:=omega) only [ay,ap])))
 refine⟨_,by first|rfl|(simp;rfl)|(simp [hq,AW.ab,aD];rfl),?_⟩;apply u9
 (·first|rfl|(simp [dL,gu.zero,aU.v,aU.zero];done)|(simp [dL,gu.zero,aU.v,aU.zero];rfl))
 apply fI.bI;apply kh.nil
 (·exact sA)
 dsimp only [ic];simp only [l1,l2,l3,l4,l5,l6,l7,l8];dsimp only [dF,fl,dE,fk,fm,kg]
 (·first|exact rN|exact rP)
 (·first|exact rN|exact rP)
 all_goals(first|exact 0|exact undef)
structure ExS (eW:Int->Int->Int->Int) (t:aV) (s:aF) (M:Mm) (i:bg):Prop where
 hA:D7 eW
 hB:N8 t
 hC:fN s
 hi:bT i=0
 sS:i.op=3->CP i.bL
 rQ:i.op≠7/\i.op≠12/\i.op≠13/\i.op≠16/\i.op≠17
 hr:i.op=10\/i.op=11\/i.op=14\/i.op=15\/i.op=8\/i.op=9->GL ({ t with gP:=some (t.Bw i s) }:aV) (t.Bw i s) M
theorem P0 {eW:Int->Int->Int->Int} (hF:FOK) (q:my) (b pb:Nat) (t:aV) (s:aF) (M:Mm) (i:bg) (du:t.gP=some s) (dv:t.dx=none) (eE:t.dB=none) (hE:ExS eW t s M i) (Am:CR q t.av) :
 d8 Tryz.prog 37 [pv b,pv pb,je i] [.h (fI q b t),dH pb M] (λev v=>v=.tuple #[dL (t.lj eW M i).1,ev]) (λev=>[.h (fI q b (t.lj eW M i).2.2.1),dH pb (t.lj eW M i).2.2.2,.h (kh ev (t.lj eW M i).2.1)]):=by
 have hB:=hE.hB;have jV:0<=t.pc/\t.pc<2^40:=hB.pc;have rQ:=hE.rQ;obtain⟨_,_,_,Uv,_⟩:=lB hE.hi;unfold aV.lj;rw [ap rQ.1,du];dsimp only;by_cases hp:i.op=10\/i.op=11\/i.op=14\/i.op=15\/i.op=8\/i.op=9
 . rw [ay hp];have Nd:=ud hF (hE.hr hp) q b pb rfl dv eE Am;have hrq:=λvs vf vd vc vl vo n=>FB b n t.d vs vf vd vc vl vo i s hE.hC hp hE.hi;have er:yE t.d i s=t.Bw i s:=rfl;rw [er] at hrq;generalize t.Bw i s=s2 at Nd hrq ⊢;rcases hp with h|h|h|h|h|h
   all_goals
    obtain⟨op,i1,i2,i3,bL⟩:=i;dsimp only at h;subst h;unfold je at hrq;unfold je;intro A F hw di;refine aH Tryz.func37 λ_=>?_;dsimp only [aa,af] at di;obtain⟨⟨b8,dS,jr,eC,vs,vo⟩,hS⟩:=fI.open di .z;clear di;dsimp only [ic,aa,af] at hS;rw [du,dv,eE] at hS;dsimp only [dF,fl,dE,fk,fm,kg] at hS;have hq:=ke hS hw
    all_goals(revert hq hS hw;refine Wu (J4 (Tg.mk (n:=37) (λx1 x2 x3 x4 x5 x6=>hrq x1 x2 x3 x4 x5 x6 b8)) (Tg.mk (n:=35) @Nd) (od pw) (od pu)) (J2 @dL.eq_1 bF) ?_<;>unhygienic intros)
    refine⟨_,by first|rfl|(simp;rfl)|(simp [hq,AW.ab,aD];rfl),?_⟩;apply u9
    (·first|rfl|(simp [dL,gu.zero,aU.v,aU.zero];done)|(simp [dL,gu.zero,aU.v,aU.zero];rfl))
    apply ah.bI
    (·exact sA)
    (·first|exact rN|exact rP)
 rw [ap hp];have kJ:(0<=i.op/\i.op<=6)\/i.op=17:=by omega
 have PC:=λva vs vf vd vl vo o cc=>BW hE.hA b t va vs vf vd vl vo o cc i kJ hE.hi hE.sS jV;obtain⟨l1,l2,l3,l4,l5,l6,l7,l8⟩:=xB eW t i;have l9:(t.gE eW i).d.hU=t.d.hU:=MM eW t i;rw [du] at l1;rw [dv] at l2;rw [eE] at l3;obtain⟨n7,O3,n13,n16,n17⟩:=rQ;have n8:¬i.op=8:=by omega
 have n9:¬i.op=9:=by omega
 have n10:¬i.op=10:=by omega
 have n11:¬i.op=11:=by omega
 have n14:¬i.op=14:=by omega
 have n15:¬i.op=15:=by omega
 unfold je at PC;unfold je;intro A F hw di;refine aH Tryz.func37 λ_=>?_;dsimp only [aa,af] at di;obtain⟨⟨b8,dS,jr,eC,vs,vo⟩,hS⟩:=fI.open di .z;clear di;dsimp only [ic,aa,af] at hS;rw [du,dv,eE] at hS;dsimp only [dF,fl,dE,fk,fm,kg] at hS;have hq:=ke hS hw
 repeat' (first|(refine jK λR hR=>?_;simp [an,ax,hq,n7,n8,n9,n10,n11,O3,n13,n14,n15,n16,l9,AW.ab,aD];try simp (disch:=omega) only [ay,ap,an,ax])|(refine hR _ _ ?_;clear hR R)|(refine hK _ _ ?_;clear hK K)|refine nx ?_|refine wn λK hK=>?_|simp only [wS,pw,pu]|refine wl Tryz.mx pw (by decide +kernel) λK hK=>?_|refine wl Tryz.mx pu (by decide +kernel) λK hK=>?_|(apply bf.eH (PC _ _ _ _ _ _ _ _);(·exact wA);(·exact sA);(·first|exact pA|exact kA);rintro _ _ _ hS hw _;have hS:=lA hS;have hq:=ke hS hw)|(show cB _ _ _ _ _ _;refine nx ?_)|(refine wc rfl (λhc=>?_) (λhc=>?_)<;>(try simp at hc)<;>(try omega))|(refine ib (λhc=>?_) (λhc=>?_)<;>(try omega)<;>(try simp (disch:=omega) only [ay,ap])))
 refine⟨_,by first|rfl|(simp;rfl)|(simp [hq,AW.ab,aD];rfl),?_⟩;apply u9
 (·first|rfl|(simp [dL,gu.zero,aU.v,aU.zero];done)|(simp [dL,gu.zero,aU.v,aU.zero];rfl))
 apply fI.bI;apply kh.nil
 (·exact sA)
 dsimp only [ic];simp only [l1,l2,l3,l4,l5,l6,l7,l8];dsimp only [dF,fl,dE,fk,fm,kg]
 (·first|exact rN|exact rP)
 (·first|exact rN|exact rP)
 all_goals(first|exact 0|exact undef)
end
section
variable [Gl]
variable [AF]
variable {eW:Int->Int->Int->Int} {c:bH} {nt k:Nat} {M:Mm} {t:aV} {s:aF}
theorem Fc (hc:cx c) (hk:k<2^24) (h:mh c nt k t) (xH:t.gx.length+t.d7.length<=4*k):N8 t:=by
 have h1:=h.gx;have h2:=h.sn;have h3:=h.uJ;have h4:=h.pc;have h5:=(fY h.oW).1;have h6:=h.tg;have h7:=h.wN;have h8:=h.lR;exact⟨by rw [h.cf];exact hc,⟨h4.1,by omega⟩,by omega,by omega,by omega,by omega,by omega,h.oW⟩
theorem FV (h:mh c nt k t) (hd:t.done=false):bT t.eX=0:=by
 obtain⟨jC,hi⟩:=h.eX hd;rw [hi];exact(tD h.oW jC).2.2
theorem AP (hc:cx c) (hk:k+1<2^24) (hM:js c nt k M) (h:mh c nt (k+1) t) (hd:t.done=false) (hA:Adv c k t s):GL t s M:=by
 have h1:=h.gx;have h2:=h.sn;obtain⟨RU,hK2⟩:=Ee hc (by omega) hA.ok hM;have DP:=EU hA.ok hA.An M;have Aj:=hc.nb;have e1:=RU.b.An;have e2:=hc.ar;exact⟨Fc hc hk h (by omega),hA.ok.TH hc hM,RU.b.Sd hc,FV h hd,h.lt hd,λe=>(hA.Lh e).1,λe=>⟨(hA.Da e).1,(hA.Da e).2.2.1⟩,λx hx=>by have:=DP x hx;omega,by omega⟩
theorem Lk (hc:cx c) (hk:k+1<2^24) (hM:js c nt k M) (h:mh c nt (k+1) t) (hcn:t.hU<=k) (hd:t.done=false)
 (hs:t.aT=true->(t.eX.op=12\/t.eX.op=13)/\bN t.av t.pc.toNat=none) (hw:t.aT=false->t.pc=t.bB/\t.eX.op=7/\bN t.av t.pc.toNat=none) :
 GL t.ot (fy (ey t.cf t.id)).2 M:=by
 have RG:=h.wx;have hcn0:=h.tg;have h1:mh c nt (k+1) t.ot:=⟨h.cf,h.nn,h.wx,h.oW,h.pc,h.dn,h.gx,by show ([]:List lT).length<=_;simp,h.uJ,h.xC,by show 0<=t.hU+1/\t.hU+1<=((k+1:Nat):Int);omega,h.wN,h.lR⟩;have hn:(ey t.cf t.id).kF 0=true:=rfl;have hb:nj c k (fy (ey t.cf t.id)).2:=yZ (by rw [h.cf];exact wg hc k t.id (by omega));have cL:(fy (ey t.cf t.id)).2.aA=1:=by unfold fy;rw [ay hn]
 have hbf:∀x∈(fy (ey t.cf t.id)).2.ar,0<=x/\x<c.nb:=by
  unfold fy;rw [ay hn];intro x hx;cases hx
 refine AP hc hk hM h1 hd ⟨hb,cL,hbf,hs,λe=>?_⟩;obtain⟨w1,w2,w3⟩:=hw e;have jV:=h.pc;have ho:=nW h hd;show cu t.av t.bB.toNat=7/\bN t.av t.bB.toNat=none/\0<=t.bB/\_;rw [<-w1];exact⟨ho.trans w2,w3,jV.1,.inl ⟨w1,w2⟩⟩
theorem Ez (hc:cx c) (h:mh c nt k t):∀x∈t.fG,x.1<2^62:=λx hx=>by
 have h1:=Cx hc (h.xC x hx);have h2:=hc.nb;omega
theorem Qn (h:mh c nt k t) (hd:t.done=false) (sS:La t.av):t.eX.op=3->CP t.eX.bL:=by
 obtain⟨jC,hi⟩:=h.eX hd;rw [hi];exact sS _ (List.getElem_mem jC)
theorem U9 (hA:D7 eW) (hc:cx c) (hk:k+1<2^24) (hM:js c nt k M) (h:j5 c nt k t) (hd:t.done=false) (ha:t.gP=none) (hf:t.dx=none) (sS:La t.av):ExN eW t M t.eX:=by
 have mu:=h.co;have h':=mu.mono (Nat.le_succ k);obtain⟨hs,gJ⟩:=h.LH ha;obtain⟨jC,hi⟩:=mu.eX hd;have s4:=(tD mu.oW jC).1 gJ;rw [<-hi] at s4;have htr:=mu.wN;have h1:=mu.gx;have h2:=mu.sn;refine⟨hA,Fc hc (by omega) mu (by omega),FV mu hd,Qn mu hd sS,s4,λh7=>?_,λ_ kJ=>?_,Ez hc mu⟩;exact Lk hc hk hM (t:={ t with bB:=t.pc,jg:=t.df,gF:=t.gF+1 }) ⟨h'.cf,h'.nn,h'.wx,h'.oW,h'.pc,h'.dn,h'.gx,h'.sn,h'.uJ,h'.xC,h'.tg,by dsimp only;omega,h'.lR⟩ mu.tg.2 hd (λe=>(by rw [show t.aT=true from e] at hs;cases hs)) (λ_=>⟨rfl,h7,gJ⟩);exact Lk hc hk hM (t:={ t with aT:=true,eU:=0 }) ⟨h'.cf,h'.nn,h'.wx,h'.oW,h'.pc,h'.dn,h'.gx,h'.sn,h'.uJ,h'.xC,h'.tg,h'.wN,by dsimp only;omega⟩ mu.tg.2 hd (λ_=>⟨kJ,gJ⟩) (λe=>(by cases e))
theorem ask_H (hc:cx c) (hk:k+1<2^24) (hM:js c nt k M) (h:j5 c nt k t) (hd:t.done=false) (ha:t.gP=some s) (hs:t.aT=true):GL (t.ask t.eX s) (t.tX t.eX s) M:=by
 have mu:=h.co;have h':=mu.mono (Nat.le_succ k);have hak:=mu.lR;obtain⟨g1,_,_,g2⟩:=h.Bn s ha;rw [ay (.inr hs)] at g1;exact AP hc hk hM (t:=t.ask t.eX s) ⟨h'.cf,h'.nn,h'.wx,h'.oW,h'.pc,h'.dn,h'.gx,h'.sn,h'.uJ,h'.xC,h'.tg,h'.wN,by show 0<=t.eU+1/\t.eU+1<=((k+1:Nat):Int);omega⟩ hd ⟨Qj hc g1.ok _,Qi g1.st _,EV g1.An _,g1.Lh,λe=>(by rw [show t.aT=false from e] at hs;cases hs)⟩
theorem Vm (hc:cx c) (hk:k+1<2^24) (hM:js c nt k M) (h:j5 c nt k t) (hd:t.done=false) (ha:t.gP=some s) (hb:s.gD=true):GL t s M:=by
 obtain⟨g1,_,_,g2⟩:=h.Bn s ha;rw [ay (.inl hb)] at g1;exact AP hc hk hM (h.co.mono (Nat.le_succ k)) hd g1
theorem U8 (hA:D7 eW) (hc:cx c) (hk:k+1<2^24) (hM:js c nt k M) (h:j5 c nt k t) (hd:t.done=false) (ha:t.gP=some s) (hb:s.gD=false) (hs:t.aT=false) (sS:La t.av):ExS eW t s M t.eX:=by
 have mu:=h.co;have h':=mu.mono (Nat.le_succ k);have h1:=mu.gx;have h2:=mu.sn;obtain⟨g1,_,_,g2⟩:=h.Bn s ha;rw [ap (by rw [hb,hs];simp)] at g1;have hR:=g1;obtain⟨w1,w2,w3,w4⟩:=hR.Da;obtain⟨jC,hi⟩:=mu.eX hd;have s4:=(tD mu.oW jC).2.1 _ w4;rw [<-hi] at s4;refine⟨hA,Fc hc (by omega) mu (by omega),hR.ok.b.Sd hc,FV mu hd,Qn mu hd sS,s4,λkJ=>?_⟩;refine AP hc hk hM (t:={ t with gP:=some (t.Bw t.eX s) }) ⟨h'.cf,h'.nn,h'.wx,h'.oW,h'.pc,h'.dn,h'.gx,h'.sn,h'.uJ,h'.xC,h'.tg,h'.wN,h'.lR⟩ hd ⟨Jp hc hR.ok _,yD hR.st _,Em hR.An _,λe=>(by have e2:t.aT=true:=e;rw [hR.Lh] at e2;cases e2),λ_=>⟨w1,w2,w3,?_⟩⟩;by_cases h89:t.eX.op=8\/t.eX.op=9;right;right;unfold aV.Bw;rw [ap (by omega),ap (by omega),ap (by omega),ap (by omega)];split;exact AJ hR.st hb (.inl rfl);rw [ay (by omega)];exact AJ hR.st hb (.inr rfl);exact .inr (.inl ⟨w4,by show t.eX.op=10\/t.eX.op=11\/t.eX.op=14\/t.eX.op=15;omega⟩)
theorem zd (i:bg) (v:Int):(t.CW i v).av=t.av:=by unfold aV.CW;split<;>rfl
theorem yX:(t.nf s).av=t.av:=by unfold aV.nf;split<;>rfl
theorem PY:(t.bI s).av=t.av:=by
 unfold aV.bI;split;split;exact yX;exact yX;exact yX
theorem NE (i:bg):(t.rI i s).av=t.av:=by
 unfold aV.rI;split;split;unfold aV.kU;dsimp only;split;exact zd _ _;split<;>rfl;exact PY;split;rfl
 (repeat' split)<;>rfl
theorem tZ:(t.vz M s).2.2.1.av=t.av:=by
 unfold aV.vz;dsimp only;split;rfl;exact NE _
theorem sD:t.jH.av=t.av:=by unfold aV.jH;split<;>rfl
theorem Ea (f:iJ):(t.uH M f).2.1.av=t.av:=by
 unfold aV.uH;split;dsimp only;split;exact sD;exact sD;exact sD
theorem Jv (i:bg):(t.plain M i).2.2.1.av=t.av:=by
 unfold aV.plain;dsimp only;split;split<;>rfl;split;exact tZ;split;exact zd _ _;exact zd _ _
theorem ER (i:bg):(t.lj eW M i).2.2.1.av=t.av:=by
 unfold aV.lj;split;exact tZ;split;split;exact tZ;exact(xB eW t i).2.2.2.1;split;exact Jv i;split;exact Ea _;exact(xB eW t i).2.2.2.1
theorem Jd:(t.ly eW M).2.2.1.av=t.av:=by
 unfold aV.ly;split;exact Ea _;split;split;exact tZ;split;exact tZ;exact ER _;exact ER _
theorem Ef:(t.step eW M).2.2.2.1.av=t.av:=by
 unfold aV.step;split;rfl;exact Jd
theorem O8 (eW:Int->Int->Int->Int) (t:aV) (i:bg):(t.gE eW i).id=t.id:=by
 unfold aV.gE;split;rfl;split;rfl;split;rfl;split<;>rfl
theorem GA (i:bg) (v:Int):(t.CW i v).id=t.id:=by unfold aV.CW;split<;>rfl
theorem F8:(t.nf s).id=t.id:=by unfold aV.nf;split<;>rfl
theorem U7:(t.bI s).id=t.id:=by
 unfold aV.bI;split;split;exact F8;exact F8;exact F8
theorem Sj (i:bg):(t.rI i s).id=t.id:=by
 unfold aV.rI;split;split;unfold aV.kU;dsimp only;split;exact GA _ _;split<;>rfl;exact U7;split;rfl
 (repeat' split)<;>rfl
theorem CT:(t.vz M s).2.2.1.id=t.id:=by
 unfold aV.vz;dsimp only;split;rfl;exact Sj _
theorem wE:t.jH.id=t.id:=by unfold aV.jH;split<;>rfl
theorem Le (f:iJ):(t.uH M f).2.1.id=t.id:=by
 unfold aV.uH;split;dsimp only;split;exact wE;exact wE;exact wE
theorem OK (i:bg):(t.plain M i).2.2.1.id=t.id:=by
 unfold aV.plain;dsimp only;split;split<;>rfl;split;exact CT;split;exact GA _ _;exact GA _ _
theorem LZ (i:bg):(t.lj eW M i).2.2.1.id=t.id:=by
 unfold aV.lj;split;exact CT;split;split;exact CT;exact(O8 eW t i);split;exact OK i;split;exact Le _;exact(O8 eW t i)
theorem Lj (hc:cx c) (hk:k<2^40) (hM:js c nt k M) (h:j5 c nt k t):j5 c nt (k+1) (t.step eW M).2.2.2.1/\js c nt (k+1) (t.step eW M).2.2.2.2:=by
 unfold aV.step;split;exact⟨h.mono (by omega),hM.mono (by omega)⟩;rename_i hd;exact Ov hc hk hM h (by simpa using hd)
end
section
abbrev xk:List (Nat×Nat):=[(0,0),(1,0),(2,0),(3,0),(4,0),(5,0),(6,0),(7,0),(8,0),(9,0),(10,0),(11,2),(12,3)]
open T2
variable [Gl]
variable [AF]
theorem bf.Ev {P:Program} {f:FuncId} {args:List Value} {q:my} {b:Nat} {t:aV} {rk post:List It} {φ:Value->Prop} (h:bf P f args rk φ (λ_=>.h (fI q b t)::post)) :
 d8 P f args rk (λ(_:Tp) v=>φ v) (λx=>.at b (oT t.d ⟨fl t.gP x.b8,x.vs,fk t.dx x.dS,kg t.dB x.jr,.slice (some ⟨q.bb,q.off,none⟩) t.av.length q.ee,pv x.eC,x.vo⟩)::.h (dF t.gP x.b8)::.h (jf x.vs t.d7)::.h (dE t.dx x.dS)::.h (fm t.dB x.jr) ::
  .at q.bb q.o::.h (ni x.eC t.cf t.fG)::.h (jf x.vo t.gx)::post):=λA F hw hS=>by
 refine bV (h A F hw hS) ?_;rintro v A' ⟨h1,h2⟩ _ _;obtain⟨x,hx⟩:=fI.open h2 .z;exact⟨x,h1,hx⟩
theorem d8.Ev {P:Program} {f:FuncId} {args:List Value} {q:my} {b:Nat} {t:aV} {rk:List It} {post:Value->List It} {φ:Value->Value->Prop} (h:d8 P f args rk φ (λev=>.h (fI q b t)::post ev)) :
 d8 P f args rk (λ(y:Value×Tp) v=>φ y.1 v) (λy=>.at b (oT t.d ⟨fl t.gP y.2.b8,y.2.vs,fk t.dx y.2.dS,kg t.dB y.2.jr,.slice (some ⟨q.bb,q.off,none⟩) t.av.length q.ee,pv y.2.eC,y.2.vo⟩)::.h (dF t.gP y.2.b8)::.h (jf y.2.vs t.d7)::.h (dE t.dx y.2.dS)::.h (fm t.dB y.2.jr) ::
  .at q.bb q.o::.h (ni y.2.eC t.cf t.fG)::.h (jf y.2.vo t.gx)::post y.1):=λA F hw hS=>by
 refine bV (h A F hw hS) ?_;rintro v A' ⟨ev,h1,h2⟩ _ _;obtain⟨x,hx⟩:=fI.open h2 .z;exact⟨(ev,x),h1,hx⟩
theorem G9 {eW:Int->Int->Int->Int} (hA:D7 eW) (hF:FOK) {c:bH} {nt k:Nat} (hc:cx c) (hk:k+1<2^24) (q:my) (b pb:Nat) (t:aV) (M:Mm) (hM:js c nt k M) (h:j5 c nt k t) (sS:La t.av) (Am:CR q t.av) (hd:t.done=false) :
 d8 Tryz.prog 13 [pv b,pv pb] [.h (fI q b t),dH pb M] (λev v=>v=.tuple #[dL (t.step eW M).2.1,ev,.bool true]) (λev=>[.h (fI q b (t.step eW M).2.2.2.1),dH pb (t.step eW M).2.2.2.2,.h (kh ev (t.step eW M).2.2.1)]):=by
 have hB:N8 t:=by
  have h1:=h.co.gx;have h2:=h.co.sn;exact Fc hc (by omega) h.co (by omega)
 have jV:0<=t.pc/\t.pc<2^40:=hB.pc;have cF:=h.co.lt hd;have B8:t.pc.toNat<t.av.length:=by omega
 obtain⟨HZ,s8⟩:=Am.at B8;have UH:t.av[t.pc.toNat]=t.eX:=by
  unfold aV.eX aV.sQ;rw [List.getD_eq_getElem?_getD,List.getElem?_eq_getElem B8];rfl
 rw [UH] at s8;have Ak:q.off+t.d.pc.toNat*5+5<=q.cD.length:=HZ;have Cd:(q.cD.drop (q.off+t.d.pc.toNat*5)).take 5=ao t.eX:=s8;have LQ:0<=t.d.pc:=jV.1;have MZ:t.d.pc<(t.av.length:Int):=cF;have Kl:t.d.done=false:=hd;have hi:=FV h.co hd;unfold aV.step;rw [ap (by rw [hd];decide)];dsimp only;unfold aV.ly;cases dv:t.dx with
 | some f=>
   obtain⟨du,_,g3,g4,g5,g6,g7⟩:=h.fen f dv;have RG:=h.co.wx;have B4:=Eb q b pb t M f du dv hB (by omega) (Ez hc h.co) (λl e=>by
    obtain⟨h1,h2,_⟩:=h.dr l e;exact⟨h1,by omega⟩)
   dsimp only;have FX:(t.uH M f).2.1.d.id=t.d.id:=Le f;generalize t.uH M f=r at B4 FX ⊢;have eE:=dv;intro A F hw di;refine aH Tryz.func13 λ_=>?_;dsimp only [aa,af] at di;obtain⟨⟨b8,dS,jr,eC,vs,vo⟩,hS⟩:=fI.open di .z;clear di;dsimp only [ic,aa,af] at hS;rw [du,dv] at hS;dsimp only [dF,fl,dE,fk,fm,kg] at hS;have hq:=ke hS hw;have ks:∀k l,(b=A.next+k+l)=False:=λk l=>by simp [hq,Nat.add_assoc]
   have uD:∀k l,(q.bb=A.next+k+l)=False:=λk l=>by simp [hq,Nat.add_assoc]
   revert hq hS hw;(repeat first|revert hc|revert R|revert K);refine Wu (J2 (Tg.mk (n:=35) (bf.Ev B4)) (od xk)) (GK ks uD FX Kl LQ MZ Ak Cd @dL.eq_1 bF) ?_<;>(unhygienic intros);refine⟨_,by first|rfl|(simp;rfl)|(simp [hq,AW.ab,aD];rfl),?_⟩;apply u9
   (·first|rfl|(simp [dL,gu.zero,aU.v,aU.zero];done)|(simp [dL,gu.zero,aU.v,aU.zero];rfl))
   apply fI.bI;apply kh.nil
   (·exact sA)
   dsimp only [ic]
   (·first|exact rN|exact rP)
   (·first|exact rN|exact rP)
 | none=>
   have eE:=h.O1 dv;dsimp only;cases du:t.gP with
   | none=>
     dsimp only;have pe:=P1 hF q b pb t M t.eX du dv eE (U9 hA hc hk hM h hd du dv sS) Am;have FX:(t.lj eW M t.eX).2.2.1.d.id=t.d.id:=LZ _;generalize t.lj eW M t.eX=r at pe FX ⊢;generalize t.eX=i at *;obtain⟨op,i1,i2,i3,bL⟩:=i;unfold je at pe;intro A F hw di;refine aH Tryz.func13 λ_=>?_;dsimp only [aa,af] at di;obtain⟨⟨b8,dS,jr,eC,vs,vo⟩,hS⟩:=fI.open di .z;clear di;dsimp only [ic,aa,af] at hS;rw [du,dv,eE] at hS;dsimp only [dF,fl,dE,fk,fm,kg] at hS;have hq:=ke hS hw;have ks:∀k l,(b=A.next+k+l)=False:=λk l=>by simp [hq,Nat.add_assoc]
     have uD:∀k l,(q.bb=A.next+k+l)=False:=λk l=>by simp [hq,Nat.add_assoc]
     revert hq hS hw;(repeat first|clear hq|clear hS|clear hw|revert hc|revert R|revert K);refine Wu (J2 (Tg.mk (n:=35) (d8.Ev pe)) (od xk)) (IX ks uD FX Kl LQ MZ Ak Cd @ao.eq_1 @dL.eq_1 bF) ?_<;>(unhygienic intros);refine⟨_,by first|rfl|(simp;rfl)|(simp [hq,AW.ab,aD];rfl),?_⟩;apply u9
     (·first|rfl|(simp [dL,gu.zero,aU.v,aU.zero];done)|(simp [dL,gu.zero,aU.v,aU.zero];rfl))
     apply fI.bI
     . skip
       (·exact sA)
     dsimp only [ic]
     (·first|exact rN|exact rP)
     (·first|exact rN|exact rP)
   | some s=>
     dsimp only;by_cases hb:s.gD=true
     . rw [ay hb];have Nd:=ud hF (Vm hc hk hM h hd du hb) q b pb du dv eE Am;have tf:=λn=>sV n s;simp only [hb] at tf;have FX:(t.vz M s).2.2.1.d.id=t.d.id:=CT;generalize t.vz M s=r at Nd FX ⊢;intro A F hw di;refine aH Tryz.func13 λ_=>?_;dsimp only [aa,af] at di;obtain⟨⟨b8,dS,jr,eC,vs,vo⟩,hS⟩:=fI.open di .z;clear di;dsimp only [ic,aa,af] at hS;rw [du,dv,eE] at hS;dsimp only [dF,fl,dE,fk,fm,kg] at hS;have hq:=ke hS hw;have ks:∀k l,(b=A.next+k+l)=False:=λk l=>by simp [hq,Nat.add_assoc]
       have uD:∀k l,(q.bb=A.next+k+l)=False:=λk l=>by simp [hq,Nat.add_assoc]
       revert hq hS hw;(repeat first|clear hq|clear hS|clear hw|revert hc|revert R|revert K);refine Wu (J3 (Tg.mk (n:=10) (λ{A L K k}=>eF (A:=A) (L:=L) (K:=K) (k:=k) (tf b8))) (Tg.mk (n:=35) (d8.Ev Nd)) (od xk)) (GK ks uD FX Kl LQ MZ Ak Cd @dL.eq_1 bF) ?_<;>(unhygienic intros);refine⟨_,by first|rfl|(simp;rfl)|(simp [hq,AW.ab,aD];rfl),?_⟩;apply u9
       (·first|rfl|(simp [dL,gu.zero,aU.v,aU.zero];done)|(simp [dL,gu.zero,aU.v,aU.zero];rfl))
       apply fI.bI
       . skip
         (·exact sA)
       dsimp only [ic]
       (·first|exact rN|exact rP)
       (·first|exact rN|exact rP)
     rw [ap hb];have ks:s.gD=false:=by simpa using hb
     have tf:=λn=>sV n s;simp only [ks] at tf;by_cases hs:t.aT=true
     . rw [ay hs];have zD:t.d.aT=true:=hs;have Nd:=ud hF (t:={ t with eU:=t.eU+1,gP:=some (t.tX t.eX s) }) (ask_H hc hk hM h hd du hs) q b pb rfl dv eE Am;obtain⟨g1,_,_,g2⟩:=h.Bn s du;rw [ay (.inr hs)] at g1;have RQ:=λvs vf vd vc vl vo n=>Mr b n t.d vs vf vd vc vl vo t.eX s (g1.ok.b.Sd hc) (g1.Lh hs).1 hi hB.lR;have ea:KR t.d t.eX s=t.tX t.eX s:=rfl;rw [ea] at RQ;have FX:(({ t with eU:=t.eU+1,gP:=some (t.tX t.eX s) }:aV).vz M (t.tX t.eX s)).2.2.1.d.id=t.d.id:=CT;rw [show t.ask t.eX s={ t with eU:=t.eU+1,gP:=some (t.tX t.eX s) } from rfl];generalize ({ t with eU:=t.eU+1,gP:=some (t.tX t.eX s) }:aV).vz M (t.tX t.eX s)=r at Nd FX ⊢;generalize t.tX t.eX s=s2 at Nd RQ ⊢;generalize t.eX=i at *;obtain⟨op,i1,i2,i3,bL⟩:=i;unfold je at RQ;intro A F hw di;refine aH Tryz.func13 λ_=>?_;dsimp only [aa,af] at di;obtain⟨⟨b8,dS,jr,eC,vs,vo⟩,hS⟩:=fI.open di .z;clear di;dsimp only [ic,aa,af] at hS;rw [du,dv,eE] at hS
       dsimp only [dF,fl,dE,fk,fm,kg] at hS;have hq:=ke hS hw;have ks:∀k l,(b=A.next+k+l)=False:=λk l=>by simp [hq,Nat.add_assoc]
       have uD:∀k l,(q.bb=A.next+k+l)=False:=λk l=>by simp [hq,Nat.add_assoc]
       revert hq hS hw;(repeat first|clear hq|clear hS|clear hw|revert hc|revert R|revert K);refine Wu (J4 (Tg.mk (n:=10) (λ{A L K k}=>eF (A:=A) (L:=L) (K:=K) (k:=k) (tf b8))) (Tg.mk (n:=37) (λx1 x2 x3 x4 x5 x6=>RQ x1 x2 x3 x4 x5 x6 b8)) (Tg.mk (n:=35) (d8.Ev Nd)) (od xk)) (rL ks uD FX Kl zD LQ MZ Ak Cd @ao.eq_1 @dL.eq_1 bF) ?_<;>(unhygienic intros);refine⟨_,by first|rfl|(simp;rfl)|(simp [hq,AW.ab,aD];rfl),?_⟩;apply u9
       (·first|rfl|(simp [dL,gu.zero,aU.v,aU.zero];done)|(simp [dL,gu.zero,aU.v,aU.zero];rfl))
       apply fI.bI
       . skip
         (·exact sA)
       dsimp only [ic]
       (·first|exact rN|exact rP)
       (·first|exact rN|exact rP)
     rw [ap hs];have EE:t.aT=false:=by simpa using hs
     have zD:t.d.aT=false:=EE;have pe:=P0 hF q b pb t s M t.eX du dv eE (U8 hA hc hk hM h hd du ks EE sS) Am;have FX:(t.lj eW M t.eX).2.2.1.d.id=t.d.id:=LZ _;generalize t.lj eW M t.eX=r at pe FX ⊢;generalize t.eX=i at *;obtain⟨op,i1,i2,i3,bL⟩:=i;unfold je at pe;intro A F hw di;refine aH Tryz.func13 λ_=>?_;dsimp only [aa,af] at di;obtain⟨⟨b8,dS,jr,eC,vs,vo⟩,hS⟩:=fI.open di .z;clear di;dsimp only [ic,aa,af] at hS;rw [du,dv,eE] at hS;dsimp only [dF,fl,dE,fk,fm,kg] at hS;have hq:=ke hS hw;have ks:∀k l,(b=A.next+k+l)=False:=λk l=>by simp [hq,Nat.add_assoc]
     have uD:∀k l,(q.bb=A.next+k+l)=False:=λk l=>by simp [hq,Nat.add_assoc]
     revert hq hS hw;(repeat first|clear hq|clear hS|clear hw|revert hc|revert R|revert K);refine Wu (J3 (Tg.mk (n:=10) (λ{A L K k}=>eF (A:=A) (L:=L) (K:=K) (k:=k) (tf b8))) (Tg.mk (n:=35) (d8.Ev pe)) (od xk)) (rL ks uD FX Kl zD LQ MZ Ak Cd @ao.eq_1 @dL.eq_1 bF) ?_<;>(unhygienic intros);refine⟨_,by first|rfl|(simp;rfl)|(simp [hq,AW.ab,aD];rfl),?_⟩;apply u9
     (·first|rfl|(simp [dL,gu.zero,aU.v,aU.zero];done)|(simp [dL,gu.zero,aU.v,aU.zero];rfl))
     apply fI.bI
     . skip
       (·exact sA)
     dsimp only [ic]
     (·first|exact rN|exact rP)
     (·first|exact rN|exact rP)
end
section
abbrev Rh:List (Nat×Nat):=[(0,0),(1,0),(2,0),(3,0),(4,0),(5,0),(6,0),(7,0),(8,0),(9,0),(10,0),(11,2),(12,3)]
abbrev Av:List (Nat×Nat):=[(0,0),(1,0),(2,0),(3,0),(5,0),(4,2),(6,2),(7,0),(8,2),(9,0)]
open T7
variable [Gl]
theorem Gf (v:Value) (n:Nat) (cs:List Value) (A:AW) (h:gZ A 5 v n cs) (h1:cs.all Value.oneCell'=true) (hl:n<2^30) :
 az Tryz.prog 30 [v] A (λu A'=>ez A.next A' 5 u n cs/\A.le A'/\A'.Wf):=by
 refine aH Tryz.func30 λhw=>?_;have hv:(∃c,v=.slice none n c)\/∃q c,v=.slice (some q) n c:=by
  rcases h with ⟨⟨o,rfl⟩,rfl,rfl⟩|⟨p,c,cD,own,u,rfl,_⟩
  . cases o with
    | none=>exact .inl ⟨_,rfl⟩
    | some q=>exact .inr ⟨_,_,rfl⟩
  exact .inr ⟨_,_,rfl⟩
 rcases hv with ⟨c,rfl⟩|⟨q,c,rfl⟩;obtain⟨rfl,rfl,rfl⟩:n=0/\c=0/\cs=[]:=by
  rcases h with ⟨⟨o,h0⟩,h2,h3⟩|⟨p,c',cD,own,u,h0,_⟩;injection h0 with h4 h5 h6;exact⟨h2,h6,h3⟩;cases h0
 revert hw;refine W cy cy ?_<;>(unhygienic intros);exact⟨_,rfl,.inl ⟨rfl,rfl,rfl⟩,AW.le.refl A,hw⟩;have h2:=gZ.le (AW.le.alloc A (.cells [] true 5)) hw h;have pd:ez A.next (A.alloc (.cells [] true 5)) 5 (.slice (some ⟨A.next,0,none⟩) 0 0) 0 []:=.inr ⟨⟨A.next,0,none⟩,0,[],rfl,Nat.le_refl _,rfl,Nat.le_refl _,by simp,by simp,by simp⟩;obtain⟨v',A',e1,e2,e3,e4,e5,e6,e7⟩:=li (P:=Tryz.prog) (size:=5) (t:=30) Tryz.underlying30 Tryz.info33 Tryz.zero33 rfl rfl (by omega) pd (gZ.mn h2) h1 (by omega) (by simp;omega) (by simp) (hw.alloc _);refine W cy (J1 e1) ?_<;>intros;refine⟨_,rfl,?_,?_,e4⟩
 simpa using e2
 exact e3 A (Nat.le_refl _) (AW.le.alloc A _)
theorem Ge (v:Value) (n:Nat) (cs:List Value) (A:AW) (h:gZ A 3 v n cs) (h1:cs.all Value.oneCell'=true) (hl:n<2^30) :
 az Tryz.prog 49 [v] A (λu A'=>ez A.next A' 3 u n cs/\A.le A'/\A'.Wf):=by
 refine aH Tryz.func49 λhw=>?_;have hv:(∃c,v=.slice none n c)\/∃q c,v=.slice (some q) n c:=by
  rcases h with ⟨⟨o,rfl⟩,rfl,rfl⟩|⟨p,c,cD,own,u,rfl,_⟩
  . cases o with
    | none=>exact .inl ⟨_,rfl⟩
    | some q=>exact .inr ⟨_,_,rfl⟩
  exact .inr ⟨_,_,rfl⟩
 rcases hv with ⟨c,rfl⟩|⟨q,c,rfl⟩;obtain⟨rfl,rfl,rfl⟩:n=0/\c=0/\cs=[]:=by
  rcases h with ⟨⟨o,h0⟩,h2,h3⟩|⟨p,c',cD,own,u,h0,_⟩;injection h0 with h4 h5 h6;exact⟨h2,h6,h3⟩;cases h0
 revert hw;refine W cy cy ?_<;>(unhygienic intros);exact⟨_,rfl,.inl ⟨rfl,rfl,rfl⟩,AW.le.refl A,hw⟩;have h2:=gZ.le (AW.le.alloc A (.cells [] true 3)) hw h;have pd:ez A.next (A.alloc (.cells [] true 3)) 3 (.slice (some ⟨A.next,0,none⟩) 0 0) 0 []:=.inr ⟨⟨A.next,0,none⟩,0,[],rfl,Nat.le_refl _,rfl,Nat.le_refl _,by simp,by simp,by simp⟩;obtain⟨v',A',e1,e2,e3,e4,e5,e6,e7⟩:=li (P:=Tryz.prog) (size:=3) (t:=80) Tryz.underlying80 Tryz.info83 Tryz.zero83 rfl rfl (by omega) pd (gZ.mn h2) h1 (by omega) (by simp;omega) (by simp) (hw.alloc _);refine W cy (J1 e1) ?_<;>intros;refine⟨_,rfl,?_,?_,e4⟩
 simpa using e2
 exact e3 A (Nat.le_refl _) (AW.le.alloc A _)
def Dg (b:Nat) (t:aV) (f:Tp) (vc:Value):List It:=[.at b (oT t.d ⟨fl t.gP f.b8,f.vs,fk t.dx f.dS,kg t.dB f.jr,vc,pv f.eC,f.vo⟩),.h (dF t.gP f.b8),.h (jf f.vs t.d7),.h (dE t.dx f.dS),.h (fm t.dB f.jr),
 .h (E1 vc t.av),.h (ni f.eC t.cf t.fG),.h (jf f.vo t.gx)]
def yg (b:Nat) (t:aV):HP:=pe λf:Tp×Value=>aL (Dg b t f.1 f.2)
theorem yg.open {A:AW} {L K:List It} {b:Nat} {t:aV} (h:ah A L) (hp:aB L (.h (yg b t)) K):∃f:Tp×Value,ah A (Dg b t f.1 f.2++K):=ld h hp
theorem yg.dU {A:AW} {L K:List It} {b:Nat} {t:aV} {f:Tp} {vc:Value} (h:ah A L) (e:aQ L (Dg b t f vc) K):ah A (.h (yg b t)::K):=iH (f,vc) h e
theorem yg.bI {A:AW} {L K G K2:List It} {b:Nat} {t:aV} {b8 dS jr eC:Nat} {vs vo vc:Value} (h:ah A L) (e:aQ L (Dg b t ⟨b8,dS,jr,eC,vs,vo⟩ vc) K) (e2:aQ K G K2):ah A (.h (yg b t)::G):=ah.bI (yg.dU h e) (.s .z e2)
theorem yg.toQ {A:AW} {L K:List It} {b:Nat} {t:aV} (h:ah A L) (hp:aB L (.h (yg b t)) K) (hl:0<t.av.length):∃q,CR q t.av/\ah A (.h (fI q b t)::K):=by
 obtain⟨⟨⟨b8,dS,jr,eC,vs,vo⟩,vc⟩,h1⟩:=yg.open h hp;dsimp only [Dg,aa,af] at h1;obtain⟨q,rfl,h2,h3⟩:=P8 h1 (.s (.s (.s (.s (.s .z))))) hl;refine⟨q,h2,fI.dU (b8:=b8) (dS:=dS) (jr:=jr) (eC:=eC) (vs:=vs) (vo:=vo) h3 ?_⟩;unfold ic;dsimp only
 (·first|exact rN|exact rP)
theorem fI.toP {A:AW} {L K:List It} {q:my} {b:Nat} {t:aV} (h:ah A L) (hp:aB L (.h (fI q b t)) K) (hR:CR q t.av):ah A (.h (yg b t)::K):=by
 obtain⟨⟨b8,dS,jr,eC,vs,vo⟩,h1⟩:=fI.open h hp;dsimp only [ic,aa,af] at h1;have h2:=Nw hR h1 (.s (.s (.s (.s (.s .z)))));refine yg.dU (f:=⟨b8,dS,jr,eC,vs,vo⟩) (vc:=.slice (some ⟨q.bb,q.off,none⟩) t.av.length q.ee) h2 ?_;unfold Dg;dsimp only
 (·first|exact rN|exact rP)
def NS (d:vB):Value:=.agg (.int .i64 d.pc::(d.df.cells++[.int .i64 d.gA,.bool d.done])).toArray
theorem Fb (b:Nat) (d:vB) (w:NJ):bf Tryz.prog 12 [pv b] [.at b (oT d w)] (λv=>v=NS d) (λ_=>[.at b (oT d w)]):=by
 intro A F hw hS;refine aH Tryz.func12 λ_=>?_;dsimp only [aa,af] at hS;have hq:=eO hS hw;revert hq hS hw;refine W cy (J1 bF) ?_<;>(unhygienic intros);refine⟨_,by first|rfl|(simp;rfl)|(simp [hq,AW.ab,aD];rfl),by first|rfl|(simp [NS];done),?_⟩;apply ah.bI
 (·exact sA)
 (·first|exact rN|exact rP)
theorem Hb (b:Nat) (t:aV) (M:Mm) (pb:Nat) (hd:t.done=true):bf Tryz.prog 13 [pv b,pv pb] [.h (yg b t)] (λv=>v=.tuple #[dL gu.zero,.slice none 0 0,.bool false]) (λ_=>[.h (yg b t)]):=by
 intro A F hw di;refine aH Tryz.func13 λ_=>?_;dsimp only [aa,af] at di;obtain⟨⟨⟨b8,dS,jr,eC,vs,vo⟩,vc⟩,hS⟩:=yg.open di .z;clear di;dsimp only [Dg,aa,af] at hS;have hq:=eO hS hw;have Kl:t.d.done=true:=hd;revert hq hS hw;refine W (J1 (od Rh)) (J2 Kl bF) ?_<;>(unhygienic intros);refine⟨_,by first|rfl|(simp;rfl)|(simp [hq,AW.ab,aD];rfl),by first|rfl|(simp [dL,gu.zero,aU.v,aU.zero];done),?_⟩;apply yg.bI
 (·exact sA)
 unfold Dg;dsimp only
 (·first|exact rN|exact rP)
 (·first|exact rN|exact rP)
theorem Rs (l:List bg):(l.flatMap ao).all Value.oneCell'=true:=by
 rw [List.all_eq_true];intro v hv;obtain⟨x,_,hx⟩:=List.mem_flatMap.1 hv;simp only [ao,List.mem_cons,List.not_mem_nil,or_false] at hx;rcases hx with rfl|rfl|rfl|rfl|rfl<;>rfl
theorem JN (c:bH) {A:AW} {L:List It} {k:Value->AW->Prop} (hw:A.Wf) (hS:ah A L) (hk:∀n A',ah A' (.h (ni n c [])::L)->A'.Wf->A.le A'->k (pv n) A'):az Tryz.prog 31 [c.v] A k:=by
 refine aH Tryz.func31 λ_=>?_;obtain⟨I2,vV,KN,c0,c1,c2,c3,BA,IZ,KV,Ku,wH,Ja⟩:=c;simp only [bH.v,bH.cells];revert hS hw;refine W cy (J1 bF) ?_<;>(unhygienic intros);refine⟨_,by first|rfl|(simp;rfl),?_⟩;have w1:=hw.alloc (.cells [.int .i64 I2,.int .i64 vV,.int .i64 KN,.int .i64 c0,.int .i64 c1,.int .i64 c2,.int .i64 c3,.int .i64 BA,.int .i64 IZ,.int .i64 KV,.int .i64 Ku,.int .i64 wH,.bool Ja] true 1);have h1:ah _ L:=bn.alloc hS hw (.cells [.int .i64 I2,.int .i64 vV,.int .i64 KN,.int .i64 c0,.int .i64 c1,.int .i64 c2,.int .i64 c3,.int .i64 BA,.int .i64 IZ,.int .i64 KV,.int .i64 Ku,.int .i64 wH,.bool Ja] true 1) |>.right;refine hk (A.next+1) _ ?_ (w1.alloc _) ((AW.le.alloc A _).trans (AW.le.alloc _ _));refine ni.dU (v:=.slice none 0 0) (L:=.h (QT (.slice none 0 0) [])::.at (A.next+1) (Pc ⟨I2,vV,KN,c0,c1,c2,c3,BA,IZ,KV,Ku,wH,Ja⟩ (.slice none 0 0))::L) ?_ (.s (.s .z) (.s .z .z));exact ep.nil (bn.alloc h1 w1 _)
theorem Ol (b:Nat) (d:vB) (va vs vf vd vl vo:Value) (o:Option Addr) (n c:Nat) (pc:Int) (A:AW) (hg:A.bt b=some (oT d ⟨va,vs,vf,vd,.slice o n c,vl,vo⟩)) :
 az Tryz.prog 32 [pv b,.int .i64 pc] A (λu A'=>A'=A.set b (some (oT { d with pc:=pc,done:=decide (pc=n) } ⟨va,vs,vf,vd,.slice o n c,vl,vo⟩))):=by
 refine aH Tryz.func32 λ_=>?_;refine W cy (J2 hg bF) ?_<;>intros;exact⟨_,rfl,AW.set_set⟩
theorem ah.Vc {A:AW} {L:List It} (h:ah A L):ah A (.h eP::L):=by
 unfold ah at *;show bn A (eP*aL L);rw [iD];exact h
theorem ah.drop2 {A:AW} {x y:It} {L:List It} (h:ah A (x::y::L)):ah A (x::L):=by
 have h2:bn A (y.hp*(x.hp*aL L)):=bn.dV h (by show x.hp*(y.hp*aL L)=_;ac_rfl);exact h2.right
theorem HC (hF:FOK) {c:bH} (hc:cx c) (id n:Int) (RG:0<=id/\id<n/\n<=16) (v:Value) (p:List bg) (hp:(cK p).2=0) {A:AW} {L:List It} {k:Value->AW->Prop} (hw:A.Wf) (hS:ah A L) (h:kl A v p)
 (hk:∀b A',ah A' (.h (yg b (wd c id n p))::L)->A'.Wf->A.le A'->k (.tuple #[pv b,.int .i64 0]) A'):az Tryz.prog 11 [c.v,.int .i64 id,.int .i64 n,v] A k:=by
 refine aH Tryz.func11 λ_=>?_;have hl:p.length<=64:=(fY hp).1;obtain⟨o,cc,rfl,_⟩:=h.dO;have AE:=oL c hc;have jV:=λO=>tC hF (.slice o p.length cc) p (A.alloc O) (gZ.le (AW.le.alloc A O) hw h);have VY:=λ{A:AW} {L:List It} {k:Value->AW->Prop}=>JN c (A:=A) (L:=L) (k:=k);generalize MY:cK p=pp at hp jV;obtain⟨p1,p2⟩:=pp;dsimp only at hp;subst hp;unfold nd at jV;have a1:¬n<1:=by omega
 have a2:¬16<n:=by omega
 have a3:¬id<0:=by omega
 have a4:¬n<=id:=by omega
 obtain⟨I2,vV,KN,c0,c1,c2,c3,BA,IZ,KV,Ku,wH,Ja⟩:=c;simp only [bH.v,bH.cells] at AE VY ⊢;revert hS hw;(repeat first|revert hc|revert R|revert K);refine W (J3 (od Av) @AE @jV) (J5 a1 a2 a3 a4 bF) ?_<;>(unhygienic intros);have w1:=hw.alloc (.cells [.int .i64 I2,.int .i64 vV,.int .i64 KN,.int .i64 c0,.int .i64 c1,.int .i64 c2,.int .i64 c3,.int .i64 BA,.int .i64 IZ,.int .i64 KV,.int .i64 Ku,.int .i64 wH,.bool Ja] true 1);have h1:ah _ (.at A.next _::L):=bn.alloc hS hw (.cells [.int .i64 I2,.int .i64 vV,.int .i64 KN,.int .i64 c0,.int .i64 c1,.int .i64 c2,.int .i64 c3,.int .i64 BA,.int .i64 IZ,.int .i64 KV,.int .i64 Ku,.int .i64 wH,.bool Ja] true 1);refine bV (Gf _ _ _ _ (gZ.le (AW.le.alloc A _) hw h) (Rs p) (by omega)) ?_;rintro u A4 ⟨ho4,M6,VQ⟩ _ _
 first|refine⟨M6,?_⟩|skip
 have h4:ah A4 (.h (E1 u p)::.at A.next _::L):=ep.jF h1 w1 M6 ho4;obtain⟨o4,c4,rfl,_⟩:=ho4.is.dO;have hg4:=h4.g 1 rfl;revert hS hw;(repeat first|clear hS|clear hw|revert hc|revert R|revert K);refine W (J1 (od Av)) (J2 hg4 bF) ?_<;>(unhygienic intros);refine VY VQ h4 ?_;intro n5 A5 h5 ED HZ
 first|refine⟨HZ,?_⟩|skip
 revert hS hw;(repeat first|clear hS|clear hw|revert hc|revert R|revert K);refine W (J1 (od Av)) (J1 bF) ?_<;>(unhygienic intros);refine bV (Ol A5.next ⟨0,.zero,0,false,0,⟨I2,vV,KN,c0,c1,c2,c3,BA,IZ,KV,Ku,wH,Ja⟩,id,n,0,.zero,0,false,0⟩ (.pointer none) (.slice none 0 0) (.pointer none) (.pointer none) (pv n5) (.slice none 0 0) o4 p.length c4 0 _ (AW.dw _ _)) ?_;rintro u A6 rfl _ _
 first|refine⟨AW.le.refl _,?_⟩|skip
 revert hS hw;(repeat first|clear hS|clear hw|revert hc|revert R|revert K);refine W (J1 (od Av)) (J1 bF) ?_<;>(unhygienic intros);refine⟨.tuple #[pv A5.next,.int .i64 0],by simp [bA,aN,aO],?_⟩
 have h6:ah ((A5.alloc (oT ⟨0,.zero,0,false,0,⟨I2,vV,KN,c0,c1,c2,c3,BA,IZ,KV,Ku,wH,Ja⟩,id,n,0,.zero,0,false,0⟩ ⟨.pointer none,.slice none 0 0,.pointer none,.pointer none,.slice o4 p.length c4,pv n5,.slice none 0 0⟩)).set A5.next (some (oT ⟨0,.zero,0,false,0,⟨I2,vV,KN,c0,c1,c2,c3,BA,IZ,KV,Ku,wH,Ja⟩,id,n,0,.zero,0,decide ((0:Int)=p.length),0⟩ ⟨.pointer none,.slice none 0 0,.pointer none,.pointer none,.slice o4 p.length c4,pv n5,.slice none 0 0⟩))) (.at A5.next (oT ⟨0,.zero,0,false,0,⟨I2,vV,KN,c0,c1,c2,c3,BA,IZ,KV,Ku,wH,Ja⟩,id,n,0,.zero,0,decide ((0:Int)=p.length),0⟩ ⟨.pointer none,.slice none 0 0,.pointer none,.pointer none,.slice o4 p.length c4,pv n5,.slice none 0 0⟩)::.h (ni n5 ⟨I2,vV,KN,c0,c1,c2,c3,BA,IZ,KV,Ku,wH,Ja⟩ [])::.h (E1 (.slice o4 p.length c4) p)::.at A.next (.cells [.int .i64 I2,.int .i64 vV,.int .i64 KN,.int .i64 c0,.int .i64 c1,.int .i64 c2,.int .i64 c3,.int .i64 BA,.int .i64 IZ,.int .i64 KV,.int .i64 Ku,.int .i64 wH,.bool Ja] true 1)::L):=
  bn.set (bn.alloc h5 ED _) _
 refine hk A5.next _ ?_ ((ED.alloc _).set _ (by simp)) (((AW.le.alloc A _).trans M6).trans (HZ.trans (AW.le.kQ A5 _ _)));have h7:=ah.Vc (ah.Vc (ah.Vc (ah.Ub (ah.Ub h6))));have e:decide ((0:Int)=p.length)=decide (p.length=0):=by
  by_cases e:p.length=0;simp [e];rw [decide_eq_false e,decide_eq_false (by omega)]
 rw [e] at h7;have h8:=yg.dU (b:=A5.next) (t:=wd ⟨I2,vV,KN,c0,c1,c2,c3,BA,IZ,KV,Ku,wH,Ja⟩ id n p) (f:=⟨0,0,0,n5,.slice none 0 0,.slice none 0 0⟩) (vc:=.slice o4 p.length c4) (K:=.at A.next (.cells [.int .i64 I2,.int .i64 vV,.int .i64 KN,.int .i64 c0,.int .i64 c1,.int .i64 c2,.int .i64 c3,.int .i64 BA,.int .i64 IZ,.int .i64 KV,.int .i64 Ku,.int .i64 wH,.bool Ja] true 1)::L) h7 (by
  show aQ _ [.at A5.next (oT ⟨0,.zero,0,false,0,⟨I2,vV,KN,c0,c1,c2,c3,BA,IZ,KV,Ku,wH,Ja⟩,id,n,0,.zero,0,decide (p.length=0),0⟩ ⟨.pointer none,.slice none 0 0,.pointer none,.pointer none,.slice o4 p.length c4,pv n5,.slice none 0 0⟩),.h eP,.h (jf (.slice none 0 0) []),.h eP,.h eP,.h (E1 (.slice o4 p.length c4) p),.h (ni n5 _ []),.h (jf (.slice none 0 0) [])] _
  first|exact pA|exact kA)
 have h9:=ah.drop2 h8;rw [<-e] at h9;exact h9
end
section
abbrev Au:List (Nat×Nat):=[(0,0),(1,0),(2,0),(3,0),(4,0),(5,0),(6,0),(7,0),(8,0)]
open T7
variable [Gl]
variable [AF]
theorem Lg {eW:Int->Int->Int->Int} (hA:D7 eW) (hF:FOK) {c:bH} {nt k:Nat} (hc:cx c) (hk:k+1<2^24) (b pb:Nat) (t:aV) (M:Mm) (hM:js c nt k M) (h:j5 c nt k t) (sS:La t.av) (hd:t.done=false) :
 d8 Tryz.prog 13 [pv b,pv pb] [.h (yg b t),dH pb M] (λev v=>v=.tuple #[dL (t.step eW M).2.1,ev,.bool true]) (λev=>[.h (yg b (t.step eW M).2.2.2.1),dH pb (t.step eW M).2.2.2.2,.h (kh ev (t.step eW M).2.2.1)]):=by
 intro A F hw hS;have cF:=h.co.lt hd;have jV:=h.co.pc;obtain⟨q,hR,mg⟩:=yg.toQ hS .z (by omega);refine bV (G9 hA hF hc hk q b pb t M hM h sS hR hd A F hw mg) ?_;rintro v A' ⟨ev,h1,h2⟩ _ _;exact⟨ev,h1,fI.toP h2 .z (by rw [Ef];exact hR)⟩
theorem Mk (b:Nat) (d:vB) (w:NJ) (l:List lT) (hl:l.length<2^30) {A:AW} {L K:List It} {k:Value->AW->Prop} (hw:A.Wf) (hS:ah A L) (hp:aQ L [.at b (oT d w),.h (jf w.vo l)] K)
 (hk:∀o c A',ah A' (.h (jf (.slice o l.length c) l)::L)->A'.Wf->A.le A'->k (.slice o l.length c) A'):az Tryz.prog 22 [pv b] A k:=by
 have mg:ah A (.at b (oT d w)::.h (jf w.vo l)::K):=by
  unfold ah at hS ⊢;rw [hp.aL] at hS;refine bn.dV hS ?_;show (pt b (oT d w)*(jf w.vo l*eP))*aL K=pt b (oT d w)*(jf w.vo l*aL K);rw [dt]
  ac_rfl
 have hq:=mg.dT hw;dsimp only [aa,af,aK,ba,bD,dN] at hq;have Kb:gZ A 3 w.vo l.length (oY l):=ah.EA mg (.s .z);refine aH Tryz.func22 λ_=>?_
 repeat' (first|(refine jK λR hR=>?_;simp [an,ax,hq,AW.ab,aD];try simp (disch:=omega) only [ay,ap,an,ax])|(refine hR _ _ ?_;clear hR R)|(refine hK _ _ ?_;clear hK K)|refine nx ?_|refine wn λK hK=>?_|simp only [wS]|(show cB _ _ _ _ _ _;refine nx ?_)|(refine wc rfl (λhc=>?_) (λhc=>?_)<;>(try simp at hc)<;>(try omega))|(refine ib (λhc=>?_) (λhc=>?_)<;>(try omega)<;>(try simp (disch:=omega) only [ay,ap])))
 refine bV (Ge _ _ _ _ Kb (Lu l) hl) ?_;rintro u A4 ⟨ho,fo,VQ⟩ _ _;obtain⟨o,c,rfl,_⟩:=ho.is.dO
 first|refine⟨fo,?_⟩|skip
 revert hq hS hw;(repeat first|clear hq|clear hS|clear hw|revert hc|revert R|revert K);refine W cy (J1 bF) ?_<;>(unhygienic intros);refine⟨_,by first|rfl|(simp;rfl),?_⟩;exact hk o c A4 (ep.jF hS hw fo ho) VQ fo
theorem Hu:∀(l:List lT) (j:Nat) (hj:j<l.length),((oY l).drop (j*3)).take 3=(l[j]).cells
 | x::l,0,_=>by simp [oY,lT.cells]
 | x::l,j+1,h=>by
   have:=Hu l j (by simpa using h);simp only [List.getElem_cons_succ];rw [<-this];have e:(j+1)*3=3+j*3:=(by omega);rw [e,<-List.drop_drop];rfl
theorem OS {A:AW} {v:Value} {l:List lT} (h:gZ A 3 v l.length (oY l)) {i:Nat} (hi:i<l.length) :
 ∃p c cD own,v=.slice (some p) l.length c/\A.bt p.block=some (.cells cD own 3)/\p.off+i*3+3<=cD.length/\(cD.drop (p.off+i*3)).take 3=[.int .i64 l[i].pc,.int .i64 l[i].gd,.int .u64 l[i].val]:=by
 rcases h with ⟨_,h0,_⟩|⟨p,c,cD,own,u,e1,e2,e3,e4,e5,e6⟩;omega;subst e4;refine⟨p,c,cD,own,e1,e3,by omega,?_⟩;have:=Hu l i hi;rw [e6,List.drop_take,List.drop_drop,List.take_take,Nat.min_eq_left (by omega)] at this;exact this
theorem Dy (va vb:Value) (l:List lT) (A:AW) (ha:gZ A 3 va l.length (oY l)) (hb:gZ A 3 vb l.length (oY l)) (hl:l.length<2^30) :
 az Tryz.prog 21 [va,vb] A (λv A'=>v=.bool true/\A.le A'):=by
 refine aH Tryz.func21 λhw=>?_;obtain⟨oa,ca,rfl,_⟩:=ha.dO;obtain⟨ob,cb,rfl,_⟩:=hb.dO;revert hw;refine W (J1 (od Au)) (J1 @AW.ab) ?_<;>(unhygienic intros);refine dW (λk fr A'=>A.le A'/\A'.Wf/\∃i:Nat,k=l.length-i/\i<=l.length/\fr 0=.slice oa l.length ca/\fr 1=.slice ob l.length cb/\fr 5=.int .i64 i) l.length ?_ ?_;refine⟨AW.le.refl A,hw,0,by simp,by simp,rfl,rfl,rfl⟩;rintro k fr A' ⟨fo,lp,i,rfl,hi,h0,h1,h5⟩;by_cases cF:i<l.length
 . obtain⟨x1,c1,r1,w1,q1,q2,q3,q4⟩:=OS (gZ.le fo hw ha) cF;obtain⟨x2,c2,r2,w2,p1,p2,p3,p4⟩:=OS (gZ.le fo hw hb) cF;injection q1 with q1 _ q5;injection p1 with p1 _ p5;subst q1 p1 q5 p5;have hP:=D9 (i:=i);refine bh ?_
   repeat' (first|(refine jK λR hR=>?_;simp [an,ax,h0,h1,h5,q2,q3,q4,p2,p3,p4,cF,hP,AW.ab];try simp (disch:=omega) only [ay,ap,an,ax])|(refine hR _ _ ?_;clear hR R)|(refine hK _ _ ?_;clear hK K)|refine nx ?_|refine wn λK hK=>?_|simp only [wS,Au]|refine wl Tryz.mx Au (by decide +kernel) λK hK=>?_|(show cB _ _ _ _ _ _;refine nx ?_)|(refine wc rfl (λhc=>?_) (λhc=>?_)<;>(try simp at hc)<;>(try omega))|(refine ib (λhc=>?_) (λhc=>?_)<;>(try omega)<;>(try simp (disch:=omega) only [ay,ap])))
   refine⟨l.length-(i+1),by omega,fo,lp,i+1,rfl,by omega,?_,?_,?_⟩;simp [h0];simp [h1];simp
 refine bh ?_;revert hw;(repeat first|clear hw|revert hc|revert R|revert K);refine W (J1 (od Au)) (J4 h0 h1 h5 cF) ?_<;>(unhygienic intros);exact⟨_,by first|rfl|(simp;rfl),rfl,fo⟩
end
section
variable [Gl]
structure McS where
 TG:List aV
 M:Mm
 Li:List gu
 evs:List St
def gu.cells (s:gu):List Value:=[.int .i64 s.ak,.int .i64 s.xh,.int .i64 s.L8,.int .i64 s.Ap.gd,.int .i64 s.Ap.cell,.int .i64 s.Ap.dm,.int .u64 s.Ap.eV,.int .u64 s.Ap.put,.bool s.Ap.done]
def stpC (l:List gu):List Value:=l.flatMap gu.cells
structure McF where
 pb:Nat
 vt:Value
 vs:Value
 ve:Value
end
section
variable [Gl]
def kz (x:bg):Bool:=decide (x.op≠7/\x.op≠8/\x.op≠17/\x.op≠5/\x.op≠6/\x.op≠4)
def mO (v:Nat->Int) (n:Nat):List bg:=(List.range n).map λj:Nat=>⟨1,(j:Int),0,0,v j⟩
def iE (v:Nat->Int) (q:List bg):List bg:=mO v 8++⟨7,0,0,0,1⟩::(q.filter kz++[⟨9,0,0,0,0⟩,⟨8,0,0,0,0⟩])
variable {v:Nat->Int} {q:List bg}
theorem MT {q:List bg} (h:(cK q).2=0) {x:bg} (hx:x∈q):bT x=0:=by
 obtain⟨_,h1,_⟩:=fY h;obtain⟨j,hj,rfl⟩:=List.getElem_of_mem hx;have:=h1 j q[j] (List.getElem?_eq_getElem hj);unfold rx at this;by_cases e:bT q[j]=0;exact e;rw [ap e] at this;exact this
theorem Iu (v:Nat->Int) (n:Nat):mO v (n+1)=mO v n++[⟨1,(n:Int),0,0,v n⟩]:=by unfold mO;rw [List.range_succ,List.map_append];rfl
theorem kL (v:Nat->Int) (n:Nat):(mO v n).length=n:=by unfold mO;rw [List.length_map,List.length_range]
theorem Iv (v:Nat->Int):∀n,n<=8->iP (mO v n) false
 | 0,_=>.nil
 | n+1,h=>by
   rw [Iu];exact iP.lz (x:=⟨1,(n:Int),0,0,v n⟩) (Iv v n (by omega)) ⟨by simp [bT,fE,ko,jd,km,ej];omega,by simp,by simp⟩ (by simp [uP])
theorem NA {ps:List bg} (h:iP ps true):∀(l:List bg),(∀x∈l,D6 x/\uP true x.op/\x.op≠8)->iP (ps++l) true:=by
 intro l
 induction l generalizing ps with
 | nil=>intro _;rw [List.append_nil];exact h
 | cons x l ih=>
   intro hl;obtain⟨h1,h2,h3⟩:=hl x (by simp);have h4:=iP.lz h h1 h2;rw [show T8 true x.op=true by unfold T8;rw [ap h3];split<;>rfl] at h4;have:=ih h4 λy hy=>hl y (by simp [hy]);rwa [List.append_assoc,List.singleton_append] at this
theorem L5 (h0:(cK q).2=0) (ha:Aq q) (hn:IW false q):∀x∈q.filter kz,D6 x/\(x.op=1\/x.op=2\/x.op=3\/x.op=9\/x.op=10\/x.op=11\/x.op=14\/x.op=15):=by
 intro x hx;rw [List.mem_filter] at hx;obtain⟨h1,h2⟩:=hx;have h3:=MT h0 h1;obtain⟨h4,h5⟩:=hn x h1;have h5:=h5 rfl;have h6:x.op<18:=by
  unfold bT at h3;split at h3;cases h3;omega
 unfold kz at h2;have h2:=of_decide_eq_true h2;exact⟨⟨h3,λe=>by omega,ha x h1⟩,by omega⟩
theorem Lo (h0:(cK q).2=0) (ha:Aq q) (hn:IW false q):iP (iE v q) false/\Aq (iE v q):=by
 have g1:=iP.lz (x:=⟨7,0,0,0,1⟩) (Iv v 8 (Nat.le_refl _)) ⟨by decide,by simp,by simp⟩ (by simp [uP]);have g2:=NA (ps:=mO v 8++[⟨7,0,0,0,1⟩]) g1 (q.filter kz) λx hx=>by
  obtain⟨h1,h2⟩:=L5 h0 ha hn x hx;exact⟨h1,by unfold uP;rcases h2 with e|e|e|e|e|e|e|e<;>simp [e],by omega⟩
 have g3:=iP.lz (x:=⟨9,0,0,0,0⟩) g2 ⟨by decide,by simp,by simp⟩ (by simp [uP]);have g4:=iP.lz (x:=⟨8,0,0,0,0⟩) g3 ⟨by decide,by simp,by simp⟩ (by simp [uP,T8]);have e:mO v 8++[⟨7,0,0,0,1⟩]++q.filter kz++[⟨9,0,0,0,0⟩]++[⟨8,0,0,0,0⟩]=iE v q:=by unfold iE;simp
 rw [e] at g4;exact⟨g4,g4.eW⟩
theorem Jn:(iE v q).length=11+(q.filter kz).length:=by
 unfold iE;rw [List.length_append,kL,List.length_cons,List.length_append];simp;omega
theorem OC (h0:(cK q).2=0) (ha:Aq q) (hn:IW false q) (hl:q.length<=50):(cK (iE v q)).2=0:=
 (Lo h0 ha hn).1.ok (by rw [Jn];have:=List.length_filter_le kz q;omega)
theorem MR (i:Nat) (hi:i<(q.filter kz).length):∃x∈q.filter kz,(iE v q)[9+i]? = some x:=by
 refine⟨(q.filter kz)[i],List.getElem_mem hi,?_⟩;unfold iE;rw [List.getElem?_append_right (by rw [kL];omega),kL,show 9+i-8=i+1 by omega,List.getElem?_cons_succ,List.getElem?_append_left hi,List.getElem?_eq_getElem hi]
theorem EB (i:Nat) (hi:i<2):(iE v q)[9+(q.filter kz).length+i]? = [(⟨9,0,0,0,0⟩:bg),⟨8,0,0,0,0⟩][i]?:=by
 unfold iE;rw [List.getElem?_append_right (by rw [kL];omega),kL,show 9+(q.filter kz).length+i-8=((q.filter kz).length+i)+1 by omega,List.getElem?_cons_succ,List.getElem?_append_right (by omega),show (q.filter kz).length+i-(q.filter kz).length=i by omega]
theorem rl_q (h0:(cK q).2=0) (ha:Aq q) (hn:IW false q):Vv (iE v q) v:=by
 have e0:=EB (v:=v) (q:=q) 0 (by decide);have e1:=EB (v:=v) (q:=q) 1 (by decide);have hl:=Jn (v:=v) (q:=q);refine⟨by omega,λj hj=>?_,?_,λj h1 h2=>?_,?_,?_⟩;unfold iE;rw [List.getElem?_append_left (by rw [kL];exact hj)];unfold mO;rw [List.getElem?_map,List.getElem?_range hj];rfl;unfold iE;rw [List.getElem?_append_right (by rw [kL];omega),kL];rfl;by_cases h3:j-9<(q.filter kz).length;obtain⟨x,hx,SN⟩:=MR (v:=v) (j-9) h3;rw [show 9+(j-9)=j by omega] at SN;have:=(L5 h0 ha hn x hx).2;unfold cu;rw [SN];show x.op=0\/_;simp only [Option.map_some,Option.getD_some];omega;have:j=9+(q.filter kz).length+0:=by omega
 subst this;unfold cu;rw [e0];simp;rw [show (iE v q).length-2=9+(q.filter kz).length+0 by omega];unfold cu;rw [e0];rfl;rw [show (iE v q).length-1=9+(q.filter kz).length+1 by omega];unfold cu;rw [e1];rfl
variable [AF]
structure NK (c:bH) (p:List bg) (v:Nat->Int) (n i:Nat) (t:aV) (M:Mm):Prop where
 ok:j5 c 1 i t
 mo:js c 1 i M
 st:∃m,m+i<=n/\RlS c.ag.toNat c.reads.toNat p v m t M
theorem NK.step {eW:Int->Int->Int->Int} {c:bH} {p:List bg} {n i:Nat} {t:aV} {M:Mm} (hc:cx c) (hk:i<2^24) (hQ:Vv p v) (h:NK c p v n i t M) (hd:t.done=false):NK c p v n (i+1) (t.step eW M).2.2.2.1 (t.step eW M).2.2.2.2:=by
 obtain⟨m,h1,h2⟩:=h.st;obtain⟨m',h3,h4⟩:=Mz (eW:=eW) hc (by omega) h.mo hQ (Nat.le_refl _) (Nat.le_refl _) h.ok h2 hd;have h5:=Lj (eW:=eW) hc (by omega) h.mo h.ok;have e:t.step eW M=(true,{ (t.ly eW M).1 with ak:=t.id },(t.ly eW M).2):=by unfold aV.step;rw [ap (by rw [hd];decide)]
 rw [e] at h5 ⊢;exact⟨h5.1,h5.2,m',by omega,h4⟩
theorem NK.bI {c:bH} {p:List bg} {n i:Nat} {t:aV} {M:Mm} (h:NK c p v n i t M) (hq:11<=p.length) (h2:t.done=true\/n<=i):t.done=true/\t.df=SD v/\lm t.gA:=by
 obtain⟨m,h1,h3⟩:=h.st;rcases h3 with ⟨mu,EG,nc,cL,hZ,hz,j,hj,jV,WV,hm⟩|⟨s,j,ha,hB,hZ,hI,hab,hj9,hm⟩|h3;exfalso;rcases h2 with h2|h2;have:=h.ok.co.dn;rw [h2,mu,jV] at this;have:=of_decide_eq_true this.symm;omega;omega;exfalso;have wP:=hB.jl;rcases h2 with h2|h2;have:=h.ok.co.dn;rw [h2,hB.co,hB.pc] at this;have:=of_decide_eq_true this.symm;omega;have:1<=p.length-j-(if s.gD=true then 1 else 0):=by split<;>omega
 omega;exact h3
theorem NK.ot {c:bH} {p:List bg} (hc:cx c) (hQ:Vv p v) (RO:(cK p).2=0) {M:Mm} (hM:js c 1 0 M) (hZ:D3 M) (hz:Tz M) {n:Nat} (hn:18+3*c.ag.toNat+c.reads.toNat+4*p.length<=n):NK c p v n 0 (wd c 0 1 p) M:=
 ⟨Ew (id:=0) ⟨Int.le_refl _,by decide,by decide⟩ RO,hM,18+3*c.ag.toNat+c.reads.toNat+4*p.length,hn,.inl ⟨rfl,rfl,rfl,rfl,hZ,hz,0,by omega,rfl,λi hi=>by omega,by omega⟩⟩
end
section
open T2
variable [Gl]
variable [AF]
structure EvP where
 bb:Nat
 off:Nat
 ee:Nat
 cD:List Value
 r:Value
 w:Value
end
section
open T7
variable [Gl]
theorem Ha (b:Nat) (d:vB) (w:NJ) {A:AW} {L K:List It} {k:Value->AW->Prop} (hw:A.Wf) (hS:ah A L) (hp:aB L (.at b (oT d w)) K) (hk:∀(u:Nat) A',ah A' L->A'.Wf->A.le A'->k (NS d) A'):az Tryz.prog 12 [pv b] A k:=by
 have hg:A.bt b=some (oT d w):=by
  unfold ah at hS;rw [hp.aL] at hS;exact bn.bt hS
 have hb:b<A.next:=hw.lt hg;have gl:(b=A.next)=False:=by simp;omega
 refine aH Tryz.func12 λ_=>?_
 repeat' (first|(refine jK λR hR=>?_;simp [an,ax,hg,gl,AW.ab,aD];try simp (disch:=omega) only [ay,ap,an,ax])|(refine hR _ _ ?_;clear hR R)|(refine hK _ _ ?_;clear hK K)|refine nx ?_|refine wn λK hK=>?_|simp only [wS]|(show cB _ _ _ _ _ _;refine nx ?_)|(refine wc rfl (λhc=>?_) (λhc=>?_)<;>(try simp at hc)<;>(try omega))|(refine ib (λhc=>?_) (λhc=>?_)<;>(try omega)<;>(try simp (disch:=omega) only [ay,ap])))
 refine⟨NS d,by first|(simp [NS,R8.cells];done)|(simp [NS,R8.cells,hg,gl,AW.ab];done)|(simp [NS,R8.cells,hg,gl,AW.ab];rfl),?_⟩;refine hk 0 _ ?_ ?_ ?_;exact(bn.set (bn.alloc hS hw _) _).right;exact(hw.alloc _).set _ (by simp);exact AW.le.kQ A _ _
def vB.stC (d:vB):List Value:=[.int .i64 d.pc,.int .u64 d.df.r0,.int .u64 d.df.r1,.int .u64 d.df.r2,.int .u64 d.df.r3,.int .u64 d.df.r4,.int .u64 d.df.r5,.int .u64 d.df.r6,.int .u64 d.df.r7,.int .i64 d.gA,.bool d.done]
def tstC (l:List vB):List Value:=l.flatMap vB.stC
structure ResF where
 f:ImgF
 t:Option Addr×Nat
 s:Option Addr×Nat
 e:Option Addr×Nat
 o:Option Addr×Nat
end
section
open T2
variable [Gl]
variable [AF]
def EvB (l:List St):Prop:=∀e∈l,e.reads.length<2^38/\e.cM.length<2^38
structure McOk (c:bH) (nt k:Nat) (m:McS):Prop where
 M:js c nt k m.M
 T:∀t∈m.TG,j5 c nt k t/\La t.av
 n:m.TG.length=nt
 s:m.Li.length<=k
 e:m.evs.length<=k
 b:EvB m.evs
end
section
open T7
variable [Gl]
variable [AF]
theorem TS {A:AW} {v:Value} {α:Type} {f:α->List Value} {k:Nat} {l:List α} (hf:∀x,(f x).length=k) (h:gZ A k v l.length (l.flatMap f)) {i:Nat} (hi:i<l.length) :
 ∃p c cD own,v=.slice (some p) l.length c/\A.bt p.block=some (.cells cD own k)/\p.off+i*k+k<=cD.length/\(cD.drop (p.off+i*k)).take k=f l[i]:=by
 rcases h with ⟨_,h0,_⟩|⟨p,c,cD,own,u,e1,e2,e3,e4,e5,e6⟩;omega;have e3':A.bt p.block=some (.cells cD own k):=e4▸e3;have h7:i*k+k<=l.length*k:=by
  have:=Nat.mul_le_mul_right k (show i+1<=l.length by omega);rwa [Nat.add_mul,Nat.one_mul] at this
 refine⟨p,c,cD,own,e1,e3',by omega,?_⟩;have:=vR f k hf l i hi;rw [e6,List.drop_take,List.drop_drop,List.take_take,Nat.min_eq_left (by omega)] at this;exact this
def Vy (A:AW) (v:Value) (l:List St):Prop:=∃q:List IP,q.map Prod.fst=l/\gZ A 6 v q.length (tQ q)/\∀i (hi:i<q.length),dz A .i64 q[i].2.1 q[i].1.reads/\dz A .i64 q[i].2.2 q[i].1.cM
def IsObl (A:AW) (v:Value) (l:List (List lT)):Prop:=∃q:List (Value×List lT),q.map Prod.snd=l/\gZ A 1 v q.length (q.map Prod.fst)/\∀i (hi:i<q.length),gZ A 3 q[i].1 q[i].2.length (oY q[i].2)
structure IsRes (A:AW) (m:McS) (z:ResF):Prop where
 im:Sq A (.agg #[Wr z.f.v0 (m.M 0),Wr z.f.v1 (m.M 1),.int .u64 ((m.M 2).getD 0 0),.int .u64 ((m.M 3).getD 0 0),.int .u64 ((m.M 4).getD 0 0),Wr z.f.v5 (m.M 5),Wr z.f.v6 (m.M 6),Wr z.f.v7 (m.M 7)]) m.M
 th:gZ A 11 (.slice z.t.1 m.TG.length z.t.2) (m.TG.map aV.d).length (tstC (m.TG.map aV.d))
 st:gZ A 9 (.slice z.s.1 m.Li.length z.s.2) m.Li.length (stpC m.Li)
 ev:Vy A (.slice z.e.1 m.evs.length z.e.2) m.evs
 ob:IsObl A (.slice z.o.1 m.TG.length z.o.2) (m.TG.map aV.gx)
end
end Go.Stx
