/-
 The program's redo log: place, Get.
-/
import Derived.Test.YtncmjklabcoeaaaGreatD14
set_option linter.unusedVariables false
set_option linter.unusedSimpArgs false
set_option maxRecDepth 20000
set_option maxHeartbeats 4000000
namespace Go.Stx
open Go Go.Proofs
attribute [local irreducible] fj cm aH bB dK ei TW hN
section
abbrev xG:List (Nat×Nat):=[(0,0),(1,0),(2,0),(3,0),(4,0),(5,0),(6,0),(7,0),(8,0),(9,0),(10,0),(11,0),(12,0),(13,0),(14,0)]
abbrev xF:List (Nat×Nat):=[(0,0),(1,0),(2,0),(3,0),(4,0),(5,0),(6,0),(7,0),(8,0),(9,0),(10,0),(11,0),(12,0),(13,0),(14,0),(15,0),(16,0),(17,0),(18,0),(19,0),(20,0),(21,0),(22,0),(23,0),(24,0)]
open T0
theorem wK (b:Nat) (va vv vi:Value) (s:ln) (a:Int) (A:AW) (iK:jq s) (ha:0≤a) (BG:s.dA≤32) (LG:s.index.length≤64) (hg:A.cy b=some (gw s.dA va vv vi))
 (GR:cF A .i64 va s.bl) (LO:cF A .i64 vi s.index) :
 ∃p,p<s.index.length∧((∃e,lU s.bl a=some e∧ix s.index p=e)∨(lU s.bl a=none∧ix s.index p<0∧sn s.index (jm s.index.length a)=p))∧
  eF 233 [.pointer (some ⟨b,0,none⟩),.int .i64 a] A (.int .i64 p):=by
 obtain⟨d,hd,Pn,xy⟩:=iK.Oi a
 have hn:0<s.index.length:=by omega
 refine⟨_,uf hn,xy,?_⟩
 refine ab Tryz.func233 rfl (by kernel_rfl) fun _=>?_
 obtain⟨oa,ca,rfl,_⟩:=GR.cL
 obtain⟨oi,ci,rfl,_⟩:=LO.cL
 dsimp only [gw] at hg
 have hk:=Cp (n:=s.index.length) hn LG ha
 have Us:=uY hn a
 generalize jm s.index.length a=k0 at *
 have ke:¬s.index=[]:=fun e=>by rw [e] at hn;simp at hn
 have cU:s.bl.length≤32:=Nat.le_trans iK.dA BG
 refine W (J2 (od xG) (od xF)) (J4 hg hk ke @AW.aa) (J1 ?_)<;>unhygienic intros
 refine ed (fun k fr A'=>A=A'∧∃m:Nat,k=d-m∧m≤d∧fr 0=.pointer (some ⟨b,0,none⟩)∧fr 1=.int .i64 a∧fr 5=.int .i64 (st s.index.length k0 m)) d ?_ ?_
 · refine⟨rfl,0,by simp,by simp,rfl,rfl,by simp [ue Us]⟩
 · rintro k fr A' ⟨rfl,m,rfl,hm,h0,h1,h5⟩
   have dn:=Ik (n:=s.index.length) (k:=k0) hn LG m
   have vP:=uf (k:=k0) (d:=m) hn
   obtain⟨p,dh,rfl,eH,dg⟩:=LO.at vP
   have iz:s.index[st s.index.length k0 m]=ix s.index (st s.index.length k0 m):=by unfold ix;rw [List.getD_eq_getElem?_getD,List.getElem?_eq_getElem vP];rfl
   rw [iz] at dg
   have T4:=iK.Qp _ vP
   by_cases dQ:m<d
   · obtain⟨r5,RD⟩:=Pn m dQ
     obtain⟨x,hx⟩:∃x:Nat,ix s.index (st s.index.length k0 m)=x:=⟨(ix s.index (st s.index.length k0 m)).toNat,by omega⟩
     rw [hx] at dg RD T4
     have TO:x<s.bl.length:=by omega
     obtain⟨pa,Tn,rfl,Lq,DL⟩:=GR.at TO
     have RC:¬s.bl[x]=a:=by
      intro e
      apply RD
      rw [Int.toNat_natCast,List.getD_eq_getElem?_getD,List.getElem?_eq_getElem TO];exact e
     generalize s.bl[x]=y at *
     refine eW ?_
     (repeat first|revert hc|revert zn|revert zA|revert R|revert K);refine W (J2 (od xG) (od xF)) (pw hg h0 h1 h5 eH dg Lq DL TO RC vP dn ke @AW.aa) (J1 ?_)<;>unhygienic intros
     refine⟨d-(m+1),by omega,rfl,m+1,rfl,by omega,?_,?_,?_⟩
     · simp [h0]
     · simp [h1]
     · simp
   · obtain rfl:m=d:=by omega
     rcases xy with ⟨e,s8,he⟩|⟨s8,he,_⟩
     · obtain⟨h3,h4,_⟩:=mq s8
       rw [he] at dg
       obtain⟨pa,Tn,rfl,Lq,DL⟩:=GR.at h3
       have Yw:s.bl[e]=a:=by
        rw [List.getD_eq_getElem?_getD,List.getElem?_eq_getElem h3] at h4;exact h4
       rw [Yw] at DL
       refine eW ?_
       (repeat first|revert hc|revert zn|revert zA|revert R|revert K);refine W (J2 (od xG) (od xF)) (Ml hg h0 h1 h5 eH dg Lq DL h3 vP ke @AW.aa) (J1 ?_)<;>unhygienic intros
       exact⟨_,by simp [h5],rfl,rfl⟩
     · have S2:¬0≤ix s.index (st s.index.length k0 m):=by omega
       refine eW ?_
       (repeat first|revert hc|revert zn|revert zA|revert R|revert K);refine W (J2 (od xG) (od xF)) (Kw hg h0 h1 h5 eH dg S2 vP ke @AW.aa) (J1 ?_)<;>unhygienic intros
       exact⟨_,by simp [h5],rfl,rfl⟩
end
section
abbrev uI:List (Nat×Nat):=[(0,0),(1,0),(2,0),(3,0),(4,0),(5,0),(6,0),(7,0),(8,0),(9,0),(10,0),(11,0),(12,0),(13,3)]
abbrev uH:List (Nat×Nat):=[(0,0),(1,0),(2,0),(3,0),(4,0),(5,0),(6,0),(7,0),(8,0),(9,0),(10,0)]
abbrev uG:List (Nat×Nat):=[(0,0),(1,0),(2,0),(3,0),(4,0),(5,0),(6,0),(7,0),(8,0),(9,0),(10,0),(11,3)]
open T0
theorem wN (b:Nat) (s:ln) (a v:Int) (iK:jq s) (ha:0≤a) (BG:s.dA≤32) (LG:s.index.length≤64) :
 aP Tryz.prog 167 [.pointer (some ⟨b,0,none⟩),.int .i64 a,.int .u64 v] [.h (fY b s)] (fun u=>u=.bool (di s a v).1) (fun _=>[.h (fY b (di s a v).2)]):=by
 intro A F hw l9
 refine ab Tryz.func167 rfl (by kernel_rfl) fun _=>?_
 obtain⟨va,vv,vi,hS⟩:=fY.open l9 .z
 try dsimp only [na,zo] at hS
 have GR:=an.gM hS (.s .z)
 have ME:=an.gM hS (.s (.s .z))
 have LO:=an.gM hS (.s (.s (.s .z)))
 have nM:=hS.g 0 rfl
 obtain⟨p,hp,xy,Az⟩:=wK b va vv vi s a A iK ha BG LG nM GR LO
 have cU:s.bl.length≤32:=Nat.le_trans iK.dA BG
 have Zl:=iK.xt
 have hg:=nM
 dsimp only [gw] at hg
 obtain⟨oa,ca,rfl,_⟩:=GR.cL
 obtain⟨ov,cv,rfl,_⟩:=ME.cL
 obtain⟨bi,tH,ci,Bc,rfl,P3,eH,fz,mg⟩:=an.Cf hS (.s (.s (.s .z))) hp
 have Ko:=mg.g 0 rfl
 have MD:¬a<0:=by omega
 have QB:(p:Int)<s.index.length:=by omega
 have RQ:s.index.getD p 0=ix s.index p:=by
  unfold ix
  rw [List.getD_eq_getElem?_getD,List.getD_eq_getElem?_getD,List.getElem?_eq_getElem hp];rfl
 rw [RQ] at eH
 rcases xy with ⟨e,s8,PJ⟩|⟨s8,qK,oE⟩
 · rw [PJ] at eH
   have dQ:e<s.df.length:=by rw [iK.xt];exact(mq s8).1
   have jM:di s a v=(true,{ s with df:=s.df.set e v }):=by simp [di,s8]
   obtain⟨bv,Jz,YM,MV,hv,UG,Lp,Rv,lp⟩:=an.Cf mg (.s (.s (.s .z))) dQ
   injection hv with vN Kl EJ
   subst vN;subst EJ
   have xK:=lp.g 0 rfl
   revert hS hw;refine W (J4 (od uI) (od uH) (od uG) @Az) (MK hg MD Ko xK eH Lp dQ hp QB @AW.aa @af.eq_1) (J1 ?_)<;>unhygienic intros
   refine⟨_,by first|rfl|(simp;rfl),by simp [jM],?_⟩
   rw [jM]
   have h1:=Rv v _ _ (an.jd lp .z)
   have h2:=an.cC h1 (G:=.at bi (.cells Bc true 1)::.h (ar .u64 (.slice (some ⟨bv,Jz,none⟩) s.df.length cv) (s.df.set e v))::.at b (gw s.dA (.slice oa s.bl.length ca) (.slice (some ⟨bv,Jz,none⟩) s.df.length cv) (.slice (some ⟨bi,tH,none⟩) s.index.length ci))::.h (ar .i64 (.slice oa s.bl.length ca) s.bl)::[.h F]) (.s (.s .z) (.s .z (.s .z (.s .z (.s .z .z)))))
   have h3:=fz (s.index.getD p 0) _ _ (by
    have e1:Bc.set (tH+p) (.int .i64 (s.index.getD p 0))=Bc:=by
     apply List.ext_getElem?
     intro q
     by_cases eq:tH+p=q
     · subst eq
       rw [List.getElem?_set_self (by omega),RQ,eH,PJ]
     · rw [List.getElem?_set_ne eq]
    rw [e1]
    exact h2)
   have e2:s.index.set p (s.index.getD p 0)=s.index:=by
    apply List.ext_getElem?
    intro q
    by_cases eq:p=q
    · subst eq
      rw [List.getElem?_set_self hp,List.getD_eq_getElem?_getD,List.getElem?_eq_getElem hp];rfl
    · rw [List.getElem?_set_ne eq]
   rw [e2] at h3
   exact fY.eh (s:={ s with df:=s.df.set e v }) (va:=.slice oa s.bl.length ca) (vv:=.slice (some ⟨bv,Jz,none⟩) s.df.length cv) (vi:=.slice (some ⟨bi,tH,none⟩) s.index.length ci)
    h3 (.s (.s (.s .z)) (.s (.s (.s .z)) (.s (.s .z) (.s .z .z))))
 · have IO:¬0≤ix s.index p:=by omega
   by_cases hfull:s.bl.length=s.dA
   · have jM:di s a v=(false,s):=by simp [di,s8,hfull]
     have h3:(s.bl.length:Int)=s.dA:=by omega
     revert hS hw;(repeat first|clear hS|clear hw|revert hc|revert zn|revert zA|revert R|revert K);refine W (J4 (od uI) (od uH) (od uG) @Az) (J9 hg MD Ko eH hp QB h3 IO @AW.aa) (J1 ?_)<;>unhygienic intros
     refine⟨_,rfl,by simp [jM],?_⟩
     rw [jM]
     exact l9
   · have jM:di s a v=(true,{ s with bl:=s.bl++[a],df:=s.df++[v],index:=s.index.set p s.bl.length }):=by
      simp [di,s8,hfull,oE]
     have h3:¬(s.bl.length:Int)=s.dA:=by omega
     have xv:(bi=b)=False:=eq_false (fun e=>by
      have:=mg.eA hw
      dsimp only [bp,bY,cS,eN] at this
      have h5:=this.2.2.1.1.1
      rw [h5] at e
      exact e.elim)
     revert hS hw;(repeat first|clear hS|clear hw|revert hc|revert zn|revert zA|revert R|revert K);refine W (J4 (od uI) (od uH) (od uG) @Az) (MK hg MD Ko eH hp QB h3 IO xv @AW.aa @af.eq_1) (J1 ?_)<;>unhygienic intros
     have hS:=fz s.bl.length _ _ (an.jd mg .z)
     have hw:=hw.set (some (.cells (Bc.set (tH+p) (.int .i64 s.bl.length)) true 1)) (hw.lt Ko)
     generalize A.set bi (some (.cells (Bc.set (tH+p) (.int .i64 s.bl.length)) true 1))=A1 at *
     have hq:=ZX hS hw
     repeat' (first
     | (with_reducible apply Sz;(·first|(simp;done)|(simp;rfl));(·first|(simp;done)|(simp;rfl));(·exact wA);(·exact sA);(·first|exact pA|exact kA);(·first|(simp;done)|(simp;rfl)|(simp [hq];done)|(simp [hq];rfl));(·first|omega|(simp;omega));(·exact fun A' kL=>(by have h9:=an.mZ kL<;>simp only [bp,gw] at h9<;>simp only [h9]));rintro _ _ _ hS hw _;(try dsimp only [AW.aZ] at hS);have hq:=ZQ hS hw)
     | (with_reducible apply Sy;(·first|(simp;done)|(simp;rfl));(·first|(simp;done)|(simp;rfl));(·exact wA);(·exact sA);(·first|exact pA|exact kA);(·first|(simp;done)|(simp;rfl)|(simp [hq];done)|(simp [hq];rfl));(·first|omega|(simp;omega));(·exact fun A' kL=>(by have h9:=an.mZ kL<;>simp only [bp,gw] at h9<;>simp only [h9]));rintro _ _ _ hS hw _;(try dsimp only [AW.aZ] at hS);have hq:=ZQ hS hw)
     | (refine EF (fun R hR=>?_) (fun R hR=>?_)<;>(first|(with_reducible apply SO;(·first|(simp;done)|(simp;rfl));(·first|(simp;done)|(simp;rfl));(·exact wA);(·exact sA);(·first|exact pA|exact kA);(·first|(simp;done)|(simp;rfl)|(simp [hq];done)|(simp [hq];rfl));(·first|omega|(simp;omega));(·exact fun A' kL=>(by have h9:=an.mZ kL<;>simp only [bp,gw] at h9<;>simp only [h9]));rintro _ _ _ hS hw _;(try dsimp only [AW.aZ] at hS);have hq:=ZQ hS hw)|(with_reducible apply SN;(·first|(simp;done)|(simp;rfl));(·first|(simp;done)|(simp;rfl));(·exact wA);(·exact sA);(·first|exact pA|exact kA);(·first|(simp;done)|(simp;rfl)|(simp [hq];done)|(simp [hq];rfl));(·first|omega|(simp;omega));(·exact fun A' kL=>(by have h9:=an.mZ kL<;>simp only [bp,gw] at h9<;>simp only [h9]));rintro _ _ _ hS hw _;(try dsimp only [AW.aZ] at hS);have hq:=ZQ hS hw)|(simp [ak,au,hq,hg,AW.aa,af];try simp (disch:=omega) only [if_pos,if_neg,ak,au])))
     | (refine il fun R hR=>?_;simp [ak,au,hq,hg,AW.aa,af];try simp (disch:=omega) only [if_pos,if_neg,ak,au])
     | (refine hR _ _ ?_;clear hR R)|(refine hK _ _ ?_;clear hK K)|refine nx ?_
     | (refine EZ fun R hR=>?_;simp [ak,au,hq,hg,AW.aa,af];try simp (disch:=omega) only [if_pos,if_neg,ak,au])
     | (refine EF (fun R hR=>?_) (fun R hR=>?_)<;>(simp [ak,au,hq,hg,AW.aa,af];try simp (disch:=omega) only [if_pos,if_neg,ak,au]))
     | refine EY ?_
     | refine wn fun K hK=>?_
     | simp only [wS,uI,uH,uG]
     | simp only [hN,nC,jt,Option.map_none,Option.map_some,List.getElem?_toArray,List.getElem?_cons_zero,List.getElem?_cons_succ,List.getD_cons_zero,List.getD_cons_succ,Option.bind_some]
     | refine wl Tryz.mx uI (by decide +kernel) fun K hK=>?_
     | refine wl Tryz.mx uH (by decide +kernel) fun K hK=>?_
     | refine wl Tryz.mx uG (by decide +kernel) fun K hK=>?_
     | (refine ⟨fun A' kL=>by simp [AW.aa,kL],?_⟩)
     | (refine wt (fun A'=>A'.cy b=some (.cells [.int .i64 s.dA,.slice oa s.bl.length ca,.slice ov s.df.length cv,.slice (some ⟨bi,tH,none⟩) s.index.length ci] true 1)) Tryz.mx [0,0,0,0,0,1,0,2,3,0,0,0,1,0,2,3,0,0,4,0,0,4] (.bu 0 (.bu 1 (.bu 2 (.bu 3 (.bu 4 (.bu 5 (.bu 6 (.bu 9 (.bu 10 (.bu 11 (.bu 12 (.bu 13 (.sC 7 (.sC 8 (.bu 14 (.bu 15 (.bu 16 (.bu 17 (.bu 18 (.bu 19 (.bu 20 (.bu 21 .nil)))))))) 14 (.bu 8 (.bu 15 (.bu 16 (.bu 17 (.bu 18 (.bu 19 (.bu 20 (.bu 21 .nil))))))))) 14 (.bu 7 (.bu 8 (.bu 15 (.bu 16 (.bu 17 (.bu 18 (.bu 19 (.bu 20 (.bu 21 .nil)))))))))))))))))))))) (by decide +kernel) fun K hK=>?_)
     | refine wb ?_|refine wr ?_|refine wk ?_|refine we ?_|refine ws ?_|refine wq ?_
     | (refine wc rfl (fun hc=>?_) (fun hc=>?_)<;>(try simp at hc)<;>(try omega))
     | (refine ib (fun hc=>?_) (fun hc=>?_)<;>(try omega)<;>(try simp (disch:=omega) only [if_pos,if_neg])))
     all_goals(
      refine⟨_,by first|(simp;done)|(simp;rfl),by simp [jM],?_⟩
      rw [jM]
      apply an.cC
      · apply fY.eh (s:={ s with bl:=s.bl++[a],df:=s.df++[v],index:=s.index.set p s.bl.length })
        (·exact sA)
        (·first|exact pA|exact kA)
      · repeat' (first|apply aX.z|apply aX.s|apply ay.z|apply ay.s))
end
end Go.Stx
