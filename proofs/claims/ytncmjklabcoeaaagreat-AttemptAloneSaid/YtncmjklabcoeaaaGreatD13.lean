/-
 The reference's machine that locks.
-/
import Derived.Test.YtncmjklabcoeaaaGreatD10
import Derived.Test.YtncmjklabcoeaaaGreatD12
set_option linter.unusedVariables false
set_option linter.unusedSimpArgs false
set_option maxRecDepth 20000
set_option maxHeartbeats 4000000
namespace Go.Stx
open Go Go.Proofs
attribute [local irreducible] fj cm aH bB dK ei TW hN
section
abbrev jL:List (Nat×Nat):=[(0,0),(1,0),(2,0),(3,0),(4,0),(5,0),(6,0),(7,0),(8,0),(9,0),(10,0),(11,0)]
abbrev kw:List (Nat×Nat):=[(0,0),(1,0),(2,0),(3,0),(5,0),(6,0),(7,0),(8,0),(4,2),(9,2),(10,0),(11,0),(12,0),(13,0),(14,0)]
abbrev kT:List (Nat×Nat):=[(0,0),(1,0),(2,0),(3,0),(4,0),(5,0),(6,0),(7,0),(8,0),(9,2),(10,3),(11,0),(12,0),(13,3)]
open T0
def gC (b:Nat) (s:eM):HP:=rt fun vo:Value=>rt fun vw:Value=>
 pt b (.cells [.int .i64 s.ag,vo,vw,.bool s.fg,.int .u64 s.d8] true 1)*(ar .i64 vo s.aj*ar .u64 vw s.dH)
theorem gC.open {A:AW} {b:Nat} {s:eM} {F:HP} (h:bK A (gC b s*F)) :
 ∃vo vw,bK A (pt b (.cells [.int .i64 s.ag,vo,vw,.bool s.fg,.int .u64 s.d8] true 1)*(ar .i64 vo s.aj*(ar .u64 vw s.dH*F))):=by
 unfold gC at h
 rw [bK.ex] at h
 obtain⟨vo,h⟩:=h
 rw [bK.ex] at h
 obtain⟨vw,h⟩:=h
 exact⟨vo,vw,h.dp (by ac_rfl)⟩
theorem gC.eh {A:AW} {b:Nat} {s:eM} {F:HP} {vo vw:Value} (h:bK A (pt b (.cells [.int .i64 s.ag,vo,vw,.bool s.fg,.int .u64 s.d8] true 1)*(ar .i64 vo s.aj*(ar .u64 vw s.dH*F)))) :
 bK A (gC b s*F):=by
 unfold gC
 rw [bK.ex]
 refine⟨vo,?_⟩
 rw [bK.ex]
 exact⟨vw,h.dp (by ac_rfl)⟩
theorem yK (b:Nat) (s:eM) (A:AW) (F:HP) (h:bK A (gC b s*F)) :
 aH Tryz.prog 94 [.pointer (some ⟨b,0,none⟩)] A (fun v A'=>v=.bool s.done∧A=A'):=by
 refine ab Tryz.func94 rfl (by kernel_rfl) fun hw=>?_
 obtain⟨vo,vw,hS⟩:=gC.open h
 obtain⟨oo,co,rfl,_⟩:=(ar.is hS.right).cL
 obtain⟨ow,cw,rfl,_⟩:=(ar.is hS.right.right).cL
 have hg:=hS.cy
 revert hS hw;refine W (J1 (od jL)) (J2 hg @AW.aa) (J1 ?_)<;>unhygienic intros
 simp [eM.done]
 omega
def xn (s:eM):Int:=Cm (ge s.d8) s.ag
def jf (s:eM) (M:Nat→List Int):bq×eM×(Nat→List Int):=
 if s.done=true then (bq.zero,s,M)
 else if s.fg=false then
  let a:=de M 1 2 (ew s) gF
  (a,{ s with d8:=a.fI,fg:=decide (iF a.fI<0) },M)
 else
  let a:=de M 3 2 (ew s) (hQ s.d8 (xn s))
  (a,{ s with fg:=false,dH:=if a.done=true then s.dH++[s.d8] else s.dH },kd M 2 (ew s) (hQ s.d8 (xn s)))
theorem Dd {s:eM} {M:Nat→List Int} (h:s.fg=true→xn s=jD s):jf s M=dF s M:=by
 unfold jf dF
 split
 · rfl
 · split
   · rfl
   · rename_i hl
     rw [h (by simpa using hl)]
theorem yJ (cf:bG) (b mb:Nat) (s:eM) (M:Nat→List Int) (hM:fE M) (cU:s.dH.length≤s.aj.length) (DJ:s.aj.length<2^38) :
 ka Tryz.prog 93 [.pointer (some ⟨b,0,none⟩),.pointer (some ⟨mb,0,none⟩)] (gC b s*eX cf mb M)
  (fun v=>rc (v=(jf s M).1.v)*(gC b (jf s M).2.1*eX cf mb (jf s M).2.2)):=by
 intro A F hw l9
 refine ab Tryz.func93 rfl (by kernel_rfl) fun _=>?_
 rw [HP.cq] at l9
 have RX:∀(x:Bool),s.done=x→∀A' F',bK A' (gC b s*F')→aH Tryz.prog 94 [.pointer (some ⟨b,0,none⟩)] A' (fun v U7=>v=.bool x∧A'=U7):=fun x hx A' F' h=>by
  have:=yK b s A' F' h
  rwa [hx] at this
 by_cases hdone:s.done=true
 · have mf:=RX true hdone
   repeat' (first
   | (refine il fun R hR=>?_;simp [ak,au,AW.aa,af,aS,hdone];try simp (disch:=omega) only [if_pos,if_neg,ak,au])
   | (refine hR _ _ ?_;clear hR R)|(refine hK _ _ ?_;clear hK K)|refine nx ?_
   | refine wn fun K hK=>?_
   | simp only [wS,jL,kw,kT]
   | refine wl Tryz.mx jL (by decide +kernel) fun K hK=>?_
   | refine wl Tryz.mx kw (by decide +kernel) fun K hK=>?_
   | refine wl Tryz.mx kT (by decide +kernel) fun K hK=>?_
   | (refine bD (mf _ _ (l9.le hw (by repeat' (first|exact AW.le.refl _|refine AW.le.set ?_ (by simp<;>omega) _|refine AW.le.trans ?_ (AW.le.alloc _ _))))) ?_;rintro _ _ ⟨rfl,rfl⟩ _ _)
   | refine wb ?_|refine wr ?_|refine wk ?_|refine we ?_|refine ws ?_|refine wq ?_
   | (refine wc rfl (fun hc=>?_) (fun hc=>?_)<;>(try simp at hc)<;>(try omega))
   | (refine ib (fun hc=>?_) (fun hc=>?_)<;>(try omega)<;>(try simp (disch:=omega) only [if_pos,if_neg])))
   have dn:jf s M=(bq.zero,s,M):=by unfold jf;rw [if_pos hdone]
   rw [dn]
   refine⟨_,by first|(simp [AW.aa];done)|(simp [AW.aa];rfl),bK.post (by simp [bq.v,bq.zero]) ?_⟩
   rw [HP.cq]
   exact l9.le hw (by repeat' (first|exact AW.le.refl _|refine AW.le.set ?_ (by simp<;>omega) _|refine AW.le.trans ?_ (AW.le.alloc _ _)))
 · have tT:s.done=false:=by simpa using hdone
   have mf:=RX false tT
   have dQ:s.dH.length<s.aj.length:=by
    have:¬s.dH.length=s.aj.length:=by simpa [eM.done] using hdone
    omega
   have ey:(s.dH.length:Int)<s.aj.length:=by omega
   obtain⟨vo,vw,ru⟩:=gC.open l9
   have hg:=ru.cy
   have tq:bK A (ar .i64 vo s.aj*(pt b (.cells [.int .i64 s.ag,vo,vw,.bool s.fg,.int .u64 s.d8] true 1)*(ar .u64 vw s.dH*(eX cf mb M*F)))):=ru.dp (by ac_rfl)
   obtain⟨bo,off,c,dh,rfl,_,nM,GQ,_,_⟩:=ar.at tq dQ
   obtain⟨ow,cw,rfl,_⟩:=(ar.is ru.right.right).cL
   obtain⟨nb,IB⟩:=hw.dH hg
   obtain⟨no,Kh⟩:=hw.dH nM
   have mn:s.aj[s.dH.length]=ew s:=by unfold ew;rw [List.getD_eq_getElem?_getD,List.getElem?_eq_getElem dQ];rfl
   rw [mn] at GQ
   cases uT:s.fg
   · rw [uT] at hg
     repeat' (first
     | (refine il fun R hR=>?_;simp [ak,au,AW.aa,af,aS,tT,hg,nM,GQ,nb,IB,no,Kh,dQ,ey];try simp (disch:=omega) only [if_pos,if_neg,ak,au])
     | (refine hR _ _ ?_;clear hR R)|(refine hK _ _ ?_;clear hK K)|refine nx ?_
     | refine wn fun K hK=>?_
     | simp only [wS,jL,kw,kT]
     | refine wl Tryz.mx jL (by decide +kernel) fun K hK=>?_
     | refine wl Tryz.mx kw (by decide +kernel) fun K hK=>?_
     | refine wl Tryz.mx kT (by decide +kernel) fun K hK=>?_
     | (refine bD (mf _ _ (l9.le hw (by repeat' (first|exact AW.le.refl _|refine AW.le.set ?_ (by simp<;>omega) _|refine AW.le.trans ?_ (AW.le.alloc _ _))))) ?_;rintro _ _ ⟨rfl,rfl⟩ _ _)
     | refine wb ?_|refine wr ?_|refine wk ?_|refine we ?_|refine ws ?_|refine wq ?_
     | (refine wc rfl (fun hc=>?_) (fun hc=>?_)<;>(try simp at hc)<;>(try omega))
     | (refine ib (fun hc=>?_) (fun hc=>?_)<;>(try omega)<;>(try simp (disch:=omega) only [if_pos,if_neg])))
     have rl:bK (A.alloc (.cells aS true 1)) (eX cf mb M*(gC b s*(pt A.next (.cells aS true 1)*F))):=(l9.alloc hw (.cells aS true 1)).dp (by ac_rfl)
     refine(Ir cf mb M 2 (ew s) hM).use (hw.alloc _) rl rfl ?_
     intro v A2 ta it _
     obtain⟨rfl,pQ⟩:=ta.jT
     clear ta
     have dn:jf s M=(de M 1 2 (ew s) gF,{ s with d8:=(de M 1 2 (ew s) gF).fI,fg:=decide (iF (de M 1 2 (ew s) gF).fI<0) },M):=by
      unfold jf;rw [if_neg hdone,if_pos uT]
     rw [uy (by intro o _;rfl)] at pQ
     generalize de M 1 2 (ew s) gF=a at dn pQ ⊢
     have EP:bK A2 (gC b s*(pt A.next (.cells aS true 1)*(eX cf mb M*F))):=pQ.dp (by ac_rfl)
     obtain⟨px,nY,HU⟩:=gC.open EP
     have r7:bK A2 (pt b (.cells [.int .i64 s.ag,px,nY,.bool s.fg,.int .u64 s.d8] true 1)*(pt A.next (.cells aS true 1)*(ar .i64 px s.aj*(ar .u64 nY s.dH*(eX cf mb M*F))))):=HU.dp (by ac_rfl)
     have qt:=r7.cy
     have pN:=r7.right.cy
     have n1:=r7.ne
     obtain⟨x1,WO⟩:=it.dH qt
     obtain⟨x0,WP⟩:=it.dH pN
     have y1:(A2.next=b)=False:=eq_false fun e=>by rw [e] at x1;simp at x1
     have y0:(A2.next=A.next)=False:=eq_false fun e=>by rw [e] at x0;simp at x0
     revert hw;(repeat first|clear hw|revert hc|revert zn|revert zA|revert R|revert K);refine W (J4 (od jL) (od kw) (od kT) @uk) (Mk qt pN n1 x1 x0 y1 y0 uT (Ne.symm n1) @AW.aa @af.eq_1 @aS.eq_1 @bq.v.eq_1) (J1 ?_)<;>unhygienic intros
     refine⟨_,by first|(simp [AW.aa];done)|(simp [AW.aa];rfl),bK.post (by rw [dn];simp [bq.v]) ?_⟩
     rw [dn,HP.cq]
     refine gC.eh (vo:=px) (vw:=nY) (bK.Gp r7 (by simp [n1,x1]) (fun j x h1 h2 hx=>?_))
     have hj:=(it.dH hx).1
     simp [AW.dW,AW.fZ,h1,h2,hx,hj]
   · rw [uT] at hg
     repeat' (first
     | (refine il fun R hR=>?_;simp [ak,au,AW.aa,af,aS,tT,hg,nM,GQ,nb,IB,no,Kh,dQ,ey];try simp (disch:=omega) only [if_pos,if_neg,ak,au])
     | (refine hR _ _ ?_;clear hR R)|(refine hK _ _ ?_;clear hK K)|refine nx ?_
     | refine wn fun K hK=>?_
     | simp only [wS,jL,kw,kT]
     | refine wl Tryz.mx jL (by decide +kernel) fun K hK=>?_
     | refine wl Tryz.mx kw (by decide +kernel) fun K hK=>?_
     | refine wl Tryz.mx kT (by decide +kernel) fun K hK=>?_
     | (refine bD (mf _ _ (l9.le hw (by repeat' (first|exact AW.le.refl _|refine AW.le.set ?_ (by simp<;>omega) _|refine AW.le.trans ?_ (AW.le.alloc _ _))))) ?_;rintro _ _ ⟨rfl,rfl⟩ _ _)
     | (refine bD (pB _ _) ?_;rintro _ _ ⟨rfl,rfl⟩ _ _)
     | refine wb ?_|refine wr ?_|refine wk ?_|refine we ?_|refine ws ?_|refine wq ?_
     | (refine wc rfl (fun hc=>?_) (fun hc=>?_)<;>(try simp at hc)<;>(try omega))
     | (refine ib (fun hc=>?_) (fun hc=>?_)<;>(try omega)<;>(try simp (disch:=omega) only [if_pos,if_neg])))
     refine bD (Hj _ _ _) ?_
     rintro _ _ ⟨⟨ee,rfl⟩,rfl⟩ _ _
     have jM:Cm (ge s.d8) s.ag=xn s:=rfl
     rw [jM]
     revert hw;(repeat first|clear hw|revert hc|revert zn|revert zA|revert R|revert K);refine W (J3 (od jL) (od kw) (od kT)) (Mk tT hg nM GQ nb IB no Kh dQ ey @AW.aa @af.eq_1 @aS.eq_1) (J1 ?_)<;>unhygienic intros
     have rl:bK (A.alloc (.cells aS true 1)) (eX cf mb M*(gC b s*(pt A.next (.cells aS true 1)*F))):=(l9.alloc hw (.cells aS true 1)).dp (by ac_rfl)
     refine(Iq cf mb M 2 (ew s) s.d8 (xn s) hM).use (hw.alloc _) rl rfl ?_
     intro v A2 ta it _
     obtain⟨rfl,pQ⟩:=ta.jT
     clear ta
     have dn:jf s M=(de M 3 2 (ew s) (hQ s.d8 (xn s)),{ s with fg:=false,dH:=if (de M 3 2 (ew s) (hQ s.d8 (xn s))).done=true then s.dH++[s.d8] else s.dH },kd M 2 (ew s) (hQ s.d8 (xn s))):=by
      unfold jf;rw [if_neg hdone,if_neg (by simp [uT])]
     generalize de M 3 2 (ew s) (hQ s.d8 (xn s))=a at dn pQ ⊢
     generalize kd M 2 (ew s) (hQ s.d8 (xn s))=M' at dn pQ
     have EP:bK A2 (gC b s*(pt A.next (.cells aS true 1)*(eX cf mb M'*F))):=pQ.dp (by ac_rfl)
     obtain⟨px,nY,HU⟩:=gC.open EP
     have r7:bK A2 (pt b (.cells [.int .i64 s.ag,px,nY,.bool s.fg,.int .u64 s.d8] true 1)*(pt A.next (.cells aS true 1)*(ar .i64 px s.aj*(ar .u64 nY s.dH*(eX cf mb M'*F))))):=HU.dp (by ac_rfl)
     have qt:=r7.cy
     have pN:=r7.right.cy
     have n1:=r7.ne
     obtain⟨x1,WO⟩:=it.dH qt
     obtain⟨x0,WP⟩:=it.dH pN
     have y1:(A2.next=b)=False:=eq_false fun e=>by rw [e] at x1;simp at x1
     have y0:(A2.next=A.next)=False:=eq_false fun e=>by rw [e] at x0;simp at x0
     cases jx:a.done
     · revert hw;(repeat first|clear hw|revert hc|revert zn|revert zA|revert R|revert K);refine W (J3 (od jL) (od kw) (od kT)) (pw qt pN n1 x1 x0 y1 y0 uT jx (Ne.symm n1) @AW.aa @af.eq_1 @aS.eq_1 @bq.v.eq_1) (J1 ?_)<;>unhygienic intros
       refine⟨_,by first|(simp [AW.aa];done)|(simp [AW.aa];rfl),bK.post (by rw [dn];simp [bq.v,jx]) ?_⟩
       rw [dn,HP.cq]
       simp only [jx,Bool.false_eq_true,if_false]
       refine gC.eh (vo:=px) (vw:=nY) (bK.Gp r7 (by simp [n1,x1]) (fun j x h1 h2 hx=>?_))
       have hj:=(it.dH hx).1
       simp [AW.dW,AW.fZ,h1,h2,hx,hj]
     · revert hw;(repeat first|clear hw|revert hc|revert zn|revert zA|revert R|revert K);refine W (J2 (od jL) (od kw)) (pw qt pN n1 x1 x0 y1 y0 uT jx (Ne.symm n1) @AW.aa @af.eq_1 @aS.eq_1 @bq.v.eq_1) (J1 ?_)<;>unhygienic intros
       have TT:=it.alloc (.cells aS true 1)
       have sB:bK (A2.alloc (.cells aS true 1)) (pt b (.cells [.int .i64 s.ag,px,nY,.bool s.fg,.int .u64 s.d8] true 1)*(pt A2.next (.cells aS true 1)*(pt A.next (.cells aS true 1)*(ar .i64 px s.aj*(ar .u64 nY s.dH*(eX cf mb M'*F)))))):=(r7.alloc it (.cells aS true 1)).dp (by ac_rfl)
       have xz:=it.lt qt
       refine I2 (fun A3=>A3.Wf∧bK A3 (pt b (.cells [.int .i64 s.ag,px,nY,.bool false,.int .u64 s.d8] true 1)*(pt A2.next (.cells a.cells true 1)*(pt A.next (.cells aS true 1)*(ar .i64 px s.aj*(ar .u64 nY s.dH*(eX cf mb M'*F))))))) ?_ ?_
       · refine⟨(TT.set _ (by simp)).set _ (by simp;omega),bK.QY sB (by simp [AW.dW]) (by simp [AW.dW,y1,bq.cells,jx]) (by simp [AW.dW,AW.fZ,Ne.symm n1,x0,pN,aS]) (fun j x h1 h2 h3 hx=>?_)⟩
         simp only [AW.dW,AW.fZ,h1,h2,if_false] at hx ⊢
         exact hx
       rintro A3 ⟨qr,qk⟩
       have JL:=qk.cy
       have PS:=qk.right.cy
       have PT:=qk.right.right.cy
       have m1:=qk.ne
       have m2:=qk.Om
       have m3:=qk.right.ne
       obtain⟨v',A4,e1,k7,IJ,_⟩:=ar.append (P:=Tryz.prog) (t:=43) s.d8 Tryz.underlying43 Tryz.info45 Tryz.zero45 rfl rfl
        (qk.dp (by ac_rfl):bK A3 (ar .u64 nY s.dH*(pt b (.cells [.int .i64 s.ag,px,nY,.bool false,.int .u64 s.d8] true 1)*(pt A2.next (.cells a.cells true 1)*(pt A.next (.cells aS true 1)*(ar .i64 px s.aj*(eX cf mb M'*F)))))))
        (by omega) (by simp) qr
       have DO:bK A4 (pt b (.cells [.int .i64 s.ag,px,nY,.bool false,.int .u64 s.d8] true 1)*(pt A2.next (.cells a.cells true 1)*(pt A.next (.cells aS true 1)*(ar .i64 px s.aj*(ar .u64 v' (s.dH++[s.d8])*(eX cf mb M'*F)))))):=k7.dp (by ac_rfl)
       have PP:=DO.cy
       have PQ:=DO.right.cy
       have PR:=DO.right.right.cy
       obtain⟨Ri,xH⟩:=qr.dH JL
       have Mr:∃o c,v'=.slice o (s.dH.length+1) c:=by
        obtain⟨o,c,h,_⟩:=(ar.is k7).cL
        exact⟨o,c,by simpa using h⟩
       obtain⟨o',c',rfl⟩:=Mr
       revert hw;(repeat first|clear hw|revert hc|revert zn|revert zA|revert R|revert K);refine W (J3 (od jL) (od kw) (od kT)) (pw JL PS PT PP PQ PR m1 m2 m3 Ri xH e1 jx (J8 (Ne.symm m1) (Ne.symm m2) (Ne.symm m3) @AW.aa @af.eq_1 @aS.eq_1 @bq.v.eq_1 @bq.cells.eq_1)) (J1 ?_)<;>unhygienic intros
       refine⟨_,by first|(simp [AW.aa];done)|(simp [AW.aa];rfl),bK.post (by rw [dn];simp [bq.v,jx]) ?_⟩
       rw [dn,HP.cq]
       simp only [jx,if_true]
       refine gC.eh (vo:=px) (vw:=.slice o' (s.dH.length+1) c') (bK.Ct DO (by simp [AW.dW,m1,m2]) (fun j x h1 h2 h3 hx=>?_))
       simp [AW.dW,h1,h2,h3,hx]
end
section
open T7
def jC (v:Value) (rv:Int) (k:Nat) (f:Bool):ef:=.cells [v,.int .i64 rv,.int .i64 k,.bool f] true 1
end
section
abbrev qc:List (Nat×Nat):=[(0,0),(1,0),(2,0),(4,0),(5,0),(6,0),(3,2),(7,2),(8,0),(9,2),(10,0)]
open T0
theorem Bu (vi vw:Value) (l ws:List Int) (A:AW) (F:HP) (h:cF A .i64 vi l) (h':cF A .u64 vw ws) (he:l.length=ws.length) (hl:l.length<2^38) (hw:A.Wf) (hS:bK A F) :
 aH Tryz.prog 155 [vi,vw] A (fun v A'=>∃b,v=.pointer (some ⟨b,0,none⟩)∧bK A' (gV b ⟨l,ws⟩*F)∧A.le A'):=by
 refine ab Tryz.func155 rfl (by kernel_rfl) fun _=>?_
 obtain⟨o,c,rfl,hc⟩:=h.cL
 obtain⟨o',c',rfl,LL⟩:=h'.cL
 rw [←he] at h' LL ⊢
 rcases o with _|p<;>rcases o' with _|q
 all_goals
  all_goals(revert hS hw hc;refine W (J1 (od qc)) (J1 @eB.eq_1) (J1 ?_)<;>unhygienic intros)
  refine bD (jF _ l A h (by omega)) ?_
  rintro u A1 ⟨h1,h2⟩ gJ _
  refine⟨h2,?_⟩
  obtain⟨o1,c1,rfl,_⟩:=h1.is.cL
  all_goals(revert hS hw;(repeat first|clear hS|clear hw|revert hc|revert zn|revert zA|revert R|revert K);refine W (J1 (od qc)) (J1 @eB.eq_1) (J1 ?_)<;>unhygienic intros)
  refine bD (ir _ ws A1 (cF.le h2 hw h') (by omega)) ?_
  rintro u2 A2 ⟨h3,h4⟩ it _
  refine⟨h4,?_⟩
  obtain⟨o2,c2,rfl,_⟩:=h3.is.cL
  all_goals(revert hS hw;(repeat first|clear hS|clear hw|revert hc|revert zn|revert zA|revert R|revert K);refine W (J1 (od qc)) (J1 @eB.eq_1) (J1 ?_)<;>unhygienic intros)
  refine⟨_,by first|(simp;done)|(simp;rfl),A2.next,rfl,?_,(h2.trans h4).trans (AW.le.alloc _ _)⟩
  have mg:=(ar.kZ (ar.kZ hS hw h2 h1) gJ h4 h3).alloc it (.cells [.slice o1 l.length c1,.slice o2 ws.length c2] true 1)
  refine gV.eh (vo:=.slice o1 l.length c1) (vw:=.slice o2 ws.length c2) ?_
  exact mg.dp (by show _=pt A2.next (.cells [.slice o1 l.length c1,.slice o2 ws.length c2] true 1)*(ar .i64 (.slice o1 l.length c1) l*(ar .u64 (.slice o2 ws.length c2) ws*F));ac_rfl)
theorem FI (vi vw:Value) (l ws:List Int) (A:AW) (F:HP) (h:cF A .i64 vi l) (h':cF A .u64 vw ws) (he:l.length=ws.length) (hl:l.length<2^38) (hw:A.Wf) (hS:bK A F) :
 aH Tryz.prog 149 [vi,vw] A (fun v A'=>∃b,v=.pointer (some ⟨b,0,none⟩)∧bK A' (gV b ⟨l,ws⟩*F)∧A.le A'):=by
 refine ab Tryz.func149 rfl (by kernel_rfl) fun _=>?_
 obtain⟨o,c,rfl,hc⟩:=h.cL
 obtain⟨o',c',rfl,LL⟩:=h'.cL
 rw [←he] at h' LL ⊢
 rcases o with _|p<;>rcases o' with _|q
 all_goals
  all_goals(revert hS hw hc;refine W (J1 (od qc)) (J1 @eB.eq_1) (J1 ?_)<;>unhygienic intros)
  refine bD (jF _ l A h (by omega)) ?_
  rintro u A1 ⟨h1,h2⟩ gJ _
  refine⟨h2,?_⟩
  obtain⟨o1,c1,rfl,_⟩:=h1.is.cL
  all_goals(revert hS hw;(repeat first|clear hS|clear hw|revert hc|revert zn|revert zA|revert R|revert K);refine W (J1 (od qc)) (J1 @eB.eq_1) (J1 ?_)<;>unhygienic intros)
  refine bD (ir _ ws A1 (cF.le h2 hw h') (by omega)) ?_
  rintro u2 A2 ⟨h3,h4⟩ it _
  refine⟨h4,?_⟩
  obtain⟨o2,c2,rfl,_⟩:=h3.is.cL
  all_goals(revert hS hw;(repeat first|clear hS|clear hw|revert hc|revert zn|revert zA|revert R|revert K);refine W (J1 (od qc)) (J1 @eB.eq_1) (J1 ?_)<;>unhygienic intros)
  refine⟨_,by first|(simp;done)|(simp;rfl),A2.next,rfl,?_,(h2.trans h4).trans (AW.le.alloc _ _)⟩
  have mg:=(ar.kZ (ar.kZ hS hw h2 h1) gJ h4 h3).alloc it (.cells [.slice o1 l.length c1,.slice o2 ws.length c2] true 1)
  refine gV.eh (vo:=.slice o1 l.length c1) (vw:=.slice o2 ws.length c2) ?_
  exact mg.dp (by show _=pt A2.next (.cells [.slice o1 l.length c1,.slice o2 ws.length c2] true 1)*(ar .i64 (.slice o1 l.length c1) l*(ar .u64 (.slice o2 ws.length c2) ws*F));ac_rfl)
end
section
open T0
theorem Dy (t:Int) (vi:Value) (l:List Int) (A:AW) (F:HP) (h:cF A .i64 vi l) (hl:l.length<2^38) (hw:A.Wf) (hS:bK A F) :
 aH Tryz.prog 166 [.int .i64 t,vi] A (fun v A'=>∃b,v=.pointer (some ⟨b,0,none⟩)∧bK A' (gG b ⟨t,dX l,[],0,false⟩*F)):=by
 refine ab Tryz.func166 rfl (by kernel_rfl) fun _=>?_
 revert hS hw;refine W trivial trivial (J1 ?_)<;>unhygienic intros
 refine bD (wy vi l A h (by omega)) ?_
 rintro u A1 ⟨h1,h2⟩ gJ _
 obtain⟨o,c,rfl,_⟩:=h1.is.cL
 revert hS hw;(repeat first|clear hS|clear hw|revert hc|revert zn|revert zA|revert R|revert K);refine W trivial trivial (J1 ?_)<;>unhygienic intros
 refine⟨_,by first|(simp;done)|(simp;rfl),A1.next,rfl,?_⟩
 have mg:=(ar.kZ hS hw h2 h1).alloc gJ (.cells [.int .i64 t,.slice o (dX l).length c,.slice none 0 0,.int .u64 0,.bool false] true 1)
 refine gG.eh (vo:=.slice o (dX l).length c) (vw:=.slice none 0 0) ?_
 have h0:=ar.nil (k:=.u64) mg
 exact h0.dp (by show _=pt A1.next (.cells [.int .i64 t,.slice o (dX l).length c,.slice none 0 0,.int .u64 0,.bool false] true 1)*(ar .i64 (.slice o (dX l).length c) (dX l)*(ar .u64 (.slice none 0 0) []*F));ac_rfl)
end
section
open T0
theorem C2 (b dA:Nat) (v:Value) (l:List Int) (A:AW) (hg:A.cy b=some (ko dA v)) (h:cF A .i64 v l) (hl:l.length<2^39) :
 aH Tryz.prog 143 [.pointer (some ⟨b,0,none⟩)] A (fun u A'=>dk A.next A' .i64 u l∧A.le A'):=by
 refine ab Tryz.func143 rfl (by kernel_rfl) fun _=>?_
 dsimp only [ko] at hg
 refine W trivial (J2 hg @AW.aa) (J1 ?_)<;>unhygienic intros
 refine bD (jF v l A h hl) ?_
 rintro u A1 ⟨h1,h2⟩ gJ _
 (repeat first|revert hc|revert zn|revert zA|revert R|revert K);refine W trivial trivial (J1 ?_)<;>unhygienic intros
 exact⟨_,rfl,h1,h2⟩
theorem tk (b dA:Nat) (va vv vi:Value) (l:List Int) (A:AW) (hg:A.cy b=some (gw dA va vv vi)) (h:cF A .i64 va l) (hl:l.length<2^39) :
 aH Tryz.prog 150 [.pointer (some ⟨b,0,none⟩)] A (fun u A'=>dk A.next A' .i64 u l∧A.le A'):=by
 refine ab Tryz.func150 rfl (by kernel_rfl) fun _=>?_
 dsimp only [gw] at hg
 refine W trivial (J2 hg @AW.aa) (J1 ?_)<;>unhygienic intros
 refine bD (jF va l A h hl) ?_
 rintro u A1 ⟨h1,h2⟩ gJ _
 (repeat first|revert hc|revert zn|revert zA|revert R|revert K);refine W trivial trivial (J1 ?_)<;>unhygienic intros
 exact⟨_,rfl,h1,h2⟩
theorem zr (b dA:Nat) (va vv vi:Value) (l:List Int) (A:AW) (hg:A.cy b=some (gw dA va vv vi)) (h:cF A .u64 vv l) (hl:l.length<2^39) :
 aH Tryz.prog 151 [.pointer (some ⟨b,0,none⟩)] A (fun u A'=>dk A.next A' .u64 u l∧A.le A'):=by
 refine ab Tryz.func151 rfl (by kernel_rfl) fun _=>?_
 dsimp only [gw] at hg
 refine W trivial (J2 hg @AW.aa) (J1 ?_)<;>unhygienic intros
 refine bD (ir vv l A h hl) ?_
 rintro u A1 ⟨h1,h2⟩ gJ _
 (repeat first|revert hc|revert zn|revert zA|revert R|revert K);refine W trivial trivial (J1 ?_)<;>unhygienic intros
 exact⟨_,rfl,h1,h2⟩
theorem FS (b dA:Nat) (o:Option Addr) (n c:Nat) (vv vi:Value) (A:AW) (hg:A.cy b=some (gw dA (.slice o n c) vv vi)) :
 eF 213 [.pointer (some ⟨b,0,none⟩)] A (.int .i64 n):=by
 refine ab Tryz.func213 rfl (by kernel_rfl) fun _=>?_
 dsimp only [gw] at hg
 refine W trivial (J2 hg @AW.aa) (J1 ?_)<;>unhygienic intros
 exact⟨_,rfl,rfl,rfl⟩
theorem FN (v:Value) (l:List Int) (rv:Int) (A:AW) (F:HP) (h:cF A .i64 v l) (hl:l.length<2^38) (hw:A.Wf) (hS:bK A F) :
 aH Tryz.prog 142 [v,.int .i64 rv] A (fun u A'=>∃b,u=.pointer (some ⟨b,0,none⟩)∧bK A' (iV b ⟨l,rv,false⟩*F)∧A.le A'):=by
 refine ab Tryz.func142 rfl (by kernel_rfl) fun _=>?_
 revert hS hw;refine W trivial trivial (J1 ?_)<;>unhygienic intros
 refine bD (jF v l A h (by omega)) ?_
 rintro u A1 ⟨h1,h2⟩ gJ _
 obtain⟨o1,c1,rfl,_⟩:=h1.is.cL
 revert hS hw;(repeat first|clear hS|clear hw|revert hc|revert zn|revert zA|revert R|revert K);refine W trivial trivial (J1 ?_)<;>unhygienic intros
 refine⟨_,by first|(simp;done)|(simp;rfl),A1.next,rfl,?_,h2.trans (AW.le.alloc _ _)⟩
 have mg:=(ar.kZ hS hw h2 h1).alloc gJ (.cells [.slice o1 l.length c1,.int .i64 rv,.bool false] true 1)
 unfold iV
 rw [bK.ex]
 exact⟨.slice o1 l.length c1,mg.dp (by show _=pt A1.next (.cells [.slice o1 l.length c1,.int .i64 rv,.bool false] true 1)*ar .i64 (.slice o1 l.length c1) l*F;rw [HP.cq])⟩
end
end Go.Stx
