/-
 The program's machine that writes.
-/
import Derived.Test.YtejgooipbmnioaaGreatDoorG05
import Derived.Test.YtejgooipbmnioaaGreatDoorF3
set_option linter.unusedVariables false
set_option linter.unusedSimpArgs false
set_option linter.unusedSectionVars false
set_option maxRecDepth 20000
set_option maxHeartbeats 4000000
namespace Go.Stx
open Go Go.Proofs
attribute [local irreducible] TW cg eg bn aC aV cR df
section
open T6
variable [Gl]
theorem qK (b:Nat) (s:iQ) (A:AW) (F:HP) (h:bz A (gg b s*F)) :
 aC Tryz.prog 242 [.pointer (some ⟨b,0,none⟩)] A (fun v A'=>v=.bool s.done∧A=A'):=by
 refine ab Tryz.func242 rfl (by kernel_rfl) fun hw=>?_
 obtain⟨vo,vw,hS⟩:=gg.open h
 obtain⟨oo,co,rfl,_⟩:=(au.is hS.right).dJ
 obtain⟨ow,cw,rfl,_⟩:=(au.is hS.right.right).dJ
 have hg:=hS.bR
 revert hS hw;refine W trivial (J2 hg @AW.aa) (J1 ?_)<;>unhygienic intros
 simp [iQ.done]
def lf (s:iQ) (M:Nat→List Int):ba×iQ×(Nat→List Int):=
 if s.done=true then (ba.zero,s,M)
 else (fz M 2 1 (s.os.getD 0 0) (gr (s.ws.getD 0 0)),⟨s.os.tail,s.ws.tail⟩,pB M 1 (s.os.getD 0 0) (gr (s.ws.getD 0 0)))
set_option maxRecDepth 20000 in
set_option maxHeartbeats 1000000 in
theorem DT (b pb:Nat) (s:iQ) (M:Nat→List Int) (bW:s.os.length=s.ws.length) :
 mw Tryz.prog 241 [.pointer (some ⟨b,0,none⟩),.pointer (some ⟨pb,0,none⟩)] (gg b s*dS pb M)
  (fun v=>zQ (v=(lf s M).1.v)*(gg b (lf s M).2.1*dS pb (lf s M).2.2)):=by
 intro A F hw cY
 refine ab Tryz.func241 rfl (by kernel_rfl) fun _=>?_
 rw [HP.cl] at cY
 have ij:=(cY.alloc hw (.cells bj true 1))
 have ke:bz (A.alloc (.cells bj true 1)) (gg b s*(dS pb M*(pt A.next (.cells bj true 1)*F))):=ij.dH (by ac_rfl)
 by_cases hdone:s.done=true
 · have hd:=qK b s _ _ ke
   rw [hdone] at hd
   revert hw;refine Wu (J2 (⟨⟩:Ts (fun _=>True) [0,0,0,0,0,0,0,0,0,0,0,0,0,3,0,0,0,2,3,0] (.bh 0 (.bh 1 (.bh 2 (.bh 3 (.bh 4 (.bh 5 (.bh 6 (.bh 7 (.bh 8 (.bh 9 (.bh 10 (.bh 11 (.bh 12 (.sc 13 (.bh 14 (.bh 15 (.bh 16 (.bh 17 (.bh 18 (.bh 19 .nil)))))) 17 (.bh 13 (.bh 14 (.bh 15 (.bh 16 (.bh 18 (.bh 19 .nil))))))))))))))))))))) @hd) (J3 @AW.aa @ah.eq_1 @bj.eq_1) (J1 ?_)<;>unhygienic intros
   have cX:lf s M=(ba.zero,s,M):=by unfold lf;rw [if_pos hdone]
   rw [cX]
   refine⟨_,by simp [AW.aa,ah];rfl,bz.post (by simp [ba.v,ba.zero]) ?_⟩
   rw [HP.cl]
   exact cY.le hw ((AW.le.alloc A _).set (Nat.le_refl _) _)
 · have hd:=qK b s _ _ ke
   rw [show s.done=false by simpa using hdone] at hd
   obtain⟨os,ws⟩:=s
   cases os with
   | nil=>simp [iQ.done] at hdone
   | cons o os=>
   cases ws with
   | nil=>simp at bW
   | cons x ws=>
   have cX:lf ⟨o::os,x::ws⟩ M=(fz M 2 1 o (gr x),⟨os,ws⟩,pB M 1 o (gr x)):=by
    unfold lf;rw [if_neg hdone];rfl
   obtain⟨vo,vw,xG⟩:=gg.open cY
   have hg:=xG.bR
   have Sf:bz A (au .i64 vo (o::os)*(pt b (.cells [vo,vw] true 1)*(au .u64 vw (x::ws)*(dS pb M*F)))):=xG.dH (by ac_rfl)
   have VS:bz A (au .u64 vw (x::ws)*(pt b (.cells [vo,vw] true 1)*(au .i64 vo (o::os)*(dS pb M*F)))):=xG.dH (by ac_rfl)
   obtain⟨bo,off,c,cK,rfl,_,uW,om,_,_⟩:=au.at Sf (j:=0) (by simp)
   obtain⟨bw,UA,cw,Uq,rfl,_,PQ,Sa,_,_⟩:=au.at VS (j:=0) (by simp)
   obtain⟨nb,Oc⟩:=hw.eo hg
   obtain⟨no,QI⟩:=hw.eo uW
   obtain⟨nw,UB⟩:=hw.eo PQ
   simp at uW om PQ Sa
   revert hw;(repeat first|clear hw|revert hc|revert zn|revert zA|revert R|revert K);refine Wu (J2 @hd (⟨⟩:Ts (fun _=>True) [0,0,0,0,0,0,0,0,0,0,0,0,0,3,0,0,0,2,3,3] (.bh 0 (.bh 1 (.bh 2 (.bh 3 (.bh 4 (.bh 5 (.bh 6 (.bh 7 (.bh 8 (.bh 9 (.bh 10 (.bh 11 (.bh 12 (.sc 13 (.bh 14 (.bh 15 (.bh 16 (.bh 17 (.bh 18 (.bh 19 .nil)))))) 17 (.bh 13 (.bh 14 (.bh 15 (.bh 16 (.bh 18 (.bh 19 .nil)))))))))))))))))))))) (Dz hg uW om PQ Sa nb Oc no QI nw UB @AW.aa @ah.eq_1 @bj.eq_1) (J2 ?_ ?_)<;>unhygienic intros
   · have vK:bz _ (dS pb M*(gg b ⟨o::os,x::ws⟩*(pt A.next (.cells bj true 1)*F))):=ke.dH (by ac_rfl)
     refine(pg pb M 1 o x).use (hw.alloc _) vK rfl ?_
     intro v A2 BD kl FD
     obtain⟨rfl,tB⟩:=BD.mT
     clear BD
     generalize fz M 2 1 o (gr x)=a at cX tB ⊢
     generalize pB M 1 o (gr x)=M' at cX tB
     generalize mq M 2 o=er at tB ⊢
     have LG:bz A2 (gg b ⟨o::os,x::ws⟩*(pt A.next (.cells bj true 1)*(dS pb M'*F))):=tB.dH (by ac_rfl)
     obtain⟨wh,r9,LF⟩:=gg.open LG
     obtain⟨zu,yC,zi,Kt,rfl,qb,GM,Lv,xF⟩:=au.tl (LF.dH (by ac_rfl):bz A2 (au .i64 wh (o::os)*(pt b (.cells [wh,r9] true 1)*(au .u64 r9 (x::ws)*(pt A.next (.cells bj true 1)*(dS pb M'*F))))))
     obtain⟨C9,Gg,G9,yp,rfl,qa,GL,Lt,xl⟩:=au.tl (xF.dH (by ac_rfl):bz A2 (au .u64 r9 (x::ws)*(pt b (.cells [.slice (some ⟨zu,yC,none⟩) (os.length+1) zi,r9] true 1)*(au .i64 (.slice (some ⟨zu,yC+1,none⟩) os.length (zi-1)) os*(pt A.next (.cells bj true 1)*(dS pb M'*F))))))
     have kZ:=(xl.dH (by ac_rfl):bz A2 (pt b (.cells [.slice (some ⟨zu,yC,none⟩) (os.length+1) zi,.slice (some ⟨C9,Gg,none⟩) (ws.length+1) G9] true 1)*(pt A.next (.cells bj true 1)*(au .i64 (.slice (some ⟨zu,yC+1,none⟩) os.length (zi-1)) os*(au .u64 (.slice (some ⟨C9,Gg+1,none⟩) ws.length (G9-1)) ws*(dS pb M'*F))))))
     have sw:=kZ.bR
     have uX:=kZ.right.bR
     have n1:=kZ.ne
     obtain⟨ll,tb⟩:=kl.eo sw
     obtain⟨Gi,s8⟩:=kl.eo qb
     obtain⟨Gh,s7⟩:=kl.eo qa
     obtain⟨yH,tc⟩:=kl.eo uX
     have e1:(1:Int)≤(os.length:Int)+1:=by omega
     have e2:(1:Int)≤(ws.length:Int)+1:=by omega
     have n2:=GM _ _ _ rfl
     have n3:=GL _ _ _ rfl
     have CJ:A2.next≠b:=fun e=>by rw [←e] at ll;simp at ll
     have EC:A2.next≠A.next:=fun e=>by rw [←e] at yH;simp at yH
     repeat' (first
     | (refine jx fun R hR=>?_;simp [aw,az,AW.aa,ah,bj,sw,uX,qb,qa,n1,Ne.symm n1,n2,n3,Ne.symm n2,Ne.symm n3,ll,tb,Gi,s8,Gh,s7,yH,tc,e1,e2,CJ,EC,ba.v,d8];try simp (disch:=omega) only [if_pos,if_neg,aw,az])
     | (refine hR _ _ ?_;clear hR R)|(refine hK _ _ ?_;clear hK K)|refine nx ?_
     | (refine N3 fun R hR=>?_;simp [aw,az,AW.aa,ah,bj,sw,uX,qb,qa,n1,Ne.symm n1,n2,n3,Ne.symm n2,Ne.symm n3,ll,tb,Gi,s8,Gh,s7,yH,tc,e1,e2,CJ,EC,ba.v,d8];try simp (disch:=omega) only [if_pos,if_neg,aw,az])
     | (refine MJ (fun R hR=>?_) (fun R hR=>?_)<;>(simp [aw,az,AW.aa,ah,bj,sw,uX,qb,qa,n1,Ne.symm n1,n2,n3,Ne.symm n2,Ne.symm n3,ll,tb,Gi,s8,Gh,s7,yH,tc,e1,e2,CJ,EC,ba.v,d8];try simp (disch:=omega) only [if_pos,if_neg,aw,az]))
     | refine N1 ?_
     | refine wn fun K hK=>?_
     | simp only [wS]
     | simp only [cg,sQ,lJ,Option.map_none,Option.map_some,List.getElem?_toArray,List.getElem?_cons_zero,List.getElem?_cons_succ,List.getD_cons_zero,List.getD_cons_succ,Option.bind_some]
     | (refine ⟨fun A' uy=>by rw [uy]<;>rfl,?_⟩)
     | (refine O2 (fun A'=>A'.bR C9=some (.cells yp true 1)) Tryz.mx [(0,0),(1,0),(2,0),(3,0),(4,0),(5,0),(6,0),(7,0),(8,0),(9,0),(10,0),(11,1),(12,0),(13,0),(14,3),(15,0),(16,0),(17,3)] (by decide +kernel) fun K hK=>?_)
     | ((refine wt (fun _=>True) Tryz.mx [] .nil (by decide +kernel) ?_<;>fail))
     | refine wb ?_|refine wr ?_|refine wk ?_|refine we ?_|refine ws ?_|refine wq ?_
     | (refine wc rfl (fun hc=>?_) (fun hc=>?_)<;>(try simp at hc)<;>(try omega))
     | (refine ib (fun hc=>?_) (fun hc=>?_)<;>(try omega)<;>(try simp (disch:=omega) only [if_pos,if_neg])))
     refine⟨_,by simp [AW.aa,ah,CJ,EC];rfl,bz.post (by rw [cX];simp [ba.v]) ?_⟩
     rw [cX,HP.cl]
     refine gg.dR (vo:=.slice (some ⟨zu,yC+1,none⟩) os.length (zi-1)) (vw:=.slice (some ⟨C9,Gg+1,none⟩) ws.length (G9-1)) (bz.LS kZ (by simp [AW.dX,n1,CJ]) (fun j x h1 h2 hx=>?_))
     have hj:=(kl.eo hx).1
     simp [AW.dX,h1,h2,hx,hj]
   · have vK:bz _ (dS pb M*(gg b ⟨o::os,x::ws⟩*(pt (A.next+1) (.cells bj true 1)*(pt A.next (.cells bj true 1)*F)))):=((ke.alloc (hw.alloc _) (.cells bj true 1)).dH (by simp only [AW.bq];ac_rfl))
     refine(pg pb M 1 o x).use ((hw.alloc _).alloc _) vK rfl ?_
     intro v A2 BD kl FD
     obtain⟨rfl,tB⟩:=BD.mT
     clear BD
     generalize fz M 2 1 o (gr x)=a at cX tB ⊢
     generalize pB M 1 o (gr x)=M' at cX tB
     generalize mq M 2 o=er at tB ⊢
     have LG:bz A2 (gg b ⟨o::os,x::ws⟩*(pt (A.next+1) (.cells bj true 1)*(pt A.next (.cells bj true 1)*(dS pb M'*F)))):=tB.dH (by ac_rfl)
     obtain⟨wh,r9,LF⟩:=gg.open LG
     obtain⟨zu,yC,zi,Kt,rfl,qb,GM,Lv,xF⟩:=au.tl (LF.dH (by ac_rfl):bz A2 (au .i64 wh (o::os)*(pt b (.cells [wh,r9] true 1)*(pt (A.next+1) (.cells bj true 1)*(au .u64 r9 (x::ws)*(pt A.next (.cells bj true 1)*(dS pb M'*F)))))))
     obtain⟨C9,Gg,G9,yp,rfl,qa,GL,Lt,xl⟩:=au.tl (xF.dH (by ac_rfl):bz A2 (au .u64 r9 (x::ws)*(pt b (.cells [.slice (some ⟨zu,yC,none⟩) (os.length+1) zi,r9] true 1)*(pt (A.next+1) (.cells bj true 1)*(au .i64 (.slice (some ⟨zu,yC+1,none⟩) os.length (zi-1)) os*(pt A.next (.cells bj true 1)*(dS pb M'*F)))))))
     have kZ:=(xl.dH (by ac_rfl):bz A2 (pt b (.cells [.slice (some ⟨zu,yC,none⟩) (os.length+1) zi,.slice (some ⟨C9,Gg,none⟩) (ws.length+1) G9] true 1)*(pt (A.next+1) (.cells bj true 1)*(pt A.next (.cells bj true 1)*(au .i64 (.slice (some ⟨zu,yC+1,none⟩) os.length (zi-1)) os*(au .u64 (.slice (some ⟨C9,Gg+1,none⟩) ws.length (G9-1)) ws*(dS pb M'*F)))))))
     have sw:=kZ.bR
     have vD:=kZ.right.bR
     have uX:=kZ.right.right.bR
     have n1:=kZ.Pn
     have n4:=kZ.ne
     have n5:=kZ.right.ne
     obtain⟨KV,Gq⟩:=kl.eo vD
     obtain⟨ll,tb⟩:=kl.eo sw
     obtain⟨Gi,s8⟩:=kl.eo qb
     obtain⟨Gh,s7⟩:=kl.eo qa
     obtain⟨yH,tc⟩:=kl.eo uX
     have e1:(1:Int)≤(os.length:Int)+1:=by omega
     have e2:(1:Int)≤(ws.length:Int)+1:=by omega
     have n2:=GM _ _ _ rfl
     have n3:=GL _ _ _ rfl
     have n6:=Lv _ _ _ _ _ rfl
     have n7:=Lt _ _ _ _ _ rfl
     have CJ:A2.next≠b:=fun e=>by rw [←e] at ll;simp at ll
     have EC:A2.next≠A.next:=fun e=>by rw [←e] at yH;simp at yH
     repeat' (first
     | (refine jx fun R hR=>?_;simp [aw,az,AW.aa,ah,bj,sw,uX,vD,n6,n7,Ne.symm n6,Ne.symm n7,n4,n5,Ne.symm n4,Ne.symm n5,KV,Gq,qb,qa,n1,Ne.symm n1,n2,n3,Ne.symm n2,Ne.symm n3,ll,tb,Gi,s8,Gh,s7,yH,tc,e1,e2,CJ,EC,ba.v,d8];try simp (disch:=omega) only [if_pos,if_neg,aw,az])
     | (refine hR _ _ ?_;clear hR R)|(refine hK _ _ ?_;clear hK K)|refine nx ?_
     | (refine N3 fun R hR=>?_;simp [aw,az,AW.aa,ah,bj,sw,uX,vD,n6,n7,Ne.symm n6,Ne.symm n7,n4,n5,Ne.symm n4,Ne.symm n5,KV,Gq,qb,qa,n1,Ne.symm n1,n2,n3,Ne.symm n2,Ne.symm n3,ll,tb,Gi,s8,Gh,s7,yH,tc,e1,e2,CJ,EC,ba.v,d8];try simp (disch:=omega) only [if_pos,if_neg,aw,az])
     | (refine MJ (fun R hR=>?_) (fun R hR=>?_)<;>(simp [aw,az,AW.aa,ah,bj,sw,uX,vD,n6,n7,Ne.symm n6,Ne.symm n7,n4,n5,Ne.symm n4,Ne.symm n5,KV,Gq,qb,qa,n1,Ne.symm n1,n2,n3,Ne.symm n2,Ne.symm n3,ll,tb,Gi,s8,Gh,s7,yH,tc,e1,e2,CJ,EC,ba.v,d8];try simp (disch:=omega) only [if_pos,if_neg,aw,az]))
     | refine N1 ?_
     | refine wn fun K hK=>?_
     | simp only [wS]
     | simp only [cg,sQ,lJ,Option.map_none,Option.map_some,List.getElem?_toArray,List.getElem?_cons_zero,List.getElem?_cons_succ,List.getD_cons_zero,List.getD_cons_succ,Option.bind_some]
     | (refine ⟨fun A' uy=>by rw [uy]<;>rfl,?_⟩)
     | (refine O2 (fun A'=>A'.bR C9=some (.cells yp true 1)) Tryz.mx [(0,0),(1,0),(2,0),(3,0),(4,0),(5,0),(6,0),(7,0),(8,0),(9,0),(10,0),(11,1),(12,0),(13,0),(14,3),(15,0),(16,0),(17,3)] (by decide +kernel) fun K hK=>?_)
     | ((refine wt (fun _=>True) Tryz.mx [] .nil (by decide +kernel) ?_<;>fail))
     | refine wb ?_|refine wr ?_|refine wk ?_|refine we ?_|refine ws ?_|refine wq ?_
     | (refine wc rfl (fun hc=>?_) (fun hc=>?_)<;>(try simp at hc)<;>(try omega))
     | (refine ib (fun hc=>?_) (fun hc=>?_)<;>(try omega)<;>(try simp (disch:=omega) only [if_pos,if_neg])))
     refine⟨_,by simp [AW.aa,ah,n1,n4,n5,Ne.symm n1,Ne.symm n4,Ne.symm n5];rfl,bz.post (by rw [cX];simp [ba.v]) ?_⟩
     rw [cX,HP.cl]
     refine gg.dR (vo:=.slice (some ⟨zu,yC+1,none⟩) os.length (zi-1)) (vw:=.slice (some ⟨C9,Gg+1,none⟩) ws.length (G9-1)) (bz.E4 kZ (by simp [AW.dX,n1,n4]) (fun j x h1 h2 h3 hx=>?_))
     simp [AW.dX,h1,h2,h3,hx]
end
section
variable [Gl]
def nN (l:List Int):List Int:=l.mergeSort fun x y=>decide (x≤y)
theorem IJ (B:Nat) (v:Value) (l:List Int) (A:AW) (hw:A.Wf) (h:fe B A .i64 v l) (hl:l.length<2^40) :
 aC Tryz.prog 291 [v] A (fun u A'=>fe B A' .i64 v (nN l)∧∀A0:AW,A0.next≤B→A0.le A→A0.le A'):=by
 have cL:iP Tryz.prog 291=true:=by kernel_rfl
 rcases h.dJ with ⟨o,c,rfl,rfl,_⟩|⟨p,c,cK,rfl,h0,hc,hs,hB,hg,ng,vE⟩
 · refine(aC.jS cL (rv:=.tuple #[]) (ret:=fun _ _=>.tuple #[]) (fun m _ _ _=>bG.undef m) (fun o' c' w=>Tryz.slices_Sort_int_none o' c' w)).mono ?_
   rintro u A' ⟨rfl,rfl⟩
   exact⟨by simpa [nN] using h,fun A0 _ hl=>hl⟩
 · have bW:(nN l).length=l.length:=by simp [nN]
   refine(HG cL (k:=.i64) (d:=nN l) (rv:=.tuple #[]) (ret:=fun _ _=>.tuple #[]) rfl h0 hc hg ng vE bW (fun m _ _ _ _=>bG.undef m)
    (fun iD off ew w hH hb _=>Tryz.slices_Sort_int iD off ew l w hH hb (by omega))).mono ?_
   rintro u A' ⟨rfl,rfl⟩
   refine⟨?_,fun A0 hA0 eT=>eT.set (by omega) _⟩
   have:=yA (B:=B) (k:=.i64) (nN l) [] hw hB hs hg (c:=c) (by simpa [bW] using ng) (by omega) bW.symm
   simpa using this
theorem rk (l:List Int):(Lib.compact l).length≤l.length:=by
 simp only [Lib.compact,Lib.compactUpTo,List.length_map]
 exact Nat.le_trans (List.length_filter_le _ _) (by simp)
theorem C6 (B:Nat) (v:Value) (l:List Int) (A:AW) (hw:A.Wf) (h:fe B A .i64 v l) (hl:l.length<2^40) :
 aC Tryz.prog 292 [v] A (fun u A'=>fe B A' .i64 u (Lib.compact l)∧∀A0:AW,A0.next≤B→A0.le A→A0.le A'):=by
 have cL:iP Tryz.prog 292=true:=by kernel_rfl
 rcases h.dJ with ⟨o,c,rfl,rfl,_⟩|⟨p,c,cK,rfl,h0,hc,hs,hB,hg,ng,vE⟩
 · refine(aC.jS cL (rv:=.slice o 0 c) (ret:=fun o' c'=>.slice o' 0 c') (fun m _ _ h=>h) (fun o' c' w=>Tryz.slices_Compact_int_empty o' c' w)).mono ?_
   rintro u A' ⟨rfl,rfl⟩
   exact⟨h,fun A0 _ hl=>hl⟩
 · have bW:=rk l
   refine(HG cL (k:=.i64) (d:=Lib.compact l++List.replicate (l.length-(Lib.compact l).length) 0) (rv:=.slice (some p) (Lib.compact l).length c) (ret:=fun a' gt=>.slice (some a') (Lib.compact l).length gt)
    rfl h0 hc hg ng vE (by simp;omega) (fun m a' gt xC OE=>.slice (.inl xC) (by omega) OE)
    (fun iD off ew w hH hb CU=>(Tryz.slices_Compact_int iD off ew l w hH (by omega) CU).mono fun e w' ⟨h1,q,h2⟩=>⟨h1,q,#[],by rw [h2];exact(Go.Sort.grow_empty _).symm⟩)).mono ?_
   rintro u A' ⟨rfl,rfl⟩
   refine⟨?_,fun A0 hA0 eT=>eT.set (by omega) _⟩
   exact yA (B:=B) (k:=.i64) (Lib.compact l) _ hw hB hs hg (c:=c) (by simp;omega) (by omega) rfl
end
section
namespace TLockA
theorem jD [Gl] {A:AW} {L:List It} {T:Prop} (hS:ak A L) (hw:A.Wf) (h':(bg A L∧bB A L∧cj L)=T:=by first|(dsimp only [af,ag,bg,bB,cj,eA];done)|exact rfl):T:=h'▸hS.eu hw
end TLockA
open TLockA
variable [Gl]
def dV (l:List Int):List Int:=Lib.compact (nN l)
set_option maxHeartbeats 1000000 in
theorem wu (v:Value) (l:List Int) (A:AW) (h:dB A .i64 v l) (hl:l.length<2^39) :
 aC Tryz.prog 253 [v] A (fun u A'=>fe A.next A' .i64 u (dV l)∧A.le A'):=by
 refine ab Tryz.func253 rfl (by kernel_rfl) fun hw=>?_
 revert hw;refine W trivial trivial (J1 ?_)<;>unhygienic intros
 refine bT (js v l A h hl) ?_
 rintro v1 A1 ⟨h1,l1⟩ w1 _
 revert hw;(repeat first|clear hw|revert hc|revert zn|revert zA|revert R|revert K);refine W trivial trivial (J1 ?_)<;>unhygienic intros
 refine bT (IJ A.next v1 l A1 w1 h1 (by omega)) ?_
 rintro _ A2 ⟨h2,l2⟩ w2 _
 revert hw;(repeat first|clear hw|revert hc|revert zn|revert zA|revert R|revert K);refine W trivial trivial (J1 ?_)<;>unhygienic intros
 refine bT (C6 A.next v1 (nN l) A2 w2 h2 (by simp [nN];omega)) ?_
 rintro v3 A3 ⟨h3,l3⟩ w3 _
 revert hw;(repeat first|clear hw|revert hc|revert zn|revert zA|revert R|revert K);refine W trivial trivial (J1 ?_)<;>unhygienic intros
 simp
 exact⟨h3,l3 A (Nat.le_refl _) (l2 A (Nat.le_refl _) l1)⟩
end
section
namespace TLockB
theorem jD [Gl] {A:AW} {L:List It} {T:Prop} (hS:ak A L) (hw:A.Wf) (h':(bg A L∧bB A L∧cj L)=T:=by first|(dsimp only [af,ag,bg,bB,cj,eA];done)|exact rfl):T:=h'▸hS.eu hw
end TLockB
open TLockB
variable [Gl]
def yQ (qq:List Int) (x:Int):List Int:=
 match qq with
 | []=>[x]
 | y::r=>if y<x then y::yQ r x else if y=x then y::r else x::y::r
def pL (l:List Int):List Int:=l.foldl yQ []
end
section
variable [Gl]
theorem G4:∀(a b:List Int),a.Pairwise (·< ·)→b.Pairwise (·< ·)→(∀x,x∈a↔x∈b)→a=b
 | [],[],_,_,_=>rfl
 | [],y::b,_,_,h=>by have:=(h y).2 (by simp);simp at this
 | x::a,[],_,_,h=>by have:=(h x).1 (by simp);simp at this
 | x::a,y::b,ha,hb,h=>by
   rw [List.pairwise_cons] at ha hb
   have Yv:x=y:=by
    have h1:=(h x).1 (by simp)
    have h2:=(h y).2 (by simp)
    rw [List.mem_cons] at h1 h2
    rcases h1 with h1|h1
    · exact h1
    · rcases h2 with h2|h2
      · exact h2.symm
      · have:=hb.1 x h1
        have:=ha.1 y h2
        omega
   subst Yv
   congr 1
   refine G4 a b ha.2 hb.2 fun z=>⟨fun hz=>?_,fun hz=>?_⟩
   · have:=ha.1 z hz
     have h1:=(h z).1 (by simp [hz])
     rw [List.mem_cons] at h1
     rcases h1 with h1|h1
     · omega
     · exact h1
   · have:=hb.1 z hz
     have h1:=(h z).2 (by simp [hz])
     rw [List.mem_cons] at h1
     rcases h1 with h1|h1
     · omega
     · exact h1
theorem EN (qq:List Int) (x z:Int):z∈yQ qq x↔z=x∨z∈qq:=by
 induction qq with
 | nil=>simp [yQ]
 | cons y r ih=>
   simp only [yQ]
   split
   · simp only [List.mem_cons,ih]
     constructor
     · rintro (h|h|h)
       · exact .inr (.inl h)
       · exact .inl h
       · exact .inr (.inr h)
     · rintro (h|h|h)
       · exact .inr (.inl h)
       · exact .inl h
       · exact .inr (.inr h)
   · split
     · rename_i h1 h2
       subst h2
       simp
     · simp
theorem M5 (qq:List Int) (x:Int) (h:qq.Pairwise (·< ·)):(yQ qq x).Pairwise (·< ·):=by
 induction qq with
 | nil=>simp [yQ]
 | cons y r ih=>
   have h0:=List.pairwise_cons.1 h
   simp only [yQ]
   split
   · rename_i h1
     refine List.pairwise_cons.2 ⟨fun z hz=>?_,ih h0.2⟩
     rcases (EN r x z).1 hz with e|e
     · omega
     · exact h0.1 z e
   · split
     · exact h
     · rename_i h1 h2
       refine List.pairwise_cons.2 ⟨fun z hz=>?_,h⟩
       rw [List.mem_cons] at hz
       rcases hz with e|e
       · omega
       · have:=h0.1 z e
         omega
theorem qp (l:List Int):(pL l).Pairwise (·< ·)∧∀z,z∈pL l↔z∈l:=by
 have:∀(l qq:List Int),qq.Pairwise (·< ·)→(l.foldl yQ qq).Pairwise (·< ·)∧∀z,z∈l.foldl yQ qq↔z∈qq∨z∈l:=by
  intro l
  induction l with
  | nil=>intro qq h;exact⟨h,by simp⟩
  | cons x r ih=>
    intro qq h
    obtain⟨h1,h2⟩:=ih (yQ qq x) (M5 qq x h)
    refine⟨h1,fun z=>?_⟩
    rw [List.foldl_cons,h2,EN,List.mem_cons]
    constructor
    · rintro ((h|h)|h)
      · exact .inr (.inl h)
      · exact .inl h
      · exact .inr (.inr h)
    · rintro (h|h|h)
      · exact .inl (.inr h)
      · exact .inl (.inl h)
      · exact .inr h
 have h:=this l [] List.Pairwise.nil
 exact⟨h.1,fun z=>by rw [pL,h.2];simp⟩
theorem C5 (l:List Int) (h:l.Pairwise (·≤·)):(Lib.compact l).Pairwise (·< ·)∧∀z,z∈Lib.compact l↔z∈l:=by
 have eT:∀i j,i≤j→j<l.length→l.toArray[i]!≤l.toArray[j]!:=by
  intro i j Vs hj
  rw [getElem!_pos l.toArray i (by simp;omega),getElem!_pos l.toArray j (by simpa using hj)]
  simp only [List.getElem_toArray]
  by_cases e:i=j
  · subst e;exact Int.le_refl _
  · exact List.pairwise_iff_getElem.1 h i j (by omega) hj (by omega)
 constructor
 · rw [Lib.compact,Lib.compactUpTo,List.pairwise_map]
   have hr:((List.range l.length).filter (Lib.keeps l.toArray)).Pairwise (·< ·):=List.Pairwise.filter _ List.pairwise_lt_range
   refine List.Pairwise.imp_of_mem ?_ hr
   intro i j hi hj Vs
   rw [List.mem_filter,List.mem_range] at hi hj
   have hk:=hj.2
   simp only [Lib.keeps,decide_eq_true_eq] at hk
   rcases hk with hk|hk
   · omega
   · have h1:=eT i (j-1) (by omega) (by omega)
     have h2:=eT (j-1) j (by omega) hj.1
     omega
 · intro z
   rw [Lib.compact,Lib.compactUpTo,List.mem_map]
   constructor
   · rintro ⟨i,hi,rfl⟩
     rw [List.mem_filter,List.mem_range] at hi
     rw [getElem!_pos l.toArray i (by simpa using hi.1)]
     simp
   · intro hz
     obtain⟨i,hi,rfl⟩:=List.getElem_of_mem hz
     have key:∀n i (hi:i<l.length),i≤n→∃a,a∈(List.range l.length).filter (Lib.keeps l.toArray)∧l.toArray[a]! = l[i]:=by
      intro n
      induction n with
      | zero=>
        intro i hi ti
        have:i=0:=by omega
        subst this
        exact⟨0,by simp [List.mem_filter,Lib.keeps,hi],by rw [getElem!_pos l.toArray 0 (by simpa using hi)];simp⟩
      | succ n ih=>
        intro i hi ti
        by_cases hk:Lib.keeps l.toArray i=true
        · exact⟨i,by simp [List.mem_filter,hk,hi],by rw [getElem!_pos l.toArray i (by simpa using hi)];simp⟩
        · simp only [Lib.keeps,decide_eq_true_eq,not_or,Decidable.not_not] at hk
          obtain⟨a,ha,hb⟩:=ih (i-1) (by omega) (by omega)
          refine⟨a,ha,?_⟩
          rw [hb]
          have h3:=hk.2
          rw [getElem!_pos l.toArray i (by simpa using hi),getElem!_pos l.toArray (i-1) (by simp;omega)] at h3
          simpa using h3.symm
     exact key i i hi (Nat.le_refl _)
theorem FY (l:List Int):dV l=pL l:=by
 have hs:(nN l).Pairwise (·≤·):=by
  have:=List.pairwise_mergeSort (le:=fun x y:Int=>decide (x≤y)) (by simp;omega) (by simp;omega) l
  exact this.imp (by simp)
 obtain⟨h1,h2⟩:=C5 (nN l) hs
 obtain⟨h3,h4⟩:=qp l
 refine G4 _ _ h1 h3 fun z=>?_
 rw [dV,h2,h4,nN,List.mem_mergeSort]
end
end Go.Stx
