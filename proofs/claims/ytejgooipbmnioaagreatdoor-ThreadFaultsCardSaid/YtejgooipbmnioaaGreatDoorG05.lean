/-
 Copies of the lists of a set and of a redo log.
-/
import Derived.Test.YtejgooipbmnioaaGreatDoorG04
set_option linter.unusedVariables false
set_option linter.unusedSimpArgs false
set_option linter.unusedSectionVars false
set_option maxRecDepth 20000
set_option maxHeartbeats 4000000
namespace Go.Stx
open Go Go.Proofs
attribute [local irreducible] TW cg eg bn aC aV cR df
section
open T6
variable [Gl]
theorem Cp (b ew:Nat) (v:Value) (l:List Int) (A:AW) (hg:A.bR b=some (qN ew v)) (h:dB A .i64 v l) (hl:l.length<2^39) :
 aC Tryz.prog 232 [.pointer (some ⟨b,0,none⟩)] A (fun u A'=>fe A.next A' .i64 u l∧A.le A'):=by
 refine ab Tryz.func232 rfl (by kernel_rfl) fun _=>?_
 dsimp only [qN] at hg
 refine W trivial (J2 hg @AW.aa) (J1 ?_)<;>unhygienic intros
 refine bT (js v l A h hl) ?_
 rintro u A1 ⟨h1,h2⟩ iV _
 (repeat first|revert hc|revert zn|revert zA|revert R|revert K);refine W trivial trivial (J1 ?_)<;>unhygienic intros
 exact⟨_,rfl,h1,h2⟩
theorem Au (b ew:Nat) (va vv vi:Value) (l:List Int) (A:AW) (hg:A.bR b=some (jA ew va vv vi)) (h:dB A .i64 va l) (hl:l.length<2^39) :
 aC Tryz.prog 162 [.pointer (some ⟨b,0,none⟩)] A (fun u A'=>fe A.next A' .i64 u l∧A.le A'):=by
 refine ab Tryz.func162 rfl (by kernel_rfl) fun _=>?_
 dsimp only [jA] at hg
 refine W trivial (J2 hg @AW.aa) (J1 ?_)<;>unhygienic intros
 refine bT (js va l A h hl) ?_
 rintro u A1 ⟨h1,h2⟩ iV _
 (repeat first|revert hc|revert zn|revert zA|revert R|revert K);refine W trivial trivial (J1 ?_)<;>unhygienic intros
 exact⟨_,rfl,h1,h2⟩
theorem yL (b ew:Nat) (va vv vi:Value) (l:List Int) (A:AW) (hg:A.bR b=some (jA ew va vv vi)) (h:dB A .u64 vv l) (hl:l.length<2^39) :
 aC Tryz.prog 240 [.pointer (some ⟨b,0,none⟩)] A (fun u A'=>fe A.next A' .u64 u l∧A.le A'):=by
 refine ab Tryz.func240 rfl (by kernel_rfl) fun _=>?_
 dsimp only [jA] at hg
 refine W trivial (J2 hg @AW.aa) (J1 ?_)<;>unhygienic intros
 refine bT (gw vv l A h hl) ?_
 rintro u A1 ⟨h1,h2⟩ iV _
 (repeat first|revert hc|revert zn|revert zA|revert R|revert K);refine W trivial trivial (J1 ?_)<;>unhygienic intros
 exact⟨_,rfl,h1,h2⟩
theorem EG (b ew:Nat) (o:Option Addr) (n c:Nat) (vv vi:Value) (A:AW) (hg:A.bR b=some (jA ew (.slice o n c) vv vi)) :
 eF 288 [.pointer (some ⟨b,0,none⟩)] A (.int .i64 n):=by
 refine ab Tryz.func288 rfl (by kernel_rfl) fun _=>?_
 dsimp only [jA] at hg
 refine W trivial (J2 hg @AW.aa) (J1 ?_)<;>unhygienic intros
 exact⟨_,rfl,rfl,rfl⟩
theorem EB (v:Value) (l:List Int) (rv:Int) (A:AW) (F:HP) (h:dB A .i64 v l) (hl:l.length<2^38) (hw:A.Wf) (hS:bz A F) :
 aC Tryz.prog 231 [v,.int .i64 rv] A (fun u A'=>∃b,u=.pointer (some ⟨b,0,none⟩)∧bz A' (io b ⟨l,rv,false⟩*F)∧A.le A'):=by
 refine ab Tryz.func231 rfl (by kernel_rfl) fun _=>?_
 revert hS hw;refine W trivial trivial (J1 ?_)<;>unhygienic intros
 refine bT (js v l A h (by omega)) ?_
 rintro u A1 ⟨h1,h2⟩ iV _
 obtain⟨o1,c1,rfl,_⟩:=h1.is.dJ
 revert hS hw;(repeat first|clear hS|clear hw|revert hc|revert zn|revert zA|revert R|revert K);refine W trivial trivial (J1 ?_)<;>unhygienic intros
 refine⟨_,by first|(simp;done)|(simp;rfl),A1.next,rfl,?_,h2.trans (AW.le.alloc _ _)⟩
 have ij:=(au.gG hS hw h2 h1).alloc iV (.cells [.slice o1 l.length c1,.int .i64 rv,.bool false] true 1)
 unfold io
 rw [bz.ex]
 exact⟨.slice o1 l.length c1,ij.dH (by show _=pt A1.next (.cells [.slice o1 l.length c1,.int .i64 rv,.bool false] true 1)*au .i64 (.slice o1 l.length c1) l*F;rw [HP.cl])⟩
end
section
abbrev KL:List (Nat×Nat):=[(0,0),(1,0),(2,0),(3,0),(4,0),(5,0),(6,0),(7,0),(8,0),(9,0),(10,0),(11,0)]
abbrev nc:List (Nat×Nat):=[(0,0),(1,0),(2,0),(3,0),(4,0),(5,0),(6,0),(7,0),(8,0),(9,0),(10,0),(11,0),(12,3),(13,0),(14,0),(15,0),(16,3)]
abbrev na:List (Nat×Nat):=[(0,0),(1,0),(2,0),(3,0),(4,0),(5,0),(6,2),(7,0),(8,0),(9,0),(10,3),(11,0),(12,0),(13,3)]
abbrev m9:List (Nat×Nat):=[(0,0),(1,0),(2,0),(3,0),(4,0),(5,0),(6,0),(7,0),(8,0),(9,0),(10,0),(11,0),(12,0),(13,0),(14,0),(15,0),(16,0),(17,0),(18,0),(19,0),(20,0),(21,0),(22,0),(23,0),(24,0),(25,0),(26,0),(27,3),(28,0),(29,0),(30,0),(31,3)]
abbrev pf:List (Nat×Nat):=[(0,0),(1,0),(2,0),(3,0),(4,0),(5,0),(6,0),(7,0),(8,0),(9,2),(10,3),(11,0),(12,0),(13,3)]
open T6
variable [Gl]
structure gy where
 am:Int
 an:List Int
 eo:List Int
 dY:Int
 fw:Bool
def gy.done (s:gy):Bool:=decide (s.eo.length=s.an.length)
def fW (b:Nat) (s:gy):HP:=nI fun vo:Value=>nI fun vw:Value=>
 pt b (.cells [.int .i64 s.am,vo,vw,.int .u64 s.dY,.bool s.fw] true 1)*(au .i64 vo s.an*au .u64 vw s.eo)
theorem fW.open {A:AW} {b:Nat} {s:gy} {F:HP} (h:bz A (fW b s*F)) :
 ∃vo vw,bz A (pt b (.cells [.int .i64 s.am,vo,vw,.int .u64 s.dY,.bool s.fw] true 1)*(au .i64 vo s.an*(au .u64 vw s.eo*F))):=by
 unfold fW at h
 rw [bz.ex] at h
 obtain⟨vo,h⟩:=h
 rw [bz.ex] at h
 obtain⟨vw,h⟩:=h
 exact⟨vo,vw,h.dH (by ac_rfl)⟩
theorem fW.dR {A:AW} {b:Nat} {s:gy} {F:HP} {vo vw:Value} (h:bz A (pt b (.cells [.int .i64 s.am,vo,vw,.int .u64 s.dY,.bool s.fw] true 1)*(au .i64 vo s.an*(au .u64 vw s.eo*F)))) :
 bz A (fW b s*F):=by
 unfold fW
 rw [bz.ex]
 refine⟨vo,?_⟩
 rw [bz.ex]
 exact⟨vw,h.dH (by ac_rfl)⟩
theorem lF (b:Nat) (s:gy) (A:AW) (F:HP) (h:bz A (fW b s*F)) :
 aC Tryz.prog 227 [.pointer (some ⟨b,0,none⟩)] A (fun v A'=>v=.bool s.done∧A=A'):=by
 refine ab Tryz.func227 rfl (by kernel_rfl) fun hw=>?_
 obtain⟨vo,vw,hS⟩:=fW.open h
 obtain⟨oo,co,rfl,_⟩:=(au.is hS.right).dJ
 obtain⟨ow,cw,rfl,_⟩:=(au.is hS.right.right).dJ
 have hg:=hS.bR
 revert hS hw;refine W (J1 (od KL)) (J2 hg @AW.aa) (J1 ?_)<;>unhygienic intros
 simp [gy.done]
 omega
def gY (s:gy):Int:=s.an.getD s.eo.length 0
def kH (s:gy):Int:=IntKind.u64.wrap (IntKind.u64.wrap (s.dY+IntKind.u64.wrap s.am)+1)
def eC (s:gy) (M:Nat→List Int):ba×gy×(Nat→List Int):=
 if s.done=true then (ba.zero,s,M)
 else if s.fw=false then
  let a:=fz M 1 2 (gY s) kM
  (a,{ s with dY:=a.fg,fw:=decide (kJ a.fg<0) },M)
 else
  let a:=fz M 3 2 (gY s) (mu s.dY (kH s))
  (a,{ s with fw:=false,eo:=if a.done=true then s.eo++[s.dY] else s.eo },pB M 2 (gY s) (mu s.dY (kH s)))
set_option maxHeartbeats 2000000 in
theorem Av (b pb:Nat) (s:gy) (M:Nat→List Int) (bW:s.eo.length≤s.an.length) (Ng:s.an.length<2^38) :
 mw Tryz.prog 226 [.pointer (some ⟨b,0,none⟩),.pointer (some ⟨pb,0,none⟩)] (fW b s*dS pb M)
  (fun v=>zQ (v=(eC s M).1.v)*(fW b (eC s M).2.1*dS pb (eC s M).2.2)):=by
 intro A F hw cY
 refine ab Tryz.func226 rfl (by kernel_rfl) fun _=>?_
 rw [HP.cl] at cY
 have ij:=((cY.alloc hw (.cells bj true 1)).alloc (hw.alloc _) (.cells bj true 1))
 have ke:bz ((A.alloc (.cells bj true 1)).alloc (.cells bj true 1)) (fW b s*(dS pb M*(pt (A.next+1) (.cells bj true 1)*(pt A.next (.cells bj true 1)*F)))):=ij.dH (by simp only [AW.bq];ac_rfl)
 by_cases hdone:s.done=true
 · revert hw;refine W (J5 (od nc) (od na) (od m9) (od pf) (lF b s _ _ ke)) (J4 hdone @AW.aa @ah.eq_1 @bj.eq_1) (J1 ?_)<;>unhygienic intros
   have cX:eC s M=(ba.zero,s,M):=by unfold eC;rw [if_pos hdone]
   rw [cX]
   refine⟨_,by simp [AW.gi,AW.dX,AW.aa,ah];rfl,bz.post (by simp [ba.v,ba.zero]) ?_⟩
   rw [HP.cl]
   exact cY.le hw ((((AW.le.alloc A _).trans (AW.le.alloc _ _)).set (Nat.le_refl _) _))
 · have LB:s.done=false:=by simpa using hdone
   have dO:s.eo.length<s.an.length:=by
    have:¬s.eo.length=s.an.length:=by simpa [gy.done] using hdone
    omega
   have fG:(s.eo.length:Int)<s.an.length:=by omega
   obtain⟨vo,vw,xG⟩:=fW.open cY
   have hg:=xG.bR
   have Sf:bz A (au .i64 vo s.an*(pt b (.cells [.int .i64 s.am,vo,vw,.int .u64 s.dY,.bool s.fw] true 1)*(au .u64 vw s.eo*(dS pb M*F)))):=xG.dH (by ac_rfl)
   obtain⟨bo,off,c,cK,rfl,_,uW,om,_,_⟩:=au.at Sf dO
   obtain⟨ow,cw,rfl,_⟩:=(au.is xG.right.right).dJ
   obtain⟨nb,Oc⟩:=hw.eo hg
   obtain⟨no,QI⟩:=hw.eo uW
   have PP:s.an[s.eo.length]=gY s:=by unfold gY;rw [List.getD_eq_getElem?_getD,List.getElem?_eq_getElem dO];rfl
   rw [PP] at om
   cases GO:s.fw
   · rw [GO] at hg
     revert hw;(repeat first|clear hw|revert hc|revert zn|revert zA|revert R|revert K);refine W (J5 (od nc) (od na) (od m9) (od pf) (lF b s _ _ ke)) (rQ LB hg uW om nb Oc no QI dO fG @AW.aa @ah.eq_1 @bj.eq_1) (J1 ?_)<;>unhygienic intros
     have vK:bz _ (dS pb M*(fW b s*(pt (A.next+1) (.cells bj true 1)*(pt A.next (.cells bj true 1)*F)))):=ke.dH (by ac_rfl)
     refine(EE pb M 2 (gY s)).use ((hw.alloc _).alloc _) vK rfl ?_
     intro v A2 BD kl FD
     obtain⟨rfl,tB⟩:=BD.mT
     clear BD
     have cX:eC s M=(fz M 1 2 (gY s) kM,{ s with dY:=(fz M 1 2 (gY s) kM).fg,fw:=decide (kJ (fz M 1 2 (gY s) kM).fg<0) },M):=by
      unfold eC;rw [if_neg hdone,if_pos GO]
     generalize fz M 1 2 (gY s) kM=a at cX tB ⊢
     have LG:bz A2 (fW b s*(pt (A.next+1) (.cells bj true 1)*(pt A.next (.cells bj true 1)*(dS pb M*F)))):=tB.dH (by ac_rfl)
     obtain⟨wh,r9,LF⟩:=fW.open LG
     have xF:bz A2 (pt b (.cells [.int .i64 s.am,wh,r9,.int .u64 s.dY,.bool s.fw] true 1)*(pt (A.next+1) (.cells bj true 1)*(pt A.next (.cells bj true 1)*(au .i64 wh s.an*(au .u64 r9 s.eo*(dS pb M*F)))))):=LF.dH (by ac_rfl)
     have sw:=xF.bR
     have vD:=xF.right.bR
     have uX:=xF.right.right.bR
     have n1:=xF.ne
     have n2:=xF.Pn
     have n3:=xF.right.ne
     revert hw;(repeat first|clear hw|revert hc|revert zn|revert zA|revert R|revert K);refine W (J5 (od nc) (od na) (od m9) (od pf) @tQ) (Dz sw vD uX n1 n2 n3 GO (Ne.symm n1) (Ne.symm n2) (Ne.symm n3) @AW.aa @ah.eq_1 @bj.eq_1 @ba.v.eq_1) (J1 ?_)<;>unhygienic intros
     refine⟨_,by simp [AW.gi,AW.dX,AW.aa,ah];rfl,bz.post (by rw [cX];simp [ba.v]) ?_⟩
     rw [cX,HP.cl]
     refine fW.dR (vo:=wh) (vw:=r9) (bz.E4 xF (by simp [AW.dX,n1,n2]) (fun j x h1 h2 h3 hx=>?_))
     simp [AW.dX,h1,h2,h3,hx]
   · rw [GO] at hg
     revert hw;(repeat first|clear hw|revert hc|revert zn|revert zA|revert R|revert K);refine W (J5 (od nc) (od na) (od m9) (od pf) (lF b s _ _ ke)) (rQ LB hg uW om nb Oc no QI dO fG @AW.aa @ah.eq_1 @bj.eq_1) (J1 ?_)<;>unhygienic intros
     have vK:bz _ (dS pb M*(fW b s*(pt (A.next+1) (.cells bj true 1)*(pt A.next (.cells bj true 1)*F)))):=ke.dH (by ac_rfl)
     refine(ED pb M 2 (gY s) _ _).use ((hw.alloc _).alloc _) vK rfl ?_
     intro v A2 BD kl FD
     obtain⟨rfl,tB⟩:=BD.mT
     clear BD
     have cX:eC s M=(fz M 3 2 (gY s) (mu s.dY (kH s)),{ s with fw:=false,eo:=if (fz M 3 2 (gY s) (mu s.dY (kH s))).done=true then s.eo++[s.dY] else s.eo },pB M 2 (gY s) (mu s.dY (kH s))):=by
      unfold eC;rw [if_neg hdone,if_neg (by simp [GO])]
     have AC:IntKind.u64.wrap (IntKind.u64.wrap (s.dY+IntKind.u64.wrap s.am)+1)=kH s:=rfl
     rw [AC] at tB ⊢
     generalize fz M 3 2 (gY s) (mu s.dY (kH s))=a at cX tB ⊢
     generalize pB M 2 (gY s) (mu s.dY (kH s))=M' at cX tB
     have LG:bz A2 (fW b s*(pt (A.next+1) (.cells bj true 1)*(pt A.next (.cells bj true 1)*(dS pb M'*F)))):=tB.dH (by ac_rfl)
     obtain⟨wh,r9,LF⟩:=fW.open LG
     have xF:bz A2 (pt b (.cells [.int .i64 s.am,wh,r9,.int .u64 s.dY,.bool s.fw] true 1)*(pt (A.next+1) (.cells bj true 1)*(pt A.next (.cells bj true 1)*(au .i64 wh s.an*(au .u64 r9 s.eo*(dS pb M'*F)))))):=LF.dH (by ac_rfl)
     have sw:=xF.bR
     have vD:=xF.right.bR
     have uX:=xF.right.right.bR
     have n1:=xF.ne
     have n2:=xF.Pn
     have n3:=xF.right.ne
     cases lm:a.done
     · revert hw;(repeat first|clear hw|revert hc|revert zn|revert zA|revert R|revert K);refine W (J4 (od nc) (od na) (od m9) (od pf)) (JX sw vD uX n1 n2 n3 GO lm (Ne.symm n1) (Ne.symm n2) (Ne.symm n3) @AW.aa @ah.eq_1 @bj.eq_1 @ba.v.eq_1) (J1 ?_)<;>unhygienic intros
       refine⟨_,by simp [AW.gi,AW.dX,AW.aa,ah];rfl,bz.post (by rw [cX];simp [ba.v,lm]) ?_⟩
       rw [cX,HP.cl]
       simp only [lm,Bool.false_eq_true,if_false]
       refine fW.dR (vo:=wh) (vw:=r9) (bz.E4 xF (by simp [AW.dX,n1,n2]) (fun j x h1 h2 h3 hx=>?_))
       simp [AW.dX,h1,h2,h3,hx]
     · revert hw;(repeat first|clear hw|revert hc|revert zn|revert zA|revert R|revert K);refine W (J3 (od nc) (od na) (od m9)) (JX sw vD uX n1 n2 n3 GO lm (Ne.symm n1) (Ne.symm n2) (Ne.symm n3) @AW.aa @ah.eq_1 @bj.eq_1 @ba.v.eq_1) (J1 ?_)<;>unhygienic intros
       refine NH (fun A3=>A3.Wf∧bz A3 (pt b (.cells [.int .i64 s.am,wh,r9,.int .u64 s.dY,.bool false] true 1)*(pt (A.next+1) (.cells a.cells true 1)*(pt A.next (.cells bj true 1)*(au .i64 wh s.an*(au .u64 r9 s.eo*(dS pb M'*F))))))) ?_ ?_
       · refine⟨(kl.set _ (kl.lt vD)).set _ (kl.lt sw),bz.Ue xF (by simp [AW.dX]) (by simp [AW.dX,Ne.symm n1,ba.cells,lm]) (by simp [AW.dX,Ne.symm n2,Ne.symm n3,uX,bj]) (fun j x h1 h2 h3 hx=>by simp [AW.dX,h1,h2,h3,hx])⟩
       rintro A3 ⟨GI,xl⟩
       have PS:=xl.bR
       have Vz:=xl.right.bR
       have VA:=xl.right.right.bR
       obtain⟨v',A4,e1,kZ,TB,_⟩:=au.append (P:=Tryz.prog) (t:=58) s.dY Tryz.underlying58 Tryz.info45 Tryz.zero45 rfl rfl
        (xl.dH (by ac_rfl):bz A3 (au .u64 r9 s.eo*(pt b (.cells [.int .i64 s.am,wh,r9,.int .u64 s.dY,.bool false] true 1)*(pt (A.next+1) (.cells a.cells true 1)*(pt A.next (.cells bj true 1)*(au .i64 wh s.an*(dS pb M'*F)))))))
        (by omega) (by simp) GI
       have Nt:bz A4 (pt b (.cells [.int .i64 s.am,wh,r9,.int .u64 s.dY,.bool false] true 1)*(pt (A.next+1) (.cells a.cells true 1)*(pt A.next (.cells bj true 1)*(au .i64 wh s.an*(au .u64 v' (s.eo++[s.dY])*(dS pb M'*F)))))):=kZ.dH (by ac_rfl)
       have Vw:=Nt.bR
       have Vx:=Nt.right.bR
       have Vy:=Nt.right.right.bR
       obtain⟨o3,UF,rS⟩:True∧(b=A3.next)=False∧∀k,(b=A3.next+k)=False:=⟨trivial,(GI.eo PS).1,(GI.eo PS).2⟩
       have QO:∃o c,v'=.slice o (s.eo.length+1) c:=by
        obtain⟨o,c,h,_⟩:=(au.is kZ).dJ
        exact⟨o,c,by simpa using h⟩
       obtain⟨o',c',rfl⟩:=QO
       revert hw;(repeat first|clear hw|revert hc|revert zn|revert zA|revert R|revert K);refine W (J4 (od nc) (od na) (od m9) (od pf)) (XH PS Vz VA Vw Vx Vy n1 n2 n3 UF rS e1 lm (Ne.symm n1) (Ne.symm n2) (Ne.symm n3) @AW.aa @ah.eq_1 @bj.eq_1 (J2 @ba.v.eq_1 @ba.cells.eq_1)) (J1 ?_)<;>unhygienic intros
       refine⟨_,by simp [AW.gi,AW.dX,AW.aa,ah];rfl,bz.post (by rw [cX];simp [ba.v,lm]) ?_⟩
       rw [cX,HP.cl]
       simp only [lm,if_true]
       refine fW.dR (vo:=wh) (vw:=.slice o' (s.eo.length+1) c') (bz.E4 Nt (by simp [AW.dX,n1,n2]) (fun j x h1 h2 h3 hx=>?_))
       simp [AW.dX,h1,h2,h3,hx]
end
section
open T6
variable [Gl]
structure iQ where
 os:List Int
 ws:List Int
def gg (b:Nat) (s:iQ):HP:=nI fun vo:Value=>nI fun vw:Value=>
 pt b (.cells [vo,vw] true 1)*(au .i64 vo s.os*au .u64 vw s.ws)
theorem gg.open {A:AW} {b:Nat} {s:iQ} {F:HP} (h:bz A (gg b s*F)) :
 ∃vo vw,bz A (pt b (.cells [vo,vw] true 1)*(au .i64 vo s.os*(au .u64 vw s.ws*F))):=by
 unfold gg at h
 rw [bz.ex] at h
 obtain⟨vo,h⟩:=h
 rw [bz.ex] at h
 obtain⟨vw,h⟩:=h
 exact⟨vo,vw,h.dH (by ac_rfl)⟩
theorem gg.dR {A:AW} {b:Nat} {s:iQ} {F:HP} {vo vw:Value} (h:bz A (pt b (.cells [vo,vw] true 1)*(au .i64 vo s.os*(au .u64 vw s.ws*F)))) :
 bz A (gg b s*F):=by
 unfold gg
 rw [bz.ex]
 refine⟨vo,?_⟩
 rw [bz.ex]
 exact⟨vw,h.dH (by ac_rfl)⟩
def iQ.done (s:iQ):Bool:=decide (s.os.length=0)
theorem pK (b:Nat) (s:iQ) (A:AW) (F:HP) (h:bz A (gg b s*F)) :
 aC Tryz.prog 247 [.pointer (some ⟨b,0,none⟩)] A (fun v A'=>v=.bool s.done∧A=A'):=by
 refine ab Tryz.func247 rfl (by kernel_rfl) fun hw=>?_
 obtain⟨vo,vw,hS⟩:=gg.open h
 obtain⟨oo,co,rfl,_⟩:=(au.is hS.right).dJ
 obtain⟨ow,cw,rfl,_⟩:=(au.is hS.right.right).dJ
 have hg:=hS.bR
 revert hS hw;refine W trivial (J2 hg @AW.aa) (J1 ?_)<;>unhygienic intros
 simp [iQ.done]
theorem au.tl {A:AW} {k:IntKind} {v:Value} {x:Int} {l:List Int} {F:HP} (h:bz A (au k v (x::l)*F)) :
 ∃b off c cK,v=.slice (some ⟨b,off,none⟩) (l.length+1) c∧A.bR b=some (.cells cK true 1)∧(∀j o F',F=pt j o*F'→b≠j)∧(∀j o i o' F',F=pt j o*(pt i o'*F')→b≠i)∧bz A (au k (.slice (some ⟨b,off+1,none⟩) l.length (c-1)) l*F):=by
 rcases d9.cases h with ⟨_,h0,_⟩|⟨b,off,c,cK,rfl,h1,h2,h3,h4⟩
 · simp at h0
 · refine⟨b,off,c,cK,by simp,h4.bR,fun j o F' e=>by subst e;exact h4.ne,fun j o i o' F' e=>by subst e;exact h4.Pn,?_⟩
   simp only [List.length_cons,Nat.mul_one] at h1 h2 h3
   refine au.mk rfl (by omega) (by omega) ?_ h4
   rw [List.drop_eq_getElem_cons (by omega),List.map_cons,List.take_succ_cons] at h3
   exact(List.cons.inj h3).2
def jz (s:iQ) (M:Nat→List Int):ba×iQ×(Nat→List Int):=
 if s.done=true then (ba.zero,s,M)
 else (fz M 2 2 (s.os.getD 0 0) (gr (s.ws.getD 0 0)),⟨s.os.tail,s.ws.tail⟩,pB M 2 (s.os.getD 0 0) (gr (s.ws.getD 0 0)))
set_option maxRecDepth 20000 in
set_option maxHeartbeats 1000000 in
theorem Cw (b pb:Nat) (s:iQ) (M:Nat→List Int) (bW:s.os.length=s.ws.length) :
 mw Tryz.prog 246 [.pointer (some ⟨b,0,none⟩),.pointer (some ⟨pb,0,none⟩)] (gg b s*dS pb M)
  (fun v=>zQ (v=(jz s M).1.v)*(gg b (jz s M).2.1*dS pb (jz s M).2.2)):=by
 intro A F hw cY
 refine ab Tryz.func246 rfl (by kernel_rfl) fun _=>?_
 rw [HP.cl] at cY
 have ij:=(cY.alloc hw (.cells bj true 1))
 have ke:bz (A.alloc (.cells bj true 1)) (gg b s*(dS pb M*(pt A.next (.cells bj true 1)*F))):=ij.dH (by ac_rfl)
 by_cases hdone:s.done=true
 · have hd:=pK b s _ _ ke
   rw [hdone] at hd
   revert hw;refine Wu (J2 (⟨⟩:Ts (fun _=>True) [0,0,0,0,0,0,0,0,0,0,0,0,0,3,0,0,0,2,3,0] (.bh 0 (.bh 1 (.bh 2 (.bh 3 (.bh 4 (.bh 5 (.bh 6 (.bh 7 (.bh 8 (.bh 9 (.bh 10 (.bh 11 (.bh 12 (.sc 13 (.bh 14 (.bh 15 (.bh 16 (.bh 17 (.bh 18 (.bh 19 .nil)))))) 17 (.bh 13 (.bh 14 (.bh 15 (.bh 16 (.bh 18 (.bh 19 .nil))))))))))))))))))))) @hd) (J3 @AW.aa @ah.eq_1 @bj.eq_1) (J1 ?_)<;>unhygienic intros
   have cX:jz s M=(ba.zero,s,M):=by unfold jz;rw [if_pos hdone]
   rw [cX]
   refine⟨_,by simp [AW.aa,ah];rfl,bz.post (by simp [ba.v,ba.zero]) ?_⟩
   rw [HP.cl]
   exact cY.le hw ((AW.le.alloc A _).set (Nat.le_refl _) _)
 · have hd:=pK b s _ _ ke
   rw [show s.done=false by simpa using hdone] at hd
   obtain⟨os,ws⟩:=s
   cases os with
   | nil=>simp [iQ.done] at hdone
   | cons o os=>
   cases ws with
   | nil=>simp at bW
   | cons x ws=>
   have cX:jz ⟨o::os,x::ws⟩ M=(fz M 2 2 o (gr x),⟨os,ws⟩,pB M 2 o (gr x)):=by
    unfold jz;rw [if_neg hdone];rfl
   obtain⟨vo,vw,xG⟩:=gg.open cY
   have hg:=xG.bR
   have Sf:bz A (au .i64 vo (o::os)*(pt b (.cells [vo,vw] true 1)*(au .u64 vw (x::ws)*(dS pb M*F)))):=xG.dH (by ac_rfl)
   have VS:bz A (au .u64 vw (x::ws)*(pt b (.cells [vo,vw] true 1)*(au .i64 vo (o::os)*(dS pb M*F)))):=xG.dH (by ac_rfl)
   obtain⟨bo,off,c,cK,rfl,_,uW,om,_,_⟩:=au.at Sf (j:=0) (by simp)
   obtain⟨bw,UA,cw,Uq,rfl,_,PQ,Sa,_,_⟩:=au.at VS (j:=0) (by simp)
   obtain⟨nb,Oc⟩:=hw.eo hg
   obtain⟨no,QI⟩:=hw.eo uW
   obtain⟨nw,UB⟩:=hw.eo PQ
   simp at uW om PQ Sa
   revert hw;(repeat first|clear hw|revert hc|revert zn|revert zA|revert R|revert K);refine Wu (J2 @hd (⟨⟩:Ts (fun _=>True) [0,0,0,0,0,0,0,0,0,0,0,0,0,3,0,0,0,2,3,3] (.bh 0 (.bh 1 (.bh 2 (.bh 3 (.bh 4 (.bh 5 (.bh 6 (.bh 7 (.bh 8 (.bh 9 (.bh 10 (.bh 11 (.bh 12 (.sc 13 (.bh 14 (.bh 15 (.bh 16 (.bh 17 (.bh 18 (.bh 19 .nil)))))) 17 (.bh 13 (.bh 14 (.bh 15 (.bh 16 (.bh 18 (.bh 19 .nil)))))))))))))))))))))) (Dz hg uW om PQ Sa nb Oc no QI nw UB @AW.aa @ah.eq_1 @bj.eq_1) (J2 ?_ ?_)<;>unhygienic intros
   · have vK:bz _ (dS pb M*(gg b ⟨o::os,x::ws⟩*(pt A.next (.cells bj true 1)*F))):=ke.dH (by ac_rfl)
     refine(pg pb M 2 o x).use (hw.alloc _) vK rfl ?_
     intro v A2 BD kl FD
     obtain⟨rfl,tB⟩:=BD.mT
     clear BD
     generalize fz M 2 2 o (gr x)=a at cX tB ⊢
     generalize pB M 2 o (gr x)=M' at cX tB
     generalize mq M 2 o=er at tB ⊢
     have LG:bz A2 (gg b ⟨o::os,x::ws⟩*(pt A.next (.cells bj true 1)*(dS pb M'*F))):=tB.dH (by ac_rfl)
     obtain⟨wh,r9,LF⟩:=gg.open LG
     obtain⟨zu,yC,zi,Kt,rfl,qb,GM,Lv,xF⟩:=au.tl (LF.dH (by ac_rfl):bz A2 (au .i64 wh (o::os)*(pt b (.cells [wh,r9] true 1)*(au .u64 r9 (x::ws)*(pt A.next (.cells bj true 1)*(dS pb M'*F))))))
     obtain⟨C9,Gg,G9,yp,rfl,qa,GL,Lt,xl⟩:=au.tl (xF.dH (by ac_rfl):bz A2 (au .u64 r9 (x::ws)*(pt b (.cells [.slice (some ⟨zu,yC,none⟩) (os.length+1) zi,r9] true 1)*(au .i64 (.slice (some ⟨zu,yC+1,none⟩) os.length (zi-1)) os*(pt A.next (.cells bj true 1)*(dS pb M'*F))))))
     have kZ:=(xl.dH (by ac_rfl):bz A2 (pt b (.cells [.slice (some ⟨zu,yC,none⟩) (os.length+1) zi,.slice (some ⟨C9,Gg,none⟩) (ws.length+1) G9] true 1)*(pt A.next (.cells bj true 1)*(au .i64 (.slice (some ⟨zu,yC+1,none⟩) os.length (zi-1)) os*(au .u64 (.slice (some ⟨C9,Gg+1,none⟩) ws.length (G9-1)) ws*(dS pb M'*F))))))
     have sw:=kZ.bR
     have uX:=kZ.right.bR
     have n1:=kZ.ne
     obtain⟨ll,tb⟩:=kl.eo sw
     obtain⟨Gi,s8⟩:=kl.eo qb
     obtain⟨Gh,s7⟩:=kl.eo qa
     obtain⟨yH,tc⟩:=kl.eo uX
     have e1:(1:Int)≤(os.length:Int)+1:=by omega
     have e2:(1:Int)≤(ws.length:Int)+1:=by omega
     have n2:=GM _ _ _ rfl
     have n3:=GL _ _ _ rfl
     have CJ:A2.next≠b:=fun e=>by rw [←e] at ll;simp at ll
     have EC:A2.next≠A.next:=fun e=>by rw [←e] at yH;simp at yH
     repeat' (first
     | (refine jx fun R hR=>?_;simp [aw,az,AW.aa,ah,bj,sw,uX,qb,qa,n1,Ne.symm n1,n2,n3,Ne.symm n2,Ne.symm n3,ll,tb,Gi,s8,Gh,s7,yH,tc,e1,e2,CJ,EC,ba.v,d8];try simp (disch:=omega) only [if_pos,if_neg,aw,az])
     | (refine hR _ _ ?_;clear hR R)|(refine hK _ _ ?_;clear hK K)|refine nx ?_
     | (refine N3 fun R hR=>?_;simp [aw,az,AW.aa,ah,bj,sw,uX,qb,qa,n1,Ne.symm n1,n2,n3,Ne.symm n2,Ne.symm n3,ll,tb,Gi,s8,Gh,s7,yH,tc,e1,e2,CJ,EC,ba.v,d8];try simp (disch:=omega) only [if_pos,if_neg,aw,az])
     | (refine MJ (fun R hR=>?_) (fun R hR=>?_)<;>(simp [aw,az,AW.aa,ah,bj,sw,uX,qb,qa,n1,Ne.symm n1,n2,n3,Ne.symm n2,Ne.symm n3,ll,tb,Gi,s8,Gh,s7,yH,tc,e1,e2,CJ,EC,ba.v,d8];try simp (disch:=omega) only [if_pos,if_neg,aw,az]))
     | refine N1 ?_
     | refine wn fun K hK=>?_
     | simp only [wS]
     | simp only [cg,sQ,lJ,Option.map_none,Option.map_some,List.getElem?_toArray,List.getElem?_cons_zero,List.getElem?_cons_succ,List.getD_cons_zero,List.getD_cons_succ,Option.bind_some]
     | (refine ⟨fun A' uy=>by rw [uy]<;>rfl,?_⟩)
     | (refine O2 (fun A'=>A'.bR C9=some (.cells yp true 1)) Tryz.mx [(0,0),(1,0),(2,0),(3,0),(4,0),(5,0),(6,0),(7,0),(8,0),(9,0),(10,0),(11,1),(12,0),(13,0),(14,3),(15,0),(16,0),(17,3)] (by decide +kernel) fun K hK=>?_)
     | ((refine wt (fun _=>True) Tryz.mx [] .nil (by decide +kernel) ?_<;>fail))
     | refine wb ?_|refine wr ?_|refine wk ?_|refine we ?_|refine ws ?_|refine wq ?_
     | (refine wc rfl (fun hc=>?_) (fun hc=>?_)<;>(try simp at hc)<;>(try omega))
     | (refine ib (fun hc=>?_) (fun hc=>?_)<;>(try omega)<;>(try simp (disch:=omega) only [if_pos,if_neg])))
     refine⟨_,by simp [AW.aa,ah,CJ,EC];rfl,bz.post (by rw [cX];simp [ba.v]) ?_⟩
     rw [cX,HP.cl]
     refine gg.dR (vo:=.slice (some ⟨zu,yC+1,none⟩) os.length (zi-1)) (vw:=.slice (some ⟨C9,Gg+1,none⟩) ws.length (G9-1)) (bz.LS kZ (by simp [AW.dX,n1,CJ]) (fun j x h1 h2 hx=>?_))
     have hj:=(kl.eo hx).1
     simp [AW.dX,h1,h2,hx,hj]
   · have vK:bz _ (dS pb M*(gg b ⟨o::os,x::ws⟩*(pt (A.next+1) (.cells bj true 1)*(pt A.next (.cells bj true 1)*F)))):=((ke.alloc (hw.alloc _) (.cells bj true 1)).dH (by simp only [AW.bq];ac_rfl))
     refine(pg pb M 2 o x).use ((hw.alloc _).alloc _) vK rfl ?_
     intro v A2 BD kl FD
     obtain⟨rfl,tB⟩:=BD.mT
     clear BD
     generalize fz M 2 2 o (gr x)=a at cX tB ⊢
     generalize pB M 2 o (gr x)=M' at cX tB
     generalize mq M 2 o=er at tB ⊢
     have LG:bz A2 (gg b ⟨o::os,x::ws⟩*(pt (A.next+1) (.cells bj true 1)*(pt A.next (.cells bj true 1)*(dS pb M'*F)))):=tB.dH (by ac_rfl)
     obtain⟨wh,r9,LF⟩:=gg.open LG
     obtain⟨zu,yC,zi,Kt,rfl,qb,GM,Lv,xF⟩:=au.tl (LF.dH (by ac_rfl):bz A2 (au .i64 wh (o::os)*(pt b (.cells [wh,r9] true 1)*(pt (A.next+1) (.cells bj true 1)*(au .u64 r9 (x::ws)*(pt A.next (.cells bj true 1)*(dS pb M'*F)))))))
     obtain⟨C9,Gg,G9,yp,rfl,qa,GL,Lt,xl⟩:=au.tl (xF.dH (by ac_rfl):bz A2 (au .u64 r9 (x::ws)*(pt b (.cells [.slice (some ⟨zu,yC,none⟩) (os.length+1) zi,r9] true 1)*(pt (A.next+1) (.cells bj true 1)*(au .i64 (.slice (some ⟨zu,yC+1,none⟩) os.length (zi-1)) os*(pt A.next (.cells bj true 1)*(dS pb M'*F)))))))
     have kZ:=(xl.dH (by ac_rfl):bz A2 (pt b (.cells [.slice (some ⟨zu,yC,none⟩) (os.length+1) zi,.slice (some ⟨C9,Gg,none⟩) (ws.length+1) G9] true 1)*(pt (A.next+1) (.cells bj true 1)*(pt A.next (.cells bj true 1)*(au .i64 (.slice (some ⟨zu,yC+1,none⟩) os.length (zi-1)) os*(au .u64 (.slice (some ⟨C9,Gg+1,none⟩) ws.length (G9-1)) ws*(dS pb M'*F)))))))
     have sw:=kZ.bR
     have vD:=kZ.right.bR
     have uX:=kZ.right.right.bR
     have n1:=kZ.Pn
     have n4:=kZ.ne
     have n5:=kZ.right.ne
     obtain⟨KV,Gq⟩:=kl.eo vD
     obtain⟨ll,tb⟩:=kl.eo sw
     obtain⟨Gi,s8⟩:=kl.eo qb
     obtain⟨Gh,s7⟩:=kl.eo qa
     obtain⟨yH,tc⟩:=kl.eo uX
     have e1:(1:Int)≤(os.length:Int)+1:=by omega
     have e2:(1:Int)≤(ws.length:Int)+1:=by omega
     have n2:=GM _ _ _ rfl
     have n3:=GL _ _ _ rfl
     have n6:=Lv _ _ _ _ _ rfl
     have n7:=Lt _ _ _ _ _ rfl
     have CJ:A2.next≠b:=fun e=>by rw [←e] at ll;simp at ll
     have EC:A2.next≠A.next:=fun e=>by rw [←e] at yH;simp at yH
     repeat' (first
     | (refine jx fun R hR=>?_;simp [aw,az,AW.aa,ah,bj,sw,uX,vD,n6,n7,Ne.symm n6,Ne.symm n7,n4,n5,Ne.symm n4,Ne.symm n5,KV,Gq,qb,qa,n1,Ne.symm n1,n2,n3,Ne.symm n2,Ne.symm n3,ll,tb,Gi,s8,Gh,s7,yH,tc,e1,e2,CJ,EC,ba.v,d8];try simp (disch:=omega) only [if_pos,if_neg,aw,az])
     | (refine hR _ _ ?_;clear hR R)|(refine hK _ _ ?_;clear hK K)|refine nx ?_
     | (refine N3 fun R hR=>?_;simp [aw,az,AW.aa,ah,bj,sw,uX,vD,n6,n7,Ne.symm n6,Ne.symm n7,n4,n5,Ne.symm n4,Ne.symm n5,KV,Gq,qb,qa,n1,Ne.symm n1,n2,n3,Ne.symm n2,Ne.symm n3,ll,tb,Gi,s8,Gh,s7,yH,tc,e1,e2,CJ,EC,ba.v,d8];try simp (disch:=omega) only [if_pos,if_neg,aw,az])
     | (refine MJ (fun R hR=>?_) (fun R hR=>?_)<;>(simp [aw,az,AW.aa,ah,bj,sw,uX,vD,n6,n7,Ne.symm n6,Ne.symm n7,n4,n5,Ne.symm n4,Ne.symm n5,KV,Gq,qb,qa,n1,Ne.symm n1,n2,n3,Ne.symm n2,Ne.symm n3,ll,tb,Gi,s8,Gh,s7,yH,tc,e1,e2,CJ,EC,ba.v,d8];try simp (disch:=omega) only [if_pos,if_neg,aw,az]))
     | refine N1 ?_
     | refine wn fun K hK=>?_
     | simp only [wS]
     | simp only [cg,sQ,lJ,Option.map_none,Option.map_some,List.getElem?_toArray,List.getElem?_cons_zero,List.getElem?_cons_succ,List.getD_cons_zero,List.getD_cons_succ,Option.bind_some]
     | (refine ⟨fun A' uy=>by rw [uy]<;>rfl,?_⟩)
     | (refine O2 (fun A'=>A'.bR C9=some (.cells yp true 1)) Tryz.mx [(0,0),(1,0),(2,0),(3,0),(4,0),(5,0),(6,0),(7,0),(8,0),(9,0),(10,0),(11,1),(12,0),(13,0),(14,3),(15,0),(16,0),(17,3)] (by decide +kernel) fun K hK=>?_)
     | ((refine wt (fun _=>True) Tryz.mx [] .nil (by decide +kernel) ?_<;>fail))
     | refine wb ?_|refine wr ?_|refine wk ?_|refine we ?_|refine ws ?_|refine wq ?_
     | (refine wc rfl (fun hc=>?_) (fun hc=>?_)<;>(try simp at hc)<;>(try omega))
     | (refine ib (fun hc=>?_) (fun hc=>?_)<;>(try omega)<;>(try simp (disch:=omega) only [if_pos,if_neg])))
     refine⟨_,by simp [AW.aa,ah,n1,n4,n5,Ne.symm n1,Ne.symm n4,Ne.symm n5];rfl,bz.post (by rw [cX];simp [ba.v]) ?_⟩
     rw [cX,HP.cl]
     refine gg.dR (vo:=.slice (some ⟨zu,yC+1,none⟩) os.length (zi-1)) (vw:=.slice (some ⟨C9,Gg+1,none⟩) ws.length (G9-1)) (bz.E4 kZ (by simp [AW.dX,n1,n4]) (fun j x h1 h2 h3 hx=>?_))
     simp [AW.dX,h1,h2,h3,hx]
end
end Go.Stx
