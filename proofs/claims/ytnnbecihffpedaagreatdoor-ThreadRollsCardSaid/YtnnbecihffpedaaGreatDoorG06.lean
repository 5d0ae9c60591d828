/-
 The program's machine that writes.
-/
import Derived.Test.YtnnbecihffpedaaGreatDoorG05
set_option linter.unusedVariables false
set_option linter.unusedSimpArgs false
set_option linter.unusedSectionVars false
set_option maxRecDepth 20000
set_option maxHeartbeats 4000000
namespace Go.Stx
open Go Go.Proofs
attribute [local irreducible] TW bC cB aW az aG bZ cz m5
section
open T7
variable [Gl]
theorem tm (b:Nat) (s:jx) (A:AW) (F:HP) (h:bn A (gG b s*F)) :
 az Tryz.prog 204 [.pointer (some ⟨b,0,none⟩)] A (λv A'=>v=.bool s.done/\A=A'):=by
 refine aH Tryz.func204 λhw=>?_;obtain⟨vo,vw,hS⟩:=gG.open h;obtain⟨oo,co,rfl,_⟩:=(au.is hS.right).dO;obtain⟨ow,cw,rfl,_⟩:=(au.is hS.right.right).dO;have hg:=hS.bt;refine W cy (J2 hg @AW.ab) ?_<;>intros;simp [jx.done]
def mi (s:jx) (M:Nat->List Int):aU×jx×(Nat->List Int):=
 if s.done=true then (aU.zero,s,M)
 else (fv M 2 1 (s.os.getD 0 0) (gW (s.ws.getD 0 0)),⟨s.os.tail,s.ws.tail⟩,pR M 1 (s.os.getD 0 0) (gW (s.ws.getD 0 0)))
theorem GZ (b pb:Nat) (s:jx) (M:Nat->List Int) (b6:s.os.length=s.ws.length) :
 nD Tryz.prog 203 [.pointer (some ⟨b,0,none⟩),.pointer (some ⟨pb,0,none⟩)] (gG b s*eu pb M)
  (λv=>C5 (v=(mi s M).1.v)*(gG b (mi s M).2.1*eu pb (mi s M).2.2)):=by
 intro A F hw di;refine aH Tryz.func203 λ_=>?_;rw [HP.b5] at di;have iI:=(di.alloc hw (.cells bd true 1));have mg:bn (A.alloc (.cells bd true 1)) (gG b s*(eu pb M*(pt A.next (.cells bd true 1)*F))):=iI.dV (by ac_rfl);by_cases hdone:s.done=true;have hd:=tm b s _ _ mg;rw [hdone] at hd;revert hw;refine Wu (J2 (⟨⟩:Ts (λ_=>True) [0,0,0,0,0,0,0,0,0,0,0,0,0,3,0,0,0,2,3,0] (.aY 0 (.aY 1 (.aY 2 (.aY 3 (.aY 4 (.aY 5 (.aY 6 (.aY 7 (.aY 8 (.aY 9 (.aY 10 (.aY 11 (.aY 12 (.uS 13 (.aY 14 (.aY 15 (.aY 16 (.aY 17 (.aY 18 (.aY 19 .nil)))))) 17 (.aY 13 (.aY 14 (.aY 15 (.aY 16 (.aY 18 (.aY 19 .nil))))))))))))))))))))) @hd) (J2 bF @bd.eq_1) ?_<;>(unhygienic intros);have cL:mi s M=(aU.zero,s,M):=by unfold mi;rw [ay hdone]
 rw [cL];refine⟨_,by simp [AW.ab,aD];rfl,bn.post (by simp [aU.v,aU.zero]) ?_⟩;rw [HP.b5];exact di.le hw ((AW.le.alloc A _).set (Nat.le_refl _) _);have hd:=tm b s _ _ mg;rw [show s.done=false by simpa using hdone] at hd;obtain⟨os,ws⟩:=s;cases os with
 | nil=>simp [jx.done] at hdone
 | cons o os=>
 cases ws with
 | nil=>simp at b6
 | cons x ws=>
 have cL:mi ⟨o::os,x::ws⟩ M=(fv M 2 1 o (gW x),⟨os,ws⟩,pR M 1 o (gW x)):=by
  unfold mi;rw [ap hdone];rfl
 obtain⟨vo,vw,AH⟩:=gG.open di;have hg:=AH.bt;have hSo:bn A (au .i64 vo (o::os)*(pt b (.cells [vo,vw] true 1)*(au .u64 vw (x::ws)*(eu pb M*F)))):=AH.dV (by ac_rfl);have hSw:bn A (au .u64 vw (x::ws)*(pt b (.cells [vo,vw] true 1)*(au .i64 vo (o::os)*(eu pb M*F)))):=AH.dV (by ac_rfl);obtain⟨bo,off,c,cD,rfl,_,yn,mu,_,_⟩:=au.at hSo (j:=0) (by simp);obtain⟨bw,offw,cw,roww,rfl,_,UL,V2,_,_⟩:=au.at hSw (j:=0) (by simp);obtain⟨nb,SH⟩:=hw.eL hg;obtain⟨no,VL⟩:=hw.eL yn;obtain⟨nw,nw'⟩:=hw.eL UL;simp at yn mu UL V2;revert hw;(repeat first|clear hw|revert hc|revert R|revert K);refine Wu (J2 @hd (⟨⟩:Ts (λ_=>True) [0,0,0,0,0,0,0,0,0,0,0,0,0,3,0,0,0,2,3,3] (.aY 0 (.aY 1 (.aY 2 (.aY 3 (.aY 4 (.aY 5 (.aY 6 (.aY 7 (.aY 8 (.aY 9 (.aY 10 (.aY 11 (.aY 12 (.uS 13 (.aY 14 (.aY 15 (.aY 16 (.aY 17 (.aY 18 (.aY 19 .nil)))))) 17 (.aY 13 (.aY 14 (.aY 15 (.aY 16 (.aY 18 (.aY 19 .nil)))))))))))))))))))))) (kM hg yn mu UL V2 nb SH no VL nw nw' bF @bd.eq_1) (J2 ?_ ?_)<;>(unhygienic intros)
 . have yU:bn _ (eu pb M*(gG b ⟨o::os,x::ws⟩*(pt A.next (.cells bd true 1)*F))):=mg.dV (by ac_rfl);refine(rA pb M 1 o x).use (hw.alloc _) yU rfl ?_;intro v A2 EJ kS GR;obtain⟨rfl,wQ⟩:=EJ.oc;clear EJ;generalize fv M 2 1 o (gW x)=a at cL wQ ⊢;generalize pR M 1 o (gW x)=M' at cL wQ;generalize ny M 2 o=er at wQ ⊢;have PO:bn A2 (gG b ⟨o::os,x::ws⟩*(pt A.next (.cells bd true 1)*(eu pb M'*F))):=wQ.dV (by ac_rfl);obtain⟨zi,uR,PN⟩:=gG.open PO;obtain⟨CG,BI,Cv,OA,rfl,sB,Ke,Pv,AG⟩:=au.tl (PN.dV (by ac_rfl):bn A2 (au .i64 zi (o::os)*(pt b (.cells [zi,uR] true 1)*(au .u64 uR (x::ws)*(pt A.next (.cells bd true 1)*(eu pb M'*F))))));obtain⟨Gg,Jy,KH,Bt,rfl,sz,Kd,Pt,Al⟩:=au.tl (AG.dV (by ac_rfl):bn A2 (au .u64 uR (x::ws)*(pt b (.cells [.slice (some ⟨CG,BI,none⟩) (os.length+1) Cv,uR] true 1)*(au .i64 (.slice (some ⟨CG,BI+1,none⟩) os.length (Cv-1)) os*(pt A.next (.cells bd true 1)*(eu pb M'*F))))));have lY:=(Al.dV (by ac_rfl):bn A2 (pt b (.cells [.slice (some ⟨CG,BI,none⟩) (os.length+1) Cv,.slice (some ⟨Gg,Jy,none⟩) (ws.length+1) KH] true 1)*(pt A.next (.cells bd true 1)*(au .i64 (.slice (some ⟨CG,BI+1,none⟩) os.length (Cv-1)) os*(au .u64 (.slice (some ⟨Gg,Jy+1,none⟩) ws.length (KH-1)) ws*(eu pb M'*F))))))
   have u7:=lY.bt;have yp:=lY.right.bt;have n1:=lY.ne;obtain⟨mq,wi⟩:=kS.eL u7;obtain⟨JB,vZ⟩:=kS.eL sB;obtain⟨JA,vY⟩:=kS.eL sz;obtain⟨BQ,wj⟩:=kS.eL yp;have e1:(1:Int)<=(os.length:Int)+1:=(by omega);have e2:(1:Int)<=(ws.length:Int)+1:=(by omega);have n2:=Ke _ _ _ rfl;have n3:=Kd _ _ _ rfl;have FQ:A2.next≠b:=λe=>by rw [<-e] at mq;simp at mq
   have HI:A2.next≠A.next:=λe=>by rw [<-e] at BQ;simp at BQ
   repeat' (first|(refine jK λR hR=>?_;simp [an,ax,AW.ab,aD,bd,u7,yp,sB,sz,n1,Ne.symm n1,n2,n3,Ne.symm n2,Ne.symm n3,mq,wi,JB,vZ,JA,vY,BQ,wj,e1,e2,FQ,HI,aU.v,eo];try simp (disch:=omega) only [ay,ap,an,ax])|(refine hR _ _ ?_;clear hR R)|(refine hK _ _ ?_;clear hK K)|refine nx ?_|(refine Sw λR hR=>?_;simp [an,ax,AW.ab,aD,bd,u7,yp,sB,sz,n1,Ne.symm n1,n2,n3,Ne.symm n2,Ne.symm n3,mq,wi,JB,vZ,JA,vY,BQ,wj,e1,e2,FQ,HI,aU.v,eo];try simp (disch:=omega) only [ay,ap,an,ax])|(refine QZ (λR hR=>?_) (λR hR=>?_)<;>(simp [an,ax,AW.ab,aD,bd,u7,yp,sB,sz,n1,Ne.symm n1,n2,n3,Ne.symm n2,Ne.symm n3,mq,wi,JB,vZ,JA,vY,BQ,wj,e1,e2,FQ,HI,aU.v,eo];try simp (disch:=omega) only [ay,ap,an,ax]))|refine Sv ?_|refine wn λK hK=>?_|simp only [wS]|simp only [bC,vI,mN,Option.map_none,Option.map_some,List.getElem?_toArray,List.getElem?_cons_zero,List.getElem?_cons_succ,List.getD_cons_zero,List.getD_cons_succ,Option.bind_some]|(refine ⟨λA' xL=>by rw [xL]<;>rfl,?_⟩)|(refine TC (λA'=>A'.bt Gg=some (.cells Bt true 1)) Tryz.mx [(0,0),(1,0),(2,0),(3,0),(4,0),(5,0),(6,0),(7,0),(8,0),(9,0),(10,0),(11,1),(12,0),(13,0),(14,3),(15,0),(16,0),(17,3)] (by decide +kernel) λK hK=>?_)|((refine wt (λ_=>True) Tryz.mx [] .nil (by decide +kernel) ?_<;>fail))|(show cB _ _ _ _ _ _;refine nx ?_)|(refine wc rfl (λhc=>?_) (λhc=>?_)<;>(try simp at hc)<;>(try omega))|(refine ib (λhc=>?_) (λhc=>?_)<;>(try omega)<;>(try simp (disch:=omega) only [ay,ap])))
   refine⟨_,by simp [AW.ab,aD,FQ,HI];rfl,bn.post (by rw [cL];simp [aU.v]) ?_⟩;rw [cL,HP.b5];refine gG.dU (vo:=.slice (some ⟨CG,BI+1,none⟩) os.length (Cv-1)) (vw:=.slice (some ⟨Gg,Jy+1,none⟩) ws.length (KH-1)) (bn.PZ lY (by simp [AW.dM,n1,FQ]) (λj x h1 h2 hx=>?_));have hj:=(kS.eL hx).1;simp [AW.dM,h1,h2,hx,hj]
 have yU:bn _ (eu pb M*(gG b ⟨o::os,x::ws⟩*(pt (A.next+1) (.cells bd true 1)*(pt A.next (.cells bd true 1)*F)))):=((mg.alloc (hw.alloc _) (.cells bd true 1)).dV (by simp only [AW.bx];ac_rfl));refine(rA pb M 1 o x).use ((hw.alloc _).alloc _) yU rfl ?_;intro v A2 EJ kS GR;obtain⟨rfl,wQ⟩:=EJ.oc;clear EJ;generalize fv M 2 1 o (gW x)=a at cL wQ ⊢;generalize pR M 1 o (gW x)=M' at cL wQ;generalize ny M 2 o=er at wQ ⊢;have PO:bn A2 (gG b ⟨o::os,x::ws⟩*(pt (A.next+1) (.cells bd true 1)*(pt A.next (.cells bd true 1)*(eu pb M'*F)))):=wQ.dV (by ac_rfl);obtain⟨zi,uR,PN⟩:=gG.open PO;obtain⟨CG,BI,Cv,OA,rfl,sB,Ke,Pv,AG⟩:=au.tl (PN.dV (by ac_rfl):bn A2 (au .i64 zi (o::os)*(pt b (.cells [zi,uR] true 1)*(pt (A.next+1) (.cells bd true 1)*(au .u64 uR (x::ws)*(pt A.next (.cells bd true 1)*(eu pb M'*F)))))));obtain⟨Gg,Jy,KH,Bt,rfl,sz,Kd,Pt,Al⟩:=au.tl (AG.dV (by ac_rfl):bn A2 (au .u64 uR (x::ws)*(pt b (.cells [.slice (some ⟨CG,BI,none⟩) (os.length+1) Cv,uR] true 1)*(pt (A.next+1) (.cells bd true 1)*(au .i64 (.slice (some ⟨CG,BI+1,none⟩) os.length (Cv-1)) os*(pt A.next (.cells bd true 1)*(eu pb M'*F)))))))
 have lY:=(Al.dV (by ac_rfl):bn A2 (pt b (.cells [.slice (some ⟨CG,BI,none⟩) (os.length+1) Cv,.slice (some ⟨Gg,Jy,none⟩) (ws.length+1) KH] true 1)*(pt (A.next+1) (.cells bd true 1)*(pt A.next (.cells bd true 1)*(au .i64 (.slice (some ⟨CG,BI+1,none⟩) os.length (Cv-1)) os*(au .u64 (.slice (some ⟨Gg,Jy+1,none⟩) ws.length (KH-1)) ws*(eu pb M'*F)))))));have u7:=lY.bt;have yO:=lY.right.bt;have yp:=lY.right.right.bt;have n1:=lY.Ud;have n4:=lY.ne;have n5:=lY.right.ne;obtain⟨O3,JG⟩:=kS.eL yO;obtain⟨mq,wi⟩:=kS.eL u7;obtain⟨JB,vZ⟩:=kS.eL sB;obtain⟨JA,vY⟩:=kS.eL sz;obtain⟨BQ,wj⟩:=kS.eL yp;have e1:(1:Int)<=(os.length:Int)+1:=by omega
 have e2:(1:Int)<=(ws.length:Int)+1:=by omega
 have n2:=Ke _ _ _ rfl;have n3:=Kd _ _ _ rfl;have n6:=Pv _ _ _ _ _ rfl;have n7:=Pt _ _ _ _ _ rfl;have FQ:A2.next≠b:=λe=>by rw [<-e] at mq;simp at mq
 have HI:A2.next≠A.next:=λe=>by rw [<-e] at BQ;simp at BQ
 repeat' (first|(refine jK λR hR=>?_;simp [an,ax,AW.ab,aD,bd,u7,yp,yO,n6,n7,Ne.symm n6,Ne.symm n7,n4,n5,Ne.symm n4,Ne.symm n5,O3,JG,sB,sz,n1,Ne.symm n1,n2,n3,Ne.symm n2,Ne.symm n3,mq,wi,JB,vZ,JA,vY,BQ,wj,e1,e2,FQ,HI,aU.v,eo];try simp (disch:=omega) only [ay,ap,an,ax])|(refine hR _ _ ?_;clear hR R)|(refine hK _ _ ?_;clear hK K)|refine nx ?_|(refine Sw λR hR=>?_;simp [an,ax,AW.ab,aD,bd,u7,yp,yO,n6,n7,Ne.symm n6,Ne.symm n7,n4,n5,Ne.symm n4,Ne.symm n5,O3,JG,sB,sz,n1,Ne.symm n1,n2,n3,Ne.symm n2,Ne.symm n3,mq,wi,JB,vZ,JA,vY,BQ,wj,e1,e2,FQ,HI,aU.v,eo];try simp (disch:=omega) only [ay,ap,an,ax])|(refine QZ (λR hR=>?_) (λR hR=>?_)<;>(simp [an,ax,AW.ab,aD,bd,u7,yp,yO,n6,n7,Ne.symm n6,Ne.symm n7,n4,n5,Ne.symm n4,Ne.symm n5,O3,JG,sB,sz,n1,Ne.symm n1,n2,n3,Ne.symm n2,Ne.symm n3,mq,wi,JB,vZ,JA,vY,BQ,wj,e1,e2,FQ,HI,aU.v,eo];try simp (disch:=omega) only [ay,ap,an,ax]))|refine Sv ?_|refine wn λK hK=>?_|simp only [wS]|simp only [bC,vI,mN,Option.map_none,Option.map_some,List.getElem?_toArray,List.getElem?_cons_zero,List.getElem?_cons_succ,List.getD_cons_zero,List.getD_cons_succ,Option.bind_some]|(refine ⟨λA' xL=>by rw [xL]<;>rfl,?_⟩)|(refine TC (λA'=>A'.bt Gg=some (.cells Bt true 1)) Tryz.mx [(0,0),(1,0),(2,0),(3,0),(4,0),(5,0),(6,0),(7,0),(8,0),(9,0),(10,0),(11,1),(12,0),(13,0),(14,3),(15,0),(16,0),(17,3)] (by decide +kernel) λK hK=>?_)|((refine wt (λ_=>True) Tryz.mx [] .nil (by decide +kernel) ?_<;>fail))|(show cB _ _ _ _ _ _;refine nx ?_)|(refine wc rfl (λhc=>?_) (λhc=>?_)<;>(try simp at hc)<;>(try omega))|(refine ib (λhc=>?_) (λhc=>?_)<;>(try omega)<;>(try simp (disch:=omega) only [ay,ap])))
 refine⟨_,by simp [AW.ab,aD,n1,n4,n5,Ne.symm n1,Ne.symm n4,Ne.symm n5];rfl,bn.post (by rw [cL];simp [aU.v]) ?_⟩;rw [cL,HP.b5];refine gG.dU (vo:=.slice (some ⟨CG,BI+1,none⟩) os.length (Cv-1)) (vw:=.slice (some ⟨Gg,Jy+1,none⟩) ws.length (KH-1)) (bn.Ih lY (by simp [AW.dM,n1,n4]) (λj x h1 h2 h3 hx=>?_));simp [AW.dM,h1,h2,h3,hx]
end
section
variable [Gl]
def wv (c:bH) (b:Int):Int×Int:=
 if b<0 then (-1,-1)
 else if b<c.c0 then (0,c.base+b)
 else if b-c.c0<c.c1 then (1,c.base+c.c0+(b-c.c0)*2)
 else if b-c.c0-c.c1<c.c2 then (2,c.base+c.c0+c.c1*2+(b-c.c0-c.c1)*4)
 else if b-c.c0-c.c1-c.c2<c.c3 then (3,c.base+c.c0+c.c1*2+c.c2*4+(b-c.c0-c.c1-c.c2)*8)
 else (-1,-1)
def c8 (c:bH) (b:Int):Int:=(wv c b).1
def gv (c:bH) (b:Int):Int:=(wv c b).2
def ju (c:bH) (a:Int):Int:=match (List.range c.nb.toNat).find? (λb:Nat=>gv c (b:Int) == a) with
 | some b=>b
 | none=>-1
def fF (c:bH) (a:Int):Int:=if 0<=a/\a<c.aR+c.nb then a.tmod c.am else -1
inductive D4 where
 | rO
 | NB
 | bI (av:Int)
 | take (v:Int)
 | kX (a v:Int)
 | yV
 | cU (b v:Int)
inductive yf where
 | take
 | cU (b:Int)
inductive bm where
 | bq
 | gE (k:D4)
 | cW
 | aP (r:fV) (u:yf)
 | eh (p:nQ)
 | ei
 | cq
 | cG (c:gw)
 | bJ
 | dI (w:jx)
 | bX (w:jx)
 | gr
 | eT
 | dX (p:eZ)
 | go
def bm.fA:bm->Int
 | .bq=>0 | .gE _=>1 | .cW=>2 | .aP _ _=>3 | .eh _=>4 | .ei=>5 | .cq=>6 | .cG _=>7
 | .bJ=>8 | .dI _=>9 | .bX _=>10 | .gr=>11 | .eT=>12 | .dX _=>13 | .go=>14
structure aF where
 cf:bH
 ak:Int
 aA:Int
 av:Int
 value:Int
 bS:Option gn
 ai:Bool
 reads:List Int
 ag:List Int
 ar:List Int
 set:List Int
 bp:ri
 aw:Int
 am:List Int
 aJ:Option hW
 aI:Option jw
 aj:Nat
 aC:bm
def aF.gD (s:aF):Bool:=!decide (s.aC.fA=0)
def aF.rv (s:aF):Int:=match s.bS with|some e=>e.Ae|none=>-1
def aF.fU (s:aF):Bool:=decide (s.av=1) && decide (0<s.bp.bK.length)
def aF.sX (s:aF):Int:=if s.ai=true/\s.fU=true then IntKind.i64.wrap (IntKind.i64.wrap s.aw+1) else -1
def aF.fA (s:aF):Int:=match s.aI with|some t=>t.fA|none=>-1
def aF.eL (s:aF):List Int:=match s.aJ with|some l=>l.eL|none=>[]
def fC (s:aF):aF:=
 if s.av=1\/s.aj=s.ag.length then { s with aC:=.go }
 else { s with aC:=.dX ⟨c8 s.cf (s.ag.getD s.aj 0),s.ag.getD s.aj 0,0,0⟩ }
def iL (s:aF) (av:Int):aF:=fC { s with av:=av }
def lZ (s:aF) (av:Int):aF:=
 if decide (av=1) && decide (0<s.bp.bK.length) then
  let os:=eb (s.bp.bK.map (fF s.cf))
  { s with av:=av,am:=os,aJ:=some ⟨s.ak,eb os,[],0,false⟩,aC:=.ei }
 else { s with av:=av,aI:=some ⟨false,0,false⟩,aC:=.cq }
def fK (s:aF):aF:=
 if s.am.length=0 then { s with aC:=.eT } else { s with aC:=.bX ⟨s.am,s.eL⟩ }
def ia (s:aF) (a v:Int):Bool×aF:=
 if (fj s.bp a v).1=true then (true,{ s with bp:=(fj s.bp a v).2 }) else (false,iL s 3)
def jG (s:aF) (b st:Int):aF:=
 if st≠IntKind.u64.wrap (IntKind.u64.wrap (c8 s.cf b)+1) then lZ s 8
 else if s.cf.ar<=s.ar.length then iL s 3
 else if (ia s (s.cf.aR+b) 0).1=true then { (ia s (s.cf.aR+b) 0).2 with ar:=s.ar++[b] } else (ia s (s.cf.aR+b) 0).2
def gh:Nat->Int->aF->Bool×aF
 | 0,_,s=>(true,s)
 | n+1,a,s=>if (ia s a 0).1=true then gh n (a+1) (ia s a 0).2 else (false,(ia s a 0).2)
def fu (s:aF) (dC iy:Int):aF:=
 if iy<0 then iL s 4
 else
  let s1:={ s with ag:=s.ag++[iy] }
  let r:=ia s1 (s.cf.aR+iy) (dC+1)
  if r.1=true then
   let q:=gh (2 ^ dC.toNat) (gv s.cf iy) r.2
   if q.1=true then { q.2 with value:=IntKind.u64.wrap (gv s.cf iy) } else q.2
  else r.2
def sY (s:aF):D4->aF
 | .rO=>lZ s 7
 | .NB=>lZ s 8
 | .bI av=>lZ s av
 | .take v=>{ s with value:=v }
 | .kX a v=>if s.cf.aR<=a then lZ s 7 else (ia s a v).2
 | .yV=>iL s 3
 | .cU b v=>jG s b v
def Ab (s:aF) (v:Int):yf->aF
 | .take=>{ s with value:=v }
 | .cU b=>jG s b v
abbrev rK:=aU×Int×aF×Mm
def gC (s:aF) (M:Mm) (e:gn):rK:=
 let r:=eG e M
 let s1:={ s with bS:=some r.2.1 }
 if r.2.1.br=3 then (r.1,4,{ s1 with aC:=.bq },r.2.2)
 else (r.1,if e.Ae≠r.2.1.Ae then 3 else 2,s1,r.2.2)
def dq (s:aF) (M:Mm) (c:fV) (u:yf):rK:=
 let r:=dg c M
 let s1:={ s with aC:=.aP r.2.1 u }
 if r.2.1.done=false then (r.1,5+c.br,s1,r.2.2)
 else if r.2.1.dh=true then (r.1,5+c.br,iL s1 9,r.2.2)
 else
  let s2:=if c.cg<s.cf.aR/\¬c.cg∈s.reads then { s1 with reads:=s.reads++[c.cg] } else s1
  if (dy s.cf.reads.toNat s.set c.fw).1=true then (r.1,5+c.br,Ab { s2 with set:=(dy s.cf.reads.toNat s.set c.fw).2,aC:=.bq } r.2.1.val u,r.2.2)
  else (r.1,5+c.br,iL s2 3,r.2.2)
def ki (s:aF) (M:Mm) (p:nQ):rK:=
 let r:=dY p M
 (r.1,nU r.1,if r.2.1.br=3 then fu { s with aC:=.bq } p.dC r.2.1.block else { s with aC:=.eh r.2.1 },r.2.2)
def iZ (s:aF) (M:Mm) (l:hW):rK:=
 let r:=eN l M
 let s1:={ s with aJ:=some r.2.1 }
 (r.1,if r.1.gd=3 then 12 else 11,if r.2.1.done=true then { s1 with aI:=some ⟨false,0,false⟩,aC:=.cq } else s1,r.2.2)
def gi (s:aF) (M:Mm) (t:jw):rK:=
 let r:=fJ t M
 let s1:={ s with aI:=some r.2.1 }
 (r.1,if r.1.gd=4 then 13 else 14,if r.2.1.done=true then { s1 with aC:=if s.set.length=0 then .bJ else .cG ⟨s.set,s.rv,false⟩ } else s1,r.2.2)
def fO (s:aF) (M:Mm) (c:gw):rK:=
 let r:=iA c M
 let s1:={ s with aC:=.cG r.2.1 }
 (r.1,15,if r.2.1.iw=true then fK { s1 with av:=9 } else if r.2.1.done=true then { s1 with aC:=.bJ } else s1,r.2.2)
def fb (s:aF) (M:Mm):rK:=
 let a:=gy M 3 0
 let s1:={ s with aw:=a.eV }
 (a,16,if s.fU=true/\IntKind.u64.wrap s.cf.aw<=a.eV then fK { s1 with av:=6 }
  else if s.fU=true then { s1 with ai:=true,aC:=.dI ⟨s.bp.bK,s.bp.eM⟩ } else fK { s1 with ai:=true },M)
def gS (s:aF) (M:Mm) (w:jx):rK:=
 let r:=mi w M
 (r.1,17,if r.2.1.done=true then { s with aC:=.bX ⟨s.am,List.replicate s.am.length (lO s.sX)⟩ } else { s with aC:=.dI r.2.1 },r.2.2)
def mP (s:aF) (M:Mm) (w:jx):rK:=
 let r:=j7 w M
 (r.1,18,{ s with aC:=if r.2.1.done=true then (if 0<=s.sX then .gr else .eT) else .bX r.2.1 },r.2.2)
def gU (s:aF) (M:Mm) (p:eZ):rK:=
 let r:=ct p M
 (r.1,gL r.1,if r.2.1.br=3 then fC { s with aj:=s.aj+1,aC:=.dX r.2.1 } else { s with aC:=.dX r.2.1 },r.2.2)
def bE (s:aF) (M:Mm):rK:=match s.aC with
 | .bq=>(aU.zero,0,s,M)
 | .gE k=>(aU.zero,0,sY { s with aC:=.bq } k,M)
 | .cW=>match s.bS with
   | some e=>gC s M e
   | none=>(aU.zero,0,s,M)
 | .aP c u=>dq s M c u
 | .eh p=>ki s M p
 | .ei=>match s.aJ with
   | some l=>iZ s M l
   | none=>(aU.zero,0,s,M)
 | .cq=>match s.aI with
   | some t=>gi s M t
   | none=>(aU.zero,0,s,M)
 | .cG c=>fO s M c
 | .bJ=>fb s M
 | .dI w=>gS s M w
 | .bX w=>mP s M w
 | .gr=>(Bm M 3 0 (IntKind.u64.wrap (s.aw+1)),19,{ s with aC:=.eT },Dq M 3 0 (IntKind.u64.wrap (s.aw+1)))
 | .eT=>(Bm M 5 0 (zw s.fA),20,fC s,Dq M 5 0 (zw s.fA))
 | .dX p=>gU s M p
 | .go=>(Bm M 6 s.ak 0,24,{ s with aC:=.bq,aA:=2 },Dq M 6 s.ak 0)
def aF.kF (s:aF) (aA:Int):Bool:=decide (s.aC.fA=0) && decide (s.aA=aA)
def fy (s:aF):Int×aF:=
 if s.kF 0=true then (0,{ s with aA:=1,bS:=some ⟨s.ak,0,0⟩,aC:=.cW }) else (1,s)
def mA (s:aF) (a:Int) (u:yf):aF:={ s with aC:=.aP ⟨a,fF s.cf a,s.rv,0,0,0,false⟩ u }
def GP (s:aF) (a:Int):Int×aF:=
 if s.kF 1=true then
  if s.cf.aR<=a then (0,{ s with aC:=.gE .rO })
  else if (jU s.bp a).2=true then (0,{ s with aC:=.gE (.take (jU s.bp a).1) })
  else (0,mA s a .take)
 else (1,s)
def E4 (s:aF) (a v:Int):Int×aF:=if s.kF 1=true then (0,{ s with aC:=.gE (.kX a v) }) else (1,s)
def K4 (s:aF) (dC:Int):Int×aF:=
 if s.kF 1=true then
  if dC<0\/4<=dC then (2,s)
  else if s.cf.ag<=s.ag.length then (0,{ s with aC:=.gE .yV })
  else (0,{ s with aC:=.eh ⟨dC,0,0,0,-1⟩ })
 else (1,s)
def Kv (s:aF) (a:Int):Int×aF:=
 if s.kF 1=true then
  if ju s.cf a<0 then (0,{ s with aC:=.gE .NB })
  else if (jU s.bp (s.cf.aR+ju s.cf a)).2=true then (0,{ s with aC:=.gE (.cU (ju s.cf a) (jU s.bp (s.cf.aR+ju s.cf a)).1) })
  else (0,mA s (s.cf.aR+ju s.cf a) (.cU (ju s.cf a)))
 else (1,s)
def Cq (s:aF) (av:Int):Int×aF:=
 if s.kF 1=true then
  if av≠1/\av≠2 then (2,s) else (0,{ s with aC:=.gE (.bI av) })
 else (1,s)
def gV (w:Int):ri:=
 let n:=if w<=0 then 1 else if w<=1 then 2 else if w<=2 then 4 else if w<=4 then 8 else if w<=8 then 16 else if w<=16 then 32 else 64
 ⟨w.toNat,[],[],List.replicate n (-1)⟩
def ey (c:bH) (t:Int):aF:=⟨c,t,0,0,0,none,false,[],[],[],[],gV c.cM,0,[],none,none,0,.bq⟩
end
section
open Go.Proofs Go
variable [Gl]
theorem y6 {P:Program} {r:Operand->Value} {A:AW} {k':Value->AW->Prop} {x y:Operand} {t:TypeId} {s u v':Value} {A':AW}
 (e1:r x=s) (e2:r y=u) (h:eK P A t t s u=some (v',A')) (hk:k' v' A'):hY P (.call ⟨.builtin .append,#[x,y],#[t,t]⟩) r A k':=by
 have h1:aq P A r (.call ⟨.builtin .append,#[x,y],#[t,t]⟩)=none:=by simp [aq]
 have h2:ae P A r (.call ⟨.builtin .append,#[x,y],#[t,t]⟩)=some (v',A'):=by
  show (if t=t then eK P A t t (r x) (r y) else _)=_;rw [ay rfl,e1,e2,h]
 unfold hY;rw [h1,h2];exact hk
section
variable {P:Program} {S:AW->Prop} {K:Fr->AW->Prop} {gI:List zg} {a:Fr} {A:AW} {d:Option Tmp} {m:Nat} {x y:Operand} {t e:TypeId} {i:TypeInfo} {z:Value} {k:IntKind} {l:List Int} {n:Nat} {yv:Int} {v:Value} {L K':List It}
theorem CK {k':Value->AW->Prop} (hu:P.underlying t=some (.slice e)) (hi:P.info? e=some i) (hz:i.zero=some z) (gf:i.size=1) (nz:z.cells.size=1) (yS:i.bytes<=8)
 (e1:iO a x=v) (e2:iO a y=.slice (some ⟨n,0,none⟩) 1 1) (hw:A.Wf) (hS:ah A L) (hp:aB L (.h (au k v l)) K') (hn:A.bt n=some (.cells [.int k yv] true 1)) (b6:l.length<2 ^ 40)
 (hk:∀o c A',ah A' (.h (au k (.slice o (l.length+1) c) (l++[yv]))::K')->A'.Wf->A.next<=A'.next->k' (.slice o (l.length+1) c) A') :
 hY P (.call ⟨.builtin .append,#[x,y],#[t,t]⟩) (iO a) A k':=by
 have h1:bn A (au k v l*aL K'):=by
  unfold ah at hS;rw [hp.aL] at hS;exact hS
 obtain⟨v',A',e3,h2,h3,h4⟩:=au.Gn (P:=P) (t:=t) yv n hu hi hz gf nz hn h1 b6 yS hw;obtain⟨o,c,h5,_⟩:=(au.is h2).dO;have h6:v'=.slice o (l.length+1) c:=by simpa using h5
 subst h6;exact y6 e1 e2 e3 (hk o c A' h2 h3 h4)
theorem SK (hu:P.underlying t=some (.slice e)) (hi:P.info? e=some i) (hz:i.zero=some z) (gf:i.size=1) (nz:z.cells.size=1) (yS:i.bytes<=8)
 (e1:iO a x=v) (e2:iO a y=.slice (some ⟨n,0,none⟩) 1 1) (hw:A.Wf) (hS:ah A L) (hp:aB L (.h (au k v l)) K') (hn:A.bt n=some (.cells [.int k yv] true 1)) (b6:l.length<2 ^ 40)
 (hs:∀A',ah A' K'->S A')
 (hk:∀o c A',ah A' (.h (au k (.slice o (l.length+1) c) (l++[yv]))::K')->A'.Wf->A.next<=A'.next->aW P S K gI (ew a d (.slice o (l.length+1) c)) A') :
 aW P S K (⟨d,.call ⟨.builtin .append,#[x,y],#[t,t]⟩,none,3⟩::gI) a A:=by
 unfold aW;rw [ay (by simp)];exact CK hu hi hz gf nz yS e1 e2 hw hS hp hn b6 λo c A' h1 h2 h3=>⟨hs A' h1.tail,hk o c A' h1 h2 h3⟩
theorem Sx {r:vC} (hu:P.underlying t=some (.slice e)) (hi:P.info? e=some i) (hz:i.zero=some z) (gf:i.size=1) (nz:z.cells.size=1) (yS:i.bytes<=8)
 (e1:iO a x=v) (e2:iO a y=.slice (some ⟨n,0,none⟩) 1 1) (hw:A.Wf) (hS:ah A L) (hp:aB L (.h (au k v l)) K') (hn:A.bt n=some (.cells [.int k yv] true 1)) (b6:l.length<2 ^ 40)
 (hs:∀A',ah A' K'->S A')
 (hk:∀o c A',ah A' (.h (au k (.slice o (l.length+1) c) (l++[yv]))::K')->A'.Wf->A.next<=A'.next->TW P S K r (ew a d (.slice o (l.length+1) c)) A') :
 TW P S K (.aY ⟨d,.call ⟨.builtin .append,#[x,y],#[t,t]⟩,none,3⟩ r) a A:=by
 unfold TW m5;rw [ay (by simp)];exact CK hu hi hz gf nz yS e1 e2 hw hS hp hn b6 λo c A' h1 h2 h3=>⟨hs A' h1.tail,hk o c A' h1 h2 h3⟩
theorem SM {R:Fr->AW->Prop} (hu:P.underlying t=some (.slice e)) (hi:P.info? e=some i) (hz:i.zero=some z) (gf:i.size=1) (nz:z.cells.size=1) (yS:i.bytes<=8)
 (e1:iO a x=v) (e2:iO a y=.slice (some ⟨n,0,none⟩) 1 1) (hw:A.Wf) (hS:ah A L) (hp:aB L (.h (au k v l)) K') (hn:A.bt n=some (.cells [.int k yv] true 1)) (b6:l.length<2 ^ 40)
 (hs:∀A',ah A' K'->S A')
 (hk:∀o c A',ah A' (.h (au k (.slice o (l.length+1) c) (l++[yv]))::K')->A'.Wf->A.next<=A'.next->R (ew a d (.slice o (l.length+1) c)) A') :
 m5 P S ⟨d,.call ⟨.builtin .append,#[x,y],#[t,t]⟩,none,3⟩ a A R:=by
 unfold m5;rw [ay (by simp)];exact CK hu hi hz gf nz yS e1 e2 hw hS hp hn b6 λo c A' h1 h2 h3=>⟨hs A' h1.tail,hk o c A' h1 h2 h3⟩
end
section
variable {S:AW->Prop} {K:Fr->AW->Prop} {gI:List zg} {r:vC} {a:Fr} {A:AW} {d:Option Tmp} {x y:Operand} {l:List Int} {n:Nat} {yv:Int} {v:Value} {L K':List It}
theorem lwI (e1:iO a x=v) (e2:iO a y=.slice (some ⟨n,0,none⟩) 1 1) (hw:A.Wf) (hS:ah A L) (hp:aB L (.h (au .i64 v l)) K') (hn:A.bt n=some (.cells [.int .i64 yv] true 1)) (b6:l.length<2 ^ 40)
 (hs:∀A',ah A' K'->S A')
 (hk:∀o c A',ah A' (.h (au .i64 (.slice o (l.length+1) c) (l++[yv]))::K')->A'.Wf->A.next<=A'.next->aW Tryz.prog S K gI (ew a d (.slice o (l.length+1) c)) A') :
 aW Tryz.prog S K (⟨d,.call ⟨.builtin .append,#[x,y],#[23,23]⟩,none,3⟩::gI) a A:=
 SK (P:=Tryz.prog) Tryz.underlying23 Tryz.info3 Tryz.zero3 rfl rfl (by simp) e1 e2 hw hS hp hn b6 hs hk
theorem lwU (e1:iO a x=v) (e2:iO a y=.slice (some ⟨n,0,none⟩) 1 1) (hw:A.Wf) (hS:ah A L) (hp:aB L (.h (au .u64 v l)) K') (hn:A.bt n=some (.cells [.int .u64 yv] true 1)) (b6:l.length<2 ^ 40)
 (hs:∀A',ah A' K'->S A')
 (hk:∀o c A',ah A' (.h (au .u64 (.slice o (l.length+1) c) (l++[yv]))::K')->A'.Wf->A.next<=A'.next->aW Tryz.prog S K gI (ew a d (.slice o (l.length+1) c)) A') :
 aW Tryz.prog S K (⟨d,.call ⟨.builtin .append,#[x,y],#[59,59]⟩,none,3⟩::gI) a A:=
 SK (P:=Tryz.prog) Tryz.underlying59 Tryz.info45 Tryz.zero45 rfl rfl (by simp) e1 e2 hw hS hp hn b6 hs hk
theorem twI (e1:iO a x=v) (e2:iO a y=.slice (some ⟨n,0,none⟩) 1 1) (hw:A.Wf) (hS:ah A L) (hp:aB L (.h (au .i64 v l)) K') (hn:A.bt n=some (.cells [.int .i64 yv] true 1)) (b6:l.length<2 ^ 40)
 (hs:∀A',ah A' K'->S A')
 (hk:∀o c A',ah A' (.h (au .i64 (.slice o (l.length+1) c) (l++[yv]))::K')->A'.Wf->A.next<=A'.next->TW Tryz.prog S K r (ew a d (.slice o (l.length+1) c)) A') :
 TW Tryz.prog S K (.aY ⟨d,.call ⟨.builtin .append,#[x,y],#[23,23]⟩,none,3⟩ r) a A:=
 Sx (P:=Tryz.prog) Tryz.underlying23 Tryz.info3 Tryz.zero3 rfl rfl (by simp) e1 e2 hw hS hp hn b6 hs hk
theorem twU (e1:iO a x=v) (e2:iO a y=.slice (some ⟨n,0,none⟩) 1 1) (hw:A.Wf) (hS:ah A L) (hp:aB L (.h (au .u64 v l)) K') (hn:A.bt n=some (.cells [.int .u64 yv] true 1)) (b6:l.length<2 ^ 40)
 (hs:∀A',ah A' K'->S A')
 (hk:∀o c A',ah A' (.h (au .u64 (.slice o (l.length+1) c) (l++[yv]))::K')->A'.Wf->A.next<=A'.next->TW Tryz.prog S K r (ew a d (.slice o (l.length+1) c)) A') :
 TW Tryz.prog S K (.aY ⟨d,.call ⟨.builtin .append,#[x,y],#[59,59]⟩,none,3⟩ r) a A:=
 Sx (P:=Tryz.prog) Tryz.underlying59 Tryz.info45 Tryz.zero45 rfl rfl (by simp) e1 e2 hw hS hp hn b6 hs hk
theorem lhI {R:Fr->AW->Prop} (e1:iO a x=v) (e2:iO a y=.slice (some ⟨n,0,none⟩) 1 1) (hw:A.Wf) (hS:ah A L) (hp:aB L (.h (au .i64 v l)) K') (hn:A.bt n=some (.cells [.int .i64 yv] true 1)) (b6:l.length<2 ^ 40)
 (hs:∀A',ah A' K'->S A')
 (hk:∀o c A',ah A' (.h (au .i64 (.slice o (l.length+1) c) (l++[yv]))::K')->A'.Wf->A.next<=A'.next->R (ew a d (.slice o (l.length+1) c)) A') :
 m5 Tryz.prog S ⟨d,.call ⟨.builtin .append,#[x,y],#[23,23]⟩,none,3⟩ a A R:=
 SM (P:=Tryz.prog) Tryz.underlying23 Tryz.info3 Tryz.zero3 rfl rfl (by simp) e1 e2 hw hS hp hn b6 hs hk
theorem lhU {R:Fr->AW->Prop} (e1:iO a x=v) (e2:iO a y=.slice (some ⟨n,0,none⟩) 1 1) (hw:A.Wf) (hS:ah A L) (hp:aB L (.h (au .u64 v l)) K') (hn:A.bt n=some (.cells [.int .u64 yv] true 1)) (b6:l.length<2 ^ 40)
 (hs:∀A',ah A' K'->S A')
 (hk:∀o c A',ah A' (.h (au .u64 (.slice o (l.length+1) c) (l++[yv]))::K')->A'.Wf->A.next<=A'.next->R (ew a d (.slice o (l.length+1) c)) A') :
 m5 Tryz.prog S ⟨d,.call ⟨.builtin .append,#[x,y],#[59,59]⟩,none,3⟩ a A R:=
 SM (P:=Tryz.prog) Tryz.underlying59 Tryz.info45 Tryz.zero45 rfl rfl (by simp) e1 e2 hw hS hp hn b6 hs hk
end
theorem AW.BK {A:AW} {n:Nat} {o:dG} (h:A.next=n):(A.alloc o).next=n+1:=by rw [AW.bx,h]
theorem AW.Jz {A:AW} {n i:Nat} {o:Option dG} (h:A.next=n):(A.set i o).next=n:=by rw [AW.rq,h]
theorem ah.KY {A:AW} {L:List It} {o:dG} {n:Nat} (h:ah A L) (hw:A.Wf) (hn:A.next=n):ah (A.alloc o) (.at n o::L):=by
 subst hn;exact h.alloc hw o
theorem ah.pS {A:AW} {L:List It} (k:IntKind) (h:ah A L):ah A (.h (au k (.slice none 0 0) [])::L):=au.nil h
theorem ld {ι:Type} {g:ι->List It} {A:AW} {L K:List It} (h:ah A L) (hp:aB L (.h (pe λx=>aL (g x))) K):∃x,ah A (g x++K):=by
 unfold ah at h;rw [hp.aL] at h;have h1:bn A (pe (λx=>aL (g x))*aL K):=h;rw [bn.ex] at h1;obtain⟨x,h1⟩:=h1;refine⟨x,?_⟩;unfold ah;rw [fi];exact h1
theorem iH {ι:Type} {g:ι->List It} {A:AW} {L K:List It} (x:ι) (h:ah A L) (hp:aQ L (g x) K):ah A (.h (pe λx=>aL (g x))::K):=by
 unfold ah at h ⊢;rw [hp.aL] at h;show bn A (pe (λx=>aL (g x))*aL K);rw [bn.ex];exact⟨x,h⟩
end
section
abbrev O0:List (Nat×Nat):=[(0,0),(1,0),(2,0),(3,0),(4,0),(5,0),(6,0),(7,0)]
abbrev Ua:List (Nat×Nat):=[(0,0),(1,2),(2,0),(3,0),(4,0),(5,0),(6,0),(7,0),(8,0),(9,0),(10,0),(11,0),(12,2),(13,0),(14,0),(15,0)]
open T7
variable [Gl]
theorem TY:(2:Int) ^ min 1 IntKind.i64.bits=2:=by decide
theorem pw2:(2:Int) ^ min 2 IntKind.i64.bits=4:=by decide
theorem pw3:(2:Int) ^ min 3 IntKind.i64.bits=8:=by decide
theorem pw0:(2:Int) ^ min 0 IntKind.i64.bits=1:=by decide
theorem LU (c:bH) (hc:cx c) (A:AW):az Tryz.prog 57 [c.v] A (λv A'=>v=.tuple #[.int .i64 c.nb,.int .i64 c.hw,.bool true]/\A=A'):=by
 refine az.rR (V:=.tuple #[.int .i64 c.nb,.int .i64 c.hw,.bool true]) (da.tuple (by simp)) (λhw=>?_) (by kernel_rfl);refine aH Tryz.func57 λ_=>?_;obtain⟨k0,NW⟩:=hc.k0;obtain⟨k1,NV⟩:=hc.k1;obtain⟨k2,NU⟩:=hc.k2;obtain⟨k3,NT⟩:=hc.k3;have kn:=hc.nb;have e:c.nb=c.c0+c.c1+c.c2+c.c3:=rfl;have e':c.hw=c.c0+c.c1*2+c.c2*4+c.c3*8:=rfl;revert hw;(repeat first|revert hc|revert R|revert K);refine W cy (J2 @bH.v.eq_1 bF) ?_<;>(unhygienic intros);refine gM 5 ?_;refine W cy (GK k0 NW k1 NV k2 NU k3 NT @bH.v.eq_1 bF) ?_<;>intros
 all_goals(
  refine⟨_,by first|(simp;done)|(simp;rfl),?_,AW.le.alloc _ _⟩;simp only [Value.tuple.injEq,Array.mk.injEq,List.cons.injEq,Value.int.injEq,Value.bool.injEq,true_and,and_true];rw [TY,pw2,pw3];simp (disch:=omega) only [an];exact⟨e.symm,e'.symm,by simp;omega⟩)
theorem oL (c:bH) (hc:cx c) (A:AW):az Tryz.prog 28 [c.v] A (λv A'=>v=.int .i64 0/\A=A'):=by
 refine az.rR (V:=.int .i64 0) (by simp) (λhw=>?_) (by kernel_rfl);refine aH Tryz.func28 λ_=>?_;obtain⟨w0,w1⟩:=hc.aR;obtain⟨r0,r1⟩:=hc.am;obtain⟨k0,NW⟩:=hc.k0;obtain⟨k1,NV⟩:=hc.k1;obtain⟨k2,NU⟩:=hc.k2;obtain⟨k3,NT⟩:=hc.k3;obtain⟨b0,b1⟩:=hc.base;obtain⟨x0,x1⟩:=hc.reads;obtain⟨y0,y1⟩:=hc.cM;obtain⟨z0,z1⟩:=hc.ag;obtain⟨u0,u1⟩:=hc.ar;obtain⟨t0,t1⟩:=hc.aw;have kn:=hc.nb;have kf:=hc.R0;have e:c.nb=c.c0+c.c1+c.c2+c.c3:=rfl;have e':c.hw=c.c0+c.c1*2+c.c2*4+c.c3*8:=rfl;have hh:=LU c hc;have oH:c.hw<=c.aR-c.base:=kf;dsimp only [bH.v] at hh ⊢;refine W (J2 @hh @G4) (Vx w0 w1 r0 r1 b0 b1 x0 x1 y0 y1 z0 z1 u0 u1 t0 t1 oH bF) ?_<;>intros
 all_goals exact⟨_,by first|(simp;done)|(simp;rfl),rfl,AW.le.alloc _ _⟩
theorem tW (c:bH) (hc:cx c) (A:AW):az Tryz.prog 84 [c.v] A (λv A'=>v=.int .i64 c.nb/\A=A'):=by
 refine az.rR (V:=.int .i64 c.nb) (by simp) (λhw=>?_) (by kernel_rfl);refine aH Tryz.func84 λ_=>?_;have hh:=LU c hc;have zI:=oL c hc;dsimp only [bH.v] at hh zI ⊢;refine W (J2 @hh @zI) (J1 bF) ?_<;>intros
 all_goals exact⟨_,by first|(simp;done)|(simp;rfl),rfl,AW.le.alloc _ _⟩
theorem zC (c:bH) (hc:cx c) (b:Int) (hb:b<2^62) (A:AW):az Tryz.prog 171 [c.v,.int .i64 b] A (λv A'=>v=.tuple #[.int .i64 (wv c b).1,.int .i64 (wv c b).2]/\A=A'):=by
 refine az.rR (V:=.tuple #[.int .i64 (wv c b).1,.int .i64 (wv c b).2]) (da.tuple (by simp)) (λhw=>?_) (by kernel_rfl);refine aH Tryz.func171 λ_=>?_;obtain⟨w0,w1⟩:=hc.aR;obtain⟨r0,r1⟩:=hc.am;obtain⟨k0,NW⟩:=hc.k0;obtain⟨k1,NV⟩:=hc.k1;obtain⟨k2,NU⟩:=hc.k2;obtain⟨k3,NT⟩:=hc.k3;obtain⟨b0,b1⟩:=hc.base;obtain⟨x0,x1⟩:=hc.reads;obtain⟨y0,y1⟩:=hc.cM;obtain⟨z0,z1⟩:=hc.ag;obtain⟨u0,u1⟩:=hc.ar;obtain⟨t0,t1⟩:=hc.aw;have kn:=hc.nb;have kf:=hc.R0;have e:c.nb=c.c0+c.c1+c.c2+c.c3:=rfl;have e':c.hw=c.c0+c.c1*2+c.c2*4+c.c3*8:=rfl;have zI:=oL c hc
 have l0:wv c b=if b<0 then (-1,-1) else if b<c.c0 then (0,c.base+b) else if b-c.c0<c.c1 then (1,c.base+c.c0+(b-c.c0)*2)
  else if b-c.c0-c.c1<c.c2 then (2,c.base+c.c0+c.c1*2+(b-c.c0-c.c1)*4) else if b-c.c0-c.c1-c.c2<c.c3 then (3,c.base+c.c0+c.c1*2+c.c2*4+(b-c.c0-c.c1-c.c2)*8) else (-1,-1):=rfl
 generalize wv c b=q at *;dsimp only [bH.v] at zI ⊢;revert hw;(repeat first|revert hc|revert R|revert K);refine W (J2 (od O0) @zI) (J1 bF) (J2 ?_ ?_)<;>(unhygienic intros);exact⟨_,by simp;rfl,by rw [l0,ay (by assumption)],AW.le.alloc _ _⟩;refine gM 5 ?_;refine W (J1 (od O0)) (J9 k0 NW k1 NV k2 NU k3 NT bF) (J5 ?_ ?_ ?_ ?_ ?_)<;>intros
 all_goals(
  refine⟨_,by first|(simp;done)|(simp;rfl),?_,AW.le.alloc _ _⟩;rw [l0];simp (disch:=omega) only [ay,ap]
  try rw [TY]
  try rw [pw2]
  try rw [pw3]
  try simp (disch:=omega) only [an])
theorem sE (c:bH) (hc:cx c) (b:Int) (hb:b<2^62) (A:AW):az Tryz.prog 106 [c.v,.int .i64 b] A (λv A'=>v=.int .i64 (c8 c b)/\A=A'):=by
 refine az.rR (V:=.int .i64 (c8 c b)) (by simp) (λhw=>?_) (by kernel_rfl);refine aH Tryz.func106 λ_=>?_;have zI:=zC c hc b hb;dsimp only [bH.v] at zI ⊢;refine W (J1 @zI) (J1 bF) ?_<;>intros;exact⟨_,by first|(simp;done)|(simp;rfl),rfl,AW.le.alloc _ _⟩
theorem Cj (c:bH) (hc:cx c) (b:Int) (hb:b<2^62) (A:AW):az Tryz.prog 257 [c.v,.int .i64 b] A (λv A'=>v=.int .i64 (gv c b)/\A=A'):=by
 refine az.rR (V:=.int .i64 (gv c b)) (by simp) (λhw=>?_) (by kernel_rfl);refine aH Tryz.func257 λ_=>?_;have zI:=zC c hc b hb;dsimp only [bH.v] at zI ⊢;refine W (J1 @zI) (J1 bF) ?_<;>intros;exact⟨_,by first|(simp;done)|(simp;rfl),rfl,AW.le.alloc _ _⟩
theorem ul (c:bH) (hc:cx c) (a:Int) (A:AW):az Tryz.prog 183 [c.v,.int .i64 a] A (λv A'=>v=.int .i64 (fF c a)/\A=A'):=by
 refine az.rR (V:=.int .i64 (fF c a)) (by simp) (λhw=>?_) (by kernel_rfl);refine aH Tryz.func183 λ_=>?_;obtain⟨w0,w1⟩:=hc.aR;obtain⟨r0,r1⟩:=hc.am;obtain⟨k0,NW⟩:=hc.k0;obtain⟨k1,NV⟩:=hc.k1;obtain⟨k2,NU⟩:=hc.k2;obtain⟨k3,NT⟩:=hc.k3;obtain⟨b0,b1⟩:=hc.base;obtain⟨x0,x1⟩:=hc.reads;obtain⟨y0,y1⟩:=hc.cM;obtain⟨z0,z1⟩:=hc.ag;obtain⟨u0,u1⟩:=hc.ar;obtain⟨t0,t1⟩:=hc.aw;have kn:=hc.nb;have kf:=hc.R0;have e:c.nb=c.c0+c.c1+c.c2+c.c3:=rfl;have e':c.hw=c.c0+c.c1*2+c.c2*4+c.c3*8:=rfl;have hh:=oL c hc;have zI:=tW c hc;dsimp only [bH.v] at hh zI ⊢;have gl:¬c.am=0:=by omega
 refine W (J3 (od Ua) @hh @zI) (J2 gl bF) (J3 ?_ ?_ ?_)<;>intros
 all_goals(
  refine⟨_,by first|(simp;done)|(simp;rfl),?_,AW.le.alloc _ _⟩;unfold fF
  first|(rw [ap (by simp_all;omega)];done)|(rw [ap (by omega)];done)|(rw [ay (by omega)];done))
theorem uy {c:bH} (hc:cx c) (b:Int) (h:0<=b/\b<c.nb):(0<=c8 c b/\c8 c b<=3)/\0<=gv c b/\gv c b+2 ^ (c8 c b).toNat<=c.aR:=by
 obtain⟨w0,w1⟩:=hc.aR;obtain⟨r0,r1⟩:=hc.am;obtain⟨k0,NW⟩:=hc.k0;obtain⟨k1,NV⟩:=hc.k1;obtain⟨k2,NU⟩:=hc.k2;obtain⟨k3,NT⟩:=hc.k3;obtain⟨b0,b1⟩:=hc.base;obtain⟨x0,x1⟩:=hc.reads;obtain⟨y0,y1⟩:=hc.cM;obtain⟨z0,z1⟩:=hc.ag;obtain⟨u0,u1⟩:=hc.ar;obtain⟨t0,t1⟩:=hc.aw;have kn:=hc.nb;have kf:=hc.R0;have e:c.nb=c.c0+c.c1+c.c2+c.c3:=rfl;have e':c.hw=c.c0+c.c1*2+c.c2*4+c.c3*8:=rfl;have oH:c.hw<=c.aR-c.base:=kf;unfold c8 gv wv;rw [ap (by omega)];split;simp;omega;split;simp;omega;split;simp;omega;split;simp;omega;omega
theorem Pa {c:bH} (hc:cx c) (b:Int) (h:¬(0<=b/\b<c.nb)):wv c b=(-1,-1):=by
 obtain⟨w0,w1⟩:=hc.aR;obtain⟨r0,r1⟩:=hc.am;obtain⟨k0,NW⟩:=hc.k0;obtain⟨k1,NV⟩:=hc.k1;obtain⟨k2,NU⟩:=hc.k2;obtain⟨k3,NT⟩:=hc.k3;obtain⟨b0,b1⟩:=hc.base;obtain⟨x0,x1⟩:=hc.reads;obtain⟨y0,y1⟩:=hc.cM;obtain⟨z0,z1⟩:=hc.ag;obtain⟨u0,u1⟩:=hc.ar;obtain⟨t0,t1⟩:=hc.aw;have kn:=hc.nb;have kf:=hc.R0;have e:c.nb=c.c0+c.c1+c.c2+c.c3:=rfl;have e':c.hw=c.c0+c.c1*2+c.c2*4+c.c3*8:=rfl;unfold wv;split;rfl;split;omega;split;omega;split;omega;split;omega;rfl
end
section
open T7
variable [Gl]
theorem Hl (c:bH) (hc:cx c) (A:AW):az Tryz.prog 86 [c.v] A (λv A'=>v=.int .i64 0/\A=A'):=by
 refine az.rR (V:=.int .i64 0) (by simp) (λhw=>?_) (by kernel_rfl);refine aH Tryz.func86 λ_=>?_;obtain⟨w0,w1⟩:=hc.aR;obtain⟨r0,r1⟩:=hc.am;obtain⟨k0,NW⟩:=hc.k0;obtain⟨k1,NV⟩:=hc.k1;obtain⟨k2,NU⟩:=hc.k2;obtain⟨k3,NT⟩:=hc.k3;obtain⟨b0,b1⟩:=hc.base;obtain⟨x0,x1⟩:=hc.reads;obtain⟨y0,y1⟩:=hc.cM;obtain⟨z0,z1⟩:=hc.ag;obtain⟨u0,u1⟩:=hc.ar;obtain⟨t0,t1⟩:=hc.aw;have kn:=hc.nb;have kf:=hc.R0;have e:c.nb=c.c0+c.c1+c.c2+c.c3:=rfl;have e':c.hw=c.c0+c.c1*2+c.c2*4+c.c3*8:=rfl;dsimp only [bH.v];revert hw;(repeat first|revert hc|revert R|revert K);refine W (J1 @wW) (J17 w0 w1 r0 r1 b0 b1 x0 x1 y0 y1 z0 z1 u0 u1 t0 t1 bF) ?_<;>(unhygienic intros);refine gM 5 ?_;have f1:c.c0+c.c1+c.c2+c.c3<=64:=by omega
 have f2:¬64<c.c0+c.c1+c.c2+c.c3:=by omega
 have f3:¬c.aR<c.base+(c.c0+c.c1*2+c.c2*4+c.c3*8):=by omega
 refine W (J1 @wW) (J20 w0 w1 r0 r1 k0 NW k1 NV k2 NU k3 NT b0 b1 x0 x1 y0 y1 z0 (rL z1 u0 u1 t0 t1 f2 f3 bF @pw0 @TY @pw2 @pw3)) ?_<;>intros
 all_goals exact⟨_,by first|(simp;done)|(simp;rfl),rfl,AW.le.alloc _ _⟩
theorem w8 (c:bH) (hc:cx c) (A:AW):az Tryz.prog 40 [c.v] A (λv A'=>v=.int .i64 c.nb/\A=A'):=by
 refine az.rR (V:=.int .i64 c.nb) (by simp) (λhw=>?_) (by kernel_rfl);refine aH Tryz.func40 λ_=>?_;obtain⟨w0,w1⟩:=hc.aR;obtain⟨r0,r1⟩:=hc.am;obtain⟨k0,NW⟩:=hc.k0;obtain⟨k1,NV⟩:=hc.k1;obtain⟨k2,NU⟩:=hc.k2;obtain⟨k3,NT⟩:=hc.k3;obtain⟨b0,b1⟩:=hc.base;obtain⟨x0,x1⟩:=hc.reads;obtain⟨y0,y1⟩:=hc.cM;obtain⟨z0,z1⟩:=hc.ag;obtain⟨u0,u1⟩:=hc.ar;obtain⟨t0,t1⟩:=hc.aw;have kn:=hc.nb;have kf:=hc.R0;have e:c.nb=c.c0+c.c1+c.c2+c.c3:=rfl;have e':c.hw=c.c0+c.c1*2+c.c2*4+c.c3*8:=rfl;have zI:=Hl c hc;dsimp only [bH.v] at zI ⊢;refine W (J1 @zI) (J1 bF) ?_<;>intros
 all_goals exact⟨_,by first|(simp;done)|(simp;rfl),rfl,AW.le.alloc _ _⟩
theorem Hk (c:bH) (hc:cx c) (b:Int) (A:AW):az Tryz.prog 56 [c.v,.int .i64 b] A (λv A'=>v=.int .i64 (c8 c b)/\A=A'):=by
 refine az.rR (V:=.int .i64 (c8 c b)) (by simp) (λhw=>?_) (by kernel_rfl);refine aH Tryz.func56 λ_=>?_;obtain⟨w0,w1⟩:=hc.aR;obtain⟨r0,r1⟩:=hc.am;obtain⟨k0,NW⟩:=hc.k0;obtain⟨k1,NV⟩:=hc.k1;obtain⟨k2,NU⟩:=hc.k2;obtain⟨k3,NT⟩:=hc.k3;obtain⟨b0,b1⟩:=hc.base;obtain⟨x0,x1⟩:=hc.reads;obtain⟨y0,y1⟩:=hc.cM;obtain⟨z0,z1⟩:=hc.ag;obtain⟨u0,u1⟩:=hc.ar;obtain⟨t0,t1⟩:=hc.aw;have kn:=hc.nb;have kf:=hc.R0;have e:c.nb=c.c0+c.c1+c.c2+c.c3:=rfl;have e':c.hw=c.c0+c.c1*2+c.c2*4+c.c3*8:=rfl;have zI:=w8 c hc;by_cases rQ:0<=b/\b<c.nb
 . obtain⟨q,hq⟩:∃q,c8 c b=q:=⟨_,rfl⟩;have l0:q=(if b<c.c0 then 0 else if b-c.c0<c.c1 then 1 else if b-c.c0-c.c1<c.c2 then 2 else 3):=by
    rw [<-hq];unfold c8 wv;rw [ap (by omega)]
    repeat' split
    all_goals(first|rfl|omega)
   rw [hq];obtain⟨i0,i1⟩:=rQ;have i2:¬b<0:=(by omega);have i3:¬c.nb<=b:=(by omega);dsimp only [bH.v] at zI ⊢;revert hq hw;(repeat first|revert hc|revert R|revert K);refine W (J1 @zI) (J3 i2 i3 bF) ?_<;>(unhygienic intros);refine gM 5 ?_;refine W cy (J1 bF) (J4 ?_ ?_ ?_ ?_)<;>intros
   all_goals(
    refine⟨_,by first|(simp;done)|(simp;rfl),?_,?_⟩;rw [l0];simp (disch:=omega) only [ay,ap];exact AW.le.alloc _ _)
 have l1:c8 c b = -1:=by unfold c8;rw [Pa hc b rQ]
 rw [l1];dsimp only [bH.v] at zI ⊢;refine W (J1 @zI) (J1 bF) (J2 ?_ ?_)<;>intros
 all_goals(first|omega|exact⟨_,by first|(simp;done)|(simp;rfl),rfl,AW.le.alloc _ _⟩)
end
section
open T7
variable [Gl]
theorem Kz {c:bH} {a:Int} (h:∀b:Nat,(b:Int)<c.nb->gv c b≠a):ju c a = -1:=by
 unfold ju;have:(List.range c.nb.toNat).find? (λb:Nat=>gv c (b:Int) == a)=none:=by
  rw [List.find?_eq_none];intro x hx;have:=List.mem_range.1 hx
  simpa using h x (by omega)
 rw [this]
theorem Ky {c:bH} {a:Int} {b:Nat} (hb:(b:Int)<c.nb) (h:gv c b=a) (h':∀j:Nat,j<b->gv c j≠a):ju c a=b:=by
 unfold ju;have:(List.range c.nb.toNat).find? (λb:Nat=>gv c (b:Int) == a)=some b:=by
  rw [List.find?_eq_some_iff_append];refine⟨by simpa using h,List.range b,(List.range (c.nb.toNat-b-1)).map (·+ (b+1)),?_,λx hx=>?_⟩;have:c.nb.toNat=b+(1+(c.nb.toNat-b-1)):=by omega
  rw [this,List.range_add,List.range_add];simp;intro q _;omega;have:=List.mem_range.1 hx
  simpa using h' x this
 rw [this]
theorem Nk (c:bH) (hc:cx c) (a:Int) (A:AW):az Tryz.prog 227 [c.v,.int .u64 a] A (λv A'=>v=.int .i64 (ju c a)/\A=A'):=by
 refine az.rR (V:=.int .i64 (ju c a)) (by simp) (λhw=>?_) (by kernel_rfl);refine aH Tryz.func227 λ_=>?_;obtain⟨w0,w1⟩:=hc.aR;obtain⟨r0,r1⟩:=hc.am;obtain⟨k0,NW⟩:=hc.k0;obtain⟨k1,NV⟩:=hc.k1;obtain⟨k2,NU⟩:=hc.k2;obtain⟨k3,NT⟩:=hc.k3;obtain⟨b0,b1⟩:=hc.base;obtain⟨x0,x1⟩:=hc.reads;obtain⟨y0,y1⟩:=hc.cM;obtain⟨z0,z1⟩:=hc.ag;obtain⟨u0,u1⟩:=hc.ar;obtain⟨t0,t1⟩:=hc.aw;have kn:=hc.nb;have kf:=hc.R0;have e:c.nb=c.c0+c.c1+c.c2+c.c3:=rfl;have e':c.hw=c.c0+c.c1*2+c.c2*4+c.c3*8:=rfl;have hh:=tW c hc;have zI:=λb hb=>Cj c hc b hb;have C6:0<=c.nb:=by omega
 obtain⟨n,hn⟩:∃n:Nat,c.nb=n:=⟨c.nb.toNat,by omega⟩;have hn':n<=64:=by omega
 rw [hn] at hh;dsimp only [bH.v] at hh zI ⊢;revert hw;(repeat first|revert hc|revert R|revert K);refine W (J1 @hh) (J1 bF) ?_<;>(unhygienic intros);refine dW (λk fr A'=>A'=A.alloc (.cells c.cells true 1)/\∃i:Nat,k=n-i/\i<=n/\fr 1=.int .u64 a/\fr 2=.pointer (some ⟨A.next,0,none⟩)/\fr 7=.int .i64 n/\fr 8=.int .i64 i/\∀j:Nat,j<i->gv c j≠a) n ?_ ?_;refine⟨rfl,0,by simp,by simp,rfl,rfl,rfl,rfl,by simp⟩;rintro k fr A' ⟨rfl,i,rfl,hi,h1,h2,h7,h8,hj⟩;dsimp only [bH.cells];by_cases cF:i<n
 . have fZ:(i:Int)<n:=(by omega);have hP:=D9 (i:=i);have hf:=uy hc i (by omega);have hp:(0:Int)<2 ^ (c8 c i).toNat:=Int.pow_pos (by omega);have Uo:IntKind.u64.wrap (gv c i)=gv c i:=ax (by omega) (by omega);refine bh ?_;by_cases hx:gv c i=a
   . repeat' (first|(refine jK λR hR=>?_;simp [an,ax,h1,h2,h7,h8,cF,fZ,hP,Uo,hx,AW.ab,aD];try simp (disch:=omega) only [ay,ap,an,ax])|(refine hR _ _ ?_;clear hR R)|(refine hK _ _ ?_;clear hK K)|refine nx ?_|refine wn λK hK=>?_|simp only [wS]|(refine bV (zI _ (by omega) _) ?_;rintro _ _ ⟨rfl,rfl⟩ _ _)|(refine bV (hh _) ?_;rintro _ _ ⟨rfl,rfl⟩ _ _)|(show cB _ _ _ _ _ _;refine nx ?_)|(refine wc rfl (λhc=>?_) (λhc=>?_)<;>(try simp at hc)<;>(try omega))|(refine ib (λhc=>?_) (λhc=>?_)<;>(try omega)<;>(try simp (disch:=omega) only [ay,ap])))
     refine⟨_,by first|(simp;done)|(simp;rfl),by rw [Ky (by omega) hx hj],AW.le.alloc _ _⟩
   . repeat' (first|(refine jK λR hR=>?_;simp [an,ax,h1,h2,h7,h8,cF,fZ,hP,Uo,hx,AW.ab,aD];try simp (disch:=omega) only [ay,ap,an,ax])|(refine hR _ _ ?_;clear hR R)|(refine hK _ _ ?_;clear hK K)|refine nx ?_|refine wn λK hK=>?_|simp only [wS]|(refine bV (zI _ (by omega) _) ?_;rintro _ _ ⟨rfl,rfl⟩ _ _)|(refine bV (hh _) ?_;rintro _ _ ⟨rfl,rfl⟩ _ _)|(show cB _ _ _ _ _ _;refine nx ?_)|(refine wc rfl (λhc=>?_) (λhc=>?_)<;>(try simp at hc)<;>(try omega))|(refine ib (λhc=>?_) (λhc=>?_)<;>(try omega)<;>(try simp (disch:=omega) only [ay,ap])))
     refine⟨n-(i+1),by omega,rfl,i+1,rfl,by omega,by simp [h1],by simp [h2],by simp [h7],by simp,λj uB=>?_⟩;by_cases e:j=i;subst e;exact hx;exact hj j (by omega)
 have fZ:¬(i:Int)<n:=by omega
 refine bh ?_;refine W (J1 @hh) (J7 h1 h2 h7 h8 cF fZ bF) ?_<;>intros;refine⟨_,by first|(simp;done)|(simp;rfl),by rw [Kz λb hb=>hj b (by omega)],AW.le.alloc _ _⟩
end
section
open T7
variable [Gl]
theorem HD (n:Int) (A:AW) (hn:0<=n/\n<=32):az Tryz.prog 220 [.int .i64 n] A (λv A'=>v=.pointer (some ⟨A.next,0,none⟩)/\A'=A.alloc (tq n.toNat (.slice none 0 0))):=by
 refine aH Tryz.func220 λ_=>?_;obtain⟨k,rfl⟩:∃k:Nat,n=k:=⟨n.toNat,by omega⟩;have e1:min (k:Int) 32=k:=by omega
 have e2:max 0 (k:Int)=k:=by omega
 have e3:(if 0<k then (k:Int) else 0)=k:=by split<;>omega
 refine W cy (J3 e1 e2 @tq.eq_1) ?_<;>intros;refine⟨_,rfl,rfl,?_⟩;simp [e1,e2,e3,tq]
theorem KJ (b ee:Nat) (va vv vi:Value) (dm:List Int) (hl:dm.length<=64) :
 bf Tryz.prog 255 [.pointer (some ⟨b,0,none⟩)] [.at b (j9 ee va vv vi),.h (au .i64 vi dm)] (λ_=>True)
  (λ_=>[.at b (j9 ee (.slice none 0 0) (.slice none 0 0) vi),.h (au .i64 vi (List.replicate dm.length (-1)))]):=by
 intro A F hw hS;refine aH Tryz.func255 λ_=>?_;dsimp only [aa,af] at hS;have hg:=hS.g 0 rfl;obtain⟨oi,ci,rfl,_⟩:=(ah.pG hS (.s .z)).dO;dsimp only [j9] at hg;revert hS hw;refine W cy (J2 hg bF) ?_<;>(unhygienic intros)
 refine dW (λk fr A'=>A'.Wf/\∃i:Nat,k=dm.length-i/\i<=dm.length/\fr 0=.pointer (some ⟨b,0,none⟩)/\fr 15=.int .i64 dm.length/\fr 16=.int .i64 i/\
  ah A' (.at b (j9 ee (.slice none 0 0) (.slice none 0 0) (.slice oi dm.length ci))::.h (au .i64 (.slice oi dm.length ci) (List.replicate i (-1)++dm.drop i))::[.h F])) dm.length ?_ ?_
 . refine⟨?_,0,by simp,by simp,rfl,by simp,by simp,?_⟩
   . repeat' (first|assumption|apply AW.Wf.alloc|apply AW.Wf.set|apply ah.WK hS hw .z|exact Nat.le_refl _)
   simp only [List.replicate_zero,af,List.drop_zero];refine ah.bI (ah.fp (ah.fp hS .z) .z) (.s .z (.s .z (.s .z .z)))
 rintro k fr A' ⟨lp,i,rfl,hi,h0,h15,wR,mT⟩;have Kk:=mT.g 0 rfl;dsimp only [j9] at Kk;refine bh ?_;by_cases cF:i<dm.length;have fZ:(i:Int)<dm.length:=by omega
 have hP:=D9 (i:=i);have b6:(List.replicate i (-1:Int)++dm.drop i).length=dm.length:=by simp;omega
 obtain⟨bi,FJ,ci',Jl,hv,uM,cH,kc,iI⟩:=ah.Ls mT (.s .z) (j:=i) (by omega);rw [b6] at hv uM;injection hv with Pn hv2 Us;subst Pn;subst Us;have RI:=iI.g 0 rfl;have LS:FJ+i<Jl.length:=by omega
 refine W cy (IX h0 h15 wR Kk RI cF fZ hP cH LS bF) ?_<;>intros;refine⟨dm.length-(i+1),by omega,?_,i+1,rfl,by omega,by simp [h0],by simp [h15],by simp,?_⟩;exact lp.set _ (lp.lt RI);have h9:=kc (-1) _ _ (ah.fp iI .z);have e9:(List.replicate i (-1:Int)++dm.drop i).set i (-1)=List.replicate (i+1) (-1)++dm.drop (i+1):=by
  rw [List.set_append_right _ _ (by simp)];simp only [List.length_replicate,Nat.sub_self];rw [List.drop_eq_getElem_cons cF,List.set_cons_zero,List.replicate_succ',List.append_assoc];rfl
 rw [e9] at h9;exact ah.bI h9 (.s (.s .z) (.s .z (.s .z .z)));have Ki:i=dm.length:=by omega
 subst Ki;refine W cy (J5 h0 h15 wR Kk bF) ?_<;>intros;refine⟨_,rfl,trivial,?_⟩;have e9:List.replicate dm.length (-1:Int)++dm.drop dm.length=List.replicate dm.length (-1):=by simp
 rw [e9] at mT;exact ah.bI mT (.s .z (.s .z (.s .z .z)))
theorem au.WJ {A:AW} {F:HP} (n:Nat) (h:bn A F) (hw:A.Wf):bn (A.alloc (.cells (eJ [.int .i64 0] n) true 1)) (au .i64 (.slice (some ⟨A.next,0,none⟩) n n) (List.replicate n 0)*F):=by
 have b6:(eJ [Value.int .i64 0] n).length=n:=by simp [iF]
 have hcs:(List.replicate n (0:Int)).map (Value.int .i64)=eJ [Value.int .i64 0] n:=by
  clear b6
  induction n with
  | zero=>rfl
  | succ n ih=>rw [List.replicate_succ,List.map_cons,ih];rfl
 refine au.mk (by simp) (by simp) (by simp [b6]) ?_ (h.alloc hw _);rw [hcs,List.drop_zero,List.take_of_length_le (by simp [b6])]
def Pd (w:Nat):Nat:=if w<=0 then 1 else if w<=1 then 2 else if w<=2 then 4 else if w<=4 then 8 else if w<=8 then 16 else if w<=16 then 32 else 64
theorem JE (w:Nat):gV w=⟨w,[],[],List.replicate (Pd w) (-1)⟩:=by
 have h:∀k:Nat,((w:Int)<=k)=(w<=k):=λk=>propext (by omega);have e:(if (w:Int)<=0 then 1 else if (w:Int)<=1 then 2 else if (w:Int)<=2 then 4 else if (w:Int)<=4 then 8 else if (w:Int)<=8 then 16 else if (w:Int)<=16 then 32 else 64)=Pd w:=by
  unfold Pd
  repeat' split
  all_goals(first|rfl|omega)
 unfold gV;rw [e];rfl
theorem Rp {p w:Nat} (hw:w<=32) (h:p=1\/p=2\/p=4\/p=8\/p=16\/p=32\/p=64) (h1:p=1\/p<4*w) (h2:2*w<=p):p=Pd w:=by
 unfold Pd
 repeat' split
 all_goals omega
theorem HF (w:Nat) (Pm:w<=32) (A:AW) (L:List It) (hw:A.Wf) (hS:ah A L) :
 az Tryz.prog 221 [.int .i64 w] A (λv A'=>∃b,v=.pointer (some ⟨b,0,none⟩)/\ah A' (.h (nR b (gV w))::L)):=by
 refine aH Tryz.func221 λ_=>?_;have e1:min (w:Int) 32=w:=by omega
 have e2:max 0 (w:Int)=w:=by omega
 have e3:(if 0<w then (w:Int) else 0)=w:=by split<;>omega
 revert hS hw;refine W cy (J3 e1 e2 e3) ?_<;>(unhygienic intros)
 refine dW (λk fr A'=>A'=A.alloc (j9 w (.slice none 0 0) (.slice none 0 0) (.slice none 0 0))/\∃p:Nat,k=64-p/\fr 3=.pointer (some ⟨A.next,0,none⟩)/\fr 4=.int .i64 p/\
  (p=1\/p=2\/p=4\/p=8\/p=16\/p=32\/p=64)/\(p=1\/p<4*w)) 63 ?_ ?_
 refine⟨?_,1,by simp,by simp,by simp,by simp,by simp⟩;simp [e1,e2,e3,j9];rintro k fr A' ⟨rfl,p,rfl,h3,h4,hp,LP⟩;have yn:(A.alloc (j9 w (.slice none 0 0) (.slice none 0 0) (.slice none 0 0))).bt A.next=some (.cells [.int .i64 w,.slice none 0 0,.slice none 0 0,.slice none 0 0] true 1):=by simp [j9]
 have SO:=hw.alloc (j9 w (.slice none 0 0) (.slice none 0 0) (.slice none 0 0));have hSl:=hS.alloc hw (j9 w (.slice none 0 0) (.slice none 0 0) (.slice none 0 0));generalize A.alloc (j9 w (.slice none 0 0) (.slice none 0 0) (.slice none 0 0))=A1 at *;have hP:IntKind.i64.wrap ((p:Int)*2)=((p*2:Nat):Int):=by rw [an (by omega) (by omega)];omega
 refine bh ?_;by_cases cF:p<2*w;have fZ:(p:Int)<2*w:=by omega
 refine W cy (J6 h3 h4 yn fZ hP bF) ?_<;>intros;refine⟨64-p*2,by omega,rfl,p*2,rfl,by simp [h3],by simp,by omega,by omega⟩;have fZ:¬(p:Int)<2*w:=by omega
 have N0:=Rp Pm hp LP (by omega);have gl:(A.next=A1.next)=False:=eq_false (by have:=SO.lt yn;omega);have mg:ah (A1.alloc (.cells (eJ [.int .i64 0] p) true 1)) (.h (au .i64 (.slice (some ⟨A1.next,0,none⟩) p p) (List.replicate p 0))::.at A.next (j9 w (.slice none 0 0) (.slice none 0 0) (.slice none 0 0))::L):=au.WJ p hSl SO;have hS:=mg;have hw:=SO.alloc (.cells (eJ [.int .i64 0] p) true 1);revert hS hw;(repeat first|clear hS|clear hw|revert hc|revert R|revert K);refine W cy (J6 h3 h4 yn fZ gl bF) ?_<;>(unhygienic intros);refine bf.eH (KJ A.next w (.slice none 0 0) (.slice none 0 0) (.slice (some ⟨A1.next,0,none⟩) p p) (List.replicate p 0) (by simp;omega)) (hw.set _ (by simp;have:=SO.lt yn;omega)) (ah.fp hS (.s .z)) (.s .z (.s .z .z)) ?_;rintro _ A3 _ hS hw _;simp only [List.length_replicate] at hS;revert hS hw;(repeat first|clear hS|clear hw|revert hc|revert R|revert K);refine W cy (J2 h3 bF) ?_<;>(unhygienic intros)
 refine⟨_,by first|(simp;done)|(simp;rfl),A.next,rfl,?_⟩;rw [JE,<-N0];have h1:ah A3 (.h (au .i64 (.slice none 0 0) [])::.h (au .u64 (.slice none 0 0) [])::_):=au.nil (k:=.i64) (au.nil (k:=.u64) hS);exact nR.dU (s:=⟨w,[],[],List.replicate p (-1)⟩) (va:=.slice none 0 0) (vv:=.slice none 0 0) (vi:=.slice (some ⟨A1.next,0,none⟩) p p) h1 (.s (.s (.s .z)) (.s .z (.s .z (.s .z .z))))
end
section
abbrev xn:List (Nat×Nat):=[(0,0),(1,0),(2,0),(3,0),(4,0),(5,0),(6,0),(7,0),(8,0),(9,0),(10,0),(11,0),(12,0),(13,3)]
abbrev xm:List (Nat×Nat):=[(0,0),(1,0),(2,0),(3,0),(4,0),(5,0),(6,0),(7,0),(8,0),(9,0),(10,0)]
abbrev xl:List (Nat×Nat):=[(0,0),(1,0),(2,0),(3,0),(4,0),(5,0),(6,0),(7,0),(8,0),(9,0),(10,0),(11,3)]
open T7
variable [Gl]
theorem zB (b:Nat) (s:ri) (a v:Int) (lq:mZ s) (ha:0<=a) (yR:s.ee<=32) (RH:s.index.length<=64) :
 bf Tryz.prog 219 [.pointer (some ⟨b,0,none⟩),.int .i64 a,.int .u64 v] [.h (nR b s)] (λu=>u=.bool (fj s a v).1) (λ_=>[.h (nR b (fj s a v).2)]):=by
 intro A F hw di;refine aH Tryz.func219 λ_=>?_;obtain⟨va,vv,vi,hS⟩:=nR.open di .z
 try dsimp only [aa,af] at hS
 have Td:=ah.pG hS (.s .z);have Tb:=ah.pG hS (.s (.s .z));have Tc:=ah.pG hS (.s (.s (.s .z)));have yn:=hS.g 0 rfl;obtain⟨p,hp,pf,s4⟩:=zu b va vv vi s a A lq ha yR RH yn Td Tc;have b6:s.bK.length<=32:=Nat.le_trans lq.ee yR;have hlv:=lq.JO;have hg:=yn;dsimp only [j9] at hg;obtain⟨oa,ca,rfl,_⟩:=Td.dO;obtain⟨ov,cv,rfl,_⟩:=Tb.dO;obtain⟨bi,FJ,ci,Jl,rfl,uM,cH,kc,iI⟩:=ah.Ls hS (.s (.s (.s .z))) hp;have RI:=iI.g 0 rfl;have V7:¬a<0:=by omega
 have Rz:(p:Int)<s.index.length:=by omega
 have hixp:s.index.getD p 0=ix s.index p:=by
  unfold ix;rw [List.getD_eq_getElem?_getD,List.getD_eq_getElem?_getD,List.getElem?_eq_getElem hp];rfl
 rw [hixp] at cH;rcases pf with ⟨e,EG,QI⟩|⟨EG,HY,Kc⟩;rw [QI] at cH;have cF:e<s.eM.length:=by rw [lq.JO];exact(sC EG).1
 have DN:fj s a v=(true,{ s with eM:=s.eM.set e v }):=by simp [fj,EG]
 obtain⟨bv,Re,cv',TP,hv,hbv,Po,WS,mg⟩:=ah.Ls iI (.s (.s (.s .z))) cF;injection hv with Pn hv2 Us;subst Pn;subst Us;have C8:=mg.g 0 rfl;refine W (J4 (od xn) (od xm) (od xl) @s4) (GK hg V7 RI C8 cH Po cF hp Rz bF) ?_<;>intros;refine⟨_,by first|rfl|(simp;rfl),by simp [DN],?_⟩;rw [DN];have h1:=WS v _ _ (ah.fp mg .z);have h2:=ah.bI h1 (G:=.at bi (.cells Jl true 1)::.h (au .u64 (.slice (some ⟨bv,Re,none⟩) s.eM.length cv) (s.eM.set e v))::.at b (j9 s.ee (.slice oa s.bK.length ca) (.slice (some ⟨bv,Re,none⟩) s.eM.length cv) (.slice (some ⟨bi,FJ,none⟩) s.index.length ci))::.h (au .i64 (.slice oa s.bK.length ca) s.bK)::[.h F]) (.s (.s .z) (.s .z (.s .z (.s .z (.s .z .z)))));have h3:=kc (s.index.getD p 0) _ _ (by
  have e1:Jl.set (FJ+p) (.int .i64 (s.index.getD p 0))=Jl:=by
   apply List.ext_getElem?;intro q;by_cases eq:FJ+p=q;subst eq;rw [List.getElem?_set_self (by omega),hixp,cH,QI];rw [List.getElem?_set_ne eq]
  rw [e1];exact h2)
 have e2:s.index.set p (s.index.getD p 0)=s.index:=by
  apply List.ext_getElem?;intro q;by_cases eq:p=q;subst eq;rw [List.getElem?_set_self hp,List.getD_eq_getElem?_getD,List.getElem?_eq_getElem hp];rfl;rw [List.getElem?_set_ne eq]
 rw [e2] at h3
 exact nR.dU (s:={ s with eM:=s.eM.set e v }) (va:=.slice oa s.bK.length ca) (vv:=.slice (some ⟨bv,Re,none⟩) s.eM.length cv) (vi:=.slice (some ⟨bi,FJ,none⟩) s.index.length ci)
  h3 (.s (.s (.s .z)) (.s (.s (.s .z)) (.s (.s .z) (.s .z .z))))
 have SZ:¬0<=ix s.index p:=by omega
 by_cases hfull:s.bK.length=s.ee;have DN:fj s a v=(false,s):=by simp [fj,EG,hfull]
 have h3:(s.bK.length:Int)=s.ee:=by omega
 refine W (J4 (od xn) (od xm) (od xl) @s4) (J9 hg V7 RI cH hp Rz h3 SZ @AW.ab) ?_<;>intros;refine⟨_,rfl,by simp [DN],?_⟩;rw [DN];exact di;have DN:fj s a v=(true,{ s with bK:=s.bK++[a],eM:=s.eM++[v],index:=s.index.set p s.bK.length }):=by
  simp [fj,EG,hfull,Kc]
 have h3:¬(s.bK.length:Int)=s.ee:=by omega
 have Aj:(bi=b)=False:=eq_false (λe=>by
  have:=iI.dT hw;dsimp only [aK,ba,bD,dN] at this;have h5:=this.2.2.1.1.1;rw [h5] at e;exact e.elim)
 revert hS hw;(repeat first|clear hS|clear hw|revert hc|revert R|revert K);refine W (J4 (od xn) (od xm) (od xl) @s4) (GK hg V7 RI cH hp Rz h3 SZ Aj bF) ?_<;>(unhygienic intros);have hS:=kc s.bK.length _ _ (ah.fp iI .z);have hw:=hw.set (some (.cells (Jl.set (FJ+p) (.int .i64 s.bK.length)) true 1)) (hw.lt RI);generalize A.set bi (some (.cells (Jl.set (FJ+p) (.int .i64 s.bK.length)) true 1))=A1 at *;have hq:=hqx8 hS hw
 repeat' (first|(with_reducible apply twI;(·first|(simp;done)|(simp;rfl));(·first|(simp;done)|(simp;rfl));(·exact wA);(·exact sA);(·first|exact pA|exact kA);(·first|(simp;done)|(simp;rfl)|(simp [hq];done)|(simp [hq];rfl));(·first|omega|(simp;omega));(·exact λA' xL=>(by have h9:=ah.Ks xL<;>simp only [aK,j9] at h9<;>simp only [h9]));rintro _ _ _ hS hw _;(try dsimp only [AW.bx] at hS);have hq:=eO hS hw)|(with_reducible apply twU;(·first|(simp;done)|(simp;rfl));(·first|(simp;done)|(simp;rfl));(·exact wA);(·exact sA);(·first|exact pA|exact kA);(·first|(simp;done)|(simp;rfl)|(simp [hq];done)|(simp [hq];rfl));(·first|omega|(simp;omega));(·exact λA' xL=>(by have h9:=ah.Ks xL<;>simp only [aK,j9] at h9<;>simp only [h9]));rintro _ _ _ hS hw _;(try dsimp only [AW.bx] at hS);have hq:=eO hS hw)|(refine QZ (λR hR=>?_) (λR hR=>?_)<;>(first|(with_reducible apply lhI;(·first|(simp;done)|(simp;rfl));(·first|(simp;done)|(simp;rfl));(·exact wA);(·exact sA);(·first|exact pA|exact kA);(·first|(simp;done)|(simp;rfl)|(simp [hq];done)|(simp [hq];rfl));(·first|omega|(simp;omega));(·exact λA' xL=>(by have h9:=ah.Ks xL<;>simp only [aK,j9] at h9<;>simp only [h9]));rintro _ _ _ hS hw _;(try dsimp only [AW.bx] at hS);have hq:=eO hS hw)|(with_reducible apply lhU;(·first|(simp;done)|(simp;rfl));(·first|(simp;done)|(simp;rfl));(·exact wA);(·exact sA);(·first|exact pA|exact kA);(·first|(simp;done)|(simp;rfl)|(simp [hq];done)|(simp [hq];rfl));(·first|omega|(simp;omega));(·exact λA' xL=>(by have h9:=ah.Ks xL<;>simp only [aK,j9] at h9<;>simp only [h9]));rintro _ _ _ hS hw _;(try dsimp only [AW.bx] at hS);have hq:=eO hS hw)|(simp [an,ax,hq,hg,AW.ab,aD];try simp (disch:=omega) only [ay,ap,an,ax])))|(refine jK λR hR=>?_;simp [an,ax,hq,hg,AW.ab,aD];try simp (disch:=omega) only [ay,ap,an,ax])|(refine hR _ _ ?_;clear hR R)|(refine hK _ _ ?_;clear hK K)|refine nx ?_|(refine Sw λR hR=>?_;simp [an,ax,hq,hg,AW.ab,aD];try simp (disch:=omega) only [ay,ap,an,ax])|(refine QZ (λR hR=>?_) (λR hR=>?_)<;>(simp [an,ax,hq,hg,AW.ab,aD];try simp (disch:=omega) only [ay,ap,an,ax]))|refine Sv ?_|refine wn λK hK=>?_|simp only [wS,xn,xm,xl]|simp only [bC,vI,mN,Option.map_none,Option.map_some,List.getElem?_toArray,List.getElem?_cons_zero,List.getElem?_cons_succ,List.getD_cons_zero,List.getD_cons_succ,Option.bind_some]|refine wl Tryz.mx xn (by decide +kernel) λK hK=>?_|refine wl Tryz.mx xm (by decide +kernel) λK hK=>?_|refine wl Tryz.mx xl (by decide +kernel) λK hK=>?_|(refine ⟨λA' xL=>by simp [AW.ab,xL],?_⟩)|(refine wt (λA'=>A'.bt b=some (.cells [.int .i64 s.ee,.slice oa s.bK.length ca,.slice ov s.eM.length cv,.slice (some ⟨bi,FJ,none⟩) s.index.length ci] true 1)) Tryz.mx [0,0,0,0,0,1,0,2,3,0,0,0,1,0,2,3,0,0,4,0,0,4] (.aY 0 (.aY 1 (.aY 2 (.aY 3 (.aY 4 (.aY 5 (.aY 6 (.aY 9 (.aY 10 (.aY 11 (.aY 12 (.aY 13 (.uS 7 (.uS 8 (.aY 14 (.aY 15 (.aY 16 (.aY 17 (.aY 18 (.aY 19 (.aY 20 (.aY 21 .nil)))))))) 14 (.aY 8 (.aY 15 (.aY 16 (.aY 17 (.aY 18 (.aY 19 (.aY 20 (.aY 21 .nil))))))))) 14 (.aY 7 (.aY 8 (.aY 15 (.aY 16 (.aY 17 (.aY 18 (.aY 19 (.aY 20 (.aY 21 .nil)))))))))))))))))))))) (by decide +kernel) λK hK=>?_)|(show cB _ _ _ _ _ _;refine nx ?_)|(refine wc rfl (λhc=>?_) (λhc=>?_)<;>(try simp at hc)<;>(try omega))|(refine ib (λhc=>?_) (λhc=>?_)<;>(try omega)<;>(try simp (disch:=omega) only [ay,ap])))
 all_goals(
  refine⟨_,by first|(simp;done)|(simp;rfl),by simp [DN],?_⟩;rw [DN];apply ah.bI;apply nR.dU (s:={ s with bK:=s.bK++[a],eM:=s.eM++[v],index:=s.index.set p s.bK.length })
  (·exact sA)
  (·first|exact pA|exact kA)
  first|exact pA|exact kA)
end
section
abbrev OX:List (Nat×Nat):=[(0,0),(1,0),(2,0),(3,0),(4,0),(5,0),(6,0),(7,0),(8,0),(9,2),(10,0),(11,0),(12,3),(13,0),(14,0),(15,0),(16,3)]
abbrev OW:List (Nat×Nat):=[(0,0),(1,0),(2,0),(3,0),(4,0),(5,0),(6,0),(7,0),(8,2),(9,0),(10,0),(11,0),(12,0),(13,0)]
abbrev OV:List (Nat×Nat):=[(0,0),(1,0),(2,0),(3,0),(4,0),(5,0),(6,0),(7,0),(8,0),(9,0),(10,3),(11,0),(12,0),(13,0),(14,3)]
abbrev Hx:List (Nat×Nat):=[(0,0),(1,0),(2,0),(3,0),(4,2),(5,0),(6,0),(7,0),(8,0),(9,0),(10,0),(12,0),(13,0),(14,0),(15,0),(11,2),(16,0),(17,0)]
abbrev Hw:List (Nat×Nat):=[(0,0),(1,0),(2,0),(3,0),(4,0),(5,0),(6,0),(7,0),(8,0),(9,0),(10,0),(11,3),(12,0),(13,0),(14,3)]
open T0
variable [Gl]
theorem xx (c k:Int) (A:AW):az Tryz.prog 105 [.int .i64 c,.int .i64 k] A (λv A'=>v=.pointer (some ⟨A.next,0,none⟩)/\A'=A.alloc (gt ⟨c,k,0,0⟩)):=by
 refine aH Tryz.func105 λ_=>?_;refine W cy cy ?_<;>intros;exact⟨_,rfl,rfl,rfl⟩
theorem uZ (b:Nat) (s:eZ) (A:AW) (hg:A.bt b=some (gt s)):et 108 [.pointer (some ⟨b,0,none⟩)] A (.bool (decide (s.br=3))):=by
 refine aH Tryz.func108 λ_=>?_;dsimp only [gt] at hg;refine W cy (J2 hg @AW.ab) ?_<;>intros;exact⟨_,rfl,rfl,rfl⟩
def Lq (s:eZ):Int:=IntKind.u64.wrap (IntKind.i64.wrap (gT s.head+1))
theorem Js (s:eZ) (M:Mm) :
 (s.br=0/\ct s M=(gy M 7 s.dC,{ s with head:=(gy M 7 s.dC).eV,br:=1 },M)) \/
 (s.br=1/\ct s M=(Bm M 8 s.block (Lq s),{ s with br:=2 },Dq M 8 s.block (Lq s))) \/
 ((s.br=2/\(Bb M 7 s.dC s.head (mW s.head s.block)).done=true)/\ct s M=(Bb M 7 s.dC s.head (mW s.head s.block),{ s with br:=3 },Q2 M 7 s.dC s.head (mW s.head s.block))) \/
 ((s.br=2/\(Bb M 7 s.dC s.head (mW s.head s.block)).done=false)/\ct s M=(Bb M 7 s.dC s.head (mW s.head s.block),{ s with br:=0 },Q2 M 7 s.dC s.head (mW s.head s.block))) \/
 ((¬s.br=0/\¬s.br=1/\¬s.br=2)/\ct s M=(aU.zero,s,M)):=by
 unfold ct;by_cases h0:s.br=0;simp [h0];by_cases h1:s.br=1;simp [h1,Lq];by_cases h2:s.br=2;cases h3:(Bb M 7 s.dC s.head (mW s.head s.block)).done<;>simp [h2,h3];simp [h0,h1,h2]
theorem pQ (b pb:Nat) (s:eZ) (M:Mm) :
 bf Tryz.prog 107 [.pointer (some ⟨b,0,none⟩),.pointer (some ⟨pb,0,none⟩)] [.at b (gt s),dH pb M]
  (λv=>v=(ct s M).1.v) (λ_=>[.at b (gt (ct s M).2.1),dH pb (ct s M).2.2]):=by
 intro A F hw hS;refine aH Tryz.func107 λ_=>?_;have hq:=HW hS hw;rcases Js s M with ⟨h,e⟩|⟨h,e⟩|⟨h,e⟩|⟨h,e⟩|⟨h,e⟩
 all_goals(try simp only [Lq] at e)
 all_goals(revert hq hS hw;refine W (J8 (od OX) (od OW) (od OV) @Es @BE (swL pb) (VF pb) (Pg pb)) (J4 h bF @bd.eq_1 @aU.v.eq_1) ?_<;>unhygienic intros)
 all_goals(
  try rw [e]
  refine⟨_,by simp [hq,AW.ab,aD];rfl,by simp [aU.v,aU.zero,h],?_⟩;apply ah.bI
  (·exact sA)
  (·repeat' (first|apply aQ.z|apply aQ.s|apply aB.z|(apply aB.GO;simp [gm,iU,lX,gt,gO,h];done)|apply aB.s)))
theorem uX (b:Nat) (s:fV) (A:AW) (hg:A.bt b=some (gO s)):et 178 [.pointer (some ⟨b,0,none⟩)] A (.bool s.done):=by
 refine aH Tryz.func178 λ_=>?_;dsimp only [gO] at hg;refine W cy (J2 hg @AW.ab) ?_<;>intros;exact⟨_,rfl,rfl,rfl⟩
theorem wZ (b:Nat) (s:fV) (A:AW) (hg:A.bt b=some (gO s)):et 179 [.pointer (some ⟨b,0,none⟩)] A (.bool s.dh):=by
 refine aH Tryz.func179 λ_=>?_;dsimp only [gO] at hg;refine W cy (J2 hg @AW.ab) ?_<;>intros;exact⟨_,rfl,rfl,rfl⟩
theorem Bz (b:Nat) (s:fV) (A:AW) (hg:A.bt b=some (gO s)):et 184 [.pointer (some ⟨b,0,none⟩)] A (.int .u64 s.val):=by
 refine aH Tryz.func184 λ_=>?_;have Kk:=hg;dsimp only [gO] at Kk;by_cases h1:s.br=3<;>cases h2:s.dh
 all_goals(refine W (J1 (uX b s _ hg)) (J5 Kk h1 h2 @fV.done.eq_1 @AW.ab) ?_<;>unhygienic intros)
 all_goals exact⟨_,rfl,by simp [fV.val,h1,h2],rfl⟩
theorem oy (s:fV) (M:Mm) :
 ((s.br=0/\0<=lK (gy M 2 s.fw).eV)/\dg s M=(gy M 2 s.fw,{ s with d7:=(gy M 2 s.fw).eV,dh:=true,br:=3 },M)) \/
 (((s.br=0/\¬0<=lK (gy M 2 s.fw).eV)/\s.rv<jL (gy M 2 s.fw).eV)/\dg s M=(gy M 2 s.fw,{ s with d7:=(gy M 2 s.fw).eV,dh:=true,br:=3 },M)) \/
 (((s.br=0/\¬0<=lK (gy M 2 s.fw).eV)/\¬s.rv<jL (gy M 2 s.fw).eV)/\dg s M=(gy M 2 s.fw,{ s with d7:=(gy M 2 s.fw).eV,br:=1 },M)) \/
 (s.br=1/\dg s M=(gy M 1 s.cg,{ s with value:=(gy M 1 s.cg).eV,br:=2 },M)) \/
 (s.br=2/\dg s M=(gy M 2 s.fw,{ s with dh:=decide ((gy M 2 s.fw).eV≠s.d7),br:=3 },M)) \/
 ((¬s.br=0/\¬s.br=1/\¬s.br=2)/\dg s M=(aU.zero,s,M)):=by
 unfold dg;by_cases h0:s.br=0;by_cases h1:0<=lK (gy M 2 s.fw).eV<;>by_cases h2:s.rv<jL (gy M 2 s.fw).eV<;>simp [h0,h1,h2];by_cases h1:s.br=1;simp [h1];by_cases h2:s.br=2;simp [h2];simp [h0,h1,h2]
theorem uW (b pb:Nat) (s:fV) (M:Mm) :
 bf Tryz.prog 177 [.pointer (some ⟨b,0,none⟩),.pointer (some ⟨pb,0,none⟩)] [.at b (gO s),dH pb M]
  (λv=>v=(dg s M).1.v) (λ_=>[.at b (gO (dg s M).2.1),dH pb (dg s M).2.2]):=by
 intro A F hw hS;refine aH Tryz.func177 λ_=>?_;have hq:=HW hS hw;rcases oy s M with ⟨h,e⟩|⟨h,e⟩|⟨h,e⟩|⟨h,e⟩|⟨h,e⟩|⟨h,e⟩
 repeat' (first|(refine jK λR hR=>?_;simp [an,ax,hq,h,AW.ab,aD,bd,aU.v];try simp (disch:=omega) only [ay,ap,an,ax])|(refine hR _ _ ?_;clear hR R)|(refine hK _ _ ?_;clear hK K)|refine nx ?_|refine wn λK hK=>?_|simp only [wS,Hx,Hw]|refine wl Tryz.mx Hx (by decide +kernel) λK hK=>?_|refine wl Tryz.mx Hw (by decide +kernel) λK hK=>?_|(refine bV (xf _ _) ?_;rintro _ _ ⟨rfl,rfl⟩ _ _)|(refine bV (uY _ _) ?_;rintro _ _ ⟨rfl,rfl⟩ _ _)|(refine ⟨λA' xL=>by simp [AW.ab,xL],?_⟩)|(refine TC (λA'=>A'.bt (A.next+1)=some (.cells (Vu (gy M 2 s.fw)) true 1)) Tryz.mx [(0,0),(1,0),(2,0),(3,0),(4,0),(5,0),(6,0),(7,0),(8,0),(9,0),(10,0),(11,3),(12,0),(13,0),(14,3)] (by decide +kernel) λK hK=>?_)|(apply bf.eH (Pg pb _ _ _);(·exact wA);(·exact sA);(·first|exact pA|exact kA);rintro _ _ rfl hS hw _;have hS:=lA hS;have hq:=HW hS hw)|(show cB _ _ _ _ _ _;refine nx ?_)|(refine wc rfl (λhc=>?_) (λhc=>?_)<;>(try simp at hc)<;>(try omega))|(refine ib (λhc=>?_) (λhc=>?_)<;>(try omega)<;>(try simp (disch:=omega) only [ay,ap])))
 all_goals(
  try rw [e]
  refine⟨_,by simp [hq,AW.ab,aD];rfl,by simp [aU.v,aU.zero,h],?_⟩;apply ah.bI
  (·exact sA)
  (·repeat' (first|apply aQ.z|apply aQ.s|apply aB.z|(apply aB.GO;simp [gm,iU,lX,gt,gO,h];done)|apply aB.s)))
end
section
abbrev ry:List (Nat×Nat):=[(0,0),(1,0),(2,0),(4,0),(5,0),(6,0),(3,2),(7,2),(8,0),(9,2),(10,0)]
open T7
variable [Gl]
theorem DA (vi vw:Value) (l ws:List Int) (A:AW) (F:HP) (h:dz A .i64 vi l) (h':dz A .u64 vw ws) (he:l.length=ws.length) (hl:l.length<2^38) (hw:A.Wf) (hS:bn A F) :
 az Tryz.prog 207 [vi,vw] A (λv A'=>∃b,v=.pointer (some ⟨b,0,none⟩)/\bn A' (gG b ⟨l,ws⟩*F)/\A.le A'):=by
 refine aH Tryz.func207 λ_=>?_;obtain⟨o,c,rfl,hc⟩:=h.dO;obtain⟨o',c',rfl,UV⟩:=h'.dO;rw [<-he] at h' UV ⊢;rcases o with _|p<;>rcases o' with _|q
 all_goals
  all_goals(revert hS hw;(repeat first|revert hc|revert R|revert K);refine W (J1 (od ry)) (J1 @eo.eq_1) ?_<;>unhygienic intros)
  refine bV (j0 _ l A h (by omega)) ?_;rintro u A1 ⟨h1,h2⟩ i5 _;refine⟨h2,?_⟩;obtain⟨o1,c1,rfl,_⟩:=h1.is.dO
  all_goals(revert hS hw;(repeat first|clear hS|clear hw|revert hc|revert R|revert K);refine W (J1 (od ry)) (J1 @eo.eq_1) ?_<;>unhygienic intros)
  refine bV (mV _ ws A1 (dz.le h2 hw h') (by omega)) ?_;rintro u2 A2 ⟨h3,h4⟩ kS _;refine⟨h4,?_⟩;obtain⟨o2,c2,rfl,_⟩:=h3.is.dO
  all_goals(revert hS hw;(repeat first|clear hS|clear hw|revert hc|revert R|revert K);refine W (J1 (od ry)) (J1 @eo.eq_1) ?_<;>unhygienic intros)
  refine⟨_,by first|(simp;done)|(simp;rfl),A2.next,rfl,?_,(h2.trans h4).trans (AW.le.alloc _ _)⟩;have iI:=(au.jF (au.jF hS hw h2 h1) i5 h4 h3).alloc kS (.cells [.slice o1 l.length c1,.slice o2 ws.length c2] true 1);refine gG.dU (vo:=.slice o1 l.length c1) (vw:=.slice o2 ws.length c2) ?_;exact iI.dV (by show _=pt A2.next (.cells [.slice o1 l.length c1,.slice o2 ws.length c2] true 1)*(au .i64 (.slice o1 l.length c1) l*(au .u64 (.slice o2 ws.length c2) ws*F));ac_rfl)
theorem HB (vi vw:Value) (l ws:List Int) (A:AW) (F:HP) (h:dz A .i64 vi l) (h':dz A .u64 vw ws) (he:l.length=ws.length) (hl:l.length<2^38) (hw:A.Wf) (hS:bn A F) :
 az Tryz.prog 201 [vi,vw] A (λv A'=>∃b,v=.pointer (some ⟨b,0,none⟩)/\bn A' (gG b ⟨l,ws⟩*F)/\A.le A'):=by
 refine aH Tryz.func201 λ_=>?_;obtain⟨o,c,rfl,hc⟩:=h.dO;obtain⟨o',c',rfl,UV⟩:=h'.dO;rw [<-he] at h' UV ⊢;rcases o with _|p<;>rcases o' with _|q
 all_goals
  all_goals(revert hS hw;(repeat first|revert hc|revert R|revert K);refine W (J1 (od ry)) (J1 @eo.eq_1) ?_<;>unhygienic intros)
  refine bV (j0 _ l A h (by omega)) ?_;rintro u A1 ⟨h1,h2⟩ i5 _;refine⟨h2,?_⟩;obtain⟨o1,c1,rfl,_⟩:=h1.is.dO
  all_goals(revert hS hw;(repeat first|clear hS|clear hw|revert hc|revert R|revert K);refine W (J1 (od ry)) (J1 @eo.eq_1) ?_<;>unhygienic intros)
  refine bV (mV _ ws A1 (dz.le h2 hw h') (by omega)) ?_;rintro u2 A2 ⟨h3,h4⟩ kS _;refine⟨h4,?_⟩;obtain⟨o2,c2,rfl,_⟩:=h3.is.dO
  all_goals(revert hS hw;(repeat first|clear hS|clear hw|revert hc|revert R|revert K);refine W (J1 (od ry)) (J1 @eo.eq_1) ?_<;>unhygienic intros)
  refine⟨_,by first|(simp;done)|(simp;rfl),A2.next,rfl,?_,(h2.trans h4).trans (AW.le.alloc _ _)⟩;have iI:=(au.jF (au.jF hS hw h2 h1) i5 h4 h3).alloc kS (.cells [.slice o1 l.length c1,.slice o2 ws.length c2] true 1);refine gG.dU (vo:=.slice o1 l.length c1) (vw:=.slice o2 ws.length c2) ?_;exact iI.dV (by show _=pt A2.next (.cells [.slice o1 l.length c1,.slice o2 ws.length c2] true 1)*(au .i64 (.slice o1 l.length c1) l*(au .u64 (.slice o2 ws.length c2) ws*F));ac_rfl)
end
section
open T7
variable [Gl]
theorem FP (t:Int) (vi:Value) (l:List Int) (A:AW) (F:HP) (h:dz A .i64 vi l) (hl:l.length<2^38) (hw:A.Wf) (hS:bn A F) :
 az Tryz.prog 216 [.int .i64 t,vi] A (λv A'=>∃b,v=.pointer (some ⟨b,0,none⟩)/\bn A' (gz b ⟨t,eb l,[],0,false⟩*F)):=by
 refine aH Tryz.func216 λ_=>?_;revert hS hw;refine W cy cy ?_<;>(unhygienic intros);refine bV (zo vi l A h (by omega)) ?_;rintro u A1 ⟨h1,h2⟩ i5 _;obtain⟨o,c,rfl,_⟩:=h1.is.dO;revert hS hw;(repeat first|clear hS|clear hw|revert hc|revert R|revert K);refine W cy cy ?_<;>(unhygienic intros);refine⟨_,by first|(simp;done)|(simp;rfl),A1.next,rfl,?_⟩;have iI:=(au.jF hS hw h2 h1).alloc i5 (.cells [.int .i64 t,.slice o (eb l).length c,.slice none 0 0,.int .u64 0,.bool false] true 1);refine gz.dU (vo:=.slice o (eb l).length c) (vw:=.slice none 0 0) ?_;have h0:=au.nil (k:=.u64) iI;exact h0.dV (by show _=pt A1.next (.cells [.int .i64 t,.slice o (eb l).length c,.slice none 0 0,.int .u64 0,.bool false] true 1)*(au .i64 (.slice o (eb l).length c) (eb l)*(au .u64 (.slice none 0 0) []*F));ac_rfl)
end
section
open T10
variable [Gl]
def Q6 (s:gn):dG:=.cells [.int .i64 s.ak,.int .i64 s.br,.int .i64 s.Ae] true 1
def TU (s:jw):dG:=.cells [.int .i64 s.fA,.bool s.done] true 1
def Wx (s:nQ):dG:=.cells [.int .i64 s.dC,.int .i64 s.br,.int .u64 s.head,.int .u64 s.next,.int .i64 s.block] true 1
def TX (s:eZ):dG:=.cells [.int .i64 s.dC,.int .i64 s.block,.int .i64 s.br,.int .u64 s.head] true 1
def fV.rat (s:fV):Int:=if s.br=3/\s.dh=true then 4 else s.br
def TV (s:fV):dG:=.cells [.int .i64 s.cg,.int .i64 s.fw,.int .i64 s.rv,.int .i64 s.rat,.int .u64 s.d7,.int .u64 s.value] true 1
end
end Go.Stx
