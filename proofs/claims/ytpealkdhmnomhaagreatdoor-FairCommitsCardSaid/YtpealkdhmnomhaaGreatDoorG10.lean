/-
 The program's machine that writes.
-/
import Derived.Test.YtpealkdhmnomhaaGreatDoorG09
set_option linter.unusedVariables false
set_option linter.unusedSimpArgs false
set_option linter.unusedSectionVars false
set_option maxRecDepth 20000
set_option maxHeartbeats 4000000
open Go.IntKind renaming i64->qY,u64->q8
open Go.Proofs.Tryz renaming info35->kap,prog->qV,underlying24->kaE,underlying28->kaj,zero35->kaq
open Go.Stx.AW.le renaming alloc->qW
open List renaming replicate->qX
open Bool renaming false->qk,true->qg
open Go renaming Operand->qy,Value->qd
open Go.Builtin renaming append->qK
open Go.Callee renaming builtin->qB
open Go.IntKind renaming i64->qa,u64->qj
open Go.Op renaming call->qT
open Go.Stx.eh renaming cells->qi
open Go.Value renaming int->qb,pointer->qm,tuple->qA
open Option renaming none->qh,some->qc
namespace Go.Stx
open Go Go.Proofs
attribute [local irreducible] TW bI cM aV aB aL cU dh rz
section
open T7
variable [Gl]
theorem xV (b:Nat) (s:jO) (A:AW) (F:HP) (h:bB A (ji b s*F)) :
 aB qV 229 [qm (qc ⟨b,0,qh⟩)] A (λv A'=>v=.bool s.done/\A=A'):=by
 refine aK Tryz.func229 λhw=>?_;obtain⟨vo,vw,hS⟩:=ji.open h;obtain⟨oo,co,rfl,_⟩:=(au.is hS.right).bR;obtain⟨ow,cw,rfl,_⟩:=(au.is hS.right.right).bR;have hg:=hS.bk;refine W cx (J2 hg @AW.ab) ?_<;>intros;simp [jO.done]
def kr (s:jO) (M:Nat->List Int):bh×jO×(Nat->List Int):=
 if s.done=qg then (bh.zero,s,M)
 else (eR M 2 1 (s.os.getD 0 0) (ej (s.ws.getD 0 0)),⟨s.os.tail,s.ws.tail⟩,kL M 1 (s.os.getD 0 0) (ej (s.ws.getD 0 0)))
theorem MA (b pb:Nat) (s:jO) (M:Nat->List Int) (bW:s.os.length=s.ws.length) :
 oR qV 228 [qm (qc ⟨b,0,qh⟩),qm (qc ⟨pb,0,qh⟩)] (ji b s*fg pb M)
  (λv=>BH (v=(kr s M).1.v)*(ji b (kr s M).2.1*fg pb (kr s M).2.2)):=by
 intro A F hw dU;refine aK Tryz.func228 λ_=>?_;rw [HP.de] at dU;have js:=(dU.alloc hw (qi bn qg 1));have lO:bB (A.alloc (qi bn qg 1)) (ji b s*(fg pb M*(pt A.next (qi bn qg 1)*F))):=js.dD Yd;by_cases mL:s.done=qg;have hd:=xV b s _ _ lO;rw [mL] at hd;revert hw;refine Wu (J2 (⟨⟩:Ts (λ_=>True) [0,0,0,0,0,0,0,0,0,0,0,0,0,3,0,0,0,2,3,0] (.aM 0 (.aM 1 (.aM 2 (.aM 3 (.aM 4 (.aM 5 (.aM 6 (.aM 7 (.aM 8 (.aM 9 (.aM 10 (.aM 11 (.aM 12 (.uW 13 (.aM 14 (.aM 15 (.aM 16 (.aM 17 (.aM 18 (.aM 19 .nil)))))) 17 (.aM 13 (.aM 14 (.aM 15 (.aM 16 (.aM 18 (.aM 19 .nil))))))))))))))))))))) @hd) (J2 bC @bn.eq_1) ?_<;>(unhygienic intros);have dw:kr s M=(bh.zero,s,M):=by unfold kr;rw [ay mL]
 rw [dw];refine⟨_,by simp [AW.ab];rfl,bB.post Xc ?_⟩;rw [HP.de];exact dU.le hw ((qW A _).set (Nat.le_refl _) _);have hd:=xV b s _ _ lO;rw [show s.done=qk by simpa using mL] at hd;obtain⟨os,ws⟩:=s;cases os with
 | nil=>simp [jO.done] at mL
 | cons o os=>
 cases ws with
 | nil=>simp at bW
 | cons x ws=>
 have dw:kr ⟨o::os,x::ws⟩ M=(eR M 2 1 o (ej x),⟨os,ws⟩,kL M 1 o (ej x)):=by
  unfold kr;rw [aw mL];rfl
 obtain⟨vo,vw,Av⟩:=ji.open dU;have hg:=Av.bk;have hSo:bB A (au qa vo (o::os)*(pt b (qi [vo,vw] qg 1)*(au qj vw (x::ws)*(fg pb M*F)))):=Av.dD Yd;have hSw:bB A (au qj vw (x::ws)*(pt b (qi [vo,vw] qg 1)*(au qa vo (o::os)*(fg pb M*F)))):=Av.dD Yd;obtain⟨bo,off,c,bS,rfl,_,yu,sq,_,_⟩:=au.at hSo (j:=0) Yb;obtain⟨bw,offw,cw,roww,rfl,_,hgw,Wq,_,_⟩:=au.at hSw (j:=0) Yb;obtain⟨nb,nb'⟩:=hw.ey hg;obtain⟨no,no'⟩:=hw.ey yu;obtain⟨nw,nw'⟩:=hw.ey hgw;simp at yu sq hgw Wq;revert hw;refine Wu (J2 @hd (⟨⟩:Ts (λ_=>True) [0,0,0,0,0,0,0,0,0,0,0,0,0,3,0,0,0,2,3,3] (.aM 0 (.aM 1 (.aM 2 (.aM 3 (.aM 4 (.aM 5 (.aM 6 (.aM 7 (.aM 8 (.aM 9 (.aM 10 (.aM 11 (.aM 12 (.uW 13 (.aM 14 (.aM 15 (.aM 16 (.aM 17 (.aM 18 (.aM 19 .nil)))))) 17 (.aM 13 (.aM 14 (.aM 15 (.aM 16 (.aM 18 (.aM 19 .nil)))))))))))))))))))))) (mW hg yu sq hgw Wq nb nb' no no' nw nw' bC @bn.eq_1) (J2 ?_ ?_)<;>(unhygienic intros)
 . have Ab:bB _ (fg pb M*(ji b ⟨o::os,x::ws⟩*(pt A.next (qi bn qg 1)*F))):=lO.dD Yd;refine(vG pb M 1 o x).use (hw.alloc _) Ab rfl ?_;intro v A2 w6 jE yt;obtain⟨rfl,BK⟩:=w6.rB;clear w6;generalize eR M 2 1 o (ej x)=a at dw BK ⊢;generalize kL M 1 o (ej x)=M' at dw BK;generalize rS M 2 o=er at BK ⊢;have RT:bB A2 (ji b ⟨o::os,x::ws⟩*(pt A.next (qi bn qg 1)*(fg pb M'*F))):=BK.dD Yd;obtain⟨D1,Ag,Wz⟩:=ji.open RT;obtain⟨Hz,Gj,Ho,U8,rfl,uK,P5,Wd,Fj⟩:=au.tl (Wz.dD Yd:bB A2 (au qa D1 (o::os)*(pt b (qi [D1,Ag] qg 1)*(au qj Ag (x::ws)*(pt A.next (qi bn qg 1)*(fg pb M'*F))))));obtain⟨LO,Pq,Qz,F1,rfl,w5,P4,Wc,EZ⟩:=au.tl (Fj.dD Yd:bB A2 (au qj Ag (x::ws)*(pt b (qi [.slice (qc ⟨Hz,Gj,qh⟩) (os.length+1) Ho,Ag] qg 1)*(au qa (.slice (qc ⟨Hz,Gj+1,qh⟩) os.length (Ho-1)) os*(pt A.next (qi bn qg 1)*(fg pb M'*F))))));have pg:=(EZ.dD Yd:bB A2 (pt b (qi [.slice (qc ⟨Hz,Gj,qh⟩) (os.length+1) Ho,.slice (qc ⟨LO,Pq,qh⟩) (ws.length+1) Qz] qg 1)*(pt A.next (qi bn qg 1)*(au qa (.slice (qc ⟨Hz,Gj+1,qh⟩) os.length (Ho-1)) os*(au qj (.slice (qc ⟨LO,Pq+1,qh⟩) ws.length (Qz-1)) ws*(fg pb M'*F))))))
   have At:=pg.bk;have C8:=pg.right.bk;have n1:=pg.ne;obtain⟨pE,Bc⟩:=jE.ey At;obtain⟨Px,A8⟩:=jE.ey uK;obtain⟨Pw,AZ⟩:=jE.ey w5;obtain⟨Gx,Bd⟩:=jE.ey C8;have e1:(1:Int)<=(os.length:Int)+1:=Ya;have e2:(1:Int)<=(ws.length:Int)+1:=Ya;have n2:=P5 _ _ _ rfl;have n3:=P4 _ _ _ rfl;have Lf:A2.next≠b:=λe=>by rw [<-e] at pE;simp at pE
   have Nr:A2.next≠A.next:=λe=>by rw [<-e] at Gx;simp at Gx
   repeat' (first|(refine iT λR hR=>?_;simp [AW.ab,aG,bn,At,C8,uK,w5,Ne.symm n1,n3,pE,Px,Pw,Gx,e1,e2,Lf,fC];try simp (disch:=omega) only [ay,aw,af,an])|(refine hR _ _ ?_;clear hR R)|(refine hK _ _ ?_;clear hK K)|refine nx ?_|(refine Sp λR hR=>?_;simp [aG,bh.v];try simp (disch:=omega) only [ay,aw,af,an])|refine So ?_|refine wn λK hK=>?_|simp only [wS]|(refine ⟨λA' CB=>by rw [CB]<;>rfl,?_⟩)|(refine wlS (λA'=>A'.bk LO=qc (qi F1 qg 1)) Tryz.mx [(0,0),(1,0),(2,0),(3,0),(4,0),(5,0),(6,0),(7,0),(8,0),(9,0),(10,0),(11,1),(12,0),(13,0),(14,3),(15,0),(16,0),(17,3)] Yc λK hK=>?_)|(show cM _ _ _ _ _ _;refine nx ?_))
   refine⟨_,by simp [AW.ab];rfl,bB.post YT ?_⟩;rw [dw,HP.de];refine ji.dJ (vo:=.slice (qc ⟨Hz,Gj+1,qh⟩) os.length (Ho-1)) (vw:=.slice (qc ⟨LO,Pq+1,qh⟩) ws.length (Qz-1)) (bB.WN pg Y1 (λj x h1 h2 hx=>?_));have hj:=(jE.ey hx).1;simp [AW.du,h1,h2,hx,hj]
 have Ab:bB _ (fg pb M*(ji b ⟨o::os,x::ws⟩*(pt (A.next+1) (qi bn qg 1)*(pt A.next (qi bn qg 1)*F)))):=((lO.alloc (hw.alloc _) (qi bn qg 1)).dD YK);refine(vG pb M 1 o x).use ((hw.alloc _).alloc _) Ab rfl ?_;intro v A2 w6 jE yt;obtain⟨rfl,BK⟩:=w6.rB;clear w6;generalize eR M 2 1 o (ej x)=a at dw BK ⊢;generalize kL M 1 o (ej x)=M' at dw BK;generalize rS M 2 o=er at BK ⊢;have RT:bB A2 (ji b ⟨o::os,x::ws⟩*(pt (A.next+1) (qi bn qg 1)*(pt A.next (qi bn qg 1)*(fg pb M'*F)))):=BK.dD Yd;obtain⟨D1,Ag,Wz⟩:=ji.open RT;obtain⟨Hz,Gj,Ho,U8,rfl,uK,P5,Wd,Fj⟩:=au.tl (Wz.dD Yd:bB A2 (au qa D1 (o::os)*(pt b (qi [D1,Ag] qg 1)*(pt (A.next+1) (qi bn qg 1)*(au qj Ag (x::ws)*(pt A.next (qi bn qg 1)*(fg pb M'*F)))))));obtain⟨LO,Pq,Qz,F1,rfl,w5,P4,Wc,EZ⟩:=au.tl (Fj.dD Yd:bB A2 (au qj Ag (x::ws)*(pt b (qi [.slice (qc ⟨Hz,Gj,qh⟩) (os.length+1) Ho,Ag] qg 1)*(pt (A.next+1) (qi bn qg 1)*(au qa (.slice (qc ⟨Hz,Gj+1,qh⟩) os.length (Ho-1)) os*(pt A.next (qi bn qg 1)*(fg pb M'*F)))))))
 have pg:=(EZ.dD Yd:bB A2 (pt b (qi [.slice (qc ⟨Hz,Gj,qh⟩) (os.length+1) Ho,.slice (qc ⟨LO,Pq,qh⟩) (ws.length+1) Qz] qg 1)*(pt (A.next+1) (qi bn qg 1)*(pt A.next (qi bn qg 1)*(au qa (.slice (qc ⟨Hz,Gj+1,qh⟩) os.length (Ho-1)) os*(au qj (.slice (qc ⟨LO,Pq+1,qh⟩) ws.length (Qz-1)) ws*(fg pb M'*F)))))));have At:=pg.bk;have DC:=pg.right.bk;have C8:=pg.right.right.bk;have n1:=pg.ne2;have n4:=pg.ne;have n5:=pg.right.ne;obtain⟨VF,PE⟩:=jE.ey DC;obtain⟨pE,Bc⟩:=jE.ey At;obtain⟨Px,A8⟩:=jE.ey uK;obtain⟨Pw,AZ⟩:=jE.ey w5;obtain⟨Gx,Bd⟩:=jE.ey C8;have e1:(1:Int)<=(os.length:Int)+1:=Ya
 have e2:(1:Int)<=(ws.length:Int)+1:=Ya
 have n2:=P5 _ _ _ rfl;have n3:=P4 _ _ _ rfl;have n6:=Wd _ _ _ _ _ rfl;have n7:=Wc _ _ _ _ _ rfl;have Lf:A2.next≠b:=λe=>by rw [<-e] at pE;simp at pE
 have Nr:A2.next≠A.next:=λe=>by rw [<-e] at Gx;simp at Gx
 repeat' (first|(refine iT λR hR=>?_;simp [AW.ab,aG,bn,At,C8,n6,n7,n4,Ne.symm n4,uK,w5,Ne.symm n1,n3,e1,e2,fC];try simp (disch:=omega) only [ay,aw,af,an])|(refine hR _ _ ?_;clear hR R)|(refine hK _ _ ?_;clear hK K)|refine nx ?_|(refine Sp λR hR=>?_;simp [aG,bn,DC,bh.v];try simp (disch:=omega) only [ay,aw,af,an])|refine So ?_|refine wn λK hK=>?_|simp only [wS]|(refine ⟨λA' CB=>by rw [CB]<;>rfl,?_⟩)|(refine wlS (λA'=>A'.bk LO=qc (qi F1 qg 1)) Tryz.mx [(0,0),(1,0),(2,0),(3,0),(4,0),(5,0),(6,0),(7,0),(8,0),(9,0),(10,0),(11,1),(12,0),(13,0),(14,3),(15,0),(16,0),(17,3)] Yc λK hK=>?_)|(show cM _ _ _ _ _ _;refine nx ?_))
 refine⟨_,by simp [AW.ab];rfl,bB.post YT ?_⟩;rw [dw,HP.de];refine ji.dJ (vo:=.slice (qc ⟨Hz,Gj+1,qh⟩) os.length (Ho-1)) (vw:=.slice (qc ⟨LO,Pq+1,qh⟩) ws.length (Qz-1)) (bB.Ob pg Y1 (λj x h1 h2 h3 hx=>?_));simp [AW.du,h1,h2,h3,hx]
end
section
variable [Gl]
def Bf (c:aY) (b:Int):Int×Int:=
 if b<0 then (-1,-1)
 else if b<c.c0 then (0,c.base+b)
 else if b-c.c0<c.c1 then (1,c.base+c.c0+(b-c.c0)*2)
 else if b-c.c0-c.c1<c.c2 then (2,c.base+c.c0+c.c1*2+(b-c.c0-c.c1)*4)
 else if b-c.c0-c.c1-c.c2<c.c3 then (3,c.base+c.c0+c.c1*2+c.c2*4+(b-c.c0-c.c1-c.c2)*8)
 else (-1,-1)
def dN (c:aY) (b:Int):Int:=(Bf c b).1
def jg (c:aY) (b:Int):Int:=(Bf c b).2
def lY (c:aY) (a:Int):Int:=match (List.range c.nb.toNat).find? (λb:Nat=>jg c (b:Int) == a) with
 | some b=>b
 | none=>-1
def gV (c:aY) (a:Int):Int:=if 0<=a/\a<c.bg+c.nb then a.tmod c.av else -1
inductive E4 where
 | uY
 | QF
 | bX (aD:Int)
 | take (v:Int)
 | mI (a v:Int)
 | Bl
 | dy (b v:Int)
inductive Ac where
 | take
 | dy (b:Int)
inductive bJ where
 | bL
 | je (k:E4)
 | dA
 | bj (r:jj) (u:Ac)
 | eP (p:rM)
 | eg
 | cY
 | cG (c:iU)
 | bM
 | dt (w:jO)
 | bE (w:jO)
 | eA
 | eb
 | eC (p:gs)
 | gq
def bJ.gB:bJ->Int
 | .bL=>0 | .je _=>1 | .dA=>2 | .bj _ _=>3 | .eP _=>4 | .eg=>5 | .cY=>6 | .cG _=>7
 | .bM=>8 | .dt _=>9 | .bE _=>10 | .eA=>11 | .eb=>12 | .eC _=>13 | .gq=>14
structure aI where
 cf:aY
 am:Int
 aF:Int
 aD:Int
 value:Int
 bT:Option gT
 ao:Bool
 reads:List Int
 ar:List Int
 aA:List Int
 set:List Int
 bG:uU
 aC:Int
 av:List Int
 aP:Option iI
 aN:Option jh
 ax:Nat
 aH:bJ
def aI.kJ (s:aI):Bool:=!decide (s.aH.gB=0)
def aI.rv (s:aI):Int:=match s.bT with|some e=>e.xH|none=>-1
def aI.iO (s:aI):Bool:=decide (s.aD=1) && decide (0<s.bG.bZ.length)
def aI.oX (s:aI):Int:=if s.ao=qg/\s.iO=qg then qY.wrap (qY.wrap s.aC+1) else -1
def aI.gB (s:aI):Int:=match s.aN with|some t=>t.gB|none=>-1
def aI.ey (s:aI):List Int:=match s.aP with|some l=>l.ey|none=>[]
def fH (s:aI):aI:=
 if s.aD=1\/s.ax=s.ar.length then { s with aH:=.gq }
 else { s with aH:=.eC ⟨dN s.cf (s.ar.getD s.ax 0),s.ar.getD s.ax 0,0,0⟩ }
def kE (s:aI) (aD:Int):aI:=fH { s with aD:=aD }
def nE (s:aI) (aD:Int):aI:=
 if decide (aD=1) && decide (0<s.bG.bZ.length) then
  let os:=ft (s.bG.bZ.map (gV s.cf))
  { s with aD:=aD,av:=os,aP:=qc ⟨s.am,ft os,[],0,qk⟩,aH:=.eg }
 else { s with aD:=aD,aN:=qc ⟨qk,0,qk⟩,aH:=.cY }
def fO (s:aI):aI:=
 if s.av.length=0 then { s with aH:=.eb } else { s with aH:=.bE ⟨s.av,s.ey⟩ }
def jS (s:aI) (a v:Int):Bool×aI:=
 if (gu s.bG a v).1=qg then (qg,{ s with bG:=(gu s.bG a v).2 }) else (qk,kE s 3)
def jF (s:aI) (b st:Int):aI:=
 if st≠q8.wrap (q8.wrap (dN s.cf b)+1) then nE s 8
 else if s.cf.aA<=s.aA.length then kE s 3
 else if (jS s (s.cf.bg+b) 0).1=qg then { (jS s (s.cf.bg+b) 0).2 with aA:=s.aA++[b] } else (jS s (s.cf.bg+b) 0).2
def gt:Nat->Int->aI->Bool×aI
 | 0,_,s=>(qg,s)
 | n+1,a,s=>if (jS s a 0).1=qg then gt n (a+1) (jS s a 0).2 else (qk,(jS s a 0).2)
def fq (s:aI) (eZ jz:Int):aI:=
 if jz<0 then kE s 4
 else
  let s1:={ s with ar:=s.ar++[jz] }
  let r:=jS s1 (s.cf.bg+jz) (eZ+1)
  if r.1=qg then
   let q:=gt (2 ^ eZ.toNat) (jg s.cf jz) r.2
   if q.1=qg then { q.2 with value:=q8.wrap (jg s.cf jz) } else q.2
  else r.2
def sh (s:aI):E4->aI
 | .uY=>nE s 7
 | .QF=>nE s 8
 | .bX aD=>nE s aD
 | .take v=>{ s with value:=v }
 | .mI a v=>if s.cf.bg<=a then nE s 7 else (jS s a v).2
 | .Bl=>kE s 3
 | .dy b v=>jF s b v
def AL (s:aI) (v:Int):Ac->aI
 | .take=>{ s with value:=v }
 | .dy b=>jF s b v
abbrev ru:=bh×Int×aI×Mm
def gK (s:aI) (M:Mm) (e:gT):ru:=
 let r:=gw e M
 let s1:={ s with bT:=qc r.2.1 }
 if r.2.1.cr=3 then (r.1,4,{ s1 with aH:=.bL },r.2.2)
 else (r.1,if e.xH≠r.2.1.xH then 3 else 2,s1,r.2.2)
def dq (s:aI) (M:Mm) (c:jj) (u:Ac):ru:=
 let r:=dW c M
 let s1:={ s with aH:=.bj r.2.1 u }
 if r.2.1.done=qk then (r.1,5+c.cr,s1,r.2.2)
 else if r.2.1.iS=qg then (r.1,5+c.cr,kE s1 9,r.2.2)
 else
  let s2:=if c.d8<s.cf.bg/\¬c.d8∈s.reads then { s1 with reads:=s.reads++[c.d8] } else s1
  if (eO s.cf.reads.toNat s.set c.iK).1=qg then (r.1,5+c.cr,AL { s2 with set:=(eO s.cf.reads.toNat s.set c.iK).2,aH:=.bL } r.2.1.val u,r.2.2)
  else (r.1,5+c.cr,kE s2 3,r.2.2)
def lD (s:aI) (M:Mm) (p:rM):ru:=
 let r:=gH p M
 (r.1,kg r.1,if r.2.1.cr=3 then fq { s with aH:=.bL } p.eZ r.2.1.block else { s with aH:=.eP r.2.1 },r.2.2)
def iy (s:aI) (M:Mm) (l:iI):ru:=
 let r:=dI l M
 let s1:={ s with aP:=qc r.2.1 }
 (r.1,if r.1.fx=3 then 12 else 11,if r.2.1.done=qg then { s1 with aN:=qc ⟨qk,0,qk⟩,aH:=.cY } else s1,r.2.2)
def ij (s:aI) (M:Mm) (t:jh):ru:=
 let r:=fX t M
 let s1:={ s with aN:=qc r.2.1 }
 (r.1,if r.1.fx=4 then 13 else 14,if r.2.1.done=qg then { s1 with aH:=if s.set.length=0 then .bM else .cG ⟨s.set,s.rv,qk⟩ } else s1,r.2.2)
def gr (s:aI) (M:Mm) (c:iU):ru:=
 let r:=eD c M
 let s1:={ s with aH:=.cG r.2.1 }
 (r.1,15,if r.2.1.kB=qg then fO { s1 with aD:=9 } else if r.2.1.done=qg then { s1 with aH:=.bM } else s1,r.2.2)
def fm (s:aI) (M:Mm):ru:=
 let a:=iL M 3 0
 let s1:={ s with aC:=a.eY }
 (a,16,if s.iO=qg/\q8.wrap s.cf.aC<=a.eY then fO { s1 with aD:=6 }
  else if s.iO=qg then { s1 with ao:=qg,aH:=.dt ⟨s.bG.bZ,s.bG.fU⟩ } else fO { s1 with ao:=qg },M)
def go (s:aI) (M:Mm) (w:jO):ru:=
 let r:=kr w M
 (r.1,17,if r.2.1.done=qg then { s with aH:=.bE ⟨s.av,qX s.av.length (lH s.oX)⟩ } else { s with aH:=.dt r.2.1 },r.2.2)
def nK (s:aI) (M:Mm) (w:jO):ru:=
 let r:=fF w M
 (r.1,18,{ s with aH:=if r.2.1.done=qg then (if 0<=s.oX then .eA else .eb) else .bE r.2.1 },r.2.2)
def iD (s:aI) (M:Mm) (p:gs):ru:=
 let r:=dR p M
 (r.1,gn r.1,if r.2.1.cr=3 then fH { s with ax:=s.ax+1,aH:=.eC r.2.1 } else { s with aH:=.eC r.2.1 },r.2.2)
def ba (s:aI) (M:Mm):ru:=match s.aH with
 | .bL=>(bh.zero,0,s,M)
 | .je k=>(bh.zero,0,sh { s with aH:=.bL } k,M)
 | .dA=>match s.bT with
   | some e=>gK s M e
   | none=>(bh.zero,0,s,M)
 | .bj c u=>dq s M c u
 | .eP p=>lD s M p
 | .eg=>match s.aP with
   | some l=>iy s M l
   | none=>(bh.zero,0,s,M)
 | .cY=>match s.aN with
   | some t=>ij s M t
   | none=>(bh.zero,0,s,M)
 | .cG c=>gr s M c
 | .bM=>fm s M
 | .dt w=>go s M w
 | .bE w=>nK s M w
 | .eA=>(EM M 3 0 (q8.wrap (s.aC+1)),19,{ s with aH:=.eb },u7 M 3 0 (q8.wrap (s.aC+1)))
 | .eb=>(EM M 5 0 (rR s.gB),20,fH s,u7 M 5 0 (rR s.gB))
 | .eC p=>iD s M p
 | .gq=>(EM M 6 s.am 0,24,{ s with aH:=.bL,aF:=2 },u7 M 6 s.am 0)
def aI.ga (s:aI) (aF:Int):Bool:=decide (s.aH.gB=0) && decide (s.aF=aF)
def gv (s:aI):Int×aI:=
 if s.ga 0=qg then (0,{ s with aF:=1,bT:=qc ⟨s.am,0,0⟩,aH:=.dA }) else (1,s)
def wi (s:aI) (a:Int) (u:Ac):aI:={ s with aH:=.bj ⟨a,gV s.cf a,s.rv,0,0,0,qk⟩ u }
def Jz (s:aI) (a:Int):Int×aI:=
 if s.ga 1=qg then
  if s.cf.bg<=a then (0,{ s with aH:=.je .uY })
  else if (mn s.bG a).2=qg then (0,{ s with aH:=.je (.take (mn s.bG a).1) })
  else (0,wi s a .take)
 else (1,s)
def H9 (s:aI) (a v:Int):Int×aI:=if s.ga 1=qg then (0,{ s with aH:=.je (.mI a v) }) else (1,s)
def OC (s:aI) (eZ:Int):Int×aI:=
 if s.ga 1=qg then
  if eZ<0\/4<=eZ then (2,s)
  else if s.cf.ar<=s.ar.length then (0,{ s with aH:=.je .Bl })
  else (0,{ s with aH:=.eP ⟨eZ,0,0,0,-1⟩ })
 else (1,s)
def N8 (s:aI) (a:Int):Int×aI:=
 if s.ga 1=qg then
  if lY s.cf a<0 then (0,{ s with aH:=.je .QF })
  else if (mn s.bG (s.cf.bg+lY s.cf a)).2=qg then (0,{ s with aH:=.je (.dy (lY s.cf a) (mn s.bG (s.cf.bg+lY s.cf a)).1) })
  else (0,wi s (s.cf.bg+lY s.cf a) (.dy (lY s.cf a)))
 else (1,s)
def E2 (s:aI) (aD:Int):Int×aI:=
 if s.ga 1=qg then
  if aD≠1/\aD≠2 then (2,s) else (0,{ s with aH:=.je (.bX aD) })
 else (1,s)
def jD (w:Int):uU:=
 let n:=if w<=0 then 1 else if w<=1 then 2 else if w<=2 then 4 else if w<=4 then 8 else if w<=8 then 16 else if w<=16 then 32 else 64
 ⟨w.toNat,[],[],qX n (-1)⟩
def fh (c:aY) (t:Int):aI:=⟨c,t,0,0,0,qh,qk,[],[],[],[],jD c.bU,0,[],qh,qh,0,.bL⟩
end
section
open Go.Proofs Go
variable [Gl]
theorem DO {P:Program} {r:qy->qd} {A:AW} {k':qd->AW->Prop} {x y:qy} {t:TypeId} {s u v':qd} {A':AW}
 (e1:r x=s) (e2:r y=u) (h:fI P A t t s u=qc (v',A')) (hk:k' v' A'):jL P (qT ⟨qB qK,#[x,y],#[t,t]⟩) r A k':=by
 have h1:aq P A r (qT ⟨qB qK,#[x,y],#[t,t]⟩)=qh:=by simp [aq]
 have h2:ae P A r (qT ⟨qB qK,#[x,y],#[t,t]⟩)=qc (v',A'):=by
  show (if t=t then fI P A t t (r x) (r y) else _)=_;rw [ay rfl,e1,e2,h]
 unfold jL;rw [h1,h2];exact hk
section
variable {P:Program} {S:AW->Prop} {K:Fr->AW->Prop} {fE:List BB} {a:Fr} {A:AW} {d:Option Tmp} {m:Nat} {x y:qy} {t e:TypeId} {i:TypeInfo} {z:qd} {k:IntKind} {l:List Int} {n:Nat} {yv:Int} {v:qd} {L K':List It}
theorem HD {k':qd->AW->Prop} (hu:P.underlying t=qc (.slice e)) (hi:P.info? e=qc i) (hz:i.zero=qc z) (iA:i.size=1) (pq:z.cells.size=1) (zZ:i.bytes<=8)
 (e1:jt a x=v) (e2:jt a y=.slice (qc ⟨n,0,qh⟩) 1 1) (hw:A.Wf) (hS:aj A L) (hp:aE L (.h (au k v l)) K') (hn:A.bk n=qc (qi [qb k yv] qg 1)) (bW:l.length<2 ^ 40)
 (hk:∀o c A',aj A' (.h (au k (.slice o (l.length+1) c) (l++[yv]))::K')->A'.Wf->A.next<=A'.next->k' (.slice o (l.length+1) c) A') :
 jL P (qT ⟨qB qK,#[x,y],#[t,t]⟩) (jt a) A k':=by
 have h1:bB A (au k v l*aO K'):=by
  unfold aj at hS;rw [hp.aO] at hS;exact hS
 obtain⟨v',A',e3,h2,h3,h4⟩:=au.LU (P:=P) (t:=t) yv n hu hi hz iA pq hn h1 bW zZ hw;obtain⟨o,c,h5,_⟩:=(au.is h2).bR;have h6:v'=.slice o (l.length+1) c:=by simpa using h5
 subst h6;exact DO e1 e2 e3 (hk o c A' h2 h3 h4)
theorem lwApp (hu:P.underlying t=qc (.slice e)) (hi:P.info? e=qc i) (hz:i.zero=qc z) (iA:i.size=1) (pq:z.cells.size=1) (zZ:i.bytes<=8)
 (e1:jt a x=v) (e2:jt a y=.slice (qc ⟨n,0,qh⟩) 1 1) (hw:A.Wf) (hS:aj A L) (hp:aE L (.h (au k v l)) K') (hn:A.bk n=qc (qi [qb k yv] qg 1)) (bW:l.length<2 ^ 40)
 (hs:∀A',aj A' K'->S A')
 (hk:∀o c A',aj A' (.h (au k (.slice o (l.length+1) c) (l++[yv]))::K')->A'.Wf->A.next<=A'.next->aV P S K fE (fk a d (.slice o (l.length+1) c)) A') :
 aV P S K (⟨d,qT ⟨qB qK,#[x,y],#[t,t]⟩,qh,3⟩::fE) a A:=by
 unfold aV;rw [ay Yb];exact HD hu hi hz iA pq zZ e1 e2 hw hS hp hn bW λo c A' h1 h2 h3=>⟨hs A' h1.tail,hk o c A' h1 h2 h3⟩
theorem twApp {r:AI} (hu:P.underlying t=qc (.slice e)) (hi:P.info? e=qc i) (hz:i.zero=qc z) (iA:i.size=1) (pq:z.cells.size=1) (zZ:i.bytes<=8)
 (e1:jt a x=v) (e2:jt a y=.slice (qc ⟨n,0,qh⟩) 1 1) (hw:A.Wf) (hS:aj A L) (hp:aE L (.h (au k v l)) K') (hn:A.bk n=qc (qi [qb k yv] qg 1)) (bW:l.length<2 ^ 40)
 (hs:∀A',aj A' K'->S A')
 (hk:∀o c A',aj A' (.h (au k (.slice o (l.length+1) c) (l++[yv]))::K')->A'.Wf->A.next<=A'.next->TW P S K r (fk a d (.slice o (l.length+1) c)) A') :
 TW P S K (.aM ⟨d,qT ⟨qB qK,#[x,y],#[t,t]⟩,qh,3⟩ r) a A:=by
 unfold TW rz;rw [ay Yb];exact HD hu hi hz iA pq zZ e1 e2 hw hS hp hn bW λo c A' h1 h2 h3=>⟨hs A' h1.tail,hk o c A' h1 h2 h3⟩
theorem lhApp {R:Fr->AW->Prop} (hu:P.underlying t=qc (.slice e)) (hi:P.info? e=qc i) (hz:i.zero=qc z) (iA:i.size=1) (pq:z.cells.size=1) (zZ:i.bytes<=8)
 (e1:jt a x=v) (e2:jt a y=.slice (qc ⟨n,0,qh⟩) 1 1) (hw:A.Wf) (hS:aj A L) (hp:aE L (.h (au k v l)) K') (hn:A.bk n=qc (qi [qb k yv] qg 1)) (bW:l.length<2 ^ 40)
 (hs:∀A',aj A' K'->S A')
 (hk:∀o c A',aj A' (.h (au k (.slice o (l.length+1) c) (l++[yv]))::K')->A'.Wf->A.next<=A'.next->R (fk a d (.slice o (l.length+1) c)) A') :
 rz P S ⟨d,qT ⟨qB qK,#[x,y],#[t,t]⟩,qh,3⟩ a A R:=by
 unfold rz;rw [ay Yb];exact HD hu hi hz iA pq zZ e1 e2 hw hS hp hn bW λo c A' h1 h2 h3=>⟨hs A' h1.tail,hk o c A' h1 h2 h3⟩
end
section
variable {S:AW->Prop} {K:Fr->AW->Prop} {fE:List BB} {r:AI} {a:Fr} {A:AW} {d:Option Tmp} {x y:qy} {l:List Int} {n:Nat} {yv:Int} {v:qd} {L K':List It}
theorem lwI (e1:jt a x=v) (e2:jt a y=.slice (qc ⟨n,0,qh⟩) 1 1) (hw:A.Wf) (hS:aj A L) (hp:aE L (.h (au qa v l)) K') (hn:A.bk n=qc (qi [qb qa yv] qg 1)) (bW:l.length<2 ^ 40)
 (hs:∀A',aj A' K'->S A')
 (hk:∀o c A',aj A' (.h (au qa (.slice o (l.length+1) c) (l++[yv]))::K')->A'.Wf->A.next<=A'.next->aV qV S K fE (fk a d (.slice o (l.length+1) c)) A') :
 aV qV S K (⟨d,qT ⟨qB qK,#[x,y],#[24,24]⟩,qh,3⟩::fE) a A:=
 lwApp (P:=qV) kaE Tryz.info3 Tryz.zero3 rfl rfl Yb e1 e2 hw hS hp hn bW hs hk
theorem lwU (e1:jt a x=v) (e2:jt a y=.slice (qc ⟨n,0,qh⟩) 1 1) (hw:A.Wf) (hS:aj A L) (hp:aE L (.h (au qj v l)) K') (hn:A.bk n=qc (qi [qb qj yv] qg 1)) (bW:l.length<2 ^ 40)
 (hs:∀A',aj A' K'->S A')
 (hk:∀o c A',aj A' (.h (au qj (.slice o (l.length+1) c) (l++[yv]))::K')->A'.Wf->A.next<=A'.next->aV qV S K fE (fk a d (.slice o (l.length+1) c)) A') :
 aV qV S K (⟨d,qT ⟨qB qK,#[x,y],#[28,28]⟩,qh,3⟩::fE) a A:=
 lwApp (P:=qV) kaj kap kaq rfl rfl Yb e1 e2 hw hS hp hn bW hs hk
theorem twI (e1:jt a x=v) (e2:jt a y=.slice (qc ⟨n,0,qh⟩) 1 1) (hw:A.Wf) (hS:aj A L) (hp:aE L (.h (au qa v l)) K') (hn:A.bk n=qc (qi [qb qa yv] qg 1)) (bW:l.length<2 ^ 40)
 (hs:∀A',aj A' K'->S A')
 (hk:∀o c A',aj A' (.h (au qa (.slice o (l.length+1) c) (l++[yv]))::K')->A'.Wf->A.next<=A'.next->TW qV S K r (fk a d (.slice o (l.length+1) c)) A') :
 TW qV S K (.aM ⟨d,qT ⟨qB qK,#[x,y],#[24,24]⟩,qh,3⟩ r) a A:=
 twApp (P:=qV) kaE Tryz.info3 Tryz.zero3 rfl rfl Yb e1 e2 hw hS hp hn bW hs hk
theorem twU (e1:jt a x=v) (e2:jt a y=.slice (qc ⟨n,0,qh⟩) 1 1) (hw:A.Wf) (hS:aj A L) (hp:aE L (.h (au qj v l)) K') (hn:A.bk n=qc (qi [qb qj yv] qg 1)) (bW:l.length<2 ^ 40)
 (hs:∀A',aj A' K'->S A')
 (hk:∀o c A',aj A' (.h (au qj (.slice o (l.length+1) c) (l++[yv]))::K')->A'.Wf->A.next<=A'.next->TW qV S K r (fk a d (.slice o (l.length+1) c)) A') :
 TW qV S K (.aM ⟨d,qT ⟨qB qK,#[x,y],#[28,28]⟩,qh,3⟩ r) a A:=
 twApp (P:=qV) kaj kap kaq rfl rfl Yb e1 e2 hw hS hp hn bW hs hk
theorem lhI {R:Fr->AW->Prop} (e1:jt a x=v) (e2:jt a y=.slice (qc ⟨n,0,qh⟩) 1 1) (hw:A.Wf) (hS:aj A L) (hp:aE L (.h (au qa v l)) K') (hn:A.bk n=qc (qi [qb qa yv] qg 1)) (bW:l.length<2 ^ 40)
 (hs:∀A',aj A' K'->S A')
 (hk:∀o c A',aj A' (.h (au qa (.slice o (l.length+1) c) (l++[yv]))::K')->A'.Wf->A.next<=A'.next->R (fk a d (.slice o (l.length+1) c)) A') :
 rz qV S ⟨d,qT ⟨qB qK,#[x,y],#[24,24]⟩,qh,3⟩ a A R:=
 lhApp (P:=qV) kaE Tryz.info3 Tryz.zero3 rfl rfl Yb e1 e2 hw hS hp hn bW hs hk
theorem lhU {R:Fr->AW->Prop} (e1:jt a x=v) (e2:jt a y=.slice (qc ⟨n,0,qh⟩) 1 1) (hw:A.Wf) (hS:aj A L) (hp:aE L (.h (au qj v l)) K') (hn:A.bk n=qc (qi [qb qj yv] qg 1)) (bW:l.length<2 ^ 40)
 (hs:∀A',aj A' K'->S A')
 (hk:∀o c A',aj A' (.h (au qj (.slice o (l.length+1) c) (l++[yv]))::K')->A'.Wf->A.next<=A'.next->R (fk a d (.slice o (l.length+1) c)) A') :
 rz qV S ⟨d,qT ⟨qB qK,#[x,y],#[28,28]⟩,qh,3⟩ a A R:=
 lhApp (P:=qV) kaj kap kaq rfl rfl Yb e1 e2 hw hS hp hn bW hs hk
end
theorem AW.Gp {A:AW} {n:Nat} {o:eh} (h:A.next=n):(A.alloc o).next=n+1:=by rw [AW.be,h]
theorem AW.Pv {A:AW} {n i:Nat} {o:Option eh} (h:A.next=n):(A.set i o).next=n:=by rw [AW.lC,h]
theorem aj.QX {A:AW} {L:List It} {o:eh} {n:Nat} (h:aj A L) (hw:A.Wf) (hn:A.next=n):aj (A.alloc o) (.at n o::L):=by
 subst hn;exact h.alloc hw o
theorem aj.vF {A:AW} {L:List It} (k:IntKind) (h:aj A L):aj A (.h (au k (.slice qh 0 0) [])::L):=au.nil h
theorem kT {ι:Type} {g:ι->List It} {A:AW} {L K:List It} (h:aj A L) (hp:aE L (.h (td λx=>aO (g x))) K):∃x,aj A (g x++K):=by
 unfold aj at h;rw [hp.aO] at h;have h1:bB A (td (λx=>aO (g x))*aO K):=h;rw [bB.ex] at h1;obtain⟨x,h1⟩:=h1;refine⟨x,?_⟩;unfold aj;rw [gG];exact h1
theorem jp {ι:Type} {g:ι->List It} {A:AW} {L K:List It} (x:ι) (h:aj A L) (hp:bf L (g x) K):aj A (.h (td λx=>aO (g x))::K):=by
 unfold aj at h ⊢;rw [hp.aO] at h;show bB A (td (λx=>aO (g x))*aO K);rw [bB.ex];exact⟨x,h⟩
end
section
abbrev VC:List (Nat×Nat):=[(0,0),(1,0),(2,0),(3,0),(4,0),(5,0),(6,0),(7,0)]
abbrev oLay_1:List (Nat×Nat):=[(0,0),(1,2),(2,0),(3,0),(4,0),(5,0),(6,0),(7,0),(8,0),(9,0),(10,0),(11,0),(12,2),(13,0),(14,0),(15,0)]
open T7
variable [Gl]
theorem pw1:(2:Int) ^ min 1 qY.bits=2:=Yf
theorem pw2:(2:Int) ^ min 2 qY.bits=4:=Yf
theorem pw3:(2:Int) ^ min 3 qY.bits=8:=Yf
theorem pw0:(2:Int) ^ min 0 qY.bits=1:=Yf
theorem RQ (c:aY) (hc:da c) (A:AW):aB qV 95 [c.v] A (λv A'=>v=qA #[qb qa c.nb,qb qa c.hw,.bool qg]/\A=A'):=by
 refine aB.tF (V:=qA #[qb qa c.nb,qb qa c.hw,.bool qg]) (dB.tuple Yb) (λhw=>?_) Ye;refine aK Tryz.func95 λ_=>?_;obtain⟨k0,Ej⟩:=hc.k0;obtain⟨k1,GF⟩:=hc.k1;obtain⟨k2,JJ⟩:=hc.k2;obtain⟨k3,ND⟩:=hc.k3;have kn:=hc.nb;have e:c.nb=c.c0+c.c1+c.c2+c.c3:=rfl;have e':c.hw=c.c0+c.c1*2+c.c2*4+c.c3*8:=rfl;revert hw;(repeat revert hc);refine W cx (J2 @aY.v.eq_1 bC) ?_<;>(unhygienic intros);refine iH 5 ?_;refine W cx (E5 k0 Ej k1 GF k2 JJ k3 ND @aY.v.eq_1 bC) ?_<;>intros
 all_goals(
  refine⟨_,by (simp;rfl),?_,qW _ _⟩;simp only [Value.tuple.injEq,Array.mk.injEq,List.cons.injEq,Value.int.injEq,Value.bool.injEq,true_and,and_true];rw [pw1,pw2,pw3];simp (disch:=omega) only [af];exact⟨e.symm,e'.symm,by simp;omega⟩)
theorem tu (c:aY) (hc:da c) (A:AW):aB qV 81 [c.v] A (λv A'=>v=qb qa 0/\A=A'):=by
 refine aB.tF (V:=qb qa 0) Yb (λhw=>?_) Ye;refine aK Tryz.func81 λ_=>?_;obtain⟨w0,w1⟩:=hc.bg;obtain⟨r0,r1⟩:=hc.av;obtain⟨k0,Ej⟩:=hc.k0;obtain⟨k1,GF⟩:=hc.k1;obtain⟨k2,JJ⟩:=hc.k2;obtain⟨k3,ND⟩:=hc.k3;obtain⟨b0,b1⟩:=hc.base;obtain⟨x0,x1⟩:=hc.reads;obtain⟨y0,y1⟩:=hc.bU;obtain⟨z0,z1⟩:=hc.ar;obtain⟨u0,u1⟩:=hc.aA;obtain⟨t0,t1⟩:=hc.aC;have kn:=hc.nb;have kf:=hc.WK;have e:c.nb=c.c0+c.c1+c.c2+c.c3:=rfl;have e':c.hw=c.c0+c.c1*2+c.c2*4+c.c3*8:=rfl;have hh:=RQ c hc;have pf:c.hw<=c.bg-c.base:=kf;dsimp only [aY.v] at hh ⊢;refine W (J2 @hh @MC) (J18 w0 w1 r0 r1 b0 b1 x0 x1 y0 y1 z0 z1 u0 u1 t0 t1 pf bC) ?_<;>intros
 all_goals exact⟨_,by (simp;done),rfl,qW _ _⟩
theorem yU (c:aY) (hc:da c) (A:AW):aB qV 66 [c.v] A (λv A'=>v=qb qa c.nb/\A=A'):=by
 refine aB.tF (V:=qb qa c.nb) Yb (λhw=>?_) Ye;refine aK Tryz.func66 λ_=>?_;have hh:=RQ c hc;have As:=tu c hc;dsimp only [aY.v] at hh As ⊢;refine W (J2 @hh @As) (J1 bC) ?_<;>intros
 all_goals exact⟨_,by (simp;done),rfl,qW _ _⟩
theorem Ei (c:aY) (hc:da c) (b:Int) (hb:b<2^62) (A:AW):aB qV 197 [c.v,qb qa b] A (λv A'=>v=qA #[qb qa (Bf c b).1,qb qa (Bf c b).2]/\A=A'):=by
 refine aB.tF (V:=qA #[qb qa (Bf c b).1,qb qa (Bf c b).2]) (dB.tuple Yb) (λhw=>?_) Ye;refine aK Tryz.func197 λ_=>?_;obtain⟨w0,w1⟩:=hc.bg;obtain⟨r0,r1⟩:=hc.av;obtain⟨k0,Ej⟩:=hc.k0;obtain⟨k1,GF⟩:=hc.k1;obtain⟨k2,JJ⟩:=hc.k2;obtain⟨k3,ND⟩:=hc.k3;obtain⟨b0,b1⟩:=hc.base;obtain⟨x0,x1⟩:=hc.reads;obtain⟨y0,y1⟩:=hc.bU;obtain⟨z0,z1⟩:=hc.ar;obtain⟨u0,u1⟩:=hc.aA;obtain⟨t0,t1⟩:=hc.aC;have kn:=hc.nb;have kf:=hc.WK;have e:c.nb=c.c0+c.c1+c.c2+c.c3:=rfl;have e':c.hw=c.c0+c.c1*2+c.c2*4+c.c3*8:=rfl;have As:=tu c hc
 have l0:Bf c b=if b<0 then (-1,-1) else if b<c.c0 then (0,c.base+b) else if b-c.c0<c.c1 then (1,c.base+c.c0+(b-c.c0)*2)
  else if b-c.c0-c.c1<c.c2 then (2,c.base+c.c0+c.c1*2+(b-c.c0-c.c1)*4) else if b-c.c0-c.c1-c.c2<c.c3 then (3,c.base+c.c0+c.c1*2+c.c2*4+(b-c.c0-c.c1-c.c2)*8) else (-1,-1):=rfl
 generalize Bf c b=q at *;dsimp only [aY.v] at As ⊢;revert hw;(repeat revert hc);refine W (J2 (od VC) @As) (J1 bC) (J2 ?_ ?_)<;>(unhygienic intros);exact⟨_,by simp;rfl,by rw [l0,ay (by assumption)],qW _ _⟩;refine iH 5 ?_;refine W (J1 (od VC)) (J9 k0 Ej k1 GF k2 JJ k3 ND bC) (J5 ?_ ?_ ?_ ?_ ?_)<;>intros
 all_goals(
  refine⟨_,by (simp;rfl),?_,qW _ _⟩;rw [l0];simp (disch:=omega) only [ay,aw]
  try rw [pw1]
  try rw [pw2]
  try rw [pw3]
  try simp (disch:=omega) only [af])
theorem xd (c:aY) (hc:da c) (b:Int) (hb:b<2^62) (A:AW):aB qV 148 [c.v,qb qa b] A (λv A'=>v=qb qa (dN c b)/\A=A'):=by
 refine aB.tF (V:=qb qa (dN c b)) Yb (λhw=>?_) Ye;refine aK Tryz.func148 λ_=>?_;have As:=Ei c hc b hb;dsimp only [aY.v] at As ⊢;refine W (J1 @As) (J1 bC) ?_<;>intros;exact⟨_,by (simp;rfl),rfl,qW _ _⟩
theorem He (c:aY) (hc:da c) (b:Int) (hb:b<2^62) (A:AW):aB qV 277 [c.v,qb qa b] A (λv A'=>v=qb qa (jg c b)/\A=A'):=by
 refine aB.tF (V:=qb qa (jg c b)) Yb (λhw=>?_) Ye;refine aK Tryz.func277 λ_=>?_;have As:=Ei c hc b hb;dsimp only [aY.v] at As ⊢;refine W (J1 @As) (J1 bC) ?_<;>intros;exact⟨_,by (simp;rfl),rfl,qW _ _⟩
theorem zm (c:aY) (hc:da c) (a:Int) (A:AW):aB qV 208 [c.v,qb qa a] A (λv A'=>v=qb qa (gV c a)/\A=A'):=by
 refine aB.tF (V:=qb qa (gV c a)) Yb (λhw=>?_) Ye;refine aK Tryz.func208 λ_=>?_;obtain⟨w0,w1⟩:=hc.bg;obtain⟨r0,r1⟩:=hc.av;obtain⟨k0,Ej⟩:=hc.k0;obtain⟨k1,GF⟩:=hc.k1;obtain⟨k2,JJ⟩:=hc.k2;obtain⟨k3,ND⟩:=hc.k3;obtain⟨b0,b1⟩:=hc.base;obtain⟨x0,x1⟩:=hc.reads;obtain⟨y0,y1⟩:=hc.bU;obtain⟨z0,z1⟩:=hc.ar;obtain⟨u0,u1⟩:=hc.aA;obtain⟨t0,t1⟩:=hc.aC;have kn:=hc.nb;have kf:=hc.WK;have e:c.nb=c.c0+c.c1+c.c2+c.c3:=rfl;have e':c.hw=c.c0+c.c1*2+c.c2*4+c.c3*8:=rfl;have hh:=tu c hc;have As:=yU c hc;dsimp only [aY.v] at hh As ⊢;have gZ:¬c.av=0:=Ya
 refine W (J3 (od oLay_1) @hh @As) (J2 gZ bC) (J3 ?_ ?_ ?_)<;>intros
 all_goals(
  refine⟨_,by (simp;rfl),?_,qW _ _⟩;unfold gV
  first|(rw [aw (by simp_all;omega)];done)|(rw [ay Ya];done))
theorem Cs {c:aY} (hc:da c) (b:Int) (h:0<=b/\b<c.nb):(0<=dN c b/\dN c b<=3)/\0<=jg c b/\jg c b+2 ^ (dN c b).toNat<=c.bg:=by
 obtain⟨w0,w1⟩:=hc.bg;obtain⟨r0,r1⟩:=hc.av;obtain⟨k0,Ej⟩:=hc.k0;obtain⟨k1,GF⟩:=hc.k1;obtain⟨k2,JJ⟩:=hc.k2;obtain⟨k3,ND⟩:=hc.k3;obtain⟨b0,b1⟩:=hc.base;obtain⟨x0,x1⟩:=hc.reads;obtain⟨y0,y1⟩:=hc.bU;obtain⟨z0,z1⟩:=hc.ar;obtain⟨u0,u1⟩:=hc.aA;obtain⟨t0,t1⟩:=hc.aC;have kn:=hc.nb;have kf:=hc.WK;have e:c.nb=c.c0+c.c1+c.c2+c.c3:=rfl;have e':c.hw=c.c0+c.c1*2+c.c2*4+c.c3*8:=rfl;have pf:c.hw<=c.bg-c.base:=kf;unfold dN jg Bf;rw [aw Ya];split;simp;omega;split;simp;omega;split;simp;omega;split;simp;omega;omega
end
end Go.Stx
