import Derived.Test.YtnnbecihffpedaaGreatDoorG05
set_option linter.all false
set_option maxRecDepth 20000
set_option maxHeartbeats 4000000
open List renaming length->U
open Go.IntKind renaming i64->Zb,u64->Zc
open Go.Proofs.Tryz renaming info45->kaB,mx->Zm,prog->qZ,underlying23->kaP,underlying59->kav,zero45->kaC
open Go.Stx.AW.le renaming alloc->q8
open Go.Value renaming int->Zl
open List renaming ext_getElem?->kaO,getD_eq_getElem?_getD->Ze,getElem?_eq_getElem->Zf,getElem?_set_ne->ZT,getElem?_set_self->ZN,length_replicate->ka8,mem_range->Zr,range->Zt,replicate->q9
open Bool renaming false->qn,true->qj
open Go renaming Operand->qA,Value->qi
open Go.Builtin renaming append->qP
open Go.Callee renaming builtin->qH
open Go.IntKind renaming i64->qg,u64->qr
open Go.Op renaming call->qW
open Go.Stx.dt renaming cells->qm
open Go.Value renaming bool->qt,int->qh,pointer->qs,tuple->qF
open Option renaming none->qk,some->qf
namespace Go.Stx
open Go Go.Proofs
attribute [local irreducible] TW bK df aW aE aL cY dm sB
section
open T7
variable [Gl]
def zd (b:Nat)(s:jS)(A:AW)(F:HP)(h:bD A (jm b s*F)):
 aE qZ 204 [qs (qf ⟨b,0,qk⟩)] A (λv A'=>v=qt s.done/\A=A'):=by refine aO Tryz.func204 λhw=>?_;obtain⟨vo,vw,hS⟩:=jm.open h;obtain⟨oo,co,rfl,_⟩:=(ay.is hS.right).cL;obtain⟨ow,cw,rfl,_⟩:=(ay.is hS.right.right).cL;have hg:=hS.bk;refine W db (J2 hg @AW.ab) ?_<;>intros;simp[jS.done]
def kC (s:jS)(M:Nat->List Int):bj×jS×(Nat->List Int):=
 if s.done=qj then (bj.zero,s,M)
 else (fk M 2 1 (s.os.getD 0 0) (ga (s.ws.getD 0 0)),⟨s.os.tail,s.ws.tail⟩,mw M 1 (s.os.getD 0 0) (ga (s.ws.getD 0 0)))
def OS (b pb:Nat)(s:jS)(M:Nat->List Int)(cy:U s.os=U s.ws):
 tc qZ 203 [qs (qf ⟨b,0,qk⟩),qs (qf ⟨pb,0,qk⟩)] (jm b s*fp pb M)
  (λv=>GL (v=(kC s M).1.v)*(jm b (kC s M).2.1*fp pb (kC s M).2.2)):=by
 intro A F hw dU;refine aO Tryz.func203 λ_=>?_;rw[HP.dq]at dU;have jH:=(dU.alloc hw (qm bx qj 1));have jK:bD (A.alloc (qm bx qj 1)) (jm b s*(fp pb M*(pt A.next (qm bx qj 1)*F))):=jH.dJ Ye;by_cases nu:s.done=qj;have hd:=zd b s _ _ jK;rw[nu]at hd;revert hw;refine Wu (J2 (⟨⟩:Ts (λ_=>True) [0,0,0,0,0,0,0,0,0,0,0,0,0,3,0,0,0,2,3,0] (.aM 0 (.aM 1 (.aM 2 (.aM 3 (.aM 4 (.aM 5 (.aM 6 (.aM 7 (.aM 8 (.aM 9 (.aM 10 (.aM 11 (.aM 12 (.wm 13 (.aM 14 (.aM 15 (.aM 16 (.aM 17 (.aM 18 (.aM 19 .nil)))))) 17 (.aM 13 (.aM 14 (.aM 15 (.aM 16 (.aM 18 (.aM 19 .nil))))))))))))))))))))) @hd) (J2 bL @bx.eq_1) ?_<;>(unhygienic intros);have cJ:kC s M=(bj.zero,s,M):=by unfold kC;rw[az nu]
 rw[cJ];refine⟨_,by simp[AW.ab];rfl,bD.post Xd ?_⟩;rw[HP.dq];exact dU.le hw ((q8 A _).set (Nat.le_refl _) _);have hd:=zd b s _ _ jK;rw[show s.done=qn by simpa using nu]at hd;obtain⟨os,ws⟩:=s;cases os with
 |nil=>simp[jS.done]at nu
 |cons o os=>
 cases ws with
 |nil=>simp at cy
 |cons x ws=>
 have cJ:kC ⟨o::os,x::ws⟩ M=(fk M 2 1 o (ga x),⟨os,ws⟩,mw M 1 o (ga x)):=by unfold kC;rw[ar nu];rfl
 obtain⟨vo,vw,yG⟩:=jm.open dU;have hg:=yG.bk;have hSo:bD A (ay qg vo (o::os)*(pt b (qm [vo,vw] qj 1)*(ay qr vw (x::ws)*(fp pb M*F)))):=yG.dJ Ye;have hSw:bD A (ay qr vw (x::ws)*(pt b (qm [vo,vw] qj 1)*(ay qg vo (o::os)*(fp pb M*F)))):=yG.dJ Ye;obtain⟨bo,off,c,bO,rfl,_,wx,tw,_,_⟩:=ay.at hSo (j:=0) Yb;obtain⟨bw,offw,cw,roww,rfl,_,hgw,WA,_,_⟩:=ay.at hSw (j:=0) Yb;obtain⟨nb,nb'⟩:=hw.eD hg;obtain⟨no,no'⟩:=hw.eD wx;obtain⟨nw,nw'⟩:=hw.eD hgw;simp at wx tw hgw WA;revert hw;refine Wu (J2 @hd (⟨⟩:Ts (λ_=>True) [0,0,0,0,0,0,0,0,0,0,0,0,0,3,0,0,0,2,3,3] (.aM 0 (.aM 1 (.aM 2 (.aM 3 (.aM 4 (.aM 5 (.aM 6 (.aM 7 (.aM 8 (.aM 9 (.aM 10 (.aM 11 (.aM 12 (.wm 13 (.aM 14 (.aM 15 (.aM 16 (.aM 17 (.aM 18 (.aM 19 .nil)))))) 17 (.aM 13 (.aM 14 (.aM 15 (.aM 16 (.aM 18 (.aM 19 .nil)))))))))))))))))))))) (oP hg wx tw hgw WA nb nb' no no' nw nw' bL @bx.eq_1) (J2 ?_ ?_)<;>(unhygienic intros)
 . have zM:bD _ (fp pb M*(jm b ⟨o::os,x::ws⟩*(pt A.next (qm bx qj 1)*F))):=jK.dJ Ye;refine(wQ pb M 1 o x).use (hw.alloc _) zM rfl ?_;intro v A2 Bt jG BO;obtain⟨rfl,C4⟩:=Bt.tS;clear Bt;generalize fk M 2 1 o (ga x)=a at cJ C4 ⊢;generalize mw M 1 o (ga x)=M' at cJ C4;generalize s7 M 2 o=er at C4 ⊢;have hS7:bD A2 (jm b ⟨o::os,x::ws⟩*(pt A.next (qm bx qj 1)*(fp pb M'*F))):=C4.dJ Ye;obtain⟨FB,BA,hS8⟩:=jm.open hS7;obtain⟨Ju,If,Jn,rowo2,rfl,xZ,SU,hno3,Hf⟩:=ay.tl (hS8.dJ Ye:bD A2 (ay qg FB (o::os)*(pt b (qm [FB,BA] qj 1)*(ay qr BA (x::ws)*(pt A.next (qm bx qj 1)*(fp pb M'*F))))));obtain⟨N5,Sk,TA,HZ,rfl,xX,ST,hnw3,GO⟩:=ay.tl (Hf.dJ Ye:bD A2 (ay qr BA (x::ws)*(pt b (qm [.slice (qf ⟨Ju,If,qk⟩) (U os+1) Jn,BA] qj 1)*(ay qg (.slice (qf ⟨Ju,If+1,qk⟩) (U os) (Jn-1)) os*(pt A.next (qm bx qj 1)*(fp pb M'*F))))))
   have pU:=(GO.dJ Ye:bD A2 (pt b (qm [.slice (qf ⟨Ju,If,qk⟩) (U os+1) Jn,.slice (qf ⟨N5,Sk,qk⟩) (U ws+1) TA] qj 1)*(pt A.next (qm bx qj 1)*(ay qg (.slice (qf ⟨Ju,If+1,qk⟩) (U os) (Jn-1)) os*(ay qr (.slice (qf ⟨N5,Sk+1,qk⟩) (U ws) (TA-1)) ws*(fp pb M'*F))))));have xk:=pU.bk;have C3:=pU.right.bk;have n1:=pU.ne;obtain⟨rt,Cu⟩:=jG.eD xk;obtain⟨Sp,Cq⟩:=jG.eD xZ;obtain⟨So,Co⟩:=jG.eD xX;obtain⟨Ip,Cv⟩:=jG.eD C3;have e1:(1:Int)<=(U os:Int)+1:=Ya;have e2:(1:Int)<=(U ws:Int)+1:=Ya;have n2:=SU _ _ _ rfl;have n3:=ST _ _ _ rfl;have Nr:A2.next≠b:=λe=>by rw[<-e]at rt;simp at rt
   have PK:A2.next≠A.next:=λe=>by rw[<-e]at Ip;simp at Ip
   repeat' (first|(refine lz λR hR=>?_;simp[AW.ab,aI,bx,xk,C3,xZ,xX,Ne.symm n1,n3,rt,Sp,So,Ip,e1,e2,Nr,fO];try simp(disch:=omega)only[az,ar,an,ax])|(refine hR _ _ ?_;clear hR R)|(refine hK _ _ ?_;clear hK K)|refine nx ?_|(refine VC λR hR=>?_;simp[aI,bj.v];try simp(disch:=omega)only[az,ar,an,ax])|refine VB ?_|refine wn λK hK=>?_|simp only[wS]|(refine ⟨λA' wY=>by rw[wY]<;>rfl,?_⟩)|(refine wlS (λA'=>A'.bk N5=qf (qm HZ qj 1)) Zm [(0,0),(1,0),(2,0),(3,0),(4,0),(5,0),(6,0),(7,0),(8,0),(9,0),(10,0),(11,1),(12,0),(13,0),(14,3),(15,0),(16,0),(17,3)] Yc λK hK=>?_)|(show df _ _ _ _ _ _;refine nx ?_))
   refine⟨_,by simp[AW.ab];rfl,bD.post YQ ?_⟩;rw[cJ,HP.dq];refine jm.eB (vo:=.slice (qf ⟨Ju,If+1,qk⟩) (U os) (Jn-1)) (vw:=.slice (qf ⟨N5,Sk+1,qk⟩) (U ws) (TA-1)) (bD.fin11 pU Y0 (λj x h1 h2 hx=>?_));have hj:=(jG.eD hx).1;simp[AW.cU,h1,h2,hx,hj]
 have zM:bD _ (fp pb M*(jm b ⟨o::os,x::ws⟩*(pt (A.next+1) (qm bx qj 1)*(pt A.next (qm bx qj 1)*F)))):=((jK.alloc (hw.alloc _) (qm bx qj 1)).dJ YM);refine(wQ pb M 1 o x).use ((hw.alloc _).alloc _) zM rfl ?_;intro v A2 Bt jG BO;obtain⟨rfl,C4⟩:=Bt.tS;clear Bt;generalize fk M 2 1 o (ga x)=a at cJ C4 ⊢;generalize mw M 1 o (ga x)=M' at cJ C4;generalize s7 M 2 o=er at C4 ⊢;have hS7:bD A2 (jm b ⟨o::os,x::ws⟩*(pt (A.next+1) (qm bx qj 1)*(pt A.next (qm bx qj 1)*(fp pb M'*F)))):=C4.dJ Ye;obtain⟨FB,BA,hS8⟩:=jm.open hS7;obtain⟨Ju,If,Jn,rowo2,rfl,xZ,SU,hno3,Hf⟩:=ay.tl (hS8.dJ Ye:bD A2 (ay qg FB (o::os)*(pt b (qm [FB,BA] qj 1)*(pt (A.next+1) (qm bx qj 1)*(ay qr BA (x::ws)*(pt A.next (qm bx qj 1)*(fp pb M'*F)))))));obtain⟨N5,Sk,TA,HZ,rfl,xX,ST,hnw3,GO⟩:=ay.tl (Hf.dJ Ye:bD A2 (ay qr BA (x::ws)*(pt b (qm [.slice (qf ⟨Ju,If,qk⟩) (U os+1) Jn,BA] qj 1)*(pt (A.next+1) (qm bx qj 1)*(ay qg (.slice (qf ⟨Ju,If+1,qk⟩) (U os) (Jn-1)) os*(pt A.next (qm bx qj 1)*(fp pb M'*F)))))))
 have pU:=(GO.dJ Ye:bD A2 (pt b (qm [.slice (qf ⟨Ju,If,qk⟩) (U os+1) Jn,.slice (qf ⟨N5,Sk,qk⟩) (U ws+1) TA] qj 1)*(pt (A.next+1) (qm bx qj 1)*(pt A.next (qm bx qj 1)*(ay qg (.slice (qf ⟨Ju,If+1,qk⟩) (U os) (Jn-1)) os*(ay qr (.slice (qf ⟨N5,Sk+1,qk⟩) (U ws) (TA-1)) ws*(fp pb M'*F)))))));have xk:=pU.bk;have zL:=pU.right.bk;have C3:=pU.right.right.bk;have n1:=pU.ne2;have n4:=pU.ne;have n5:=pU.right.ne;obtain⟨n12,Su⟩:=jG.eD zL;obtain⟨rt,Cu⟩:=jG.eD xk;obtain⟨Sp,Cq⟩:=jG.eD xZ;obtain⟨So,Co⟩:=jG.eD xX;obtain⟨Ip,Cv⟩:=jG.eD C3;have e1:(1:Int)<=(U os:Int)+1:=Ya
 have e2:(1:Int)<=(U ws:Int)+1:=Ya
 have n2:=SU _ _ _ rfl;have n3:=ST _ _ _ rfl;have n6:=hno3 _ _ _ _ _ rfl;have n7:=hnw3 _ _ _ _ _ rfl;have Nr:A2.next≠b:=λe=>by rw[<-e]at rt;simp at rt
 have PK:A2.next≠A.next:=λe=>by rw[<-e]at Ip;simp at Ip
 repeat' (first|(refine lz λR hR=>?_;simp[AW.ab,aI,bx,xk,C3,n6,n7,n4,Ne.symm n4,xZ,xX,Ne.symm n1,n3,e1,e2,fO];try simp(disch:=omega)only[az,ar,an,ax])|(refine hR _ _ ?_;clear hR R)|(refine hK _ _ ?_;clear hK K)|refine nx ?_|(refine VC λR hR=>?_;simp[aI,bx,zL,bj.v];try simp(disch:=omega)only[az,ar,an,ax])|refine VB ?_|refine wn λK hK=>?_|simp only[wS]|(refine ⟨λA' wY=>by rw[wY]<;>rfl,?_⟩)|(refine wlS (λA'=>A'.bk N5=qf (qm HZ qj 1)) Zm [(0,0),(1,0),(2,0),(3,0),(4,0),(5,0),(6,0),(7,0),(8,0),(9,0),(10,0),(11,1),(12,0),(13,0),(14,3),(15,0),(16,0),(17,3)] Yc λK hK=>?_)|(show df _ _ _ _ _ _;refine nx ?_))
 refine⟨_,by simp[AW.ab];rfl,bD.post YQ ?_⟩;rw[cJ,HP.dq];refine jm.eB (vo:=.slice (qf ⟨Ju,If+1,qk⟩) (U os) (Jn-1)) (vw:=.slice (qf ⟨N5,Sk+1,qk⟩) (U ws) (TA-1)) (bD.QH pU Y0 (λj x h1 h2 h3 hx=>?_));simp[AW.cU,h1,h2,h3,hx]
end
section
variable [Gl]
def GJ (c:bu)(b:Int):Int×Int:=
 if b<0 then (-1,-1)
 else if b<c.c0 then (0,c.base+b)
 else if b-c.c0<c.c1 then (1,c.base+c.c0+(b-c.c0)*2)
 else if b-c.c0-c.c1<c.c2 then (2,c.base+c.c0+c.c1*2+(b-c.c0-c.c1)*4)
 else if b-c.c0-c.c1-c.c2<c.c3 then (3,c.base+c.c0+c.c1*2+c.c2*4+(b-c.c0-c.c1-c.c2)*8)
 else (-1,-1)
def eE (c:bu)(b:Int):Int:=(GJ c b).1
def i5 (c:bu)(b:Int):Int:=(GJ c b).2
def mq (c:bu)(a:Int):Int:=match (Zt c.nb.toNat).find? (λb:Nat=>i5 c (b:Int) == a) with
 |some b=>b
 |none=>-1
def fU (c:bu)(a:Int):Int:=if 0<=a/\a<c.bm+c.nb then a.tmod c.au else -1
inductive Fx where
 | sD
 | RG
 | bZ (aD:Int)
 | take (v:Int)
 | mA (a v:Int)
 | lp
 | dz (b v:Int)
inductive sT where
 | take
 | dz (b:Int)
inductive bM where
 | bC
 | iY (k:Fx)
 | dA
 | be (r:hY) (u:sT)
 | eO (p:sU)
 | ef
 | c8
 | cK (c:i8)
 | bN
 | dy (w:jS)
 | bG (w:jS)
 | eR
 | ey
 | eG (p:gy)
 | gC
def bM.dZ:bM->Int
 | .bC=>0 | .iY _=>1 | .dA=>2 | .be _ _=>3 | .eO _=>4 | .ef=>5 | .c8=>6 | .cK _=>7
 | .bN=>8 | .dy _=>9 | .bG _=>10 | .eR=>11 | .ey=>12 | .eG _=>13 | .gC=>14
structure aJ where
 cf:bu
 af:Int
 aG:Int
 aD:Int
 value:Int
 bQ:Option ig
 am:Bool
 reads:List Int
 ao:List Int
 aB:List Int
 set:List Int
 bJ:wj
 aC:Int
 au:List Int
 aQ:Option iR
 aN:Option jk
 av:Nat
 aH:bM
def aJ.kQ (s:aJ):Bool:=!decide (s.aH.dZ=0)
def aJ.rv (s:aJ):Int:=match s.bQ with|some e=>e.yN|none=>-1
def aJ.iS (s:aJ):Bool:=decide (s.aD=1) && decide (0<U s.bJ.bU)
def aJ.pX (s:aJ):Int:=if s.am=qj/\s.iS=qj then Zb.wrap (Zb.wrap s.aC+1) else -1
def aJ.dZ (s:aJ):Int:=match s.aN with|some t=>t.dZ|none=>-1
def aJ.eD (s:aJ):List Int:=match s.aQ with|some l=>l.eD|none=>[]
def gn (s:aJ):aJ:=
 if s.aD=1\/s.av=U s.ao then { s with aH:=.gC }
 else { s with aH:=.eG ⟨eE s.cf (s.ao.getD s.av 0),s.ao.getD s.av 0,0,0⟩ }
def kM (s:aJ)(aD:Int):aJ:=gn { s with aD:=aD }
def nB (s:aJ)(aD:Int):aJ:=
 if decide (aD=1) && decide (0<U s.bJ.bU) then
  let os:=fC (s.bJ.bU.map (fU s.cf))
  { s with aD:=aD,au:=os,aQ:=qf ⟨s.af,fC os,[],0,qn⟩,aH:=.ef }
 else { s with aD:=aD,aN:=qf ⟨qn,0,qn⟩,aH:=.c8 }
def fE (s:aJ):aJ:=
 if U s.au=0 then { s with aH:=.ey } else { s with aH:=.bG ⟨s.au,s.eD⟩ }
def jr (s:aJ)(a v:Int):Bool×aJ:=
 if (gD s.bJ a v).1=qj then (qj,{ s with bJ:=(gD s.bJ a v).2 }) else (qn,kM s 3)
def ji (s:aJ)(b st:Int):aJ:=
 if st≠Zc.wrap (Zc.wrap (eE s.cf b)+1) then nB s 8
 else if s.cf.aB<=U s.aB then kM s 3
 else if (jr s (s.cf.bm+b) 0).1=qj then { (jr s (s.cf.bm+b) 0).2 with aB:=s.aB++[b] } else (jr s (s.cf.bm+b) 0).2
def fX:Nat->Int->aJ->Bool×aJ
 |0,_,s=>(qj,s)
 |n+1,a,s=>if (jr s a 0).1=qj then fX n (a+1) (jr s a 0).2 else (qn,(jr s a 0).2)
def fb (s:aJ)(fa jj:Int):aJ:=
 if jj<0 then kM s 4
 else
  let s1:={ s with ao:=s.ao++[jj] }
  let r:=jr s1 (s.cf.bm+jj) (fa+1)
  if r.1=qj then
   let q:=fX (2 ^ fa.toNat) (i5 s.cf jj) r.2
   if q.1=qj then { q.2 with value:=Zc.wrap (i5 s.cf jj) } else q.2
  else r.2
def r9 (s:aJ):Fx->aJ
 | .sD=>nB s 7
 | .RG=>nB s 8
 | .bZ aD=>nB s aD
 | .take v=>{ s with value:=v }
 | .mA a v=>if s.cf.bm<=a then nB s 7 else (jr s a v).2
 | .lp=>kM s 3
 | .dz b v=>ji s b v
def Bi (s:aJ)(v:Int):sT->aJ
 | .take=>{ s with value:=v }
 | .dz b=>ji s b v
abbrev sx:=bj×Int×aJ×Mm
def go (s:aJ)(M:Mm)(e:ig):sx:=
 let r:=fN e M
 let s1:={ s with bQ:=qf r.2.1 }
 if r.2.1.bR=3 then (r.1,4,{ s1 with aH:=.bC },r.2.2)
 else (r.1,if e.yN≠r.2.1.yN then 3 else 2,s1,r.2.2)
def da (s:aJ)(M:Mm)(c:hY)(u:sT):sx:=
 let r:=dh c M
 let s1:={ s with aH:=.be r.2.1 u }
 if r.2.1.done=qn then (r.1,5+c.bR,s1,r.2.2)
 else if r.2.1.iO=qj then (r.1,5+c.bR,kM s1 9,r.2.2)
 else
  let s2:=if c.cr<s.cf.bm/\¬c.cr∈s.reads then { s1 with reads:=s.reads++[c.cr] } else s1
  if (eT s.cf.reads.toNat s.set c.gz).1=qj then (r.1,5+c.bR,Bi { s2 with set:=(eT s.cf.reads.toNat s.set c.gz).2,aH:=.bC } r.2.1.val u,r.2.2)
  else (r.1,5+c.bR,kM s2 3,r.2.2)
def lx (s:aJ)(M:Mm)(p:sU):sx:=
 let r:=gB p M
 (r.1,iC r.1,if r.2.1.bR=3 then fb { s with aH:=.bC } p.fa r.2.1.block else { s with aH:=.eO r.2.1 },r.2.2)
def ip (s:aJ)(M:Mm)(l:iR):sx:=
 let r:=ep l M
 let s1:={ s with aQ:=qf r.2.1 }
 (r.1,if r.1.fB=3 then 12 else 11,if r.2.1.done=qj then { s1 with aN:=qf ⟨qn,0,qn⟩,aH:=.c8 } else s1,r.2.2)
def ia (s:aJ)(M:Mm)(t:jk):sx:=
 let r:=gX t M
 let s1:={ s with aN:=qf r.2.1 }
 (r.1,if r.1.fB=4 then 13 else 14,if r.2.1.done=qj then { s1 with aH:=if U s.set=0 then .bN else .cK ⟨s.set,s.rv,qn⟩ } else s1,r.2.2)
def gu (s:aJ)(M:Mm)(c:i8):sx:=
 let r:=gx c M
 let s1:={ s with aH:=.cK r.2.1 }
 (r.1,15,if r.2.1.kI=qj then fE { s1 with aD:=9 } else if r.2.1.done=qj then { s1 with aH:=.bN } else s1,r.2.2)
def fo (s:aJ)(M:Mm):sx:=
 let a:=iy M 3 0
 let s1:={ s with aC:=a.eV }
 (a,16,if s.iS=qj/\Zc.wrap s.cf.aC<=a.eV then fE { s1 with aD:=6 }
  else if s.iS=qj then { s1 with am:=qj,aH:=.dy ⟨s.bJ.bU,s.bJ.gi⟩ } else fE { s1 with am:=qj },M)
def gF (s:aJ)(M:Mm)(w:jS):sx:=
 let r:=kC w M
 (r.1,17,if r.2.1.done=qj then { s with aH:=.bG ⟨s.au,q9 (U s.au) (lR s.pX)⟩ } else { s with aH:=.dy r.2.1 },r.2.2)
def nM (s:aJ)(M:Mm)(w:jS):sx:=
 let r:=ii w M
 (r.1,18,{ s with aH:=if r.2.1.done=qj then (if 0<=s.pX then .eR else .ey) else .bG r.2.1 },r.2.2)
def iT (s:aJ)(M:Mm)(p:gy):sx:=
 let r:=dD p M
 (r.1,eJ r.1,if r.2.1.bR=3 then gn { s with av:=s.av+1,aH:=.eG r.2.1 } else { s with aH:=.eG r.2.1 },r.2.2)
def aY (s:aJ)(M:Mm):sx:=match s.aH with
 | .bC=>(bj.zero,0,s,M)
 | .iY k=>(bj.zero,0,r9 { s with aH:=.bC } k,M)
 | .dA=>match s.bQ with
   |some e=>go s M e
   |none=>(bj.zero,0,s,M)
 | .be c u=>da s M c u
 | .eO p=>lx s M p
 | .ef=>match s.aQ with
   |some l=>ip s M l
   |none=>(bj.zero,0,s,M)
 | .c8=>match s.aN with
   |some t=>ia s M t
   |none=>(bj.zero,0,s,M)
 | .cK c=>gu s M c
 | .bN=>fo s M
 | .dy w=>gF s M w
 | .bG w=>nM s M w
 | .eR=>(FG M 3 0 (Zc.wrap (s.aC+1)),19,{ s with aH:=.ey },BC M 3 0 (Zc.wrap (s.aC+1)))
 | .ey=>(FG M 5 0 (s4 s.dZ),20,gn s,BC M 5 0 (s4 s.dZ))
 | .eG p=>iT s M p
 | .gC=>(FG M 6 s.af 0,24,{ s with aH:=.bC,aG:=2 },BC M 6 s.af 0)
def aJ.nT (s:aJ)(aG:Int):Bool:=decide (s.aH.dZ=0) && decide (s.aG=aG)
def gE (s:aJ):Int×aJ:=
 if s.nT 0=qj then (0,{ s with aG:=1,bQ:=qf ⟨s.af,0,0⟩,aH:=.dA }) else (1,s)
def xx (s:aJ)(a:Int)(u:sT):aJ:={ s with aH:=.be ⟨a,fU s.cf a,s.rv,0,0,0,qn⟩ u }
def LM (s:aJ)(a:Int):Int×aJ:=
 if s.nT 1=qj then
  if s.cf.bm<=a then (0,{ s with aH:=.iY .sD })
  else if (mG s.bJ a).2=qj then (0,{ s with aH:=.iY (.take (mG s.bJ a).1) })
  else (0,xx s a .take)
 else (1,s)
def Kl (s:aJ)(a v:Int):Int×aJ:=if s.nT 1=qj then (0,{ s with aH:=.iY (.mA a v) }) else (1,s)
def Rf (s:aJ)(fa:Int):Int×aJ:=
 if s.nT 1=qj then
  if fa<0\/4<=fa then (2,s)
  else if s.cf.ao<=U s.ao then (0,{ s with aH:=.iY .lp })
  else (0,{ s with aH:=.eO ⟨fa,0,0,0,-1⟩ })
 else (1,s)
def QE (s:aJ)(a:Int):Int×aJ:=
 if s.nT 1=qj then
  if mq s.cf a<0 then (0,{ s with aH:=.iY .RG })
  else if (mG s.bJ (s.cf.bm+mq s.cf a)).2=qj then (0,{ s with aH:=.iY (.dz (mq s.cf a) (mG s.bJ (s.cf.bm+mq s.cf a)).1) })
  else (0,xx s (s.cf.bm+mq s.cf a) (.dz (mq s.cf a)))
 else (1,s)
def GR (s:aJ)(aD:Int):Int×aJ:=
 if s.nT 1=qj then
  if aD≠1/\aD≠2 then (2,s) else (0,{ s with aH:=.iY (.bZ aD) })
 else (1,s)
def jF (w:Int):wj:=
 let n:=if w<=0 then 1 else if w<=1 then 2 else if w<=2 then 4 else if w<=4 then 8 else if w<=8 then 16 else if w<=16 then 32 else 64
 ⟨w.toNat,[],[],q9 n (-1)⟩
def fq (c:bu)(t:Int):aJ:=⟨c,t,0,0,0,qk,qn,[],[],[],[],jF c.b8,0,[],qk,qk,0,.bC⟩
end
section
open Go.Proofs Go
variable [Gl]
def Fl {P:Program}{r:qA->qi}{A:AW}{k':qi->AW->Prop}{x y:qA}{t:TypeId}{s u v':qi}{A':AW}(e1:r x=s)(e2:r y=u)(h:fD P A t t s u=qf (v',A'))(hk:k' v' A'):iJ P (qW ⟨qH qP,#[x,y],#[t,t]⟩) r A k':=by
 have h1:aq P A r (qW ⟨qH qP,#[x,y],#[t,t]⟩)=qk:=by simp[aq]
 have h2:ae P A r (qW ⟨qH qP,#[x,y],#[t,t]⟩)=qf (v',A'):=by show (if t=t then fD P A t t (r x) (r y) else _)=_;rw[az rfl,e1,e2,h]
 unfold iJ;rw[h1,h2];exact hk
section
variable {P:Program} {S:AW->Prop} {K:Fr->AW->Prop} {dE:List yW} {a:Fr} {A:AW} {d:Option Tmp} {m:Nat} {x y:qA} {t e:TypeId} {i:TypeInfo} {z:qi} {k:IntKind} {l:List Int} {n:Nat} {yv:Int} {v:qi} {L K':List It}
def JB {k':qi->AW->Prop}(hu:P.underlying t=qf (.slice e))(hi:P.info? e=qf i)(hz:i.zero=qf z)(iP:i.size=1)(rR:z.cells.size=1)(CH:i.bytes<=8)(e1:gZ a x=v)(e2:gZ a y=.slice (qf ⟨n,0,qk⟩) 1 1)(hw:A.Wf)(hS:aj A L)(hp:aF L (.h (ay k v l)) K')(hn:A.bk n=qf (qm [qh k yv] qj 1))(cy:U l<2 ^ 40)(hk:∀o c A',aj A' (.h (ay k (.slice o (U l+1) c) (l++[yv]))::K')->A'.Wf->A.next<=A'.next->k' (.slice o (U l+1) c) A'):
 iJ P (qW ⟨qH qP,#[x,y],#[t,t]⟩) (gZ a) A k':=by
 have h1:bD A (ay k v l*aP K'):=by exact X6
 obtain⟨v',A',e3,h2,h3,h4⟩:=ay.Ek (P:=P) (t:=t) yv n hu hi hz iP rR hn h1 cy CH hw;obtain⟨o,c,h5,_⟩:=(ay.is h2).cL;have h6:v'=.slice o (U l+1) c:=by simpa using h5
 subst h6;exact Fl e1 e2 e3 (hk o c A' h2 h3 h4)
def lwApp (hu:P.underlying t=qf (.slice e))(hi:P.info? e=qf i)(hz:i.zero=qf z)(iP:i.size=1)(rR:z.cells.size=1)(CH:i.bytes<=8)(e1:gZ a x=v)(e2:gZ a y=.slice (qf ⟨n,0,qk⟩) 1 1)(hw:A.Wf)(hS:aj A L)(hp:aF L (.h (ay k v l)) K')(hn:A.bk n=qf (qm [qh k yv] qj 1))(cy:U l<2 ^ 40)(hs:∀A',aj A' K'->S A')(hk:∀o c A',aj A' (.h (ay k (.slice o (U l+1) c) (l++[yv]))::K')->A'.Wf->A.next<=A'.next->aW P S K dE (d8 a d (.slice o (U l+1) c)) A'):
 aW P S K (⟨d,qW ⟨qH qP,#[x,y],#[t,t]⟩,qk,3⟩::dE) a A:=by unfold aW;exact XZ
def twApp {r:B7}(hu:P.underlying t=qf (.slice e))(hi:P.info? e=qf i)(hz:i.zero=qf z)(iP:i.size=1)(rR:z.cells.size=1)(CH:i.bytes<=8)(e1:gZ a x=v)(e2:gZ a y=.slice (qf ⟨n,0,qk⟩) 1 1)(hw:A.Wf)(hS:aj A L)(hp:aF L (.h (ay k v l)) K')(hn:A.bk n=qf (qm [qh k yv] qj 1))(cy:U l<2 ^ 40)(hs:∀A',aj A' K'->S A')(hk:∀o c A',aj A' (.h (ay k (.slice o (U l+1) c) (l++[yv]))::K')->A'.Wf->A.next<=A'.next->TW P S K r (d8 a d (.slice o (U l+1) c)) A'):
 TW P S K (.aM ⟨d,qW ⟨qH qP,#[x,y],#[t,t]⟩,qk,3⟩ r) a A:=by unfold TW sB;exact XZ
def lhApp {R:Fr->AW->Prop}(hu:P.underlying t=qf (.slice e))(hi:P.info? e=qf i)(hz:i.zero=qf z)(iP:i.size=1)(rR:z.cells.size=1)(CH:i.bytes<=8)(e1:gZ a x=v)(e2:gZ a y=.slice (qf ⟨n,0,qk⟩) 1 1)(hw:A.Wf)(hS:aj A L)(hp:aF L (.h (ay k v l)) K')(hn:A.bk n=qf (qm [qh k yv] qj 1))(cy:U l<2 ^ 40)(hs:∀A',aj A' K'->S A')(hk:∀o c A',aj A' (.h (ay k (.slice o (U l+1) c) (l++[yv]))::K')->A'.Wf->A.next<=A'.next->R (d8 a d (.slice o (U l+1) c)) A'):
 sB P S ⟨d,qW ⟨qH qP,#[x,y],#[t,t]⟩,qk,3⟩ a A R:=by unfold sB;exact XZ
end
section
variable {S:AW->Prop} {K:Fr->AW->Prop} {dE:List yW} {r:B7} {a:Fr} {A:AW} {d:Option Tmp} {x y:qA} {l:List Int} {n:Nat} {yv:Int} {v:qi} {L K':List It}
def lwI (e1:gZ a x=v)(e2:gZ a y=.slice (qf ⟨n,0,qk⟩) 1 1)(hw:A.Wf)(hS:aj A L)(hp:aF L (.h (ay qg v l)) K')(hn:A.bk n=qf (qm [qh qg yv] qj 1))(cy:U l<2 ^ 40)(hs:∀A',aj A' K'->S A')(hk:∀o c A',aj A' (.h (ay qg (.slice o (U l+1) c) (l++[yv]))::K')->A'.Wf->A.next<=A'.next->aW qZ S K dE (d8 a d (.slice o (U l+1) c)) A'):
 aW qZ S K (⟨d,qW ⟨qH qP,#[x,y],#[23,23]⟩,qk,3⟩::dE) a A:=
 lwApp (P:=qZ) kaP Tryz.info3 Tryz.zero3 rfl rfl Yb e1 e2 hw hS hp hn cy hs hk
def lwU (e1:gZ a x=v)(e2:gZ a y=.slice (qf ⟨n,0,qk⟩) 1 1)(hw:A.Wf)(hS:aj A L)(hp:aF L (.h (ay qr v l)) K')(hn:A.bk n=qf (qm [qh qr yv] qj 1))(cy:U l<2 ^ 40)(hs:∀A',aj A' K'->S A')(hk:∀o c A',aj A' (.h (ay qr (.slice o (U l+1) c) (l++[yv]))::K')->A'.Wf->A.next<=A'.next->aW qZ S K dE (d8 a d (.slice o (U l+1) c)) A'):
 aW qZ S K (⟨d,qW ⟨qH qP,#[x,y],#[59,59]⟩,qk,3⟩::dE) a A:=
 lwApp (P:=qZ) kav kaB kaC rfl rfl Yb e1 e2 hw hS hp hn cy hs hk
def twI (e1:gZ a x=v)(e2:gZ a y=.slice (qf ⟨n,0,qk⟩) 1 1)(hw:A.Wf)(hS:aj A L)(hp:aF L (.h (ay qg v l)) K')(hn:A.bk n=qf (qm [qh qg yv] qj 1))(cy:U l<2 ^ 40)(hs:∀A',aj A' K'->S A')(hk:∀o c A',aj A' (.h (ay qg (.slice o (U l+1) c) (l++[yv]))::K')->A'.Wf->A.next<=A'.next->TW qZ S K r (d8 a d (.slice o (U l+1) c)) A'):
 TW qZ S K (.aM ⟨d,qW ⟨qH qP,#[x,y],#[23,23]⟩,qk,3⟩ r) a A:=
 twApp (P:=qZ) kaP Tryz.info3 Tryz.zero3 rfl rfl Yb e1 e2 hw hS hp hn cy hs hk
def twU (e1:gZ a x=v)(e2:gZ a y=.slice (qf ⟨n,0,qk⟩) 1 1)(hw:A.Wf)(hS:aj A L)(hp:aF L (.h (ay qr v l)) K')(hn:A.bk n=qf (qm [qh qr yv] qj 1))(cy:U l<2 ^ 40)(hs:∀A',aj A' K'->S A')(hk:∀o c A',aj A' (.h (ay qr (.slice o (U l+1) c) (l++[yv]))::K')->A'.Wf->A.next<=A'.next->TW qZ S K r (d8 a d (.slice o (U l+1) c)) A'):
 TW qZ S K (.aM ⟨d,qW ⟨qH qP,#[x,y],#[59,59]⟩,qk,3⟩ r) a A:=
 twApp (P:=qZ) kav kaB kaC rfl rfl Yb e1 e2 hw hS hp hn cy hs hk
def lhI {R:Fr->AW->Prop}(e1:gZ a x=v)(e2:gZ a y=.slice (qf ⟨n,0,qk⟩) 1 1)(hw:A.Wf)(hS:aj A L)(hp:aF L (.h (ay qg v l)) K')(hn:A.bk n=qf (qm [qh qg yv] qj 1))(cy:U l<2 ^ 40)(hs:∀A',aj A' K'->S A')(hk:∀o c A',aj A' (.h (ay qg (.slice o (U l+1) c) (l++[yv]))::K')->A'.Wf->A.next<=A'.next->R (d8 a d (.slice o (U l+1) c)) A'):
 sB qZ S ⟨d,qW ⟨qH qP,#[x,y],#[23,23]⟩,qk,3⟩ a A R:=
 lhApp (P:=qZ) kaP Tryz.info3 Tryz.zero3 rfl rfl Yb e1 e2 hw hS hp hn cy hs hk
def lhU {R:Fr->AW->Prop}(e1:gZ a x=v)(e2:gZ a y=.slice (qf ⟨n,0,qk⟩) 1 1)(hw:A.Wf)(hS:aj A L)(hp:aF L (.h (ay qr v l)) K')(hn:A.bk n=qf (qm [qh qr yv] qj 1))(cy:U l<2 ^ 40)(hs:∀A',aj A' K'->S A')(hk:∀o c A',aj A' (.h (ay qr (.slice o (U l+1) c) (l++[yv]))::K')->A'.Wf->A.next<=A'.next->R (d8 a d (.slice o (U l+1) c)) A'):
 sB qZ S ⟨d,qW ⟨qH qP,#[x,y],#[59,59]⟩,qk,3⟩ a A R:=
 lhApp (P:=qZ) kav kaB kaC rfl rfl Yb e1 e2 hw hS hp hn cy hs hk
end
def AW.PA {A:AW}{n:Nat}{o:dt}(h:A.next=n):(A.alloc o).next=n+1:=by rw[AW.bn,h]
def AW.nx_set {A:AW}{n i:Nat}{o:Option dt}(h:A.next=n):(A.set i o).next=n:=by rw[AW.lN,h]
def aj.allocN {A:AW}{L:List It}{o:dt}{n:Nat}(h:aj A L)(hw:A.Wf)(hn:A.next=n):aj (A.alloc o) (.at n o::L):=by subst hn;exact h.alloc hw o
def aj.zE {A:AW}{L:List It}(k:IntKind)(h:aj A L):aj A (.h (ay k (.slice qk 0 0) [])::L):=ay.nil h
def lb {ι:Type}{g:ι->List It}{A:AW}{L K:List It}(h:aj A L)(hp:aF L (.h (ut λx=>aP (g x))) K):∃x,aj A (g x++K):=by unfold aj at h;rw[hp.aP]at h;have h1:bD A (ut (λx=>aP (g x))*aP K):=h;rw[bD.ex]at h1;obtain⟨x,h1⟩:=h1;refine⟨x,?_⟩;unfold aj;rw[gO];exact h1
def ju {ι:Type}{g:ι->List It}{A:AW}{L K:List It}(x:ι)(h:aj A L)(hp:bd L (g x) K):aj A (.h (ut λx=>aP (g x))::K):=by unfold aj at h ⊢;rw[hp.aP]at h;show bD A (ut (λx=>aP (g x))*aP K);rw[bD.ex];exact⟨x,h⟩
end
section
abbrev oLay_0:List (Nat×Nat):=[(0,0),(1,0),(2,0),(3,0),(4,0),(5,0),(6,0),(7,0)]
abbrev oLay_1:List (Nat×Nat):=[(0,0),(1,2),(2,0),(3,0),(4,0),(5,0),(6,0),(7,0),(8,0),(9,0),(10,0),(11,0),(12,2),(13,0),(14,0),(15,0)]
open T7
variable [Gl]
def pw1:(2:Int) ^ min 1 Zb.bits=2:=Yd
def pw2:(2:Int) ^ min 2 Zb.bits=4:=Yd
def pw3:(2:Int) ^ min 3 Zb.bits=8:=Yd
def pw0:(2:Int) ^ min 0 Zb.bits=1:=Yd
def U5 (c:bu)(hc:dl c)(A:AW):aE qZ 57 [c.v] A (λv A'=>v=qF #[qh qg c.nb,qh qg c.hw,qt qj]/\A=A'):=by
 refine aE.wy (V:=qF #[qh qg c.nb,qh qg c.hw,qt qj]) (dK.tuple Yb) (λhw=>?_) Yf;refine aO Tryz.func57 λ_=>?_;obtain⟨k0,KU⟩:=hc.k0;obtain⟨k1,OF⟩:=hc.k1;obtain⟨k2,SG⟩:=hc.k2;obtain⟨k3,k3'⟩:=hc.k3;have kn:=hc.nb;have e:c.nb=c.c0+c.c1+c.c2+c.c3:=rfl;have e':c.hw=c.c0+c.c1*2+c.c2*4+c.c3*8:=rfl;revert hw;(repeat revert hc);refine W db (J2 @bu.v.eq_1 bL) ?_<;>(unhygienic intros);refine i7 5 ?_;refine W db (Hr k0 KU k1 OF k2 SG k3 k3' @bu.v.eq_1 bL) ?_<;>intros
 all_goals(
  refine⟨_,by (simp;rfl),?_,q8 _ _⟩;simp only[Value.tuple.injEq,Array.mk.injEq,List.cons.injEq,Value.int.injEq,Value.bool.injEq,true_and,and_true];rw[pw1,pw2,pw3];simp(disch:=omega)only[an];exact⟨e.symm,e'.symm,by simp;omega⟩)
def uC (c:bu)(hc:dl c)(A:AW):aE qZ 28 [c.v] A (λv A'=>v=qh qg 0/\A=A'):=by
 refine aE.wy (V:=qh qg 0) Yb (λhw=>?_) Yf;refine aO Tryz.func28 λ_=>?_;obtain⟨w0,w1⟩:=hc.bm;obtain⟨r0,r1⟩:=hc.au;obtain⟨k0,KU⟩:=hc.k0;obtain⟨k1,OF⟩:=hc.k1;obtain⟨k2,SG⟩:=hc.k2;obtain⟨k3,k3'⟩:=hc.k3;obtain⟨b0,b1⟩:=hc.base;obtain⟨x0,x1⟩:=hc.reads;obtain⟨y0,y1⟩:=hc.b8;obtain⟨z0,z1⟩:=hc.ao;obtain⟨u0,u1⟩:=hc.aB;obtain⟨t0,t1⟩:=hc.aC;have kn:=hc.nb;have kf:=hc.fit;have e:c.nb=c.c0+c.c1+c.c2+c.c3:=rfl;have e':c.hw=c.c0+c.c1*2+c.c2*4+c.c3*8:=rfl;have hh:=U5 c hc;have ur:c.hw<=c.bm-c.base:=kf;dsimp only[bu.v]at hh ⊢;refine W (J2 @hh @OV) (J18 w0 w1 r0 r1 b0 b1 x0 x1 y0 y1 z0 z1 u0 u1 t0 t1 ur bL) ?_<;>intros
 all_goals exact⟨_,by (simp;done),rfl,q8 _ _⟩
def Am (c:bu)(hc:dl c)(A:AW):aE qZ 84 [c.v] A (λv A'=>v=qh qg c.nb/\A=A'):=by
 refine aE.wy (V:=qh qg c.nb) Yb (λhw=>?_) Yf;refine aO Tryz.func84 λ_=>?_;have hh:=U5 c hc;have He:=uC c hc;dsimp only[bu.v]at hh He ⊢;refine W (J2 @hh @He) (J1 bL) ?_<;>intros
 all_goals exact⟨_,by (simp;done),rfl,q8 _ _⟩
def F3 (c:bu)(hc:dl c)(b:Int)(hb:b<2^62)(A:AW):aE qZ 171 [c.v,qh qg b] A (λv A'=>v=qF #[qh qg (GJ c b).1,qh qg (GJ c b).2]/\A=A'):=by
 refine aE.wy (V:=qF #[qh qg (GJ c b).1,qh qg (GJ c b).2]) (dK.tuple Yb) (λhw=>?_) Yf;refine aO Tryz.func171 λ_=>?_;obtain⟨w0,w1⟩:=hc.bm;obtain⟨r0,r1⟩:=hc.au;obtain⟨k0,KU⟩:=hc.k0;obtain⟨k1,OF⟩:=hc.k1;obtain⟨k2,SG⟩:=hc.k2;obtain⟨k3,k3'⟩:=hc.k3;obtain⟨b0,b1⟩:=hc.base;obtain⟨x0,x1⟩:=hc.reads;obtain⟨y0,y1⟩:=hc.b8;obtain⟨z0,z1⟩:=hc.ao;obtain⟨u0,u1⟩:=hc.aB;obtain⟨t0,t1⟩:=hc.aC;have kn:=hc.nb;have kf:=hc.fit;have e:c.nb=c.c0+c.c1+c.c2+c.c3:=rfl;have e':c.hw=c.c0+c.c1*2+c.c2*4+c.c3*8:=rfl;have He:=uC c hc
 have l0:GJ c b=if b<0 then (-1,-1) else if b<c.c0 then (0,c.base+b) else if b-c.c0<c.c1 then (1,c.base+c.c0+(b-c.c0)*2)
  else if b-c.c0-c.c1<c.c2 then (2,c.base+c.c0+c.c1*2+(b-c.c0-c.c1)*4) else if b-c.c0-c.c1-c.c2<c.c3 then (3,c.base+c.c0+c.c1*2+c.c2*4+(b-c.c0-c.c1-c.c2)*8) else (-1,-1):=rfl
 generalize GJ c b=q at *;dsimp only[bu.v]at He ⊢;revert hw;(repeat revert hc);refine W (J2 (od oLay_0) @He) (J1 bL) (J2 ?_ ?_)<;>(unhygienic intros);exact⟨_,by simp;rfl,by rw[l0,az (by assumption)],q8 _ _⟩;refine i7 5 ?_;refine W (J1 (od oLay_0)) (J9 k0 KU k1 OF k2 SG k3 k3' bL) (J5 ?_ ?_ ?_ ?_ ?_)<;>intros
 all_goals(
  refine⟨_,by (simp;rfl),?_,q8 _ _⟩;rw[l0];simp(disch:=omega)only[az,ar]
  try rw[pw1]
  try rw[pw2]
  try rw[pw3]
  try simp(disch:=omega)only[an])
def yj (c:bu)(hc:dl c)(b:Int)(hb:b<2^62)(A:AW):aE qZ 106 [c.v,qh qg b] A (λv A'=>v=qh qg (eE c b)/\A=A'):=by refine aE.wy (V:=qh qg (eE c b)) Yb (λhw=>?_) Yf;refine aO Tryz.func106 λ_=>?_;have He:=F3 c hc b hb;dsimp only[bu.v]at He ⊢;refine W (J1 @He) (J1 bL) ?_<;>intros;exact⟨_,by (simp;rfl),rfl,q8 _ _⟩
def I7 (c:bu)(hc:dl c)(b:Int)(hb:b<2^62)(A:AW):aE qZ 257 [c.v,qh qg b] A (λv A'=>v=qh qg (i5 c b)/\A=A'):=by refine aE.wy (V:=qh qg (i5 c b)) Yb (λhw=>?_) Yf;refine aO Tryz.func257 λ_=>?_;have He:=F3 c hc b hb;dsimp only[bu.v]at He ⊢;refine W (J1 @He) (J1 bL) ?_<;>intros;exact⟨_,by (simp;rfl),rfl,q8 _ _⟩
def AJ (c:bu)(hc:dl c)(a:Int)(A:AW):aE qZ 183 [c.v,qh qg a] A (λv A'=>v=qh qg (fU c a)/\A=A'):=by
 refine aE.wy (V:=qh qg (fU c a)) Yb (λhw=>?_) Yf;refine aO Tryz.func183 λ_=>?_;obtain⟨w0,w1⟩:=hc.bm;obtain⟨r0,r1⟩:=hc.au;obtain⟨k0,KU⟩:=hc.k0;obtain⟨k1,OF⟩:=hc.k1;obtain⟨k2,SG⟩:=hc.k2;obtain⟨k3,k3'⟩:=hc.k3;obtain⟨b0,b1⟩:=hc.base;obtain⟨x0,x1⟩:=hc.reads;obtain⟨y0,y1⟩:=hc.b8;obtain⟨z0,z1⟩:=hc.ao;obtain⟨u0,u1⟩:=hc.aB;obtain⟨t0,t1⟩:=hc.aC;have kn:=hc.nb;have kf:=hc.fit;have e:c.nb=c.c0+c.c1+c.c2+c.c3:=rfl;have e':c.hw=c.c0+c.c1*2+c.c2*4+c.c3*8:=rfl;have hh:=uC c hc;have He:=Am c hc;dsimp only[bu.v]at hh He ⊢;have fL:¬c.au=0:=Ya
 refine W (J3 (od oLay_1) @hh @He) (J2 fL bL) (J3 ?_ ?_ ?_)<;>intros
 all_goals(
  refine⟨_,by (simp;rfl),?_,q8 _ _⟩;unfold fU
  first|(rw[ar (by simp_all;omega)];done)|(rw[az Ya];done))
def DL {c:bu}(hc:dl c)(b:Int)(h:0<=b/\b<c.nb):(0<=eE c b/\eE c b<=3)/\0<=i5 c b/\i5 c b+2 ^ (eE c b).toNat<=c.bm:=by obtain⟨w0,w1⟩:=hc.bm;obtain⟨r0,r1⟩:=hc.au;obtain⟨k0,KU⟩:=hc.k0;obtain⟨k1,OF⟩:=hc.k1;obtain⟨k2,SG⟩:=hc.k2;obtain⟨k3,k3'⟩:=hc.k3;obtain⟨b0,b1⟩:=hc.base;obtain⟨x0,x1⟩:=hc.reads;obtain⟨y0,y1⟩:=hc.b8;obtain⟨z0,z1⟩:=hc.ao;obtain⟨u0,u1⟩:=hc.aB;obtain⟨t0,t1⟩:=hc.aC;have kn:=hc.nb;have kf:=hc.fit;have e:c.nb=c.c0+c.c1+c.c2+c.c3:=rfl;have e':c.hw=c.c0+c.c1*2+c.c2*4+c.c3*8:=rfl;have ur:c.hw<=c.bm-c.base:=kf;unfold eE i5 GJ;rw[ar Ya];split;simp;omega;split;simp;omega;split;simp;omega;split;simp;omega;omega
end
section
open T7
variable [Gl]
def Tn {c:bu}{a:Int}(h:∀b:Nat,(b:Int)<c.nb->i5 c b≠a):mq c a = -1:=by
 unfold mq;have:(Zt c.nb.toNat).find? (λb:Nat=>i5 c (b:Int) == a)=qk:=by
  rw[List.find?_eq_none];intro x hx;have:=Zr.1 hx
  simpa using h x Ya
 rw[this]
def Tm {c:bu}{a:Int}{b:Nat}(hb:(b:Int)<c.nb)(h:i5 c b=a)(h':∀j:Nat,j<b->i5 c j≠a):mq c a=b:=by
 unfold mq;have:(Zt c.nb.toNat).find? (λb:Nat=>i5 c (b:Int) == a)=qf b:=by
  rw[List.find?_eq_some_iff_append];refine⟨by simpa using h,Zt b,(Zt (c.nb.toNat-b-1)).map (·+ (b+1)),?_,λx hx=>?_⟩;have:c.nb.toNat=b+(1+(c.nb.toNat-b-1)):=Ya
  rw[this,List.range_add,List.range_add];simp;intro q _;omega;have:=Zr.1 hx
  simpa using h' x this
 rw[this]
def WN (c:bu)(hc:dl c)(a:Int)(A:AW):aE qZ 227 [c.v,qh qr a] A (λv A'=>v=qh qg (mq c a)/\A=A'):=by
 refine aE.wy (V:=qh qg (mq c a)) Yb (λhw=>?_) Yf;refine aO Tryz.func227 λ_=>?_;obtain⟨w0,w1⟩:=hc.bm;obtain⟨r0,r1⟩:=hc.au;obtain⟨k0,KU⟩:=hc.k0;obtain⟨k1,OF⟩:=hc.k1;obtain⟨k2,SG⟩:=hc.k2;obtain⟨k3,k3'⟩:=hc.k3;obtain⟨b0,b1⟩:=hc.base;obtain⟨x0,x1⟩:=hc.reads;obtain⟨y0,y1⟩:=hc.b8;obtain⟨z0,z1⟩:=hc.ao;obtain⟨u0,u1⟩:=hc.aB;obtain⟨t0,t1⟩:=hc.aC;have kn:=hc.nb;have kf:=hc.fit;have e:c.nb=c.c0+c.c1+c.c2+c.c3:=rfl;have e':c.hw=c.c0+c.c1*2+c.c2*4+c.c3*8:=rfl;have hh:=Am c hc;have He:=λb hb=>I7 c hc b hb;have IQ:0<=c.nb:=Ya
 obtain⟨n,hn⟩:∃n:Nat,c.nb=n:=⟨c.nb.toNat,by omega⟩;have RB:n<=64:=Ya
 rw[hn]at hh;dsimp only[bu.v]at hh He ⊢;revert hw;(repeat revert hc);refine W (J1 @hh) (J1 bL) ?_<;>(unhygienic intros);refine dO (λk fr A'=>A'=A.alloc (qm c.cells qj 1)/\∃i:Nat,k=n-i/\i<=n/\fr 1=qh qr a/\fr 2=qs (qf ⟨A.next,0,qk⟩)/\fr 7=qh qg n/\fr 8=qh qg i/\∀j:Nat,j<i->i5 c j≠a) n ?_ ?_;refine⟨rfl,0,by simp,by simp,rfl,rfl,rfl,rfl,by simp⟩;rintro k fr A'⟨rfl,i,rfl,hi,h1,h2,h7,h8,hj⟩;dsimp only[bu.cells];by_cases b9:i<n
 . have gf:(i:Int)<n:=Ya;have ij:=C0 (i:=i);have hf:=DL hc i Ya;have hp:(0:Int)<2 ^ (eE c i).toNat:=Int.pow_pos Ya;have Rx:Zc.wrap (i5 c i)=i5 c i:=ax Ya Ya;refine aU ?_;by_cases hx:i5 c i=a
   . repeat' (first|(refine lz λR hR=>?_;simp[h1,h2,h7,h8,gf,hx,AW.ab];try simp(disch:=omega)only[ax])|(refine hR _ _ ?_;clear hR R)|(refine hK _ _ ?_;clear hK K)|refine nx ?_|refine wn λK hK=>?_|simp only[wS]|(refine bT (He _ Ya _) ?_;rintro _ _⟨rfl,rfl⟩_ _)|(show df _ _ _ _ _ _;refine nx ?_)|(refine wc rfl (λhc=>?_) (λhc=>?_)<;>(try simp at hc)))
     refine⟨_,by (simp;rfl),by rw[Tm Ya hx hj],q8 _ _⟩
   . repeat' (first|(refine lz λR hR=>?_;simp[h1,h2,h7,h8,gf,ij,Rx,hx,AW.ab];try simp(disch:=omega)only[az,ar,an,ax])|(refine hR _ _ ?_;clear hR R)|(refine hK _ _ ?_;clear hK K)|refine nx ?_|refine wn λK hK=>?_|simp only[wS]|(refine bT (He _ Ya _) ?_;rintro _ _⟨rfl,rfl⟩_ _)|(show df _ _ _ _ _ _;refine nx ?_)|(refine wc rfl (λhc=>?_) (λhc=>?_)<;>(try simp at hc)))
     refine⟨n-(i+1),by omega,rfl,i+1,rfl,by omega,by simp[h1],by simp[h2],by simp[h7],by simp,λj BP=>?_⟩;by_cases e:j=i;subst e;exact hx;exact hj j Ya
 have gf:¬(i:Int)<n:=Ya
 refine aU ?_;refine W (J1 @hh) (J7 h1 h2 h7 h8 b9 gf bL) ?_<;>intros;refine⟨_,by (simp;rfl),by rw[Tn λb hb=>hj b Ya],q8 _ _⟩
end
section
open T7
variable [Gl]
def PE (n:Int)(A:AW)(hn:0<=n/\n<=32):aE qZ 220 [qh qg n] A (λv A'=>v=qs (qf ⟨A.next,0,qk⟩)/\A'=A.alloc (zg n.toNat (.slice qk 0 0))):=by
 refine aO Tryz.func220 λ_=>?_;obtain⟨k,rfl⟩:∃k:Nat,n=k:=⟨n.toNat,by omega⟩;have e1:min (k:Int) 32=k:=Ya
 have e2:max 0 (k:Int)=k:=Ya
 have e3:(if 0<k then (k:Int) else 0)=k:=by split<;>omega
 refine W db (J3 e1 e2 @zg.eq_1) ?_<;>intros;refine⟨_,rfl,rfl,?_⟩;simp[e3,zg]
def TC (b fg:Nat)(va vv vi:qi)(cZ:List Int)(hl:U cZ<=64):
 bz qZ 255 [qs (qf ⟨b,0,qk⟩)] [.at b (mZ fg va vv vi),.h (ay qg vi cZ)] (λ_=>True)
  (λ_=>[.at b (mZ fg (.slice qk 0 0) (.slice qk 0 0) vi),.h (ay qg vi (q9 (U cZ) (-1)))]):=by
 intro A F hw hS;refine aO Tryz.func255 λ_=>?_;dsimp only[aa,ah]at hS;have hg:=hS.g 0 rfl;obtain⟨oi,ci,rfl,_⟩:=(aj.wu hS (.s .z)).cL;dsimp only[mZ]at hg;revert hS hw;refine W db (J2 hg bL) ?_<;>(unhygienic intros)
 refine dO (λk fr A'=>A'.Wf/\∃i:Nat,k=U cZ-i/\i<=U cZ/\fr 0=qs (qf ⟨b,0,qk⟩)/\fr 15=qh qg (U cZ)/\fr 16=qh qg i/\
  aj A' (.at b (mZ fg (.slice qk 0 0) (.slice qk 0 0) (.slice oi (U cZ) ci))::.h (ay qg (.slice oi (U cZ) ci) (q9 i (-1)++cZ.drop i))::[.h F])) (U cZ) ?_ ?_
 . refine⟨?_,0,by simp,by simp,rfl,by simp,by simp,?_⟩
   . repeat' (first|assumption|apply AW.Wf.set|apply aj.ltR hS hw .z|exact Nat.le_refl _)
   simp only[List.replicate_zero,ah,List.drop_zero];refine aj.bZ (aj.io (aj.io hS .z) .z) (.s .z (.s .z (.s .z .z)))
 rintro k fr A'⟨lC,i,rfl,hi,h0,h15,Kg,sG⟩;have Ke:=sG.g 0 rfl;dsimp only[mZ]at Ke;refine aU ?_;by_cases b9:i<U cZ;have gf:(i:Int)<U cZ:=Ya
 have ij:=C0 (i:=i);have cy:U (q9 i (-1:Int)++cZ.drop i)=U cZ:=by simp;omega
 obtain⟨bi,Ni,ci',R4,hv,Bs,bP,jM,jH⟩:=aj.Ut sG (.s .z) (j:=i) Ya;rw[cy]at hv Bs;injection hv with hv1 hv2 hv3;subst hv1;subst hv3;have hgi:=jH.g 0 rfl;have Qg:Ni+i<U R4:=Ya
 refine W db (Ls h0 h15 Kg Ke hgi b9 gf ij bP Qg bL) ?_<;>intros;refine⟨U cZ-(i+1),by omega,?_,i+1,rfl,by omega,by simp[h0],by simp[h15],by simp,?_⟩;exact lC.set _ (lC.lt hgi);have h9:=jM (-1) _ _ (aj.io jH .z);have e9:(q9 i (-1:Int)++cZ.drop i).set i (-1)=q9 (i+1) (-1)++cZ.drop (i+1):=by rw[List.set_append_right _ _ Yb];simp only[ka8,Nat.sub_self];rw[List.drop_eq_getElem_cons b9,List.set_cons_zero,List.replicate_succ',List.append_assoc];rfl
 rw[e9]at h9;exact aj.bZ h9 (.s (.s .z) (.s .z (.s .z .z)));have NE:i=U cZ:=Ya
 subst NE;refine W db (J5 h0 h15 Kg Ke bL) ?_<;>intros;refine⟨_,rfl,trivial,?_⟩;have e9:q9 (U cZ) (-1:Int)++cZ.drop (U cZ)=q9 (U cZ) (-1):=Yb
 rw[e9]at sG;exact aj.bZ sG (.s .z (.s .z (.s .z .z)))
def ay.make0 {A:AW}{F:HP}(n:Nat)(h:bD A F)(hw:A.Wf):bD (A.alloc (qm (fH [qh qg 0] n) qj 1)) (ay qg (.slice (qf ⟨A.next,0,qk⟩) n n) (q9 n 0)*F):=by
 have cy:U (fH [Zl qg 0] n)=n:=by simp[kG]
 have hcs:(q9 n (0:Int)).map (Zl qg)=fH [Zl qg 0] n:=by
  clear cy
  induction n with
  |zero=>rfl
  |succ n ih=>rw[List.replicate_succ,List.map_cons,ih];rfl
 exact X3
def lenF (w:Nat):Nat:=if w<=0 then 1 else if w<=1 then 2 else if w<=2 then 4 else if w<=4 then 8 else if w<=8 then 16 else if w<=16 then 32 else 64
def Ss (w:Nat):jF w=⟨w,[],[],q9 (lenF w) (-1)⟩:=by
 have h:∀k:Nat,((w:Int)<=k)=(w<=k):=λk=>propext Ya;have e:(if (w:Int)<=0 then 1 else if (w:Int)<=1 then 2 else if (w:Int)<=2 then 4 else if (w:Int)<=4 then 8 else if (w:Int)<=8 then 16 else if (w:Int)<=16 then 32 else 64)=lenF w:=by
  unfold lenF
  repeat' split
  all_goals(first|rfl|omega)
 unfold jF;rw[e];rfl
def lenF_of {p w:Nat}(hw:w<=32)(h:p=1\/p=2\/p=4\/p=8\/p=16\/p=32\/p=64)(h1:p=1\/p<4*w)(h2:2*w<=p):p=lenF w:=by
 unfold lenF
 repeat' split
 all_goals omega
def PG (w:Nat)(hwr:w<=32)(A:AW)(L:List It)(hw:A.Wf)(hS:aj A L):
 aE qZ 221 [qh qg w] A (λv A'=>∃b,v=qs (qf ⟨b,0,qk⟩)/\aj A' (.h (tG b (jF w))::L)):=by
 refine aO Tryz.func221 λ_=>?_;have e1:min (w:Int) 32=w:=Ya
 have e2:max 0 (w:Int)=w:=Ya
 have e3:(if 0<w then (w:Int) else 0)=w:=by split<;>omega
 revert hS hw;refine W db (J3 e1 e2 e3) ?_<;>(unhygienic intros)
 refine dO (λk fr A'=>A'=A.alloc (mZ w (.slice qk 0 0) (.slice qk 0 0) (.slice qk 0 0))/\∃p:Nat,k=64-p/\fr 3=qs (qf ⟨A.next,0,qk⟩)/\fr 4=qh qg p/\
  (p=1\/p=2\/p=4\/p=8\/p=16\/p=32\/p=64)/\(p=1\/p<4*w)) 63 ?_ ?_
 refine⟨?_,1,by simp,by simp,by simp,by simp,by simp⟩;simp[mZ];rintro k fr A'⟨rfl,p,rfl,h3,h4,hp,yY⟩;have wx:(A.alloc (mZ w (.slice qk 0 0) (.slice qk 0 0) (.slice qk 0 0))).bk A.next=qf (qm [qh qg w,.slice qk 0 0,.slice qk 0 0,.slice qk 0 0] qj 1):=by simp[mZ]
 have hwl:=hw.alloc (mZ w (.slice qk 0 0) (.slice qk 0 0) (.slice qk 0 0));have hSl:=hS.alloc hw (mZ w (.slice qk 0 0) (.slice qk 0 0) (.slice qk 0 0));generalize A.alloc (mZ w (.slice qk 0 0) (.slice qk 0 0) (.slice qk 0 0))=A1 at *;have ij:Zb.wrap ((p:Int)*2)=((p*2:Nat):Int):=by rw[an Ya Ya];omega
 refine aU ?_;by_cases b9:p<2*w;have gf:(p:Int)<2*w:=Ya
 refine W db (J6 h3 h4 wx gf ij bL) ?_<;>intros;refine⟨64-p*2,by omega,rfl,p*2,rfl,by simp[h3],by simp,by omega,by omega⟩;have gf:¬(p:Int)<2*w:=Ya
 have hpe:=lenF_of hwr hp yY Ya;have fL:(A.next=A1.next)=False:=eq_false (by have:=hwl.lt wx;omega);have jK:aj (A1.alloc (qm (fH [qh qg 0] p) qj 1)) (.h (ay qg (.slice (qf ⟨A1.next,0,qk⟩) p p) (q9 p 0))::.at A.next (mZ w (.slice qk 0 0) (.slice qk 0 0) (.slice qk 0 0))::L):=ay.make0 p hSl hwl;have hS:=jK;have hw:=hwl.alloc (qm (fH [qh qg 0] p) qj 1);revert hS hw;(repeat first|clear hS|clear hw);refine W db (J6 h3 h4 wx gf fL bL) ?_<;>(unhygienic intros);refine bz.gk (TC A.next w (.slice qk 0 0) (.slice qk 0 0) (.slice (qf ⟨A1.next,0,qk⟩) p p) (q9 p 0) Yg) (hw.set _ (by simp;have:=hwl.lt wx;omega)) (aj.io hS (.s .z)) (.s .z (.s .z .z)) ?_;rintro _ A3 _ hS hw _;simp only[ka8]at hS;revert hS hw;(repeat first|clear hS|clear hw|revert hc|revert R|revert K);refine W db (J2 h3 bL) ?_<;>(unhygienic intros)
 refine⟨_,by (simp;done),A.next,rfl,?_⟩;rw[Ss,<-hpe];have h1:aj A3 (.h (ay qg (.slice qk 0 0) [])::.h (ay qr (.slice qk 0 0) [])::_):=ay.nil (k:=qg) (ay.nil (k:=qr) hS);exact tG.eB (s:=⟨w,[],[],q9 p (-1)⟩) (va:=.slice qk 0 0) (vv:=.slice qk 0 0) (vi:=.slice (qf ⟨A1.next,0,qk⟩) p p) h1 (.s (.s (.s .z)) (.s .z (.s .z (.s .z .z))))
end
section
abbrev Dz:List (Nat×Nat):=[(0,0),(1,0),(2,0),(3,0),(4,0),(5,0),(6,0),(7,0),(8,0),(9,0),(10,0),(11,0),(12,0),(13,3)]
abbrev Dy:List (Nat×Nat):=[(0,0),(1,0),(2,0),(3,0),(4,0),(5,0),(6,0),(7,0),(8,0),(9,0),(10,0)]
abbrev Dx:List (Nat×Nat):=[(0,0),(1,0),(2,0),(3,0),(4,0),(5,0),(6,0),(7,0),(8,0),(9,0),(10,0),(11,3)]
open T7
variable [Gl]
def F2 (b:Nat)(s:wj)(a v:Int)(ki:sz s)(ha:0<=a)(AV:s.fg<=32)(OL:U s.index<=64):
 bz qZ 219 [qs (qf ⟨b,0,qk⟩),qh qg a,qh qr v] [.h (tG b s)] (λu=>u=qt (gD s a v).1) (λ_=>[.h (tG b (gD s a v).2)]):=by
 intro A F hw dU;refine aO Tryz.func219 λ_=>?_;obtain⟨va,vv,vi,hS⟩:=tG.open dU .z
 try dsimp only[aa,ah]at hS
 have hIa:=aj.wu hS (.s .z);have hIv:=aj.wu hS (.s (.s .z));have hIi:=aj.wu hS (.s (.s (.s .z)));have wx:=hS.g 0 rfl;obtain⟨p,hp,ry,mT⟩:=FV b va vv vi s a A ki ha AV OL wx hIa hIi;have cy:U s.bU<=32:=Nat.le_trans ki.fg AV;have hlv:=ki.SE;have hg:=wx;dsimp only[mZ]at hg;obtain⟨oa,ca,rfl,_⟩:=hIa.cL;obtain⟨ov,cv,rfl,_⟩:=hIv.cL;obtain⟨bi,Ni,ci,R4,rfl,Bs,bP,jM,jH⟩:=aj.Ut hS (.s (.s (.s .z))) hp;have hgi:=jH.g 0 rfl;have ha':¬a<0:=Ya
 have hpi:(p:Int)<U s.index:=Ya
 have hixp:s.index.getD p 0=ix s.index p:=by unfold ix;rw[Ze,Ze,Zf hp];rfl
 rw[hixp]at bP;rcases ry with ⟨e,Ww,hix⟩|⟨Ww,Qe,vU⟩;rw[hix]at bP;have b9:e<U s.gi:=by rw[ki.SE];exact(ye Ww).1
 have ru:gD s a v=(qj,{ s with gi:=s.gi.set e v }):=by simp[gD,Ww]
 obtain⟨bv,offv,cv',rowv,hv,hbv,hrowv,hsetv,jK⟩:=aj.Ut jH (.s (.s (.s .z))) b9;injection hv with hv1 hv2 hv3;subst hv1;subst hv3;have xY:=jK.g 0 rfl;refine W (J4 (od Dz) (od Dy) (od Dx) @mT) (Hr hg ha' hgi xY bP hrowv b9 hp hpi bL) ?_<;>intros;refine⟨_,by rfl,by simp[ru],?_⟩;rw[ru];have h1:=hsetv v _ _ (aj.io jK .z);have h2:=aj.bZ h1 (G:=.at bi (qm R4 qj 1)::.h (ay qr (.slice (qf ⟨bv,offv,qk⟩) (U s.gi) cv) (s.gi.set e v))::.at b (mZ s.fg (.slice oa (U s.bU) ca) (.slice (qf ⟨bv,offv,qk⟩) (U s.gi) cv) (.slice (qf ⟨bi,Ni,qk⟩) (U s.index) ci))::.h (ay qg (.slice oa (U s.bU) ca) s.bU)::[.h F]) (.s (.s .z) (.s .z (.s .z (.s .z (.s .z .z)))));have h3:=jM (s.index.getD p 0) _ _ (by
  have e1:R4.set (Ni+p) (qh qg (s.index.getD p 0))=R4:=by apply kaO;intro q;by_cases eq:Ni+p=q;subst eq;rw[ZN Ya,hixp,bP,hix];rw[ZT eq]
  rw[e1];exact h2)
 have e2:s.index.set p (s.index.getD p 0)=s.index:=by apply kaO;intro q;by_cases eq:p=q;subst eq;rw[ZN hp,Ze,Zf hp];rfl;rw[ZT eq]
 rw[e2]at h3
 exact tG.eB (s:={ s with gi:=s.gi.set e v }) (va:=.slice oa (U s.bU) ca) (vv:=.slice (qf ⟨bv,offv,qk⟩) (U s.gi) cv) (vi:=.slice (qf ⟨bi,Ni,qk⟩) (U s.index) ci)
  h3 (.s (.s (.s .z)) (.s (.s (.s .z)) (.s (.s .z) (.s .z .z))))
 have hneg':¬0<=ix s.index p:=Ya
 by_cases hfull:U s.bU=s.fg;have ru:gD s a v=(qn,s):=by simp[gD,Ww,hfull]
 have h3:(U s.bU:Int)=s.fg:=Ya
 refine W (J4 (od Dz) (od Dy) (od Dx) @mT) (J9 hg ha' hgi bP hp hpi h3 hneg' @AW.ab) ?_<;>intros;refine⟨_,rfl,by simp[ru],?_⟩;rw[ru];exact dU;have ru:gD s a v=(qj,{ s with bU:=s.bU++[a],gi:=s.gi++[v],index:=s.index.set p (U s.bU) }):=by simp[gD,Ww,hfull,vU]
 have h3:¬(U s.bU:Int)=s.fg:=Ya
 have IP:(bi=b)=False:=eq_false (λe=>by have:=jH.fm hw;dsimp only[ba,bB,cd,fw]at this;have h5:=this.2.2.1.1.1;rw[h5]at e;exact e.elim)
 revert hS hw;refine W (J4 (od Dz) (od Dy) (od Dx) @mT) (Hr hg ha' hgi bP hp hpi h3 hneg' IP bL) ?_<;>(unhygienic intros);have hS:=jM (U s.bU) _ _ (aj.io jH .z);have hw:=hw.set (qf (qm (R4.set (Ni+p) (qh qg (U s.bU))) qj 1)) (hw.lt hgi);generalize A.set bi (qf (qm (R4.set (Ni+p) (qh qg (U s.bU))) qj 1))=A1 at *;have hq:=hqx8 hS hw
 repeat' (first|(with_reducible apply twI;(·(simp;rfl));(·(simp;rfl));(·exact wA);(·exact sA);(·exact kA);(·(simp;rfl));(·omega);(·exact λA' wY=>Xe);rintro _ _ _ hS hw _;have hq:=gv hS hw)|(with_reducible apply twU;(·(simp;rfl));(·(simp;rfl));(·exact wA);(·exact sA);(·exact kA);(·first|(simp;rfl)|(simp[hq];rfl));(·omega);(·exact λA' wY=>Xe);rintro _ _ _ hS hw _;have hq:=gv hS hw)|(refine Rv (λR hR=>?_) (λR hR=>?_)<;>(first|(with_reducible apply lhI;(·(simp;rfl));(·(simp;rfl));(·exact wA);(·exact sA);(·exact kA);(·(simp;rfl));(·omega);(·exact λA' wY=>Xe);rintro _ _ _ hS hw _;have hq:=gv hS hw)|(simp[];try simp(disch:=omega)only[az,ar,an,ax])))|(refine lz λR hR=>?_;simp[];try simp(disch:=omega)only[az,ar,an,ax])|(refine hR _ _ ?_;clear hR R)|(refine hK _ _ ?_;clear hK K)|refine nx ?_|(refine VC λR hR=>?_;simp[hq,AW.ab,aI];try simp(disch:=omega)only[az,ar,an,ax])|refine VB ?_|refine wn λK hK=>?_|simp only[wS]|simp only[bK,wD,ml,Option.map_none,List.getElem?_toArray,List.getElem?_cons_zero,List.getElem?_cons_succ,List.getD_cons_zero,List.getD_cons_succ]|(refine ⟨λA' wY=>by simp[wY],?_⟩)|(refine wt (λA'=>A'.bk b=qf (qm [qh qg s.fg,.slice oa (U s.bU) ca,.slice ov (U s.gi) cv,.slice (qf ⟨bi,Ni,qk⟩) (U s.index) ci] qj 1)) Zm [0,0,0,0,0,1,0,2,3,0,0,0,1,0,2,3,0,0,4,0,0,4] (.aM 0 (.aM 1 (.aM 2 (.aM 3 (.aM 4 (.aM 5 (.aM 6 (.aM 9 (.aM 10 (.aM 11 (.aM 12 (.aM 13 (.wm 7 (.wm 8 (.aM 14 (.aM 15 (.aM 16 (.aM 17 (.aM 18 (.aM 19 (.aM 20 (.aM 21 .nil)))))))) 14 (.aM 8 (.aM 15 (.aM 16 (.aM 17 (.aM 18 (.aM 19 (.aM 20 (.aM 21 .nil))))))))) 14 (.aM 7 (.aM 8 (.aM 15 (.aM 16 (.aM 17 (.aM 18 (.aM 19 (.aM 20 (.aM 21 .nil)))))))))))))))))))))) Yc λK hK=>?_)|(show df _ _ _ _ _ _;refine nx ?_))
 all_goals(
  refine⟨_,by (simp;rfl),by simp[ru],?_⟩;rw[ru];apply aj.bZ;apply tG.eB (s:={ s with bU:=s.bU++[a],gi:=s.gi++[v],index:=s.index.set p (U s.bU) })
  (·exact sA)
  (·exact pA)
  exact pA)
end
section
abbrev oMachB_0:List (Nat×Nat):=[(0,0),(1,0),(2,0),(3,0),(4,0),(5,0),(6,0),(7,0),(8,0),(9,2),(10,0),(11,0),(12,3),(13,0),(14,0),(15,0),(16,3)]
abbrev oMachB_1:List (Nat×Nat):=[(0,0),(1,0),(2,0),(3,0),(4,0),(5,0),(6,0),(7,0),(8,2),(9,0),(10,0),(11,0),(12,0),(13,0)]
abbrev oMachB_2:List (Nat×Nat):=[(0,0),(1,0),(2,0),(3,0),(4,0),(5,0),(6,0),(7,0),(8,0),(9,0),(10,3),(11,0),(12,0),(13,0),(14,3)]
abbrev Py:List (Nat×Nat):=[(0,0),(1,0),(2,0),(3,0),(4,2),(5,0),(6,0),(7,0),(8,0),(9,0),(10,0),(12,0),(13,0),(14,0),(15,0),(11,2),(16,0),(17,0)]
abbrev Px:List (Nat×Nat):=[(0,0),(1,0),(2,0),(3,0),(4,0),(5,0),(6,0),(7,0),(8,0),(9,0),(10,0),(11,3),(12,0),(13,0),(14,3)]
open T0
variable [Gl]
def DH (c k:Int)(A:AW):aE qZ 105 [qh qg c,qh qg k] A (λv A'=>v=qs (qf ⟨A.next,0,qk⟩)/\A'=A.alloc (iW ⟨c,k,0,0⟩)):=by refine aO Tryz.func105 λ_=>?_;refine W db db ?_<;>intros;exact XU
def BI (b:Nat)(s:gy)(A:AW)(hg:A.bk b=qf (iW s)):fQ 108 [qs (qf ⟨b,0,qk⟩)] A (qt (decide (s.bR=3))):=by refine aO Tryz.func108 λ_=>?_;dsimp only[iW]at hg;exact XS
def Ur (s:gy):Int:=Zc.wrap (Zb.wrap (j7 s.head+1))
def Sc (s:gy)(M:Mm):
 (s.bR=0/\dD s M=(iy M 7 s.fa,{ s with head:=(iy M 7 s.fa).eV,bR:=1 },M)) \/
 (s.bR=1/\dD s M=(FG M 8 s.block (Ur s),{ s with bR:=2 },BC M 8 s.block (Ur s))) \/
 ((s.bR=2/\(J0 M 7 s.fa s.head (sr s.head s.block)).done=qj)/\dD s M=(J0 M 7 s.fa s.head (sr s.head s.block),{ s with bR:=3 },swM M 7 s.fa s.head (sr s.head s.block))) \/
 ((s.bR=2/\(J0 M 7 s.fa s.head (sr s.head s.block)).done=qn)/\dD s M=(J0 M 7 s.fa s.head (sr s.head s.block),{ s with bR:=0 },swM M 7 s.fa s.head (sr s.head s.block))) \/
 ((¬s.bR=0/\¬s.bR=1/\¬s.bR=2)/\dD s M=(bj.zero,s,M)):=by unfold dD;by_cases h0:s.bR=0;simp[h0];by_cases h1:s.bR=1;simp[h1,Ur];by_cases h2:s.bR=2;cases h3:(J0 M 7 s.fa s.head (sr s.head s.block)).done<;>simp[h2,h3];simp[h0,h1,h2]
def vO (b pb:Nat)(s:gy)(M:Mm):
 bz qZ 107 [qs (qf ⟨b,0,qk⟩),qs (qf ⟨pb,0,qk⟩)] [.at b (iW s),eA pb M]
  (λv=>v=(dD s M).1.v) (λ_=>[.at b (iW (dD s M).2.1),eA pb (dD s M).2.2]):=by
 intro A F hw hS;refine aO Tryz.func107 λ_=>?_;have hq:=P6 hS hw;rcases Sc s M with ⟨h,e⟩|⟨h,e⟩|⟨h,e⟩|⟨h,e⟩|⟨h,e⟩
 all_goals(try simp only[Ur]at e)
 all_goals(revert hq hS hw;refine W (J8 (od oMachB_0) (od oMachB_1) (od oMachB_2) @LO @Id (swL pb) (stL pb) (ldL pb)) (J4 h bL @bx.eq_1 @bj.v.eq_1) ?_<;>unhygienic intros)
 all_goals(
  try rw[e]
  refine⟨_,by simp[AW.ab];rfl,by simp[bj.v,bj.zero,h],?_⟩;apply aj.bZ
  (·exact sA)
  (·repeat' (first|apply bd.z|apply bd.s|apply aF.z|apply aF.s)))
def BG (b:Nat)(s:hY)(A:AW)(hg:A.bk b=qf (jB s)):fQ 178 [qs (qf ⟨b,0,qk⟩)] A (qt s.done):=by refine aO Tryz.func178 λ_=>?_;dsimp only[jB]at hg;exact XS
def Dk (b:Nat)(s:hY)(A:AW)(hg:A.bk b=qf (jB s)):fQ 179 [qs (qf ⟨b,0,qk⟩)] A (qt s.iO):=by refine aO Tryz.func179 λ_=>?_;dsimp only[jB]at hg;exact XS
def H6 (b:Nat)(s:hY)(A:AW)(hg:A.bk b=qf (jB s)):fQ 184 [qs (qf ⟨b,0,qk⟩)] A (qh qr s.val):=by
 refine aO Tryz.func184 λ_=>?_;have Ke:=hg;dsimp only[jB]at Ke;by_cases h1:s.bR=3<;>cases h2:s.iO
 all_goals(refine W (J1 (BG b s _ hg)) (J5 Ke h1 h2 @hY.done.eq_1 @AW.ab) ?_<;>unhygienic intros)
 all_goals exact⟨_,rfl,by simp[hY.val,h1,h2],rfl⟩
def tY (s:hY)(M:Mm):
 ((s.bR=0/\0<=mo (iy M 2 s.gz).eV)/\dh s M=(iy M 2 s.gz,{ s with dC:=(iy M 2 s.gz).eV,iO:=qj,bR:=3 },M)) \/
 (((s.bR=0/\¬0<=mo (iy M 2 s.gz).eV)/\s.rv<jO (iy M 2 s.gz).eV)/\dh s M=(iy M 2 s.gz,{ s with dC:=(iy M 2 s.gz).eV,iO:=qj,bR:=3 },M)) \/
 (((s.bR=0/\¬0<=mo (iy M 2 s.gz).eV)/\¬s.rv<jO (iy M 2 s.gz).eV)/\dh s M=(iy M 2 s.gz,{ s with dC:=(iy M 2 s.gz).eV,bR:=1 },M)) \/
 (s.bR=1/\dh s M=(iy M 1 s.cr,{ s with value:=(iy M 1 s.cr).eV,bR:=2 },M)) \/
 (s.bR=2/\dh s M=(iy M 2 s.gz,{ s with iO:=decide ((iy M 2 s.gz).eV≠s.dC),bR:=3 },M)) \/
 ((¬s.bR=0/\¬s.bR=1/\¬s.bR=2)/\dh s M=(bj.zero,s,M)):=by unfold dh;by_cases h0:s.bR=0;by_cases h1:0<=mo (iy M 2 s.gz).eV<;>by_cases h2:s.rv<jO (iy M 2 s.gz).eV<;>simp[h0,h1,h2];by_cases h1:s.bR=1;simp[h1];by_cases h2:s.bR=2;simp[h2];simp[h0,h1,h2]
def BF (b pb:Nat)(s:hY)(M:Mm):
 bz qZ 177 [qs (qf ⟨b,0,qk⟩),qs (qf ⟨pb,0,qk⟩)] [.at b (jB s),eA pb M]
  (λv=>v=(dh s M).1.v) (λ_=>[.at b (jB (dh s M).2.1),eA pb (dh s M).2.2]):=by
 intro A F hw hS;refine aO Tryz.func177 λ_=>?_;have hq:=P6 hS hw;rcases tY s M with ⟨h,e⟩|⟨h,e⟩|⟨h,e⟩|⟨h,e⟩|⟨h,e⟩|⟨h,e⟩
 repeat' (first|(refine lz λR hR=>?_;simp[hq,h,AW.ab,aI,bj.v];try simp(disch:=omega)only[az,ar,an,ax])|(refine hR _ _ ?_;clear hR R)|(refine hK _ _ ?_;clear hK K)|refine nx ?_|refine wn λK hK=>?_|simp only[wS,Py,Px]|refine wl Zm Py Yc λK hK=>?_|refine wl Zm Px Yc λK hK=>?_|(refine bT (Dr _ _) ?_;rintro _ _⟨rfl,rfl⟩_ _)|(refine bT (BH _ _) ?_;rintro _ _⟨rfl,rfl⟩_ _)|(apply bz.gk (ldL pb _ _ _);(·exact wA);(·exact sA);(·exact pA);rintro _ _ rfl hS hw _;have hS:=lA hS;have hq:=P6 hS hw)|(show df _ _ _ _ _ _;refine nx ?_)|(refine wc rfl (λhc=>?_) (λhc=>?_)<;>(try simp at hc)))
 all_goals(
  try rw[e]
  refine⟨_,by simp[AW.ab];rfl,by simp[bj.v,bj.zero],?_⟩;apply aj.bZ
  (·exact sA)
  (·repeat' (first|apply bd.z|apply bd.s|apply aF.z|(apply aF.OE;simp[jB];done)|apply aF.s)))
end
section
abbrev wN:List (Nat×Nat):=[(0,0),(1,0),(2,0),(4,0),(5,0),(6,0),(3,2),(7,2),(8,0),(9,2),(10,0)]
open T7
variable [Gl]
def KM (vi vw:qi)(l ws:List Int)(A:AW)(F:HP)(h:b5 A qg vi l)(h':b5 A qr vw ws)(he:U l=U ws)(hl:U l<2^38)(hw:A.Wf)(hS:bD A F):
 aE qZ 207 [vi,vw] A (λv A'=>∃b,v=qs (qf ⟨b,0,qk⟩)/\bD A' (jm b ⟨l,ws⟩*F)/\A.le A'):=by
 refine aO Tryz.func207 λ_=>?_;obtain⟨o,c,rfl,hc⟩:=h.cL;obtain⟨o',c',rfl,hc'⟩:=h'.cL;rw[<-he]at h' hc' ⊢;rcases o with _|p<;>rcases o' with _|q
 all_goals
  all_goals(revert hS hw;(repeat revert hc);refine W (J1 (od wN)) (J1 @fO.eq_1) ?_<;>unhygienic intros)
  refine bT (kJ _ l A h Ya) ?_;rintro u A1⟨h1,h2⟩jt _;refine⟨h2,?_⟩;obtain⟨o1,c1,rfl,_⟩:=h1.is.cL
  all_goals(revert hS hw;(repeat first|revert hc|revert R|revert K);refine W (J1 (od wN)) (J1 @fO.eq_1) ?_<;>unhygienic intros)
  refine bT (jL _ ws A1 (b5.le h2 hw h') Ya) ?_;rintro u2 A2⟨h3,h4⟩jG _;refine⟨h4,?_⟩;obtain⟨o2,c2,rfl,_⟩:=h3.is.cL
  all_goals(revert hS hw;(repeat first|revert hc|revert R|revert K);refine W (J1 (od wN)) (J1 @fO.eq_1) ?_<;>unhygienic intros)
  refine⟨_,by (simp;done),A2.next,rfl,?_,(h2.trans h4).trans (q8 _ _)⟩;have jH:=(ay.jh (ay.jh hS hw h2 h1) jt h4 h3).alloc jG (qm [.slice o1 (U l) c1,.slice o2 (U ws) c2] qj 1);refine jm.eB (vo:=.slice o1 (U l) c1) (vw:=.slice o2 (U ws) c2) ?_;exact jH.dJ Xv
def PC (vi vw:qi)(l ws:List Int)(A:AW)(F:HP)(h:b5 A qg vi l)(h':b5 A qr vw ws)(he:U l=U ws)(hl:U l<2^38)(hw:A.Wf)(hS:bD A F):
 aE qZ 201 [vi,vw] A (λv A'=>∃b,v=qs (qf ⟨b,0,qk⟩)/\bD A' (jm b ⟨l,ws⟩*F)/\A.le A'):=by
 refine aO Tryz.func201 λ_=>?_;obtain⟨o,c,rfl,hc⟩:=h.cL;obtain⟨o',c',rfl,hc'⟩:=h'.cL;rw[<-he]at h' hc' ⊢;rcases o with _|p<;>rcases o' with _|q
 all_goals
  all_goals(revert hS hw;(repeat revert hc);refine W (J1 (od wN)) (J1 @fO.eq_1) ?_<;>unhygienic intros)
  refine bT (kJ _ l A h Ya) ?_;rintro u A1⟨h1,h2⟩jt _;refine⟨h2,?_⟩;obtain⟨o1,c1,rfl,_⟩:=h1.is.cL
  all_goals(revert hS hw;(repeat first|revert hc|revert R|revert K);refine W (J1 (od wN)) (J1 @fO.eq_1) ?_<;>unhygienic intros)
  refine bT (jL _ ws A1 (b5.le h2 hw h') Ya) ?_;rintro u2 A2⟨h3,h4⟩jG _;refine⟨h4,?_⟩;obtain⟨o2,c2,rfl,_⟩:=h3.is.cL
  all_goals(revert hS hw;(repeat first|revert hc|revert R|revert K);refine W (J1 (od wN)) (J1 @fO.eq_1) ?_<;>unhygienic intros)
  refine⟨_,by (simp;done),A2.next,rfl,?_,(h2.trans h4).trans (q8 _ _)⟩;have jH:=(ay.jh (ay.jh hS hw h2 h1) jt h4 h3).alloc jG (qm [.slice o1 (U l) c1,.slice o2 (U ws) c2] qj 1);refine jm.eB (vo:=.slice o1 (U l) c1) (vw:=.slice o2 (U ws) c2) ?_;exact jH.dJ Xv
end
section
open T7
variable [Gl]
def Nq (t:Int)(vi:qi)(l:List Int)(A:AW)(F:HP)(h:b5 A qg vi l)(hl:U l<2^38)(hw:A.Wf)(hS:bD A F):
 aE qZ 216 [qh qg t,vi] A (λv A'=>∃b,v=qs (qf ⟨b,0,qk⟩)/\bD A' (jb b ⟨t,fC l,[],0,qn⟩*F)):=by refine aO Tryz.func216 λ_=>?_;revert hS hw;refine W db db ?_<;>(unhygienic intros);refine bT (FI vi l A h Ya) ?_;rintro u A1⟨h1,h2⟩jt _;obtain⟨o,c,rfl,_⟩:=h1.is.cL;revert hS hw;(repeat first|revert R|revert K);refine W db db ?_<;>(unhygienic intros);refine⟨_,by (simp;done),A1.next,rfl,?_⟩;have jH:=(ay.jh hS hw h2 h1).alloc jt (qm [qh qg t,.slice o (U (fC l)) c,.slice qk 0 0,qh qr 0,qt qn] qj 1);refine jb.eB (vo:=.slice o (U (fC l)) c) (vw:=.slice qk 0 0) ?_;have h0:=ay.nil (k:=qr) jH;exact h0.dJ (by show _=pt A1.next (qm [qh qg t,.slice o (U (fC l)) c,.slice qk 0 0,qh qr 0,qt qn] qj 1)*(ay qg (.slice o (U (fC l)) c) (fC l)*(ay qr (.slice qk 0 0) []*F));ac_rfl)
end
end Go.Stx
