/-
 One attempt, without the program: its state, what its requests and its steps do.
-/
import Derived.Test.YtejgooipbmnioaaGreatDoorG06
set_option linter.unusedVariables false
set_option linter.unusedSimpArgs false
set_option linter.unusedSectionVars false
set_option maxRecDepth 20000
set_option maxHeartbeats 4000000
namespace Go.Stx
open Go Go.Proofs
attribute [local irreducible] eg bn aC aV cR df TW cg lW
section
variable [Gl]
def td (c:bC) (b:Int):Int×Int:=
 if b<0 then (-1,-1)
 else if b<c.c0 then (0,c.base+b)
 else if b-c.c0<c.c1 then (1,c.base+c.c0+(b-c.c0)*2)
 else if b-c.c0-c.c1<c.c2 then (2,c.base+c.c0+c.c1*2+(b-c.c0-c.c1)*4)
 else if b-c.c0-c.c1-c.c2<c.c3 then (3,c.base+c.c0+c.c1*2+c.c2*4+(b-c.c0-c.c1-c.c2)*8)
 else (-1,-1)
def cG (c:bC) (b:Int):Int:=(td c b).1
def gs (c:bC) (b:Int):Int:=(td c b).2
def i9 (c:bC) (a:Int):Int:=match (List.range c.nb.toNat).find? (fun b:Nat=>gs c (b:Int) == a) with
 | some b=>b
 | none=>-1
def fD (c:bC) (a:Int):Int:=if 0≤a∧a<c.aQ+c.nb then a.tmod c.an else -1
inductive Fu where
 | qq
 | L4
 | bS (ay:Int)
 | take (v:Int)
 | k4 (a v:Int)
 | y6
 | cM (b v:Int)
inductive zM where
 | take
 | cM (b:Int)
inductive aU where
 | bK
 | gZ (k:Fu)
 | eN
 | bm (r:gN) (u:zM)
 | eL (p:oO)
 | eR
 | db
 | dM (c:gl)
 | cu
 | ee (w:iQ)
 | cD (w:iQ)
 | gV
 | fL
 | eK (p:fm)
 | hP
def aU.dT:aU→Int
 | .bK=>0 | .gZ _=>1 | .eN=>2 | .bm _ _=>3 | .eL _=>4 | .eR=>5 | .db=>6 | .dM _=>7
 | .cu=>8 | .ee _=>9 | .cD _=>10 | .gV=>11 | .fL=>12 | .eK _=>13 | .hP=>14
structure aT where
 cf:bC
 am:Int
 aA:Int
 ay:Int
 value:Int
 bL:Option gH
 aj:Bool
 reads:List Int
 ai:List Int
 av:List Int
 set:List Int
 bp:nK
 ax:Int
 an:List Int
 aI:Option gy
 aH:Option ju
 ao:Nat
 aG:aU
def aT.jt (s:aT):Bool:=!decide (s.aG.dT=0)
def aT.rv (s:aT):Int:=match s.bL with|some e=>e.Cn|none=>-1
def aT.gQ (s:aT):Bool:=decide (s.ay=1) && decide (0<s.bp.bU.length)
def aT.qE (s:aT):Int:=if s.aj=true∧s.gQ=true then IntKind.i64.wrap (IntKind.i64.wrap s.ax+1) else -1
def aT.dT (s:aT):Int:=match s.aH with|some t=>t.dT|none=>-1
def aT.eo (s:aT):List Int:=match s.aI with|some l=>l.eo|none=>[]
def gJ (s:aT):aT:=
 if s.ay=1∨s.ao=s.ai.length then { s with aG:=.hP }
 else { s with aG:=.eK ⟨cG s.cf (s.ai.getD s.ao 0),s.ai.getD s.ao 0,0,0⟩ }
def iY (s:aT) (ay:Int):aT:=gJ { s with ay:=ay }
def nk (s:aT) (ay:Int):aT:=
 if decide (ay=1) && decide (0<s.bp.bU.length) then
  let os:=dV (s.bp.bU.map (fD s.cf))
  { s with ay:=ay,an:=os,aI:=some ⟨s.am,dV os,[],0,false⟩,aG:=.eR }
 else { s with ay:=ay,aH:=some ⟨false,0,false⟩,aG:=.db }
def ga (s:aT):aT:=
 if s.an.length=0 then { s with aG:=.fL } else { s with aG:=.cD ⟨s.an,s.eo⟩ }
def jj (s:aT) (a v:Int):Bool×aT:=
 if (eB s.bp a v).1=true then (true,{ s with bp:=(eB s.bp a v).2 }) else (false,iY s 3)
def jK (s:aT) (b st:Int):aT:=
 if st≠IntKind.u64.wrap (IntKind.u64.wrap (cG s.cf b)+1) then nk s 8
 else if s.cf.av≤s.av.length then iY s 3
 else if (jj s (s.cf.aQ+b) 0).1=true then { (jj s (s.cf.aQ+b) 0).2 with av:=s.av++[b] } else (jj s (s.cf.aQ+b) 0).2
def gO:Nat→Int→aT→Bool×aT
 | 0,_,s=>(true,s)
 | n+1,a,s=>if (jj s a 0).1=true then gO n (a+1) (jj s a 0).2 else (false,(jj s a 0).2)
def fU (s:aT) (d5 iD:Int):aT:=
 if iD<0 then iY s 4
 else
  let s1:={ s with ai:=s.ai++[iD] }
  let r:=jj s1 (s.cf.aQ+iD) (d5+1)
  if r.1=true then
   let q:=gO (2 ^ d5.toNat) (gs s.cf iD) r.2
   if q.1=true then { q.2 with value:=IntKind.u64.wrap (gs s.cf iD) } else q.2
  else r.2
def rU (s:aT):Fu→aT
 | .qq=>nk s 7
 | .L4=>nk s 8
 | .bS ay=>nk s ay
 | .take v=>{ s with value:=v }
 | .k4 a v=>if s.cf.aQ≤a then nk s 7 else (jj s a v).2
 | .y6=>iY s 3
 | .cM b v=>jK s b v
def xR (s:aT) (v:Int):zM→aT
 | .take=>{ s with value:=v }
 | .cM b=>jK s b v
abbrev qy:=ba×Int×aT×Mm
def hW (s:aT) (M:Mm) (e:gH):qy:=
 let r:=gj e M
 let s1:={ s with bL:=some r.2.1 }
 if r.2.1.bX=3 then (r.1,4,{ s1 with aG:=.bK },r.2.2)
 else (r.1,if e.Cn≠r.2.1.Cn then 3 else 2,s1,r.2.2)
def dw (s:aT) (M:Mm) (c:gN) (u:zM):qy:=
 let r:=dE c M
 let s1:={ s with aG:=.bm r.2.1 u }
 if r.2.1.done=false then (r.1,5+c.bX,s1,r.2.2)
 else if r.2.1.gb=true then (r.1,5+c.bX,iY s1 9,r.2.2)
 else
  let s2:=if c.c8<s.cf.aQ∧¬c.c8∈s.reads then { s1 with reads:=s.reads++[c.c8] } else s1
  if (dF s.cf.reads.toNat s.set c.fO).1=true then (r.1,5+c.bX,xR { s2 with set:=(dF s.cf.reads.toNat s.set c.fO).2,aG:=.bK } r.2.1.val u,r.2.2)
  else (r.1,5+c.bX,iY s2 3,r.2.2)
def lN (s:aT) (M:Mm) (p:oO):qy:=
 let r:=fK p M
 (r.1,mO r.1,if r.2.1.bX=3 then fU { s with aG:=.bK } p.d5 r.2.1.block else { s with aG:=.eL r.2.1 },r.2.2)
def iw (s:aT) (M:Mm) (l:gy):qy:=
 let r:=eC l M
 let s1:={ s with aI:=some r.2.1 }
 (r.1,if r.1.fY=3 then 12 else 11,if r.2.1.done=true then { s1 with aH:=some ⟨false,0,false⟩,aG:=.db } else s1,r.2.2)
def go (s:aT) (M:Mm) (t:ju):qy:=
 let r:=gU t M
 let s1:={ s with aH:=some r.2.1 }
 (r.1,if r.1.fY=4 then 13 else 14,if r.2.1.done=true then { s1 with aG:=if s.set.length=0 then .cu else .dM ⟨s.set,s.rv,false⟩ } else s1,r.2.2)
def fZ (s:aT) (M:Mm) (c:gl):qy:=
 let r:=jG c M
 let s1:={ s with aG:=.dM r.2.1 }
 (r.1,15,if r.2.1.ik=true then ga { s1 with ay:=9 } else if r.2.1.done=true then { s1 with aG:=.cu } else s1,r.2.2)
def fp (s:aT) (M:Mm):qy:=
 let a:=gI M 3 0
 let s1:={ s with ax:=a.fg }
 (a,16,if s.gQ=true∧IntKind.u64.wrap s.cf.ax≤a.fg then ga { s1 with ay:=6 }
  else if s.gQ=true then { s1 with aj:=true,aG:=.ee ⟨s.bp.bU,s.bp.ey⟩ } else ga { s1 with aj:=true },M)
def gn (s:aT) (M:Mm) (w:iQ):qy:=
 let r:=lf w M
 (r.1,17,if r.2.1.done=true then { s with aG:=.cD ⟨s.an,List.replicate s.an.length (kN s.qE)⟩ } else { s with aG:=.ee r.2.1 },r.2.2)
def lL (s:aT) (M:Mm) (w:iQ):qy:=
 let r:=jz w M
 (r.1,18,{ s with aG:=if r.2.1.done=true then (if 0≤s.qE then .gV else .fL) else .cD r.2.1 },r.2.2)
def iJ (s:aT) (M:Mm) (p:fm):qy:=
 let r:=dP p M
 (r.1,gF r.1,if r.2.1.bX=3 then gJ { s with ao:=s.ao+1,aG:=.eK r.2.1 } else { s with aG:=.eK r.2.1 },r.2.2)
def cB (s:aT) (M:Mm):qy:=match s.aG with
 | .bK=>(ba.zero,0,s,M)
 | .gZ k=>(ba.zero,0,rU { s with aG:=.bK } k,M)
 | .eN=>match s.bL with
   | some e=>hW s M e
   | none=>(ba.zero,0,s,M)
 | .bm c u=>dw s M c u
 | .eL p=>lN s M p
 | .eR=>match s.aI with
   | some l=>iw s M l
   | none=>(ba.zero,0,s,M)
 | .db=>match s.aH with
   | some t=>go s M t
   | none=>(ba.zero,0,s,M)
 | .dM c=>fZ s M c
 | .cu=>fp s M
 | .ee w=>gn s M w
 | .cD w=>lL s M w
 | .gV=>(zN M 3 0 (IntKind.u64.wrap (s.ax+1)),19,{ s with aG:=.fL },Ck M 3 0 (IntKind.u64.wrap (s.ax+1)))
 | .fL=>(zN M 5 0 (yz s.dT),20,gJ s,Ck M 5 0 (yz s.dT))
 | .eK p=>iJ s M p
 | .hP=>(zN M 6 s.am 0,24,{ s with aG:=.bK,aA:=2 },Ck M 6 s.am 0)
def aT.kO (s:aT) (aA:Int):Bool:=decide (s.aG.dT=0) && decide (s.aA=aA)
def gf (s:aT):Int×aT:=
 if s.kO 0=true then (0,{ s with aA:=1,bL:=some ⟨s.am,0,0⟩,aG:=.eN }) else (1,s)
def tF (s:aT) (a:Int) (u:zM):aT:={ s with aG:=.bm ⟨a,fD s.cf a,s.rv,0,0,0,false⟩ u }
def Eb (s:aT) (a:Int):Int×aT:=
 if s.kO 1=true then
  if s.cf.aQ≤a then (0,{ s with aG:=.gZ .qq })
  else if (jo s.bp a).2=true then (0,{ s with aG:=.gZ (.take (jo s.bp a).1) })
  else (0,tF s a .take)
 else (1,s)
def DH (s:aT) (a v:Int):Int×aT:=if s.kO 1=true then (0,{ s with aG:=.gZ (.k4 a v) }) else (1,s)
def Ip (s:aT) (d5:Int):Int×aT:=
 if s.kO 1=true then
  if d5<0∨4≤d5 then (2,s)
  else if s.cf.ai≤s.ai.length then (0,{ s with aG:=.gZ .y6 })
  else (0,{ s with aG:=.eL ⟨d5,0,0,0,-1⟩ })
 else (1,s)
def If (s:aT) (a:Int):Int×aT:=
 if s.kO 1=true then
  if i9 s.cf a<0 then (0,{ s with aG:=.gZ .L4 })
  else if (jo s.bp (s.cf.aQ+i9 s.cf a)).2=true then (0,{ s with aG:=.gZ (.cM (i9 s.cf a) (jo s.bp (s.cf.aQ+i9 s.cf a)).1) })
  else (0,tF s (s.cf.aQ+i9 s.cf a) (.cM (i9 s.cf a)))
 else (1,s)
def zS (s:aT) (ay:Int):Int×aT:=
 if s.kO 1=true then
  if ay≠1∧ay≠2 then (2,s) else (0,{ s with aG:=.gZ (.bS ay) })
 else (1,s)
def gq (w:Int):nK:=
 let n:=if w≤0 then 1 else if w≤1 then 2 else if w≤2 then 4 else if w≤4 then 8 else if w≤8 then 16 else if w≤16 then 32 else 64
 ⟨w.toNat,[],[],List.replicate n (-1)⟩
def fl (c:bC) (t:Int):aT:=⟨c,t,0,0,0,none,false,[],[],[],[],gq c.bN,0,[],none,none,0,.bK⟩
end
section
open Go.Proofs Go
variable [Gl]
theorem vP {P:Program} {r:Operand→Value} {A:AW} {k':Value→AW→Prop} {x y:Operand} {t:TypeId} {s u v':Value} {A':AW}
 (e1:r x=s) (e2:r y=u) (h:fC P A t t s u=some (v',A')) (hk:k' v' A'):gz P (.call ⟨.builtin .append,#[x,y],#[t,t]⟩) r A k':=by
 have h1:aq P A r (.call ⟨.builtin .append,#[x,y],#[t,t]⟩)=none:=by simp [aq]
 have h2:ae P A r (.call ⟨.builtin .append,#[x,y],#[t,t]⟩)=some (v',A'):=by
  show (if t=t then fC P A t t (r x) (r y) else _)=_
  rw [if_pos rfl,e1,e2,h]
 unfold gz
 rw [h1,h2]
 exact hk
section
variable {P:Program} {S:AW→Prop} {K:Fr→AW→Prop} {fR:List uZ} {a:Fr} {A:AW} {d:Option Tmp} {m:Nat} {x y:Operand} {t e:TypeId} {i:TypeInfo} {z:Value} {k:IntKind} {l:List Int} {n:Nat} {yv:Int} {v:Value} {L K':List It}
theorem zy {k':Value→AW→Prop} (hu:P.underlying t=some (.slice e)) (hi:P.info? e=some i) (hz:i.zero=some z) (fH:i.size=1) (mr:z.cells.size=1) (vI:i.bytes≤8)
 (e1:ip a x=v) (e2:ip a y=.slice (some ⟨n,0,none⟩) 1 1) (hw:A.Wf) (hS:ak A L) (hp:ap L (.h (au k v l)) K') (hn:A.bR n=some (.cells [.int k yv] true 1)) (bW:l.length<2 ^ 40)
 (hk:∀o c A',ak A' (.h (au k (.slice o (l.length+1) c) (l++[yv]))::K')→A'.Wf→A.next≤A'.next→k' (.slice o (l.length+1) c) A') :
 gz P (.call ⟨.builtin .append,#[x,y],#[t,t]⟩) (ip a) A k':=by
 have h1:bz A (au k v l*aR K'):=by
  unfold ak at hS
  rw [hp.aR] at hS
  exact hS
 obtain⟨v',A',e3,h2,h3,h4⟩:=au.De (P:=P) (t:=t) yv n hu hi hz fH mr hn h1 bW vI hw
 obtain⟨o,c,h5,_⟩:=(au.is h2).dJ
 have h6:v'=.slice o (l.length+1) c:=by simpa using h5
 subst h6
 exact vP e1 e2 e3 (hk o c A' h2 h3 h4)
theorem Og (hu:P.underlying t=some (.slice e)) (hi:P.info? e=some i) (hz:i.zero=some z) (fH:i.size=1) (mr:z.cells.size=1) (vI:i.bytes≤8)
 (e1:ip a x=v) (e2:ip a y=.slice (some ⟨n,0,none⟩) 1 1) (hw:A.Wf) (hS:ak A L) (hp:ap L (.h (au k v l)) K') (hn:A.bR n=some (.cells [.int k yv] true 1)) (bW:l.length<2 ^ 40)
 (hs:∀A',ak A' K'→S A')
 (hk:∀o c A',ak A' (.h (au k (.slice o (l.length+1) c) (l++[yv]))::K')→A'.Wf→A.next≤A'.next→bn P S K fR (eb a d (.slice o (l.length+1) c)) A') :
 bn P S K (⟨d,.call ⟨.builtin .append,#[x,y],#[t,t]⟩,none,3⟩::fR) a A:=by
 unfold bn
 rw [if_pos (by simp)]
 exact zy hu hi hz fH mr vI e1 e2 hw hS hp hn bW fun o c A' h1 h2 h3=>⟨hs A' h1.tail,hk o c A' h1 h2 h3⟩
theorem N4 {r:sM} (hu:P.underlying t=some (.slice e)) (hi:P.info? e=some i) (hz:i.zero=some z) (fH:i.size=1) (mr:z.cells.size=1) (vI:i.bytes≤8)
 (e1:ip a x=v) (e2:ip a y=.slice (some ⟨n,0,none⟩) 1 1) (hw:A.Wf) (hS:ak A L) (hp:ap L (.h (au k v l)) K') (hn:A.bR n=some (.cells [.int k yv] true 1)) (bW:l.length<2 ^ 40)
 (hs:∀A',ak A' K'→S A')
 (hk:∀o c A',ak A' (.h (au k (.slice o (l.length+1) c) (l++[yv]))::K')→A'.Wf→A.next≤A'.next→TW P S K r (eb a d (.slice o (l.length+1) c)) A') :
 TW P S K (.bh ⟨d,.call ⟨.builtin .append,#[x,y],#[t,t]⟩,none,3⟩ r) a A:=by
 unfold TW lW
 rw [if_pos (by simp)]
 exact zy hu hi hz fH mr vI e1 e2 hw hS hp hn bW fun o c A' h1 h2 h3=>⟨hs A' h1.tail,hk o c A' h1 h2 h3⟩
theorem Oh {R:Fr→AW→Prop} (hu:P.underlying t=some (.slice e)) (hi:P.info? e=some i) (hz:i.zero=some z) (fH:i.size=1) (mr:z.cells.size=1) (vI:i.bytes≤8)
 (e1:ip a x=v) (e2:ip a y=.slice (some ⟨n,0,none⟩) 1 1) (hw:A.Wf) (hS:ak A L) (hp:ap L (.h (au k v l)) K') (hn:A.bR n=some (.cells [.int k yv] true 1)) (bW:l.length<2 ^ 40)
 (hs:∀A',ak A' K'→S A')
 (hk:∀o c A',ak A' (.h (au k (.slice o (l.length+1) c) (l++[yv]))::K')→A'.Wf→A.next≤A'.next→R (eb a d (.slice o (l.length+1) c)) A') :
 lW P S ⟨d,.call ⟨.builtin .append,#[x,y],#[t,t]⟩,none,3⟩ a A R:=by
 unfold lW
 rw [if_pos (by simp)]
 exact zy hu hi hz fH mr vI e1 e2 hw hS hp hn bW fun o c A' h1 h2 h3=>⟨hs A' h1.tail,hk o c A' h1 h2 h3⟩
end
section
variable {S:AW→Prop} {K:Fr→AW→Prop} {fR:List uZ} {r:sM} {a:Fr} {A:AW} {d:Option Tmp} {x y:Operand} {l:List Int} {n:Nat} {yv:Int} {v:Value} {L K':List It}
theorem Tw (e1:ip a x=v) (e2:ip a y=.slice (some ⟨n,0,none⟩) 1 1) (hw:A.Wf) (hS:ak A L) (hp:ap L (.h (au .i64 v l)) K') (hn:A.bR n=some (.cells [.int .i64 yv] true 1)) (bW:l.length<2 ^ 40)
 (hs:∀A',ak A' K'→S A')
 (hk:∀o c A',ak A' (.h (au .i64 (.slice o (l.length+1) c) (l++[yv]))::K')→A'.Wf→A.next≤A'.next→bn Tryz.prog S K fR (eb a d (.slice o (l.length+1) c)) A') :
 bn Tryz.prog S K (⟨d,.call ⟨.builtin .append,#[x,y],#[23,23]⟩,none,3⟩::fR) a A:=
 Og (P:=Tryz.prog) Tryz.underlying23 Tryz.info3 Tryz.zero3 rfl rfl (by simp) e1 e2 hw hS hp hn bW hs hk
theorem WO (e1:ip a x=v) (e2:ip a y=.slice (some ⟨n,0,none⟩) 1 1) (hw:A.Wf) (hS:ak A L) (hp:ap L (.h (au .u64 v l)) K') (hn:A.bR n=some (.cells [.int .u64 yv] true 1)) (bW:l.length<2 ^ 40)
 (hs:∀A',ak A' K'→S A')
 (hk:∀o c A',ak A' (.h (au .u64 (.slice o (l.length+1) c) (l++[yv]))::K')→A'.Wf→A.next≤A'.next→bn Tryz.prog S K fR (eb a d (.slice o (l.length+1) c)) A') :
 bn Tryz.prog S K (⟨d,.call ⟨.builtin .append,#[x,y],#[58,58]⟩,none,3⟩::fR) a A:=
 Og (P:=Tryz.prog) Tryz.underlying58 Tryz.info45 Tryz.zero45 rfl rfl (by simp) e1 e2 hw hS hp hn bW hs hk
theorem Wx (e1:ip a x=v) (e2:ip a y=.slice (some ⟨n,0,none⟩) 1 1) (hw:A.Wf) (hS:ak A L) (hp:ap L (.h (au .i64 v l)) K') (hn:A.bR n=some (.cells [.int .i64 yv] true 1)) (bW:l.length<2 ^ 40)
 (hs:∀A',ak A' K'→S A')
 (hk:∀o c A',ak A' (.h (au .i64 (.slice o (l.length+1) c) (l++[yv]))::K')→A'.Wf→A.next≤A'.next→TW Tryz.prog S K r (eb a d (.slice o (l.length+1) c)) A') :
 TW Tryz.prog S K (.bh ⟨d,.call ⟨.builtin .append,#[x,y],#[23,23]⟩,none,3⟩ r) a A:=
 N4 (P:=Tryz.prog) Tryz.underlying23 Tryz.info3 Tryz.zero3 rfl rfl (by simp) e1 e2 hw hS hp hn bW hs hk
theorem Ww (e1:ip a x=v) (e2:ip a y=.slice (some ⟨n,0,none⟩) 1 1) (hw:A.Wf) (hS:ak A L) (hp:ap L (.h (au .u64 v l)) K') (hn:A.bR n=some (.cells [.int .u64 yv] true 1)) (bW:l.length<2 ^ 40)
 (hs:∀A',ak A' K'→S A')
 (hk:∀o c A',ak A' (.h (au .u64 (.slice o (l.length+1) c) (l++[yv]))::K')→A'.Wf→A.next≤A'.next→TW Tryz.prog S K r (eb a d (.slice o (l.length+1) c)) A') :
 TW Tryz.prog S K (.bh ⟨d,.call ⟨.builtin .append,#[x,y],#[58,58]⟩,none,3⟩ r) a A:=
 N4 (P:=Tryz.prog) Tryz.underlying58 Tryz.info45 Tryz.zero45 rfl rfl (by simp) e1 e2 hw hS hp hn bW hs hk
theorem WQ {R:Fr→AW→Prop} (e1:ip a x=v) (e2:ip a y=.slice (some ⟨n,0,none⟩) 1 1) (hw:A.Wf) (hS:ak A L) (hp:ap L (.h (au .i64 v l)) K') (hn:A.bR n=some (.cells [.int .i64 yv] true 1)) (bW:l.length<2 ^ 40)
 (hs:∀A',ak A' K'→S A')
 (hk:∀o c A',ak A' (.h (au .i64 (.slice o (l.length+1) c) (l++[yv]))::K')→A'.Wf→A.next≤A'.next→R (eb a d (.slice o (l.length+1) c)) A') :
 lW Tryz.prog S ⟨d,.call ⟨.builtin .append,#[x,y],#[23,23]⟩,none,3⟩ a A R:=
 Oh (P:=Tryz.prog) Tryz.underlying23 Tryz.info3 Tryz.zero3 rfl rfl (by simp) e1 e2 hw hS hp hn bW hs hk
theorem WP {R:Fr→AW→Prop} (e1:ip a x=v) (e2:ip a y=.slice (some ⟨n,0,none⟩) 1 1) (hw:A.Wf) (hS:ak A L) (hp:ap L (.h (au .u64 v l)) K') (hn:A.bR n=some (.cells [.int .u64 yv] true 1)) (bW:l.length<2 ^ 40)
 (hs:∀A',ak A' K'→S A')
 (hk:∀o c A',ak A' (.h (au .u64 (.slice o (l.length+1) c) (l++[yv]))::K')→A'.Wf→A.next≤A'.next→R (eb a d (.slice o (l.length+1) c)) A') :
 lW Tryz.prog S ⟨d,.call ⟨.builtin .append,#[x,y],#[58,58]⟩,none,3⟩ a A R:=
 Oh (P:=Tryz.prog) Tryz.underlying58 Tryz.info45 Tryz.zero45 rfl rfl (by simp) e1 e2 hw hS hp hn bW hs hk
end
theorem AW.jm {A:AW} {n:Nat} {o:dK} (h:A.next=n):(A.alloc o).next=n+1:=by rw [AW.bq,h]
theorem AW.nd {A:AW} {n i:Nat} {o:Option dK} (h:A.next=n):(A.set i o).next=n:=by rw [AW.gW,h]
theorem ak.nv {A:AW} {L:List It} {o:dK} {n:Nat} (h:ak A L) (hw:A.Wf) (hn:A.next=n):ak (A.alloc o) (.at n o::L):=by
 subst hn
 exact h.alloc hw o
theorem ak.oD {A:AW} {L:List It} (k:IntKind) (h:ak A L):ak A (.h (au k (.slice none 0 0) [])::L):=au.nil h
theorem jE {ι:Type} {g:ι→List It} {A:AW} {L K:List It} (h:ak A L) (hp:ap L (.h (nI fun x=>aR (g x))) K):∃x,ak A (g x++K):=by
 unfold ak at h
 rw [hp.aR] at h
 have h1:bz A (nI (fun x=>aR (g x))*aR K):=h
 rw [bz.ex] at h1
 obtain⟨x,h1⟩:=h1
 refine⟨x,?_⟩
 unfold ak
 rw [eZ]
 exact h1
theorem ii {ι:Type} {g:ι→List It} {A:AW} {L K:List It} (x:ι) (h:ak A L) (hp:aD L (g x) K):ak A (.h (nI fun x=>aR (g x))::K):=by
 unfold ak at h ⊢
 rw [hp.aR] at h
 show bz A (nI (fun x=>aR (g x))*aR K)
 rw [bz.ex]
 exact⟨x,h⟩
end
section
abbrev KR:List (Nat×Nat):=[(0,0),(1,0),(2,0),(3,0),(4,0),(5,0),(6,0),(7,0)]
abbrev Pk:List (Nat×Nat):=[(0,0),(1,2),(2,0),(3,0),(4,0),(5,0),(6,0),(7,0),(8,0),(9,0),(10,0),(11,0),(12,2),(13,0),(14,0),(15,0)]
open T6
variable [Gl]
theorem Pg:(2:Int) ^ min 1 IntKind.i64.bits=2:=by decide
theorem Uw:(2:Int) ^ min 2 IntKind.i64.bits=4:=by decide
theorem Uv:(2:Int) ^ min 3 IntKind.i64.bits=8:=by decide
theorem Yk:(2:Int) ^ min 0 IntKind.i64.bits=1:=by decide
set_option maxHeartbeats 1000000 in
theorem Ia (c:bC) (hc:b9 c) (A:AW):aC Tryz.prog 94 [c.v] A (fun v A'=>v=.tuple #[.int .i64 c.nb,.int .i64 c.hw,.bool true]∧A=A'):=by
 refine aC.DP (V:=.tuple #[.int .i64 c.nb,.int .i64 c.hw,.bool true]) (eE.tuple (by simp)) (fun hw=>?_) (by kernel_rfl)
 refine ab Tryz.func94 rfl (by kernel_rfl) fun _=>?_
 obtain⟨k0,JM⟩:=hc.k0
 obtain⟨k1,JL⟩:=hc.k1
 obtain⟨k2,JK⟩:=hc.k2
 obtain⟨k3,JJ⟩:=hc.k3
 have kn:=hc.nb
 have e:c.nb=c.c0+c.c1+c.c2+c.c3:=rfl
 have e':c.hw=c.c0+c.c1*2+c.c2*4+c.c3*8:=rfl
 revert hw;(try revert hc);refine W trivial (J3 @bC.v.eq_1 @AW.aa @ah.eq_1) (J1 ?_)<;>unhygienic intros
 refine bu 5 ?_
 revert hw;(repeat first|clear hw|revert hc|revert zn|revert zA|revert R|revert K);refine W trivial (Ix k0 JM k1 JL k2 JK k3 JJ @bC.v.eq_1 @AW.aa @ah.eq_1) (J1 ?_)<;>unhygienic intros
 all_goals(
  refine⟨_,by first|(simp;done)|(simp;rfl),?_,AW.le.alloc _ _⟩
  simp only [Value.tuple.injEq,Array.mk.injEq,List.cons.injEq,Value.int.injEq,Value.bool.injEq,true_and,and_true]
  rw [Pg,Uw,Uv]
  simp (disch:=omega) only [aw]
  exact⟨e.symm,e'.symm,by simp;omega⟩)
set_option maxHeartbeats 1000000 in
theorem nl (c:bC) (hc:b9 c) (A:AW):aC Tryz.prog 51 [c.v] A (fun v A'=>v=.int .i64 0∧A=A'):=by
 refine aC.DP (V:=.int .i64 0) (by simp) (fun hw=>?_) (by kernel_rfl)
 refine ab Tryz.func51 rfl (by kernel_rfl) fun _=>?_
 obtain⟨w0,w1⟩:=hc.aQ
 obtain⟨r0,r1⟩:=hc.an
 obtain⟨k0,JM⟩:=hc.k0
 obtain⟨k1,JL⟩:=hc.k1
 obtain⟨k2,JK⟩:=hc.k2
 obtain⟨k3,JJ⟩:=hc.k3
 obtain⟨b0,b1⟩:=hc.base
 obtain⟨x0,x1⟩:=hc.reads
 obtain⟨y0,y1⟩:=hc.bN
 obtain⟨z0,z1⟩:=hc.ai
 obtain⟨u0,u1⟩:=hc.av
 obtain⟨t0,t1⟩:=hc.ax
 have kn:=hc.nb
 have kf:=hc.Ny
 have e:c.nb=c.c0+c.c1+c.c2+c.c3:=rfl
 have e':c.hw=c.c0+c.c1*2+c.c2*4+c.c3*8:=rfl
 have hh:=Ia c hc
 have ng:c.hw≤c.aQ-c.base:=kf
 dsimp only [bC.v] at hh ⊢
 revert hw;(try revert hc);refine W (J2 @hh @DW) (ZZ w0 w1 r0 r1 b0 b1 x0 x1 y0 y1 z0 z1 u0 u1 t0 t1 ng @AW.aa @ah.eq_1) (J1 ?_)<;>unhygienic intros
 all_goals exact⟨_,by first|(simp;done)|(simp;rfl),rfl,AW.le.alloc _ _⟩
set_option maxHeartbeats 1000000 in
theorem ge (c:bC) (hc:b9 c) (A:AW):aC Tryz.prog 127 [c.v] A (fun v A'=>v=.int .i64 c.nb∧A=A'):=by
 refine aC.DP (V:=.int .i64 c.nb) (by simp) (fun hw=>?_) (by kernel_rfl)
 refine ab Tryz.func127 rfl (by kernel_rfl) fun _=>?_
 have hh:=Ia c hc
 have wK:=nl c hc
 dsimp only [bC.v] at hh wK ⊢
 revert hw;(try revert hc);refine W (J2 @hh @wK) (J2 @AW.aa @ah.eq_1) (J1 ?_)<;>unhygienic intros
 all_goals exact⟨_,by first|(simp;done)|(simp;rfl),rfl,AW.le.alloc _ _⟩
set_option maxHeartbeats 2000000 in
theorem wE (c:bC) (hc:b9 c) (b:Int) (hb:b<2^62) (A:AW):aC Tryz.prog 209 [c.v,.int .i64 b] A (fun v A'=>v=.tuple #[.int .i64 (td c b).1,.int .i64 (td c b).2]∧A=A'):=by
 refine aC.DP (V:=.tuple #[.int .i64 (td c b).1,.int .i64 (td c b).2]) (eE.tuple (by simp)) (fun hw=>?_) (by kernel_rfl)
 refine ab Tryz.func209 rfl (by kernel_rfl) fun _=>?_
 obtain⟨w0,w1⟩:=hc.aQ
 obtain⟨r0,r1⟩:=hc.an
 obtain⟨k0,JM⟩:=hc.k0
 obtain⟨k1,JL⟩:=hc.k1
 obtain⟨k2,JK⟩:=hc.k2
 obtain⟨k3,JJ⟩:=hc.k3
 obtain⟨b0,b1⟩:=hc.base
 obtain⟨x0,x1⟩:=hc.reads
 obtain⟨y0,y1⟩:=hc.bN
 obtain⟨z0,z1⟩:=hc.ai
 obtain⟨u0,u1⟩:=hc.av
 obtain⟨t0,t1⟩:=hc.ax
 have kn:=hc.nb
 have kf:=hc.Ny
 have e:c.nb=c.c0+c.c1+c.c2+c.c3:=rfl
 have e':c.hw=c.c0+c.c1*2+c.c2*4+c.c3*8:=rfl
 have wK:=nl c hc
 have l0:td c b=if b<0 then (-1,-1) else if b<c.c0 then (0,c.base+b) else if b-c.c0<c.c1 then (1,c.base+c.c0+(b-c.c0)*2)
  else if b-c.c0-c.c1<c.c2 then (2,c.base+c.c0+c.c1*2+(b-c.c0-c.c1)*4) else if b-c.c0-c.c1-c.c2<c.c3 then (3,c.base+c.c0+c.c1*2+c.c2*4+(b-c.c0-c.c1-c.c2)*8) else (-1,-1):=rfl
 generalize td c b=q at *
 dsimp only [bC.v] at wK ⊢
 revert hw;(try revert hc);refine W (J2 (od KR) @wK) (J2 @AW.aa @ah.eq_1) (J2 ?_ ?_)<;>unhygienic intros
 · exact⟨_,by simp;rfl,by rw [l0,if_pos (by assumption)],AW.le.alloc _ _⟩
 refine bu 5 ?_
 revert hw;(repeat first|clear hw|revert hc|revert zn|revert zA|revert R|revert K);refine W (J1 (od KR)) (w8 k0 JM k1 JL k2 JK k3 JJ @AW.aa @ah.eq_1) (J5 ?_ ?_ ?_ ?_ ?_)<;>unhygienic intros
 all_goals(
  refine⟨_,by first|(simp;done)|(simp;rfl),?_,AW.le.alloc _ _⟩
  rw [l0]
  simp (disch:=omega) only [if_pos,if_neg]
  try rw [Pg]
  try rw [Uw]
  try rw [Uv]
  try simp (disch:=omega) only [aw])
theorem qe (c:bC) (hc:b9 c) (b:Int) (hb:b<2^62) (A:AW):aC Tryz.prog 144 [c.v,.int .i64 b] A (fun v A'=>v=.int .i64 (cG c b)∧A=A'):=by
 refine aC.DP (V:=.int .i64 (cG c b)) (by simp) (fun hw=>?_) (by kernel_rfl)
 refine ab Tryz.func144 rfl (by kernel_rfl) fun _=>?_
 have wK:=wE c hc b hb
 dsimp only [bC.v] at wK ⊢
 revert hw;(try revert hc);refine W (J1 @wK) (J2 @AW.aa @ah.eq_1) (J1 ?_)<;>unhygienic intros
 exact⟨_,by first|(simp;done)|(simp;rfl),rfl,AW.le.alloc _ _⟩
theorem y9 (c:bC) (hc:b9 c) (b:Int) (hb:b<2^62) (A:AW):aC Tryz.prog 295 [c.v,.int .i64 b] A (fun v A'=>v=.int .i64 (gs c b)∧A=A'):=by
 refine aC.DP (V:=.int .i64 (gs c b)) (by simp) (fun hw=>?_) (by kernel_rfl)
 refine ab Tryz.func295 rfl (by kernel_rfl) fun _=>?_
 have wK:=wE c hc b hb
 dsimp only [bC.v] at wK ⊢
 revert hw;(try revert hc);refine W (J1 @wK) (J2 @AW.aa @ah.eq_1) (J1 ?_)<;>unhygienic intros
 exact⟨_,by first|(simp;done)|(simp;rfl),rfl,AW.le.alloc _ _⟩
theorem rC (c:bC) (hc:b9 c) (a:Int) (A:AW):aC Tryz.prog 221 [c.v,.int .i64 a] A (fun v A'=>v=.int .i64 (fD c a)∧A=A'):=by
 refine aC.DP (V:=.int .i64 (fD c a)) (by simp) (fun hw=>?_) (by kernel_rfl)
 refine ab Tryz.func221 rfl (by kernel_rfl) fun _=>?_
 obtain⟨w0,w1⟩:=hc.aQ
 obtain⟨r0,r1⟩:=hc.an
 obtain⟨k0,JM⟩:=hc.k0
 obtain⟨k1,JL⟩:=hc.k1
 obtain⟨k2,JK⟩:=hc.k2
 obtain⟨k3,JJ⟩:=hc.k3
 obtain⟨b0,b1⟩:=hc.base
 obtain⟨x0,x1⟩:=hc.reads
 obtain⟨y0,y1⟩:=hc.bN
 obtain⟨z0,z1⟩:=hc.ai
 obtain⟨u0,u1⟩:=hc.av
 obtain⟨t0,t1⟩:=hc.ax
 have kn:=hc.nb
 have kf:=hc.Ny
 have e:c.nb=c.c0+c.c1+c.c2+c.c3:=rfl
 have e':c.hw=c.c0+c.c1*2+c.c2*4+c.c3*8:=rfl
 have hh:=nl c hc
 have wK:=ge c hc
 dsimp only [bC.v] at hh wK ⊢
 have iX:¬c.an=0:=by omega
 revert hw;(try revert hc);refine W (J3 (od Pk) @hh @wK) (J3 iX @AW.aa @ah.eq_1) (J3 ?_ ?_ ?_)<;>unhygienic intros
 all_goals(
  refine⟨_,by first|(simp;done)|(simp;rfl),?_,AW.le.alloc _ _⟩
  unfold fD
  first
  | (rw [if_neg (by simp_all;omega)];done)
  | (rw [if_neg (by omega)];done)
  | (rw [if_pos (by omega)];done))
theorem ul {c:bC} (hc:b9 c) (b:Int) (h:0≤b∧b<c.nb):(0≤cG c b∧cG c b≤3)∧0≤gs c b∧gs c b+2 ^ (cG c b).toNat≤c.aQ:=by
 obtain⟨w0,w1⟩:=hc.aQ
 obtain⟨r0,r1⟩:=hc.an
 obtain⟨k0,JM⟩:=hc.k0
 obtain⟨k1,JL⟩:=hc.k1
 obtain⟨k2,JK⟩:=hc.k2
 obtain⟨k3,JJ⟩:=hc.k3
 obtain⟨b0,b1⟩:=hc.base
 obtain⟨x0,x1⟩:=hc.reads
 obtain⟨y0,y1⟩:=hc.bN
 obtain⟨z0,z1⟩:=hc.ai
 obtain⟨u0,u1⟩:=hc.av
 obtain⟨t0,t1⟩:=hc.ax
 have kn:=hc.nb
 have kf:=hc.Ny
 have e:c.nb=c.c0+c.c1+c.c2+c.c3:=rfl
 have e':c.hw=c.c0+c.c1*2+c.c2*4+c.c3*8:=rfl
 have ng:c.hw≤c.aQ-c.base:=kf
 unfold cG gs td
 rw [if_neg (by omega)]
 split
 · simp;omega
 split
 · simp;omega
 split
 · simp;omega
 split
 · simp;omega
 · omega
theorem K6 {c:bC} (hc:b9 c) (b:Int) (h:¬(0≤b∧b<c.nb)):td c b=(-1,-1):=by
 obtain⟨w0,w1⟩:=hc.aQ
 obtain⟨r0,r1⟩:=hc.an
 obtain⟨k0,JM⟩:=hc.k0
 obtain⟨k1,JL⟩:=hc.k1
 obtain⟨k2,JK⟩:=hc.k2
 obtain⟨k3,JJ⟩:=hc.k3
 obtain⟨b0,b1⟩:=hc.base
 obtain⟨x0,x1⟩:=hc.reads
 obtain⟨y0,y1⟩:=hc.bN
 obtain⟨z0,z1⟩:=hc.ai
 obtain⟨u0,u1⟩:=hc.av
 obtain⟨t0,t1⟩:=hc.ax
 have kn:=hc.nb
 have kf:=hc.Ny
 have e:c.nb=c.c0+c.c1+c.c2+c.c3:=rfl
 have e':c.hw=c.c0+c.c1*2+c.c2*4+c.c3*8:=rfl
 unfold td
 split
 · rfl
 split
 · omega
 split
 · omega
 split
 · omega
 split
 · omega
 · rfl
end
end Go.Stx
