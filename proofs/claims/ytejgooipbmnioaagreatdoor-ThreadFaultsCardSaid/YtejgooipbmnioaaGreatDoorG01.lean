/-
 Contracts of the small functions that the statements share: places, lists compared and copied.
-/
import Derived.Test.YtejgooipbmnioaaGreatDoorF1
import Derived.Test.YtejgooipbmnioaaGreatDoorF2
set_option linter.unusedVariables false
set_option linter.unusedSimpArgs false
set_option linter.unusedSectionVars false
set_option maxRecDepth 20000
set_option maxHeartbeats 4000000
namespace Go.Stx
open Go Go.Proofs
attribute [local irreducible] TW cg eg bn aC aV cR df
section
abbrev CD:List (Nat×Nat):=[(0,0),(1,0),(2,0),(3,0),(4,0),(5,0),(6,0),(7,0),(8,0)]
namespace TKit
theorem jD [Gl] {A:AW} {L:List It} {T:Prop} (hS:ak A L) (hw:A.Wf) (h':(bg A L∧bB A L∧cj L)=T:=by first|(dsimp only [af,ag,bg,bB,cj,eA];done)|exact rfl):T:=h'▸hS.eu hw
end TKit
open TKit
variable [Gl]
def jl (a n:Int):Int:=IntKind.u64.wrap a % n
theorem ks (a:Int):0≤IntKind.u64.wrap a∧IntKind.u64.wrap a<18446744073709551616:=by
 simp only [IntKind.wrap,IntKind.bits,IntKind.signed,Bool.false_and,Bool.false_eq_true,if_false]
 omega
theorem fq (a n:Int) (hn:0<n):0≤jl a n∧jl a n<n:=⟨Int.emod_nonneg _ (by omega),Int.emod_lt_of_pos _ hn⟩
theorem gE (a n:Int) (A:AW) (hn:0<n) (FD:n≤9223372036854775807) :
 aC Tryz.prog 14 [.int .i64 a,.int .i64 n] A (fun v A'=>v=.int .i64 (jl a n)∧A=A'):=by
 refine ab Tryz.func14 rfl (by kernel_rfl) fun hw=>?_
 have iV:IntKind.u64.wrap n=n:=az (by omega) (by omega)
 have iX:n≠0:=by omega
 obtain⟨h1,h2⟩:=ks a
 obtain⟨h3,h4⟩:=fq a n hn
 have hr:(IntKind.u64.wrap a).tmod n=jl a n:=Int.tmod_eq_emod_of_nonneg h1
 have kl:IntKind.i64.wrap (jl a n)=jl a n:=aw (by omega) (by omega)
 revert hw;refine W trivial (J4 iV iX hr kl) (J1 ?_)<;>unhygienic intros
 simp
set_option maxHeartbeats 1000000 in
theorem mS (va vb:Value) (a b:List Int) (A:AW) (ha:dB A .u64 va a) (hb:dB A .u64 vb b) (Xa:a.length<2^62) :
 aC Tryz.prog 63 [va,vb] A (fun v A'=>v=.bool (decide (a=b))∧A=A'):=by
 refine ab Tryz.func63 rfl (by kernel_rfl) fun hw=>?_
 obtain⟨oa,ca,rfl,_⟩:=ha.dJ
 obtain⟨ob,cb,rfl,_⟩:=hb.dJ
 revert hw;refine W (J1 (od CD)) trivial (J2 ?_ ?_)<;>unhygienic intros
 · simp
   intro e
   subst e
   simp at hc
 · have bW:a.length=b.length:=by omega
   refine eS (fun k fr A'=>A=A'∧∃i:Nat,k=a.length-i∧i≤a.length∧fr 0=.slice oa a.length ca∧fr 1=.slice ob b.length cb∧fr 5=.int .i64 i∧∀j,j<i→a[j]? = b[j]?) a.length ?_ ?_
   · refine⟨rfl,0,by simp,by simp,rfl,rfl,rfl,by simp⟩
   · rintro k fr A' ⟨rfl,i,rfl,hi,h0,h1,h5,hj⟩
     by_cases dO:i<a.length
     · obtain⟨p,cK,rfl,dG,bA⟩:=ha.at dO
       obtain⟨q,Pd,rfl,RI,PY⟩:=hb.at (i:=i) (by omega)
       have ET:i<b.length:=by omega
       have mf:IntKind.i64.wrap ((i:Int)+1)=((i+1:Nat):Int):=aw (by omega) (by omega)
       refine dI ?_
       repeat' (first
       | (refine jx fun R hR=>?_;simp [aw,az,h0,h1,h5,dG,RI,bA,PY,dO,ET,mf];try simp (disch:=omega) only [if_pos,if_neg,aw,az])
       | (refine hR _ _ ?_;clear hR R)|(refine hK _ _ ?_;clear hK K)|refine nx ?_
       | refine wn fun K hK=>?_
       | simp only [wS,CD]
       | refine wl Tryz.mx CD (by decide +kernel) fun K hK=>?_
       | refine wb ?_|refine wr ?_|refine wk ?_|refine we ?_|refine ws ?_|refine wq ?_
       | (refine wc rfl (fun hc=>?_) (fun hc=>?_)<;>(try simp at hc)<;>(try omega))
       | (refine ib (fun hc=>?_) (fun hc=>?_)<;>(try omega)<;>(try simp (disch:=omega) only [if_pos,if_neg])))
       · simp
         intro e
         subst e
         simp at hc
       · refine⟨a.length-(i+1),by omega,rfl,i+1,rfl,by omega,?_,?_,?_,?_⟩
         · simp [h0]
         · simp [h1]
         · simp
         · intro j vC
           by_cases e:j=i
           · subst e
             rw [List.getElem?_eq_getElem dO,List.getElem?_eq_getElem ET,hc]
           · exact hj j (by omega)
     · refine dI ?_
       revert hw;(repeat first|clear hw|revert hc|revert zn|revert zA|revert R|revert K);refine W (J1 (od CD)) (J4 h0 h1 h5 dO) (J1 ?_)<;>unhygienic intros
       have e:a=b:=by
        apply List.ext_getElem?
        intro j
        by_cases vC:j<i
        · exact hj j vC
        · rw [List.getElem?_eq_none (by omega),List.getElem?_eq_none (by omega)]
       simp [e]
end
section
namespace TCells
theorem jD [Gl] {A:AW} {L:List It} {T:Prop} (hS:ak A L) (hw:A.Wf) (h':(bg A L∧bB A L∧cj L)=T:=by first|(dsimp only [af,ag,bg,bB,cj,eA];done)|exact rfl):T:=h'▸hS.eu hw
end TCells
open TCells
variable [Gl]
def rT (vs:Nat→Value) (a:Int):Option Value:=if 1≤a∧a≤8 then some (vs (a-1).toNat) else none
def dS (pb:Nat) (M:Nat→List Int):HP:=
 nI fun r:Nat=>nI fun vs:Nat→Value=>
  pt pb (.cells [.map (some r)] true 1)*(fy .i64 r (rT vs)*jb (fun k=>au .u64 (vs k) (M k)) 8)
theorem dS.open {A:AW} {pb:Nat} {M:Nat→List Int} {F:HP} (h:bz A (dS pb M*F)) :
 ∃r vs,bz A (pt pb (.cells [.map (some r)] true 1)*(fy .i64 r (rT vs)*(jb (fun k=>au .u64 (vs k) (M k)) 8*F))):=by
 unfold dS at h
 rw [bz.ex] at h
 obtain⟨r,h⟩:=h
 rw [bz.ex] at h
 obtain⟨vs,h⟩:=h
 rw [HP.cl,HP.cl] at h
 exact⟨r,vs,h⟩
theorem dS.dR {A:AW} {pb:Nat} {M:Nat→List Int} {F:HP} {r:Nat} {vs:Nat→Value} (h:bz A (pt pb (.cells [.map (some r)] true 1)*(fy .i64 r (rT vs)*(jb (fun k=>au .u64 (vs k) (M k)) 8*F)))) :
 bz A (dS pb M*F):=by
 unfold dS
 rw [bz.ex]
 refine⟨r,?_⟩
 rw [bz.ex]
 refine⟨vs,?_⟩
 rw [HP.cl,HP.cl]
 exact h
structure ba where
 fY:Int
 cell:Int
 dq:Int
 fg:Int
 put:Int
 done:Bool
deriving DecidableEq
def ba.v (a:ba):Value:=.agg #[.int .i64 a.fY,.int .i64 a.cell,.int .i64 a.dq,.int .u64 a.fg,.int .u64 a.put,.bool a.done]
def ba.cells (a:ba):List Value:=[.int .i64 a.fY,.int .i64 a.cell,.int .i64 a.dq,.int .u64 a.fg,.int .u64 a.put,.bool a.done]
def ba.zero:ba:=⟨0,0,0,0,0,false⟩
def k8 (M:Nat→List Int) (cell:Int):List Int:=if 1≤cell∧cell≤8 then M (cell-1).toNat else []
def setRow (M:Nat→List Int) (cell dq v:Int):Nat→List Int:=fun k=>if k=(cell-1).toNat then (M k).set dq.toNat v else M k
def hU (M:Nat→List Int) (cell dq:Int):Bool:=decide (0≤dq∧dq<(k8 M cell).length)
def fz (M:Nat→List Int) (fY cell dq:Int) (g:Int→Int×Bool):ba:=
 if hU M cell dq=true then
  let fg:=(k8 M cell).getD dq.toNat 0
  ⟨fY,cell,dq,fg,if (g fg).2=true then (g fg).1 else fg,(g fg).2⟩
 else ba.zero
def mq (M:Nat→List Int) (cell dq:Int):Int:=if hU M cell dq=true then 0 else 60
def MQ (M:Nat→List Int) (fY cell dq:Int) (g:Int→Int×Bool):Value:=.tuple #[(fz M fY cell dq g).v,.int .i64 (mq M cell dq)]
def pB (M:Nat→List Int) (cell dq:Int) (g:Int→Int×Bool):Nat→List Int:=
 if hU M cell dq=true∧(g ((k8 M cell).getD dq.toNat 0)).2=true then setRow M cell dq (g ((k8 M cell).getD dq.toNat 0)).1 else M
def bj:List Value:=[.int .i64 0,.int .i64 0,.int .i64 0,.int .u64 0,.int .u64 0,.bool false]
set_option maxHeartbeats 1000000 in
theorem mC (pb:Nat) (M:Nat→List Int) (fY cell dq:Int) (fc:FuncId) (fs cs:Array Value) (C:HP) (g:Int→Int×Bool)
 (i8:∀eo,mw Tryz.prog fc (fs.toList++.int .u64 eo::cs.toList) C (fun v=>zQ (v=.tuple #[.int .u64 (g eo).1,.bool (g eo).2])*C)) :
 mw Tryz.prog 206 [.pointer (some ⟨pb,0,none⟩),.int .i64 fY,.int .i64 cell,.int .i64 dq,.func (.func fc) fs cs] (dS pb M*C)
  (fun v=>zQ (v=MQ M fY cell dq g)*(dS pb (pB M cell dq g)*C)):=by
 intro A F Fz hS
 refine ab Tryz.func206 rfl (by kernel_rfl) fun hw=>?_
 rw [HP.cl] at hS
 obtain⟨r,vs,hS⟩:=dS.open hS
 have Nj:=hS.bR
 have ke:bz A (fy .i64 r (rT vs)*(pt pb (.cells [.map (some r)] true 1)*(jb (fun k=>au .u64 (vs k) (M k)) 8*(C*F)))):=hS.dH (by ac_rfl)
 obtain⟨oX,rW,qs,Lu,xG,Xj⟩:=fy.eu ke
 obtain⟨np,Rv⟩:=hw.eo Nj
 obtain⟨nr,Ru⟩:=hw.eo rW
 by_cases bA:1≤cell∧cell≤8
 · obtain⟨k,hk⟩:∃k,k=(cell-1).toNat:=⟨_,rfl⟩
   have dG:k8 M cell=M k:=by rw [hk];exact if_pos bA
   have wJ:=qs .i64 cell (vs k) (by simp [rT,bA,hk])
   obtain⟨q,wJ⟩:=wJ
   have Xb:k<8:=by omega
   have vK:bz A (au .u64 (vs k) (M k)*(jb (oA (fun k=>au .u64 (vs k) (M k)) k eG) 8*(pt pb (.cells [.map (some r)] true 1)*(fy .i64 r (rT vs)*(C*F))))):=
    bz.pick (f:=fun k=>au .u64 (vs k) (M k)) (F:=pt pb (.cells [.map (some r)] true 1)*(fy .i64 r (rT vs)*(C*F))) (hS.dH (by ac_rfl)) Xb
   by_cases ti:0≤dq∧dq<(M k).length
   · have Pv:hU M cell dq=true:=by simpa [hU,dG] using ti
     obtain⟨j,hj⟩:∃j,j=dq.toNat:=⟨_,rfl⟩
     have xE:j<(M k).length:=by omega
     have PP:dq=(j:Int):=by omega
     subst PP
     have PM:(j:Int)<(M k).length:=by omega
     obtain⟨b,off,c,cK,hv,Zs,sw,PZ,ng,_⟩:=au.at vK xE
     rw [hv] at wJ
     have Jc:(k8 M cell).getD (j:Int).toNat 0=(M k)[j]:=by rw [dG,←hj,List.getD_eq_getElem?_getD,List.getElem?_eq_getElem xE];rfl
     obtain⟨nb,Oc⟩:=hw.eo sw
     revert hS hw;clear hS;refine W trivial (JX Nj rW sw PZ wJ np Rv nr Ru nb Oc PM xE @AW.aa @ah.eq_1) (J1 ?_)<;>unhygienic intros
     have ij:bz (A.alloc (.cells bj true 1)) (C*(pt A.next (.cells bj true 1)*(au .u64 (vs k) (M k)*(jb (oA (fun k=>au .u64 (vs k) (M k)) k eG) 8*(pt pb (.cells [.map (some r)] true 1)*(fy .i64 r (rT vs)*F)))))):=
      (vK.alloc hw _).dH (by ac_rfl)
     refine(i8 _).use (hw.alloc _) ij rfl ?_
     intro v A2 tB kl _
     obtain⟨rfl,BD⟩:=tB.mT
     clear tB
     have xG:bz A2 (au .u64 (vs k) (M k)*(pt A.next (.cells bj true 1)*(C*(jb (oA (fun k=>au .u64 (vs k) (M k)) k eG) 8*(pt pb (.cells [.map (some r)] true 1)*(fy .i64 r (rT vs)*F)))))):=BD.dH (by ac_rfl)
     have Xd:=(show bz A2 (pt A.next (.cells bj true 1)*(au .u64 (vs k) (M k)*(C*(jb (oA (fun k=>au .u64 (vs k) (M k)) k eG) 8*(pt pb (.cells [.map (some r)] true 1)*(fy .i64 r (rT vs)*F)))))) from BD.dH (by ac_rfl)).bR
     clear sw PZ ng
     obtain⟨b',Yl,c',Pd,QO,_,sw,PZ,ng,jB⟩:=au.at xG xE
     rw [hv] at QO
     injection QO with e1 e2 e3
     injection e1 with e1
     injection e1 with e1 e4
     subst e1;subst e4;subst e3
     have iX:(b=A.next)=False:=nb
     have RQ:(A.next=b)=False:=eq_false fun e=>by rw [e] at iX;simp at iX
     have bS:∀(A3:AW) (L:List Int) (x:dK),bz A3 (au .u64 (vs k) L*(pt A.next (.cells bj true 1)*(C*(jb (oA (fun k=>au .u64 (vs k) (M k)) k eG) 8*(pt pb (.cells [.map (some r)] true 1)*(fy .i64 r (rT vs)*F))))))→
      bz (A3.set A.next (some x)) (dS pb (fun q=>if q=k then L else M q)*(C*F)):=by
      intro A3 L x h
      have h1:bz A3 (pt A.next (.cells bj true 1)*(au .u64 (vs k) L*(jb (oA (fun k=>au .u64 (vs k) (M k)) k eG) 8*(pt pb (.cells [.map (some r)] true 1)*(fy .i64 r (rT vs)*(C*F)))))):=h.dH (by ac_rfl)
      have h2:=bz.put (f:=fun k=>au .u64 (vs k) (M k)) (h1.set x).right Xb
      have e:oA (fun k=>au .u64 (vs k) (M k)) k (au .u64 (vs k) L)=fun q=>au .u64 (vs q) (if q=k then L else M q):=by
       funext q
       simp only [oA]
       split
       · rename_i e;rw [e]
       · rfl
      rw [e] at h2
      exact dS.dR (r:=r) (vs:=vs) (h2.dH (by ac_rfl))
     have VN:off+j+1≤Pd.length:=by omega
     have mg:MQ M fY cell (j:Int) g=.tuple #[(ba.mk fY cell j (M k)[j] (if (g (M k)[j]).2=true then (g (M k)[j]).1 else (M k)[j]) (g (M k)[j]).2).v,.int .i64 0]:=by
      unfold MQ fz mq;rw [if_pos Pv,if_pos Pv,Jc]
     cases GR:(g (M k)[j]).2
     · repeat' (first
     | (refine jx fun R hR=>?_;simp [aw,az,Xd,sw,PZ,iX,RQ,AW.aa,ah,PM,xE,bj,GR];try simp (disch:=omega) only [if_pos,if_neg,aw,az])
     | (refine hR _ _ ?_;clear hR R)|(refine hK _ _ ?_;clear hK K)|refine nx ?_
     | refine wn fun K hK=>?_
     | simp only [wS]
     | refine wb ?_|refine wr ?_|refine wk ?_|refine we ?_|refine ws ?_|refine wq ?_
     | (refine wc rfl (fun hc=>?_) (fun hc=>?_)<;>(try simp at hc)<;>(try omega))
     | (refine ib (fun hc=>?_) (fun hc=>?_)<;>(try omega)<;>(try simp (disch:=omega) only [if_pos,if_neg])))
       refine⟨_,by simp [AW.gi,AW.dX,AW.aa,ah];rfl,bz.post (by simp [mg,ba.v,GR]) ?_⟩
       have hM:pB M cell (j:Int) g=fun q=>if q=k then M k else M q:=by
        funext q
        simp only [pB,Jc,GR]
        simp only [Bool.false_eq_true,and_false,if_false]
        split
        · rename_i e;rw [e]
        · rfl
       rw [hM,HP.cl]
       exact bS A2 (M k) _ xG
     · have VM:(Pd.set (off+j) (Value.int .u64 (g (M k)[j]).1))[off+j]? = some (Value.int .u64 (g (M k)[j]).1):=List.getElem?_set_self (by omega)
       revert hS hw;(repeat first|clear hS|clear hw|revert hc|revert zn|revert zA|revert R|revert K);refine W trivial (rQ Xd sw PZ VM iX RQ VN PM xE GR @AW.aa @ah.eq_1 @bj.eq_1) (J1 ?_)<;>unhygienic intros
       refine⟨_,by simp [AW.gi,AW.dX,AW.aa,ah];rfl,bz.post (by simp [mg,ba.v,GR]) ?_⟩
       have hM:pB M cell (j:Int) g=fun q=>if q=k then (M k).set j (g (M k)[j]).1 else M q:=by
        have e0:pB M cell (j:Int) g=setRow M cell j (g (M k)[j]).1:=by unfold pB;rw [Jc,if_pos ⟨Pv,GR⟩]
        rw [e0]
        funext q
        simp only [setRow,←hk,←hj]
        by_cases e:q=k
        · rw [if_pos e,if_pos e,e]
        · rw [if_neg e,if_neg e]
       rw [hM,HP.cl]
       exact bS _ _ _ (jB _)
   · obtain⟨o,c,hv,_⟩:=(au.is vK).dJ
     rw [hv] at wJ
     have DL:hU M cell dq=false:=by simpa [hU,dG] using ti
     repeat' (first
     | (refine jx fun R hR=>?_;simp [aw,az,Nj,rW,wJ,np,Rv,nr,Ru,AW.aa,ah,ti];try simp (disch:=omega) only [if_pos,if_neg,aw,az])
     | (refine hR _ _ ?_;clear hR R)|(refine hK _ _ ?_;clear hK K)|refine nx ?_
     | refine wn fun K hK=>?_
     | simp only [wS]
     | refine wb ?_|refine wr ?_|refine wk ?_|refine we ?_|refine ws ?_|refine wq ?_
     | (refine wc rfl (fun hc=>?_) (fun hc=>?_)<;>(try simp at hc)<;>(try omega))
     | (refine ib (fun hc=>?_) (fun hc=>?_)<;>(try omega)<;>(try simp (disch:=omega) only [if_pos,if_neg])))
     all_goals
      refine⟨_,by simp [AW.gi,AW.dX,AW.aa,ah];rfl,bz.post (by simp [MQ,fz,mq,DL,ba.v,ba.zero]) ?_⟩
      have hM:pB M cell dq g=M:=by simp [pB,DL]
      rw [hM,HP.cl]
      exact(dS.dR hS).le hw (((AW.le.alloc A _).set (Nat.le_refl _) _))
 · have wJ:=Lu .i64 cell (by simp [rT,bA])
   have dG:k8 M cell=[]:=if_neg bA
   have DL:hU M cell dq=false:=by simp [hU,dG]
   repeat' (first
   | (refine jx fun R hR=>?_;simp [aw,az,Nj,rW,wJ,np,Rv,nr,Ru,AW.aa,ah];try simp (disch:=omega) only [if_pos,if_neg,aw,az])
   | (refine hR _ _ ?_;clear hR R)|(refine hK _ _ ?_;clear hK K)|refine nx ?_
   | refine wn fun K hK=>?_
   | simp only [wS]
   | refine wb ?_|refine wr ?_|refine wk ?_|refine we ?_|refine ws ?_|refine wq ?_
   | (refine wc rfl (fun hc=>?_) (fun hc=>?_)<;>(try simp at hc)<;>(try omega))
   | (refine ib (fun hc=>?_) (fun hc=>?_)<;>(try omega)<;>(try simp (disch:=omega) only [if_pos,if_neg])))
   all_goals first
    | (exfalso;omega)
    | (refine ⟨_,(by simp [AW.gi,AW.dX,AW.aa,ah];rfl),bz.post (by simp [MQ,fz,mq,DL,ba.v,ba.zero]) ?_⟩
       have hM:pB M cell dq g=M:=by simp [pB,DL]
       rw [hM,HP.cl]
       exact(dS.dR hS).le hw (((AW.le.alloc A _).set (Nat.le_refl _) _)))
end
section
namespace TWord
theorem jD [Gl] {A:AW} {L:List It} {T:Prop} (hS:ak A L) (hw:A.Wf) (h':(bg A L∧bB A L∧cj L)=T:=by first|(dsimp only [af,ag,bg,bB,cj,eA];done)|exact rfl):T:=h'▸hS.eu hw
end TWord
open TWord
variable [Gl]
def kN (v:Int):Int:=if 0≤v∧v≤1099511627776 then v*64 else 0
def jO (o:Int):Int:=IntKind.i64.wrap (IntKind.u64.wrap (o.tdiv 64))
def kJ (o:Int):Int:=IntKind.i64.wrap (IntKind.i64.wrap (o.tmod 64)-1)
def nh (N5 IA:Int):Int:=if 0≤N5∧N5<281474976710656∧-1≤IA∧IA<64 then N5*65536+(IA+1) else 0
def Kn (h:Int):Int:=IntKind.i64.wrap (IntKind.u64.wrap (h.tdiv 65536))
def gP (h:Int):Int:=IntKind.i64.wrap (IntKind.i64.wrap (h.tmod 65536)-1)
def lS (h IA:Int):Int:=nh ((IntKind.i64.wrap (Kn h+1)).tmod 281474976710656) IA
theorem Bm (v:Int) (A:AW):aC Tryz.prog 289 [.int .i64 v] A (fun u A'=>u=.bool (decide (0≤v∧v≤1099511627776))∧A=A'):=by
 refine ab Tryz.func289 rfl (by kernel_rfl) fun hw=>?_
 revert hw;refine W trivial trivial (J2 ?_ ?_)<;>unhygienic intros
 all_goals(simp_all<;>omega)
theorem Gf (v:Int) (A:AW):aC Tryz.prog 243 [.int .i64 v] A (fun u A'=>(∃e,u=.tuple #[.int .u64 (kN v),.int .i64 e])∧A=A'):=by
 refine ab Tryz.func243 rfl (by kernel_rfl) fun hw=>?_
 by_cases h1:0≤v∧v≤1099511627776
 · revert hw;refine W (J1 @Bm) (J1 h1) (J1 ?_)<;>unhygienic intros
   all_goals exact⟨_,by first|(simp;done)|(simp;rfl),⟨_,by simp [kN,h1];first|done|rfl⟩,rfl⟩
 · revert hw;(repeat first|clear hw|revert hc|revert zn|revert zA|revert R|revert K);refine W (J1 @Bm) (J1 h1) (J1 ?_)<;>unhygienic intros
   all_goals exact⟨_,by first|(simp;done)|(simp;rfl),⟨_,by simp [kN,h1];first|done|rfl⟩,rfl⟩
theorem sj (o:Int) (A:AW):aC Tryz.prog 283 [.int .u64 o] A (fun v A'=>v=.int .i64 (jO o)∧A=A'):=by
 refine ab Tryz.func283 rfl (by kernel_rfl) fun hw=>?_
 revert hw;refine W trivial trivial (J1 ?_)<;>unhygienic intros
 simp [jO]
theorem tQ (o:Int) (A:AW):aC Tryz.prog 282 [.int .u64 o] A (fun v A'=>v=.int .i64 (kJ o)∧A=A'):=by
 refine ab Tryz.func282 rfl (by kernel_rfl) fun hw=>?_
 revert hw;refine W trivial trivial (J1 ?_)<;>unhygienic intros
 simp [kJ]
theorem bF (N5 IA:Int) (A:AW):aC Tryz.prog 136 [.int .i64 N5,.int .i64 IA] A (fun u A'=>(∃e,u=.tuple #[.int .u64 (nh N5 IA),.int .i64 e])∧A=A'):=by
 refine ab Tryz.func136 rfl (by kernel_rfl) fun hw=>?_
 by_cases h1:0≤N5<;>by_cases h2:N5<281474976710656<;>by_cases h3:-1≤IA<;>by_cases h4:IA<64
 all_goals
  all_goals(revert hw;refine W trivial (J4 h1 h2 h3 h4) (J9 ?_ ?_ ?_ ?_ ?_ ?_ ?_ ?_ ?_)<;>(try exact trivial)<;>unhygienic intros)
  all_goals exact⟨_,by first|(simp;done)|(simp;rfl),⟨_,by simp [nh,h1,h2,h3,h4];first|done|rfl⟩,rfl⟩
theorem IO (h:Int) (A:AW):aC Tryz.prog 280 [.int .u64 h] A (fun v A'=>v=.int .i64 (Kn h)∧A=A'):=by
 refine ab Tryz.func280 rfl (by kernel_rfl) fun hw=>?_
 revert hw;refine W trivial trivial (J1 ?_)<;>unhygienic intros
 simp [Kn]
theorem Bn (h:Int) (A:AW):aC Tryz.prog 200 [.int .u64 h] A (fun v A'=>v=.int .i64 (gP h)∧A=A'):=by
 refine ab Tryz.func200 rfl (by kernel_rfl) fun hw=>?_
 revert hw;refine W trivial trivial (J1 ?_)<;>unhygienic intros
 simp [gP]
theorem yy (h IA:Int) (A:AW):aC Tryz.prog 210 [.int .u64 h,.int .i64 IA] A (fun u A'=>(∃e,u=.tuple #[.int .u64 (lS h IA),.int .i64 e])∧A=A'):=by
 refine ab Tryz.func210 rfl (by kernel_rfl) fun hw=>?_
 revert hw;refine W (J1 @IO) trivial (J1 ?_)<;>unhygienic intros
 refine bT (bF _ _ _) ?_
 rintro _ _ ⟨⟨e,rfl⟩,rfl⟩ _ _
 revert hw;(repeat first|clear hw|revert hc|revert zn|revert zA|revert R|revert K);refine W trivial trivial (J1 ?_)<;>unhygienic intros
 exact⟨_,by first|(simp;done)|(simp;rfl),⟨e,by simp [lS]⟩,rfl⟩
end
section
namespace TCfg
theorem jD [Gl] {A:AW} {L:List It} {T:Prop} (hS:ak A L) (hw:A.Wf) (h':(bg A L∧bB A L∧cj L)=T:=by first|(dsimp only [af,ag,bg,bB,cj,eA];done)|exact rfl):T:=h'▸hS.eu hw
end TCfg
open TCfg
variable [Gl]
structure bC where
 aQ:Int
 an:Int
 base:Int
 c0:Int
 c1:Int
 c2:Int
 c3:Int
 reads:Int
 bN:Int
 ai:Int
 av:Int
 ax:Int
 aK:Bool
def bC.v (c:bC):Value:=.agg #[.int .i64 c.aQ,.int .i64 c.an,.int .i64 c.base,.int .i64 c.c0,.int .i64 c.c1,.int .i64 c.c2,.int .i64 c.c3,.int .i64 c.reads,.int .i64 c.bN,.int .i64 c.ai,.int .i64 c.av,.int .i64 c.ax,.bool c.aK]
def bC.cells (c:bC):List Value:=[.int .i64 c.aQ,.int .i64 c.an,.int .i64 c.base,.int .i64 c.c0,.int .i64 c.c1,.int .i64 c.c2,.int .i64 c.c3,.int .i64 c.reads,.int .i64 c.bN,.int .i64 c.ai,.int .i64 c.av,.int .i64 c.ax,.bool c.aK]
def bC.nb (c:bC):Int:=c.c0+c.c1+c.c2+c.c3
def bC.hw (c:bC):Int:=c.c0+c.c1*2+c.c2*4+c.c3*8
structure b9 (c:bC):Prop where
 aQ:1≤c.aQ∧c.aQ≤64
 an:1≤c.an∧c.an≤64
 k0:0≤c.c0∧c.c0≤64
 k1:0≤c.c1∧c.c1≤64
 k2:0≤c.c2∧c.c2≤64
 k3:0≤c.c3∧c.c3≤64
 nb:c.nb≤64
 base:0≤c.base∧c.base≤c.aQ
 Ny:c.hw≤c.aQ-c.base
 reads:1≤c.reads∧c.reads≤32
 bN:1≤c.bN∧c.bN≤32
 ai:0≤c.ai∧c.ai≤8
 av:0≤c.av∧c.av≤8
 ax:0≤c.ax∧c.ax≤1099511627776
theorem DW (n lo hi:Int) (A:AW):aC Tryz.prog 95 [.int .i64 n,.int .i64 lo,.int .i64 hi] A (fun v A'=>v=.bool (decide (lo≤n∧n≤hi))∧A=A'):=by
 refine ab Tryz.func95 rfl (by kernel_rfl) fun _=>?_
 refine W trivial trivial (J2 ?_ ?_)<;>unhygienic intros
 all_goals(simp_all<;>omega)
theorem tH (n lo hi:Int) (A:AW):aC Tryz.prog 192 [.int .i64 n,.int .i64 lo,.int .i64 hi] A (fun v A'=>v=.bool (decide (lo≤n∧n≤hi))∧A=A'):=by
 refine ab Tryz.func192 rfl (by kernel_rfl) fun _=>?_
 refine W trivial trivial (J2 ?_ ?_)<;>unhygienic intros
 all_goals(simp_all<;>omega)
end
section
variable [Gl]
def kM (o:Int):Int×Bool:=(o,true)
def gr (v:Int) (_:Int):Int×Bool:=(v,true)
def mu (eo v:Int) (o:Int):Int×Bool:=(v,decide (o=eo))
def AI (v:Int) (o:Int):Int×Bool:=(IntKind.u64.wrap (o+v),true)
abbrev Mm:=Nat→List Int
def gI (M:Mm) (cell dq:Int):ba:=fz M 1 cell dq kM
def zN (M:Mm) (cell dq v:Int):ba:=fz M 2 cell dq (gr v)
def Aa (M:Mm) (cell dq eo v:Int):ba:=fz M 3 cell dq (mu eo v)
def Ra (M:Mm) (cell dq v:Int):ba:=fz M 4 cell dq (AI v)
def Ck (M:Mm) (cell dq v:Int):Mm:=pB M cell dq (gr v)
def ML (M:Mm) (cell dq eo v:Int):Mm:=pB M cell dq (mu eo v)
def Wd (M:Mm) (cell dq v:Int):Mm:=pB M cell dq (AI v)
structure gH where
 am:Int
 bX:Int
 ax:Int
def gH.Cn (s:gH):Int:=if s.bX≤1 then -1 else IntKind.i64.wrap s.ax
def gj (s:gH) (M:Mm):ba×gH×Mm:=
 if s.bX=0 then (zN M 6 s.am 1,{ s with bX:=1 },Ck M 6 s.am 1)
 else if s.bX=1 then (gI M 3 0,{ s with bX:=2,ax:=(gI M 3 0).fg },M)
 else if s.bX=2 then (zN M 6 s.am (IntKind.u64.wrap (s.ax+2)),{ s with bX:=3 },Ck M 6 s.am (IntKind.u64.wrap (s.ax+2)))
 else (ba.zero,s,M)
structure ju where
 wj:Bool
 je:Int
 done:Bool
def ju.dT (s:ju):Int:=if s.wj=true then IntKind.i64.wrap s.je else -1
def gU (s:ju) (M:Mm):ba×ju×Mm:=
 if s.done=true then (ba.zero,s,M)
 else if s.wj=false then (Ra M 4 0 1,{ s with wj:=true,je:=(Ra M 4 0 1).fg },Wd M 4 0 1)
 else (gI M 5 0,{ s with done:=decide ((gI M 5 0).fg=s.je) },M)
def yz (je:Int):Int:=IntKind.u64.wrap (IntKind.u64.wrap je+1)
structure oO where
 d5:Int
 bX:Int
 head:Int
 next:Int
 block:Int
def fK (s:oO) (M:Mm):ba×oO×Mm:=
 if s.bX=0 then (gI M 7 s.d5,{ s with head:=(gI M 7 s.d5).fg,bX:=if gP (gI M 7 s.d5).fg<0 then 3 else 1 },M)
 else if s.bX=1 then (gI M 8 (gP s.head),{ s with next:=(gI M 8 (gP s.head)).fg,bX:=2 },M)
 else if s.bX=2 then
  let w:=lS s.head (IntKind.i64.wrap (IntKind.i64.wrap s.next-1))
  (Aa M 7 s.d5 s.head w,if (Aa M 7 s.d5 s.head w).done=true then { s with bX:=3,block:=gP s.head } else { s with bX:=0 },ML M 7 s.d5 s.head w)
 else (ba.zero,s,M)
structure fm where
 d5:Int
 block:Int
 bX:Int
 head:Int
def dP (s:fm) (M:Mm):ba×fm×Mm:=
 if s.bX=0 then (gI M 7 s.d5,{ s with head:=(gI M 7 s.d5).fg,bX:=1 },M)
 else if s.bX=1 then
  let w:=IntKind.u64.wrap (IntKind.i64.wrap (gP s.head+1))
  (zN M 8 s.block w,{ s with bX:=2 },Ck M 8 s.block w)
 else if s.bX=2 then
  let w:=lS s.head s.block
  (Aa M 7 s.d5 s.head w,{ s with bX:=if (Aa M 7 s.d5 s.head w).done=true then 3 else 0 },ML M 7 s.d5 s.head w)
 else (ba.zero,s,M)
structure gN where
 c8:Int
 fO:Int
 rv:Int
 bX:Int
 dY:Int
 value:Int
 gb:Bool
def gN.done (s:gN):Bool:=decide (s.bX=3)
def gN.val (s:gN):Int:=if s.bX=3∧s.gb=false then s.value else 0
def dE (s:gN) (M:Mm):ba×gN×Mm:=
 if s.bX=0 then
  let a:=gI M 2 s.fO
  (a,if kJ a.fg≥0∨jO a.fg>s.rv then { s with dY:=a.fg,gb:=true,bX:=3 } else { s with dY:=a.fg,bX:=1 },M)
 else if s.bX=1 then (gI M 1 s.c8,{ s with value:=(gI M 1 s.c8).fg,bX:=2 },M)
 else if s.bX=2 then (gI M 2 s.fO,{ s with gb:=decide ((gI M 2 s.fO).fg≠s.dY),bX:=3 },M)
 else (ba.zero,s,M)
structure gl where
 an:List Int
 rv:Int
 ik:Bool
def gl.done (s:gl):Bool:=s.ik || decide (s.an.length=0)
def jG (s:gl) (M:Mm):ba×gl×Mm:=
 if s.done=true then (ba.zero,s,M)
 else (gI M 2 (s.an.getD 0 0),{ s with an:=s.an.tail,ik:=decide (jO (gI M 2 (s.an.getD 0 0)).fg>s.rv) },M)
end
end Go.Stx
