/-
 The reference's cells at made configurations, and both cells made alike.
-/
import Derived.Test.YtejgooipbmnioaaGreatDoorG22
set_option linter.unusedVariables false
set_option linter.unusedSimpArgs false
set_option linter.unusedSectionVars false
set_option maxRecDepth 20000
set_option maxHeartbeats 4000000
namespace Go.Stx
open Go Go.Proofs
attribute [local irreducible] TW cg eg bn aC aV cR df
section
abbrev iU:List (Nat×Nat):=[(0,0),(1,0),(2,0),(3,0),(4,0),(5,0),(6,0),(7,0),(8,0),(9,0),(10,2),(11,3),(12,0),(13,0),(14,0),(15,3)]
abbrev iT:List (Nat×Nat):=[(0,0),(1,0),(2,0),(3,0),(4,0),(5,0),(6,0),(7,0),(9,0),(10,0),(8,2),(11,2),(12,0),(13,0)]
open T19
variable [Gl]
def jW (c:bC) (nt:Nat) (cx:List Int):Mm:=fun k=>if k=0 then cx++List.replicate c.nb.toNat 0 else if k=1 then List.replicate c.an.toNat 0 else if k=5 then List.replicate nt 0 else if k=6 then eH c.c0 c.c1 else if k=7 then eQ c.c0 c.c1 else [0]
def qC (c:bC):dK:=.cells [.int .i64 c.aQ,.int .i64 c.an,.int .i64 c.base,.int .i64 c.c0,.int .i64 c.c1,.int .i64 c.c2,.int .i64 c.c3,.int .i64 c.reads,.int .i64 c.bN,.int .i64 c.ai,.int .i64 c.av,.int .i64 c.ax,.bool c.aK] true 1
def tK (c:bC) (v0 v1 v5 v6 v7:Value):dK:=.cells [.int .i64 c.aQ,.int .i64 c.an,.int .i64 c.base,.int .i64 c.c0,.int .i64 c.c1,.int .i64 c.c2,.int .i64 c.c3,.int .i64 c.reads,.int .i64 c.bN,.int .i64 c.ai,.int .i64 c.av,.int .i64 c.ax,.bool c.aK,v0,v1,.int .u64 0,.int .u64 0,.int .u64 0,v5,v6,v7] true 1
abbrev me:Value:=.slice none 0 0
theorem rK {c:bC} (hc:nB c):((eQ c.c0 c.c1).length:Int)=c.nb:=by
 have e:c.nb=c.c0+c.c1+c.c2+c.c3:=rfl
 rw [e,hc.c2,hc.c3]
 rcases hc.c0 with h0|h0|h0<;>rcases hc.c1 with h1|h1|h1<;>rw [h0,h1]<;>decide
theorem Eu {c:bC} (hc:nB c) (b:Nat) (hb:(b:Int)<c.nb):(eQ c.c0 c.c1)[b]? = some (if (b:Int)+1<c.nb∧cG c (b+1)=cG c b then (b:Int)+2 else 0):=by
 have e:c.nb=c.c0+c.c1+c.c2+c.c3:=rfl
 rw [e,hc.c2,hc.c3] at hb ⊢
 unfold cG td
 rw [hc.c2,hc.c3]
 rcases hc.c0 with h0|h0|h0<;>rcases hc.c1 with h1|h1|h1<;>rw [h0,h1] at hb ⊢
 all_goals(have Zu:b=0∨b=1∨b=2∨b=3:=by omega)
 all_goals(rcases Zu with rfl|rfl|rfl|rfl)
 all_goals(first|omega|(simp [eQ];done))
def nF (c:bC):Nat→Int|0=>0|1=>c.c0|2=>c.c0+c.c1|3=>c.c0+c.c1+c.c2|_=>c.c0+c.c1+c.c2+c.c3
def tr (c:bC):Nat→Int|0=>c.c0|1=>c.c1|2=>c.c2|_=>c.c3
theorem BB {c:bC} (hc:nB c) (k:Nat) (hk:k<4):(eH c.c0 c.c1)[k]? = some (if 0<tr c k then nF c k+1 else 0):=by
 have RX:k=0∨k=1∨k=2∨k=3:=by omega
 have h2:=hc.c2
 have h3:=hc.c3
 rcases RX with rfl|rfl|rfl|rfl
 all_goals(simp only [tr,nF,eH])
 all_goals(rcases hc.c0 with h0|h0|h0<;>rcases hc.c1 with h1|h1|h1<;>simp [h0,h1,h2,h3,nh])
theorem ak.WM {A:AW} {L K:List It} {b n:Nat} {k:IntKind} (h:ak A L) (hp:ap L (.at b (.cells (ep [.int k 0] n) true 1)) K):ak A (.h (au k (.slice (some ⟨b,0,none⟩) n n) (List.replicate n 0))::K):=by
 have hz:ep [Value.int k 0] n=(List.replicate n (0:Int)).map (Value.int k):=by
  clear hp
  induction n with
  | zero=>rfl
  | succ n ih=>rw [List.replicate_succ,List.map_cons,←ih];rfl
 rw [hz] at hp
 exact ak.kB _ _ h hp (by simp)
theorem F7 {A:AW} {L K:List It} {c:bC} {mb:Nat} {M:Mm} {v0 v1 v5 v6 v7:Value} (h:ak A L)
 (hp:aD L [.at mb (tK c v0 v1 v5 v6 v7),.h (au .u64 v0 (M 0)),.h (au .u64 v1 (M 1)),.h (au .u64 v5 (M 5)),.h (au .u64 v6 (M 6)),.h (au .u64 v7 (M 7))] K) (h2:(M 2).getD 0 0=0) (h3:(M 3).getD 0 0=0) (h4:(M 4).getD 0 0=0):ak A (F8 c mb M::K):=by
 unfold ak at h
 rw [hp.aR] at h
 have h1:bz A (pt mb (tK c v0 v1 v5 v6 v7)*(au .u64 v0 (M 0)*(au .u64 v1 (M 1)*(au .u64 v5 (M 5)*(au .u64 v6 (M 6)*(au .u64 v7 (M 7)*aR K)))))):=h.dH (by
  show pt mb _*(au .u64 v0 (M 0)*(au .u64 v1 (M 1)*(au .u64 v5 (M 5)*(au .u64 v6 (M 6)*(au .u64 v7 (M 7)*eG)))))*aR K=_
  rw [dg]
  ac_rfl)
 refine Mn.dR (cf:=c) (mb:=mb) (M:=M) (v0:=v0) (v1:=v1) (v5:=v5) (v6:=v6) (v7:=v7) ?_
 rw [h2,h3,h4]
 exact h1
theorem NE (c:bC) (k:Nat) (hk:k<4):[Value.int .i64 c.aQ,.int .i64 c.an,.int .i64 c.base,.int .i64 c.c0,.int .i64 c.c1,.int .i64 c.c2,.int .i64 c.c3,.int .i64 c.reads,.int .i64 c.bN,.int .i64 c.ai,.int .i64 c.av,.int .i64 c.ax,.bool c.aK][3+k]? = some (.int .i64 (tr c k)):=by
 have RX:k=0∨k=1∨k=2∨k=3:=by omega
 rcases RX with rfl|rfl|rfl|rfl<;>rfl
theorem IF (c:bC) (k:Nat) (hk:k<4):nF c (k+1)=nF c k+tr c k:=by
 have RX:k=0∨k=1∨k=2∨k=3:=by omega
 rcases RX with rfl|rfl|rfl|rfl<;>simp [nF,tr]
theorem Ff {c:bC} (hc:nB c) (k:Nat):(0≤tr c k∧tr c k≤2)∧0≤nF c k∧nF c k≤4:=by
 have h0:=hc.c0
 have h1:=hc.c1
 have h2:=hc.c2
 have h3:=hc.c3
 unfold tr nF
 repeat' split
 all_goals omega
set_option maxRecDepth 100000 in
set_option maxHeartbeats 4000000 in
theorem D8 (c:bC) (hF:nB c) (nt:Nat) (tC:nt≤16) (vi:Value) (cx:List Int) (hi:(cx.length:Int)=c.aQ) (A:AW) (F:HP) (hw:A.Wf) (hS:ak A [.h (au .u64 vi cx),.h F]) :
 aC Tryz.prog 50 [c.v,.int .i64 (nt:Int),vi] A (fun v A'=>∃mb,v=pv mb∧ak A' [F8 c mb (jW c nt cx),.h (au .u64 vi cx),.h F]):=by
 refine ab Tryz.func50 rfl (by kernel_rfl) fun _=>?_
 have AG:=tM c hF.ok
 have i8:=fun b=>Ec c hF.ok b
 obtain⟨oi,ci,rfl,_⟩:=(ak.nH hS .z).dJ
 have ER:=rK hF
 obtain⟨nb,xj⟩:∃nb:Nat,c.nb=nb:=⟨c.nb.toNat,by omega⟩
 have RD:=hF.ok.aQ
 have Vf:=hF.ok.an
 have Vj:nb≤64:=by have:=hF.ok.nb;omega
 rw [xj] at AG
 dsimp only [bC.v] at AG i8 ⊢
 revert hS hw;refine W (J3 (od iU) (od iT) @AG) (J2 @AW.aa @ah.eq_1) (J1 ?_)<;>unhygienic intros
 refine eS (fun k fr A'=>A'.Wf∧∃(j:Nat) (v0:Value) (q:List Int),q=cx.take j∧k=cx.length-j∧j≤cx.length∧fr 1=.int .i64 (nt:Int)∧fr 2=.slice oi cx.length ci∧fr 3=pv A.next∧fr 7=.int .i64 (nb:Int)∧fr 8=pv (A.next+1)∧fr 9=.int .i64 (j:Int)∧
  ak A' [.at (A.next+1) (tK c v0 me me me me),.at A.next (qC c),.h (au .u64 v0 q),.h (au .u64 (.slice oi cx.length ci) cx),.h F]) cx.length ?_ ?_
 · refine⟨(hw.alloc _).alloc _,0,me,[],by simp,by simp,by simp,by simp,by simp,by simp,by simp,by simp,by simp,?_⟩
   apply ak.bS
   · apply ak.oD .u64
     (·exact sA)
   (·first|exact pA|exact kA)
 rintro k fr A1 ⟨hw,j,v0,q,xD,rfl,hj,f1,f2,f3,f7,f8,f9,hS⟩
 have hI:=ak.nH hS (.s (.s (.s .z)))
 have TG:q.length=j:=by rw [xD];simp;omega
 obtain⟨o0,c0,rfl,_⟩:=(ak.nH hS (.s (.s .z))).dJ
 have hq:=H4 hS hw
 by_cases dO:j<cx.length
 · have fG:(j:Int)<c.aQ:=by omega
   have H8:IntKind.i64.wrap ((j:Int)+1)=((j+1:Nat):Int):=aw (by omega) (by omega)
   obtain⟨p,cK,rfl,dG,bA⟩:=hI.at dO
   have FA:cx.take (j+1)=cx.take j++[cx[j]]:=List.take_succ_eq_append_getElem dO
   generalize cx[j]=x at *
   have bS:∀(A':AW) (qZ:Fr),A'.Wf→qZ 1=.int .i64 (nt:Int)→qZ 2=.slice (some p) cx.length ci→qZ 3=pv A.next→qZ 7=.int .i64 (nb:Int)→qZ 8=pv (A.next+1)→qZ 9=.int .i64 ((j+1:Nat):Int)→
    (∃v0,ak A' [.at (A.next+1) (tK c v0 me me me me),.at A.next (qC c),.h (au .u64 v0 (q++[x])),.h (au .u64 (.slice (some p) cx.length ci) cx),.h F])→
    ∃k',k'<cx.length-j∧A'.Wf∧∃(j:Nat) (v0:Value) (q:List Int),q=cx.take j∧k'=cx.length-j∧j≤cx.length∧qZ 1=.int .i64 (nt:Int)∧qZ 2=.slice (some p) cx.length ci∧qZ 3=pv A.next∧qZ 7=.int .i64 (nb:Int)∧qZ 8=pv (A.next+1)∧qZ 9=.int .i64 (j:Int)∧
     ak A' [.at (A.next+1) (tK c v0 me me me me),.at A.next (qC c),.h (au .u64 v0 q),.h (au .u64 (.slice (some p) cx.length ci) cx),.h F]:=by
    rintro A' qZ km e1 e2 e3 e7 e8 e9 ⟨v0,h⟩
    exact⟨cx.length-(j+1),by omega,km,j+1,v0,q++[x],by rw [FA,xD],rfl,by omega,e1,e2,e3,e7,e8,e9,h⟩
   revert hq hS hw;(repeat first|clear hq|clear hS|clear hw|revert hc|revert zn|revert zA|revert R|revert K);refine Wu (J2 (od iU) (od iT)) (rQ f1 f2 f3 f7 f8 f9 dG bA fG dO H8 @AW.aa @ah.eq_1) (J1 ?_)<;>unhygienic intros
   refine bS _ _ ?_ (by simp [f1]) (by simp [f2]) (by simp [f3]) (by simp [f7]) (by simp [f8]) (by simp) ?_
   · exact wA
   · apply Exists.intro
     apply ak.bS
     (·exact sA)
     (·first|exact pA|exact kA)
 have QX:j=cx.length:=by omega
 have fG:¬(j:Int)<c.aQ:=by omega
 have M8:q=cx:=by rw [xD,QX,List.take_length]
 subst M8
 clear xD
 revert hq hS hw;(repeat first|clear hq|clear hS|clear hw|revert hc|revert zn|revert zA|revert R|revert K);refine W (J2 (od iU) (od iT)) (J9 f1 f2 f3 f7 f8 f9 fG @AW.aa @ah.eq_1) (J1 ?_)<;>unhygienic intros
 refine eS (fun k fr A'=>A'.Wf∧∃(b:Nat) (v0 v7:Value) (d r:List Int),d=q++List.replicate b 0∧r=(eQ c.c0 c.c1).take b∧k=nb-b∧b≤nb∧fr 1=.int .i64 (nt:Int)∧fr 3=pv A.next∧fr 7=.int .i64 (nb:Int)∧fr 8=pv (A.next+1)∧fr 10=.int .i64 (b:Int)∧
  ak A' [.at (A.next+1) (tK c v0 me me me v7),.at A.next (qC c),.h (au .u64 v0 d),.h (au .u64 v7 r),.h (au .u64 (.slice oi q.length ci) q),.h F]) nb ?_ ?_
 · refine⟨hw,0,.slice o0 q.length c0,me,q,[],by simp,by simp,by simp,by simp,by simp [f1],by simp [f3],by simp [f7],by simp [f8],by simp,?_⟩
   apply ak.bS
   · exact ak.oD .u64 hS
   (·first|exact pA|exact kA)
 clear dO fG TG hI hq hS hw f1 f2 f3 f7 f8 f9 QX
 rintro k fr A2 ⟨hw,b,v0,v7,d,r,VF,On,rfl,hb,f1,f3,f7,f8,Sp,hS⟩
 have R5:d.length=q.length+b:=by rw [VF];simp
 have RJ:r.length=b:=by rw [On];simp;omega
 obtain⟨o0,c0,rfl,_⟩:=(ak.nH hS (.s (.s .z))).dJ
 obtain⟨o7,c7,rfl,_⟩:=(ak.nH hS (.s (.s (.s .z)))).dJ
 have hq:=H4 hS hw
 by_cases dO:b<nb
 · have fG:(b:Int)<nb:=by omega
   have H8:IntKind.i64.wrap ((b:Int)+1)=(b:Int)+1:=aw (by omega) (by omega)
   have DM:IntKind.i64.wrap ((b:Int)+2)=(b:Int)+2:=aw (by omega) (by omega)
   have Ni:IntKind.u64.wrap ((b:Int)+2)=(b:Int)+2:=az (by omega) (by omega)
   have sz:=Eu hF b (by omega)
   rw [xj] at sz
   have FA:∀x,(eQ c.c0 c.c1)[b]? = some x→(eQ c.c0 c.c1).take (b+1)=(eQ c.c0 c.c1).take b++[x]:=fun x hx=>by rw [List.take_add_one,hx];rfl
   have bS:∀(x:Int) (A':AW) (qZ:Fr),A'.Wf→(eQ c.c0 c.c1)[b]? = some x→qZ 1=.int .i64 (nt:Int)→qZ 3=pv A.next→qZ 7=.int .i64 (nb:Int)→qZ 8=pv (A.next+1)→qZ 10=.int .i64 ((b:Int)+1)→
    (∃v0 v7,ak A' [.at (A.next+1) (tK c v0 me me me v7),.at A.next (qC c),.h (au .u64 v0 (d++[0])),.h (au .u64 v7 (r++[x])),.h (au .u64 (.slice oi q.length ci) q),.h F])→
    ∃k',k'<nb-b∧A'.Wf∧∃(b:Nat) (v0 v7:Value) (d r:List Int),d=q++List.replicate b 0∧r=(eQ c.c0 c.c1).take b∧k'=nb-b∧b≤nb∧qZ 1=.int .i64 (nt:Int)∧qZ 3=pv A.next∧qZ 7=.int .i64 (nb:Int)∧qZ 8=pv (A.next+1)∧qZ 10=.int .i64 (b:Int)∧
   ak A' [.at (A.next+1) (tK c v0 me me me v7),.at A.next (qC c),.h (au .u64 v0 d),.h (au .u64 v7 r),.h (au .u64 (.slice oi q.length ci) q),.h F]:=by
    rintro x A' qZ km hx e1 e3 e7 e8 ZM ⟨v0,v7,h⟩
    refine⟨nb-(b+1),by omega,km,b+1,v0,v7,d++[0],r++[x],by rw [VF,List.append_assoc,←List.replicate_succ'],by rw [On,FA x hx],rfl,by omega,e1,e3,e7,e8,by rw [ZM];push_cast;rfl,h⟩
   by_cases h1:(b:Int)+1<nb
   · by_cases h2:cG c ((b:Int)+1)=cG c b
     · rw [if_pos ⟨h1,h2⟩] at sz
       revert hq hS hw;(repeat first|clear hq|clear hS|clear hw|revert hc|revert zn|revert zA|revert R|revert K);refine Wu (J3 (od iU) (od iT) @i8) (Dz f1 f3 f7 f8 Sp fG dO H8 DM Ni h1 h2 @AW.aa @ah.eq_1) (J1 ?_)<;>unhygienic intros
       refine bS _ _ _ ?_ sz (by simp [f1]) (by simp [f3]) (by simp [f7]) (by simp [f8]) (by simp) ?_
       · exact wA
       · apply Exists.intro
         apply Exists.intro
         apply ak.bS
         (·exact sA)
         (·first|exact pA|exact kA)
     · rw [if_neg (fun e=>h2 e.2)] at sz
       revert hq hS hw;(repeat first|clear hq|clear hS|clear hw|revert hc|revert zn|revert zA|revert R|revert K);refine Wu (J3 (od iU) (od iT) @i8) (Dz f1 f3 f7 f8 Sp fG dO H8 DM Ni h1 h2 @AW.aa @ah.eq_1) (J1 ?_)<;>unhygienic intros
       refine bS _ _ _ ?_ sz (by simp [f1]) (by simp [f3]) (by simp [f7]) (by simp [f8]) (by simp) ?_
       · exact wA
       · apply Exists.intro
         apply Exists.intro
         apply ak.bS
         (·exact sA)
         (·first|exact pA|exact kA)
   · rw [if_neg (fun e=>h1 e.1)] at sz
     revert hq hS hw;(repeat first|clear hq|clear hS|clear hw|revert hc|revert zn|revert zA|revert R|revert K);refine Wu (J3 (od iU) (od iT) @i8) (rQ f1 f3 f7 f8 Sp fG dO H8 DM Ni h1 @AW.aa @ah.eq_1) (J1 ?_)<;>unhygienic intros
     refine bS _ _ _ ?_ sz (by simp [f1]) (by simp [f3]) (by simp [f7]) (by simp [f8]) (by simp) ?_
     · exact wA
     · apply Exists.intro
       apply Exists.intro
       apply ak.bS
       (·exact sA)
       (·first|exact pA|exact kA)
 have Zt:b=nb:=by omega
 subst Zt
 have fG:¬(b:Int)<b:=by omega
 have CP:r=eQ c.c0 c.c1:=by rw [On];exact List.take_of_length_le (by omega)
 subst CP
 clear On
 have GN:(nt:Int)≤140737488355328:=by omega
 have FD:(nt:Int)*8≤140737488355328:=by omega
 obtain⟨no,DL⟩:∃no:Nat,c.an.toNat=no:=⟨_,rfl⟩
 have YV:0≤c.an:=by omega
 have TI:c.an≤140737488355328:=by omega
 have PG:c.an*8≤140737488355328:=by omega
 revert hq hS hw;(repeat first|clear hq|clear hS|clear hw|revert hc|revert zn|revert zA|revert R|revert K);refine W (J2 (od iU) (od iT)) (rQ f1 f3 f7 f8 Sp DL YV GN FD TI PG @AW.aa @ah.eq_1) (J1 ?_)<;>unhygienic intros
 obtain⟨vO,YB⟩:∃vO,vO=Value.slice (some ⟨A2.next,0,none⟩) no no:=⟨_,rfl⟩
 obtain⟨vS,YA⟩:∃vS,vS=Value.slice (some ⟨A2.next+1,0,none⟩) nt nt:=⟨_,rfl⟩
 refine eS (fun k fr A'=>A'.Wf∧∃(j:Nat) (v6:Value) (r6:List Int),r6=(eH c.c0 c.c1).take j∧k=4-j∧j≤4∧fr 3=pv A.next∧fr 8=pv (A.next+1)∧fr 12=.int .i64 (nF c j)∧fr 13=.int .i64 (j:Int)∧
  ak A' [.at (A.next+1) (tK c (.slice o0 d.length c0) vO vS v6 (.slice o7 (eQ c.c0 c.c1).length c7)),.at A.next (qC c),.h (au .u64 v6 r6),.h (au .u64 (.slice o0 d.length c0) d),.h (au .u64 vO (List.replicate no 0)),.h (au .u64 vS (List.replicate nt 0)),.h (au .u64 (.slice o7 (eQ c.c0 c.c1).length c7) (eQ c.c0 c.c1)),.h (au .u64 (.slice oi q.length ci) q),.h F]) 4 ?_ ?_
 · refine⟨?_,0,me,[],by simp,by simp,by simp,by simp [f3],by simp [f8],by simp [nF],by simp,?_⟩
   · exact wA
   · subst YB
     subst YA
     apply ak.bS
     · apply ak.oD .u64
       apply ak.WM (k:=.u64) (b:=A2.next) (n:=no)
       · apply ak.WM (k:=.u64) (b:=A2.next+1) (n:=nt)
         · repeat' (first|exact hS|exact Nat.le_refl _|with_reducible apply ak.ez|with_reducible apply ak.nv|with_reducible apply AW.jm|with_reducible apply AW.nd|with_reducible apply ap.z|with_reducible apply ap.s|assumption|apply AW.Wf.alloc|apply AW.Wf.set|(simp only [AW.bq,AW.gW];omega)|apply ak.Rz hS hw|exact rfl)
         · repeat' (first|exact ap.z|apply ap.s)
       · repeat' (first|exact ap.z|apply ap.s)
     (·first|exact pA|exact kA)
 clear dO fG R5 GN FD TI PG hq hS hw f1 f3 f7 f8 Sp RD Vf Vj
 rintro k fr A3 ⟨hw,j,v6,r6,On,rfl,hj,f3,f8,So,V6,hS⟩
 have RJ:r6.length=j:=by rw [On];simp [eH];omega
 obtain⟨o6,c6,rfl,_⟩:=(ak.nH hS (.s (.s .z))).dJ
 have hq:=H4 hS hw
 by_cases dO:j<4
 · have fG:(j:Int)<4:=by omega
   have dG:=NE c j dO
   have YH:=IF c j dO
   have sz:=BB hF j dO
   obtain⟨g1,g2⟩:=Ff hF j
   have H8:IntKind.i64.wrap ((j:Int)+1)=(j:Int)+1:=aw (by omega) (by omega)
   have DM:IntKind.i64.wrap (nF c j+1)=nF c j+1:=aw (by omega) (by omega)
   have Ni:IntKind.u64.wrap (nF c j+1)=nF c j+1:=az (by omega) (by omega)
   have QY:IntKind.i64.wrap (nF c j+tr c j)=nF c j+tr c j:=aw (by omega) (by omega)
   have FA:∀x,(eH c.c0 c.c1)[j]? = some x→(eH c.c0 c.c1).take (j+1)=(eH c.c0 c.c1).take j++[x]:=fun x hx=>by rw [List.take_add_one,hx];rfl
   have bS:∀(x:Int) (A':AW) (qZ:Fr),A'.Wf→(eH c.c0 c.c1)[j]? = some x→qZ 3=pv A.next→qZ 8=pv (A.next+1)→qZ 12=.int .i64 (nF c j+tr c j)→qZ 13=.int .i64 ((j:Int)+1)→
    (∃v6,ak A' [.at (A.next+1) (tK c (.slice o0 d.length c0) vO vS v6 (.slice o7 (eQ c.c0 c.c1).length c7)),.at A.next (qC c),.h (au .u64 v6 (r6++[x])),.h (au .u64 (.slice o0 d.length c0) d),.h (au .u64 vO (List.replicate no 0)),.h (au .u64 vS (List.replicate nt 0)),.h (au .u64 (.slice o7 (eQ c.c0 c.c1).length c7) (eQ c.c0 c.c1)),.h (au .u64 (.slice oi q.length ci) q),.h F])→
    ∃k',k'<4-j∧A'.Wf∧∃(j:Nat) (v6:Value) (r6:List Int),r6=(eH c.c0 c.c1).take j∧k'=4-j∧j≤4∧qZ 3=pv A.next∧qZ 8=pv (A.next+1)∧qZ 12=.int .i64 (nF c j)∧qZ 13=.int .i64 (j:Int)∧
     ak A' [.at (A.next+1) (tK c (.slice o0 d.length c0) vO vS v6 (.slice o7 (eQ c.c0 c.c1).length c7)),.at A.next (qC c),.h (au .u64 v6 r6),.h (au .u64 (.slice o0 d.length c0) d),.h (au .u64 vO (List.replicate no 0)),.h (au .u64 vS (List.replicate nt 0)),.h (au .u64 (.slice o7 (eQ c.c0 c.c1).length c7) (eQ c.c0 c.c1)),.h (au .u64 (.slice oi q.length ci) q),.h F]:=by
    rintro x A' qZ km hx e3 e8 ZL ZK ⟨v6,h⟩
    exact⟨4-(j+1),by omega,km,j+1,v6,r6++[x],by rw [On,FA x hx],rfl,by omega,e3,e8,by rw [ZL,YH],by rw [ZK];push_cast;rfl,h⟩
   generalize tr c j=cn at *
   generalize nF c j=sm at *
   by_cases hp:0<cn
   · rw [if_pos hp] at sz
     revert hq hS hw;(repeat first|clear hq|clear hS|clear hw|revert hc|revert zn|revert zA|revert R|revert K);refine Wu (J2 (od iU) (od iT)) (Dz f3 f8 So V6 fG dO dG H8 DM Ni QY hp @AW.aa @ah.eq_1) (J1 ?_)<;>unhygienic intros
     refine bS _ _ _ ?_ sz (by simp [f3]) (by simp [f8]) (by simp [So]) (by simp) ?_
     · exact wA
     · apply Exists.intro
       apply ak.bS
       (·exact sA)
       (·first|exact pA|exact kA)
   · rw [if_neg hp] at sz
     revert hq hS hw;(repeat first|clear hq|clear hS|clear hw|revert hc|revert zn|revert zA|revert R|revert K);refine Wu (J2 (od iU) (od iT)) (Dz f3 f8 So V6 fG dO dG H8 DM Ni QY hp @AW.aa @ah.eq_1) (J1 ?_)<;>unhygienic intros
     refine bS _ _ _ ?_ sz (by simp [f3]) (by simp [f8]) (by simp [So]) (by simp) ?_
     · exact wA
     · apply Exists.intro
       apply ak.bS
       (·exact sA)
       (·first|exact pA|exact kA)
 have QX:j=4:=by omega
 subst QX
 have YL:r6=eH c.c0 c.c1:=by rw [On];rfl
 subst YL
 revert hq hS hw;(repeat first|clear hq|clear hS|clear hw|revert hc|revert zn|revert zA|revert R|revert K);refine W (J2 (od iU) (od iT)) (J6 f3 f8 So V6 @AW.aa @ah.eq_1) (J1 ?_)<;>unhygienic intros
 refine⟨_,by first|(simp;done)|(simp;rfl),A.next+1,rfl,?_⟩
 apply ak.bS
 · apply F7 (M:=jW c nt q) (v0:=.slice o0 d.length c0) (v1:=vO) (v5:=vS) (v6:=.slice o6 (eH c.c0 c.c1).length c6) (v7:=.slice o7 (eQ c.c0 c.c1).length c7)
   · exact hS
   · have e0:jW c nt q 0=d:=by show q++List.replicate c.nb.toNat 0=d;rw [xj,VF];rfl
     have e1:jW c nt q 1=List.replicate no 0:=by show List.replicate c.an.toNat 0=_;rw [DL]
     rw [e0,e1]
     (·first|exact pA|exact kA)
   all_goals rfl
 (·first|exact pA|exact kA)
def ia (c:bC):List Int:=(List.range c.aQ.toNat).map fun i:Nat=>10*(i:Int)+1
end
section
variable [Gl]
theorem AY {n:Int} (h:0≤n∧n<65535):gP (n+1)=n:=by
 rw [BX (by omega)]
 omega
theorem Ba {c:bC} (hF:nB c) (nt:Nat) {zs:List Int} (hz:(zs.length:Int)=c.aQ):jN c nt 0 (jW c nt zs):=by
 have xj:=nf hF.ok
 have ho:=hF.ok.an
 have h0:=hF.c0
 have h1:=hF.c1
 have h2:=hF.c2
 have h3:=hF.c3
 have Y1:c.nb=c.c0+c.c1+c.c2+c.c3:=rfl
 refine⟨?_,?_,rfl,rfl,rfl,?_,rfl,rK hF,?_,?_,?_,?_,?_⟩
 · show ((zs++List.replicate c.nb.toNat 0).length:Int)=_
   simp only [List.length_append,List.length_replicate]
   omega
 · show ((List.replicate c.an.toNat (0:Int)).length:Int)=_
   simp only [List.length_replicate]
   omega
 · show (List.replicate nt (0:Int)).length=nt
   simp
 · intro i
   show iz c i ((eH c.c0 c.c1).getD i 0)
   by_cases hi:i<4
   · rw [List.getD_eq_getElem?_getD,BB hF i hi]
     show iz c i (if 0<tr c i then nF c i+1 else 0)
     split
     · rename_i hp
       have hr:=Ff hF i
       refine⟨by omega,?_,fun _=>?_⟩
       · rw [AY (by omega)]
         have:i=0∨i=1∨i=2∨i=3:=by omega
         rcases this with rfl|rfl|rfl|rfl<;>simp only [tr,nF] at hp ⊢<;>omega
       · rw [AY (by omega)]
         have:i=0∨i=1∨i=2∨i=3:=by omega
         rcases this with rfl|rfl|rfl|rfl<;>simp only [tr,nF] at hp ⊢<;>unfold cG td
         · rw [if_neg (by omega),if_pos (by omega)];rfl
         · rw [if_neg (by omega),if_neg (by omega),if_pos (by omega)];rfl
         · omega
         · omega
     · exact iz.zero hF.ok _
   · rw [List.getD_eq_getElem?_getD,List.getElem?_eq_none (by simp [eH];omega)]
     exact iz.zero hF.ok _
 · intro b
   show lq c (cG c b) ((eQ c.c0 c.c1).getD b 0)
   by_cases hb:(b:Int)<c.nb
   · rw [List.getD_eq_getElem?_getD,Eu hF b hb]
     show lq c (cG c b) (if (b:Int)+1<c.nb∧cG c (b+1)=cG c b then (b:Int)+2 else 0)
     split
     · rename_i h
       refine⟨by omega,by omega,fun _=>?_⟩
       rw [show (b:Int)+2-1=b+1 by omega]
       exact h.2
     · exact lq.zero hF.ok _
   · have:=rK hF
     rw [List.getD_eq_getElem?_getD,List.getElem?_eq_none (by omega)]
     exact lq.zero hF.ok _
 · show (0:Int)≤0∧(0:Int)≤((0:Nat):Int)
   omega
 · show (0:Int)≤0∧(0:Int)≤((0:Nat):Int)
   omega
 · intro i
   show iM 0 ((List.replicate c.an.toNat (0:Int)).getD i 0)
   rw [List.getD_eq_getElem?_getD]
   by_cases hi:i<c.an.toNat
   · rw [List.getElem?_replicate_of_lt hi];exact iM.zero 0
   · rw [List.getElem?_eq_none (by simp;omega)];exact iM.zero 0
theorem oH (s:aT):(gJ s).aA=s.aA:=by unfold gJ;split<;>rfl
theorem j4 (s:aT) (ay:Int):(iY s ay).aA=s.aA:=oH _
theorem nj (s:aT) (ay:Int):(nk s ay).aA=s.aA:=by unfold nk;split<;>rfl
theorem mX (s:aT):(ga s).aA=s.aA:=by unfold ga;split<;>rfl
theorem ji (s:aT) (a v:Int):(jj s a v).2.aA=s.aA:=by
 unfold jj
 split
 · rfl
 · exact j4 s 3
theorem uz (s:aT) (b st:Int):(jK s b st).aA=s.aA:=by
 unfold jK
 split
 · exact nj s 8
 · split
   · exact j4 s 3
   · split
     · exact ji s _ 0
     · exact ji s _ 0
theorem pC:∀(n:Nat) (a:Int) (s:aT),(gO n a s).2.aA=s.aA
 | 0,_,_=>rfl
 | n+1,a,s=>by
   unfold gO
   split
   · rw [pC n];exact ji s a 0
   · exact ji s a 0
theorem vT (s:aT) (d5 iD:Int):(fU s d5 iD).aA=s.aA:=by
 unfold fU
 split
 · exact j4 s 4
 · dsimp only
   split
   · split
     · show (gO _ _ _).2.aA=_
       rw [pC];exact ji { s with ai:=s.ai++[iD] } _ _
     · rw [pC];exact ji { s with ai:=s.ai++[iD] } _ _
   · exact ji { s with ai:=s.ai++[iD] } _ _
theorem Gu (s:aT) (l:Fu):(rU s l).aA=s.aA:=by
 cases l with
 | k4 a v=>
   unfold rU
   dsimp only
   split
   · exact nj s 7
   · exact ji s a v
 | qq=>exact nj s 7
 | L4=>exact nj s 8
 | bS ay=>exact nj s ay
 | take v=>rfl
 | y6=>exact j4 s 3
 | cM b v=>exact uz s b v
theorem FO (s:aT) (v:Int) (u:zM):(xR s v u).aA=s.aA:=by
 cases u with
 | take=>rfl
 | cM b=>exact uz s b v
theorem sG (s:aT) (M:Mm):(cB s M).2.2.1.aA=(match s.aG with | .hP=>2|_=>s.aA):=by
 unfold cB
 cases hd:s.aG with
 | hP=>rfl
 | bK=>rfl
 | gZ k=>exact Gu _ k
 | eN=>
   dsimp only
   cases s.bL with
   | none=>rfl
   | some e=>
     dsimp only [hW]
     split<;>rfl
 | bm r u=>
   show (dw s M r u).2.2.1.aA=s.aA
   unfold dw
   dsimp only
   split
   · rfl
   · split
     · exact j4 _ 9
     · split
       · dsimp only
         rw [FO]
         split<;>rfl
       · dsimp only
         rw [j4]
         split<;>rfl
 | eL p=>
   show (lN s M p).2.2.1.aA=s.aA
   unfold lN
   dsimp only
   split
   · rw [vT]
   · rfl
 | eR=>
   dsimp only
   cases s.aI with
   | none=>rfl
   | some l=>
     dsimp only [iw]
     split<;>rfl
 | db=>
   dsimp only
   cases s.aH with
   | none=>rfl
   | some t=>
     dsimp only [go]
     split<;>rfl
 | dM ck=>
   show (fZ s M ck).2.2.1.aA=s.aA
   unfold fZ
   dsimp only
   split
   · rw [mX]
   · split<;>rfl
 | cu=>
   show (fp s M).2.2.1.aA=s.aA
   unfold fp
   dsimp only
   split
   · rw [mX]
   · split
     · rfl
     · rw [mX]
 | ee w=>
   show (gn s M w).2.2.1.aA=s.aA
   unfold gn
   dsimp only
   split<;>rfl
 | cD w=>rfl
 | gV=>rfl
 | fL=>exact oH s
 | eK p=>
   show (iJ s M p).2.2.1.aA=s.aA
   unfold iJ
   dsimp only
   split
   · rw [oH]
   · rfl
theorem E3 {s:aT} (h:s.kO 1=true):s.aA=1:=by
 unfold aT.kO at h
 simp at h
 exact h.2
theorem C3 (s:aT) (ay:Int):(zS s ay).2=s∨(zS s ay).2.aA=1:=by
 unfold zS
 split
 · rename_i hf
   have:=E3 hf
   split<;>simp [this]
 · exact .inl rfl
theorem Hx (s:aT) (a v:Int):(DH s a v).2=s∨(DH s a v).2.aA=1:=by
 unfold DH
 split
 · rename_i hf
   have:=E3 hf
   simp [this]
 · exact .inl rfl
theorem HH (s:aT) (a:Int):(Eb s a).2=s∨(Eb s a).2.aA=1:=by
 unfold Eb
 split
 · rename_i hf
   have:=E3 hf
   split
   · simp [this]
   · split<;>simp [this,tF]
 · exact .inl rfl
theorem NV (s:aT) (a:Int):(Ip s a).2=s∨(Ip s a).2.aA=1:=by
 unfold Ip
 split
 · rename_i hf
   have:=E3 hf
   split
   · simp
   · split<;>simp [this]
 · exact .inl rfl
theorem Nw (s:aT) (a:Int):(If s a).2=s∨(If s a).2.aA=1:=by
 unfold If
 split
 · rename_i hf
   have:=E3 hf
   split
   · simp [this]
   · split<;>simp [this,tF]
 · exact .inl rfl
end
end Go.Stx
