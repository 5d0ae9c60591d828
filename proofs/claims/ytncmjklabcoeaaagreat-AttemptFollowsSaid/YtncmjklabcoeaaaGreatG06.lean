/-
 The reference's Sorted: what it returns.
-/
import Derived.Test.YtncmjklabcoeaaaGreatG01
set_option linter.unusedVariables false
set_option linter.unusedSimpArgs false
set_option maxRecDepth 20000
set_option maxHeartbeats 4000000
namespace Go.Stx
open Go Go.Proofs
attribute [local irreducible] fj cm aH bB dK ei
abbrev kz:List (Nat×Nat):=[(0,0),(1,0),(2,0),(3,0),(4,0),(5,0),(6,0),(7,0),(8,0),(9,0),(10,0),(11,0),(12,0),(13,0),(14,0)]
open T0
def mG (fy:List Int) (x:Int):List Int:=
 match fy with
 | []=>[x]
 | y::r=>if y<x then y::mG r x else if y=x then y::r else x::y::r
def ig (l:List Int):List Int:=l.foldl mG []
theorem IF:∀(fy:List Int) (x:Int) (k:Nat),k≤fy.length→(∀q (h:q<fy.length),q<k→fy[q]<x)→(∀h:k<fy.length,¬fy[k]<x)→
 mG fy x=if fy[k]? = some x then fy else fy.take k++x::fy.drop k
 | [],x,k,hk,h1,h2=>by
   have:k=0:=by simpa using hk
   subst this
   simp [mG]
 | y::r,x,0,hk,h1,h2=>by
   have:=h2 (by simp)
   simp only [List.getElem_cons_zero] at this
   simp [mG,this]
 | y::r,x,k+1,hk,h1,h2=>by
   have h0:=h1 0 (by simp) (by omega)
   simp only [List.getElem_cons_zero] at h0
   have ih:=IF r x k (by simpa using hk) (fun q h hq=>h1 (q+1) (by simpa using h) (by omega)) (fun h=>h2 (by simpa using h))
   simp only [mG,h0,if_true,ih,List.getElem?_cons_succ,List.take_succ_cons,List.drop_succ_cons]
   split<;>simp
theorem F2 (fy:List Int) (x:Int):(mG fy x).length≤fy.length+1:=by
 induction fy with
 | nil=>simp [mG]
 | cons y r ih=>
   simp only [mG]
   split
   · simp;omega
   · split<;>simp
theorem um (l:List Int):(ig l).length≤l.length:=by
 have:∀(l fy:List Int),(l.foldl mG fy).length≤fy.length+l.length:=by
  intro l
  induction l with
  | nil=>intro fy;simp
  | cons x r ih=>
    intro fy
    have h1:=ih (mG fy x)
    have h2:=F2 fy x
    simp only [List.foldl_cons,List.length_cons]
    omega
 simpa [ig] using this l []
theorem B6 (fy:List Int) (u:Nat) (y:Int) (hu:u<fy.length):(fy.take (u+1)++y::fy.drop (u+1)).set (u+1) fy[u]=fy.take u++fy[u]::fy.drop u:=by
 have hl:(fy.take (u+1)).length=u+1:=by simp;omega
 rw [List.set_append_right _ _ (by omega),hl,Nat.sub_self,List.set_cons_zero]
 have e:fy.take (u+1)=fy.take u++[fy[u]]:=by rw [List.take_add_one,List.getElem?_eq_getElem hu];rfl
 rw [e,List.append_assoc,List.singleton_append,←List.drop_eq_getElem_cons hu]
theorem xq {l:List Int} {j:Nat} (h:j<l.length):ig (l.take (j+1))=mG (ig (l.take j)) l[j]:=by
 rw [List.take_add_one,List.getElem?_eq_getElem h]
 show List.foldl mG [] (l.take j++[l[j]])=_
 rw [List.foldl_append]
 rfl
theorem yU (v:Value) (l:List Int) (A:AW) (h:cF A .i64 v l) (hl:l.length<2^38) :
 aH Tryz.prog 251 [v] A (fun u A'=>dk A.next A' .i64 u (ig l)∧A.le A'):=by
 refine ab Tryz.func251 rfl (by kernel_rfl) fun hw=>?_
 obtain⟨o,c,rfl,_⟩:=h.cL
 revert hw;refine W (J1 (od kz)) trivial (J1 ?_)<;>unhygienic intros
 refine ed (fun k fr A'=>∃(j:Nat) (sv:Value),k=l.length-j∧j≤l.length∧fr 0=.slice o l.length c∧fr 4=.int .i64 j∧fr 3=sv∧
  dk A.next A' .i64 sv (ig (l.take j))∧A.le A'∧A'.Wf) l.length ?_ ?_
 · exact⟨0,_,by simp,by simp,rfl,rfl,rfl,dk.nil _ _ _,AW.le.refl A,hw⟩
 · rintro k fr A' ⟨j,sv,rfl,hj,g0,g4,g3,kD,eG,gY⟩
   by_cases dQ:j<l.length
   case neg=>
    have vz:j=l.length:=by omega
    revert hw;(repeat first|clear hw|revert hc|revert zn|revert zA|revert R|revert K);refine W (J1 (od kz)) (J4 g0 g4 g3 dQ) (J1 ?_)<;>unhygienic intros
    rw [vz,List.take_length] at kD
    simpa using ⟨kD,eG⟩
   have vT:IntKind.i64.wrap ((j:Int)+1)=((j+1:Nat):Int):=ak (by omega) (by omega)
   obtain⟨p,dh,rfl,eH,dg⟩:=(h.le eG hw).at dQ
   have uR:=xq dQ
   have Lz:=um (l.take j)
   simp only [List.length_take] at Lz
   generalize PA:ig (l.take j)=fy at kD uR Lz
   generalize hx:l[j]=x at dg uR
   obtain⟨so,sc,rfl,_⟩:=kD.is.cL
   revert hw;(repeat first|clear hw|revert hc|revert zn|revert zA|revert R|revert K);refine W (J1 (od kz)) (J4 g0 g4 g3 dQ) (J1 ?_)<;>unhygienic intros
   refine ed (fun k' Se A2=>∃k:Nat,A'=A2∧k'=fy.length-k∧k≤fy.length∧Se 0=.slice (some p) l.length c∧Se 4=.int .i64 j∧Se 3=.slice so fy.length sc∧Se 5=.int .i64 k∧
    ∀q (h:q<fy.length),q<k→fy[q]<x) fy.length ?_ ?_
   · refine⟨0,rfl,by simp,by simp,?_,?_,?_,?_,by simp⟩<;>simp [g0,g4,g3]
   · rintro k' Se A2 ⟨k,rfl,rfl,hk,f0,f4,f3,f5,OG⟩
     have RP:IntKind.i64.wrap ((k:Int)+1)=((k+1:Nat):Int):=ak (by omega) (by omega)
     have IN:∀(BI:Fr) (A3:AW) (SB:Value),BI 0=.slice (some p) l.length c→BI 4=.int .i64 ((j+1:Nat):Int)→BI 3=SB→dk A.next A3 .i64 SB (mG fy x)→A.le A3→A3.Wf→
      ∃k',k'<l.length-j∧∃(j':Nat) (sv:Value),k'=l.length-j'∧j'≤l.length∧BI 0=.slice (some p) l.length c∧BI 4=.int .i64 j'∧BI 3=sv∧
       dk A.next A3 .i64 sv (ig (l.take j'))∧A.le A3∧A3.Wf:=by
      intro BI A3 SB e0 e4 e3 ho XX qr
      exact⟨l.length-(j+1),by omega,j+1,SB,rfl,by omega,e0,e4,e3,by rw [uR];exact ho,XX,qr⟩
     obtain⟨v2,A2,e1,e2,e3,e4,e5⟩:=qQ (P:=Tryz.prog) (t:=72) 0 Tryz.underlying72 Tryz.info3 Tryz.zero3 rfl rfl kD (by omega) (by simp) eG.next gY
     have JK:=e3 A (Nat.le_refl _) eG
     obtain⟨SD,Qo,rfl,T2⟩:=e2.is.cL
     simp only [List.length_append,List.length_cons,List.length_nil,Nat.zero_add] at e1 e2 T2
     have Nb:IntKind.i64.wrap (fy.length:Int)=fy.length:=ak (by omega) (by omega)
     by_cases IQ:∃h:k<fy.length,fy[k]<x
     · obtain⟨Mx,RN⟩:=IQ
       obtain⟨p2,Tq,rfl,IK,DM⟩:=kD.is.at Mx
       revert hw;(repeat first|clear hw|revert hc|revert zn|revert zA|revert R|revert K);refine W (J1 (od kz)) (Ml f0 f4 f3 f5 Mx eH dg IK DM RN RP dQ) (J1 ?_)<;>unhygienic intros
       all_goals refine⟨fy.length-(k+1),by omega,k+1,rfl,rfl,by omega,?_,?_,?_,?_,?_⟩
       · simp [f0]
       · simp [f4]
       · simp [f3]
       · simp
       · intro q hq Qz
         by_cases e:q=k
         · subst e;exact RN
         · exact OG q hq (by omega)
     · have r5:∀h:k<fy.length,¬fy[k]<x:=fun h e=>IQ ⟨h,e⟩
       have PK:=IF fy x k hk OG r5
       by_cases Mx:k<fy.length
       · obtain⟨p2,Tq,rfl,IK,DM⟩:=kD.is.at Mx
         have RN:=r5 Mx
         by_cases QG:fy[k]=x
         · have Rw:mG fy x=fy:=by rw [PK,List.getElem?_eq_getElem Mx,QG,if_pos rfl]
           rw [Rw] at IN
           revert hw;(repeat first|clear hw|revert hc|revert zn|revert zA|revert R|revert K);refine W (J1 (od kz)) (Mk f0 f4 f3 f5 Mx eH dg IK DM RN QG vT dQ) (J1 ?_)<;>unhygienic intros
           all_goals refine IN _ _ _ ?_ ?_ ?_ kD eG gY
           all_goals simp [f0,f4,f3]
         · have LF:mG fy x=fy.take k++x::fy.drop k:=by rw [PK,List.getElem?_eq_getElem Mx,if_neg (by simpa using QG)]
           revert hw;(repeat first|clear hw|revert hc|revert zn|revert zA|revert R|revert K);refine W (J1 (od kz)) (pw f0 f4 f3 f5 Mx eH dg IK DM RN QG vT dQ (J2 e1 Nb)) (J1 ?_)<;>unhygienic intros
           refine ed (fun k' BI A3=>∃(t:Nat) (y:Int),k'=t-k∧k≤t∧t≤fy.length∧BI 0=.slice (some p) l.length c∧BI 4=.int .i64 j∧BI 3=.slice SD (fy.length+1) Qo∧BI 5=.int .i64 k∧BI 6=.int .i64 t∧
            dk A.next A3 .i64 (.slice SD (fy.length+1) Qo) (fy.take t++y::fy.drop t)∧A.le A3∧A3.Wf) (fy.length-k) ?_ ?_
           · refine⟨fy.length,0,rfl,hk,Nat.le_refl _,?_,?_,?_,?_,?_,?_,JK,e4⟩
             · simp [f0]
             · simp [f4]
             · simp
             · simp [f5]
             · simp
             · simpa using e2
           · rintro k' BI A3 ⟨t,y,rfl,Uq,Rr,i0,i4,i3,i5,i6,BF,HR,qr⟩
             by_cases hkt2:k<t
             case neg=>
              have zz:t=k:=by omega
              subst zz
              obtain⟨p4,Tp,Kn,Ls,zL⟩:=(h.le HR hw).at dQ
              injection Kn with Kn
              subst Kn
              rw [hx] at zL
              obtain⟨p3,c3,hv,dn⟩:=BF.store (P:=Tryz.prog) (t:=3) Tryz.info3 rfl (j:=t) (by simp;omega)
              injection hv with vN Kl EJ
              subst vN
              obtain⟨A4,s1,s2,s3,s4,s5⟩:=dn x
              have Rt:(t:Int)<fy.length+1:=by omega
              revert hw;(repeat first|clear hw|revert hc|revert zn|revert zA|revert R|revert K);refine W (J1 (od kz)) (pw i0 i4 i3 i5 i6 hkt2 dQ Ls zL s1 vT Rt Uq Rr) (J1 ?_)<;>unhygienic intros
              all_goals refine IN _ A4 (.slice (some p3) (fy.length+1) Qo) ?_ ?_ ?_ ?_ (s3 A (Nat.le_refl _) HR) (s4 qr)
              · simp [i0]
              · simp
              · simp [i3]
              · rw [LF]
                have e9:(fy.take t++y::fy.drop t).set t x=fy.take t++x::fy.drop t:=by
                 rw [List.set_append_right _ _ (by simp;omega)]
                 simp [Nat.min_eq_left Rr]
                rw [e9] at s2
                exact s2
             obtain⟨u,rfl⟩:∃u,t=u+1:=⟨t-1,by omega⟩
             have GO:IntKind.i64.wrap (u:Int)=u:=ak (by omega) (by omega)
             have iz:(fy.take (u+1)++y::fy.drop (u+1)).length=fy.length+1:=by simp;omega
             have UB:(fy.take (u+1)++y::fy.drop (u+1))[u]'(by omega)=fy[u]:=by
              rw [List.getElem_append_left (by simp;omega),List.getElem_take]
             obtain⟨p3,c3,hv,dn⟩:=BF.store (P:=Tryz.prog) (t:=3) Tryz.info3 rfl (j:=u+1) (by omega)
             injection hv with vN Kl EJ
             subst vN
             obtain⟨p5,To,No,Lr,zK⟩:=BF.is.at (i:=u) (by omega)
             injection No with No
             subst No
             rw [UB] at zK
             obtain⟨A4,s1,s2,s3,s4,s5⟩:=dn fy[u]
             have TY:(u:Int)+1<fy.length+1:=by omega
             have Pp:(u:Int)<fy.length+1:=by omega
             have TZ:(0:Int)≤(u:Int)+1:=by omega
             revert hw;(repeat first|clear hw|revert hc|revert zn|revert zA|revert R|revert K);refine W (J1 (od kz)) (pw i0 i4 i3 i5 i6 hkt2 dQ Lr zK s1 GO TY Pp TZ) (J1 ?_)<;>unhygienic intros
             all_goals refine⟨u-k,by omega,u,fy[u],rfl,by omega,by omega,?_,?_,?_,?_,?_,?_,s3 A (Nat.le_refl _) HR,s4 qr⟩
             all_goals try(simp [i0,i4,i3,i5];done)
             all_goals(rw [B6 fy u y (by omega)] at s2;exact s2)
       · have Zo:k=fy.length:=by omega
         have LF:mG fy x=fy.take k++x::fy.drop k:=by rw [PK,List.getElem?_eq_none (by omega),if_neg (by simp)]
         revert hw;(repeat first|clear hw|revert hc|revert zn|revert zA|revert R|revert K);refine W (J1 (od kz)) (MK f0 f4 f3 f5 Mx eH dg vT dQ e1 Nb) (J1 ?_)<;>unhygienic intros
         refine ed (fun k' BI A3=>∃(t:Nat) (y:Int),k'=t-k∧k≤t∧t≤fy.length∧BI 0=.slice (some p) l.length c∧BI 4=.int .i64 j∧BI 3=.slice SD (fy.length+1) Qo∧BI 5=.int .i64 k∧BI 6=.int .i64 t∧
          dk A.next A3 .i64 (.slice SD (fy.length+1) Qo) (fy.take t++y::fy.drop t)∧A.le A3∧A3.Wf) (fy.length-k) ?_ ?_
         · refine⟨fy.length,0,rfl,hk,Nat.le_refl _,?_,?_,?_,?_,?_,?_,JK,e4⟩
           · simp [f0]
           · simp [f4]
           · simp
           · simp [f5]
           · simp
           · simpa using e2
         · rintro k' BI A3 ⟨t,y,rfl,Uq,Rr,i0,i4,i3,i5,i6,BF,HR,qr⟩
           by_cases hkt2:k<t
           case neg=>
            have zz:t=k:=by omega
            subst zz
            obtain⟨p4,Tp,Kn,Ls,zL⟩:=(h.le HR hw).at dQ
            injection Kn with Kn
            subst Kn
            rw [hx] at zL
            obtain⟨p3,c3,hv,dn⟩:=BF.store (P:=Tryz.prog) (t:=3) Tryz.info3 rfl (j:=t) (by simp;omega)
            injection hv with vN Kl EJ
            subst vN
            obtain⟨A4,s1,s2,s3,s4,s5⟩:=dn x
            have Rt:(t:Int)<fy.length+1:=by omega
            revert hw;(repeat first|clear hw|revert hc|revert zn|revert zA|revert R|revert K);refine W (J1 (od kz)) (pw i0 i4 i3 i5 i6 hkt2 dQ Ls zL s1 vT Rt Uq Rr) (J1 ?_)<;>unhygienic intros
            all_goals refine IN _ A4 (.slice (some p3) (fy.length+1) Qo) ?_ ?_ ?_ ?_ (s3 A (Nat.le_refl _) HR) (s4 qr)
            · simp [i0]
            · simp
            · simp [i3]
            · rw [LF]
              have e9:(fy.take t++y::fy.drop t).set t x=fy.take t++x::fy.drop t:=by
               rw [List.set_append_right _ _ (by simp;omega)]
               simp [Nat.min_eq_left Rr]
              rw [e9] at s2
              exact s2
           obtain⟨u,rfl⟩:∃u,t=u+1:=⟨t-1,by omega⟩
           have GO:IntKind.i64.wrap (u:Int)=u:=ak (by omega) (by omega)
           have iz:(fy.take (u+1)++y::fy.drop (u+1)).length=fy.length+1:=by simp;omega
           have UB:(fy.take (u+1)++y::fy.drop (u+1))[u]'(by omega)=fy[u]:=by
            rw [List.getElem_append_left (by simp;omega),List.getElem_take]
           obtain⟨p3,c3,hv,dn⟩:=BF.store (P:=Tryz.prog) (t:=3) Tryz.info3 rfl (j:=u+1) (by omega)
           injection hv with vN Kl EJ
           subst vN
           obtain⟨p5,To,No,Lr,zK⟩:=BF.is.at (i:=u) (by omega)
           injection No with No
           subst No
           rw [UB] at zK
           obtain⟨A4,s1,s2,s3,s4,s5⟩:=dn fy[u]
           have TY:(u:Int)+1<fy.length+1:=by omega
           have Pp:(u:Int)<fy.length+1:=by omega
           have TZ:(0:Int)≤(u:Int)+1:=by omega
           revert hw;(repeat first|clear hw|revert hc|revert zn|revert zA|revert R|revert K);exact W (J1 (od kz)) (pw i0 i4 i3 i5 i6 hkt2 dQ Lr zK s1 GO TY Pp TZ) trivial
           all_goals refine⟨u-k,by omega,u,fy[u],rfl,by omega,by omega,?_,?_,?_,?_,?_,?_,s3 A (Nat.le_refl _) HR,s4 qr⟩
           all_goals try(simp [i0,i4,i3,i5];done)
           all_goals(rw [B6 fy u y (by omega)] at s2;exact s2)
end Go.Stx
