/-
 The program's cells, made anew.
-/
import Derived.Test.YtncmjklabcoeaaaGreatD33
import Derived.Test.YtncmjklabcoeaaaGreatD30
import Derived.Test.YtncmjklabcoeaaaGreatD38
set_option linter.unusedVariables false
set_option linter.unusedSimpArgs false
set_option maxRecDepth 20000
set_option maxHeartbeats 4000000
namespace Go.Stx
open Go Go.Proofs
attribute [local irreducible] fj cm aH bB dK ei
namespace aL
def Ax:Value→Nat
 | .map (some r)=>r
 | _=>0
def U3:Value→Nat
 | .pointer (some p)=>p.block
 | _=>0
def Tr:Value→Nat
 | .agg cs=>Ax (cs.getD 0 undef)
 | _=>0
def pc (b:Bool) (P:HP):HP:=if b=true then P else fa
def fS (S:Nat→Bool) (val:Nat→Value) (vh vn:Value) (key:Int):Option Value:=
 if key=1 then (if S 6=true∧S 5=true then some (val 5) else none)
 else if key=2 then (if S 10=true∧S 9=true then some (val 9) else none)
 else if key=3 then (if S 12=true∧S 11=true then some (val 11) else none)
 else if key=4 then (if S 14=true∧S 13=true then some (val 13) else none)
 else if key=5 then (if S 16=true∧S 15=true then some (val 15) else none)
 else if key=6 then (if S 19=true∧S 18=true then some (val 18) else none)
 else if key=7 then (if S 21=true then some vh else none)
 else if key=8 then (if S 23=true then some vn else none) else none
def iJ (S:Nat→Bool) (val:Nat→Value) (vh vn:Value):HP:=
 if S 26=true then rt fun r=>pt (U3 (val 26)) (.cells [.map (some r)] true 1)*fX .i64 r (fS S val vh vn)
 else if S 25=true then fX .i64 (Tr (val 25)) (fS S val vh vn)
 else if S 24=true then fX .i64 (Ax (val 24)) (fS S val vh vn)
 else if S 0=true then fX .i64 (Ax (val 0)) (fS S val vh vn) else fa
def fK (S:Nat→Bool) (val:Nat→Value) (dm:List Int) (nn:Nat):HP:=
 if S 5=true then ar .u64 (val 5) (dm++List.replicate nn 0) else if S 2=true then ar .u64 (val 2) dm else fa
def G (dm:List Int) (nn no nt:Nat) (vh vn:Value) (B:HP) (S:Nat→Bool) (val:Nat→Value):HP:=
 iJ S val vh vn*(fK S val dm nn*(pc (S 9) (ar .u64 (val 9) (List.replicate no 0))*(pc (S 11) (ar .u64 (val 11) (List.replicate 1 0))*(pc (S 13) (ar .u64 (val 13) (List.replicate 1 0)) *
  (pc (S 15) (ar .u64 (val 15) (List.replicate 1 0))*(pc (S 18) (ar .u64 (val 18) (List.replicate nt 0))*B))))))
def Bs (vi vh vn:Value) (cb nn no nt:Nat) (j:Nat) (val:Nat→Value):Prop:=
 match j with
 | 0=>∃r,val 0=.map (some r)
 | 1=>val 1=vi
 | 3=>val 3=vn
 | 4=>val 4=.int .i64 (nn:Int)
 | 7=>val 7=.pointer (some ⟨cb,1,none⟩)
 | 8=>val 8=.int .i64 (no:Int)
 | 17=>val 17=.int .i64 (nt:Int)
 | 20=>val 20=vh
 | 22=>val 22=vn
 | 24=>∃r,val 24=.map (some r)
 | 25=>∃r,val 25=.agg #[.map (some r)]
 | 26=>∃b,val 26=.pointer (some ⟨b,0,none⟩)
 | 27=>val 27=val 26
 | 28=>val 28=.int .i64 0
 | _=>True
theorem Oc {dm:List Int} {nn no nt:Nat} {vh vn:Value} {B:HP} {S S':Nat→Bool} {val KA:Nat→Value} (hm:iJ S' KA vh vn=iJ S val vh vn) (hd:fK S' KA dm nn=fK S val dm nn)
 (h:∀k,k=9∨k=11∨k=13∨k=15∨k=18→S' k=S k∧(S k=true→KA k=val k)):G dm nn no nt vh vn B S' KA=G dm nn no nt vh vn B S val:=by
 have key:∀k n,k=9∨k=11∨k=13∨k=15∨k=18→pc (S' k) (ar .u64 (KA k) (List.replicate n 0))=pc (S k) (ar .u64 (val k) (List.replicate n 0)):=fun k n hk=>by
  obtain⟨h1,h2⟩:=h k hk
  unfold pc
  rw [h1]
  split
  · rename_i e;rw [h2 e]
  · rfl
 unfold G
 rw [hm,hd,key 9 no (by simp),key 11 1 (by simp),key 13 1 (by simp),key 15 1 (by simp),key 18 nt (by simp)]
end aL
set_option maxRecDepth 100000 in
theorem BK (nt nn no:Nat) (vi:Value) (dm:List Int) (aF aj base n0 n1 n2 n3 ah bX ac ap ao:Int) (cT:Bool) (hc:rj ⟨aF,aj,base,n0,n1,n2,n3,ah,bX,ac,ap,ao,cT⟩) (A:AW) (F R:HP) (hR:∀(A:AW) (F:HP),bK A (R*F)→cF A .u64 vi dm) (hw:A.Wf) (hS:bK A (R*F)) (h1:1≤nt) (NM:nt≤16) (hi:(dm.length:Int)=aF) (xJ:aj=(no:Int)) (VP:(fD n0 n1).length=nn) :
 aH Tryz.prog 39 [(bG.mk aF aj base n0 n1 n2 n3 ah bX ac ap ao cT).v,.int .i64 (nt:Int),vi] A (fun v A'=>∃pb,v=.tuple #[.pointer (some ⟨pb,0,none⟩),.int .i64 0]∧
  bK A' (eI pb (fun k=>if k=0 then dm++List.replicate nn 0 else if k=1 then List.replicate no 0 else if k=5 then List.replicate nt 0 else if k=6 then fp n0 n1 else if k=7 then fD n0 n1 else [0])*(R*F))):=by
 have zJ:=qN _ hc.ok
 have OF:=HE _ hc
 have XO:1≤no∧no≤64:=by
  have:=hc.ok.aj
  dsimp only at this
  omega
 have X5:dm.length≤64:=by
  have:=hc.ok.aF
  dsimp only at this
  omega
 have XP:nn≤4:=by
  have h0:=hc.c0
  have h1:=hc.c1
  dsimp only at h0 h1
  rw [←VP]
  rcases h0 with rfl|rfl|rfl<;>rcases h1 with rfl|rfl|rfl<;>decide
 refine ab Tryz.func39 rfl (by kernel_rfl) fun _=>?_
 obtain⟨oi,ci,rfl,_⟩:=(hR A F hS).cL
 have XM:¬(nt:Int)<1:=by omega
 have Ue:¬(16:Int)<nt:=by omega
 dsimp only [bG.v] at zJ OF ⊢
 repeat' (first
 | (refine il fun R hR=>?_;simp [ak,au,AW.aa,af,XM,Ue,hi];try simp (disch:=omega) only [if_pos,if_neg,ak,au])
 | (refine hR _ _ ?_;clear hR R)|(refine hK _ _ ?_;clear hK K)|refine nx ?_
 | refine wn fun K hK=>?_
 | simp only [wS]
 | (refine bD (zJ _) ?_;rintro _ _ ⟨rfl,rfl⟩ _ _)
 | refine wb ?_|refine wr ?_|refine wk ?_|refine we ?_|refine ws ?_|refine wq ?_
 | (refine wc rfl (fun hc=>?_) (fun hc=>?_)<;>(try simp at hc)<;>(try omega))
 | (refine ib (fun hc=>?_) (fun hc=>?_)<;>(try omega)<;>(try simp (disch:=omega) only [if_pos,if_neg])))
 obtain⟨CV,UR⟩:∃CV:List Value,CV=[.int .i64 aF,.int .i64 aj,.int .i64 base,.int .i64 n0,.int .i64 n1,.int .i64 n2,.int .i64 n3,.int .i64 ah,.int .i64 bX,.int .i64 ac,.int .i64 ap,.int .i64 ao,.bool cT]:=⟨_,rfl⟩
 have gJ:=hw.alloc (.cells CV true 1)
 have mg:=hS.alloc hw (.cells CV true 1)
 rw [UR] at gJ mg
 refine bD (OF _ _ gJ (an.mk mg)) ?_
 rintro v A2 ⟨vh,vn,rfl,UO⟩ it _
 repeat (first|(refine hR _ _ ?_;clear hR R)|(refine il (fun R hR=>?_);simp)|refine Vt ?_|(refine hK _ _ ?_;clear hK K))
 have lp:bK A2 (ar .u64 vh (fp n0 n1)*(ar .u64 vn (fD n0 n1)*(pt A.next (.cells CV true 1)*(R*F)))):=by
  subst UR
  have:=UO
  simp only [an,bn,It.hp,dx] at this
  exact this
 have TV:∃o c,vn=.slice o nn c:=by
  obtain⟨o,c,h,_⟩:=(ar.is lp.right).cL
  rw [VP] at h
  exact⟨o,c,h⟩
 obtain⟨B,hB⟩:∃B,B=ar .u64 vh (fp n0 n1)*(ar .u64 vn (fD n0 n1)*(pt A.next (.cells CV true 1)*(R*F))):=⟨_,rfl⟩
 refine eW (L2 (by kernel_rfl) (by decide +kernel) (aL.G dm nn no nt vh vn B) (aL.Bs (.slice oi dm.length ci) vh vn A.next nn no nt) ?_ ?_ ?_ ?_ ?_)
 · intro S i val v hc hi
   have c6:=hc 6 5 (by decide +kernel)
   have YU:=hc 10 9 (by decide +kernel)
   have YT:=hc 12 11 (by decide +kernel)
   have YS:=hc 14 13 (by decide +kernel)
   have YR:=hc 16 15 (by decide +kernel)
   have YQ:=hc 19 18 (by decide +kernel)
   have hv:∀k,S k=true→cQ val i v k=val k:=fun k hk=>by
    have:k≠i:=fun e=>by rw [e,hi] at hk;cases hk
    simp [cQ,this]
   have JM:aL.fS S (cQ val i v) vh vn=aL.fS S val vh vn:=by
    funext key
    unfold aL.fS
    have e:∀p k,(S p=true→S k=true)→(if S p=true∧S k=true then some (cQ val i v k) else none)=if S p=true∧S k=true then some (val k) else none:=fun p k _=>by
     split
     · rename_i h;rw [hv k h.2]
     · rfl
    rw [e 6 5 c6,e 10 9 YU,e 12 11 YT,e 14 13 YS,e 16 15 YR,e 19 18 YQ]
   refine aL.Oc ?_ ?_ (fun k _=>⟨rfl,hv k⟩)
   · unfold aL.iJ
     rw [JM]
     split
     · rename_i h;rw [hv 26 h]
     · split
       · rename_i h;rw [hv 25 h]
       · split
         · rename_i h;rw [hv 24 h]
         · split
           · rename_i h;rw [hv 0 h]
           · rfl
   · unfold aL.fK
     split
     · rename_i h;rw [hv 5 h]
     · split
       · rename_i h;rw [hv 2 h]
       · rfl
 · intro S i j val v hc hi hj
   have YP:=hc 27 26 (by decide +kernel)
   have hv:∀k,S k=true→cQ val i v k=val k:=fun k hk=>by
    have:k≠i:=fun e=>by rw [e,hi] at hk;cases hk
    simp [cQ,this]
   have VC:=hv j hj
   unfold aL.Bs
   split<;>intro h<;>first|(rw [VC,hv 26 (YP hj)];exact h)|(simp only [VC];exact h)|trivial
 · intro val
   have e:aL.G dm nn no nt vh vn B (fun _=>false) val=B:=by
    simp [aL.G,aL.iJ,aL.fK,aL.pc,iS]
   rw [e,hB]
   exact lp
 · intro i dQ S val a A3 po iY dn qr hs
   have o1:a 1=.int .i64 (nt:Int):=by rw [dn.dH 1 (by decide +kernel)];simp
   have o2:a 2=.slice oi dm.length ci:=by rw [dn.dH 2 (by decide +kernel)];simp
   have o3:a 3=.pointer (some ⟨A.next,0,none⟩):=by rw [dn.dH 3 (by decide +kernel)];simp
   have o9:a 9=vh:=by rw [dn.dH 9 (by decide +kernel)];simp
   have Vr:a 10=vn:=by rw [dn.dH 10 (by decide +kernel)];simp
   have eK:∀k j,tu _ k j=true→S j=false→S k=false:=fun k j h hj=>by
    cases hk:S k
    · rfl
    · have:=dn.Qd k j h hk
      rw [hj] at this
      cases this
   have Wh:bK A3 (B*(aL.iJ S val vh vn*(aL.fK S val dm nn*(aL.pc (S 9) (ar .u64 (val 9) (List.replicate no 0))*(aL.pc (S 11) (ar .u64 (val 11) (List.replicate 1 0))*(aL.pc (S 13) (ar .u64 (val 13) (List.replicate 1 0)) *
    (aL.pc (S 15) (ar .u64 (val 15) (List.replicate 1 0))*aL.pc (S 18) (ar .u64 (val 18) (List.replicate nt 0))))))))):=hs.dp (by unfold aL.G;ac_rfl)
   obtain h|h|h|h|h|h|h|h|h|h|h|h|h|h|h|h|h|h|h|h|h|h|h|h|h|h|h|h|h:i=0∨i=1∨i=2∨i=3∨i=4∨i=5∨i=6∨i=7∨i=8∨i=9∨i=10∨i=11∨i=12∨i=13∨i=14∨i=15∨i=16∨i=17∨i=18∨i=19∨i=20∨i=21∨i=22∨i=23∨i=24∨i=25∨i=26∨i=27∨i=28:=by
    have:i<29:=dQ
    omega
   all_goals subst h
   · -- 0
     have q9:=eK 24 0 (by decide +kernel) po
     have pV:=eK 25 24 (by decide +kernel) q9
     have uh:=eK 26 25 (by decide +kernel) pV
     have s6:=eK 6 0 (by decide +kernel) po
     have WY:=eK 10 0 (by decide +kernel) po
     have WX:=eK 12 0 (by decide +kernel) po
     have WW:=eK 14 0 (by decide +kernel) po
     have WV:=eK 16 0 (by decide +kernel) po
     have WU:=eK 19 0 (by decide +kernel) po
     have WT:=eK 21 0 (by decide +kernel) po
     have WS:=eK 23 0 (by decide +kernel) po
     have hk:aL.G dm nn no nt vh vn B (c8 S 0) (cQ val 0 (.map (some A3.next)))=fX .i64 A3.next (fun _=>none)*aL.G dm nn no nt vh vn B S val:=by
      have hf:aL.fS (c8 S 0) (cQ val 0 (.map (some A3.next))) vh vn=fun _=>none:=by funext key;simp [aL.fS,c8,s6,WY,WX,WW,WV,WU,WT,WS]
      simp [aL.G,aL.iJ,aL.fK,aL.pc,hf]
      simp [c8,cQ,q9,pV,uh,po,aL.Ax,iS]
     simp [kS,hk]
     exact⟨⟨A3.next,by simp [cQ]⟩,fX.EH hs qr⟩
   · -- 1
     have hk:∀v,aL.G dm nn no nt vh vn B (c8 S 1) (cQ val 1 v)=aL.G dm nn no nt vh vn B S val:=fun v=>by
      have hf:aL.fS (c8 S 1) (cQ val 1 v) vh vn=aL.fS S val vh vn:=by funext key;simp [aL.fS,c8,cQ]
      simp [aL.G,aL.iJ,aL.fK,aL.pc,hf]
      simp [c8,cQ]
     simp [kS,o2,hk]
     first|exact⟨by simp [aL.Bs,cQ],hs⟩|(simp [aL.Bs,cQ];exact hs)
   · -- 2
     have s5:=eK 5 2 (by decide +kernel) po
     have v1:a 33=.slice oi dm.length ci:=by rw [dn.lx 1 33 (by decide +kernel) (iY 1 (by decide +kernel))];exact dn.oU 1 (iY 1 (by decide +kernel))
     have tm:cF A3 .u64 (.slice oi dm.length ci) dm:=by
      have h':=Wh.left
      rw [hB] at h'
      have:=hR A3 _ h'.right.right.right
      exact this
     have hk:∀v,aL.G dm nn no nt vh vn B (c8 S 2) (cQ val 2 v)=ar .u64 v dm*aL.G dm nn no nt vh vn B S val:=fun v=>by
      have hf:aL.fS (c8 S 2) (cQ val 2 v) vh vn=aL.fS S val vh vn:=by funext key;simp [aL.fS,c8,cQ]
      simp [aL.G,aL.iJ,aL.fK,aL.pc,hf]
      simp [c8,cQ,s5,po,iS]
      ac_rfl
     simp [kS,v1]
     refine bD (ir _ dm A3 tm (by omega)) ?_
     rintro v A4 ⟨h1,h2⟩ _ _
     refine⟨trivial,?_⟩
     rw [hk]
     exact ar.kZ hs qr h2 h1
   · -- 3
     have hk:∀v,aL.G dm nn no nt vh vn B (c8 S 3) (cQ val 3 v)=aL.G dm nn no nt vh vn B S val:=fun v=>by
      have hf:aL.fS (c8 S 3) (cQ val 3 v) vh vn=aL.fS S val vh vn:=by funext key;simp [aL.fS,c8,cQ]
      simp [aL.G,aL.iJ,aL.fK,aL.pc,hf]
      simp [c8,cQ]
     simp [kS,Vr,hk]
     first|exact⟨by simp [aL.Bs,cQ],hs⟩|(simp [aL.Bs,cQ];exact hs)
   · -- 4
     have hk:∀v,aL.G dm nn no nt vh vn B (c8 S 4) (cQ val 4 v)=aL.G dm nn no nt vh vn B S val:=fun v=>by
      have hf:aL.fS (c8 S 4) (cQ val 4 v) vh vn=aL.fS S val vh vn:=by funext key;simp [aL.fS,c8,cQ]
      simp [aL.G,aL.iJ,aL.fK,aL.pc,hf]
      simp [c8,cQ]
     have v4:a 35=vn:=by rw [dn.lx 3 35 (by decide +kernel) (iY 3 (by decide +kernel))];exact dn.oU 3 (iY 3 (by decide +kernel))
     obtain⟨on,cn,Xq⟩:=TV
     rw [Xq] at v4
     simp [kS,v4]
     exact⟨by simp [aL.Bs,cQ],by rw [hk];exact hs⟩
   · -- 5
     have s6:=eK 6 5 (by decide +kernel) po
     have s2:=iY 2 (by decide +kernel)
     have v2:a 34=val 2:=dn.lx 2 34 (by decide +kernel) s2
     have v4:a 36=.int .i64 ((nn:Nat):Int):=by rw [dn.lx 4 36 (by decide +kernel) (iY 4 (by decide +kernel))];exact dn.oU 4 (iY 4 (by decide +kernel))
     obtain⟨X,hX⟩:∃X,aL.G dm nn no nt vh vn B S val=ar .u64 (val 2) dm*X∧∀v,aL.G dm nn no nt vh vn B (c8 S 5) (cQ val 5 v)=ar .u64 v (dm++List.replicate nn 0)*X:=by
      refine⟨aL.iJ S val vh vn*(aL.pc (S 9) (ar .u64 (val 9) (List.replicate no 0))*(aL.pc (S 11) (ar .u64 (val 11) (List.replicate 1 0))*(aL.pc (S 13) (ar .u64 (val 13) (List.replicate 1 0)) *
       (aL.pc (S 15) (ar .u64 (val 15) (List.replicate 1 0))*(aL.pc (S 18) (ar .u64 (val 18) (List.replicate nt 0))*B))))),?_,fun v=>?_⟩
      · simp only [aL.G,aL.fK,po,s2,if_true,Bool.false_eq_true,if_false]
        ac_rfl
      · have hf:aL.fS (c8 S 5) (cQ val 5 v) vh vn=aL.fS S val vh vn:=by funext key;simp [aL.fS,c8,cQ,s6]
        simp only [aL.G,aL.iJ,aL.fK,aL.pc,hf]
        simp only [c8,cQ,Nat.reduceEqDiff,if_true,if_false]
        ac_rfl
     rw [hX.1] at hs
     obtain⟨v',A4,e1,e2,e3⟩:=ar.N4 (P:=Tryz.prog) (t:=43) (u:=3) (kq:=.i64) nn Tryz.underlying43 Tryz.underlying3 Tryz.info45 Tryz.zero45 rfl hs (by omega) (by simp) qr
     simp [kS,v2,v4]
     try simp at e1
     simp [e1]
     rw [hX.2]
     exact⟨trivial,e2⟩
   · -- 6
     have q9:=eK 24 6 (by decide +kernel) po
     have pV:=eK 25 24 (by decide +kernel) q9
     have uh:=eK 26 25 (by decide +kernel) pV
     have s0:=iY 0 (by decide +kernel)
     have sp:=iY 5 (by decide +kernel)
     obtain⟨r,hr⟩:=dn.oU 0 s0
     have v0:a 32=.map (some r):=by rw [dn.lx 0 32 (by decide +kernel) s0];exact hr
     have vx:a 37=val 5:=dn.lx 5 37 (by decide +kernel) sp
     obtain⟨X,Gf,Ge⟩:∃X,aL.G dm nn no nt vh vn B S val=fX .i64 r (aL.fS S val vh vn)*X∧∀v,aL.G dm nn no nt vh vn B (c8 S 6) (cQ val 6 v)=fX .i64 r (lw (aL.fS S val vh vn) 1 (val 5))*X:=by
      refine⟨(aL.fK S val dm nn*(aL.pc (S 9) (ar .u64 (val 9) (List.replicate no 0))*(aL.pc (S 11) (ar .u64 (val 11) (List.replicate 1 0))*(aL.pc (S 13) (ar .u64 (val 13) (List.replicate 1 0)) *
       (aL.pc (S 15) (ar .u64 (val 15) (List.replicate 1 0))*(aL.pc (S 18) (ar .u64 (val 18) (List.replicate nt 0))*B)))))),?_,fun v=>?_⟩
      · simp only [aL.G,aL.iJ,uh,pV,q9,s0,hr,aL.Ax,if_true,Bool.false_eq_true,if_false]
      · have hf:aL.fS (c8 S 6) (cQ val 6 v) vh vn=lw (aL.fS S val vh vn) 1 (val 5):=by
         funext key
         simp only [aL.fS,c8,cQ,lw,Nat.reduceEqDiff,if_true,if_false]
         by_cases hkey:key=1
         · subst hkey;simp [sp]
         · simp [hkey]
        simp only [aL.G,aL.iJ,aL.fK,aL.pc,hf]
        simp only [c8,cQ,uh,pV,q9,s0,hr,aL.Ax,Nat.reduceEqDiff,if_true,if_false,Bool.false_eq_true]
     rw [Gf] at hs
     obtain⟨A4,e1,e2,_⟩:=fX.rB (P:=Tryz.prog) (t:=120) hs Tryz.underlying120 Tryz.underlying3 1 (val 5)
     simp [-fU,kS,v0,vx,e1]
     rw [Ge]
     exact⟨trivial,e2⟩
   · -- 7
     have hk:∀v,aL.G dm nn no nt vh vn B (c8 S 7) (cQ val 7 v)=aL.G dm nn no nt vh vn B S val:=fun v=>by
      have hf:aL.fS (c8 S 7) (cQ val 7 v) vh vn=aL.fS S val vh vn:=by funext key;simp [aL.fS,c8,cQ]
      simp [aL.G,aL.iJ,aL.fK,aL.pc,hf]
      simp [c8,cQ]
     simp [kS,o3,hk]
     first|exact⟨by simp [aL.Bs,cQ],hs⟩|(simp [aL.Bs,cQ];exact hs)
   · -- 8
     have hk:∀v,aL.G dm nn no nt vh vn B (c8 S 8) (cQ val 8 v)=aL.G dm nn no nt vh vn B S val:=fun v=>by
      have hf:aL.fS (c8 S 8) (cQ val 8 v) vh vn=aL.fS S val vh vn:=by funext key;simp [aL.fS,c8,cQ]
      simp [aL.G,aL.iJ,aL.fK,aL.pc,hf]
      simp [c8,cQ]
     have v8:a 38=.pointer (some ⟨A.next,1,none⟩):=by rw [dn.lx 7 38 (by decide +kernel) (iY 7 (by decide +kernel))];exact dn.oU 7 (iY 7 (by decide +kernel))
     have X8:A3.cy A.next=some (.cells CV true 1):=by
      have h':=Wh.left
      rw [hB] at h'
      exact h'.right.right.cy
     simp [kS,v8,X8,UR,AW.aa,hk,xJ]
     first|exact⟨by simp [aL.Bs,cQ],hs⟩|(simp [aL.Bs,cQ];exact hs)
   · -- 9
     have sI:=eK 10 9 (by decide +kernel) po
     have vd:a 39=.int .i64 ((no:Nat):Int):=by rw [dn.lx 8 39 (by decide +kernel) (iY 8 (by decide +kernel))];exact dn.oU 8 (iY 8 (by decide +kernel))
     have hk:∀v,aL.G dm nn no nt vh vn B (c8 S 9) (cQ val 9 v)=ar .u64 v (List.replicate no 0)*aL.G dm nn no nt vh vn B S val:=fun v=>by
      have hf:aL.fS (c8 S 9) (cQ val 9 v) vh vn=aL.fS S val vh vn:=by funext key;simp [aL.fS,c8,cQ,sI]
      simp only [aL.G,aL.iJ,aL.fK,aL.pc,hf]
      simp only [c8,cQ,po,Nat.reduceEqDiff,if_true,if_false,Bool.false_eq_true,iS]
      ac_rfl
     obtain⟨v',A4,e1,e2,e3,_⟩:=ar.K9 (P:=Tryz.prog) (t:=43) (k1:=.i64) (k2:=.i64) no Tryz.underlying43 Tryz.info45 Tryz.zero45 rfl (by simp) (by omega) hs qr
     have NU:ny Tryz.prog A3 43 (.int .i64 (no:Int)) (.int .i64 (no:Int))=some (v',A4):=e1
     simp [-ny,kS,vd,NU]
     rw [hk]
     exact⟨trivial,e2⟩
   · -- 10
     have q9:=eK 24 10 (by decide +kernel) po
     have pV:=eK 25 24 (by decide +kernel) q9
     have uh:=eK 26 25 (by decide +kernel) pV
     have s0:=iY 0 (by decide +kernel)
     have sp:=iY 9 (by decide +kernel)
     obtain⟨r,hr⟩:=dn.oU 0 s0
     have v0:a 32=.map (some r):=by rw [dn.lx 0 32 (by decide +kernel) s0];exact hr
     have vx:a 40=val 9:=dn.lx 9 40 (by decide +kernel) sp
     obtain⟨X,Gf,Ge⟩:∃X,aL.G dm nn no nt vh vn B S val=fX .i64 r (aL.fS S val vh vn)*X∧∀v,aL.G dm nn no nt vh vn B (c8 S 10) (cQ val 10 v)=fX .i64 r (lw (aL.fS S val vh vn) 2 (val 9))*X:=by
      refine⟨(aL.fK S val dm nn*(aL.pc (S 9) (ar .u64 (val 9) (List.replicate no 0))*(aL.pc (S 11) (ar .u64 (val 11) (List.replicate 1 0))*(aL.pc (S 13) (ar .u64 (val 13) (List.replicate 1 0)) *
       (aL.pc (S 15) (ar .u64 (val 15) (List.replicate 1 0))*(aL.pc (S 18) (ar .u64 (val 18) (List.replicate nt 0))*B)))))),?_,fun v=>?_⟩
      · simp only [aL.G,aL.iJ,uh,pV,q9,s0,hr,aL.Ax,if_true,Bool.false_eq_true,if_false]
      · have hf:aL.fS (c8 S 10) (cQ val 10 v) vh vn=lw (aL.fS S val vh vn) 2 (val 9):=by
         funext key
         simp only [aL.fS,c8,cQ,lw,Nat.reduceEqDiff,if_true,if_false]
         by_cases hkey:key=2
         · subst hkey;simp [sp]
         · simp [hkey]
        simp only [aL.G,aL.iJ,aL.fK,aL.pc,hf]
        simp only [c8,cQ,uh,pV,q9,s0,hr,aL.Ax,Nat.reduceEqDiff,if_true,if_false,Bool.false_eq_true]
     rw [Gf] at hs
     obtain⟨A4,e1,e2,_⟩:=fX.rB (P:=Tryz.prog) (t:=120) hs Tryz.underlying120 Tryz.underlying3 2 (val 9)
     simp [-fU,kS,v0,vx,e1]
     rw [Ge]
     exact⟨trivial,e2⟩
   · -- 11
     have sI:=eK 12 11 (by decide +kernel) po
     have hk:∀v,aL.G dm nn no nt vh vn B (c8 S 11) (cQ val 11 v)=ar .u64 v (List.replicate 1 0)*aL.G dm nn no nt vh vn B S val:=fun v=>by
      have hf:aL.fS (c8 S 11) (cQ val 11 v) vh vn=aL.fS S val vh vn:=by funext key;simp [aL.fS,c8,cQ,sI]
      simp only [aL.G,aL.iJ,aL.fK,aL.pc,hf]
      simp only [c8,cQ,po,Nat.reduceEqDiff,if_true,if_false,Bool.false_eq_true,iS]
      ac_rfl
     obtain⟨v',A4,e1,e2,e3,_⟩:=ar.K9 (P:=Tryz.prog) (t:=43) (k1:=.i64) (k2:=.i64) 1 Tryz.underlying43 Tryz.info45 Tryz.zero45 rfl (by simp) (by omega) hs qr
     have NU:ny Tryz.prog A3 43 (.int .i64 1) (.int .i64 1)=some (v',A4):=e1
     simp [-ny,kS,NU]
     rw [hk]
     exact⟨trivial,e2⟩
   · -- 12
     have q9:=eK 24 12 (by decide +kernel) po
     have pV:=eK 25 24 (by decide +kernel) q9
     have uh:=eK 26 25 (by decide +kernel) pV
     have s0:=iY 0 (by decide +kernel)
     have sp:=iY 11 (by decide +kernel)
     obtain⟨r,hr⟩:=dn.oU 0 s0
     have v0:a 32=.map (some r):=by rw [dn.lx 0 32 (by decide +kernel) s0];exact hr
     have vx:a 41=val 11:=dn.lx 11 41 (by decide +kernel) sp
     obtain⟨X,Gf,Ge⟩:∃X,aL.G dm nn no nt vh vn B S val=fX .i64 r (aL.fS S val vh vn)*X∧∀v,aL.G dm nn no nt vh vn B (c8 S 12) (cQ val 12 v)=fX .i64 r (lw (aL.fS S val vh vn) 3 (val 11))*X:=by
      refine⟨(aL.fK S val dm nn*(aL.pc (S 9) (ar .u64 (val 9) (List.replicate no 0))*(aL.pc (S 11) (ar .u64 (val 11) (List.replicate 1 0))*(aL.pc (S 13) (ar .u64 (val 13) (List.replicate 1 0)) *
       (aL.pc (S 15) (ar .u64 (val 15) (List.replicate 1 0))*(aL.pc (S 18) (ar .u64 (val 18) (List.replicate nt 0))*B)))))),?_,fun v=>?_⟩
      · simp only [aL.G,aL.iJ,uh,pV,q9,s0,hr,aL.Ax,if_true,Bool.false_eq_true,if_false]
      · have hf:aL.fS (c8 S 12) (cQ val 12 v) vh vn=lw (aL.fS S val vh vn) 3 (val 11):=by
         funext key
         simp only [aL.fS,c8,cQ,lw,Nat.reduceEqDiff,if_true,if_false]
         by_cases hkey:key=3
         · subst hkey;simp [sp]
         · simp [hkey]
        simp only [aL.G,aL.iJ,aL.fK,aL.pc,hf]
        simp only [c8,cQ,uh,pV,q9,s0,hr,aL.Ax,Nat.reduceEqDiff,if_true,if_false,Bool.false_eq_true]
     rw [Gf] at hs
     obtain⟨A4,e1,e2,_⟩:=fX.rB (P:=Tryz.prog) (t:=120) hs Tryz.underlying120 Tryz.underlying3 3 (val 11)
     simp [-fU,kS,v0,vx,e1]
     rw [Ge]
     exact⟨trivial,e2⟩
   · -- 13
     have sI:=eK 14 13 (by decide +kernel) po
     have hk:∀v,aL.G dm nn no nt vh vn B (c8 S 13) (cQ val 13 v)=ar .u64 v (List.replicate 1 0)*aL.G dm nn no nt vh vn B S val:=fun v=>by
      have hf:aL.fS (c8 S 13) (cQ val 13 v) vh vn=aL.fS S val vh vn:=by funext key;simp [aL.fS,c8,cQ,sI]
      simp only [aL.G,aL.iJ,aL.fK,aL.pc,hf]
      simp only [c8,cQ,po,Nat.reduceEqDiff,if_true,if_false,Bool.false_eq_true,iS]
      ac_rfl
     obtain⟨v',A4,e1,e2,e3,_⟩:=ar.K9 (P:=Tryz.prog) (t:=43) (k1:=.i64) (k2:=.i64) 1 Tryz.underlying43 Tryz.info45 Tryz.zero45 rfl (by simp) (by omega) hs qr
     have NU:ny Tryz.prog A3 43 (.int .i64 1) (.int .i64 1)=some (v',A4):=e1
     simp [-ny,kS,NU]
     rw [hk]
     exact⟨trivial,e2⟩
   · -- 14
     have q9:=eK 24 14 (by decide +kernel) po
     have pV:=eK 25 24 (by decide +kernel) q9
     have uh:=eK 26 25 (by decide +kernel) pV
     have s0:=iY 0 (by decide +kernel)
     have sp:=iY 13 (by decide +kernel)
     obtain⟨r,hr⟩:=dn.oU 0 s0
     have v0:a 32=.map (some r):=by rw [dn.lx 0 32 (by decide +kernel) s0];exact hr
     have vx:a 42=val 13:=dn.lx 13 42 (by decide +kernel) sp
     obtain⟨X,Gf,Ge⟩:∃X,aL.G dm nn no nt vh vn B S val=fX .i64 r (aL.fS S val vh vn)*X∧∀v,aL.G dm nn no nt vh vn B (c8 S 14) (cQ val 14 v)=fX .i64 r (lw (aL.fS S val vh vn) 4 (val 13))*X:=by
      refine⟨(aL.fK S val dm nn*(aL.pc (S 9) (ar .u64 (val 9) (List.replicate no 0))*(aL.pc (S 11) (ar .u64 (val 11) (List.replicate 1 0))*(aL.pc (S 13) (ar .u64 (val 13) (List.replicate 1 0)) *
       (aL.pc (S 15) (ar .u64 (val 15) (List.replicate 1 0))*(aL.pc (S 18) (ar .u64 (val 18) (List.replicate nt 0))*B)))))),?_,fun v=>?_⟩
      · simp only [aL.G,aL.iJ,uh,pV,q9,s0,hr,aL.Ax,if_true,Bool.false_eq_true,if_false]
      · have hf:aL.fS (c8 S 14) (cQ val 14 v) vh vn=lw (aL.fS S val vh vn) 4 (val 13):=by
         funext key
         simp only [aL.fS,c8,cQ,lw,Nat.reduceEqDiff,if_true,if_false]
         by_cases hkey:key=4
         · subst hkey;simp [sp]
         · simp [hkey]
        simp only [aL.G,aL.iJ,aL.fK,aL.pc,hf]
        simp only [c8,cQ,uh,pV,q9,s0,hr,aL.Ax,Nat.reduceEqDiff,if_true,if_false,Bool.false_eq_true]
     rw [Gf] at hs
     obtain⟨A4,e1,e2,_⟩:=fX.rB (P:=Tryz.prog) (t:=120) hs Tryz.underlying120 Tryz.underlying3 4 (val 13)
     simp [-fU,kS,v0,vx,e1]
     rw [Ge]
     exact⟨trivial,e2⟩
   · -- 15
     have sI:=eK 16 15 (by decide +kernel) po
     have hk:∀v,aL.G dm nn no nt vh vn B (c8 S 15) (cQ val 15 v)=ar .u64 v (List.replicate 1 0)*aL.G dm nn no nt vh vn B S val:=fun v=>by
      have hf:aL.fS (c8 S 15) (cQ val 15 v) vh vn=aL.fS S val vh vn:=by funext key;simp [aL.fS,c8,cQ,sI]
      simp only [aL.G,aL.iJ,aL.fK,aL.pc,hf]
      simp only [c8,cQ,po,Nat.reduceEqDiff,if_true,if_false,Bool.false_eq_true,iS]
      ac_rfl
     obtain⟨v',A4,e1,e2,e3,_⟩:=ar.K9 (P:=Tryz.prog) (t:=43) (k1:=.i64) (k2:=.i64) 1 Tryz.underlying43 Tryz.info45 Tryz.zero45 rfl (by simp) (by omega) hs qr
     have NU:ny Tryz.prog A3 43 (.int .i64 1) (.int .i64 1)=some (v',A4):=e1
     simp [-ny,kS,NU]
     rw [hk]
     exact⟨trivial,e2⟩
   · -- 16
     have q9:=eK 24 16 (by decide +kernel) po
     have pV:=eK 25 24 (by decide +kernel) q9
     have uh:=eK 26 25 (by decide +kernel) pV
     have s0:=iY 0 (by decide +kernel)
     have sp:=iY 15 (by decide +kernel)
     obtain⟨r,hr⟩:=dn.oU 0 s0
     have v0:a 32=.map (some r):=by rw [dn.lx 0 32 (by decide +kernel) s0];exact hr
     have vx:a 43=val 15:=dn.lx 15 43 (by decide +kernel) sp
     obtain⟨X,Gf,Ge⟩:∃X,aL.G dm nn no nt vh vn B S val=fX .i64 r (aL.fS S val vh vn)*X∧∀v,aL.G dm nn no nt vh vn B (c8 S 16) (cQ val 16 v)=fX .i64 r (lw (aL.fS S val vh vn) 5 (val 15))*X:=by
      refine⟨(aL.fK S val dm nn*(aL.pc (S 9) (ar .u64 (val 9) (List.replicate no 0))*(aL.pc (S 11) (ar .u64 (val 11) (List.replicate 1 0))*(aL.pc (S 13) (ar .u64 (val 13) (List.replicate 1 0)) *
       (aL.pc (S 15) (ar .u64 (val 15) (List.replicate 1 0))*(aL.pc (S 18) (ar .u64 (val 18) (List.replicate nt 0))*B)))))),?_,fun v=>?_⟩
      · simp only [aL.G,aL.iJ,uh,pV,q9,s0,hr,aL.Ax,if_true,Bool.false_eq_true,if_false]
      · have hf:aL.fS (c8 S 16) (cQ val 16 v) vh vn=lw (aL.fS S val vh vn) 5 (val 15):=by
         funext key
         simp only [aL.fS,c8,cQ,lw,Nat.reduceEqDiff,if_true,if_false]
         by_cases hkey:key=5
         · subst hkey;simp [sp]
         · simp [hkey]
        simp only [aL.G,aL.iJ,aL.fK,aL.pc,hf]
        simp only [c8,cQ,uh,pV,q9,s0,hr,aL.Ax,Nat.reduceEqDiff,if_true,if_false,Bool.false_eq_true]
     rw [Gf] at hs
     obtain⟨A4,e1,e2,_⟩:=fX.rB (P:=Tryz.prog) (t:=120) hs Tryz.underlying120 Tryz.underlying3 5 (val 15)
     simp [-fU,kS,v0,vx,e1]
     rw [Ge]
     exact⟨trivial,e2⟩
   · -- 17
     have hk:∀v,aL.G dm nn no nt vh vn B (c8 S 17) (cQ val 17 v)=aL.G dm nn no nt vh vn B S val:=fun v=>by
      have hf:aL.fS (c8 S 17) (cQ val 17 v) vh vn=aL.fS S val vh vn:=by funext key;simp [aL.fS,c8,cQ]
      simp [aL.G,aL.iJ,aL.fK,aL.pc,hf]
      simp [c8,cQ]
     simp [kS,o1,hk]
     first|exact⟨by simp [aL.Bs,cQ],hs⟩|(simp [aL.Bs,cQ];exact hs)
   · -- 18
     have sI:=eK 19 18 (by decide +kernel) po
     have vd:a 44=.int .i64 ((nt:Nat):Int):=by rw [dn.lx 17 44 (by decide +kernel) (iY 17 (by decide +kernel))];exact dn.oU 17 (iY 17 (by decide +kernel))
     have hk:∀v,aL.G dm nn no nt vh vn B (c8 S 18) (cQ val 18 v)=ar .u64 v (List.replicate nt 0)*aL.G dm nn no nt vh vn B S val:=fun v=>by
      have hf:aL.fS (c8 S 18) (cQ val 18 v) vh vn=aL.fS S val vh vn:=by funext key;simp [aL.fS,c8,cQ,sI]
      simp only [aL.G,aL.iJ,aL.fK,aL.pc,hf]
      simp only [c8,cQ,po,Nat.reduceEqDiff,if_true,if_false,Bool.false_eq_true,iS]
      ac_rfl
     obtain⟨v',A4,e1,e2,e3,_⟩:=ar.K9 (P:=Tryz.prog) (t:=43) (k1:=.i64) (k2:=.i64) nt Tryz.underlying43 Tryz.info45 Tryz.zero45 rfl (by simp) (by omega) hs qr
     have NU:ny Tryz.prog A3 43 (.int .i64 (nt:Int)) (.int .i64 (nt:Int))=some (v',A4):=e1
     simp [-ny,kS,vd,NU]
     rw [hk]
     exact⟨trivial,e2⟩
   · -- 19
     have q9:=eK 24 19 (by decide +kernel) po
     have pV:=eK 25 24 (by decide +kernel) q9
     have uh:=eK 26 25 (by decide +kernel) pV
     have s0:=iY 0 (by decide +kernel)
     have sp:=iY 18 (by decide +kernel)
     obtain⟨r,hr⟩:=dn.oU 0 s0
     have v0:a 32=.map (some r):=by rw [dn.lx 0 32 (by decide +kernel) s0];exact hr
     have vx:a 45=val 18:=dn.lx 18 45 (by decide +kernel) sp
     obtain⟨X,Gf,Ge⟩:∃X,aL.G dm nn no nt vh vn B S val=fX .i64 r (aL.fS S val vh vn)*X∧∀v,aL.G dm nn no nt vh vn B (c8 S 19) (cQ val 19 v)=fX .i64 r (lw (aL.fS S val vh vn) 6 (val 18))*X:=by
      refine⟨(aL.fK S val dm nn*(aL.pc (S 9) (ar .u64 (val 9) (List.replicate no 0))*(aL.pc (S 11) (ar .u64 (val 11) (List.replicate 1 0))*(aL.pc (S 13) (ar .u64 (val 13) (List.replicate 1 0)) *
       (aL.pc (S 15) (ar .u64 (val 15) (List.replicate 1 0))*(aL.pc (S 18) (ar .u64 (val 18) (List.replicate nt 0))*B)))))),?_,fun v=>?_⟩
      · simp only [aL.G,aL.iJ,uh,pV,q9,s0,hr,aL.Ax,if_true,Bool.false_eq_true,if_false]
      · have hf:aL.fS (c8 S 19) (cQ val 19 v) vh vn=lw (aL.fS S val vh vn) 6 (val 18):=by
         funext key
         simp only [aL.fS,c8,cQ,lw,Nat.reduceEqDiff,if_true,if_false]
         by_cases hkey:key=6
         · subst hkey;simp [sp]
         · simp [hkey]
        simp only [aL.G,aL.iJ,aL.fK,aL.pc,hf]
        simp only [c8,cQ,uh,pV,q9,s0,hr,aL.Ax,Nat.reduceEqDiff,if_true,if_false,Bool.false_eq_true]
     rw [Gf] at hs
     obtain⟨A4,e1,e2,_⟩:=fX.rB (P:=Tryz.prog) (t:=120) hs Tryz.underlying120 Tryz.underlying3 6 (val 18)
     simp [-fU,kS,v0,vx,e1]
     rw [Ge]
     exact⟨trivial,e2⟩
   · -- 20
     have hk:∀v,aL.G dm nn no nt vh vn B (c8 S 20) (cQ val 20 v)=aL.G dm nn no nt vh vn B S val:=fun v=>by
      have hf:aL.fS (c8 S 20) (cQ val 20 v) vh vn=aL.fS S val vh vn:=by funext key;simp [aL.fS,c8,cQ]
      simp [aL.G,aL.iJ,aL.fK,aL.pc,hf]
      simp [c8,cQ]
     simp [kS,o9,hk]
     first|exact⟨by simp [aL.Bs,cQ],hs⟩|(simp [aL.Bs,cQ];exact hs)
   · -- 21
     have q9:=eK 24 21 (by decide +kernel) po
     have pV:=eK 25 24 (by decide +kernel) q9
     have uh:=eK 26 25 (by decide +kernel) pV
     have s0:=iY 0 (by decide +kernel)
     have sp:=iY 20 (by decide +kernel)
     obtain⟨r,hr⟩:=dn.oU 0 s0
     have v0:a 32=.map (some r):=by rw [dn.lx 0 32 (by decide +kernel) s0];exact hr
     have vx:a 46=vh:=by rw [dn.lx 20 46 (by decide +kernel) sp];exact dn.oU 20 sp
     obtain⟨X,Gf,Ge⟩:∃X,aL.G dm nn no nt vh vn B S val=fX .i64 r (aL.fS S val vh vn)*X∧∀v,aL.G dm nn no nt vh vn B (c8 S 21) (cQ val 21 v)=fX .i64 r (lw (aL.fS S val vh vn) 7 vh)*X:=by
      refine⟨(aL.fK S val dm nn*(aL.pc (S 9) (ar .u64 (val 9) (List.replicate no 0))*(aL.pc (S 11) (ar .u64 (val 11) (List.replicate 1 0))*(aL.pc (S 13) (ar .u64 (val 13) (List.replicate 1 0)) *
       (aL.pc (S 15) (ar .u64 (val 15) (List.replicate 1 0))*(aL.pc (S 18) (ar .u64 (val 18) (List.replicate nt 0))*B)))))),?_,fun v=>?_⟩
      · simp only [aL.G,aL.iJ,uh,pV,q9,s0,hr,aL.Ax,if_true,Bool.false_eq_true,if_false]
      · have hf:aL.fS (c8 S 21) (cQ val 21 v) vh vn=lw (aL.fS S val vh vn) 7 vh:=by
         funext key
         simp only [aL.fS,c8,cQ,lw,Nat.reduceEqDiff,if_true,if_false]
         by_cases hkey:key=7
         · subst hkey;simp [sp]
         · simp [hkey]
        simp only [aL.G,aL.iJ,aL.fK,aL.pc,hf]
        simp only [c8,cQ,uh,pV,q9,s0,hr,aL.Ax,Nat.reduceEqDiff,if_true,if_false,Bool.false_eq_true]
     rw [Gf] at hs
     obtain⟨A4,e1,e2,_⟩:=fX.rB (P:=Tryz.prog) (t:=120) hs Tryz.underlying120 Tryz.underlying3 7 vh
     simp [-fU,kS,v0,vx,e1]
     rw [Ge]
     exact⟨trivial,e2⟩
   · -- 22
     have hk:∀v,aL.G dm nn no nt vh vn B (c8 S 22) (cQ val 22 v)=aL.G dm nn no nt vh vn B S val:=fun v=>by
      have hf:aL.fS (c8 S 22) (cQ val 22 v) vh vn=aL.fS S val vh vn:=by funext key;simp [aL.fS,c8,cQ]
      simp [aL.G,aL.iJ,aL.fK,aL.pc,hf]
      simp [c8,cQ]
     simp [kS,Vr,hk]
     first|exact⟨by simp [aL.Bs,cQ],hs⟩|(simp [aL.Bs,cQ];exact hs)
   · -- 23
     have q9:=eK 24 23 (by decide +kernel) po
     have pV:=eK 25 24 (by decide +kernel) q9
     have uh:=eK 26 25 (by decide +kernel) pV
     have s0:=iY 0 (by decide +kernel)
     have sp:=iY 22 (by decide +kernel)
     obtain⟨r,hr⟩:=dn.oU 0 s0
     have v0:a 32=.map (some r):=by rw [dn.lx 0 32 (by decide +kernel) s0];exact hr
     have vx:a 47=vn:=by rw [dn.lx 22 47 (by decide +kernel) sp];exact dn.oU 22 sp
     obtain⟨X,Gf,Ge⟩:∃X,aL.G dm nn no nt vh vn B S val=fX .i64 r (aL.fS S val vh vn)*X∧∀v,aL.G dm nn no nt vh vn B (c8 S 23) (cQ val 23 v)=fX .i64 r (lw (aL.fS S val vh vn) 8 vn)*X:=by
      refine⟨(aL.fK S val dm nn*(aL.pc (S 9) (ar .u64 (val 9) (List.replicate no 0))*(aL.pc (S 11) (ar .u64 (val 11) (List.replicate 1 0))*(aL.pc (S 13) (ar .u64 (val 13) (List.replicate 1 0)) *
       (aL.pc (S 15) (ar .u64 (val 15) (List.replicate 1 0))*(aL.pc (S 18) (ar .u64 (val 18) (List.replicate nt 0))*B)))))),?_,fun v=>?_⟩
      · simp only [aL.G,aL.iJ,uh,pV,q9,s0,hr,aL.Ax,if_true,Bool.false_eq_true,if_false]
      · have hf:aL.fS (c8 S 23) (cQ val 23 v) vh vn=lw (aL.fS S val vh vn) 8 vn:=by
         funext key
         simp only [aL.fS,c8,cQ,lw,Nat.reduceEqDiff,if_true,if_false]
         by_cases hkey:key=8
         · subst hkey;simp [sp]
         · simp [hkey]
        simp only [aL.G,aL.iJ,aL.fK,aL.pc,hf]
        simp only [c8,cQ,uh,pV,q9,s0,hr,aL.Ax,Nat.reduceEqDiff,if_true,if_false,Bool.false_eq_true]
     rw [Gf] at hs
     obtain⟨A4,e1,e2,_⟩:=fX.rB (P:=Tryz.prog) (t:=120) hs Tryz.underlying120 Tryz.underlying3 8 vn
     simp [-fU,kS,v0,vx,e1]
     rw [Ge]
     exact⟨trivial,e2⟩
   · -- 24
     have pV:=eK 25 24 (by decide +kernel) po
     have uh:=eK 26 25 (by decide +kernel) pV
     have s0:=iY 0 (by decide +kernel)
     obtain⟨r,hr⟩:=dn.oU 0 s0
     have v0:a 32=.map (some r):=by rw [dn.lx 0 32 (by decide +kernel) s0];exact hr
     have hk:aL.G dm nn no nt vh vn B (c8 S 24) (cQ val 24 (.map (some r)))=aL.G dm nn no nt vh vn B S val:=by
      have hf:aL.fS (c8 S 24) (cQ val 24 (.map (some r))) vh vn=aL.fS S val vh vn:=by funext key;simp [aL.fS,c8,cQ]
      simp only [aL.G,aL.iJ,aL.fK,aL.pc,hf]
      simp only [c8,cQ,uh,pV,po,s0,hr,aL.Ax,Nat.reduceEqDiff,if_true,if_false,Bool.false_eq_true]
     simp [kS,v0,hk]
     exact⟨⟨r,by simp [cQ]⟩,hs⟩
   · -- 25
     have uh:=eK 26 25 (by decide +kernel) po
     have q9:=iY 24 (by decide +kernel)
     obtain⟨r,hr⟩:=dn.oU 24 q9
     have v0:a 48=.map (some r):=by rw [dn.lx 24 48 (by decide +kernel) q9];exact hr
     have hk:aL.G dm nn no nt vh vn B (c8 S 25) (cQ val 25 (.agg #[.map (some r)]))=aL.G dm nn no nt vh vn B S val:=by
      have hf:aL.fS (c8 S 25) (cQ val 25 (.agg #[.map (some r)])) vh vn=aL.fS S val vh vn:=by funext key;simp [aL.fS,c8,cQ]
      simp only [aL.G,aL.iJ,aL.fK,aL.pc,hf]
      simp only [c8,cQ,uh,po,q9,hr,aL.Ax,aL.Tr,Nat.reduceEqDiff,if_true,if_false,Bool.false_eq_true]
      rfl
     simp [kS,v0,hk]
     exact⟨⟨r,by simp [cQ]⟩,hs⟩
   · -- 26
     have pV:=iY 25 (by decide +kernel)
     obtain⟨r,hr⟩:=dn.oU 25 pV
     have v0:a 49=.agg #[.map (some r)]:=by rw [dn.lx 25 49 (by decide +kernel) pV];exact hr
     obtain⟨X,Gf,Ge⟩:∃X,aL.G dm nn no nt vh vn B S val=fX .i64 r (aL.fS S val vh vn)*X∧aL.G dm nn no nt vh vn B (c8 S 26) (cQ val 26 (.pointer (some ⟨A3.next,0,none⟩))) =
      (rt fun r=>pt A3.next (.cells [.map (some r)] true 1)*fX .i64 r (aL.fS S val vh vn))*X:=by
      refine⟨(aL.fK S val dm nn*(aL.pc (S 9) (ar .u64 (val 9) (List.replicate no 0))*(aL.pc (S 11) (ar .u64 (val 11) (List.replicate 1 0))*(aL.pc (S 13) (ar .u64 (val 13) (List.replicate 1 0)) *
       (aL.pc (S 15) (ar .u64 (val 15) (List.replicate 1 0))*(aL.pc (S 18) (ar .u64 (val 18) (List.replicate nt 0))*B)))))),?_,?_⟩
      · simp only [aL.G,aL.iJ,po,pV,hr,aL.Tr,if_true,Bool.false_eq_true,if_false]
        rfl
      · have hf:aL.fS (c8 S 26) (cQ val 26 (.pointer (some ⟨A3.next,0,none⟩))) vh vn=aL.fS S val vh vn:=by funext key;simp [aL.fS,c8,cQ]
        simp only [aL.G,aL.iJ,aL.fK,aL.pc,hf]
        simp only [c8,cQ,aL.U3,Nat.reduceEqDiff,if_true,if_false]
     rw [Gf] at hs
     simp [kS,v0]
     rw [Ge]
     refine⟨⟨A3.next,by simp [cQ]⟩,?_⟩
     rw [bK.ex]
     refine⟨r,?_⟩
     rw [HP.cq]
     exact hs.alloc qr _
   · -- 27
     have hk:∀v,aL.G dm nn no nt vh vn B (c8 S 27) (cQ val 27 v)=aL.G dm nn no nt vh vn B S val:=fun v=>by
      have hf:aL.fS (c8 S 27) (cQ val 27 v) vh vn=aL.fS S val vh vn:=by funext key;simp [aL.fS,c8,cQ]
      simp [aL.G,aL.iJ,aL.fK,aL.pc,hf]
      simp [c8,cQ]
     have WQ:a 50=val 26:=dn.lx 26 50 (by decide +kernel) (iY 26 (by decide +kernel))
     simp [kS,WQ,hk]
     first|exact⟨by simp [aL.Bs,cQ],hs⟩|(simp [aL.Bs,cQ];exact hs)
   · -- 28
     have hk:∀v,aL.G dm nn no nt vh vn B (c8 S 28) (cQ val 28 v)=aL.G dm nn no nt vh vn B S val:=fun v=>by
      have hf:aL.fS (c8 S 28) (cQ val 28 v) vh vn=aL.fS S val vh vn:=by funext key;simp [aL.fS,c8,cQ]
      simp [aL.G,aL.iJ,aL.fK,aL.pc,hf]
      simp [c8,cQ]
     simp [kS,o1,hk]
     first|exact⟨by simp [aL.Bs,cQ],hs⟩|(simp [aL.Bs,cQ];exact hs)
 · intro S val a A3 kE dn qr hs
   have oG:∀k,k<29→S k=true:=fun k hk=>kE k hk
   obtain⟨b,hb⟩:=dn.oU 26 (oG 26 (by omega))
   have Sd:=dn.oU 27 (oG 27 (by omega))
   have a6:a 6=.pointer (some ⟨b,0,none⟩):=by rw [dn.lx 27 6 (by decide +kernel) (oG 27 (by omega)),Sd,hb]
   have a7:a 7=.int .i64 0:=by rw [dn.lx 28 7 (by decide +kernel) (oG 28 (by omega))];exact dn.oU 28 (oG 28 (by omega))
   simp only [Eg]
   refine I1 ?_
   refine⟨_,by first|(simp [a6,a7];done)|(simp [a6,a7];rfl),b,rfl,?_⟩
   have Ui:aL.fS S val vh vn=sY (fun k=>if k=0 then val 5 else if k=1 then val 9 else if k=2 then val 11 else if k=3 then val 13 else if k=4 then val 15 else if k=5 then val 18 else if k=6 then vh else vn):=by
    funext key
    simp only [aL.fS,sY,oG 6 (by omega),oG 5 (by omega),oG 10 (by omega),oG 9 (by omega),oG 12 (by omega),oG 11 (by omega),oG 14 (by omega),oG 13 (by omega),oG 16 (by omega),oG 15 (by omega),oG 19 (by omega),oG 18 (by omega),oG 21 (by omega),oG 23 (by omega),and_self,if_true]
    by_cases hk:1≤key∧key≤8
    · have:key=1∨key=2∨key=3∨key=4∨key=5∨key=6∨key=7∨key=8:=by omega
      rcases this with rfl|rfl|rfl|rfl|rfl|rfl|rfl|rfl<;>rfl
    · rw [if_neg hk,if_neg (by omega),if_neg (by omega),if_neg (by omega),if_neg (by omega),if_neg (by omega),if_neg (by omega),if_neg (by omega),if_neg (by omega)]
   have Pt:bK A3 ((rt fun r=>pt b (.cells [.map (some r)] true 1)*fX .i64 r (aL.fS S val vh vn))*(ar .u64 (val 5) (dm++List.replicate nn 0)*(ar .u64 (val 9) (List.replicate no 0)*(ar .u64 (val 11) (List.replicate 1 0) *
    (ar .u64 (val 13) (List.replicate 1 0)*(ar .u64 (val 15) (List.replicate 1 0)*(ar .u64 (val 18) (List.replicate nt 0)*B))))))):=by
    refine hs.dp ?_
    simp only [aL.G,aL.iJ,aL.fK,aL.pc,oG 26 (by omega),oG 5 (by omega),oG 9 (by omega),oG 11 (by omega),oG 13 (by omega),oG 15 (by omega),oG 18 (by omega),if_true,hb,aL.U3]
   rw [bK.ex] at Pt
   obtain⟨r,T3⟩:=Pt
   rw [hB,Ui] at T3
   refine eI.eh (r:=r) (vs:=fun k=>if k=0 then val 5 else if k=1 then val 9 else if k=2 then val 11 else if k=3 then val 13 else if k=4 then val 15 else if k=5 then val 18 else if k=6 then vh else vn) ?_
   simp only [j8,iS,Nat.reduceEqDiff,if_true,if_false]
   have r1:List.replicate 1 (0:Int)=[0]:=rfl
   rw [r1] at T3
   exact bK.right (P:=pt A.next (.cells CV true 1)) (T3.dp (by ac_rfl))
section
abbrev mF:List (Nat×Nat):=[(0,0),(1,0),(2,0),(3,0),(4,0),(5,0),(6,0),(7,0),(8,0),(9,0),(10,0),(11,0),(12,2),(13,0),(14,0),(15,3)]
abbrev KU:List (Nat×Nat):=[(0,0),(1,0),(2,0),(3,0),(4,0),(5,0),(6,0),(7,0),(8,0),(9,0),(10,0),(11,0)]
open T28 T16
theorem Ce {c:bG} {M:Mm} (p:mN) (pE:0≤p.cj∧p.cj≤2) (hc:dt c) (hh:kG c p.dB p.eP) (hb:p.block = -1):(fx p M).2.1.block<c.nb:=by
 have xv:=oC hc
 rcases pC p M pE with ⟨h0,e0⟩|⟨h0,e0⟩|⟨h0,w,hw,e0⟩
 · rw [e0];dsimp only;omega
 · rw [e0];dsimp only;omega
 · rw [e0]
   dsimp only
   split
   · exact hh.2.1
   · dsimp only;omega
theorem uj (b:Nat) (l:eM) (o o':Option Addr) (n n' c c':Nat) (A:AW) (hg:A.cy b=some (jA l (.slice o n c) (.slice o' n' c'))):eF 94 [pv b] A (.bool (decide (n'=n))):=by
 refine ab Tryz.func94 rfl (by kernel_rfl) fun _=>?_
 dsimp only [jA] at hg
 refine Wr (J1 (od KU)) (J2 hg @AW.aa) (J1 ?_)<;>unhygienic intros
 all_goals exact⟨_,by first|(simp;done)|(simp;rfl),by simp<;>omega,rfl⟩
theorem Hf (cf:bG) (b mb:Nat) (l:eM) (fA fk:Value) (M:Mm) (hM:fE M) (cU:l.dH.length≤l.aj.length) (DJ:l.aj.length<2^38) (he:l.fg=true→xn l=jD l) :
 nA Tryz.prog 93 [pv b,pv mb] [.at b (jA l fA fk),.h (ar .i64 fA l.aj),.h (ar .u64 fk l.dH),fw cf mb M] (fun _ v=>v=(dF l M).1.v)
  (fun x:Value×Value=>[.at b (jA (dF l M).2.1 x.1 x.2),.h (ar .i64 x.1 (dF l M).2.1.aj),.h (ar .u64 x.2 (dF l M).2.1.dH),fw cf mb (dF l M).2.2]):=by
 intro A F hw hS
 have l9:bK A (gC b l*eX cf mb M*(F*fa)):=by
  have h1:bK A (gC b l*(eX cf mb M*(F*fa))):=gC.eh hS
  rwa [←HP.cq] at h1
 have dn:=yJ cf b mb l M hM cU DJ A (F*fa) hw l9
 rw [Dd he] at dn
 refine dn.mono ?_
 intro v A' h
 rw [HP.cq,bK.pr] at h
 obtain⟨h1,h2⟩:=h
 rw [HP.cq] at h2
 obtain⟨vo,vw,h3⟩:=gC.open h2
 exact⟨(vo,vw),h1,h3⟩
theorem HA {M:Mm} (l:eM) (hn:l.dH.length<l.aj.length) (hh:dw M 2 (ew l)=true):(if (dF l M).1.eV=3 then 12 else 11:Int)=if l.fg=true then 12 else 11:=by
 have jx:l.done=false:=by
  unfold eM.done
  rw [decide_eq_false_iff_not]
  omega
 have RP:(de M 1 2 (ew l) gF).eV=1:=by unfold de;rw [if_pos hh]
 have X0:∀g,(de M 3 2 (ew l) g).eV=3:=fun g=>by unfold de;rw [if_pos hh]
 unfold dF
 cases hl:l.fg with
 | true=>simp [jx,X0]
 | false=>simp [jx,RP]
theorem By (l:eM) (M:Mm):(dF l M).2.1.aj=l.aj∧(dF l M).2.1.ag=l.ag:=by
 unfold dF
 dsimp only
 split
 · exact⟨rfl,rfl⟩
 · split<;>exact⟨rfl,rfl⟩
theorem A9 (b mb:Nat) (s:aD) (M:Mm) (hM:fE M) (hd:s.aA=.fF) (s9:s.ai=false) (l:eM) (hl:s.aG=some l) (cU:l.dH.length<l.aj.length) (DJ:l.aj.length<2^38) (he:l.fg=true→xn l=jD l) (hh:dw M 2 (ew l)=true):fQ b mb s M:=by
 have e:cD s M=jk s M l:=by unfold cD;rw [hd];dsimp only;rw [hl]
 have OF:=fun pl vo vw=>Hf s.cf pl mb l vo vw M hM (by omega) DJ he
 have BD:=HA l cU hh
 obtain⟨PB,Nu⟩:=By l M
 unfold fQ
 rw [e]
 unfold jk
 clear e
 dsimp only
 rw [BD]
 clear BD
 obtain⟨a,l',M',F5⟩:∃a l' M',dF l M=(a,l',M'):=⟨_,_,_,rfl⟩
 rw [F5] at OF PB Nu ⊢
 dsimp only at OF PB Nu ⊢
 clear F5
 have VD:=qz b { s with aG:=some l' } 5
 obtain⟨cf,ag,av,ax,value,br,ai,ah,ac,ap,set,aM,ao,aj,aG,aE,am,aA⟩:=s
 dsimp only at hd hl s9 OF VD ⊢
 subst hd hl s9
 have Nz:(if l.fg=true then (12:Int) else 11)=if l.fg=true then 12 else 11:=rfl
 cases jx:l'.done with
 | true=>
   simp only [if_true]
   have HS:l'.dH.length=l'.aj.length:=by simpa [eM.done] using jx
   cases uT:l.fg
   all_goals(
    intro A F hw hS
    refine ab Tryz.func33 rfl (by kernel_rfl) fun _=>?_
    dsimp only [na,zo] at hS
    obtain⟨⟨bh,aY,az,aJ,aK,m,dy,k,ja,dr,bS,aw,aB,va,vv,vi,fA,fk,dD,dL,cI,jv,dO,dP,cG,cx,dv,cH,dN,bU,bt,dM,bT⟩,hS⟩:=bF.open hS .z
    dsimp only [bE,bH,cJ,bj,cR,eQ,cO,bf,ff,bO,bP,bd,be,bL,bc,bN,aO,aI,bM,aN,bJ,aT,aQ,aD.rv,na,zo] at hS
    try simp only [cV] at hS
    have hq:=ZL hS hw
    have hS:=hW.op hS (.s (.s .z))
    obtain⟨ol,cl,rfl,iz⟩:=(an.gM hS (.s .z)).cL
    obtain⟨ow,cw,rfl,IU⟩:=(an.gM hS (.s (.s .z))).cL
    have hq:=ZL hS hw
    simp only [uT] at hq
    repeat' (first
    | (refine il fun R hR=>?_;simp [ak,au,hq,AW.aa,af,aS,bq.v];try simp (disch:=omega) only [if_pos,if_neg,ak,au])
    | (refine hR _ _ ?_;clear hR R)|(refine hK _ _ ?_;clear hK K)|refine nx ?_
    | refine wn fun K hK=>?_
    | simp only [wS,mF]
    | refine wl Tryz.mx mF (by decide +kernel) fun K hK=>?_
    | (apply nA.el (OF _ _ _);(·exact wA);(·exact sA);(·first|exact pR|exact kR);(rintro xw _ _ rfl hS hw _;have hS:=lA hS;(try (have hq:=ZM hS hw))))
    | refine wb ?_|refine wr ?_|refine wk ?_|refine we ?_|refine ws ?_|refine wq ?_
    | (refine wc rfl (fun hc=>?_) (fun hc=>?_)<;>(try simp at hc)<;>(try omega)<;>(try (simp [h2] at hc;done))<;>(try (simp [h3] at hc;done))<;>(try (simp [h4] at hc;done)))
    | (refine ib (fun hc=>?_) (fun hc=>?_)<;>(try omega)<;>(try simp (disch:=omega) only [if_pos,if_neg])))
    obtain⟨v1,v2⟩:=xw
    dsimp only at hS
    obtain⟨Tw,U0,rfl,UC⟩:=(an.gM hS (.s .z)).cL
    obtain⟨Dp,DX,rfl,UA⟩:=(an.gM hS (.s (.s .z))).cL
    have Zj:=hS.mZ.1
    have mf:=fun A' h=>uj aJ l' Tw Dp l'.aj.length l'.dH.length U0 DX A' h
    rw [show decide (l'.dH.length=l'.aj.length)=true by simp [HS]] at mf
    have hq:=Z1 hS hw
    have hS:=hW.cl hS (.s .z (.s .z (.s .z .z)))
    all_goals(revert hq hS hw;(repeat first|clear hq|clear hS|clear hw|revert hc|revert zn|revert zA|revert R|revert K);refine Wr (J3 (Tg.mk (n:=24) @VD) (od mF) @mf) (J5 uT @AW.aa @af.eq_1 @aS.eq_1 @bq.v.eq_1) (J1 ?_)<;>unhygienic intros)
    refine⟨_,by simp [hq,AW.aa,af];rfl,by first|(simp [bq.v,bq.zero];done)|(simp [bq.v,bq.zero,h];done),?_⟩
    apply an.cC
    (·exact sA)
    (·first|exact pR|exact kR))
 | false=>
   simp only [Bool.false_eq_true,if_false]
   have HS:¬l'.dH.length=l'.aj.length:=by simpa [eM.done] using jx
   cases uT:l.fg
   all_goals(
    intro A F hw hS
    refine ab Tryz.func33 rfl (by kernel_rfl) fun _=>?_
    dsimp only [na,zo] at hS
    obtain⟨⟨bh,aY,az,aJ,aK,m,dy,k,ja,dr,bS,aw,aB,va,vv,vi,fA,fk,dD,dL,cI,jv,dO,dP,cG,cx,dv,cH,dN,bU,bt,dM,bT⟩,hS⟩:=bF.open hS .z
    dsimp only [bE,bH,cJ,bj,cR,eQ,cO,bf,ff,bO,bP,bd,be,bL,bc,bN,aO,aI,bM,aN,bJ,aT,aQ,aD.rv,na,zo] at hS
    try simp only [cV] at hS
    have hq:=ZL hS hw
    have hS:=hW.op hS (.s (.s .z))
    obtain⟨ol,cl,rfl,iz⟩:=(an.gM hS (.s .z)).cL
    obtain⟨ow,cw,rfl,IU⟩:=(an.gM hS (.s (.s .z))).cL
    have hq:=ZL hS hw
    simp only [uT] at hq
    repeat' (first
    | (refine il fun R hR=>?_;simp [ak,au,hq,AW.aa,af,aS,bq.v];try simp (disch:=omega) only [if_pos,if_neg,ak,au])
    | (refine hR _ _ ?_;clear hR R)|(refine hK _ _ ?_;clear hK K)|refine nx ?_
    | refine wn fun K hK=>?_
    | simp only [wS,mF]
    | refine wl Tryz.mx mF (by decide +kernel) fun K hK=>?_
    | (apply nA.el (OF _ _ _);(·exact wA);(·exact sA);(·first|exact pR|exact kR);(rintro xw _ _ rfl hS hw _;have hS:=lA hS;(try (have hq:=ZM hS hw))))
    | refine wb ?_|refine wr ?_|refine wk ?_|refine we ?_|refine ws ?_|refine wq ?_
    | (refine wc rfl (fun hc=>?_) (fun hc=>?_)<;>(try simp at hc)<;>(try omega)<;>(try (simp [h2] at hc;done))<;>(try (simp [h3] at hc;done))<;>(try (simp [h4] at hc;done)))
    | (refine ib (fun hc=>?_) (fun hc=>?_)<;>(try omega)<;>(try simp (disch:=omega) only [if_pos,if_neg])))
    obtain⟨v1,v2⟩:=xw
    dsimp only at hS
    obtain⟨Tw,U0,rfl,UC⟩:=(an.gM hS (.s .z)).cL
    obtain⟨Dp,DX,rfl,UA⟩:=(an.gM hS (.s (.s .z))).cL
    have mf:=fun A' h=>uj aJ l' Tw Dp l'.aj.length l'.dH.length U0 DX A' h
    rw [show decide (l'.dH.length=l'.aj.length)=false by simp [HS]] at mf
    have hq:=Z1 hS hw
    have hS:=hW.cl hS (.s .z (.s .z (.s .z .z)))
    all_goals(revert hq hS hw;(repeat first|clear hq|clear hS|clear hw|revert hc|revert zn|revert zA|revert R|revert K);refine Wr (J2 (od mF) @mf) (J5 uT @AW.aa @af.eq_1 @aS.eq_1 @bq.v.eq_1) (J1 ?_)<;>unhygienic intros)
    refine⟨_,by simp [hq,AW.aa,af];rfl,by first|(simp [bq.v,bq.zero];done)|(simp [bq.v,bq.zero,h];done),?_⟩
    apply bF.cC
    (·exact sA)
    (dsimp only [bE,bH,cJ,bj,cR,eQ,cO,bf,ff,bO,bP,bd,be,bL,bc,bN,aO,aI,bM,aN,bJ,aT,aQ,aD.rv,na,zo])
    (try simp only [cV])
    (try simp only [h])
    (·first|exact pR|exact kR)
    (·first|exact pR|exact kR)
    all_goals(first|exact 0|exact undef))
end
end Go.Stx
