/-
 The program's cells, made anew.
-/
import Derived.Test.YtejgooipbmnioaaGreatDoorG21
set_option linter.unusedVariables false
set_option linter.unusedSimpArgs false
set_option linter.unusedSectionVars false
set_option maxRecDepth 20000
set_option maxHeartbeats 4000000
namespace Go.Stx
open Go Go.Proofs
attribute [local irreducible] TW cg eg bn aC aV cR df
section
variable [Gl]
namespace aF
def zP:Value→Nat
 | .map (some r)=>r
 | _=>0
def Wa:Value→Nat
 | .pointer (some p)=>p.block
 | _=>0
def Us:Value→Nat
 | .agg cs=>zP (cs.getD 0 undef)
 | _=>0
def pc (b:Bool) (P:HP):HP:=if b=true then P else eG
def fS (S:Nat→Bool) (val:Nat→Value) (vh vn:Value) (key:Int):Option Value:=
 if key=1 then (if S 6=true∧S 5=true then some (val 5) else none)
 else if key=2 then (if S 10=true∧S 9=true then some (val 9) else none)
 else if key=3 then (if S 12=true∧S 11=true then some (val 11) else none)
 else if key=4 then (if S 14=true∧S 13=true then some (val 13) else none)
 else if key=5 then (if S 16=true∧S 15=true then some (val 15) else none)
 else if key=6 then (if S 19=true∧S 18=true then some (val 18) else none)
 else if key=7 then (if S 21=true then some vh else none)
 else if key=8 then (if S 23=true then some vn else none) else none
def gK (S:Nat→Bool) (val:Nat→Value) (vh vn:Value):HP:=
 if S 26=true then nI fun r=>pt (Wa (val 26)) (.cells [.map (some r)] true 1)*fy .i64 r (fS S val vh vn)
 else if S 25=true then fy .i64 (Us (val 25)) (fS S val vh vn)
 else if S 24=true then fy .i64 (zP (val 24)) (fS S val vh vn)
 else if S 0=true then fy .i64 (zP (val 0)) (fS S val vh vn) else eG
def eX (S:Nat→Bool) (val:Nat→Value) (cx:List Int) (nn:Nat):HP:=
 if S 5=true then au .u64 (val 5) (cx++List.replicate nn 0) else if S 2=true then au .u64 (val 2) cx else eG
def G (cx:List Int) (nn no nt:Nat) (vh vn:Value) (B:HP) (S:Nat→Bool) (val:Nat→Value):HP:=
 gK S val vh vn*(eX S val cx nn*(pc (S 9) (au .u64 (val 9) (List.replicate no 0))*(pc (S 11) (au .u64 (val 11) (List.replicate 1 0))*(pc (S 13) (au .u64 (val 13) (List.replicate 1 0)) *
  (pc (S 15) (au .u64 (val 15) (List.replicate 1 0))*(pc (S 18) (au .u64 (val 18) (List.replicate nt 0))*B))))))
def An (vi vh vn:Value) (cb nn no nt:Nat) (j:Nat) (val:Nat→Value):Prop:=
 match j with
 | 0=>∃r,val 0=.map (some r)
 | 1=>val 1=vi
 | 3=>val 3=vn
 | 4=>val 4=.int .i64 (nn:Int)
 | 7=>val 7=.pointer (some ⟨cb,1,none⟩)
 | 8=>val 8=.int .i64 (no:Int)
 | 17=>val 17=.int .i64 (nt:Int)
 | 20=>val 20=vh
 | 22=>val 22=vn
 | 24=>∃r,val 24=.map (some r)
 | 25=>∃r,val 25=.agg #[.map (some r)]
 | 26=>∃b,val 26=.pointer (some ⟨b,0,none⟩)
 | 27=>val 27=val 26
 | 28=>val 28=.int .i64 0
 | _=>True
theorem NZ {cx:List Int} {nn no nt:Nat} {vh vn:Value} {B:HP} {S S':Nat→Bool} {val Kd:Nat→Value} (hm:gK S' Kd vh vn=gK S val vh vn) (hd:eX S' Kd cx nn=eX S val cx nn)
 (h:∀k,k=9∨k=11∨k=13∨k=15∨k=18→S' k=S k∧(S k=true→Kd k=val k)):G cx nn no nt vh vn B S' Kd=G cx nn no nt vh vn B S val:=by
 have key:∀k n,k=9∨k=11∨k=13∨k=15∨k=18→pc (S' k) (au .u64 (Kd k) (List.replicate n 0))=pc (S k) (au .u64 (val k) (List.replicate n 0)):=fun k n hk=>by
  obtain⟨h1,h2⟩:=h k hk
  unfold pc
  rw [h1]
  split
  · rename_i e;rw [h2 e]
  · rfl
 unfold G
 rw [hm,hd,key 9 no (by simp),key 11 1 (by simp),key 13 1 (by simp),key 15 1 (by simp),key 18 nt (by simp)]
end aF
set_option maxRecDepth 100000 in
set_option maxHeartbeats 4000000 in
theorem AK (nt nn no:Nat) (vi:Value) (cx:List Int) (aQ an base n0 n1 n2 n3 reads bN ai av ax:Int) (aK:Bool) (hc:nB ⟨aQ,an,base,n0,n1,n2,n3,reads,bN,ai,av,ax,aK⟩) (A:AW) (F R:HP) (hR:∀(A:AW) (F:HP),bz A (R*F)→dB A .u64 vi cx) (hw:A.Wf) (hS:bz A (R*F)) (h1:1≤nt) (tC:nt≤16) (hi:(cx.length:Int)=aQ) (DL:an=(no:Int)) (W7:(eQ n0 n1).length=nn) :
 aC Tryz.prog 49 [(bC.mk aQ an base n0 n1 n2 n3 reads bN ai av ax aK).v,.int .i64 (nt:Int),vi] A (fun v A'=>∃pb,v=.tuple #[.pointer (some ⟨pb,0,none⟩),.int .i64 0]∧
  bz A' (dS pb (fun k=>if k=0 then cx++List.replicate nn 0 else if k=1 then List.replicate no 0 else if k=5 then List.replicate nt 0 else if k=6 then eH n0 n1 else if k=7 then eQ n0 n1 else [0])*(R*F))):=by
 have AG:=nl _ hc.ok
 have RS:=Gw _ hc
 have YX:1≤no∧no≤64:=by
  have:=hc.ok.an
  dsimp only at this
  omega
 have Zb:cx.length≤64:=by
  have:=hc.ok.aQ
  dsimp only at this
  omega
 have YY:nn≤4:=by
  have h0:=hc.c0
  have h1:=hc.c1
  dsimp only at h0 h1
  rw [←W7]
  rcases h0 with rfl|rfl|rfl<;>rcases h1 with rfl|rfl|rfl<;>decide
 refine ab Tryz.func49 rfl (by kernel_rfl) fun _=>?_
 obtain⟨oi,ci,rfl,_⟩:=(hR A F hS).dJ
 have YW:¬(nt:Int)<1:=by omega
 have Vh:¬(16:Int)<nt:=by omega
 dsimp only [bC.v] at AG RS ⊢
 repeat' (first
 | (refine jx fun R hR=>?_;simp [aw,az,AW.aa,ah,YW,Vh,hi];try simp (disch:=omega) only [if_pos,if_neg,aw,az])
 | (refine hR _ _ ?_;clear hR R)|(refine hK _ _ ?_;clear hK K)|refine nx ?_
 | refine wn fun K hK=>?_
 | simp only [wS]
 | (refine bT (AG _) ?_;rintro _ _ ⟨rfl,rfl⟩ _ _)
 | refine wb ?_|refine wr ?_|refine wk ?_|refine we ?_|refine ws ?_|refine wq ?_
 | (refine wc rfl (fun hc=>?_) (fun hc=>?_)<;>(try simp at hc)<;>(try omega))
 | (refine ib (fun hc=>?_) (fun hc=>?_)<;>(try omega)<;>(try simp (disch:=omega) only [if_pos,if_neg])))
 obtain⟨CV,VX⟩:∃CV:List Value,CV=[.int .i64 aQ,.int .i64 an,.int .i64 base,.int .i64 n0,.int .i64 n1,.int .i64 n2,.int .i64 n3,.int .i64 reads,.int .i64 bN,.int .i64 ai,.int .i64 av,.int .i64 ax,.bool aK]:=⟨_,rfl⟩
 have iV:=hw.alloc (.cells CV true 1)
 have ij:=hS.alloc hw (.cells CV true 1)
 rw [VX] at iV ij
 refine bT (RS _ _ iV (ak.mk ij)) ?_
 rintro v A2 ⟨vh,vn,rfl,VU⟩ kl _
 repeat (first|(refine hR _ _ ?_;clear hR R)|(refine jx (fun R hR=>?_);simp)|refine WN ?_|(refine hK _ _ ?_;clear hK K))
 have ke:bz A2 (au .u64 vh (eH n0 n1)*(au .u64 vn (eQ n0 n1)*(pt A.next (.cells CV true 1)*(R*F)))):=by
  subst VX
  have:=VU
  simp only [ak,aR,It.hp,dg] at this
  exact this
 have U1:∃o c,vn=.slice o nn c:=by
  obtain⟨o,c,h,_⟩:=(au.is ke.right).dJ
  rw [W7] at h
  exact⟨o,c,h⟩
 obtain⟨B,hB⟩:∃B,B=au .u64 vh (eH n0 n1)*(au .u64 vn (eQ n0 n1)*(pt A.next (.cells CV true 1)*(R*F))):=⟨_,rfl⟩
 refine dI (L7 (by kernel_rfl) (by decide +kernel) (aF.G cx nn no nt vh vn B) (aF.An (.slice oi cx.length ci) vh vn A.next nn no nt) ?_ ?_ ?_ ?_ ?_)
 · intro S i val v hc hi
   have c6:=hc 6 5 (by decide +kernel)
   have ZV:=hc 10 9 (by decide +kernel)
   have ZU:=hc 12 11 (by decide +kernel)
   have ZT:=hc 14 13 (by decide +kernel)
   have ZS:=hc 16 15 (by decide +kernel)
   have ZR:=hc 19 18 (by decide +kernel)
   have hv:∀k,S k=true→bY val i v k=val k:=fun k hk=>by
    have:k≠i:=fun e=>by rw [e,hi] at hk;cases hk
    simp [bY,this]
   have AE:aF.fS S (bY val i v) vh vn=aF.fS S val vh vn:=by
    funext key
    unfold aF.fS
    have e:∀p k,(S p=true→S k=true)→(if S p=true∧S k=true then some (bY val i v k) else none)=if S p=true∧S k=true then some (val k) else none:=fun p k _=>by
     split
     · rename_i h;rw [hv k h.2]
     · rfl
    rw [e 6 5 c6,e 10 9 ZV,e 12 11 ZU,e 14 13 ZT,e 16 15 ZS,e 19 18 ZR]
   refine aF.NZ ?_ ?_ (fun k _=>⟨rfl,hv k⟩)
   · unfold aF.gK
     rw [AE]
     split
     · rename_i h;rw [hv 26 h]
     · split
       · rename_i h;rw [hv 25 h]
       · split
         · rename_i h;rw [hv 24 h]
         · split
           · rename_i h;rw [hv 0 h]
           · rfl
   · unfold aF.eX
     split
     · rename_i h;rw [hv 5 h]
     · split
       · rename_i h;rw [hv 2 h]
       · rfl
 · intro S i j val v hc hi hj
   have ZQ:=hc 27 26 (by decide +kernel)
   have hv:∀k,S k=true→bY val i v k=val k:=fun k hk=>by
    have:k≠i:=fun e=>by rw [e,hi] at hk;cases hk
    simp [bY,this]
   have WW:=hv j hj
   unfold aF.An
   split<;>intro h<;>first|(rw [WW,hv 26 (ZQ hj)];exact h)|(simp only [WW];exact h)|trivial
 · intro val
   have e:aF.G cx nn no nt vh vn B (fun _=>false) val=B:=by
    simp [aF.G,aF.gK,aF.eX,aF.pc,hQ]
   rw [e,hB]
   exact ke
 · intro i dO S val a A3 ot iq cX GI hs
   have o1:a 1=.int .i64 (nt:Int):=by rw [cX.eo 1 (by decide +kernel)];simp
   have o2:a 2=.slice oi cx.length ci:=by rw [cX.eo 2 (by decide +kernel)];simp
   have o3:a 3=.pointer (some ⟨A.next,0,none⟩):=by rw [cX.eo 3 (by decide +kernel)];simp
   have o9:a 9=vh:=by rw [cX.eo 9 (by decide +kernel)];simp
   have qr:a 10=vn:=by rw [cX.eo 10 (by decide +kernel)];simp
   have dU:∀k j,sE _ k j=true→S j=false→S k=false:=fun k j h hj=>by
    cases hk:S k
    · rfl
    · have:=cX.Ha k j h hk
      rw [hj] at this
      cases this
   have Xq:bz A3 (B*(aF.gK S val vh vn*(aF.eX S val cx nn*(aF.pc (S 9) (au .u64 (val 9) (List.replicate no 0))*(aF.pc (S 11) (au .u64 (val 11) (List.replicate 1 0))*(aF.pc (S 13) (au .u64 (val 13) (List.replicate 1 0)) *
    (aF.pc (S 15) (au .u64 (val 15) (List.replicate 1 0))*aF.pc (S 18) (au .u64 (val 18) (List.replicate nt 0))))))))):=hs.dH (by unfold aF.G;ac_rfl)
   obtain h|h|h|h|h|h|h|h|h|h|h|h|h|h|h|h|h|h|h|h|h|h|h|h|h|h|h|h|h:i=0∨i=1∨i=2∨i=3∨i=4∨i=5∨i=6∨i=7∨i=8∨i=9∨i=10∨i=11∨i=12∨i=13∨i=14∨i=15∨i=16∨i=17∨i=18∨i=19∨i=20∨i=21∨i=22∨i=23∨i=24∨i=25∨i=26∨i=27∨i=28:=by
    have:i<29:=dO
    omega
   all_goals subst h
   ·
    have qo:=dU 24 0 (by decide +kernel) ot
    have oV:=dU 25 24 (by decide +kernel) qo
    have tG:=dU 26 25 (by decide +kernel) oV
    have s6:=dU 6 0 (by decide +kernel) ot
    have Yb:=dU 10 0 (by decide +kernel) ot
    have Ya:=dU 12 0 (by decide +kernel) ot
    have X9:=dU 14 0 (by decide +kernel) ot
    have X8:=dU 16 0 (by decide +kernel) ot
    have X7:=dU 19 0 (by decide +kernel) ot
    have X6:=dU 21 0 (by decide +kernel) ot
    have X5:=dU 23 0 (by decide +kernel) ot
    have hk:aF.G cx nn no nt vh vn B (cd S 0) (bY val 0 (.map (some A3.next)))=fy .i64 A3.next (fun _=>none)*aF.G cx nn no nt vh vn B S val:=by
     have hf:aF.fS (cd S 0) (bY val 0 (.map (some A3.next))) vh vn=fun _=>none:=by funext key;simp [aF.fS,cd,s6,Yb,Ya,X9,X8,X7,X6,X5]
     simp [aF.G,aF.gK,aF.eX,aF.pc,hf]
     simp [cd,bY,qo,oV,tG,ot,aF.zP,hQ]
    simp [jR,hk]
    exact⟨⟨A3.next,by simp [bY]⟩,fy.kh hs GI⟩
   ·
    have hk:∀v,aF.G cx nn no nt vh vn B (cd S 1) (bY val 1 v)=aF.G cx nn no nt vh vn B S val:=fun v=>by
     have hf:aF.fS (cd S 1) (bY val 1 v) vh vn=aF.fS S val vh vn:=by funext key;simp [aF.fS,cd,bY]
     simp [aF.G,aF.gK,aF.eX,aF.pc,hf]
     simp [cd,bY]
    simp [jR,o2,hk]
    first|exact⟨by simp [aF.An,bY],hs⟩|(simp [aF.An,bY];exact hs)
   ·
    have s5:=dU 5 2 (by decide +kernel) ot
    have v1:a 33=.slice oi cx.length ci:=by rw [cX.jJ 1 33 (by decide +kernel) (iq 1 (by decide +kernel))];exact cX.nJ 1 (iq 1 (by decide +kernel))
    have ti:dB A3 .u64 (.slice oi cx.length ci) cx:=by
     have h':=Xq.left
     rw [hB] at h'
     have:=hR A3 _ h'.right.right.right
     exact this
    have hk:∀v,aF.G cx nn no nt vh vn B (cd S 2) (bY val 2 v)=au .u64 v cx*aF.G cx nn no nt vh vn B S val:=fun v=>by
     have hf:aF.fS (cd S 2) (bY val 2 v) vh vn=aF.fS S val vh vn:=by funext key;simp [aF.fS,cd,bY]
     simp [aF.G,aF.gK,aF.eX,aF.pc,hf]
     simp [cd,bY,s5,ot,hQ]
     ac_rfl
    simp [jR,v1]
    refine bT (gw _ cx A3 ti (by omega)) ?_
    rintro v A4 ⟨h1,h2⟩ _ _
    refine⟨trivial,?_⟩
    rw [hk]
    exact au.gG hs GI h2 h1
   ·
    have hk:∀v,aF.G cx nn no nt vh vn B (cd S 3) (bY val 3 v)=aF.G cx nn no nt vh vn B S val:=fun v=>by
     have hf:aF.fS (cd S 3) (bY val 3 v) vh vn=aF.fS S val vh vn:=by funext key;simp [aF.fS,cd,bY]
     simp [aF.G,aF.gK,aF.eX,aF.pc,hf]
     simp [cd,bY]
    simp [jR,qr,hk]
    first|exact⟨by simp [aF.An,bY],hs⟩|(simp [aF.An,bY];exact hs)
   ·
    have hk:∀v,aF.G cx nn no nt vh vn B (cd S 4) (bY val 4 v)=aF.G cx nn no nt vh vn B S val:=fun v=>by
     have hf:aF.fS (cd S 4) (bY val 4 v) vh vn=aF.fS S val vh vn:=by funext key;simp [aF.fS,cd,bY]
     simp [aF.G,aF.gK,aF.eX,aF.pc,hf]
     simp [cd,bY]
    have v4:a 35=vn:=by rw [cX.jJ 3 35 (by decide +kernel) (iq 3 (by decide +kernel))];exact cX.nJ 3 (iq 3 (by decide +kernel))
    obtain⟨on,cn,Yy⟩:=U1
    rw [Yy] at v4
    simp [jR,v4]
    exact⟨by simp [aF.An,bY],by rw [hk];exact hs⟩
   ·
    have s6:=dU 6 5 (by decide +kernel) ot
    have s2:=iq 2 (by decide +kernel)
    have v2:a 34=val 2:=cX.jJ 2 34 (by decide +kernel) s2
    have v4:a 36=.int .i64 ((nn:Nat):Int):=by rw [cX.jJ 4 36 (by decide +kernel) (iq 4 (by decide +kernel))];exact cX.nJ 4 (iq 4 (by decide +kernel))
    obtain⟨X,hX⟩:∃X,aF.G cx nn no nt vh vn B S val=au .u64 (val 2) cx*X∧∀v,aF.G cx nn no nt vh vn B (cd S 5) (bY val 5 v)=au .u64 v (cx++List.replicate nn 0)*X:=by
     refine⟨aF.gK S val vh vn*(aF.pc (S 9) (au .u64 (val 9) (List.replicate no 0))*(aF.pc (S 11) (au .u64 (val 11) (List.replicate 1 0))*(aF.pc (S 13) (au .u64 (val 13) (List.replicate 1 0)) *
      (aF.pc (S 15) (au .u64 (val 15) (List.replicate 1 0))*(aF.pc (S 18) (au .u64 (val 18) (List.replicate nt 0))*B))))),?_,fun v=>?_⟩
     · simp only [aF.G,aF.eX,ot,s2,if_true,Bool.false_eq_true,if_false]
       ac_rfl
     · have hf:aF.fS (cd S 5) (bY val 5 v) vh vn=aF.fS S val vh vn:=by funext key;simp [aF.fS,cd,bY,s6]
       simp only [aF.G,aF.gK,aF.eX,aF.pc,hf]
       simp only [cd,bY,Nat.reduceEqDiff,if_true,if_false]
       ac_rfl
    rw [hX.1] at hs
    obtain⟨v',A4,e1,e2,e3⟩:=au.NQ (P:=Tryz.prog) (t:=58) (u:=3) (kq:=.i64) nn Tryz.underlying58 Tryz.underlying3 Tryz.info45 Tryz.zero45 rfl hs (by omega) (by simp) GI
    simp [jR,v2,v4]
    try simp at e1
    simp [e1]
    rw [hX.2]
    exact⟨trivial,e2⟩
   ·
    have qo:=dU 24 6 (by decide +kernel) ot
    have oV:=dU 25 24 (by decide +kernel) qo
    have tG:=dU 26 25 (by decide +kernel) oV
    have s0:=iq 0 (by decide +kernel)
    have sp:=iq 5 (by decide +kernel)
    obtain⟨r,hr⟩:=cX.nJ 0 s0
    have v0:a 32=.map (some r):=by rw [cX.jJ 0 32 (by decide +kernel) s0];exact hr
    have vx:a 37=val 5:=cX.jJ 5 37 (by decide +kernel) sp
    obtain⟨X,EX,EW⟩:∃X,aF.G cx nn no nt vh vn B S val=fy .i64 r (aF.fS S val vh vn)*X∧∀v,aF.G cx nn no nt vh vn B (cd S 6) (bY val 6 v)=fy .i64 r (kr (aF.fS S val vh vn) 1 (val 5))*X:=by
     refine⟨(aF.eX S val cx nn*(aF.pc (S 9) (au .u64 (val 9) (List.replicate no 0))*(aF.pc (S 11) (au .u64 (val 11) (List.replicate 1 0))*(aF.pc (S 13) (au .u64 (val 13) (List.replicate 1 0)) *
      (aF.pc (S 15) (au .u64 (val 15) (List.replicate 1 0))*(aF.pc (S 18) (au .u64 (val 18) (List.replicate nt 0))*B)))))),?_,fun v=>?_⟩
     · simp only [aF.G,aF.gK,tG,oV,qo,s0,hr,aF.zP,if_true,Bool.false_eq_true,if_false]
     · have hf:aF.fS (cd S 6) (bY val 6 v) vh vn=kr (aF.fS S val vh vn) 1 (val 5):=by
        funext key
        simp only [aF.fS,cd,bY,kr,Nat.reduceEqDiff,if_true,if_false]
        by_cases hkey:key=1
        · subst hkey;simp [sp]
        · simp [hkey]
       simp only [aF.G,aF.gK,aF.eX,aF.pc,hf]
       simp only [cd,bY,tG,oV,qo,s0,hr,aF.zP,Nat.reduceEqDiff,if_true,if_false,Bool.false_eq_true]
    rw [EX] at hs
    obtain⟨A4,e1,e2,_⟩:=fy.qL (P:=Tryz.prog) (t:=135) hs Tryz.underlying135 Tryz.underlying3 1 (val 5)
    simp [-fk,jR,v0,vx,e1]
    rw [EW]
    exact⟨trivial,e2⟩
   ·
    have hk:∀v,aF.G cx nn no nt vh vn B (cd S 7) (bY val 7 v)=aF.G cx nn no nt vh vn B S val:=fun v=>by
     have hf:aF.fS (cd S 7) (bY val 7 v) vh vn=aF.fS S val vh vn:=by funext key;simp [aF.fS,cd,bY]
     simp [aF.G,aF.gK,aF.eX,aF.pc,hf]
     simp [cd,bY]
    simp [jR,o3,hk]
    first|exact⟨by simp [aF.An,bY],hs⟩|(simp [aF.An,bY];exact hs)
   ·
    have hk:∀v,aF.G cx nn no nt vh vn B (cd S 8) (bY val 8 v)=aF.G cx nn no nt vh vn B S val:=fun v=>by
     have hf:aF.fS (cd S 8) (bY val 8 v) vh vn=aF.fS S val vh vn:=by funext key;simp [aF.fS,cd,bY]
     simp [aF.G,aF.gK,aF.eX,aF.pc,hf]
     simp [cd,bY]
    have v8:a 38=.pointer (some ⟨A.next,1,none⟩):=by rw [cX.jJ 7 38 (by decide +kernel) (iq 7 (by decide +kernel))];exact cX.nJ 7 (iq 7 (by decide +kernel))
    have Zd:A3.bR A.next=some (.cells CV true 1):=by
     have h':=Xq.left
     rw [hB] at h'
     exact h'.right.right.bR
    simp [jR,v8,Zd,VX,AW.aa,hk,DL]
    first|exact⟨by simp [aF.An,bY],hs⟩|(simp [aF.An,bY];exact hs)
   ·
    have sI:=dU 10 9 (by decide +kernel) ot
    have vd:a 39=.int .i64 ((no:Nat):Int):=by rw [cX.jJ 8 39 (by decide +kernel) (iq 8 (by decide +kernel))];exact cX.nJ 8 (iq 8 (by decide +kernel))
    have hk:∀v,aF.G cx nn no nt vh vn B (cd S 9) (bY val 9 v)=au .u64 v (List.replicate no 0)*aF.G cx nn no nt vh vn B S val:=fun v=>by
     have hf:aF.fS (cd S 9) (bY val 9 v) vh vn=aF.fS S val vh vn:=by funext key;simp [aF.fS,cd,bY,sI]
     simp only [aF.G,aF.gK,aF.eX,aF.pc,hf]
     simp only [cd,bY,ot,Nat.reduceEqDiff,if_true,if_false,Bool.false_eq_true,hQ]
     ac_rfl
    obtain⟨v',A4,e1,e2,e3,_⟩:=au.KX (P:=Tryz.prog) (t:=58) (k1:=.i64) (k2:=.i64) no Tryz.underlying58 Tryz.info45 Tryz.zero45 rfl (by simp) (by omega) hs GI
    have NC:mv Tryz.prog A3 58 (.int .i64 (no:Int)) (.int .i64 (no:Int))=some (v',A4):=e1
    simp [-mv,jR,vd,NC]
    rw [hk]
    exact⟨trivial,e2⟩
   ·
    have qo:=dU 24 10 (by decide +kernel) ot
    have oV:=dU 25 24 (by decide +kernel) qo
    have tG:=dU 26 25 (by decide +kernel) oV
    have s0:=iq 0 (by decide +kernel)
    have sp:=iq 9 (by decide +kernel)
    obtain⟨r,hr⟩:=cX.nJ 0 s0
    have v0:a 32=.map (some r):=by rw [cX.jJ 0 32 (by decide +kernel) s0];exact hr
    have vx:a 40=val 9:=cX.jJ 9 40 (by decide +kernel) sp
    obtain⟨X,EX,EW⟩:∃X,aF.G cx nn no nt vh vn B S val=fy .i64 r (aF.fS S val vh vn)*X∧∀v,aF.G cx nn no nt vh vn B (cd S 10) (bY val 10 v)=fy .i64 r (kr (aF.fS S val vh vn) 2 (val 9))*X:=by
     refine⟨(aF.eX S val cx nn*(aF.pc (S 9) (au .u64 (val 9) (List.replicate no 0))*(aF.pc (S 11) (au .u64 (val 11) (List.replicate 1 0))*(aF.pc (S 13) (au .u64 (val 13) (List.replicate 1 0)) *
      (aF.pc (S 15) (au .u64 (val 15) (List.replicate 1 0))*(aF.pc (S 18) (au .u64 (val 18) (List.replicate nt 0))*B)))))),?_,fun v=>?_⟩
     · simp only [aF.G,aF.gK,tG,oV,qo,s0,hr,aF.zP,if_true,Bool.false_eq_true,if_false]
     · have hf:aF.fS (cd S 10) (bY val 10 v) vh vn=kr (aF.fS S val vh vn) 2 (val 9):=by
        funext key
        simp only [aF.fS,cd,bY,kr,Nat.reduceEqDiff,if_true,if_false]
        by_cases hkey:key=2
        · subst hkey;simp [sp]
        · simp [hkey]
       simp only [aF.G,aF.gK,aF.eX,aF.pc,hf]
       simp only [cd,bY,tG,oV,qo,s0,hr,aF.zP,Nat.reduceEqDiff,if_true,if_false,Bool.false_eq_true]
    rw [EX] at hs
    obtain⟨A4,e1,e2,_⟩:=fy.qL (P:=Tryz.prog) (t:=135) hs Tryz.underlying135 Tryz.underlying3 2 (val 9)
    simp [-fk,jR,v0,vx,e1]
    rw [EW]
    exact⟨trivial,e2⟩
   ·
    have sI:=dU 12 11 (by decide +kernel) ot
    have hk:∀v,aF.G cx nn no nt vh vn B (cd S 11) (bY val 11 v)=au .u64 v (List.replicate 1 0)*aF.G cx nn no nt vh vn B S val:=fun v=>by
     have hf:aF.fS (cd S 11) (bY val 11 v) vh vn=aF.fS S val vh vn:=by funext key;simp [aF.fS,cd,bY,sI]
     simp only [aF.G,aF.gK,aF.eX,aF.pc,hf]
     simp only [cd,bY,ot,Nat.reduceEqDiff,if_true,if_false,Bool.false_eq_true,hQ]
     ac_rfl
    obtain⟨v',A4,e1,e2,e3,_⟩:=au.KX (P:=Tryz.prog) (t:=58) (k1:=.i64) (k2:=.i64) 1 Tryz.underlying58 Tryz.info45 Tryz.zero45 rfl (by simp) (by omega) hs GI
    have NC:mv Tryz.prog A3 58 (.int .i64 1) (.int .i64 1)=some (v',A4):=e1
    simp [-mv,jR,NC]
    rw [hk]
    exact⟨trivial,e2⟩
   ·
    have qo:=dU 24 12 (by decide +kernel) ot
    have oV:=dU 25 24 (by decide +kernel) qo
    have tG:=dU 26 25 (by decide +kernel) oV
    have s0:=iq 0 (by decide +kernel)
    have sp:=iq 11 (by decide +kernel)
    obtain⟨r,hr⟩:=cX.nJ 0 s0
    have v0:a 32=.map (some r):=by rw [cX.jJ 0 32 (by decide +kernel) s0];exact hr
    have vx:a 41=val 11:=cX.jJ 11 41 (by decide +kernel) sp
    obtain⟨X,EX,EW⟩:∃X,aF.G cx nn no nt vh vn B S val=fy .i64 r (aF.fS S val vh vn)*X∧∀v,aF.G cx nn no nt vh vn B (cd S 12) (bY val 12 v)=fy .i64 r (kr (aF.fS S val vh vn) 3 (val 11))*X:=by
     refine⟨(aF.eX S val cx nn*(aF.pc (S 9) (au .u64 (val 9) (List.replicate no 0))*(aF.pc (S 11) (au .u64 (val 11) (List.replicate 1 0))*(aF.pc (S 13) (au .u64 (val 13) (List.replicate 1 0)) *
      (aF.pc (S 15) (au .u64 (val 15) (List.replicate 1 0))*(aF.pc (S 18) (au .u64 (val 18) (List.replicate nt 0))*B)))))),?_,fun v=>?_⟩
     · simp only [aF.G,aF.gK,tG,oV,qo,s0,hr,aF.zP,if_true,Bool.false_eq_true,if_false]
     · have hf:aF.fS (cd S 12) (bY val 12 v) vh vn=kr (aF.fS S val vh vn) 3 (val 11):=by
        funext key
        simp only [aF.fS,cd,bY,kr,Nat.reduceEqDiff,if_true,if_false]
        by_cases hkey:key=3
        · subst hkey;simp [sp]
        · simp [hkey]
       simp only [aF.G,aF.gK,aF.eX,aF.pc,hf]
       simp only [cd,bY,tG,oV,qo,s0,hr,aF.zP,Nat.reduceEqDiff,if_true,if_false,Bool.false_eq_true]
    rw [EX] at hs
    obtain⟨A4,e1,e2,_⟩:=fy.qL (P:=Tryz.prog) (t:=135) hs Tryz.underlying135 Tryz.underlying3 3 (val 11)
    simp [-fk,jR,v0,vx,e1]
    rw [EW]
    exact⟨trivial,e2⟩
   ·
    have sI:=dU 14 13 (by decide +kernel) ot
    have hk:∀v,aF.G cx nn no nt vh vn B (cd S 13) (bY val 13 v)=au .u64 v (List.replicate 1 0)*aF.G cx nn no nt vh vn B S val:=fun v=>by
     have hf:aF.fS (cd S 13) (bY val 13 v) vh vn=aF.fS S val vh vn:=by funext key;simp [aF.fS,cd,bY,sI]
     simp only [aF.G,aF.gK,aF.eX,aF.pc,hf]
     simp only [cd,bY,ot,Nat.reduceEqDiff,if_true,if_false,Bool.false_eq_true,hQ]
     ac_rfl
    obtain⟨v',A4,e1,e2,e3,_⟩:=au.KX (P:=Tryz.prog) (t:=58) (k1:=.i64) (k2:=.i64) 1 Tryz.underlying58 Tryz.info45 Tryz.zero45 rfl (by simp) (by omega) hs GI
    have NC:mv Tryz.prog A3 58 (.int .i64 1) (.int .i64 1)=some (v',A4):=e1
    simp [-mv,jR,NC]
    rw [hk]
    exact⟨trivial,e2⟩
   ·
    have qo:=dU 24 14 (by decide +kernel) ot
    have oV:=dU 25 24 (by decide +kernel) qo
    have tG:=dU 26 25 (by decide +kernel) oV
    have s0:=iq 0 (by decide +kernel)
    have sp:=iq 13 (by decide +kernel)
    obtain⟨r,hr⟩:=cX.nJ 0 s0
    have v0:a 32=.map (some r):=by rw [cX.jJ 0 32 (by decide +kernel) s0];exact hr
    have vx:a 42=val 13:=cX.jJ 13 42 (by decide +kernel) sp
    obtain⟨X,EX,EW⟩:∃X,aF.G cx nn no nt vh vn B S val=fy .i64 r (aF.fS S val vh vn)*X∧∀v,aF.G cx nn no nt vh vn B (cd S 14) (bY val 14 v)=fy .i64 r (kr (aF.fS S val vh vn) 4 (val 13))*X:=by
     refine⟨(aF.eX S val cx nn*(aF.pc (S 9) (au .u64 (val 9) (List.replicate no 0))*(aF.pc (S 11) (au .u64 (val 11) (List.replicate 1 0))*(aF.pc (S 13) (au .u64 (val 13) (List.replicate 1 0)) *
      (aF.pc (S 15) (au .u64 (val 15) (List.replicate 1 0))*(aF.pc (S 18) (au .u64 (val 18) (List.replicate nt 0))*B)))))),?_,fun v=>?_⟩
     · simp only [aF.G,aF.gK,tG,oV,qo,s0,hr,aF.zP,if_true,Bool.false_eq_true,if_false]
     · have hf:aF.fS (cd S 14) (bY val 14 v) vh vn=kr (aF.fS S val vh vn) 4 (val 13):=by
        funext key
        simp only [aF.fS,cd,bY,kr,Nat.reduceEqDiff,if_true,if_false]
        by_cases hkey:key=4
        · subst hkey;simp [sp]
        · simp [hkey]
       simp only [aF.G,aF.gK,aF.eX,aF.pc,hf]
       simp only [cd,bY,tG,oV,qo,s0,hr,aF.zP,Nat.reduceEqDiff,if_true,if_false,Bool.false_eq_true]
    rw [EX] at hs
    obtain⟨A4,e1,e2,_⟩:=fy.qL (P:=Tryz.prog) (t:=135) hs Tryz.underlying135 Tryz.underlying3 4 (val 13)
    simp [-fk,jR,v0,vx,e1]
    rw [EW]
    exact⟨trivial,e2⟩
   ·
    have sI:=dU 16 15 (by decide +kernel) ot
    have hk:∀v,aF.G cx nn no nt vh vn B (cd S 15) (bY val 15 v)=au .u64 v (List.replicate 1 0)*aF.G cx nn no nt vh vn B S val:=fun v=>by
     have hf:aF.fS (cd S 15) (bY val 15 v) vh vn=aF.fS S val vh vn:=by funext key;simp [aF.fS,cd,bY,sI]
     simp only [aF.G,aF.gK,aF.eX,aF.pc,hf]
     simp only [cd,bY,ot,Nat.reduceEqDiff,if_true,if_false,Bool.false_eq_true,hQ]
     ac_rfl
    obtain⟨v',A4,e1,e2,e3,_⟩:=au.KX (P:=Tryz.prog) (t:=58) (k1:=.i64) (k2:=.i64) 1 Tryz.underlying58 Tryz.info45 Tryz.zero45 rfl (by simp) (by omega) hs GI
    have NC:mv Tryz.prog A3 58 (.int .i64 1) (.int .i64 1)=some (v',A4):=e1
    simp [-mv,jR,NC]
    rw [hk]
    exact⟨trivial,e2⟩
   ·
    have qo:=dU 24 16 (by decide +kernel) ot
    have oV:=dU 25 24 (by decide +kernel) qo
    have tG:=dU 26 25 (by decide +kernel) oV
    have s0:=iq 0 (by decide +kernel)
    have sp:=iq 15 (by decide +kernel)
    obtain⟨r,hr⟩:=cX.nJ 0 s0
    have v0:a 32=.map (some r):=by rw [cX.jJ 0 32 (by decide +kernel) s0];exact hr
    have vx:a 43=val 15:=cX.jJ 15 43 (by decide +kernel) sp
    obtain⟨X,EX,EW⟩:∃X,aF.G cx nn no nt vh vn B S val=fy .i64 r (aF.fS S val vh vn)*X∧∀v,aF.G cx nn no nt vh vn B (cd S 16) (bY val 16 v)=fy .i64 r (kr (aF.fS S val vh vn) 5 (val 15))*X:=by
     refine⟨(aF.eX S val cx nn*(aF.pc (S 9) (au .u64 (val 9) (List.replicate no 0))*(aF.pc (S 11) (au .u64 (val 11) (List.replicate 1 0))*(aF.pc (S 13) (au .u64 (val 13) (List.replicate 1 0)) *
      (aF.pc (S 15) (au .u64 (val 15) (List.replicate 1 0))*(aF.pc (S 18) (au .u64 (val 18) (List.replicate nt 0))*B)))))),?_,fun v=>?_⟩
     · simp only [aF.G,aF.gK,tG,oV,qo,s0,hr,aF.zP,if_true,Bool.false_eq_true,if_false]
     · have hf:aF.fS (cd S 16) (bY val 16 v) vh vn=kr (aF.fS S val vh vn) 5 (val 15):=by
        funext key
        simp only [aF.fS,cd,bY,kr,Nat.reduceEqDiff,if_true,if_false]
        by_cases hkey:key=5
        · subst hkey;simp [sp]
        · simp [hkey]
       simp only [aF.G,aF.gK,aF.eX,aF.pc,hf]
       simp only [cd,bY,tG,oV,qo,s0,hr,aF.zP,Nat.reduceEqDiff,if_true,if_false,Bool.false_eq_true]
    rw [EX] at hs
    obtain⟨A4,e1,e2,_⟩:=fy.qL (P:=Tryz.prog) (t:=135) hs Tryz.underlying135 Tryz.underlying3 5 (val 15)
    simp [-fk,jR,v0,vx,e1]
    rw [EW]
    exact⟨trivial,e2⟩
   ·
    have hk:∀v,aF.G cx nn no nt vh vn B (cd S 17) (bY val 17 v)=aF.G cx nn no nt vh vn B S val:=fun v=>by
     have hf:aF.fS (cd S 17) (bY val 17 v) vh vn=aF.fS S val vh vn:=by funext key;simp [aF.fS,cd,bY]
     simp [aF.G,aF.gK,aF.eX,aF.pc,hf]
     simp [cd,bY]
    simp [jR,o1,hk]
    first|exact⟨by simp [aF.An,bY],hs⟩|(simp [aF.An,bY];exact hs)
   ·
    have sI:=dU 19 18 (by decide +kernel) ot
    have vd:a 44=.int .i64 ((nt:Nat):Int):=by rw [cX.jJ 17 44 (by decide +kernel) (iq 17 (by decide +kernel))];exact cX.nJ 17 (iq 17 (by decide +kernel))
    have hk:∀v,aF.G cx nn no nt vh vn B (cd S 18) (bY val 18 v)=au .u64 v (List.replicate nt 0)*aF.G cx nn no nt vh vn B S val:=fun v=>by
     have hf:aF.fS (cd S 18) (bY val 18 v) vh vn=aF.fS S val vh vn:=by funext key;simp [aF.fS,cd,bY,sI]
     simp only [aF.G,aF.gK,aF.eX,aF.pc,hf]
     simp only [cd,bY,ot,Nat.reduceEqDiff,if_true,if_false,Bool.false_eq_true,hQ]
     ac_rfl
    obtain⟨v',A4,e1,e2,e3,_⟩:=au.KX (P:=Tryz.prog) (t:=58) (k1:=.i64) (k2:=.i64) nt Tryz.underlying58 Tryz.info45 Tryz.zero45 rfl (by simp) (by omega) hs GI
    have NC:mv Tryz.prog A3 58 (.int .i64 (nt:Int)) (.int .i64 (nt:Int))=some (v',A4):=e1
    simp [-mv,jR,vd,NC]
    rw [hk]
    exact⟨trivial,e2⟩
   ·
    have qo:=dU 24 19 (by decide +kernel) ot
    have oV:=dU 25 24 (by decide +kernel) qo
    have tG:=dU 26 25 (by decide +kernel) oV
    have s0:=iq 0 (by decide +kernel)
    have sp:=iq 18 (by decide +kernel)
    obtain⟨r,hr⟩:=cX.nJ 0 s0
    have v0:a 32=.map (some r):=by rw [cX.jJ 0 32 (by decide +kernel) s0];exact hr
    have vx:a 45=val 18:=cX.jJ 18 45 (by decide +kernel) sp
    obtain⟨X,EX,EW⟩:∃X,aF.G cx nn no nt vh vn B S val=fy .i64 r (aF.fS S val vh vn)*X∧∀v,aF.G cx nn no nt vh vn B (cd S 19) (bY val 19 v)=fy .i64 r (kr (aF.fS S val vh vn) 6 (val 18))*X:=by
     refine⟨(aF.eX S val cx nn*(aF.pc (S 9) (au .u64 (val 9) (List.replicate no 0))*(aF.pc (S 11) (au .u64 (val 11) (List.replicate 1 0))*(aF.pc (S 13) (au .u64 (val 13) (List.replicate 1 0)) *
      (aF.pc (S 15) (au .u64 (val 15) (List.replicate 1 0))*(aF.pc (S 18) (au .u64 (val 18) (List.replicate nt 0))*B)))))),?_,fun v=>?_⟩
     · simp only [aF.G,aF.gK,tG,oV,qo,s0,hr,aF.zP,if_true,Bool.false_eq_true,if_false]
     · have hf:aF.fS (cd S 19) (bY val 19 v) vh vn=kr (aF.fS S val vh vn) 6 (val 18):=by
        funext key
        simp only [aF.fS,cd,bY,kr,Nat.reduceEqDiff,if_true,if_false]
        by_cases hkey:key=6
        · subst hkey;simp [sp]
        · simp [hkey]
       simp only [aF.G,aF.gK,aF.eX,aF.pc,hf]
       simp only [cd,bY,tG,oV,qo,s0,hr,aF.zP,Nat.reduceEqDiff,if_true,if_false,Bool.false_eq_true]
    rw [EX] at hs
    obtain⟨A4,e1,e2,_⟩:=fy.qL (P:=Tryz.prog) (t:=135) hs Tryz.underlying135 Tryz.underlying3 6 (val 18)
    simp [-fk,jR,v0,vx,e1]
    rw [EW]
    exact⟨trivial,e2⟩
   ·
    have hk:∀v,aF.G cx nn no nt vh vn B (cd S 20) (bY val 20 v)=aF.G cx nn no nt vh vn B S val:=fun v=>by
     have hf:aF.fS (cd S 20) (bY val 20 v) vh vn=aF.fS S val vh vn:=by funext key;simp [aF.fS,cd,bY]
     simp [aF.G,aF.gK,aF.eX,aF.pc,hf]
     simp [cd,bY]
    simp [jR,o9,hk]
    first|exact⟨by simp [aF.An,bY],hs⟩|(simp [aF.An,bY];exact hs)
   ·
    have qo:=dU 24 21 (by decide +kernel) ot
    have oV:=dU 25 24 (by decide +kernel) qo
    have tG:=dU 26 25 (by decide +kernel) oV
    have s0:=iq 0 (by decide +kernel)
    have sp:=iq 20 (by decide +kernel)
    obtain⟨r,hr⟩:=cX.nJ 0 s0
    have v0:a 32=.map (some r):=by rw [cX.jJ 0 32 (by decide +kernel) s0];exact hr
    have vx:a 46=vh:=by rw [cX.jJ 20 46 (by decide +kernel) sp];exact cX.nJ 20 sp
    obtain⟨X,EX,EW⟩:∃X,aF.G cx nn no nt vh vn B S val=fy .i64 r (aF.fS S val vh vn)*X∧∀v,aF.G cx nn no nt vh vn B (cd S 21) (bY val 21 v)=fy .i64 r (kr (aF.fS S val vh vn) 7 vh)*X:=by
     refine⟨(aF.eX S val cx nn*(aF.pc (S 9) (au .u64 (val 9) (List.replicate no 0))*(aF.pc (S 11) (au .u64 (val 11) (List.replicate 1 0))*(aF.pc (S 13) (au .u64 (val 13) (List.replicate 1 0)) *
      (aF.pc (S 15) (au .u64 (val 15) (List.replicate 1 0))*(aF.pc (S 18) (au .u64 (val 18) (List.replicate nt 0))*B)))))),?_,fun v=>?_⟩
     · simp only [aF.G,aF.gK,tG,oV,qo,s0,hr,aF.zP,if_true,Bool.false_eq_true,if_false]
     · have hf:aF.fS (cd S 21) (bY val 21 v) vh vn=kr (aF.fS S val vh vn) 7 vh:=by
        funext key
        simp only [aF.fS,cd,bY,kr,Nat.reduceEqDiff,if_true,if_false]
        by_cases hkey:key=7
        · subst hkey;simp [sp]
        · simp [hkey]
       simp only [aF.G,aF.gK,aF.eX,aF.pc,hf]
       simp only [cd,bY,tG,oV,qo,s0,hr,aF.zP,Nat.reduceEqDiff,if_true,if_false,Bool.false_eq_true]
    rw [EX] at hs
    obtain⟨A4,e1,e2,_⟩:=fy.qL (P:=Tryz.prog) (t:=135) hs Tryz.underlying135 Tryz.underlying3 7 vh
    simp [-fk,jR,v0,vx,e1]
    rw [EW]
    exact⟨trivial,e2⟩
   ·
    have hk:∀v,aF.G cx nn no nt vh vn B (cd S 22) (bY val 22 v)=aF.G cx nn no nt vh vn B S val:=fun v=>by
     have hf:aF.fS (cd S 22) (bY val 22 v) vh vn=aF.fS S val vh vn:=by funext key;simp [aF.fS,cd,bY]
     simp [aF.G,aF.gK,aF.eX,aF.pc,hf]
     simp [cd,bY]
    simp [jR,qr,hk]
    first|exact⟨by simp [aF.An,bY],hs⟩|(simp [aF.An,bY];exact hs)
   ·
    have qo:=dU 24 23 (by decide +kernel) ot
    have oV:=dU 25 24 (by decide +kernel) qo
    have tG:=dU 26 25 (by decide +kernel) oV
    have s0:=iq 0 (by decide +kernel)
    have sp:=iq 22 (by decide +kernel)
    obtain⟨r,hr⟩:=cX.nJ 0 s0
    have v0:a 32=.map (some r):=by rw [cX.jJ 0 32 (by decide +kernel) s0];exact hr
    have vx:a 47=vn:=by rw [cX.jJ 22 47 (by decide +kernel) sp];exact cX.nJ 22 sp
    obtain⟨X,EX,EW⟩:∃X,aF.G cx nn no nt vh vn B S val=fy .i64 r (aF.fS S val vh vn)*X∧∀v,aF.G cx nn no nt vh vn B (cd S 23) (bY val 23 v)=fy .i64 r (kr (aF.fS S val vh vn) 8 vn)*X:=by
     refine⟨(aF.eX S val cx nn*(aF.pc (S 9) (au .u64 (val 9) (List.replicate no 0))*(aF.pc (S 11) (au .u64 (val 11) (List.replicate 1 0))*(aF.pc (S 13) (au .u64 (val 13) (List.replicate 1 0)) *
      (aF.pc (S 15) (au .u64 (val 15) (List.replicate 1 0))*(aF.pc (S 18) (au .u64 (val 18) (List.replicate nt 0))*B)))))),?_,fun v=>?_⟩
     · simp only [aF.G,aF.gK,tG,oV,qo,s0,hr,aF.zP,if_true,Bool.false_eq_true,if_false]
     · have hf:aF.fS (cd S 23) (bY val 23 v) vh vn=kr (aF.fS S val vh vn) 8 vn:=by
        funext key
        simp only [aF.fS,cd,bY,kr,Nat.reduceEqDiff,if_true,if_false]
        by_cases hkey:key=8
        · subst hkey;simp [sp]
        · simp [hkey]
       simp only [aF.G,aF.gK,aF.eX,aF.pc,hf]
       simp only [cd,bY,tG,oV,qo,s0,hr,aF.zP,Nat.reduceEqDiff,if_true,if_false,Bool.false_eq_true]
    rw [EX] at hs
    obtain⟨A4,e1,e2,_⟩:=fy.qL (P:=Tryz.prog) (t:=135) hs Tryz.underlying135 Tryz.underlying3 8 vn
    simp [-fk,jR,v0,vx,e1]
    rw [EW]
    exact⟨trivial,e2⟩
   ·
    have oV:=dU 25 24 (by decide +kernel) ot
    have tG:=dU 26 25 (by decide +kernel) oV
    have s0:=iq 0 (by decide +kernel)
    obtain⟨r,hr⟩:=cX.nJ 0 s0
    have v0:a 32=.map (some r):=by rw [cX.jJ 0 32 (by decide +kernel) s0];exact hr
    have hk:aF.G cx nn no nt vh vn B (cd S 24) (bY val 24 (.map (some r)))=aF.G cx nn no nt vh vn B S val:=by
     have hf:aF.fS (cd S 24) (bY val 24 (.map (some r))) vh vn=aF.fS S val vh vn:=by funext key;simp [aF.fS,cd,bY]
     simp only [aF.G,aF.gK,aF.eX,aF.pc,hf]
     simp only [cd,bY,tG,oV,ot,s0,hr,aF.zP,Nat.reduceEqDiff,if_true,if_false,Bool.false_eq_true]
    simp [jR,v0,hk]
    exact⟨⟨r,by simp [bY]⟩,hs⟩
   ·
    have tG:=dU 26 25 (by decide +kernel) ot
    have qo:=iq 24 (by decide +kernel)
    obtain⟨r,hr⟩:=cX.nJ 24 qo
    have v0:a 48=.map (some r):=by rw [cX.jJ 24 48 (by decide +kernel) qo];exact hr
    have hk:aF.G cx nn no nt vh vn B (cd S 25) (bY val 25 (.agg #[.map (some r)]))=aF.G cx nn no nt vh vn B S val:=by
     have hf:aF.fS (cd S 25) (bY val 25 (.agg #[.map (some r)])) vh vn=aF.fS S val vh vn:=by funext key;simp [aF.fS,cd,bY]
     simp only [aF.G,aF.gK,aF.eX,aF.pc,hf]
     simp only [cd,bY,tG,ot,qo,hr,aF.zP,aF.Us,Nat.reduceEqDiff,if_true,if_false,Bool.false_eq_true]
     rfl
    simp [jR,v0,hk]
    exact⟨⟨r,by simp [bY]⟩,hs⟩
   ·
    have oV:=iq 25 (by decide +kernel)
    obtain⟨r,hr⟩:=cX.nJ 25 oV
    have v0:a 49=.agg #[.map (some r)]:=by rw [cX.jJ 25 49 (by decide +kernel) oV];exact hr
    obtain⟨X,EX,EW⟩:∃X,aF.G cx nn no nt vh vn B S val=fy .i64 r (aF.fS S val vh vn)*X∧aF.G cx nn no nt vh vn B (cd S 26) (bY val 26 (.pointer (some ⟨A3.next,0,none⟩))) =
     (nI fun r=>pt A3.next (.cells [.map (some r)] true 1)*fy .i64 r (aF.fS S val vh vn))*X:=by
     refine⟨(aF.eX S val cx nn*(aF.pc (S 9) (au .u64 (val 9) (List.replicate no 0))*(aF.pc (S 11) (au .u64 (val 11) (List.replicate 1 0))*(aF.pc (S 13) (au .u64 (val 13) (List.replicate 1 0)) *
      (aF.pc (S 15) (au .u64 (val 15) (List.replicate 1 0))*(aF.pc (S 18) (au .u64 (val 18) (List.replicate nt 0))*B)))))),?_,?_⟩
     · simp only [aF.G,aF.gK,ot,oV,hr,aF.Us,if_true,Bool.false_eq_true,if_false]
       rfl
     · have hf:aF.fS (cd S 26) (bY val 26 (.pointer (some ⟨A3.next,0,none⟩))) vh vn=aF.fS S val vh vn:=by funext key;simp [aF.fS,cd,bY]
       simp only [aF.G,aF.gK,aF.eX,aF.pc,hf]
       simp only [cd,bY,aF.Wa,Nat.reduceEqDiff,if_true,if_false]
    rw [EX] at hs
    simp [jR,v0]
    rw [EW]
    refine⟨⟨A3.next,by simp [bY]⟩,?_⟩
    rw [bz.ex]
    refine⟨r,?_⟩
    rw [HP.cl]
    exact hs.alloc GI _
   ·
    have hk:∀v,aF.G cx nn no nt vh vn B (cd S 27) (bY val 27 v)=aF.G cx nn no nt vh vn B S val:=fun v=>by
     have hf:aF.fS (cd S 27) (bY val 27 v) vh vn=aF.fS S val vh vn:=by funext key;simp [aF.fS,cd,bY]
     simp [aF.G,aF.gK,aF.eX,aF.pc,hf]
     simp [cd,bY]
    have X0:a 50=val 26:=cX.jJ 26 50 (by decide +kernel) (iq 26 (by decide +kernel))
    simp [jR,X0,hk]
    first|exact⟨by simp [aF.An,bY],hs⟩|(simp [aF.An,bY];exact hs)
   ·
    have hk:∀v,aF.G cx nn no nt vh vn B (cd S 28) (bY val 28 v)=aF.G cx nn no nt vh vn B S val:=fun v=>by
     have hf:aF.fS (cd S 28) (bY val 28 v) vh vn=aF.fS S val vh vn:=by funext key;simp [aF.fS,cd,bY]
     simp [aF.G,aF.gK,aF.eX,aF.pc,hf]
     simp [cd,bY]
    simp [jR,o1,hk]
    first|exact⟨by simp [aF.An,bY],hs⟩|(simp [aF.An,bY];exact hs)
 · intro S val a A3 jp cX GI hs
   have mh:∀k,k<29→S k=true:=fun k hk=>jp k hk
   obtain⟨b,hb⟩:=cX.nJ 26 (mh 26 (by omega))
   have Si:=cX.nJ 27 (mh 27 (by omega))
   have a6:a 6=.pointer (some ⟨b,0,none⟩):=by rw [cX.jJ 27 6 (by decide +kernel) (mh 27 (by omega)),Si,hb]
   have a7:a 7=.int .i64 0:=by rw [cX.jJ 28 7 (by decide +kernel) (mh 28 (by omega))];exact cX.nJ 28 (mh 28 (by omega))
   simp only [DD]
   refine Im ?_
   refine⟨_,by first|(simp [a6,a7];done)|(simp [a6,a7];rfl),b,rfl,?_⟩
   have Vl:aF.fS S val vh vn=rT (fun k=>if k=0 then val 5 else if k=1 then val 9 else if k=2 then val 11 else if k=3 then val 13 else if k=4 then val 15 else if k=5 then val 18 else if k=6 then vh else vn):=by
    funext key
    simp only [aF.fS,rT,mh 6 (by omega),mh 5 (by omega),mh 10 (by omega),mh 9 (by omega),mh 12 (by omega),mh 11 (by omega),mh 14 (by omega),mh 13 (by omega),mh 16 (by omega),mh 15 (by omega),mh 19 (by omega),mh 18 (by omega),mh 21 (by omega),mh 23 (by omega),and_self,if_true]
    by_cases hk:1≤key∧key≤8
    · have:key=1∨key=2∨key=3∨key=4∨key=5∨key=6∨key=7∨key=8:=by omega
      rcases this with rfl|rfl|rfl|rfl|rfl|rfl|rfl|rfl<;>rfl
    · rw [if_neg hk,if_neg (by omega),if_neg (by omega),if_neg (by omega),if_neg (by omega),if_neg (by omega),if_neg (by omega),if_neg (by omega),if_neg (by omega)]
   have AB:bz A3 ((nI fun r=>pt b (.cells [.map (some r)] true 1)*fy .i64 r (aF.fS S val vh vn))*(au .u64 (val 5) (cx++List.replicate nn 0)*(au .u64 (val 9) (List.replicate no 0)*(au .u64 (val 11) (List.replicate 1 0) *
    (au .u64 (val 13) (List.replicate 1 0)*(au .u64 (val 15) (List.replicate 1 0)*(au .u64 (val 18) (List.replicate nt 0)*B))))))):=by
    refine hs.dH ?_
    simp only [aF.G,aF.gK,aF.eX,aF.pc,mh 26 (by omega),mh 5 (by omega),mh 9 (by omega),mh 11 (by omega),mh 13 (by omega),mh 15 (by omega),mh 18 (by omega),if_true,hb,aF.Wa]
   rw [bz.ex] at AB
   obtain⟨r,U7⟩:=AB
   rw [hB,Vl] at U7
   refine dS.dR (r:=r) (vs:=fun k=>if k=0 then val 5 else if k=1 then val 9 else if k=2 then val 11 else if k=3 then val 13 else if k=4 then val 15 else if k=5 then val 18 else if k=6 then vh else vn) ?_
   simp only [jb,hQ,Nat.reduceEqDiff,if_true,if_false]
   have r1:List.replicate 1 (0:Int)=[0]:=rfl
   rw [r1] at U7
   exact bz.right (P:=pt A.next (.cells CV true 1)) (U7.dH (by ac_rfl))
end
end Go.Stx
