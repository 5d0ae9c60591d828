/-
 The program's cells, made anew.
-/
import Derived.Test.YtnnbecihffpedaaGreatDoorG09
set_option linter.unusedVariables false
set_option linter.unusedSimpArgs false
set_option linter.unusedSectionVars false
set_option maxRecDepth 20000
set_option maxHeartbeats 4000000
namespace Go.Stx
open Go Go.Proofs
attribute [local irreducible] TW bC cB aW az aG bZ cz
section
variable [Gl]
namespace aE
def C3:Value->Nat
 | .map (some r)=>r
 | _=>0
def bOf:Value->Nat
 | .pointer (some p)=>p.block
 | _=>0
def r25:Value->Nat
 | .agg cs=>C3 (cs.getD 0 undef)
 | _=>0
def pc (b:Bool) (P:HP):HP:=if b=true then P else eP
def fS (S:Nat->Bool) (val:Nat->Value) (vh vn:Value) (key:Int):Option Value:=
 if key=1 then (if S 6=true/\S 5=true then some (val 5) else none)
 else if key=2 then (if S 10=true/\S 9=true then some (val 9) else none)
 else if key=3 then (if S 12=true/\S 11=true then some (val 11) else none)
 else if key=4 then (if S 14=true/\S 13=true then some (val 13) else none)
 else if key=5 then (if S 16=true/\S 15=true then some (val 15) else none)
 else if key=6 then (if S 19=true/\S 18=true then some (val 18) else none)
 else if key=7 then (if S 21=true then some vh else none)
 else if key=8 then (if S 23=true then some vn else none) else none
def il (S:Nat->Bool) (val:Nat->Value) (vh vn:Value):HP:=
 if S 26=true then pe λr=>pt (bOf (val 26)) (.cells [.map (some r)] true 1)*fM .i64 r (fS S val vh vn)
 else if S 25=true then fM .i64 (r25 (val 25)) (fS S val vh vn)
 else if S 24=true then fM .i64 (C3 (val 24)) (fS S val vh vn)
 else if S 0=true then fM .i64 (C3 (val 0)) (fS S val vh vn) else eP
def fg (S:Nat->Bool) (val:Nat->Value) (cr:List Int) (nn:Nat):HP:=
 if S 5=true then au .u64 (val 5) (cr++List.replicate nn 0) else if S 2=true then au .u64 (val 2) cr else eP
def G (cr:List Int) (nn no nt:Nat) (vh vn:Value) (B:HP) (S:Nat->Bool) (val:Nat->Value):HP:=
 il S val vh vn*(fg S val cr nn*(pc (S 9) (au .u64 (val 9) (List.replicate no 0))*(pc (S 11) (au .u64 (val 11) (List.replicate 1 0))*(pc (S 13) (au .u64 (val 13) (List.replicate 1 0)) *
  (pc (S 15) (au .u64 (val 15) (List.replicate 1 0))*(pc (S 18) (au .u64 (val 18) (List.replicate nt 0))*B))))))
def Dx (vi vh vn:Value) (cb nn no nt:Nat) (j:Nat) (val:Nat->Value):Prop:=
 match j with
 | 0=>∃r,val 0=.map (some r)
 | 1=>val 1=vi
 | 3=>val 3=vn
 | 4=>val 4=.int .i64 (nn:Int)
 | 7=>val 7=.pointer (some ⟨cb,1,none⟩)
 | 8=>val 8=.int .i64 (no:Int)
 | 17=>val 17=.int .i64 (nt:Int)
 | 20=>val 20=vh
 | 22=>val 22=vn
 | 24=>∃r,val 24=.map (some r)
 | 25=>∃r,val 25=.agg #[.map (some r)]
 | 26=>∃b,val 26=.pointer (some ⟨b,0,none⟩)
 | 27=>val 27=val 26
 | 28=>val 28=.int .i64 0
 | _=>True
theorem Sr {cr:List Int} {nn no nt:Nat} {vh vn:Value} {B:HP} {S S':Nat->Bool} {val Oh:Nat->Value} (hm:il S' Oh vh vn=il S val vh vn) (hd:fg S' Oh cr nn=fg S val cr nn)
 (h:∀k,k=9\/k=11\/k=13\/k=15\/k=18->S' k=S k/\(S k=true->Oh k=val k)):G cr nn no nt vh vn B S' Oh=G cr nn no nt vh vn B S val:=by
 have key:∀k n,k=9\/k=11\/k=13\/k=15\/k=18->pc (S' k) (au .u64 (Oh k) (List.replicate n 0))=pc (S k) (au .u64 (val k) (List.replicate n 0)):=λk n hk=>by
  obtain⟨h1,h2⟩:=h k hk;unfold pc;rw [h1];split;rename_i e;rw [h2 e];rfl
 unfold G;rw [hm,hd,key 9 no (by simp),key 11 1 (by simp),key 13 1 (by simp),key 15 1 (by simp),key 18 nt (by simp)]
end aE
set_option maxRecDepth 100000 in
theorem DT (nt nn no:Nat) (vi:Value) (cr:List Int) (aR am base n0 n1 n2 n3 reads cM ag ar aw:Int) (aT:Bool) (hc:rM ⟨aR,am,base,n0,n1,n2,n3,reads,cM,ag,ar,aw,aT⟩) (A:AW) (F R:HP) (hR:∀(A:AW) (F:HP),bn A (R*F)->dz A .u64 vi cr) (hw:A.Wf) (hS:bn A (R*F)) (h1:1<=nt) (wR:nt<=16) (hi:(cr.length:Int)=aR) (AD:am=(no:Int)) (VV:(iq n0 n1).length=nn) :
 az Tryz.prog 26 [(bH.mk aR am base n0 n1 n2 n3 reads cM ag ar aw aT).v,.int .i64 (nt:Int),vi] A (λv A'=>∃pb,v=.tuple #[.pointer (some ⟨pb,0,none⟩),.int .i64 0]/\
  bn A' (eu pb (λk=>if k=0 then cr++List.replicate nn 0 else if k=1 then List.replicate no 0 else if k=5 then List.replicate nt 0 else if k=6 then jn n0 n1 else if k=7 then iq n0 n1 else [0])*(R*F))):=by
 have AE:=oL _ hc.ok;have W5:=JM _ hc;have hno1:1<=no/\no<=64:=by
  have:=hc.ok.am;dsimp only at this;omega
 have hi64:cr.length<=64:=by
  have:=hc.ok.aR;dsimp only at this;omega
 have hnn1:nn<=4:=by
  have h0:=hc.c0;have h1:=hc.c1;dsimp only at h0 h1;rw [<-VV];rcases h0 with rfl|rfl|rfl<;>rcases h1 with rfl|rfl|rfl<;>decide
 refine aH Tryz.func26 λ_=>?_;obtain⟨oi,ci,rfl,_⟩:=(hR A F hS).dO;have hnt:¬(nt:Int)<1:=by omega
 have hnt2:¬(16:Int)<nt:=by omega
 dsimp only [bH.v] at AE W5 ⊢
 repeat' (first|(refine jK λR hR=>?_;simp [an,ax,AW.ab,aD,hnt,hnt2,hi];try simp (disch:=omega) only [ay,ap,an,ax])|(refine hR _ _ ?_;clear hR R)|(refine hK _ _ ?_;clear hK K)|refine nx ?_|refine wn λK hK=>?_|simp only [wS]|(refine bV (AE _) ?_;rintro _ _ ⟨rfl,rfl⟩ _ _)|(show cB _ _ _ _ _ _;refine nx ?_)|(refine wc rfl (λhc=>?_) (λhc=>?_)<;>(try simp at hc)<;>(try omega))|(refine ib (λhc=>?_) (λhc=>?_)<;>(try omega)<;>(try simp (disch:=omega) only [ay,ap])))
 obtain⟨CV,hCV⟩:∃CV:List Value,CV=[.int .i64 aR,.int .i64 am,.int .i64 base,.int .i64 n0,.int .i64 n1,.int .i64 n2,.int .i64 n3,.int .i64 reads,.int .i64 cM,.int .i64 ag,.int .i64 ar,.int .i64 aw,.bool aT]:=⟨_,rfl⟩;have i5:=hw.alloc (.cells CV true 1);have iI:=hS.alloc hw (.cells CV true 1);rw [hCV] at i5 iI;refine bV (W5 _ _ i5 (ah.mk iI)) ?_;rintro v A2 ⟨vh,vn,rfl,hSL2⟩ kS _
 repeat (first|(refine hR _ _ ?_;clear hR R)|(refine jK (λR hR=>?_);simp)|refine lwn ?_|(refine hK _ _ ?_;clear hK K))
 have mg:bn A2 (au .u64 vh (jn n0 n1)*(au .u64 vn (iq n0 n1)*(pt A.next (.cells CV true 1)*(R*F)))):=by
  subst hCV;have:=hSL2;simp only [ah,aL,It.hp,dt] at this;exact this
 have hvnf:∃o c,vn=.slice o nn c:=by
  obtain⟨o,c,h,_⟩:=(au.is mg.right).dO;rw [VV] at h;exact⟨o,c,h⟩
 obtain⟨B,hB⟩:∃B,B=au .u64 vh (jn n0 n1)*(au .u64 vn (iq n0 n1)*(pt A.next (.cells CV true 1)*(R*F))):=⟨_,rfl⟩;refine bh (Qe (by kernel_rfl) (by decide +kernel) (aE.G cr nn no nt vh vn B) (aE.Dx (.slice oi cr.length ci) vh vn A.next nn no nt) ?_ ?_ ?_ ?_ ?_);intro S i val v hc hi;have c6:=hc 6 5 (by decide +kernel);have c10:=hc 10 9 (by decide +kernel);have c12:=hc 12 11 (by decide +kernel);have c14:=hc 14 13 (by decide +kernel);have c16:=hc 16 15 (by decide +kernel);have c19:=hc 19 18 (by decide +kernel);have hv:∀k,S k=true->bU val i v k=val k:=λk hk=>by
  have:k≠i:=λe=>by rw [e,hi] at hk;cases hk
  simp [bU,this]
 have DP:aE.fS S (bU val i v) vh vn=aE.fS S val vh vn:=by
  funext key;unfold aE.fS;have e:∀p k,(S p=true->S k=true)->(if S p=true/\S k=true then some (bU val i v k) else none)=if S p=true/\S k=true then some (val k) else none:=λp k _=>by
   split;rename_i h;rw [hv k h.2];rfl
  rw [e 6 5 c6,e 10 9 c10,e 12 11 c12,e 14 13 c14,e 16 15 c16,e 19 18 c19]
 refine aE.Sr ?_ ?_ (λk _=>⟨rfl,hv k⟩);unfold aE.il;rw [DP];split;rename_i h;rw [hv 26 h];split;rename_i h;rw [hv 25 h];split;rename_i h;rw [hv 24 h];split;rename_i h;rw [hv 0 h];rfl;unfold aE.fg;split;rename_i h;rw [hv 5 h];split;rename_i h;rw [hv 2 h];rfl;intro S i j val v hc hi hj;have c27:=hc 27 26 (by decide +kernel);have hv:∀k,S k=true->bU val i v k=val k:=λk hk=>by
  have:k≠i:=λe=>by rw [e,hi] at hk;cases hk
  simp [bU,this]
 have hvj:=hv j hj;unfold aE.Dx;split<;>intro h<;>first|(rw [hvj,hv 26 (c27 hj)];exact h)|(simp only [hvj];exact h)|trivial
 intro val;have e:aE.G cr nn no nt vh vn B (λ_=>false) val=B:=by
  simp [aE.G,aE.il,aE.fg,aE.pc,iD]
 rw [e,hB];exact mg
 . intro i cF S val a A3 pH iQ cL J0 hs;have o1:a 1=.int .i64 (nt:Int):=(by rw [cL.eL 1 (by decide +kernel)];simp);have o2:a 2=.slice oi cr.length ci:=(by rw [cL.eL 2 (by decide +kernel)];simp);have o3:a 3=.pointer (some ⟨A.next,0,none⟩):=(by rw [cL.eL 3 (by decide +kernel)];simp);have o9:a 9=vh:=(by rw [cL.eL 9 (by decide +kernel)];simp);have lH:a 10=vn:=(by rw [cL.eL 10 (by decide +kernel)];simp);have d6:∀k j,vm _ k j=true->S j=false->S k=false:=λk j h hj=>by
    cases hk:S k;rfl;have:=cL.KI k j h hk;rw [hj] at this;cases this
   have hBs:bn A3 (B*(aE.il S val vh vn*(aE.fg S val cr nn*(aE.pc (S 9) (au .u64 (val 9) (List.replicate no 0))*(aE.pc (S 11) (au .u64 (val 11) (List.replicate 1 0))*(aE.pc (S 13) (au .u64 (val 13) (List.replicate 1 0)) *
    (aE.pc (S 15) (au .u64 (val 15) (List.replicate 1 0))*aE.pc (S 18) (au .u64 (val 18) (List.replicate nt 0))))))))):=hs.dV (by unfold aE.G;ac_rfl)
   obtain h|h|h|h|h|h|h|h|h|h|h|h|h|h|h|h|h|h|h|h|h|h|h|h|h|h|h|h|h:i=0\/i=1\/i=2\/i=3\/i=4\/i=5\/i=6\/i=7\/i=8\/i=9\/i=10\/i=11\/i=12\/i=13\/i=14\/i=15\/i=16\/i=17\/i=18\/i=19\/i=20\/i=21\/i=22\/i=23\/i=24\/i=25\/i=26\/i=27\/i=28:=by
    have:i<29:=cF;omega
   all_goals subst h
   .
    have sO:=d6 24 0 (by decide +kernel) pH;have rr:=d6 25 24 (by decide +kernel) sO;have wV:=d6 26 25 (by decide +kernel) rr;have s6:=d6 6 0 (by decide +kernel) pH;have s10:=d6 10 0 (by decide +kernel) pH;have s12:=d6 12 0 (by decide +kernel) pH;have s14:=d6 14 0 (by decide +kernel) pH;have s16:=d6 16 0 (by decide +kernel) pH;have s19:=d6 19 0 (by decide +kernel) pH;have s21:=d6 21 0 (by decide +kernel) pH;have s23:=d6 23 0 (by decide +kernel) pH;have hk:aE.G cr nn no nt vh vn B (bY S 0) (bU val 0 (.map (some A3.next)))=fM .i64 A3.next (λ_=>none)*aE.G cr nn no nt vh vn B S val:=by
     have hf:aE.fS (bY S 0) (bU val 0 (.map (some A3.next))) vh vn=λ_=>none:=by funext key;simp [aE.fS,bY,s6,s10,s12,s14,s16,s19,s21,s23]
     simp [aE.G,aE.il,aE.fg,aE.pc,hf];simp [bY,bU,sO,rr,wV,pH,aE.C3,iD]
    simp [kC,hk];exact⟨⟨A3.next,by simp [bU]⟩,fM.kD hs J0⟩
   .
    have hk:∀v,aE.G cr nn no nt vh vn B (bY S 1) (bU val 1 v)=aE.G cr nn no nt vh vn B S val:=λv=>by
     have hf:aE.fS (bY S 1) (bU val 1 v) vh vn=aE.fS S val vh vn:=by funext key;simp [aE.fS,bY,bU]
     simp [aE.G,aE.il,aE.fg,aE.pc,hf];simp [bY,bU]
    simp [kC,o2,hk]
    first|exact⟨by simp [aE.Dx,bU],hs⟩|(simp [aE.Dx,bU];exact hs)
   .
    have s5:=d6 5 2 (by decide +kernel) pH;have v1:a 33=.slice oi cr.length ci:=(by rw [cL.kr 1 33 (by decide +kernel) (iQ 1 (by decide +kernel))];exact cL.pg 1 (iQ 1 (by decide +kernel)));have rQ:dz A3 .u64 (.slice oi cr.length ci) cr:=by
     have h':=hBs.left;rw [hB] at h';have:=hR A3 _ h'.right.right.right;exact this
    have hk:∀v,aE.G cr nn no nt vh vn B (bY S 2) (bU val 2 v)=au .u64 v cr*aE.G cr nn no nt vh vn B S val:=λv=>by
     have hf:aE.fS (bY S 2) (bU val 2 v) vh vn=aE.fS S val vh vn:=by funext key;simp [aE.fS,bY,bU]
     simp [aE.G,aE.il,aE.fg,aE.pc,hf];simp [bY,bU,s5,pH,iD]
     ac_rfl
    simp [kC,v1];refine bV (mV _ cr A3 rQ (by omega)) ?_;rintro v A4 ⟨h1,h2⟩ _ _;refine⟨trivial,?_⟩;rw [hk];exact au.jF hs J0 h2 h1
   .
    have hk:∀v,aE.G cr nn no nt vh vn B (bY S 3) (bU val 3 v)=aE.G cr nn no nt vh vn B S val:=λv=>by
     have hf:aE.fS (bY S 3) (bU val 3 v) vh vn=aE.fS S val vh vn:=by funext key;simp [aE.fS,bY,bU]
     simp [aE.G,aE.il,aE.fg,aE.pc,hf];simp [bY,bU]
    simp [kC,lH,hk]
    first|exact⟨by simp [aE.Dx,bU],hs⟩|(simp [aE.Dx,bU];exact hs)
   .
    have hk:∀v,aE.G cr nn no nt vh vn B (bY S 4) (bU val 4 v)=aE.G cr nn no nt vh vn B S val:=λv=>by
     have hf:aE.fS (bY S 4) (bU val 4 v) vh vn=aE.fS S val vh vn:=by funext key;simp [aE.fS,bY,bU]
     simp [aE.G,aE.il,aE.fg,aE.pc,hf];simp [bY,bU]
    have v4:a 35=vn:=(by rw [cL.kr 3 35 (by decide +kernel) (iQ 3 (by decide +kernel))];exact cL.pg 3 (iQ 3 (by decide +kernel)));obtain⟨on,cn,hvn⟩:=hvnf;rw [hvn] at v4;simp [kC,v4];exact⟨by simp [aE.Dx,bU],by rw [hk];exact hs⟩
   .
    have s6:=d6 6 5 (by decide +kernel) pH;have s2:=iQ 2 (by decide +kernel);have v2:a 34=val 2:=cL.kr 2 34 (by decide +kernel) s2;have v4:a 36=.int .i64 ((nn:Nat):Int):=(by rw [cL.kr 4 36 (by decide +kernel) (iQ 4 (by decide +kernel))];exact cL.pg 4 (iQ 4 (by decide +kernel)));obtain⟨X,hX⟩:∃X,aE.G cr nn no nt vh vn B S val=au .u64 (val 2) cr*X/\∀v,aE.G cr nn no nt vh vn B (bY S 5) (bU val 5 v)=au .u64 v (cr++List.replicate nn 0)*X:=by
     refine⟨aE.il S val vh vn*(aE.pc (S 9) (au .u64 (val 9) (List.replicate no 0))*(aE.pc (S 11) (au .u64 (val 11) (List.replicate 1 0))*(aE.pc (S 13) (au .u64 (val 13) (List.replicate 1 0)) *
      (aE.pc (S 15) (au .u64 (val 15) (List.replicate 1 0))*(aE.pc (S 18) (au .u64 (val 18) (List.replicate nt 0))*B))))),?_,λv=>?_⟩
     simp only [aE.G,aE.fg,pH,s2,if_true,Bool.false_eq_true,if_false]
     ac_rfl
     have hf:aE.fS (bY S 5) (bU val 5 v) vh vn=aE.fS S val vh vn:=by funext key;simp [aE.fS,bY,bU,s6]
     simp only [aE.G,aE.il,aE.fg,aE.pc,hf];simp only [bY,bU,Nat.reduceEqDiff,if_true,if_false]
     ac_rfl
    rw [hX.1] at hs;obtain⟨v',A4,e1,e2,e3⟩:=au.Sg (P:=Tryz.prog) (t:=59) (u:=3) (kq:=.i64) nn Tryz.underlying59 Tryz.underlying3 Tryz.info45 Tryz.zero45 rfl hs (by omega) (by simp) J0;simp [kC,v2,v4]
    try simp at e1
    simp [e1];rw [hX.2];exact⟨trivial,e2⟩
   .
    have sO:=d6 24 6 (by decide +kernel) pH;have rr:=d6 25 24 (by decide +kernel) sO;have wV:=d6 26 25 (by decide +kernel) rr;have s0:=iQ 0 (by decide +kernel);have sp:=iQ 5 (by decide +kernel);obtain⟨r,hr⟩:=cL.pg 0 s0;have v0:a 32=.map (some r):=(by rw [cL.kr 0 32 (by decide +kernel) s0];exact hr);have vx:a 37=val 5:=cL.kr 5 37 (by decide +kernel) sp;obtain⟨X,H4,H3⟩:∃X,aE.G cr nn no nt vh vn B S val=fM .i64 r (aE.fS S val vh vn)*X/\∀v,aE.G cr nn no nt vh vn B (bY S 6) (bU val 6 v)=fM .i64 r (ls (aE.fS S val vh vn) 1 (val 5))*X:=by
     refine⟨(aE.fg S val cr nn*(aE.pc (S 9) (au .u64 (val 9) (List.replicate no 0))*(aE.pc (S 11) (au .u64 (val 11) (List.replicate 1 0))*(aE.pc (S 13) (au .u64 (val 13) (List.replicate 1 0)) *
      (aE.pc (S 15) (au .u64 (val 15) (List.replicate 1 0))*(aE.pc (S 18) (au .u64 (val 18) (List.replicate nt 0))*B)))))),?_,λv=>?_⟩
     simp only [aE.G,aE.il,wV,rr,sO,s0,hr,aE.C3,if_true,Bool.false_eq_true,if_false];have hf:aE.fS (bY S 6) (bU val 6 v) vh vn=ls (aE.fS S val vh vn) 1 (val 5):=by
      funext key;simp only [aE.fS,bY,bU,ls,Nat.reduceEqDiff,if_true,if_false];by_cases hkey:key=1;subst hkey;simp [sp];simp [hkey]
     simp only [aE.G,aE.il,aE.fg,aE.pc,hf];simp only [bY,bU,wV,rr,sO,s0,hr,aE.C3,Nat.reduceEqDiff,if_true,if_false,Bool.false_eq_true]
    rw [H4] at hs;obtain⟨A4,e1,e2,_⟩:=fM.tp (P:=Tryz.prog) (t:=139) hs Tryz.underlying139 Tryz.underlying3 1 (val 5);simp [-ft,kC,v0,vx,e1];rw [H3];exact⟨trivial,e2⟩
   .
    have hk:∀v,aE.G cr nn no nt vh vn B (bY S 7) (bU val 7 v)=aE.G cr nn no nt vh vn B S val:=λv=>by
     have hf:aE.fS (bY S 7) (bU val 7 v) vh vn=aE.fS S val vh vn:=by funext key;simp [aE.fS,bY,bU]
     simp [aE.G,aE.il,aE.fg,aE.pc,hf];simp [bY,bU]
    simp [kC,o3,hk]
    first|exact⟨by simp [aE.Dx,bU],hs⟩|(simp [aE.Dx,bU];exact hs)
   .
    have hk:∀v,aE.G cr nn no nt vh vn B (bY S 8) (bU val 8 v)=aE.G cr nn no nt vh vn B S val:=λv=>by
     have hf:aE.fS (bY S 8) (bU val 8 v) vh vn=aE.fS S val vh vn:=by funext key;simp [aE.fS,bY,bU]
     simp [aE.G,aE.il,aE.fg,aE.pc,hf];simp [bY,bU]
    have v8:a 38=.pointer (some ⟨A.next,1,none⟩):=(by rw [cL.kr 7 38 (by decide +kernel) (iQ 7 (by decide +kernel))];exact cL.pg 7 (iQ 7 (by decide +kernel)));have hgc:A3.bt A.next=some (.cells CV true 1):=by
     have h':=hBs.left;rw [hB] at h';exact h'.right.right.bt
    simp [kC,v8,hgc,hCV,AW.ab,hk,AD]
    first|exact⟨by simp [aE.Dx,bU],hs⟩|(simp [aE.Dx,bU];exact hs)
   .
    have sI:=d6 10 9 (by decide +kernel) pH;have vd:a 39=.int .i64 ((no:Nat):Int):=(by rw [cL.kr 8 39 (by decide +kernel) (iQ 8 (by decide +kernel))];exact cL.pg 8 (iQ 8 (by decide +kernel)));have hk:∀v,aE.G cr nn no nt vh vn B (bY S 9) (bU val 9 v)=au .u64 v (List.replicate no 0)*aE.G cr nn no nt vh vn B S val:=λv=>by
     have hf:aE.fS (bY S 9) (bU val 9 v) vh vn=aE.fS S val vh vn:=by funext key;simp [aE.fS,bY,bU,sI]
     simp only [aE.G,aE.il,aE.fg,aE.pc,hf];simp only [bY,bU,pH,Nat.reduceEqDiff,if_true,if_false,Bool.false_eq_true,iD]
     ac_rfl
    obtain⟨v',A4,e1,e2,e3,_⟩:=au.O5 (P:=Tryz.prog) (t:=59) (k1:=.i64) (k2:=.i64) no Tryz.underlying59 Tryz.info45 Tryz.zero45 rfl (by simp) (by omega) hs J0;have R4:nC Tryz.prog A3 59 (.int .i64 (no:Int)) (.int .i64 (no:Int))=some (v',A4):=e1;simp [-nC,kC,vd,R4];rw [hk];exact⟨trivial,e2⟩
   .
    have sO:=d6 24 10 (by decide +kernel) pH;have rr:=d6 25 24 (by decide +kernel) sO;have wV:=d6 26 25 (by decide +kernel) rr;have s0:=iQ 0 (by decide +kernel);have sp:=iQ 9 (by decide +kernel);obtain⟨r,hr⟩:=cL.pg 0 s0;have v0:a 32=.map (some r):=(by rw [cL.kr 0 32 (by decide +kernel) s0];exact hr);have vx:a 40=val 9:=cL.kr 9 40 (by decide +kernel) sp;obtain⟨X,H4,H3⟩:∃X,aE.G cr nn no nt vh vn B S val=fM .i64 r (aE.fS S val vh vn)*X/\∀v,aE.G cr nn no nt vh vn B (bY S 10) (bU val 10 v)=fM .i64 r (ls (aE.fS S val vh vn) 2 (val 9))*X:=by
     refine⟨(aE.fg S val cr nn*(aE.pc (S 9) (au .u64 (val 9) (List.replicate no 0))*(aE.pc (S 11) (au .u64 (val 11) (List.replicate 1 0))*(aE.pc (S 13) (au .u64 (val 13) (List.replicate 1 0)) *
      (aE.pc (S 15) (au .u64 (val 15) (List.replicate 1 0))*(aE.pc (S 18) (au .u64 (val 18) (List.replicate nt 0))*B)))))),?_,λv=>?_⟩
     simp only [aE.G,aE.il,wV,rr,sO,s0,hr,aE.C3,if_true,Bool.false_eq_true,if_false];have hf:aE.fS (bY S 10) (bU val 10 v) vh vn=ls (aE.fS S val vh vn) 2 (val 9):=by
      funext key;simp only [aE.fS,bY,bU,ls,Nat.reduceEqDiff,if_true,if_false];by_cases hkey:key=2;subst hkey;simp [sp];simp [hkey]
     simp only [aE.G,aE.il,aE.fg,aE.pc,hf];simp only [bY,bU,wV,rr,sO,s0,hr,aE.C3,Nat.reduceEqDiff,if_true,if_false,Bool.false_eq_true]
    rw [H4] at hs;obtain⟨A4,e1,e2,_⟩:=fM.tp (P:=Tryz.prog) (t:=139) hs Tryz.underlying139 Tryz.underlying3 2 (val 9);simp [-ft,kC,v0,vx,e1];rw [H3];exact⟨trivial,e2⟩
   .
    have sI:=d6 12 11 (by decide +kernel) pH;have hk:∀v,aE.G cr nn no nt vh vn B (bY S 11) (bU val 11 v)=au .u64 v (List.replicate 1 0)*aE.G cr nn no nt vh vn B S val:=λv=>by
     have hf:aE.fS (bY S 11) (bU val 11 v) vh vn=aE.fS S val vh vn:=by funext key;simp [aE.fS,bY,bU,sI]
     simp only [aE.G,aE.il,aE.fg,aE.pc,hf];simp only [bY,bU,pH,Nat.reduceEqDiff,if_true,if_false,Bool.false_eq_true,iD]
     ac_rfl
    obtain⟨v',A4,e1,e2,e3,_⟩:=au.O5 (P:=Tryz.prog) (t:=59) (k1:=.i64) (k2:=.i64) 1 Tryz.underlying59 Tryz.info45 Tryz.zero45 rfl (by simp) (by omega) hs J0;have R4:nC Tryz.prog A3 59 (.int .i64 1) (.int .i64 1)=some (v',A4):=e1;simp [-nC,kC,R4];rw [hk];exact⟨trivial,e2⟩
   .
    have sO:=d6 24 12 (by decide +kernel) pH;have rr:=d6 25 24 (by decide +kernel) sO;have wV:=d6 26 25 (by decide +kernel) rr;have s0:=iQ 0 (by decide +kernel);have sp:=iQ 11 (by decide +kernel);obtain⟨r,hr⟩:=cL.pg 0 s0;have v0:a 32=.map (some r):=(by rw [cL.kr 0 32 (by decide +kernel) s0];exact hr);have vx:a 41=val 11:=cL.kr 11 41 (by decide +kernel) sp;obtain⟨X,H4,H3⟩:∃X,aE.G cr nn no nt vh vn B S val=fM .i64 r (aE.fS S val vh vn)*X/\∀v,aE.G cr nn no nt vh vn B (bY S 12) (bU val 12 v)=fM .i64 r (ls (aE.fS S val vh vn) 3 (val 11))*X:=by
     refine⟨(aE.fg S val cr nn*(aE.pc (S 9) (au .u64 (val 9) (List.replicate no 0))*(aE.pc (S 11) (au .u64 (val 11) (List.replicate 1 0))*(aE.pc (S 13) (au .u64 (val 13) (List.replicate 1 0)) *
      (aE.pc (S 15) (au .u64 (val 15) (List.replicate 1 0))*(aE.pc (S 18) (au .u64 (val 18) (List.replicate nt 0))*B)))))),?_,λv=>?_⟩
     simp only [aE.G,aE.il,wV,rr,sO,s0,hr,aE.C3,if_true,Bool.false_eq_true,if_false];have hf:aE.fS (bY S 12) (bU val 12 v) vh vn=ls (aE.fS S val vh vn) 3 (val 11):=by
      funext key;simp only [aE.fS,bY,bU,ls,Nat.reduceEqDiff,if_true,if_false];by_cases hkey:key=3;subst hkey;simp [sp];simp [hkey]
     simp only [aE.G,aE.il,aE.fg,aE.pc,hf];simp only [bY,bU,wV,rr,sO,s0,hr,aE.C3,Nat.reduceEqDiff,if_true,if_false,Bool.false_eq_true]
    rw [H4] at hs;obtain⟨A4,e1,e2,_⟩:=fM.tp (P:=Tryz.prog) (t:=139) hs Tryz.underlying139 Tryz.underlying3 3 (val 11);simp [-ft,kC,v0,vx,e1];rw [H3];exact⟨trivial,e2⟩
   .
    have sI:=d6 14 13 (by decide +kernel) pH;have hk:∀v,aE.G cr nn no nt vh vn B (bY S 13) (bU val 13 v)=au .u64 v (List.replicate 1 0)*aE.G cr nn no nt vh vn B S val:=λv=>by
     have hf:aE.fS (bY S 13) (bU val 13 v) vh vn=aE.fS S val vh vn:=by funext key;simp [aE.fS,bY,bU,sI]
     simp only [aE.G,aE.il,aE.fg,aE.pc,hf];simp only [bY,bU,pH,Nat.reduceEqDiff,if_true,if_false,Bool.false_eq_true,iD]
     ac_rfl
    obtain⟨v',A4,e1,e2,e3,_⟩:=au.O5 (P:=Tryz.prog) (t:=59) (k1:=.i64) (k2:=.i64) 1 Tryz.underlying59 Tryz.info45 Tryz.zero45 rfl (by simp) (by omega) hs J0;have R4:nC Tryz.prog A3 59 (.int .i64 1) (.int .i64 1)=some (v',A4):=e1;simp [-nC,kC,R4];rw [hk];exact⟨trivial,e2⟩
   .
    have sO:=d6 24 14 (by decide +kernel) pH;have rr:=d6 25 24 (by decide +kernel) sO;have wV:=d6 26 25 (by decide +kernel) rr;have s0:=iQ 0 (by decide +kernel);have sp:=iQ 13 (by decide +kernel);obtain⟨r,hr⟩:=cL.pg 0 s0;have v0:a 32=.map (some r):=(by rw [cL.kr 0 32 (by decide +kernel) s0];exact hr);have vx:a 42=val 13:=cL.kr 13 42 (by decide +kernel) sp;obtain⟨X,H4,H3⟩:∃X,aE.G cr nn no nt vh vn B S val=fM .i64 r (aE.fS S val vh vn)*X/\∀v,aE.G cr nn no nt vh vn B (bY S 14) (bU val 14 v)=fM .i64 r (ls (aE.fS S val vh vn) 4 (val 13))*X:=by
     refine⟨(aE.fg S val cr nn*(aE.pc (S 9) (au .u64 (val 9) (List.replicate no 0))*(aE.pc (S 11) (au .u64 (val 11) (List.replicate 1 0))*(aE.pc (S 13) (au .u64 (val 13) (List.replicate 1 0)) *
      (aE.pc (S 15) (au .u64 (val 15) (List.replicate 1 0))*(aE.pc (S 18) (au .u64 (val 18) (List.replicate nt 0))*B)))))),?_,λv=>?_⟩
     simp only [aE.G,aE.il,wV,rr,sO,s0,hr,aE.C3,if_true,Bool.false_eq_true,if_false];have hf:aE.fS (bY S 14) (bU val 14 v) vh vn=ls (aE.fS S val vh vn) 4 (val 13):=by
      funext key;simp only [aE.fS,bY,bU,ls,Nat.reduceEqDiff,if_true,if_false];by_cases hkey:key=4;subst hkey;simp [sp];simp [hkey]
     simp only [aE.G,aE.il,aE.fg,aE.pc,hf];simp only [bY,bU,wV,rr,sO,s0,hr,aE.C3,Nat.reduceEqDiff,if_true,if_false,Bool.false_eq_true]
    rw [H4] at hs;obtain⟨A4,e1,e2,_⟩:=fM.tp (P:=Tryz.prog) (t:=139) hs Tryz.underlying139 Tryz.underlying3 4 (val 13);simp [-ft,kC,v0,vx,e1];rw [H3];exact⟨trivial,e2⟩
   .
    have sI:=d6 16 15 (by decide +kernel) pH;have hk:∀v,aE.G cr nn no nt vh vn B (bY S 15) (bU val 15 v)=au .u64 v (List.replicate 1 0)*aE.G cr nn no nt vh vn B S val:=λv=>by
     have hf:aE.fS (bY S 15) (bU val 15 v) vh vn=aE.fS S val vh vn:=by funext key;simp [aE.fS,bY,bU,sI]
     simp only [aE.G,aE.il,aE.fg,aE.pc,hf];simp only [bY,bU,pH,Nat.reduceEqDiff,if_true,if_false,Bool.false_eq_true,iD]
     ac_rfl
    obtain⟨v',A4,e1,e2,e3,_⟩:=au.O5 (P:=Tryz.prog) (t:=59) (k1:=.i64) (k2:=.i64) 1 Tryz.underlying59 Tryz.info45 Tryz.zero45 rfl (by simp) (by omega) hs J0;have R4:nC Tryz.prog A3 59 (.int .i64 1) (.int .i64 1)=some (v',A4):=e1;simp [-nC,kC,R4];rw [hk];exact⟨trivial,e2⟩
   .
    have sO:=d6 24 16 (by decide +kernel) pH;have rr:=d6 25 24 (by decide +kernel) sO;have wV:=d6 26 25 (by decide +kernel) rr;have s0:=iQ 0 (by decide +kernel);have sp:=iQ 15 (by decide +kernel);obtain⟨r,hr⟩:=cL.pg 0 s0;have v0:a 32=.map (some r):=(by rw [cL.kr 0 32 (by decide +kernel) s0];exact hr);have vx:a 43=val 15:=cL.kr 15 43 (by decide +kernel) sp;obtain⟨X,H4,H3⟩:∃X,aE.G cr nn no nt vh vn B S val=fM .i64 r (aE.fS S val vh vn)*X/\∀v,aE.G cr nn no nt vh vn B (bY S 16) (bU val 16 v)=fM .i64 r (ls (aE.fS S val vh vn) 5 (val 15))*X:=by
     refine⟨(aE.fg S val cr nn*(aE.pc (S 9) (au .u64 (val 9) (List.replicate no 0))*(aE.pc (S 11) (au .u64 (val 11) (List.replicate 1 0))*(aE.pc (S 13) (au .u64 (val 13) (List.replicate 1 0)) *
      (aE.pc (S 15) (au .u64 (val 15) (List.replicate 1 0))*(aE.pc (S 18) (au .u64 (val 18) (List.replicate nt 0))*B)))))),?_,λv=>?_⟩
     simp only [aE.G,aE.il,wV,rr,sO,s0,hr,aE.C3,if_true,Bool.false_eq_true,if_false];have hf:aE.fS (bY S 16) (bU val 16 v) vh vn=ls (aE.fS S val vh vn) 5 (val 15):=by
      funext key;simp only [aE.fS,bY,bU,ls,Nat.reduceEqDiff,if_true,if_false];by_cases hkey:key=5;subst hkey;simp [sp];simp [hkey]
     simp only [aE.G,aE.il,aE.fg,aE.pc,hf];simp only [bY,bU,wV,rr,sO,s0,hr,aE.C3,Nat.reduceEqDiff,if_true,if_false,Bool.false_eq_true]
    rw [H4] at hs;obtain⟨A4,e1,e2,_⟩:=fM.tp (P:=Tryz.prog) (t:=139) hs Tryz.underlying139 Tryz.underlying3 5 (val 15);simp [-ft,kC,v0,vx,e1];rw [H3];exact⟨trivial,e2⟩
   .
    have hk:∀v,aE.G cr nn no nt vh vn B (bY S 17) (bU val 17 v)=aE.G cr nn no nt vh vn B S val:=λv=>by
     have hf:aE.fS (bY S 17) (bU val 17 v) vh vn=aE.fS S val vh vn:=by funext key;simp [aE.fS,bY,bU]
     simp [aE.G,aE.il,aE.fg,aE.pc,hf];simp [bY,bU]
    simp [kC,o1,hk]
    first|exact⟨by simp [aE.Dx,bU],hs⟩|(simp [aE.Dx,bU];exact hs)
   .
    have sI:=d6 19 18 (by decide +kernel) pH;have vd:a 44=.int .i64 ((nt:Nat):Int):=(by rw [cL.kr 17 44 (by decide +kernel) (iQ 17 (by decide +kernel))];exact cL.pg 17 (iQ 17 (by decide +kernel)));have hk:∀v,aE.G cr nn no nt vh vn B (bY S 18) (bU val 18 v)=au .u64 v (List.replicate nt 0)*aE.G cr nn no nt vh vn B S val:=λv=>by
     have hf:aE.fS (bY S 18) (bU val 18 v) vh vn=aE.fS S val vh vn:=by funext key;simp [aE.fS,bY,bU,sI]
     simp only [aE.G,aE.il,aE.fg,aE.pc,hf];simp only [bY,bU,pH,Nat.reduceEqDiff,if_true,if_false,Bool.false_eq_true,iD]
     ac_rfl
    obtain⟨v',A4,e1,e2,e3,_⟩:=au.O5 (P:=Tryz.prog) (t:=59) (k1:=.i64) (k2:=.i64) nt Tryz.underlying59 Tryz.info45 Tryz.zero45 rfl (by simp) (by omega) hs J0;have R4:nC Tryz.prog A3 59 (.int .i64 (nt:Int)) (.int .i64 (nt:Int))=some (v',A4):=e1;simp [-nC,kC,vd,R4];rw [hk];exact⟨trivial,e2⟩
   .
    have sO:=d6 24 19 (by decide +kernel) pH;have rr:=d6 25 24 (by decide +kernel) sO;have wV:=d6 26 25 (by decide +kernel) rr;have s0:=iQ 0 (by decide +kernel);have sp:=iQ 18 (by decide +kernel);obtain⟨r,hr⟩:=cL.pg 0 s0;have v0:a 32=.map (some r):=(by rw [cL.kr 0 32 (by decide +kernel) s0];exact hr);have vx:a 45=val 18:=cL.kr 18 45 (by decide +kernel) sp;obtain⟨X,H4,H3⟩:∃X,aE.G cr nn no nt vh vn B S val=fM .i64 r (aE.fS S val vh vn)*X/\∀v,aE.G cr nn no nt vh vn B (bY S 19) (bU val 19 v)=fM .i64 r (ls (aE.fS S val vh vn) 6 (val 18))*X:=by
     refine⟨(aE.fg S val cr nn*(aE.pc (S 9) (au .u64 (val 9) (List.replicate no 0))*(aE.pc (S 11) (au .u64 (val 11) (List.replicate 1 0))*(aE.pc (S 13) (au .u64 (val 13) (List.replicate 1 0)) *
      (aE.pc (S 15) (au .u64 (val 15) (List.replicate 1 0))*(aE.pc (S 18) (au .u64 (val 18) (List.replicate nt 0))*B)))))),?_,λv=>?_⟩
     simp only [aE.G,aE.il,wV,rr,sO,s0,hr,aE.C3,if_true,Bool.false_eq_true,if_false];have hf:aE.fS (bY S 19) (bU val 19 v) vh vn=ls (aE.fS S val vh vn) 6 (val 18):=by
      funext key;simp only [aE.fS,bY,bU,ls,Nat.reduceEqDiff,if_true,if_false];by_cases hkey:key=6;subst hkey;simp [sp];simp [hkey]
     simp only [aE.G,aE.il,aE.fg,aE.pc,hf];simp only [bY,bU,wV,rr,sO,s0,hr,aE.C3,Nat.reduceEqDiff,if_true,if_false,Bool.false_eq_true]
    rw [H4] at hs;obtain⟨A4,e1,e2,_⟩:=fM.tp (P:=Tryz.prog) (t:=139) hs Tryz.underlying139 Tryz.underlying3 6 (val 18);simp [-ft,kC,v0,vx,e1];rw [H3];exact⟨trivial,e2⟩
   .
    have hk:∀v,aE.G cr nn no nt vh vn B (bY S 20) (bU val 20 v)=aE.G cr nn no nt vh vn B S val:=λv=>by
     have hf:aE.fS (bY S 20) (bU val 20 v) vh vn=aE.fS S val vh vn:=by funext key;simp [aE.fS,bY,bU]
     simp [aE.G,aE.il,aE.fg,aE.pc,hf];simp [bY,bU]
    simp [kC,o9,hk]
    first|exact⟨by simp [aE.Dx,bU],hs⟩|(simp [aE.Dx,bU];exact hs)
   .
    have sO:=d6 24 21 (by decide +kernel) pH;have rr:=d6 25 24 (by decide +kernel) sO;have wV:=d6 26 25 (by decide +kernel) rr;have s0:=iQ 0 (by decide +kernel);have sp:=iQ 20 (by decide +kernel);obtain⟨r,hr⟩:=cL.pg 0 s0;have v0:a 32=.map (some r):=(by rw [cL.kr 0 32 (by decide +kernel) s0];exact hr);have vx:a 46=vh:=(by rw [cL.kr 20 46 (by decide +kernel) sp];exact cL.pg 20 sp);obtain⟨X,H4,H3⟩:∃X,aE.G cr nn no nt vh vn B S val=fM .i64 r (aE.fS S val vh vn)*X/\∀v,aE.G cr nn no nt vh vn B (bY S 21) (bU val 21 v)=fM .i64 r (ls (aE.fS S val vh vn) 7 vh)*X:=by
     refine⟨(aE.fg S val cr nn*(aE.pc (S 9) (au .u64 (val 9) (List.replicate no 0))*(aE.pc (S 11) (au .u64 (val 11) (List.replicate 1 0))*(aE.pc (S 13) (au .u64 (val 13) (List.replicate 1 0)) *
      (aE.pc (S 15) (au .u64 (val 15) (List.replicate 1 0))*(aE.pc (S 18) (au .u64 (val 18) (List.replicate nt 0))*B)))))),?_,λv=>?_⟩
     simp only [aE.G,aE.il,wV,rr,sO,s0,hr,aE.C3,if_true,Bool.false_eq_true,if_false];have hf:aE.fS (bY S 21) (bU val 21 v) vh vn=ls (aE.fS S val vh vn) 7 vh:=by
      funext key;simp only [aE.fS,bY,bU,ls,Nat.reduceEqDiff,if_true,if_false];by_cases hkey:key=7;subst hkey;simp [sp];simp [hkey]
     simp only [aE.G,aE.il,aE.fg,aE.pc,hf];simp only [bY,bU,wV,rr,sO,s0,hr,aE.C3,Nat.reduceEqDiff,if_true,if_false,Bool.false_eq_true]
    rw [H4] at hs;obtain⟨A4,e1,e2,_⟩:=fM.tp (P:=Tryz.prog) (t:=139) hs Tryz.underlying139 Tryz.underlying3 7 vh;simp [-ft,kC,v0,vx,e1];rw [H3];exact⟨trivial,e2⟩
   .
    have hk:∀v,aE.G cr nn no nt vh vn B (bY S 22) (bU val 22 v)=aE.G cr nn no nt vh vn B S val:=λv=>by
     have hf:aE.fS (bY S 22) (bU val 22 v) vh vn=aE.fS S val vh vn:=by funext key;simp [aE.fS,bY,bU]
     simp [aE.G,aE.il,aE.fg,aE.pc,hf];simp [bY,bU]
    simp [kC,lH,hk]
    first|exact⟨by simp [aE.Dx,bU],hs⟩|(simp [aE.Dx,bU];exact hs)
   .
    have sO:=d6 24 23 (by decide +kernel) pH;have rr:=d6 25 24 (by decide +kernel) sO;have wV:=d6 26 25 (by decide +kernel) rr;have s0:=iQ 0 (by decide +kernel);have sp:=iQ 22 (by decide +kernel);obtain⟨r,hr⟩:=cL.pg 0 s0;have v0:a 32=.map (some r):=(by rw [cL.kr 0 32 (by decide +kernel) s0];exact hr);have vx:a 47=vn:=(by rw [cL.kr 22 47 (by decide +kernel) sp];exact cL.pg 22 sp);obtain⟨X,H4,H3⟩:∃X,aE.G cr nn no nt vh vn B S val=fM .i64 r (aE.fS S val vh vn)*X/\∀v,aE.G cr nn no nt vh vn B (bY S 23) (bU val 23 v)=fM .i64 r (ls (aE.fS S val vh vn) 8 vn)*X:=by
     refine⟨(aE.fg S val cr nn*(aE.pc (S 9) (au .u64 (val 9) (List.replicate no 0))*(aE.pc (S 11) (au .u64 (val 11) (List.replicate 1 0))*(aE.pc (S 13) (au .u64 (val 13) (List.replicate 1 0)) *
      (aE.pc (S 15) (au .u64 (val 15) (List.replicate 1 0))*(aE.pc (S 18) (au .u64 (val 18) (List.replicate nt 0))*B)))))),?_,λv=>?_⟩
     simp only [aE.G,aE.il,wV,rr,sO,s0,hr,aE.C3,if_true,Bool.false_eq_true,if_false];have hf:aE.fS (bY S 23) (bU val 23 v) vh vn=ls (aE.fS S val vh vn) 8 vn:=by
      funext key;simp only [aE.fS,bY,bU,ls,Nat.reduceEqDiff,if_true,if_false];by_cases hkey:key=8;subst hkey;simp [sp];simp [hkey]
     simp only [aE.G,aE.il,aE.fg,aE.pc,hf];simp only [bY,bU,wV,rr,sO,s0,hr,aE.C3,Nat.reduceEqDiff,if_true,if_false,Bool.false_eq_true]
    rw [H4] at hs;obtain⟨A4,e1,e2,_⟩:=fM.tp (P:=Tryz.prog) (t:=139) hs Tryz.underlying139 Tryz.underlying3 8 vn;simp [-ft,kC,v0,vx,e1];rw [H3];exact⟨trivial,e2⟩
   .
    have rr:=d6 25 24 (by decide +kernel) pH;have wV:=d6 26 25 (by decide +kernel) rr;have s0:=iQ 0 (by decide +kernel);obtain⟨r,hr⟩:=cL.pg 0 s0;have v0:a 32=.map (some r):=(by rw [cL.kr 0 32 (by decide +kernel) s0];exact hr);have hk:aE.G cr nn no nt vh vn B (bY S 24) (bU val 24 (.map (some r)))=aE.G cr nn no nt vh vn B S val:=by
     have hf:aE.fS (bY S 24) (bU val 24 (.map (some r))) vh vn=aE.fS S val vh vn:=by funext key;simp [aE.fS,bY,bU]
     simp only [aE.G,aE.il,aE.fg,aE.pc,hf];simp only [bY,bU,wV,rr,pH,s0,hr,aE.C3,Nat.reduceEqDiff,if_true,if_false,Bool.false_eq_true]
    simp [kC,v0,hk];exact⟨⟨r,by simp [bU]⟩,hs⟩
   .
    have wV:=d6 26 25 (by decide +kernel) pH;have sO:=iQ 24 (by decide +kernel);obtain⟨r,hr⟩:=cL.pg 24 sO;have v0:a 48=.map (some r):=(by rw [cL.kr 24 48 (by decide +kernel) sO];exact hr);have hk:aE.G cr nn no nt vh vn B (bY S 25) (bU val 25 (.agg #[.map (some r)]))=aE.G cr nn no nt vh vn B S val:=by
     have hf:aE.fS (bY S 25) (bU val 25 (.agg #[.map (some r)])) vh vn=aE.fS S val vh vn:=by funext key;simp [aE.fS,bY,bU]
     simp only [aE.G,aE.il,aE.fg,aE.pc,hf];simp only [bY,bU,wV,pH,sO,hr,aE.C3,aE.r25,Nat.reduceEqDiff,if_true,if_false,Bool.false_eq_true];rfl
    simp [kC,v0,hk];exact⟨⟨r,by simp [bU]⟩,hs⟩
   .
    have rr:=iQ 25 (by decide +kernel);obtain⟨r,hr⟩:=cL.pg 25 rr;have v0:a 49=.agg #[.map (some r)]:=(by rw [cL.kr 25 49 (by decide +kernel) rr];exact hr)
    obtain⟨X,H4,H3⟩:∃X,aE.G cr nn no nt vh vn B S val=fM .i64 r (aE.fS S val vh vn)*X/\aE.G cr nn no nt vh vn B (bY S 26) (bU val 26 (.pointer (some ⟨A3.next,0,none⟩))) =
     (pe λr=>pt A3.next (.cells [.map (some r)] true 1)*fM .i64 r (aE.fS S val vh vn))*X:=by
     refine⟨(aE.fg S val cr nn*(aE.pc (S 9) (au .u64 (val 9) (List.replicate no 0))*(aE.pc (S 11) (au .u64 (val 11) (List.replicate 1 0))*(aE.pc (S 13) (au .u64 (val 13) (List.replicate 1 0)) *
      (aE.pc (S 15) (au .u64 (val 15) (List.replicate 1 0))*(aE.pc (S 18) (au .u64 (val 18) (List.replicate nt 0))*B)))))),?_,?_⟩
     simp only [aE.G,aE.il,pH,rr,hr,aE.r25,if_true,Bool.false_eq_true,if_false];rfl;have hf:aE.fS (bY S 26) (bU val 26 (.pointer (some ⟨A3.next,0,none⟩))) vh vn=aE.fS S val vh vn:=by funext key;simp [aE.fS,bY,bU]
     simp only [aE.G,aE.il,aE.fg,aE.pc,hf];simp only [bY,bU,aE.bOf,Nat.reduceEqDiff,if_true,if_false]
    rw [H4] at hs;simp [kC,v0];rw [H3];refine⟨⟨A3.next,by simp [bU]⟩,?_⟩;rw [bn.ex];refine⟨r,?_⟩;rw [HP.b5];exact hs.alloc J0 _
   .
    have hk:∀v,aE.G cr nn no nt vh vn B (bY S 27) (bU val 27 v)=aE.G cr nn no nt vh vn B S val:=λv=>by
     have hf:aE.fS (bY S 27) (bU val 27 v) vh vn=aE.fS S val vh vn:=by funext key;simp [aE.fS,bY,bU]
     simp [aE.G,aE.il,aE.fg,aE.pc,hf];simp [bY,bU]
    have v26:a 50=val 26:=cL.kr 26 50 (by decide +kernel) (iQ 26 (by decide +kernel));simp [kC,v26,hk]
    first|exact⟨by simp [aE.Dx,bU],hs⟩|(simp [aE.Dx,bU];exact hs)
   .
    have hk:∀v,aE.G cr nn no nt vh vn B (bY S 28) (bU val 28 v)=aE.G cr nn no nt vh vn B S val:=λv=>by
     have hf:aE.fS (bY S 28) (bU val 28 v) vh vn=aE.fS S val vh vn:=by funext key;simp [aE.fS,bY,bU]
     simp [aE.G,aE.il,aE.fg,aE.pc,hf];simp [bY,bU]
    simp [kC,o1,hk]
    first|exact⟨by simp [aE.Dx,bU],hs⟩|(simp [aE.Dx,bU];exact hs)
 intro S val a A3 jW cL J0 hs;have mT:∀k,k<29->S k=true:=λk hk=>jW k hk;obtain⟨b,hb⟩:=cL.pg 26 (mT 26 (by omega));have h27:=cL.pg 27 (mT 27 (by omega));have a6:a 6=.pointer (some ⟨b,0,none⟩):=by rw [cL.kr 27 6 (by decide +kernel) (mT 27 (by omega)),h27,hb]
 have a7:a 7=.int .i64 0:=by rw [cL.kr 28 7 (by decide +kernel) (mT 28 (by omega))];exact cL.pg 28 (mT 28 (by omega))
 simp only [GM];refine L6 ?_;refine⟨_,by first|(simp [a6,a7];done)|(simp [a6,a7];rfl),b,rfl,?_⟩;have hmap:aE.fS S val vh vn=wu (λk=>if k=0 then val 5 else if k=1 then val 9 else if k=2 then val 11 else if k=3 then val 13 else if k=4 then val 15 else if k=5 then val 18 else if k=6 then vh else vn):=by
  funext key;simp only [aE.fS,wu,mT 6 (by omega),mT 5 (by omega),mT 10 (by omega),mT 9 (by omega),mT 12 (by omega),mT 11 (by omega),mT 14 (by omega),mT 13 (by omega),mT 16 (by omega),mT 15 (by omega),mT 19 (by omega),mT 18 (by omega),mT 21 (by omega),mT 23 (by omega),and_self,if_true];by_cases hk:1<=key/\key<=8;have:key=1\/key=2\/key=3\/key=4\/key=5\/key=6\/key=7\/key=8:=by omega
  rcases this with rfl|rfl|rfl|rfl|rfl|rfl|rfl|rfl<;>rfl;rw [ap hk,ap (by omega),ap (by omega),ap (by omega),ap (by omega),ap (by omega),ap (by omega),ap (by omega),ap (by omega)]
 have zD:bn A3 ((pe λr=>pt b (.cells [.map (some r)] true 1)*fM .i64 r (aE.fS S val vh vn))*(au .u64 (val 5) (cr++List.replicate nn 0)*(au .u64 (val 9) (List.replicate no 0)*(au .u64 (val 11) (List.replicate 1 0) *
  (au .u64 (val 13) (List.replicate 1 0)*(au .u64 (val 15) (List.replicate 1 0)*(au .u64 (val 18) (List.replicate nt 0)*B))))))):=by
  refine hs.dV ?_;simp only [aE.G,aE.il,aE.fg,aE.pc,mT 26 (by omega),mT 5 (by omega),mT 9 (by omega),mT 11 (by omega),mT 13 (by omega),mT 15 (by omega),mT 18 (by omega),if_true,hb,aE.bOf]
 rw [bn.ex] at zD;obtain⟨r,hs3⟩:=zD;rw [hB,hmap] at hs3;refine eu.dU (r:=r) (vs:=λk=>if k=0 then val 5 else if k=1 then val 9 else if k=2 then val 11 else if k=3 then val 13 else if k=4 then val 15 else if k=5 then val 18 else if k=6 then vh else vn) ?_;simp only [jI,iD,Nat.reduceEqDiff,if_true,if_false];have r1:List.replicate 1 (0:Int)=[0]:=rfl;rw [r1] at hs3;exact bn.right (P:=pt A.next (.cells CV true 1)) (hs3.dV (by ac_rfl))
end
section
abbrev jB:List (Nat×Nat):=[(0,0),(1,0),(2,0),(3,0),(4,0),(5,0),(6,0),(7,0),(8,0),(9,0),(10,2),(11,3),(12,0),(13,0),(14,0),(15,3)]
abbrev jA:List (Nat×Nat):=[(0,0),(1,0),(2,0),(3,0),(4,0),(5,0),(6,0),(7,0),(9,0),(10,0),(8,2),(11,2),(12,0),(13,0)]
open T22
variable [Gl]
def jE (c:bH) (nt:Nat) (cr:List Int):Mm:=λk=>if k=0 then cr++List.replicate c.nb.toNat 0 else if k=1 then List.replicate c.am.toNat 0 else if k=5 then List.replicate nt 0 else if k=6 then jn c.c0 c.c1 else if k=7 then iq c.c0 c.c1 else [0]
def oN (c:bH):dG:=.cells [.int .i64 c.aR,.int .i64 c.am,.int .i64 c.base,.int .i64 c.c0,.int .i64 c.c1,.int .i64 c.c2,.int .i64 c.c3,.int .i64 c.reads,.int .i64 c.cM,.int .i64 c.ag,.int .i64 c.ar,.int .i64 c.aw,.bool c.aT] true 1
def wY (c:bH) (v0 v1 v5 v6 v7:Value):dG:=.cells [.int .i64 c.aR,.int .i64 c.am,.int .i64 c.base,.int .i64 c.c0,.int .i64 c.c1,.int .i64 c.c2,.int .i64 c.c3,.int .i64 c.reads,.int .i64 c.cM,.int .i64 c.ag,.int .i64 c.ar,.int .i64 c.aw,.bool c.aT,v0,v1,.int .u64 0,.int .u64 0,.int .u64 0,v5,v6,v7] true 1
abbrev na:Value:=.slice none 0 0
theorem uw {c:bH} (hc:rM c):((iq c.c0 c.c1).length:Int)=c.nb:=by
 have e:c.nb=c.c0+c.c1+c.c2+c.c3:=rfl;rw [e,hc.c2,hc.c3];rcases hc.c0 with h0|h0|h0<;>rcases hc.c1 with h1|h1|h1<;>rw [h0,h1]<;>decide
theorem HA {c:bH} (hc:rM c) (b:Nat) (hb:(b:Int)<c.nb):(iq c.c0 c.c1)[b]? = some (if (b:Int)+1<c.nb/\c8 c (b+1)=c8 c b then (b:Int)+2 else 0):=by
 have e:c.nb=c.c0+c.c1+c.c2+c.c3:=rfl;rw [e,hc.c2,hc.c3] at hb ⊢;unfold c8 wv;rw [hc.c2,hc.c3];rcases hc.c0 with h0|h0|h0<;>rcases hc.c1 with h1|h1|h1<;>rw [h0,h1] at hb ⊢
 all_goals(have UY:b=0\/b=1\/b=2\/b=3:=by omega)
 all_goals(rcases UY with rfl|rfl|rfl|rfl)
 all_goals(first|omega|(simp [iq];done))
def oX (c:bH):Nat->Int|0=>0|1=>c.c0|2=>c.c0+c.c1|3=>c.c0+c.c1+c.c2|_=>c.c0+c.c1+c.c2+c.c3
def wG (c:bH):Nat->Int|0=>c.c0|1=>c.c1|2=>c.c2|_=>c.c3
theorem EH {c:bH} (hc:rM c) (k:Nat) (hk:k<4):(jn c.c0 c.c1)[k]? = some (if 0<wG c k then oX c k+1 else 0):=by
 have hk4:k=0\/k=1\/k=2\/k=3:=by omega
 have h2:=hc.c2;have h3:=hc.c3;rcases hk4 with rfl|rfl|rfl|rfl
 all_goals(simp only [wG,oX,jn])
 all_goals(rcases hc.c0 with h0|h0|h0<;>rcases hc.c1 with h1|h1|h1<;>simp [h0,h1,h2,h3,oI])
theorem ah.ofZ {A:AW} {L K:List It} {b n:Nat} {k:IntKind} (h:ah A L) (hp:aB L (.at b (.cells (eJ [.int k 0] n) true 1)) K):ah A (.h (au k (.slice (some ⟨b,0,none⟩) n n) (List.replicate n 0))::K):=by
 have hz:eJ [Value.int k 0] n=(List.replicate n (0:Int)).map (Value.int k):=by
  clear hp
  induction n with
  | zero=>rfl
  | succ n ih=>rw [List.replicate_succ,List.map_cons,<-ih];rfl
 rw [hz] at hp;exact ah.OR _ _ h hp (by simp)
theorem Jq {A:AW} {L K:List It} {c:bH} {mb:Nat} {M:Mm} {v0 v1 v5 v6 v7:Value} (h:ah A L)
 (hp:aQ L [.at mb (wY c v0 v1 v5 v6 v7),.h (au .u64 v0 (M 0)),.h (au .u64 v1 (M 1)),.h (au .u64 v5 (M 5)),.h (au .u64 v6 (M 6)),.h (au .u64 v7 (M 7))] K) (h2:(M 2).getD 0 0=0) (h3:(M 3).getD 0 0=0) (h4:(M 4).getD 0 0=0):ah A (Bx c mb M::K):=by
 unfold ah at h;rw [hp.aL] at h;have h1:bn A (pt mb (wY c v0 v1 v5 v6 v7)*(au .u64 v0 (M 0)*(au .u64 v1 (M 1)*(au .u64 v5 (M 5)*(au .u64 v6 (M 6)*(au .u64 v7 (M 7)*aL K)))))):=h.dV (by
  show pt mb _*(au .u64 v0 (M 0)*(au .u64 v1 (M 1)*(au .u64 v5 (M 5)*(au .u64 v6 (M 6)*(au .u64 v7 (M 7)*eP)))))*aL K=_;rw [dt]
  ac_rfl)
 refine Qu.dU (cf:=c) (mb:=mb) (M:=M) (v0:=v0) (v1:=v1) (v5:=v5) (v6:=v6) (v7:=v7) ?_;rw [h2,h3,h4];exact h1
theorem R6 (c:bH) (k:Nat) (hk:k<4):[Value.int .i64 c.aR,.int .i64 c.am,.int .i64 c.base,.int .i64 c.c0,.int .i64 c.c1,.int .i64 c.c2,.int .i64 c.c3,.int .i64 c.reads,.int .i64 c.cM,.int .i64 c.ag,.int .i64 c.ar,.int .i64 c.aw,.bool c.aT][3+k]? = some (.int .i64 (wG c k)):=by
 have hk4:k=0\/k=1\/k=2\/k=3:=by omega
 rcases hk4 with rfl|rfl|rfl|rfl<;>rfl
theorem Ms (c:bH) (k:Nat) (hk:k<4):oX c (k+1)=oX c k+wG c k:=by
 have hk4:k=0\/k=1\/k=2\/k=3:=by omega
 rcases hk4 with rfl|rfl|rfl|rfl<;>simp [oX,wG]
theorem Ix {c:bH} (hc:rM c) (k:Nat):(0<=wG c k/\wG c k<=2)/\0<=oX c k/\oX c k<=4:=by
 have h0:=hc.c0;have h1:=hc.c1;have h2:=hc.c2;have h3:=hc.c3;unfold wG oX
 repeat' split
 all_goals omega
set_option maxRecDepth 100000 in
theorem FD (c:bH) (hF:rM c) (nt:Nat) (wR:nt<=16) (vi:Value) (cr:List Int) (hi:(cr.length:Int)=c.aR) (A:AW) (F X:HP) (hX:∀{A:AW} {L K:List It},ah A L->aB L (.h X) K->dz A .u64 vi cr) (hw:A.Wf) (hS:ah A [.h X,.h F]) :
 az Tryz.prog 27 [c.v,.int .i64 (nt:Int),vi] A (λv A'=>∃mb,v=pv mb/\ah A' [Bx c mb (jE c nt cr),.h X,.h F]):=by
 refine aH Tryz.func27 λ_=>?_;have AE:=w8 c hF.ok;have iR:=λb=>Hk c hF.ok b;obtain⟨oi,ci,rfl,_⟩:=(hX hS .z).dO;have Ai:=uw hF;obtain⟨nb,Aj⟩:∃nb:Nat,c.nb=nb:=⟨c.nb.toNat,by omega⟩;have WO:=hF.ok.aR;have ho64:=hF.ok.am;have hnb4:nb<=64:=by have:=hF.ok.nb;omega
 rw [Aj] at AE;dsimp only [bH.v] at AE iR ⊢;revert hS hw;refine W (J3 (od jB) (od jA) @AE) (J1 bF) ?_<;>(unhygienic intros)
 refine dW (λk fr A'=>A'.Wf/\∃(j:Nat) (v0:Value) (q:List Int),q=cr.take j/\k=cr.length-j/\j<=cr.length/\fr 1=.int .i64 (nt:Int)/\fr 2=.slice oi cr.length ci/\fr 3=pv A.next/\fr 7=.int .i64 (nb:Int)/\fr 8=pv (A.next+1)/\fr 9=.int .i64 (j:Int)/\
  ah A' [.at (A.next+1) (wY c v0 na na na na),.at A.next (oN c),.h (au .u64 v0 q),.h X,.h F]) cr.length ?_ ?_
 refine⟨(hw.alloc _).alloc _,0,na,[],by simp,by simp,by simp,by simp,by simp,by simp,by simp,by simp,by simp,?_⟩;apply ah.bI;apply ah.pS .u64
 (·exact sA)
 (·first|exact pA|exact kA)
 rintro k fr A1 ⟨hw,j,v0,q,zF,rfl,hj,f1,f2,f3,f7,f8,f9,hS⟩;have hI:=hX hS (.s (.s (.s .z)));have hql:q.length=j:=by rw [zF];simp;omega
 obtain⟨o0,c0,rfl,_⟩:=(ah.pG hS (.s (.s .z))).dO;have hq:=LM hS hw;by_cases cF:j<cr.length
 . have fZ:(j:Int)<c.aR:=(by omega);have LT:IntKind.i64.wrap ((j:Int)+1)=((j+1:Nat):Int):=an (by omega) (by omega);obtain⟨p,cD,rfl,cH,hcell⟩:=hI.at cF;have IS:cr.take (j+1)=cr.take j++[cr[j]]:=List.take_succ_eq_append_getElem cF;generalize cr[j]=x at *
   have bI:∀(A':AW) (tK:Fr),A'.Wf->tK 1=.int .i64 (nt:Int)->tK 2=.slice (some p) cr.length ci->tK 3=pv A.next->tK 7=.int .i64 (nb:Int)->tK 8=pv (A.next+1)->tK 9=.int .i64 ((j+1:Nat):Int)->
    (∃v0,ah A' [.at (A.next+1) (wY c v0 na na na na),.at A.next (oN c),.h (au .u64 v0 (q++[x])),.h X,.h F])->
    ∃k',k'<cr.length-j/\A'.Wf/\∃(j:Nat) (v0:Value) (q:List Int),q=cr.take j/\k'=cr.length-j/\j<=cr.length/\tK 1=.int .i64 (nt:Int)/\tK 2=.slice (some p) cr.length ci/\tK 3=pv A.next/\tK 7=.int .i64 (nb:Int)/\tK 8=pv (A.next+1)/\tK 9=.int .i64 (j:Int)/\
     ah A' [.at (A.next+1) (wY c v0 na na na na),.at A.next (oN c),.h (au .u64 v0 q),.h X,.h F]:=by
    rintro A' tK lp e1 e2 e3 e7 e8 e9 ⟨v0,h⟩;exact⟨cr.length-(j+1),by omega,lp,j+1,v0,q++[x],by rw [IS,zF],rfl,by omega,e1,e2,e3,e7,e8,e9,h⟩
   revert hq hS hw;(repeat first|clear hq|clear hS|clear hw|revert hc|revert R|revert K);refine Wu (J2 (od jB) (od jA)) (rL f1 f2 f3 f7 f8 f9 cH hcell fZ cF LT bF) ?_<;>(unhygienic intros);refine bI _ _ ?_ (by simp [f1]) (by simp [f2]) (by simp [f3]) (by simp [f7]) (by simp [f8]) (by simp) ?_;exact wA;apply Exists.intro;apply ah.bI
   (·exact sA)
   (·first|exact pA|exact kA)
 have V1:j=cr.length:=by omega
 have fZ:¬(j:Int)<c.aR:=by omega
 have Rx:q=cr:=by rw [zF,V1,List.take_length]
 subst Rx;clear zF;revert hq hS hw;(repeat first|clear hq|clear hS|clear hw|revert hc|revert R|revert K);refine W (J2 (od jB) (od jA)) (J8 f1 f2 f3 f7 f8 f9 fZ bF) ?_<;>(unhygienic intros)
 refine dW (λk fr A'=>A'.Wf/\∃(b:Nat) (v0 v7:Value) (d r:List Int),d=q++List.replicate b 0/\r=(iq c.c0 c.c1).take b/\k=nb-b/\b<=nb/\fr 1=.int .i64 (nt:Int)/\fr 3=pv A.next/\fr 7=.int .i64 (nb:Int)/\fr 8=pv (A.next+1)/\fr 10=.int .i64 (b:Int)/\
  ah A' [.at (A.next+1) (wY c v0 na na na v7),.at A.next (oN c),.h (au .u64 v0 d),.h (au .u64 v7 r),.h X,.h F]) nb ?_ ?_
 refine⟨hw,0,.slice o0 q.length c0,na,q,[],by simp,by simp,by simp,by simp,by simp [f1],by simp [f3],by simp [f7],by simp [f8],by simp,?_⟩;apply ah.bI;exact ah.pS .u64 hS
 (·first|exact pA|exact kA)
 clear cF fZ hql hI hq hS hw f1 f2 f3 f7 f8 f9 V1;rintro k fr A2 ⟨hw,b,v0,v7,d,r,hde,ST,rfl,hb,f1,f3,f7,f8,GU,hS⟩;have hdl:d.length=q.length+b:=by rw [hde];simp
 have WU:r.length=b:=by rw [ST];simp;omega
 obtain⟨o0,c0,rfl,_⟩:=(ah.pG hS (.s (.s .z))).dO;obtain⟨o7,c7,rfl,_⟩:=(ah.pG hS (.s (.s (.s .z)))).dO;have hq:=LM hS hw;by_cases cF:b<nb
 . have fZ:(b:Int)<nb:=(by omega);have LT:IntKind.i64.wrap ((b:Int)+1)=(b:Int)+1:=an (by omega) (by omega);have GS:IntKind.i64.wrap ((b:Int)+2)=(b:Int)+2:=an (by omega) (by omega);have RF:IntKind.u64.wrap ((b:Int)+2)=(b:Int)+2:=ax (by omega) (by omega);have nc:=HA hF b (by omega);rw [Aj] at nc;have IS:∀x,(iq c.c0 c.c1)[b]? = some x->(iq c.c0 c.c1).take (b+1)=(iq c.c0 c.c1).take b++[x]:=λx hx=>by rw [List.take_add_one,hx];rfl
   have bI:∀(x:Int) (A':AW) (tK:Fr),A'.Wf->(iq c.c0 c.c1)[b]? = some x->tK 1=.int .i64 (nt:Int)->tK 3=pv A.next->tK 7=.int .i64 (nb:Int)->tK 8=pv (A.next+1)->tK 10=.int .i64 ((b:Int)+1)->
    (∃v0 v7,ah A' [.at (A.next+1) (wY c v0 na na na v7),.at A.next (oN c),.h (au .u64 v0 (d++[0])),.h (au .u64 v7 (r++[x])),.h X,.h F])->
    ∃k',k'<nb-b/\A'.Wf/\∃(b:Nat) (v0 v7:Value) (d r:List Int),d=q++List.replicate b 0/\r=(iq c.c0 c.c1).take b/\k'=nb-b/\b<=nb/\tK 1=.int .i64 (nt:Int)/\tK 3=pv A.next/\tK 7=.int .i64 (nb:Int)/\tK 8=pv (A.next+1)/\tK 10=.int .i64 (b:Int)/\
   ah A' [.at (A.next+1) (wY c v0 na na na v7),.at A.next (oN c),.h (au .u64 v0 d),.h (au .u64 v7 r),.h X,.h F]:=by
    rintro x A' tK lp hx e1 e3 e7 e8 e10 ⟨v0,v7,h⟩;refine⟨nb-(b+1),by omega,lp,b+1,v0,v7,d++[0],r++[x],by rw [hde,List.append_assoc,<-List.replicate_succ'],by rw [ST,IS x hx],rfl,by omega,e1,e3,e7,e8,by rw [e10];push_cast;rfl,h⟩
   by_cases h1:(b:Int)+1<nb
   . by_cases h2:c8 c ((b:Int)+1)=c8 c b
     . rw [ay ⟨h1,h2⟩] at nc;revert hq hS hw;(repeat first|clear hq|clear hS|clear hw|revert hc|revert R|revert K);refine Wu (J3 (od jB) (od jA) @iR) (kM f1 f3 f7 f8 GU fZ cF LT GS RF h1 h2 bF) ?_<;>(unhygienic intros);refine bI _ _ _ ?_ nc (by simp [f1]) (by simp [f3]) (by simp [f7]) (by simp [f8]) (by simp) ?_;exact wA;apply Exists.intro;apply Exists.intro;apply ah.bI
       (·exact sA)
       (·first|exact pA|exact kA)
     rw [ap (λe=>h2 e.2)] at nc;revert hq hS hw;(repeat first|clear hq|clear hS|clear hw|revert hc|revert R|revert K);refine Wu (J3 (od jB) (od jA) @iR) (kM f1 f3 f7 f8 GU fZ cF LT GS RF h1 h2 bF) ?_<;>(unhygienic intros);refine bI _ _ _ ?_ nc (by simp [f1]) (by simp [f3]) (by simp [f7]) (by simp [f8]) (by simp) ?_;exact wA;apply Exists.intro;apply Exists.intro;apply ah.bI
     (·exact sA)
     (·first|exact pA|exact kA)
   rw [ap (λe=>h1 e.1)] at nc;revert hq hS hw;(repeat first|clear hq|clear hS|clear hw|revert hc|revert R|revert K);refine Wu (J3 (od jB) (od jA) @iR) (rL f1 f3 f7 f8 GU fZ cF LT GS RF h1 bF) ?_<;>(unhygienic intros);refine bI _ _ _ ?_ nc (by simp [f1]) (by simp [f3]) (by simp [f7]) (by simp [f8]) (by simp) ?_;exact wA;apply Exists.intro;apply Exists.intro;apply ah.bI
   (·exact sA)
   (·first|exact pA|exact kA)
 have hbe:b=nb:=by omega
 subst hbe;have fZ:¬(b:Int)<b:=by omega
 have FX:r=iq c.c0 c.c1:=by rw [ST];exact List.take_of_length_le (by omega)
 subst FX;clear ST;have DO:(nt:Int)<=140737488355328:=by omega
 have GR:(nt:Int)*8<=140737488355328:=by omega
 obtain⟨no,AD⟩:∃no:Nat,c.am.toNat=no:=⟨_,rfl⟩;have ho0:0<=c.am:=by omega
 have ho1:c.am<=140737488355328:=by omega
 have RB:c.am*8<=140737488355328:=by omega
 revert hq hS hw;(repeat first|clear hq|clear hS|clear hw|revert hc|revert R|revert K);refine W (J2 (od jB) (od jA)) (rL f1 f3 f7 f8 GU AD ho0 DO GR ho1 RB bF) ?_<;>(unhygienic intros);obtain⟨vO,hvO⟩:∃vO,vO=Value.slice (some ⟨A2.next,0,none⟩) no no:=⟨_,rfl⟩;obtain⟨vS,hvS⟩:∃vS,vS=Value.slice (some ⟨A2.next+1,0,none⟩) nt nt:=⟨_,rfl⟩
 refine dW (λk fr A'=>A'.Wf/\∃(j:Nat) (v6:Value) (r6:List Int),r6=(jn c.c0 c.c1).take j/\k=4-j/\j<=4/\fr 3=pv A.next/\fr 8=pv (A.next+1)/\fr 12=.int .i64 (oX c j)/\fr 13=.int .i64 (j:Int)/\
  ah A' [.at (A.next+1) (wY c (.slice o0 d.length c0) vO vS v6 (.slice o7 (iq c.c0 c.c1).length c7)),.at A.next (oN c),.h (au .u64 v6 r6),.h (au .u64 (.slice o0 d.length c0) d),.h (au .u64 vO (List.replicate no 0)),.h (au .u64 vS (List.replicate nt 0)),.h (au .u64 (.slice o7 (iq c.c0 c.c1).length c7) (iq c.c0 c.c1)),.h X,.h F]) 4 ?_ ?_
 . refine⟨?_,0,na,[],by simp,by simp,by simp,by simp [f3],by simp [f8],by simp [oX],by simp,?_⟩;exact wA;subst hvO;subst hvS;apply ah.bI
   . apply ah.pS .u64;apply ah.ofZ (k:=.u64) (b:=A2.next) (n:=no)
     . apply ah.ofZ (k:=.u64) (b:=A2.next+1) (n:=nt)
       . repeat' (first|exact hS|exact Nat.le_refl _|with_reducible apply ah.fp|with_reducible apply ah.KY|with_reducible apply AW.BK|with_reducible apply AW.Jz|with_reducible apply aB.z|with_reducible apply aB.s|assumption|apply AW.Wf.alloc|apply AW.Wf.set|(simp only [AW.bx,AW.rq];omega)|apply ah.WK hS hw|exact rfl)
       repeat' (first|exact aB.z|apply aB.s)
     repeat' (first|exact aB.z|apply aB.s)
   (·first|exact pA|exact kA)
 clear cF fZ hdl DO GR ho1 RB hq hS hw f1 f3 f7 f8 GU WO ho64 hnb4;rintro k fr A3 ⟨hw,j,v6,r6,ST,rfl,hj,f3,f8,GT,QP,hS⟩;have WU:r6.length=j:=by rw [ST];simp [jn];omega
 obtain⟨o6,c6,rfl,_⟩:=(ah.pG hS (.s (.s .z))).dO;have hq:=LM hS hw;by_cases cF:j<4
 . have fZ:(j:Int)<4:=(by omega);have cH:=R6 c j cF;have hss:=Ms c j cF;have nc:=EH hF j cF;obtain⟨g1,g2⟩:=Ix hF j;have LT:IntKind.i64.wrap ((j:Int)+1)=(j:Int)+1:=an (by omega) (by omega);have GS:IntKind.i64.wrap (oX c j+1)=oX c j+1:=an (by omega) (by omega);have RF:IntKind.u64.wrap (oX c j+1)=oX c j+1:=ax (by omega) (by omega);have hj4:IntKind.i64.wrap (oX c j+wG c j)=oX c j+wG c j:=an (by omega) (by omega);have IS:∀x,(jn c.c0 c.c1)[j]? = some x->(jn c.c0 c.c1).take (j+1)=(jn c.c0 c.c1).take j++[x]:=λx hx=>by rw [List.take_add_one,hx];rfl
   have bI:∀(x:Int) (A':AW) (tK:Fr),A'.Wf->(jn c.c0 c.c1)[j]? = some x->tK 3=pv A.next->tK 8=pv (A.next+1)->tK 12=.int .i64 (oX c j+wG c j)->tK 13=.int .i64 ((j:Int)+1)->
    (∃v6,ah A' [.at (A.next+1) (wY c (.slice o0 d.length c0) vO vS v6 (.slice o7 (iq c.c0 c.c1).length c7)),.at A.next (oN c),.h (au .u64 v6 (r6++[x])),.h (au .u64 (.slice o0 d.length c0) d),.h (au .u64 vO (List.replicate no 0)),.h (au .u64 vS (List.replicate nt 0)),.h (au .u64 (.slice o7 (iq c.c0 c.c1).length c7) (iq c.c0 c.c1)),.h X,.h F])->
    ∃k',k'<4-j/\A'.Wf/\∃(j:Nat) (v6:Value) (r6:List Int),r6=(jn c.c0 c.c1).take j/\k'=4-j/\j<=4/\tK 3=pv A.next/\tK 8=pv (A.next+1)/\tK 12=.int .i64 (oX c j)/\tK 13=.int .i64 (j:Int)/\
     ah A' [.at (A.next+1) (wY c (.slice o0 d.length c0) vO vS v6 (.slice o7 (iq c.c0 c.c1).length c7)),.at A.next (oN c),.h (au .u64 v6 r6),.h (au .u64 (.slice o0 d.length c0) d),.h (au .u64 vO (List.replicate no 0)),.h (au .u64 vS (List.replicate nt 0)),.h (au .u64 (.slice o7 (iq c.c0 c.c1).length c7) (iq c.c0 c.c1)),.h X,.h F]:=by
    rintro x A' tK lp hx e3 e8 e12 e13 ⟨v6,h⟩;exact⟨4-(j+1),by omega,lp,j+1,v6,r6++[x],by rw [ST,IS x hx],rfl,by omega,e3,e8,by rw [e12,hss],by rw [e13];push_cast;rfl,h⟩
   generalize wG c j=cn at *;generalize oX c j=sm at *;by_cases hp:0<cn
   . rw [ay hp] at nc;revert hq hS hw;(repeat first|clear hq|clear hS|clear hw|revert hc|revert R|revert K);refine Wu (J2 (od jB) (od jA)) (kM f3 f8 GT QP fZ cF cH LT GS RF hj4 hp bF) ?_<;>(unhygienic intros);refine bI _ _ _ ?_ nc (by simp [f3]) (by simp [f8]) (by simp [GT]) (by simp) ?_;exact wA;apply Exists.intro;apply ah.bI
     (·exact sA)
     (·first|exact pA|exact kA)
   rw [ap hp] at nc;revert hq hS hw;(repeat first|clear hq|clear hS|clear hw|revert hc|revert R|revert K);refine Wu (J2 (od jB) (od jA)) (kM f3 f8 GT QP fZ cF cH LT GS RF hj4 hp bF) ?_<;>(unhygienic intros);refine bI _ _ _ ?_ nc (by simp [f3]) (by simp [f8]) (by simp [GT]) (by simp) ?_;exact wA;apply Exists.intro;apply ah.bI
   (·exact sA)
   (·first|exact pA|exact kA)
 have V1:j=4:=by omega
 subst V1;have hr6:r6=jn c.c0 c.c1:=by rw [ST];rfl
 subst hr6;revert hq hS hw;(repeat first|clear hq|clear hS|clear hw|revert hc|revert R|revert K);refine W (J2 (od jB) (od jA)) (J5 f3 f8 GT QP bF) ?_<;>(unhygienic intros);refine⟨_,by first|(simp;done)|(simp;rfl),A.next+1,rfl,?_⟩;apply ah.bI
 . apply Jq (M:=jE c nt q) (v0:=.slice o0 d.length c0) (v1:=vO) (v5:=vS) (v6:=.slice o6 (jn c.c0 c.c1).length c6) (v7:=.slice o7 (iq c.c0 c.c1).length c7);exact hS;have e0:jE c nt q 0=d:=by show q++List.replicate c.nb.toNat 0=d;rw [Aj,hde];rfl
   have e1:jE c nt q 1=List.replicate no 0:=by show List.replicate c.am.toNat 0=_;rw [AD]
   rw [e0,e1]
   (·first|exact pA|exact kA)
   all_goals rfl
 (·first|exact pA|exact kA)
def ir (c:bH):List Int:=(List.range c.aR.toNat).map λi:Nat=>10*(i:Int)+1
theorem Hh (c:bH) (hF:rM c) (nt:Nat) (wR:nt<=16) (vi:Value) (cr:List Int) (hi:(cr.length:Int)=c.aR) (A:AW) (F:HP) (hw:A.Wf) (hS:ah A [.h (au .u64 vi cr),.h F]) :
 az Tryz.prog 27 [c.v,.int .i64 (nt:Int),vi] A (λv A'=>∃mb,v=pv mb/\ah A' [Bx c mb (jE c nt cr),.h (au .u64 vi cr),.h F]):=FD c hF nt wR vi cr hi A F _ (λh e=>ah.pG h e) hw hS
end
section
open T20 T13
variable [Gl]
def kO (s:aF):List Int:=s.bp.bK.filter (λa=>decide (a<s.cf.aR))
theorem Nx {A:AW} {L K:List It} {k:Value->AW->Prop} {v:Value} {l:List Int} (hw:A.Wf) (hS:ah A L) (hp:aB L (.h (au .i64 v l)) K) (hl:l.length<2^38)
 (hk:∀o c A',ah A' (.h (au .i64 (.slice o l.length c) l)::L)->A'.Wf->A.le A'->k (.slice o l.length c) A'):az Tryz.prog 90 [v] A k:=by
 refine bV (j0 v l A (ah.pG hS hp) (by omega)) ?_;rintro u A' ⟨h1,h2⟩ lp _;obtain⟨o,c,rfl,_⟩:=h1.is.dO;exact hk o c A' (au.jF hS hw h2 h1) lp h2
theorem G0 (b:Nat) (s:aF) (br:Int) (d:bm) (hC:fN s) (f:pi) (A:AW) (F:HP) (hw:A.Wf) (hS:ah A (bW b s br d f++[.h F])) :
 az Tryz.prog 71 [pv b] A (λv A'=>∃u w,v=.tuple #[u,w]/\ah A' (.h (au .i64 u s.reads)::.h (au .i64 w (kO s))::(bW b s br d f++[.h F]))):=by
 refine aH Tryz.func71 λ_=>?_;have b6:=hC.len;have SU:=hC.BA;obtain⟨dP,d9,bG,cJ,cA,m,c0,c1,c2,cX,bj,bO,bQ,dQ,cY,eB,bR,bP,aZ,cZ,db,fR,dR⟩:=f;dsimp only [bW,aa,af] at hS;have hq:=ff hS hw
 repeat' (first|(refine jK λR hR=>?_;simp [an,ax,hq,AW.ab,aD];try simp (disch:=omega) only [ay,ap,an,ax])|(refine hR _ _ ?_;clear hR R)|(refine hK _ _ ?_;clear hK K)|refine nx ?_|refine wn λK hK=>?_|simp only [wS]|(show cB _ _ _ _ _ _;refine nx ?_)|(refine wc rfl (λhc=>?_) (λhc=>?_)<;>(try simp at hc)<;>(try omega)<;>(try (simp [h2] at hc;done))<;>(try (simp [h3] at hc;done))<;>(try (simp [h4] at hc;done)))|(refine ib (λhc=>?_) (λhc=>?_)<;>(try omega)<;>(try simp (disch:=omega) only [ay,ap])))
 apply sw (n:=d9) (s:=s.bp);exact hw;exact hS
 (·first|exact pP|exact kP)
 omega;intro o1 c3 A1 hS hw _;generalize hn:s.bp.bK=ad at *;revert hq hS hw;(repeat first|clear hq|clear hS|clear hw|revert hc|revert R|revert K);refine Wp cy (J1 bF) ?_<;>(unhygienic intros)
 refine dW (λk fr A'=>A'.Wf/\∃(i:Nat) (v:Value) (q:List Int),q=(ad.take i).filter (λa=>decide (a<s.cf.aR))/\k=ad.length-i/\i<=ad.length/\fr 0=pv b/\fr 3=v/\fr 11=.slice o1 ad.length c3/\fr 12=.int .i64 ad.length/\fr 13=.int .i64 i/\
  ah A' (.h (au .i64 v q)::.h (au .i64 (.slice o1 ad.length c3) ad)::(bW b s br d ⟨dP,d9,bG,cJ,cA,m,c0,c1,c2,cX,bj,bO,bQ,dQ,cY,eB,bR,bP,aZ,cZ,db,fR,dR⟩++[.h F]))) ad.length ?_ ?_
 refine⟨hw,0,.slice none 0 0,[],by simp,by simp,by simp,by simp,by simp,by simp,by simp,by simp,?_⟩;exact ah.pS .i64 hS;rintro k fr A' ⟨hw,i,v,q,zF,rfl,hi,h0,h3,DQ,F4,Ng,hS⟩;have hI:=ah.pG hS (.s .z);have Tb:=ah.pG hS .z;have hql:q.length<=i:=by
  rw [zF];have:=List.length_filter_le (λa=>decide (a<s.cf.aR)) (ad.take i);have h9:(ad.take i).length<=i:=by simp;omega
  omega
 obtain⟨ov,cv,rfl,_⟩:=Tb.dO;dsimp only [bW,gH,b9,dZ,bm.fA,aa,af] at hS;have hq:=LN hS hw;refine bh ?_;by_cases cF:i<ad.length
 . have fZ:(i:Int)<ad.length:=(by omega);have hP:=D9 (i:=i);obtain⟨p,cD,rfl,cH,hcell⟩:=hI.at cF;have IS:ad.take (i+1)=ad.take i++[ad[i]]:=List.take_succ_eq_append_getElem cF;by_cases h:ad[i]<s.cf.aR
   . revert hq hS hw;(repeat first|clear hq|clear hS|clear hw|revert hc|revert R|revert K);refine Wu cy (rL h0 h3 DQ F4 Ng cH hcell h cF fZ hP bF) ?_<;>(unhygienic intros);refine⟨ad.length-(i+1),by omega,hw,i+1,_,q++[ad[i]],?_,rfl,by omega,by simp [h0],by simp;rfl,by simp [DQ],by simp [F4],by simp,?_⟩;rw [zF,IS,List.filter_append];simp [h];apply ah.bI hS;dsimp only [bW,gH,b9,dZ,bm.fA,aa,af]
     (·first|exact pP|exact kP)
   revert hq hS hw;(repeat first|clear hq|clear hS|clear hw|revert hc|revert R|revert K);refine Wp cy (rL h0 h3 DQ F4 Ng cH hcell h cF fZ hP bF) ?_<;>(unhygienic intros);refine⟨ad.length-(i+1),by omega,hw,i+1,_,q,?_,rfl,by omega,by simp [h0],by simp [h3];rfl,by simp [DQ],by simp [F4],by simp,?_⟩;rw [zF,IS,List.filter_append];simp [h];apply ah.bI hS;dsimp only [bW,gH,b9,dZ,bm.fA,aa,af]
   (·first|exact pP|exact kP)
 have Ki:i=ad.length:=by omega
 subst Ki;rw [List.take_length] at zF;revert hq hS hw;(repeat first|clear hq|clear hS|clear hw|revert hc|revert R|revert K);refine Wp (J1 (Tg.mk (n:=11) @Nx)) (J6 h0 h3 DQ F4 Ng bF) ?_<;>(unhygienic intros);refine⟨_,by first|(simp [h3];done)|(simp [h3];rfl),?_⟩;refine⟨_,_,rfl,?_⟩;have Uo:kO s=q:=by unfold kO;rw [hn,zF]
 rw [Uo];apply ah.bI hS;dsimp only [bW,aa,af]
 (·first|exact pP|exact kP)
theorem E5 (n:Nat) (s:aF) (hC:fN s):d8 Tryz.prog 71 [pv n] [.h (aX n s)] (λ(x:(Option Addr×Nat)×Option Addr×Nat) v=>v=.tuple #[.slice x.1.1 s.reads.length x.1.2,.slice x.2.1 (kO s).length x.2.2]) (λx=>[.h (au .i64 (.slice x.1.1 s.reads.length x.1.2) s.reads),.h (au .i64 (.slice x.2.1 (kO s).length x.2.2) (kO s)),.h (aX n s)]):=by
 intro A F hw hS;obtain⟨f,hS⟩:=aX.open hS .z;rw [List.append_assoc] at hS;have mg:ah A (bW n s s.aC.fA s.aC f++[.h (aL (gH n s.aC f++[.h F]))]):=by
  unfold ah at hS ⊢;rw [fi] at hS ⊢;show bn A (aL (bW n s s.aC.fA s.aC f)*(aL (gH n s.aC f++[.h F])*eP));rw [dt];exact hS
 refine(G0 n s s.aC.fA s.aC hC f A _ hw mg).mono ?_;rintro v A' ⟨u,w,rfl,h⟩;obtain⟨o1,c1,rfl,_⟩:=(ah.pG h .z).dO;obtain⟨o2,c2,rfl,_⟩:=(ah.pG h (.s .z)).dO;refine⟨((o1,c1),o2,c2),rfl,?_⟩;show ah A' [.h (au .i64 (.slice o1 s.reads.length c1) s.reads),.h (au .i64 (.slice o2 (kO s).length c2) (kO s)),.h (aX n s),.h F];generalize hu:Value.slice o1 s.reads.length c1=u at h ⊢;generalize hv:Value.slice o2 (kO s).length c2=w at h ⊢;unfold ah at h ⊢;have h3:bn A' (au .i64 u s.reads*(au .i64 w (kO s)*aL (bW n s s.aC.fA s.aC f++[.h (aL (gH n s.aC f++[.h F]))]))):=h;rw [fi,show aL [It.h (aL (gH n s.aC f++[.h F]))]=aL (gH n s.aC f++[.h F]) from dt _,fi] at h3;show bn A' (au .i64 u s.reads*(au .i64 w (kO s)*(aX n s*(F*eP))));rw [dt];have h4:bn A' (aL (bW n s s.aC.fA s.aC f++gH n s.aC f)*(au .i64 u s.reads*(au .i64 w (kO s)*F))):=by
  rw [fi];refine h3.dV ?_;rw [show aL [It.h F]=F from dt F]
  ac_rfl
 have h5:bn A' (aX n s*(au .i64 u s.reads*(au .i64 w (kO s)*F))):=by
  show bn A' (pe (λf:pi=>aL (bW n s s.aC.fA s.aC f++gH n s.aC f))*_);rw [bn.ex];exact⟨f,h4⟩
 exact h5.dV (by ac_rfl)
end
section
namespace TImageA
theorem kI [Gl] {A:AW} {L:List It} {T:Prop} (hS:ah A L) (hw:A.Wf) (h':(aK A L/\ba A L/\bD L)=T:=by first|(dsimp only [aa,af,aK,ba,bD,dN];done)|exact rfl):T:=h'▸hS.dT hw
end TImageA
open TImageA
variable [Gl]
def Sq (A:AW) (v:Value) (M:Nat->List Int):Prop:=
 ∃v0 v1 v5 v6 v7,v=.agg #[v0,v1,.int .u64 ((M 2).getD 0 0),.int .u64 ((M 3).getD 0 0),.int .u64 ((M 4).getD 0 0),v5,v6,v7]/\
  dz A .u64 v0 (M 0)/\dz A .u64 v1 (M 1)/\dz A .u64 v5 (M 5)/\dz A .u64 v6 (M 6)/\dz A .u64 v7 (M 7)
end
section
open T7
variable [Gl]
structure ImgF where
 v0:Option Addr×Nat
 v1:Option Addr×Nat
 v5:Option Addr×Nat
 v6:Option Addr×Nat
 v7:Option Addr×Nat
def Wr (x:Option Addr×Nat) (l:List Int):Value:=.slice x.1 l.length x.2
end
section
namespace TLawK
theorem kI [Gl] {A:AW} {L:List It} {T:Prop} (hS:ah A L) (hw:A.Wf) (h':(aK A L/\ba A L/\bD L)=T:=by first|(dsimp only [aa,af,aK,ba,bD,dN];done)|exact rfl):T:=h'▸hS.dT hw
end TLawK
open TLawK
variable [Gl]
end
end Go.Stx
