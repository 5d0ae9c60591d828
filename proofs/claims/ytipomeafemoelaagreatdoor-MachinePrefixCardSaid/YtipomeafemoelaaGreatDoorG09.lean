/-
 The program's cells, made anew.
-/
import Derived.Test.YtipomeafemoelaaGreatDoorG08
set_option linter.unusedVariables false
set_option linter.unusedSimpArgs false
set_option linter.unusedSectionVars false
set_option maxRecDepth 20000
set_option maxHeartbeats 4000000
namespace Go.Stx
open Go Go.Proofs
attribute [local irreducible] TW bA cM aS ax aH cJ de
section
variable [Gl]
namespace aC
def DW:Value->Nat
 | .map (some r)=>r
 | _=>0
def bOf:Value->Nat
 | .pointer (some p)=>p.block
 | _=>0
def r25:Value->Nat
 | .agg cs=>DW (cs.getD 0 undef)
 | _=>0
def pc (b:Bool) (P:HP):HP:=if b=true then P else eC
def fS (S:Nat->Bool) (val:Nat->Value) (vh vn:Value) (key:Int):Option Value:=
 if key=1 then (if S 6=true/\S 5=true then some (val 5) else none)
 else if key=2 then (if S 10=true/\S 9=true then some (val 9) else none)
 else if key=3 then (if S 12=true/\S 11=true then some (val 11) else none)
 else if key=4 then (if S 14=true/\S 13=true then some (val 13) else none)
 else if key=5 then (if S 16=true/\S 15=true then some (val 15) else none)
 else if key=6 then (if S 19=true/\S 18=true then some (val 18) else none)
 else if key=7 then (if S 21=true then some vh else none)
 else if key=8 then (if S 23=true then some vn else none) else none
def iR (S:Nat->Bool) (val:Nat->Value) (vh vn:Value):HP:=
 if S 26=true then pG λr=>pt (bOf (val 26)) (.cells [.map (some r)] true 1)*gl .i64 r (fS S val vh vn)
 else if S 25=true then gl .i64 (r25 (val 25)) (fS S val vh vn)
 else if S 24=true then gl .i64 (DW (val 24)) (fS S val vh vn)
 else if S 0=true then gl .i64 (DW (val 0)) (fS S val vh vn) else eC
def fD (S:Nat->Bool) (val:Nat->Value) (d7:List Int) (nn:Nat):HP:=
 if S 5=true then ap .u64 (val 5) (d7++List.replicate nn 0) else if S 2=true then ap .u64 (val 2) d7 else eC
def G (d7:List Int) (nn no nt:Nat) (vh vn:Value) (B:HP) (S:Nat->Bool) (val:Nat->Value):HP:=
 iR S val vh vn*(fD S val d7 nn*(pc (S 9) (ap .u64 (val 9) (List.replicate no 0))*(pc (S 11) (ap .u64 (val 11) (List.replicate 1 0))*(pc (S 13) (ap .u64 (val 13) (List.replicate 1 0)) *
  (pc (S 15) (ap .u64 (val 15) (List.replicate 1 0))*(pc (S 18) (ap .u64 (val 18) (List.replicate nt 0))*B))))))
def Et (vi vh vn:Value) (cb nn no nt:Nat) (j:Nat) (val:Nat->Value):Prop:=
 match j with
 | 0=>∃r,val 0=.map (some r)
 | 1=>val 1=vi
 | 3=>val 3=vn
 | 4=>val 4=.int .i64 (nn:Int)
 | 7=>val 7=.pointer (some ⟨cb,1,none⟩)
 | 8=>val 8=.int .i64 (no:Int)
 | 17=>val 17=.int .i64 (nt:Int)
 | 20=>val 20=vh
 | 22=>val 22=vn
 | 24=>∃r,val 24=.map (some r)
 | 25=>∃r,val 25=.agg #[.map (some r)]
 | 26=>∃b,val 26=.pointer (some ⟨b,0,none⟩)
 | 27=>val 27=val 26
 | 28=>val 28=.int .i64 0
 | _=>True
theorem TT {d7:List Int} {nn no nt:Nat} {vh vn:Value} {B:HP} {S S':Nat->Bool} {val Pd:Nat->Value} (hm:iR S' Pd vh vn=iR S val vh vn) (hd:fD S' Pd d7 nn=fD S val d7 nn)
 (h:∀k,k=9\/k=11\/k=13\/k=15\/k=18->S' k=S k/\(S k=true->Pd k=val k)):G d7 nn no nt vh vn B S' Pd=G d7 nn no nt vh vn B S val:=by
 have key:∀k n,k=9\/k=11\/k=13\/k=15\/k=18->pc (S' k) (ap .u64 (Pd k) (List.replicate n 0))=pc (S k) (ap .u64 (val k) (List.replicate n 0)):=λk n hk=>by
  obtain⟨h1,h2⟩:=h k hk;unfold pc;rw [h1];split;rename_i e;rw [h2 e];rfl
 unfold G;rw [hm,hd,key 9 no (by simp),key 11 1 (by simp),key 13 1 (by simp),key 15 1 (by simp),key 18 nt (by simp)]
end aC
set_option maxRecDepth 100000 in
theorem ES (nt nn no:Nat) (vi:Value) (d7:List Int) (ba ao base n0 n1 n2 n3 reads bK ak av aw:Int) (aT:Bool) (hc:qZ ⟨ba,ao,base,n0,n1,n2,n3,reads,bK,ak,av,aw,aT⟩) (A:AW) (F R:HP) (hR:∀(A:AW) (F:HP),bk A (R*F)->bx A .u64 vi d7) (hw:A.Wf) (hS:bk A (R*F)) (h1:1<=nt) (DZ:nt<=16) (hi:(d7.length:Int)=ba) (zO:ao=(no:Int)) (VZ:(rP n0 n1).length=nn) :
 ax Tryz.prog 39 [(bq.mk ba ao base n0 n1 n2 n3 reads bK ak av aw aT).v,.int .i64 (nt:Int),vi] A (λv A'=>∃pb,v=.tuple #[.pointer (some ⟨pb,0,none⟩),.int .i64 0]/\
  bk A' (ey pb (λk=>if k=0 then d7++List.replicate nn 0 else if k=1 then List.replicate no 0 else if k=5 then List.replicate nt 0 else if k=6 then rn n0 n1 else if k=7 then rP n0 n1 else [0])*(R*F))):=by
 have I8:=ql _ hc.ok;have YK:=KS _ hc;have hno1:1<=no/\no<=64:=by
  have:=hc.ok.ao;dsimp only at this;omega
 have hi64:d7.length<=64:=by
  have:=hc.ok.ba;dsimp only at this;omega
 have hnn1:nn<=4:=by
  have h0:=hc.c0;have h1:=hc.c1;dsimp only at h0 h1;rw [<-VZ];rcases h0 with rfl|rfl|rfl<;>rcases h1 with rfl|rfl|rfl<;>decide
 refine aF Tryz.func39 λ_=>?_;obtain⟨oi,ci,rfl,_⟩:=(hR A F hS).bE;have hnt:¬(nt:Int)<1:=by omega
 have hnt2:¬(16:Int)<nt:=by omega
 dsimp only [bq.v] at I8 YK ⊢
 repeat' (first|(refine jX λR hR=>?_;simp [ai,ar,AW.af,aB,hnt,hnt2,hi];try simp (disch:=omega) only [if_pos,if_neg,ai,ar])|(refine hR _ _ ?_;clear hR R)|(refine hK _ _ ?_;clear hK K)|refine nx ?_|refine wn λK hK=>?_|simp only [wS]|(refine bD (I8 _) ?_;rintro _ _ ⟨rfl,rfl⟩ _ _)|(show cM _ _ _ _ _ _;refine nx ?_)|(refine wc rfl (λhc=>?_) (λhc=>?_)<;>(try simp at hc)<;>(try omega))|(refine ib (λhc=>?_) (λhc=>?_)<;>(try omega)<;>(try simp (disch:=omega) only [if_pos,if_neg])))
 obtain⟨CV,hCV⟩:∃CV:List Value,CV=[.int .i64 ba,.int .i64 ao,.int .i64 base,.int .i64 n0,.int .i64 n1,.int .i64 n2,.int .i64 n3,.int .i64 reads,.int .i64 bK,.int .i64 ak,.int .i64 av,.int .i64 aw,.bool aT]:=⟨_,rfl⟩;have jg:=hw.alloc (.cells CV true 1);have iz:=hS.alloc hw (.cells CV true 1);rw [hCV] at jg iz;refine bD (YK _ _ jg (ah.mk iz)) ?_;rintro v A2 ⟨vh,vn,rfl,hSL2⟩ jR _
 repeat (first|(refine hR _ _ ?_;clear hR R)|(refine jX (λR hR=>?_);simp)|refine lwn ?_|(refine hK _ _ ?_;clear hK K))
 have kL:bk A2 (ap .u64 vh (rn n0 n1)*(ap .u64 vn (rP n0 n1)*(pt A.next (.cells CV true 1)*(R*F)))):=by
  subst hCV;have:=hSL2;simp only [ah,aE,It.hp,du] at this;exact this
 have hvnf:∃o c,vn=.slice o nn c:=by
  obtain⟨o,c,h,_⟩:=(ap.is kL.right).bE;rw [VZ] at h;exact⟨o,c,h⟩
 obtain⟨B,hB⟩:∃B,B=ap .u64 vh (rn n0 n1)*(ap .u64 vn (rP n0 n1)*(pt A.next (.cells CV true 1)*(R*F))):=⟨_,rfl⟩;refine aO (Rv (by kernel_rfl) (by decide +kernel) (aC.G d7 nn no nt vh vn B) (aC.Et (.slice oi d7.length ci) vh vn A.next nn no nt) ?_ ?_ ?_ ?_ ?_);intro S i val v hc hi;have c6:=hc 6 5 (by decide +kernel);have c10:=hc 10 9 (by decide +kernel);have c12:=hc 12 11 (by decide +kernel);have c14:=hc 14 13 (by decide +kernel);have c16:=hc 16 15 (by decide +kernel);have c19:=hc 19 18 (by decide +kernel);have hv:∀k,S k=true->bZ val i v k=val k:=λk hk=>by
  have:k≠i:=λe=>by rw [e,hi] at hk;cases hk
  simp [bZ,this]
 have EN:aC.fS S (bZ val i v) vh vn=aC.fS S val vh vn:=by
  funext key;unfold aC.fS;have e:∀p k,(S p=true->S k=true)->(if S p=true/\S k=true then some (bZ val i v k) else none)=if S p=true/\S k=true then some (val k) else none:=λp k _=>by
   split;rename_i h;rw [hv k h.2];rfl
  rw [e 6 5 c6,e 10 9 c10,e 12 11 c12,e 14 13 c14,e 16 15 c16,e 19 18 c19]
 refine aC.TT ?_ ?_ (λk _=>⟨rfl,hv k⟩);unfold aC.iR;rw [EN];split;rename_i h;rw [hv 26 h];split;rename_i h;rw [hv 25 h];split;rename_i h;rw [hv 24 h];split;rename_i h;rw [hv 0 h];rfl;unfold aC.fD;split;rename_i h;rw [hv 5 h];split;rename_i h;rw [hv 2 h];rfl;intro S i j val v hc hi hj;have c27:=hc 27 26 (by decide +kernel);have hv:∀k,S k=true->bZ val i v k=val k:=λk hk=>by
  have:k≠i:=λe=>by rw [e,hi] at hk;cases hk
  simp [bZ,this]
 have hvj:=hv j hj;unfold aC.Et;split<;>intro h<;>first|(rw [hvj,hv 26 (c27 hj)];exact h)|(simp only [hvj];exact h)|trivial
 intro val;have e:aC.G d7 nn no nt vh vn B (λ_=>false) val=B:=by
  simp [aC.G,aC.iR,aC.fD,aC.pc,gL]
 rw [e,hB];exact kL
 . intro i bL S val a A3 qV ju dv CU hs;have o1:a 1=.int .i64 (nt:Int):=(by rw [dv.fe 1 (by decide +kernel)];simp);have o2:a 2=.slice oi d7.length ci:=(by rw [dv.fe 2 (by decide +kernel)];simp);have o3:a 3=.pointer (some ⟨A.next,0,none⟩):=(by rw [dv.fe 3 (by decide +kernel)];simp);have o9:a 9=vh:=(by rw [dv.fe 9 (by decide +kernel)];simp);have mH:a 10=vn:=(by rw [dv.fe 10 (by decide +kernel)];simp);have eB:∀k j,wy _ k j=true->S j=false->S k=false:=λk j h hj=>by
    cases hk:S k;rfl;have:=dv.WK k j h hk;rw [hj] at this;cases this
   have hBs:bk A3 (B*(aC.iR S val vh vn*(aC.fD S val d7 nn*(aC.pc (S 9) (ap .u64 (val 9) (List.replicate no 0))*(aC.pc (S 11) (ap .u64 (val 11) (List.replicate 1 0))*(aC.pc (S 13) (ap .u64 (val 13) (List.replicate 1 0)) *
    (aC.pc (S 15) (ap .u64 (val 15) (List.replicate 1 0))*aC.pc (S 18) (ap .u64 (val 18) (List.replicate nt 0))))))))):=hs.dK (by unfold aC.G;ac_rfl)
   obtain h|h|h|h|h|h|h|h|h|h|h|h|h|h|h|h|h|h|h|h|h|h|h|h|h|h|h|h|h:i=0\/i=1\/i=2\/i=3\/i=4\/i=5\/i=6\/i=7\/i=8\/i=9\/i=10\/i=11\/i=12\/i=13\/i=14\/i=15\/i=16\/i=17\/i=18\/i=19\/i=20\/i=21\/i=22\/i=23\/i=24\/i=25\/i=26\/i=27\/i=28:=by
    have:i<29:=bL;omega
   all_goals subst h
   .
    have ti:=eB 24 0 (by decide +kernel) qV;have rJ:=eB 25 24 (by decide +kernel) ti;have xG:=eB 26 25 (by decide +kernel) rJ;have s6:=eB 6 0 (by decide +kernel) qV;have s10:=eB 10 0 (by decide +kernel) qV;have s12:=eB 12 0 (by decide +kernel) qV;have s14:=eB 14 0 (by decide +kernel) qV;have s16:=eB 16 0 (by decide +kernel) qV;have s19:=eB 19 0 (by decide +kernel) qV;have s21:=eB 21 0 (by decide +kernel) qV;have s23:=eB 23 0 (by decide +kernel) qV;have hk:aC.G d7 nn no nt vh vn B (cr S 0) (bZ val 0 (.map (some A3.next)))=gl .i64 A3.next (λ_=>none)*aC.G d7 nn no nt vh vn B S val:=by
     have hf:aC.fS (cr S 0) (bZ val 0 (.map (some A3.next))) vh vn=λ_=>none:=by funext key;simp [aC.fS,cr,s6,s10,s12,s14,s16,s19,s21,s23]
     simp [aC.G,aC.iR,aC.fD,aC.pc,hf];simp [cr,bZ,ti,rJ,xG,qV,aC.DW,gL]
    simp [lJ,hk];exact⟨⟨A3.next,by simp [bZ]⟩,gl.lK hs CU⟩
   .
    have hk:∀v,aC.G d7 nn no nt vh vn B (cr S 1) (bZ val 1 v)=aC.G d7 nn no nt vh vn B S val:=λv=>by
     have hf:aC.fS (cr S 1) (bZ val 1 v) vh vn=aC.fS S val vh vn:=by funext key;simp [aC.fS,cr,bZ]
     simp [aC.G,aC.iR,aC.fD,aC.pc,hf];simp [cr,bZ]
    simp [lJ,o2,hk]
    first|exact⟨by simp [aC.Et,bZ],hs⟩|(simp [aC.Et,bZ];exact hs)
   .
    have s5:=eB 5 2 (by decide +kernel) qV;have v1:a 33=.slice oi d7.length ci:=(by rw [dv.ly 1 33 (by decide +kernel) (ju 1 (by decide +kernel))];exact dv.qA 1 (ju 1 (by decide +kernel)));have vH:bx A3 .u64 (.slice oi d7.length ci) d7:=by
     have h':=hBs.left;rw [hB] at h';have:=hR A3 _ h'.right.right.right;exact this
    have hk:∀v,aC.G d7 nn no nt vh vn B (cr S 2) (bZ val 2 v)=ap .u64 v d7*aC.G d7 nn no nt vh vn B S val:=λv=>by
     have hf:aC.fS (cr S 2) (bZ val 2 v) vh vn=aC.fS S val vh vn:=by funext key;simp [aC.fS,cr,bZ]
     simp [aC.G,aC.iR,aC.fD,aC.pc,hf];simp [cr,bZ,s5,qV,gL]
     ac_rfl
    simp [lJ,v1];refine bD (iG _ d7 A3 vH (by omega)) ?_;rintro v A4 ⟨h1,h2⟩ _ _;refine⟨trivial,?_⟩;rw [hk];exact ap.gA hs CU h2 h1
   .
    have hk:∀v,aC.G d7 nn no nt vh vn B (cr S 3) (bZ val 3 v)=aC.G d7 nn no nt vh vn B S val:=λv=>by
     have hf:aC.fS (cr S 3) (bZ val 3 v) vh vn=aC.fS S val vh vn:=by funext key;simp [aC.fS,cr,bZ]
     simp [aC.G,aC.iR,aC.fD,aC.pc,hf];simp [cr,bZ]
    simp [lJ,mH,hk]
    first|exact⟨by simp [aC.Et,bZ],hs⟩|(simp [aC.Et,bZ];exact hs)
   .
    have hk:∀v,aC.G d7 nn no nt vh vn B (cr S 4) (bZ val 4 v)=aC.G d7 nn no nt vh vn B S val:=λv=>by
     have hf:aC.fS (cr S 4) (bZ val 4 v) vh vn=aC.fS S val vh vn:=by funext key;simp [aC.fS,cr,bZ]
     simp [aC.G,aC.iR,aC.fD,aC.pc,hf];simp [cr,bZ]
    have v4:a 35=vn:=(by rw [dv.ly 3 35 (by decide +kernel) (ju 3 (by decide +kernel))];exact dv.qA 3 (ju 3 (by decide +kernel)));obtain⟨on,cn,hvn⟩:=hvnf;rw [hvn] at v4;simp [lJ,v4];exact⟨by simp [aC.Et,bZ],by rw [hk];exact hs⟩
   .
    have s6:=eB 6 5 (by decide +kernel) qV;have s2:=ju 2 (by decide +kernel);have v2:a 34=val 2:=dv.ly 2 34 (by decide +kernel) s2;have v4:a 36=.int .i64 ((nn:Nat):Int):=(by rw [dv.ly 4 36 (by decide +kernel) (ju 4 (by decide +kernel))];exact dv.qA 4 (ju 4 (by decide +kernel)));obtain⟨X,hX⟩:∃X,aC.G d7 nn no nt vh vn B S val=ap .u64 (val 2) d7*X/\∀v,aC.G d7 nn no nt vh vn B (cr S 5) (bZ val 5 v)=ap .u64 v (d7++List.replicate nn 0)*X:=by
     refine⟨aC.iR S val vh vn*(aC.pc (S 9) (ap .u64 (val 9) (List.replicate no 0))*(aC.pc (S 11) (ap .u64 (val 11) (List.replicate 1 0))*(aC.pc (S 13) (ap .u64 (val 13) (List.replicate 1 0)) *
      (aC.pc (S 15) (ap .u64 (val 15) (List.replicate 1 0))*(aC.pc (S 18) (ap .u64 (val 18) (List.replicate nt 0))*B))))),?_,λv=>?_⟩
     simp only [aC.G,aC.fD,qV,s2,if_true,Bool.false_eq_true,if_false]
     ac_rfl
     have hf:aC.fS (cr S 5) (bZ val 5 v) vh vn=aC.fS S val vh vn:=by funext key;simp [aC.fS,cr,bZ,s6]
     simp only [aC.G,aC.iR,aC.fD,aC.pc,hf];simp only [cr,bZ,Nat.reduceEqDiff,if_true,if_false]
     ac_rfl
    rw [hX.1] at hs;obtain⟨v',A4,e1,e2,e3⟩:=ap.TI (P:=Tryz.prog) (t:=28) (u:=3) (kq:=.i64) nn Tryz.underlying28 Tryz.underlying3 Tryz.info35 Tryz.zero35 rfl hs (by omega) (by simp) CU;simp [lJ,v2,v4]
    try simp at e1
    simp [e1];rw [hX.2];exact⟨trivial,e2⟩
   .
    have ti:=eB 24 6 (by decide +kernel) qV;have rJ:=eB 25 24 (by decide +kernel) ti;have xG:=eB 26 25 (by decide +kernel) rJ;have s0:=ju 0 (by decide +kernel);have sp:=ju 5 (by decide +kernel);obtain⟨r,hr⟩:=dv.qA 0 s0;have v0:a 32=.map (some r):=(by rw [dv.ly 0 32 (by decide +kernel) s0];exact hr);have vx:a 37=val 5:=dv.ly 5 37 (by decide +kernel) sp;obtain⟨X,Jb,Ja⟩:∃X,aC.G d7 nn no nt vh vn B S val=gl .i64 r (aC.fS S val vh vn)*X/\∀v,aC.G d7 nn no nt vh vn B (cr S 6) (bZ val 6 v)=gl .i64 r (mz (aC.fS S val vh vn) 1 (val 5))*X:=by
     refine⟨(aC.fD S val d7 nn*(aC.pc (S 9) (ap .u64 (val 9) (List.replicate no 0))*(aC.pc (S 11) (ap .u64 (val 11) (List.replicate 1 0))*(aC.pc (S 13) (ap .u64 (val 13) (List.replicate 1 0)) *
      (aC.pc (S 15) (ap .u64 (val 15) (List.replicate 1 0))*(aC.pc (S 18) (ap .u64 (val 18) (List.replicate nt 0))*B)))))),?_,λv=>?_⟩
     simp only [aC.G,aC.iR,xG,rJ,ti,s0,hr,aC.DW,if_true,Bool.false_eq_true,if_false];have hf:aC.fS (cr S 6) (bZ val 6 v) vh vn=mz (aC.fS S val vh vn) 1 (val 5):=by
      funext key;simp only [aC.fS,cr,bZ,mz,Nat.reduceEqDiff,if_true,if_false];by_cases hkey:key=1;subst hkey;simp [sp];simp [hkey]
     simp only [aC.G,aC.iR,aC.fD,aC.pc,hf];simp only [cr,bZ,xG,rJ,ti,s0,hr,aC.DW,Nat.reduceEqDiff,if_true,if_false,Bool.false_eq_true]
    rw [Jb] at hs;obtain⟨A4,e1,e2,_⟩:=gl.tR (P:=Tryz.prog) (t:=137) hs Tryz.underlying137 Tryz.underlying3 1 (val 5);simp [-fQ,lJ,v0,vx,e1];rw [Ja];exact⟨trivial,e2⟩
   .
    have hk:∀v,aC.G d7 nn no nt vh vn B (cr S 7) (bZ val 7 v)=aC.G d7 nn no nt vh vn B S val:=λv=>by
     have hf:aC.fS (cr S 7) (bZ val 7 v) vh vn=aC.fS S val vh vn:=by funext key;simp [aC.fS,cr,bZ]
     simp [aC.G,aC.iR,aC.fD,aC.pc,hf];simp [cr,bZ]
    simp [lJ,o3,hk]
    first|exact⟨by simp [aC.Et,bZ],hs⟩|(simp [aC.Et,bZ];exact hs)
   .
    have hk:∀v,aC.G d7 nn no nt vh vn B (cr S 8) (bZ val 8 v)=aC.G d7 nn no nt vh vn B S val:=λv=>by
     have hf:aC.fS (cr S 8) (bZ val 8 v) vh vn=aC.fS S val vh vn:=by funext key;simp [aC.fS,cr,bZ]
     simp [aC.G,aC.iR,aC.fD,aC.pc,hf];simp [cr,bZ]
    have v8:a 38=.pointer (some ⟨A.next,1,none⟩):=(by rw [dv.ly 7 38 (by decide +kernel) (ju 7 (by decide +kernel))];exact dv.qA 7 (ju 7 (by decide +kernel)));have hgc:A3.bg A.next=some (.cells CV true 1):=by
     have h':=hBs.left;rw [hB] at h';exact h'.right.right.bg
    simp [lJ,v8,hgc,hCV,AW.af,hk,zO]
    first|exact⟨by simp [aC.Et,bZ],hs⟩|(simp [aC.Et,bZ];exact hs)
   .
    have sI:=eB 10 9 (by decide +kernel) qV;have vd:a 39=.int .i64 ((no:Nat):Int):=(by rw [dv.ly 8 39 (by decide +kernel) (ju 8 (by decide +kernel))];exact dv.qA 8 (ju 8 (by decide +kernel)));have hk:∀v,aC.G d7 nn no nt vh vn B (cr S 9) (bZ val 9 v)=ap .u64 v (List.replicate no 0)*aC.G d7 nn no nt vh vn B S val:=λv=>by
     have hf:aC.fS (cr S 9) (bZ val 9 v) vh vn=aC.fS S val vh vn:=by funext key;simp [aC.fS,cr,bZ,sI]
     simp only [aC.G,aC.iR,aC.fD,aC.pc,hf];simp only [cr,bZ,qV,Nat.reduceEqDiff,if_true,if_false,Bool.false_eq_true,gL]
     ac_rfl
    obtain⟨v',A4,e1,e2,e3,_⟩:=ap.Qa (P:=Tryz.prog) (t:=28) (k1:=.i64) (k2:=.i64) no Tryz.underlying28 Tryz.info35 Tryz.zero35 rfl (by simp) (by omega) hs CU;have Tv:oW Tryz.prog A3 28 (.int .i64 (no:Int)) (.int .i64 (no:Int))=some (v',A4):=e1;simp [-oW,lJ,vd,Tv];rw [hk];exact⟨trivial,e2⟩
   .
    have ti:=eB 24 10 (by decide +kernel) qV;have rJ:=eB 25 24 (by decide +kernel) ti;have xG:=eB 26 25 (by decide +kernel) rJ;have s0:=ju 0 (by decide +kernel);have sp:=ju 9 (by decide +kernel);obtain⟨r,hr⟩:=dv.qA 0 s0;have v0:a 32=.map (some r):=(by rw [dv.ly 0 32 (by decide +kernel) s0];exact hr);have vx:a 40=val 9:=dv.ly 9 40 (by decide +kernel) sp;obtain⟨X,Jb,Ja⟩:∃X,aC.G d7 nn no nt vh vn B S val=gl .i64 r (aC.fS S val vh vn)*X/\∀v,aC.G d7 nn no nt vh vn B (cr S 10) (bZ val 10 v)=gl .i64 r (mz (aC.fS S val vh vn) 2 (val 9))*X:=by
     refine⟨(aC.fD S val d7 nn*(aC.pc (S 9) (ap .u64 (val 9) (List.replicate no 0))*(aC.pc (S 11) (ap .u64 (val 11) (List.replicate 1 0))*(aC.pc (S 13) (ap .u64 (val 13) (List.replicate 1 0)) *
      (aC.pc (S 15) (ap .u64 (val 15) (List.replicate 1 0))*(aC.pc (S 18) (ap .u64 (val 18) (List.replicate nt 0))*B)))))),?_,λv=>?_⟩
     simp only [aC.G,aC.iR,xG,rJ,ti,s0,hr,aC.DW,if_true,Bool.false_eq_true,if_false];have hf:aC.fS (cr S 10) (bZ val 10 v) vh vn=mz (aC.fS S val vh vn) 2 (val 9):=by
      funext key;simp only [aC.fS,cr,bZ,mz,Nat.reduceEqDiff,if_true,if_false];by_cases hkey:key=2;subst hkey;simp [sp];simp [hkey]
     simp only [aC.G,aC.iR,aC.fD,aC.pc,hf];simp only [cr,bZ,xG,rJ,ti,s0,hr,aC.DW,Nat.reduceEqDiff,if_true,if_false,Bool.false_eq_true]
    rw [Jb] at hs;obtain⟨A4,e1,e2,_⟩:=gl.tR (P:=Tryz.prog) (t:=137) hs Tryz.underlying137 Tryz.underlying3 2 (val 9);simp [-fQ,lJ,v0,vx,e1];rw [Ja];exact⟨trivial,e2⟩
   .
    have sI:=eB 12 11 (by decide +kernel) qV;have hk:∀v,aC.G d7 nn no nt vh vn B (cr S 11) (bZ val 11 v)=ap .u64 v (List.replicate 1 0)*aC.G d7 nn no nt vh vn B S val:=λv=>by
     have hf:aC.fS (cr S 11) (bZ val 11 v) vh vn=aC.fS S val vh vn:=by funext key;simp [aC.fS,cr,bZ,sI]
     simp only [aC.G,aC.iR,aC.fD,aC.pc,hf];simp only [cr,bZ,qV,Nat.reduceEqDiff,if_true,if_false,Bool.false_eq_true,gL]
     ac_rfl
    obtain⟨v',A4,e1,e2,e3,_⟩:=ap.Qa (P:=Tryz.prog) (t:=28) (k1:=.i64) (k2:=.i64) 1 Tryz.underlying28 Tryz.info35 Tryz.zero35 rfl (by simp) (by omega) hs CU;have Tv:oW Tryz.prog A3 28 (.int .i64 1) (.int .i64 1)=some (v',A4):=e1;simp [-oW,lJ,Tv];rw [hk];exact⟨trivial,e2⟩
   .
    have ti:=eB 24 12 (by decide +kernel) qV;have rJ:=eB 25 24 (by decide +kernel) ti;have xG:=eB 26 25 (by decide +kernel) rJ;have s0:=ju 0 (by decide +kernel);have sp:=ju 11 (by decide +kernel);obtain⟨r,hr⟩:=dv.qA 0 s0;have v0:a 32=.map (some r):=(by rw [dv.ly 0 32 (by decide +kernel) s0];exact hr);have vx:a 41=val 11:=dv.ly 11 41 (by decide +kernel) sp;obtain⟨X,Jb,Ja⟩:∃X,aC.G d7 nn no nt vh vn B S val=gl .i64 r (aC.fS S val vh vn)*X/\∀v,aC.G d7 nn no nt vh vn B (cr S 12) (bZ val 12 v)=gl .i64 r (mz (aC.fS S val vh vn) 3 (val 11))*X:=by
     refine⟨(aC.fD S val d7 nn*(aC.pc (S 9) (ap .u64 (val 9) (List.replicate no 0))*(aC.pc (S 11) (ap .u64 (val 11) (List.replicate 1 0))*(aC.pc (S 13) (ap .u64 (val 13) (List.replicate 1 0)) *
      (aC.pc (S 15) (ap .u64 (val 15) (List.replicate 1 0))*(aC.pc (S 18) (ap .u64 (val 18) (List.replicate nt 0))*B)))))),?_,λv=>?_⟩
     simp only [aC.G,aC.iR,xG,rJ,ti,s0,hr,aC.DW,if_true,Bool.false_eq_true,if_false];have hf:aC.fS (cr S 12) (bZ val 12 v) vh vn=mz (aC.fS S val vh vn) 3 (val 11):=by
      funext key;simp only [aC.fS,cr,bZ,mz,Nat.reduceEqDiff,if_true,if_false];by_cases hkey:key=3;subst hkey;simp [sp];simp [hkey]
     simp only [aC.G,aC.iR,aC.fD,aC.pc,hf];simp only [cr,bZ,xG,rJ,ti,s0,hr,aC.DW,Nat.reduceEqDiff,if_true,if_false,Bool.false_eq_true]
    rw [Jb] at hs;obtain⟨A4,e1,e2,_⟩:=gl.tR (P:=Tryz.prog) (t:=137) hs Tryz.underlying137 Tryz.underlying3 3 (val 11);simp [-fQ,lJ,v0,vx,e1];rw [Ja];exact⟨trivial,e2⟩
   .
    have sI:=eB 14 13 (by decide +kernel) qV;have hk:∀v,aC.G d7 nn no nt vh vn B (cr S 13) (bZ val 13 v)=ap .u64 v (List.replicate 1 0)*aC.G d7 nn no nt vh vn B S val:=λv=>by
     have hf:aC.fS (cr S 13) (bZ val 13 v) vh vn=aC.fS S val vh vn:=by funext key;simp [aC.fS,cr,bZ,sI]
     simp only [aC.G,aC.iR,aC.fD,aC.pc,hf];simp only [cr,bZ,qV,Nat.reduceEqDiff,if_true,if_false,Bool.false_eq_true,gL]
     ac_rfl
    obtain⟨v',A4,e1,e2,e3,_⟩:=ap.Qa (P:=Tryz.prog) (t:=28) (k1:=.i64) (k2:=.i64) 1 Tryz.underlying28 Tryz.info35 Tryz.zero35 rfl (by simp) (by omega) hs CU;have Tv:oW Tryz.prog A3 28 (.int .i64 1) (.int .i64 1)=some (v',A4):=e1;simp [-oW,lJ,Tv];rw [hk];exact⟨trivial,e2⟩
   .
    have ti:=eB 24 14 (by decide +kernel) qV;have rJ:=eB 25 24 (by decide +kernel) ti;have xG:=eB 26 25 (by decide +kernel) rJ;have s0:=ju 0 (by decide +kernel);have sp:=ju 13 (by decide +kernel);obtain⟨r,hr⟩:=dv.qA 0 s0;have v0:a 32=.map (some r):=(by rw [dv.ly 0 32 (by decide +kernel) s0];exact hr);have vx:a 42=val 13:=dv.ly 13 42 (by decide +kernel) sp;obtain⟨X,Jb,Ja⟩:∃X,aC.G d7 nn no nt vh vn B S val=gl .i64 r (aC.fS S val vh vn)*X/\∀v,aC.G d7 nn no nt vh vn B (cr S 14) (bZ val 14 v)=gl .i64 r (mz (aC.fS S val vh vn) 4 (val 13))*X:=by
     refine⟨(aC.fD S val d7 nn*(aC.pc (S 9) (ap .u64 (val 9) (List.replicate no 0))*(aC.pc (S 11) (ap .u64 (val 11) (List.replicate 1 0))*(aC.pc (S 13) (ap .u64 (val 13) (List.replicate 1 0)) *
      (aC.pc (S 15) (ap .u64 (val 15) (List.replicate 1 0))*(aC.pc (S 18) (ap .u64 (val 18) (List.replicate nt 0))*B)))))),?_,λv=>?_⟩
     simp only [aC.G,aC.iR,xG,rJ,ti,s0,hr,aC.DW,if_true,Bool.false_eq_true,if_false];have hf:aC.fS (cr S 14) (bZ val 14 v) vh vn=mz (aC.fS S val vh vn) 4 (val 13):=by
      funext key;simp only [aC.fS,cr,bZ,mz,Nat.reduceEqDiff,if_true,if_false];by_cases hkey:key=4;subst hkey;simp [sp];simp [hkey]
     simp only [aC.G,aC.iR,aC.fD,aC.pc,hf];simp only [cr,bZ,xG,rJ,ti,s0,hr,aC.DW,Nat.reduceEqDiff,if_true,if_false,Bool.false_eq_true]
    rw [Jb] at hs;obtain⟨A4,e1,e2,_⟩:=gl.tR (P:=Tryz.prog) (t:=137) hs Tryz.underlying137 Tryz.underlying3 4 (val 13);simp [-fQ,lJ,v0,vx,e1];rw [Ja];exact⟨trivial,e2⟩
   .
    have sI:=eB 16 15 (by decide +kernel) qV;have hk:∀v,aC.G d7 nn no nt vh vn B (cr S 15) (bZ val 15 v)=ap .u64 v (List.replicate 1 0)*aC.G d7 nn no nt vh vn B S val:=λv=>by
     have hf:aC.fS (cr S 15) (bZ val 15 v) vh vn=aC.fS S val vh vn:=by funext key;simp [aC.fS,cr,bZ,sI]
     simp only [aC.G,aC.iR,aC.fD,aC.pc,hf];simp only [cr,bZ,qV,Nat.reduceEqDiff,if_true,if_false,Bool.false_eq_true,gL]
     ac_rfl
    obtain⟨v',A4,e1,e2,e3,_⟩:=ap.Qa (P:=Tryz.prog) (t:=28) (k1:=.i64) (k2:=.i64) 1 Tryz.underlying28 Tryz.info35 Tryz.zero35 rfl (by simp) (by omega) hs CU;have Tv:oW Tryz.prog A3 28 (.int .i64 1) (.int .i64 1)=some (v',A4):=e1;simp [-oW,lJ,Tv];rw [hk];exact⟨trivial,e2⟩
   .
    have ti:=eB 24 16 (by decide +kernel) qV;have rJ:=eB 25 24 (by decide +kernel) ti;have xG:=eB 26 25 (by decide +kernel) rJ;have s0:=ju 0 (by decide +kernel);have sp:=ju 15 (by decide +kernel);obtain⟨r,hr⟩:=dv.qA 0 s0;have v0:a 32=.map (some r):=(by rw [dv.ly 0 32 (by decide +kernel) s0];exact hr);have vx:a 43=val 15:=dv.ly 15 43 (by decide +kernel) sp;obtain⟨X,Jb,Ja⟩:∃X,aC.G d7 nn no nt vh vn B S val=gl .i64 r (aC.fS S val vh vn)*X/\∀v,aC.G d7 nn no nt vh vn B (cr S 16) (bZ val 16 v)=gl .i64 r (mz (aC.fS S val vh vn) 5 (val 15))*X:=by
     refine⟨(aC.fD S val d7 nn*(aC.pc (S 9) (ap .u64 (val 9) (List.replicate no 0))*(aC.pc (S 11) (ap .u64 (val 11) (List.replicate 1 0))*(aC.pc (S 13) (ap .u64 (val 13) (List.replicate 1 0)) *
      (aC.pc (S 15) (ap .u64 (val 15) (List.replicate 1 0))*(aC.pc (S 18) (ap .u64 (val 18) (List.replicate nt 0))*B)))))),?_,λv=>?_⟩
     simp only [aC.G,aC.iR,xG,rJ,ti,s0,hr,aC.DW,if_true,Bool.false_eq_true,if_false];have hf:aC.fS (cr S 16) (bZ val 16 v) vh vn=mz (aC.fS S val vh vn) 5 (val 15):=by
      funext key;simp only [aC.fS,cr,bZ,mz,Nat.reduceEqDiff,if_true,if_false];by_cases hkey:key=5;subst hkey;simp [sp];simp [hkey]
     simp only [aC.G,aC.iR,aC.fD,aC.pc,hf];simp only [cr,bZ,xG,rJ,ti,s0,hr,aC.DW,Nat.reduceEqDiff,if_true,if_false,Bool.false_eq_true]
    rw [Jb] at hs;obtain⟨A4,e1,e2,_⟩:=gl.tR (P:=Tryz.prog) (t:=137) hs Tryz.underlying137 Tryz.underlying3 5 (val 15);simp [-fQ,lJ,v0,vx,e1];rw [Ja];exact⟨trivial,e2⟩
   .
    have hk:∀v,aC.G d7 nn no nt vh vn B (cr S 17) (bZ val 17 v)=aC.G d7 nn no nt vh vn B S val:=λv=>by
     have hf:aC.fS (cr S 17) (bZ val 17 v) vh vn=aC.fS S val vh vn:=by funext key;simp [aC.fS,cr,bZ]
     simp [aC.G,aC.iR,aC.fD,aC.pc,hf];simp [cr,bZ]
    simp [lJ,o1,hk]
    first|exact⟨by simp [aC.Et,bZ],hs⟩|(simp [aC.Et,bZ];exact hs)
   .
    have sI:=eB 19 18 (by decide +kernel) qV;have vd:a 44=.int .i64 ((nt:Nat):Int):=(by rw [dv.ly 17 44 (by decide +kernel) (ju 17 (by decide +kernel))];exact dv.qA 17 (ju 17 (by decide +kernel)));have hk:∀v,aC.G d7 nn no nt vh vn B (cr S 18) (bZ val 18 v)=ap .u64 v (List.replicate nt 0)*aC.G d7 nn no nt vh vn B S val:=λv=>by
     have hf:aC.fS (cr S 18) (bZ val 18 v) vh vn=aC.fS S val vh vn:=by funext key;simp [aC.fS,cr,bZ,sI]
     simp only [aC.G,aC.iR,aC.fD,aC.pc,hf];simp only [cr,bZ,qV,Nat.reduceEqDiff,if_true,if_false,Bool.false_eq_true,gL]
     ac_rfl
    obtain⟨v',A4,e1,e2,e3,_⟩:=ap.Qa (P:=Tryz.prog) (t:=28) (k1:=.i64) (k2:=.i64) nt Tryz.underlying28 Tryz.info35 Tryz.zero35 rfl (by simp) (by omega) hs CU;have Tv:oW Tryz.prog A3 28 (.int .i64 (nt:Int)) (.int .i64 (nt:Int))=some (v',A4):=e1;simp [-oW,lJ,vd,Tv];rw [hk];exact⟨trivial,e2⟩
   .
    have ti:=eB 24 19 (by decide +kernel) qV;have rJ:=eB 25 24 (by decide +kernel) ti;have xG:=eB 26 25 (by decide +kernel) rJ;have s0:=ju 0 (by decide +kernel);have sp:=ju 18 (by decide +kernel);obtain⟨r,hr⟩:=dv.qA 0 s0;have v0:a 32=.map (some r):=(by rw [dv.ly 0 32 (by decide +kernel) s0];exact hr);have vx:a 45=val 18:=dv.ly 18 45 (by decide +kernel) sp;obtain⟨X,Jb,Ja⟩:∃X,aC.G d7 nn no nt vh vn B S val=gl .i64 r (aC.fS S val vh vn)*X/\∀v,aC.G d7 nn no nt vh vn B (cr S 19) (bZ val 19 v)=gl .i64 r (mz (aC.fS S val vh vn) 6 (val 18))*X:=by
     refine⟨(aC.fD S val d7 nn*(aC.pc (S 9) (ap .u64 (val 9) (List.replicate no 0))*(aC.pc (S 11) (ap .u64 (val 11) (List.replicate 1 0))*(aC.pc (S 13) (ap .u64 (val 13) (List.replicate 1 0)) *
      (aC.pc (S 15) (ap .u64 (val 15) (List.replicate 1 0))*(aC.pc (S 18) (ap .u64 (val 18) (List.replicate nt 0))*B)))))),?_,λv=>?_⟩
     simp only [aC.G,aC.iR,xG,rJ,ti,s0,hr,aC.DW,if_true,Bool.false_eq_true,if_false];have hf:aC.fS (cr S 19) (bZ val 19 v) vh vn=mz (aC.fS S val vh vn) 6 (val 18):=by
      funext key;simp only [aC.fS,cr,bZ,mz,Nat.reduceEqDiff,if_true,if_false];by_cases hkey:key=6;subst hkey;simp [sp];simp [hkey]
     simp only [aC.G,aC.iR,aC.fD,aC.pc,hf];simp only [cr,bZ,xG,rJ,ti,s0,hr,aC.DW,Nat.reduceEqDiff,if_true,if_false,Bool.false_eq_true]
    rw [Jb] at hs;obtain⟨A4,e1,e2,_⟩:=gl.tR (P:=Tryz.prog) (t:=137) hs Tryz.underlying137 Tryz.underlying3 6 (val 18);simp [-fQ,lJ,v0,vx,e1];rw [Ja];exact⟨trivial,e2⟩
   .
    have hk:∀v,aC.G d7 nn no nt vh vn B (cr S 20) (bZ val 20 v)=aC.G d7 nn no nt vh vn B S val:=λv=>by
     have hf:aC.fS (cr S 20) (bZ val 20 v) vh vn=aC.fS S val vh vn:=by funext key;simp [aC.fS,cr,bZ]
     simp [aC.G,aC.iR,aC.fD,aC.pc,hf];simp [cr,bZ]
    simp [lJ,o9,hk]
    first|exact⟨by simp [aC.Et,bZ],hs⟩|(simp [aC.Et,bZ];exact hs)
   .
    have ti:=eB 24 21 (by decide +kernel) qV;have rJ:=eB 25 24 (by decide +kernel) ti;have xG:=eB 26 25 (by decide +kernel) rJ;have s0:=ju 0 (by decide +kernel);have sp:=ju 20 (by decide +kernel);obtain⟨r,hr⟩:=dv.qA 0 s0;have v0:a 32=.map (some r):=(by rw [dv.ly 0 32 (by decide +kernel) s0];exact hr);have vx:a 46=vh:=(by rw [dv.ly 20 46 (by decide +kernel) sp];exact dv.qA 20 sp);obtain⟨X,Jb,Ja⟩:∃X,aC.G d7 nn no nt vh vn B S val=gl .i64 r (aC.fS S val vh vn)*X/\∀v,aC.G d7 nn no nt vh vn B (cr S 21) (bZ val 21 v)=gl .i64 r (mz (aC.fS S val vh vn) 7 vh)*X:=by
     refine⟨(aC.fD S val d7 nn*(aC.pc (S 9) (ap .u64 (val 9) (List.replicate no 0))*(aC.pc (S 11) (ap .u64 (val 11) (List.replicate 1 0))*(aC.pc (S 13) (ap .u64 (val 13) (List.replicate 1 0)) *
      (aC.pc (S 15) (ap .u64 (val 15) (List.replicate 1 0))*(aC.pc (S 18) (ap .u64 (val 18) (List.replicate nt 0))*B)))))),?_,λv=>?_⟩
     simp only [aC.G,aC.iR,xG,rJ,ti,s0,hr,aC.DW,if_true,Bool.false_eq_true,if_false];have hf:aC.fS (cr S 21) (bZ val 21 v) vh vn=mz (aC.fS S val vh vn) 7 vh:=by
      funext key;simp only [aC.fS,cr,bZ,mz,Nat.reduceEqDiff,if_true,if_false];by_cases hkey:key=7;subst hkey;simp [sp];simp [hkey]
     simp only [aC.G,aC.iR,aC.fD,aC.pc,hf];simp only [cr,bZ,xG,rJ,ti,s0,hr,aC.DW,Nat.reduceEqDiff,if_true,if_false,Bool.false_eq_true]
    rw [Jb] at hs;obtain⟨A4,e1,e2,_⟩:=gl.tR (P:=Tryz.prog) (t:=137) hs Tryz.underlying137 Tryz.underlying3 7 vh;simp [-fQ,lJ,v0,vx,e1];rw [Ja];exact⟨trivial,e2⟩
   .
    have hk:∀v,aC.G d7 nn no nt vh vn B (cr S 22) (bZ val 22 v)=aC.G d7 nn no nt vh vn B S val:=λv=>by
     have hf:aC.fS (cr S 22) (bZ val 22 v) vh vn=aC.fS S val vh vn:=by funext key;simp [aC.fS,cr,bZ]
     simp [aC.G,aC.iR,aC.fD,aC.pc,hf];simp [cr,bZ]
    simp [lJ,mH,hk]
    first|exact⟨by simp [aC.Et,bZ],hs⟩|(simp [aC.Et,bZ];exact hs)
   .
    have ti:=eB 24 23 (by decide +kernel) qV;have rJ:=eB 25 24 (by decide +kernel) ti;have xG:=eB 26 25 (by decide +kernel) rJ;have s0:=ju 0 (by decide +kernel);have sp:=ju 22 (by decide +kernel);obtain⟨r,hr⟩:=dv.qA 0 s0;have v0:a 32=.map (some r):=(by rw [dv.ly 0 32 (by decide +kernel) s0];exact hr);have vx:a 47=vn:=(by rw [dv.ly 22 47 (by decide +kernel) sp];exact dv.qA 22 sp);obtain⟨X,Jb,Ja⟩:∃X,aC.G d7 nn no nt vh vn B S val=gl .i64 r (aC.fS S val vh vn)*X/\∀v,aC.G d7 nn no nt vh vn B (cr S 23) (bZ val 23 v)=gl .i64 r (mz (aC.fS S val vh vn) 8 vn)*X:=by
     refine⟨(aC.fD S val d7 nn*(aC.pc (S 9) (ap .u64 (val 9) (List.replicate no 0))*(aC.pc (S 11) (ap .u64 (val 11) (List.replicate 1 0))*(aC.pc (S 13) (ap .u64 (val 13) (List.replicate 1 0)) *
      (aC.pc (S 15) (ap .u64 (val 15) (List.replicate 1 0))*(aC.pc (S 18) (ap .u64 (val 18) (List.replicate nt 0))*B)))))),?_,λv=>?_⟩
     simp only [aC.G,aC.iR,xG,rJ,ti,s0,hr,aC.DW,if_true,Bool.false_eq_true,if_false];have hf:aC.fS (cr S 23) (bZ val 23 v) vh vn=mz (aC.fS S val vh vn) 8 vn:=by
      funext key;simp only [aC.fS,cr,bZ,mz,Nat.reduceEqDiff,if_true,if_false];by_cases hkey:key=8;subst hkey;simp [sp];simp [hkey]
     simp only [aC.G,aC.iR,aC.fD,aC.pc,hf];simp only [cr,bZ,xG,rJ,ti,s0,hr,aC.DW,Nat.reduceEqDiff,if_true,if_false,Bool.false_eq_true]
    rw [Jb] at hs;obtain⟨A4,e1,e2,_⟩:=gl.tR (P:=Tryz.prog) (t:=137) hs Tryz.underlying137 Tryz.underlying3 8 vn;simp [-fQ,lJ,v0,vx,e1];rw [Ja];exact⟨trivial,e2⟩
   .
    have rJ:=eB 25 24 (by decide +kernel) qV;have xG:=eB 26 25 (by decide +kernel) rJ;have s0:=ju 0 (by decide +kernel);obtain⟨r,hr⟩:=dv.qA 0 s0;have v0:a 32=.map (some r):=(by rw [dv.ly 0 32 (by decide +kernel) s0];exact hr);have hk:aC.G d7 nn no nt vh vn B (cr S 24) (bZ val 24 (.map (some r)))=aC.G d7 nn no nt vh vn B S val:=by
     have hf:aC.fS (cr S 24) (bZ val 24 (.map (some r))) vh vn=aC.fS S val vh vn:=by funext key;simp [aC.fS,cr,bZ]
     simp only [aC.G,aC.iR,aC.fD,aC.pc,hf];simp only [cr,bZ,xG,rJ,qV,s0,hr,aC.DW,Nat.reduceEqDiff,if_true,if_false,Bool.false_eq_true]
    simp [lJ,v0,hk];exact⟨⟨r,by simp [bZ]⟩,hs⟩
   .
    have xG:=eB 26 25 (by decide +kernel) qV;have ti:=ju 24 (by decide +kernel);obtain⟨r,hr⟩:=dv.qA 24 ti;have v0:a 48=.map (some r):=(by rw [dv.ly 24 48 (by decide +kernel) ti];exact hr);have hk:aC.G d7 nn no nt vh vn B (cr S 25) (bZ val 25 (.agg #[.map (some r)]))=aC.G d7 nn no nt vh vn B S val:=by
     have hf:aC.fS (cr S 25) (bZ val 25 (.agg #[.map (some r)])) vh vn=aC.fS S val vh vn:=by funext key;simp [aC.fS,cr,bZ]
     simp only [aC.G,aC.iR,aC.fD,aC.pc,hf];simp only [cr,bZ,xG,qV,ti,hr,aC.DW,aC.r25,Nat.reduceEqDiff,if_true,if_false,Bool.false_eq_true];rfl
    simp [lJ,v0,hk];exact⟨⟨r,by simp [bZ]⟩,hs⟩
   .
    have rJ:=ju 25 (by decide +kernel);obtain⟨r,hr⟩:=dv.qA 25 rJ;have v0:a 49=.agg #[.map (some r)]:=(by rw [dv.ly 25 49 (by decide +kernel) rJ];exact hr)
    obtain⟨X,Jb,Ja⟩:∃X,aC.G d7 nn no nt vh vn B S val=gl .i64 r (aC.fS S val vh vn)*X/\aC.G d7 nn no nt vh vn B (cr S 26) (bZ val 26 (.pointer (some ⟨A3.next,0,none⟩))) =
     (pG λr=>pt A3.next (.cells [.map (some r)] true 1)*gl .i64 r (aC.fS S val vh vn))*X:=by
     refine⟨(aC.fD S val d7 nn*(aC.pc (S 9) (ap .u64 (val 9) (List.replicate no 0))*(aC.pc (S 11) (ap .u64 (val 11) (List.replicate 1 0))*(aC.pc (S 13) (ap .u64 (val 13) (List.replicate 1 0)) *
      (aC.pc (S 15) (ap .u64 (val 15) (List.replicate 1 0))*(aC.pc (S 18) (ap .u64 (val 18) (List.replicate nt 0))*B)))))),?_,?_⟩
     simp only [aC.G,aC.iR,qV,rJ,hr,aC.r25,if_true,Bool.false_eq_true,if_false];rfl;have hf:aC.fS (cr S 26) (bZ val 26 (.pointer (some ⟨A3.next,0,none⟩))) vh vn=aC.fS S val vh vn:=by funext key;simp [aC.fS,cr,bZ]
     simp only [aC.G,aC.iR,aC.fD,aC.pc,hf];simp only [cr,bZ,aC.bOf,Nat.reduceEqDiff,if_true,if_false]
    rw [Jb] at hs;simp [lJ,v0];rw [Ja];refine⟨⟨A3.next,by simp [bZ]⟩,?_⟩;rw [bk.ex];refine⟨r,?_⟩;rw [HP.cx];exact hs.alloc CU _
   .
    have hk:∀v,aC.G d7 nn no nt vh vn B (cr S 27) (bZ val 27 v)=aC.G d7 nn no nt vh vn B S val:=λv=>by
     have hf:aC.fS (cr S 27) (bZ val 27 v) vh vn=aC.fS S val vh vn:=by funext key;simp [aC.fS,cr,bZ]
     simp [aC.G,aC.iR,aC.fD,aC.pc,hf];simp [cr,bZ]
    have v26:a 50=val 26:=dv.ly 26 50 (by decide +kernel) (ju 26 (by decide +kernel));simp [lJ,v26,hk]
    first|exact⟨by simp [aC.Et,bZ],hs⟩|(simp [aC.Et,bZ];exact hs)
   .
    have hk:∀v,aC.G d7 nn no nt vh vn B (cr S 28) (bZ val 28 v)=aC.G d7 nn no nt vh vn B S val:=λv=>by
     have hf:aC.fS (cr S 28) (bZ val 28 v) vh vn=aC.fS S val vh vn:=by funext key;simp [aC.fS,cr,bZ]
     simp [aC.G,aC.iR,aC.fD,aC.pc,hf];simp [cr,bZ]
    simp [lJ,o1,hk]
    first|exact⟨by simp [aC.Et,bZ],hs⟩|(simp [aC.Et,bZ];exact hs)
 intro S val a A3 k8 dv CU hs;have qh:∀k,k<29->S k=true:=λk hk=>k8 k hk;obtain⟨b,hb⟩:=dv.qA 26 (qh 26 (by omega));have R4:=dv.qA 27 (qh 27 (by omega));have a6:a 6=.pointer (some ⟨b,0,none⟩):=by rw [dv.ly 27 6 (by decide +kernel) (qh 27 (by omega)),R4,hb]
 have a7:a 7=.int .i64 0:=by rw [dv.ly 28 7 (by decide +kernel) (qh 28 (by omega))];exact dv.qA 28 (qh 28 (by omega))
 simp only [HG];refine M4 ?_;refine⟨_,by first|(simp [a6,a7];done)|(simp [a6,a7];rfl),b,rfl,?_⟩;have hmap:aC.fS S val vh vn=vA (λk=>if k=0 then val 5 else if k=1 then val 9 else if k=2 then val 11 else if k=3 then val 13 else if k=4 then val 15 else if k=5 then val 18 else if k=6 then vh else vn):=by
  funext key;simp only [aC.fS,vA,qh 6 (by omega),qh 5 (by omega),qh 10 (by omega),qh 9 (by omega),qh 12 (by omega),qh 11 (by omega),qh 14 (by omega),qh 13 (by omega),qh 16 (by omega),qh 15 (by omega),qh 19 (by omega),qh 18 (by omega),qh 21 (by omega),qh 23 (by omega),and_self,if_true];by_cases hk:1<=key/\key<=8;have:key=1\/key=2\/key=3\/key=4\/key=5\/key=6\/key=7\/key=8:=by omega
  rcases this with rfl|rfl|rfl|rfl|rfl|rfl|rfl|rfl<;>rfl;rw [if_neg hk,if_neg (by omega),if_neg (by omega),if_neg (by omega),if_neg (by omega),if_neg (by omega),if_neg (by omega),if_neg (by omega),if_neg (by omega)]
 have ym:bk A3 ((pG λr=>pt b (.cells [.map (some r)] true 1)*gl .i64 r (aC.fS S val vh vn))*(ap .u64 (val 5) (d7++List.replicate nn 0)*(ap .u64 (val 9) (List.replicate no 0)*(ap .u64 (val 11) (List.replicate 1 0) *
  (ap .u64 (val 13) (List.replicate 1 0)*(ap .u64 (val 15) (List.replicate 1 0)*(ap .u64 (val 18) (List.replicate nt 0)*B))))))):=by
  refine hs.dK ?_;simp only [aC.G,aC.iR,aC.fD,aC.pc,qh 26 (by omega),qh 5 (by omega),qh 9 (by omega),qh 11 (by omega),qh 13 (by omega),qh 15 (by omega),qh 18 (by omega),if_true,hb,aC.bOf]
 rw [bk.ex] at ym;obtain⟨r,hs3⟩:=ym;rw [hB,hmap] at hs3;refine ey.dA (r:=r) (vs:=λk=>if k=0 then val 5 else if k=1 then val 9 else if k=2 then val 11 else if k=3 then val 13 else if k=4 then val 15 else if k=5 then val 18 else if k=6 then vh else vn) ?_;simp only [kG,gL,Nat.reduceEqDiff,if_true,if_false];have r1:List.replicate 1 (0:Int)=[0]:=rfl;rw [r1] at hs3;exact bk.right (P:=pt A.next (.cells CV true 1)) (hs3.dK (by ac_rfl))
end
section
open T22
variable [Gl]
def zl (c:bq) (nt:Nat) (d7:List Int):Mm:=λk=>if k=0 then d7++List.replicate c.nb.toNat 0 else if k=1 then List.replicate c.ao.toNat 0 else if k=5 then List.replicate nt 0 else if k=6 then rn c.c0 c.c1 else if k=7 then rP c.c0 c.c1 else [0]
def cfgO (c:bq):dH:=.cells [.int .i64 c.ba,.int .i64 c.ao,.int .i64 c.base,.int .i64 c.c0,.int .i64 c.c1,.int .i64 c.c2,.int .i64 c.c3,.int .i64 c.reads,.int .i64 c.bK,.int .i64 c.ak,.int .i64 c.av,.int .i64 c.aw,.bool c.aT] true 1
def refO (c:bq) (v0 v1 v5 v6 v7:Value):dH:=.cells [.int .i64 c.ba,.int .i64 c.ao,.int .i64 c.base,.int .i64 c.c0,.int .i64 c.c1,.int .i64 c.c2,.int .i64 c.c3,.int .i64 c.reads,.int .i64 c.bK,.int .i64 c.ak,.int .i64 c.av,.int .i64 c.aw,.bool c.aT,v0,v1,.int .u64 0,.int .u64 0,.int .u64 0,v5,v6,v7] true 1
theorem zM {c:bq} (hc:qZ c):((rP c.c0 c.c1).length:Int)=c.nb:=by
 have e:c.nb=c.c0+c.c1+c.c2+c.c3:=rfl;rw [e,hc.c2,hc.c3];rcases hc.c0 with h0|h0|h0<;>rcases hc.c1 with h1|h1|h1<;>rw [h0,h1]<;>decide
theorem P5 {c:bq} (hc:qZ c) (b:Nat) (hb:(b:Int)<c.nb):(rP c.c0 c.c1)[b]? = some (if (b:Int)+1<c.nb/\dL c (b+1)=dL c b then (b:Int)+2 else 0):=by
 have e:c.nb=c.c0+c.c1+c.c2+c.c3:=rfl;rw [e,hc.c2,hc.c3] at hb ⊢;unfold dL Bh;rw [hc.c2,hc.c3];rcases hc.c0 with h0|h0|h0<;>rcases hc.c1 with h1|h1|h1<;>rw [h0,h1] at hb ⊢
 all_goals(have wu:b=0\/b=1\/b=2\/b=3:=by omega)
 all_goals(rcases wu with rfl|rfl|rfl|rfl)
 all_goals(first|omega|(simp [rP];done))
def H7 (c:bq):Nat->Int|0=>0|1=>c.c0|2=>c.c0+c.c1|3=>c.c0+c.c1+c.c2|_=>c.c0+c.c1+c.c2+c.c3
def Jy (c:bq):Nat->Int|0=>c.c0|1=>c.c1|2=>c.c2|_=>c.c3
theorem Oc {c:bq} (hc:qZ c) (k:Nat) (hk:k<4):(rn c.c0 c.c1)[k]? = some (if 0<Jy c k then H7 c k+1 else 0):=by
 have YR:k=0\/k=1\/k=2\/k=3:=by omega
 have h2:=hc.c2;have h3:=hc.c3;rcases YR with rfl|rfl|rfl|rfl
 all_goals(simp only [Jy,H7,rn])
 all_goals(rcases hc.c0 with h0|h0|h0<;>rcases hc.c1 with h1|h1|h1<;>simp [h0,h1,h2,h3,qg])
theorem Rl {c:bq} (hc:qZ c) (k:Nat):(0<=Jy c k/\Jy c k<=2)/\0<=H7 c k/\H7 c k<=4:=by
 have h0:=hc.c0;have h1:=hc.c1;have h2:=hc.c2;have h3:=hc.c3;unfold Jy H7
 repeat' split
 all_goals omega
end
section
variable [Gl]
theorem Fa {n:Int} (h:0<=n/\n<65535):iV (n+1)=n:=by
 rw [F0 (by omega)];omega
theorem Nw {c:bq} (hF:qZ c) (nt:Nat) {zs:List Int} (hz:(zs.length:Int)=c.ba):lR c nt 0 (zl c nt zs):=by
 have EM:=qb hF.ok;have ho:=hF.ok.ao;have h0:=hF.c0;have h1:=hF.c1;have h2:=hF.c2;have h3:=hF.c3;have hnbe:c.nb=c.c0+c.c1+c.c2+c.c3:=rfl;refine⟨?_,?_,rfl,rfl,rfl,?_,rfl,zM hF,?_,?_,?_,?_,?_⟩;show ((zs++List.replicate c.nb.toNat 0).length:Int)=_;simp only [List.length_append,List.length_replicate];omega;show ((List.replicate c.ao.toNat (0:Int)).length:Int)=_;simp only [List.length_replicate];omega;show (List.replicate nt (0:Int)).length=nt;simp;intro i;show jH c i ((rn c.c0 c.c1).getD i 0);by_cases hi:i<4;rw [List.getD_eq_getElem?_getD,Oc hF i hi];show jH c i (if 0<Jy c i then H7 c i+1 else 0);split;rename_i hp;have hr:=Rl hF i;refine⟨by omega,?_,λ_=>?_⟩;rw [Fa (by omega)];have:i=0\/i=1\/i=2\/i=3:=by omega
 rcases this with rfl|rfl|rfl|rfl<;>simp only [Jy,H7] at hp ⊢<;>omega;rw [Fa (by omega)];have:i=0\/i=1\/i=2\/i=3:=by omega
 rcases this with rfl|rfl|rfl|rfl<;>simp only [Jy,H7] at hp ⊢<;>unfold dL Bh;rw [if_neg (by omega),if_pos (by omega)];rfl;rw [if_neg (by omega),if_neg (by omega),if_pos (by omega)];rfl;omega;omega;exact jH.zero hF.ok _;rw [List.getD_eq_getElem?_getD,List.getElem?_eq_none (by simp [rn];omega)];exact jH.zero hF.ok _;intro b;show nJ c (dL c b) ((rP c.c0 c.c1).getD b 0);by_cases hb:(b:Int)<c.nb;rw [List.getD_eq_getElem?_getD,P5 hF b hb];show nJ c (dL c b) (if (b:Int)+1<c.nb/\dL c (b+1)=dL c b then (b:Int)+2 else 0);split;rename_i h;refine⟨by omega,by omega,λ_=>?_⟩;rw [show (b:Int)+2-1=b+1 by omega];exact h.2;exact nJ.zero hF.ok _;have:=zM hF;rw [List.getD_eq_getElem?_getD,List.getElem?_eq_none (by omega)];exact nJ.zero hF.ok _;show (0:Int)<=0/\(0:Int)<=((0:Nat):Int);omega;show (0:Int)<=0/\(0:Int)<=((0:Nat):Int);omega;intro i;show j8 0 ((List.replicate c.ao.toNat (0:Int)).getD i 0);rw [List.getD_eq_getElem?_getD]
 by_cases hi:i<c.ao.toNat;rw [List.getElem?_replicate_of_lt hi];exact j8.zero 0;rw [List.getElem?_eq_none (by simp;omega)];exact j8.zero 0
theorem rq (s:aM):(iQ s).aA=s.aA:=by unfold iQ;split<;>rfl
theorem ml (s:aM) (az:Int):(kz s az).aA=s.aA:=rq _
theorem qj (s:aM) (az:Int):(qk s az).aA=s.aA:=by unfold qk;split<;>rfl
theorem pS (s:aM):(gU s).aA=s.aA:=by unfold gU;split<;>rfl
theorem kV (s:aM) (a v:Int):(kW s a v).2.aA=s.aA:=by
 unfold kW;split;rfl;exact ml s 3
theorem yy (s:aM) (b st:Int):(lz s b st).aA=s.aA:=by
 unfold lz;split;exact qj s 8;split;exact ml s 3;split;exact kV s _ 0;exact kV s _ 0
theorem se:∀(n:Nat) (a:Int) (s:aM),(iU n a s).2.aA=s.aA
 | 0,_,_=>rfl
 | n+1,a,s=>by
   unfold iU;split;rw [se n];exact kV s a 0;exact kV s a 0
theorem Ae (s:aM) (eH jK:Int):(gP s eH jK).aA=s.aA:=by
 unfold gP;split;exact ml s 4;dsimp only;split;split;show (iU _ _ _).2.aA=_;rw [se];exact kV { s with ak:=s.ak++[jK] } _ _;rw [se];exact kV { s with ak:=s.ak++[jK] } _ _;exact kV { s with ak:=s.ak++[jK] } _ _
theorem KQ (s:aM) (l:JM):(vB s l).aA=s.aA:=by
 cases l with
 | nq a v=>
   unfold vB;dsimp only;split;exact qj s 7;exact kV s a v
 | tk=>exact qj s 7
 | Rt=>exact qj s 8
 | bO az=>exact qj s az
 | take v=>rfl
 | Dc=>exact ml s 3
 | dq b v=>exact yy s b v
theorem JZ (s:aM) (v:Int) (u:DR):(BS s v u).aA=s.aA:=by
 cases u with
 | take=>rfl
 | dq b=>exact yy s b v
theorem wB (s:aM) (M:Mm):(cK s M).2.2.1.aA=(match s.aG with | .jf=>2|_=>s.aA):=by
 unfold cK;cases hd:s.aG with
 | jf=>rfl
 | bF=>rfl
 | je k=>exact KQ _ k
 | fx=>
   dsimp only;cases s.bY with
   | none=>rfl
   | some e=>
     dsimp only [ji];split<;>rfl
 | bh r u=>
   show (dR s M r u).2.2.1.aA=s.aA;unfold dR;dsimp only;split;rfl;split;exact ml _ 9;split;dsimp only;rw [JZ];split<;>rfl;dsimp only;rw [ml];split<;>rfl
 | fw p=>
   show (ox s M p).2.2.1.aA=s.aA;unfold ox;dsimp only;split;rw [Ae];rfl
 | fy=>
   dsimp only;cases s.aJ with
   | none=>rfl
   | some l=>
     dsimp only [jD];split<;>rfl
 | dE=>
   dsimp only;cases s.aI with
   | none=>rfl
   | some t=>
     dsimp only [iw];split<;>rfl
 | d9 ck=>
   show (gT s M ck).2.2.1.aA=s.aA;unfold gT;dsimp only;split;rw [pS];split<;>rfl
 | cH=>
   show (fY s M).2.2.1.aA=s.aA;unfold fY;dsimp only;split;rw [pS];split;rfl;rw [pS]
 | eS w=>
   show (iv s M w).2.2.1.aA=s.aA;unfold iv;dsimp only;split<;>rfl
 | da w=>rfl
 | jb=>rfl
 | gH=>exact rq s
 | fv p=>
   show (jW s M p).2.2.1.aA=s.aA;unfold jW;dsimp only;split;rw [rq];rfl
theorem Jk {s:aM} (h:s.mR 1=true):s.aA=1:=by
 unfold aM.mR at h;simp at h;exact h.2
theorem G4 (s:aM) (az:Int):(D1 s az).2=s\/(D1 s az).2.aA=1:=by
 unfold D1;split;rename_i hf;have:=Jk hf;split<;>simp [this];exact .inl rfl
theorem L8 (s:aM) (a v:Int):(HJ s a v).2=s\/(HJ s a v).2.aA=1:=by
 unfold HJ;split;rename_i hf;have:=Jk hf;simp [this];exact .inl rfl
theorem Mj (s:aM) (a:Int):(Ik s a).2=s\/(Ik s a).2.aA=1:=by
 unfold Ik;split;rename_i hf;have:=Jk hf;split;simp [this];split<;>simp [this,xF];exact .inl rfl
theorem TO (s:aM) (a:Int):(M8 s a).2=s\/(M8 s a).2.aA=1:=by
 unfold M8;split;rename_i hf;have:=Jk hf;split;simp;split<;>simp [this];exact .inl rfl
theorem Tm (s:aM) (a:Int):(MU s a).2=s\/(MU s a).2.aA=1:=by
 unfold MU;split;rename_i hf;have:=Jk hf;split;simp [this];split<;>simp [this,xF];exact .inl rfl
end
structure aZ where
 op:Int
 a:Int
 b:Int
 c:Int
 bQ:Int
deriving DecidableEq
def lF (op:Int):Bool:=op == 1 || op == 2 || op == 3 || op == 5 || op == 6 || op == 10 || op == 11 || op == 12 || op == 13 || op == 14 || op == 15 || op == 17
def jT (op:Int):Bool:=op == 2 || op == 3 || op == 10 || op == 11 || op == 12 || op == 13
def lE (op:Int):Bool:=op == 3
def gm (r:Int) (is:Bool):Bool:=if is then decide (0<=r) && decide (r<8) else decide (r=0)
def eT (op bQ:Int):Bool:=
 if op=1\/op=10\/op=11\/op=12\/op=13 then true
 else if op=3 then decide (0<=bQ) && decide (bQ<22)
 else if op=4\/op=5\/op=6 then decide (0<=bQ) && decide (bQ<=64)
 else if op=7 then decide (1<=bQ) && decide (bQ<=8)
 else if op=14 then decide (0<=bQ) && decide (bQ<4)
 else decide (bQ=0)
def b8 (i:aZ):Int:=
 if i.op<0\/18<=i.op then 10
 else if (gm i.a (lF i.op) && gm i.b (jT i.op) && gm i.c (lE i.op)) && eT i.op i.bQ then 0 else 11
def bp (i:aZ):Int:=
 if b8 i=0 then
  if i.op=8\/i.op=9\/i.op=10\/i.op=11\/i.op=14\/i.op=15 then 1
  else if i.op=7\/i.op=12\/i.op=13\/i.op=16\/i.op=17 then 2 else 0
 else 0
def dW (i:aZ):Option Int:=if b8 i=0/\(i.op=4\/i.op=5\/i.op=6) then some i.bQ else none
def dS (p:List aZ) (k:Nat):Int:=(p[k]?.map (·.op)).getD (-1)
def kX (p:List aZ) (k:Nat):Nat:=k+(p.drop k).findIdx λi=>i.op == 8
def di (p:List aZ) (b:Nat):Nat:=kX p (b+1)
def bS (p:List aZ):Nat->Option Nat
 | 0=>none
 | k+1=>match bS p k with
   | none=>if dS p k=7 then some k else none
   | some b=>if dS p k=8 then none else some b
theorem jU {p:List aZ}:∀{t b:Nat},bS p t=some b->b<t/\dS p b=7/\∀j,b<j->j<t->dS p j≠8
 | 0,b,h=>by cases h
 | t+1,b,h=>by
   unfold bS at h;split at h;split at h;rename_i h7;injection h with h;subst h;exact⟨Nat.lt_succ_self _,h7,λj h1 h2=>by omega⟩;cases h;rename_i b' hb;split at h;cases h;rename_i h8;injection h with h;subst h;obtain⟨h1,h2,h3⟩:=jU hb;refine⟨by omega,h2,λj h4 h5=>?_⟩;by_cases e:j=t;subst e;exact h8;exact h3 j h4 (by omega)
theorem wN {p:List aZ} {b:Nat} (hb:dS p b=7):∀{t:Nat},b<t->(∀j,b<j->j<t->dS p j≠8)->∃b',bS p t=some b'
 | 0,h,_=>by omega
 | t+1,h,hn=>by
   unfold bS;by_cases e:b=t
   . subst e;cases hs:bS p b with
     | none=>exact⟨b,by simp [hb]⟩
     | some b'=>exact⟨b',by simp [hb]⟩
   obtain⟨b',h'⟩:=wN hb (t:=t) (by omega) (λj h1 h2=>hn j h1 (by omega));rw [h'];have:=hn t (by omega) (by omega);exact⟨b',by simp [this]⟩
theorem Cg {p:List aZ} {k:Nat} (hk:bS p k=none):∀{t b:Nat},k<=t->bS p t=some b->k<=b
 | t,b,hkt,h=>by
   obtain⟨h1,h2,h3⟩:=jU h;rcases Nat.lt_or_ge b k with h4|h4;obtain⟨b',h'⟩:=wN h2 h4 (λj h5 h6=>h3 j h5 (by omega));rw [hk] at h';cases h';exact h4
theorem qc {p:List aZ} {k:Nat} (h:0<=dS p k):k<p.length:=by
 rcases Nat.lt_or_ge k p.length with h1|h1;exact h1;unfold dS at h;rw [List.getElem?_eq_none h1] at h;simp at h
theorem sL {p:List aZ} {k:Nat} (h:k<p.length):kX p k=if dS p k=8 then k else kX p (k+1):=by
 unfold kX;have e:p.drop k=p[k]::p.drop (k+1):=List.drop_eq_getElem_cons h;have e2:dS p k=p[k].op:=by simp [dS,List.getElem?_eq_getElem h]
 rw [e,List.findIdx_cons,e2];by_cases h8:p[k].op=8;simp [h8];have e3:(p[k].op == 8)=false:=by simpa using h8
 rw [if_neg h8,e3];simp only [cond_false];omega
theorem zN {p:List aZ} {k:Nat} (h:p.length<=k):kX p k=k:=by
 unfold kX;rw [List.drop_eq_nil_of_le h];rfl
theorem lX {p:List aZ} {k:Nat} (h:k<=p.length):k<=kX p k/\kX p k<=p.length/\(∀j,k<=j->j<kX p k->dS p j≠8)/\(kX p k<p.length->dS p (kX p k)=8):=by
 induction hn:p.length-k generalizing k with
 | zero=>
   have:k=p.length:=by omega
   rw [zN (by omega)];exact⟨Nat.le_refl _,h,λj h1 h2=>by omega,λh1=>by omega⟩
 | succ n ih=>
   rw [sL (by omega)];split;rename_i h8;exact⟨Nat.le_refl _,h,λj h1 h2=>by omega,λ_=>h8⟩;rename_i h8;obtain⟨h1,h2,h3,h4⟩:=ih (k:=k+1) (by omega) (by omega);refine⟨by omega,h2,λj h5 h6=>?_,h4⟩;by_cases e:j=k;subst e;exact h8;exact h3 j (by omega) h6
def gx (p:List aZ) (k t:Nat):Bool:=(List.range t).any λb=>decide (k<b) && decide (dS p b=7) && decide (t<=min (di p b) (p.length-1))
def fq (p:List aZ) (k:Nat) (b:Option Nat) (n:Int):Bool:=
 let t:Nat:=k+1+n.toNat
 if p.length<t then false else match b with
 | some b=>decide (t<=di p b)
 | none=>!gx p k t
def jy (p:List aZ) (t:Nat):Nat->Nat->Option Nat->Option (Nat×Nat)
 | 0,_,b=>match b with
   | some b=>if b<=t/\t<p.length then some (b,p.length) else none
   | none=>none
 | n+1,k,b=>match b with
   | none=>jy p t n (k+1) (if dS p k=7 then some k else none)
   | some b=>if dS p k=8 then (if b<=t/\t<=k then some (b,k) else jy p t n (k+1) none) else jy p t n (k+1) (some b)
def Ar (p:List aZ) (t:Nat):Option (Nat×Nat):=jy p t p.length 0 none
theorem Mg {p:List aZ} {t:Nat}:∀{k n:Nat},k+n=p.length->k<=t->Ar p t=jy p t n k (bS p k)
 | 0,n,h,_=>by
   have:n=p.length:=by omega
   subst this;rfl
 | k+1,n,h,hk=>by
   rw [Mg (k:=k) (n:=n+1) (by omega) (by omega)]
   conv=>lhs;unfold jy
   conv=>rhs;rw [bS]
   cases hb:bS p k with
   | none=>rfl
   | some b=>
     simp only;by_cases h8:dS p k=8;rw [if_pos h8,if_pos h8,if_neg (by omega)];rw [if_neg h8,if_neg h8]
theorem zp {p:List aZ} {t:Nat}:∀{n k:Nat},t<k->jy p t n k none=none
 | 0,k,_=>rfl
 | n+1,k,h=>by
   unfold jy;by_cases h7:dS p k=7;rw [if_pos h7];exact Ff h (by omega);rw [if_neg h7];exact zp (by omega)
where
 Ff {p:List aZ} {t:Nat}:∀{n k b:Nat},t<b->b<k->jy p t n k (some b)=none
 | 0,k,b,h,_=>by unfold jy;simp;omega
 | n+1,k,b,h,hk=>by
   unfold jy;simp only;split;rw [if_neg (by omega)];exact zp (by omega);exact Ff h (by omega)
theorem zm {p:List aZ} {t b:Nat} (hb:b<=t):∀{n k:Nat},k+n=p.length->t<=k->t<p.length->jy p t n k (some b)=some (b,kX p k)
 | 0,k,h,_,ht=>by
   unfold jy;rw [zN (by omega)];simp only;rw [if_pos ⟨hb,ht⟩];rw [show k=p.length by omega]
 | n+1,k,h,hk,ht=>by
   unfold jy;rw [sL (by omega)];simp only;by_cases h8:dS p k=8;rw [if_pos h8,if_pos h8,if_pos ⟨hb,hk⟩];rw [if_neg h8,if_neg h8];exact zm hb (by omega) (by omega) ht
theorem Ia {p:List aZ} {t:Nat} (ht:t<=p.length):Ar p t=match bS p t with
 | some b=>if t<p.length then some (b,kX p t) else none
 | none=>if dS p t=7 then some (t,di p t) else none:=by
 rw [Mg (k:=t) (n:=p.length-t) (by omega) (Nat.le_refl t)];cases hb:bS p t with
 | some b=>
   obtain⟨h1,h2,h3⟩:=jU hb;simp only;split;exact zm (by omega) (by omega) (Nat.le_refl t) (by assumption);have:p.length-t=0:=by omega
   rw [this];unfold jy;simp only;rw [if_neg (by omega)]
 | none=>
   simp only;cases hn:p.length-t with
   | zero=>
     have h7:dS p t≠7:=λh=>by
      have:=qc (p:=p) (k:=t) (by omega);omega
     rw [if_neg h7];rfl
   | succ n=>
     unfold jy;simp only;by_cases h7:dS p t=7;rw [if_pos h7,if_pos h7];have:=qc (p:=p) (k:=t) (by omega);by_cases hl:t+1<=p.length;exact Kg (by omega) (by omega) this;omega;rw [if_neg h7,if_neg h7];exact zp (by omega)
where
 Kg {p:List aZ} {t:Nat}:∀{n k:Nat},k+n=p.length->t<k->t<p.length->jy p t n k (some t)=some (t,kX p k)
 | n,k,h,hk,ht=>zm (Nat.le_refl t) h (by omega) ht
def gw (p:List aZ) (k t:Nat):Bool:=
 if p.length<t then false else match Ar p k with
 | some (_,c)=>decide (t<=c)
 | none=>match Ar p t with
   | some (b,_)=>decide (b=t)
   | none=>true
theorem Qj {p:List aZ} {k t:Nat} (hk:bS p k=none) (h7:dS p k≠7) (hkt:k<t) (ht:t<=p.length):gx p k t=true↔t<p.length/\∃b,bS p t=some b:=by
 unfold gx;rw [List.any_eq_true];constructor;rintro ⟨b,hb,h⟩;simp only [Bool.and_eq_true,decide_eq_true_eq] at h;have hbt:=List.mem_range.1 hb;obtain⟨⟨h1,h2⟩,h3⟩:=h;have h4:t<=di p b:=by omega
 have QS:=qc (p:=p) (k:=b) (by omega);refine⟨by omega,wN h2 hbt λj h5 h6=>?_⟩;exact(lX (p:=p) (k:=b+1) (by omega)).2.2.1 j (by omega) (by unfold di at h4;omega);rintro ⟨h1,b,hb⟩;obtain⟨h2,h3,h4⟩:=jU hb;have h5:=Cg hk (by omega) hb;have h6:b≠k:=λe=>h7 (by rw [<-e];exact h3);refine⟨b,List.mem_range.2 h2,?_⟩;simp only [Bool.and_eq_true,decide_eq_true_eq];refine⟨⟨by omega,h3⟩,?_⟩;have h7:t<=di p b:=by
  rcases Nat.lt_or_ge (di p b) t with h8|h8;obtain⟨g1,g2,g3,g4⟩:=lX (p:=p) (k:=b+1) (by omega);unfold di at h8;exact absurd (g4 (by omega)) (h4 _ (by omega) h8);exact h8
 omega
theorem Nq {p:List aZ} {k:Nat} (hk:k<p.length) (h7:dS p k≠7) (h8:dS p k≠8) {n:Int}:gw p k (k+1+n.toNat)=fq p k (bS p k) n:=by
 unfold gw fq;simp only;generalize ht:k+1+n.toNat=t;by_cases hl:p.length<t;rw [if_pos hl,if_pos hl];rw [if_neg hl,if_neg hl,Ia (by omega:k<=p.length)];cases hb:bS p k with
 | some b=>
   simp only;rw [if_pos hk];obtain⟨h1,h2,h3⟩:=jU hb;have e:di p b=kX p k:=by
    have:∀d,b+1+d=k->kX p (b+1)=kX p (b+1+d):=by
     intro d
     induction d with
     | zero=>intro _;rfl
     | succ d ih=>
       intro hd;have key:∀q,b<q->q<=k->kX p (b+1)=kX p q:=by
        intro q
        induction q with
        | zero=>intro h;omega
        | succ q ihq=>
          intro h5 h6;by_cases e:b=q;subst e;rfl;rw [ihq (by omega) (by omega),sL (by omega),if_neg (h3 q (by omega) (by omega))]
       exact key _ (by omega) (by omega)
    have h9:=this (k-(b+1)) (by omega);rw [show b+1+(k-(b+1))=k by omega] at h9;exact h9
   rw [e]
 | none=>
   simp only;rw [if_neg h7,Ia (by omega)];have hi:=Qj hb h7 (t:=t) (by omega) (by omega);cases hs:bS p t with
   | some b=>
     obtain⟨h1,_,_⟩:=jU hs;simp only;by_cases bL:t<p.length;have:gx p k t=true:=hi.2 ⟨bL,b,hs⟩;rw [if_pos bL,this];have:¬b=t:=by omega
     simp [this];have:gx p k t=false:=by
      cases hp:gx p k t with
      | false=>rfl
      | true=>exact absurd (hi.1 hp).1 bL
     rw [if_neg bL,this];rfl
   | none=>
     have:gx p k t=false:=by
      cases hp:gx p k t with
      | false=>rfl
      | true=>obtain⟨b,ur⟩:=(hi.1 hp).2;rw [hs] at ur;cases ur
     rw [this];simp only;by_cases h9:dS p t=7;simp [h9];simp [h9]
def sD (Fb:Nat->Option Nat->Int->Bool) (k:Nat) (b:Option Nat) (x:aZ):Int:=
 if b8 x=0 then
  if (x.op=7/\b.isSome=true)\/(x.op=8/\b.isSome=false) then 40
  else if (bp x=1/\b.isSome=false)\/(bp x=2/\b.isSome=true) then 41
  else match dW x with
   | some n=>if Fb k b n=true then 0 else 42
   | none=>0
 else b8 x
def CA (k:Nat) (b:Option Nat) (x:aZ):Option Nat:=if x.op=7 then some k else if x.op=8 then none else b
def iC (Fb:Nat->Option Nat->Int->Bool):List aZ->Nat->Option Nat->Nat×Int
 | [],_,b=>match b with
   | some q=>(q,43)
   | none=>(0,0)
 | x::l,k,b=>if sD Fb k b x=0 then iC Fb l (k+1) (CA k b x) else (k,sD Fb k b x)
def cD (p:List aZ):Nat×Int:=if 64<p.length then (0,3) else iC (fq p) p 0 none
def lI (p:List aZ):Nat×Int:=if 64<p.length then (0,3) else iC (λk _ n=>gw p k (k+1+n.toNat)) p 0 none
theorem sl {x:aZ} {n:Int} (h:dW x=some n):n=x.bQ/\b8 x=0/\(x.op=4\/x.op=5\/x.op=6):=by
 unfold dW at h;split at h;rename_i h1;injection h with h;exact⟨h.symm,h1.1,h1.2⟩;cases h
theorem lm {p:List aZ} {k:Nat} {x:aZ} (h:p[k]? = some x):dS p k=x.op:=by simp [dS,h]
theorem w6 {Fb:Nat->Option Nat->Int->Bool} {p:List aZ} {k:Nat} {x:aZ} (hx:p[k]? = some x) (h:sD Fb k (bS p k) x=0):CA k (bS p k) x=bS p (k+1):=by
 have e:=lm hx;unfold CA;rw [bS];cases hb:bS p k with
 | none=>
   simp only;rw [e];by_cases h7:x.op=7;rw [if_pos h7,if_pos h7];rw [if_neg h7,if_neg h7];split<;>rfl
 | some b=>
   simp only;rw [e];have h7:x.op≠7:=λh7=>by
    rw [hb] at h;unfold sD at h;split at h;rw [if_pos (.inl ⟨h7,rfl⟩)] at h;cases h;rename_i h0;exact h0 h
   rw [if_neg h7]
theorem Sw {p:List aZ} {k:Nat} {x:aZ} (hx:p[k]? = some x):sD (λk _ n=>gw p k (k+1+n.toNat)) k (bS p k) x=sD (fq p) k (bS p k) x:=by
 unfold sD;split
 . split;rfl;split;rfl;cases hs:dW x with
   | none=>rfl
   | some n=>
     obtain⟨rfl,_,h3⟩:=sl hs;have e:=lm hx;have ht:=Nq (n:=x.bQ) (List.getElem?_eq_some_iff.1 hx).1 (show dS p k≠7 by rw [e];omega) (show dS p k≠8 by rw [e];omega);simp only [ht]
 rfl
theorem Dw {p:List aZ}:∀(l:List aZ) (k:Nat),p.drop k=l->iC (λk _ n=>gw p k (k+1+n.toNat)) l k (bS p k)=iC (fq p) l k (bS p k)
 | [],k,_=>rfl
 | x::l,k,h=>by
   have hx:p[k]? = some x:=by
    have:=congrArg (λq=>q[0]?) h
    simpa using this
   unfold iC;rw [Sw hx];split;rename_i h0;rw [w6 hx h0];exact Dw l (k+1) (by rw [<-List.drop_drop,h];rfl);rfl
theorem Rn (p:List aZ):lI p=cD p:=by
 unfold lI cD;split;rfl;exact Dw p 0 rfl
theorem Du {Fb:Nat->Option Nat->Int->Bool} {p:List aZ}:∀(l:List aZ) (k:Nat),p.drop k=l->(iC Fb l k (bS p k)).2=0->
 (∀j x,k<=j->p[j]? = some x->sD Fb j (bS p j) x=0)/\bS p (k+l.length)=none
 | [],k,h,h0=>by
   refine⟨λj x hj hx=>?_,?_⟩;have h1:=(List.getElem?_eq_some_iff.1 hx).1;have h2:p.length<=k:=by
    rcases Nat.lt_or_ge k p.length with h3|h3;rw [List.drop_eq_getElem_cons h3] at h;cases h;exact h3
   omega;unfold iC at h0;show bS p k=none;cases hb:bS p k with
   | none=>rfl
   | some b=>rw [hb] at h0;cases h0
 | x::l,k,h,h0=>by
   have hx:p[k]? = some x:=by
    have:=congrArg (λq=>q[0]?) h
    simpa using this
   unfold iC at h0;split at h0;rename_i h1;rw [w6 hx h1] at h0;obtain⟨h2,h3⟩:=Du l (k+1) (by rw [<-List.drop_drop,h];rfl) h0;refine⟨λj y hj hy=>?_,by rw [List.length_cons,show k+(l.length+1)=k+1+l.length by omega];exact h3⟩;by_cases e:j=k;subst e;rw [hx] at hy;injection hy with hy;subst hy;exact h1;exact h2 j y (by omega) hy;rename_i h1;exact absurd h0 h1
theorem gy {p:List aZ} (h:(cD p).2=0):p.length<=64/\(∀j x,p[j]? = some x->sD (fq p) j (bS p j) x=0)/\bS p p.length=none:=by
 unfold cD at h;split at h;cases h;rename_i hl;obtain⟨h1,h2⟩:=Du p 0 rfl h;rw [Nat.zero_add] at h2;exact⟨by omega,λj x hx=>h1 j x (Nat.zero_le _) hx,h2⟩
theorem CQ {x:aZ} (h:b8 x=0) (ho:x.op=4\/x.op=5\/x.op=6):0<=x.bQ/\x.bQ<=64:=by
 unfold b8 at h;split at h;cases h;split at h;rename_i h1;rw [Bool.and_eq_true] at h1;have h2:=h1.2;unfold eT at h2;rw [if_neg (by omega),if_neg (by omega),if_pos ho] at h2
 simpa using h2
 cases h
end Go.Stx
