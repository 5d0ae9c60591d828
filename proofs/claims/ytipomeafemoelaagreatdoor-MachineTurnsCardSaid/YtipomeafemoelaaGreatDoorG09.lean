/-
 The program's cells, made anew.
-/
import Derived.Test.YtipomeafemoelaaGreatDoorG08
set_option linter.unusedVariables false
set_option linter.unusedSimpArgs false
set_option linter.unusedSectionVars false
set_option maxRecDepth 20000
set_option maxHeartbeats 4000000
open Bool renaming and_eq_true->qq,false_eq_true->qt
open Go.Proofs.Tryz renaming info35->ZT,prog->qa,underlying137->kaa,underlying28->ZM,underlying3->ZN,zero35->ZU
open List renaming drop_eq_getElem_cons->q9,getD_eq_getElem?_getD->ql,getElem?_eq_none->qN,getElem?_eq_some_iff->qK,length_replicate->Z9,mem_range->qy,replicate->qc
open Nat renaming le_refl->qf,lt_or_ge->Zt,reduceEqDiff->qH
namespace Go.Stx
open Go Go.Proofs
attribute [local irreducible] TW bG c8 aY aD aO cK da
section
variable [Gl]
namespace aI
def FS:Value->Nat
 | .map (some r)=>r
 | _=>0
def bOf:Value->Nat
 | .pointer (some p)=>p.block
 | _=>0
def r25:Value->Nat
 | .agg cs=>FS (cs.getD 0 undef)
 | _=>0
def pc (b:Bool) (P:HP):HP:=if b=true then P else eZ
def fS (S:Nat->Bool) (val:Nat->Value) (vh vn:Value) (key:Int):Option Value:=
 if key=1 then (if S 6=true/\S 5=true then some (val 5) else none)
 else if key=2 then (if S 10=true/\S 9=true then some (val 9) else none)
 else if key=3 then (if S 12=true/\S 11=true then some (val 11) else none)
 else if key=4 then (if S 14=true/\S 13=true then some (val 13) else none)
 else if key=5 then (if S 16=true/\S 15=true then some (val 15) else none)
 else if key=6 then (if S 19=true/\S 18=true then some (val 18) else none)
 else if key=7 then (if S 21=true then some vh else none)
 else if key=8 then (if S 23=true then some vn else none) else none
def jg (S:Nat->Bool) (val:Nat->Value) (vh vn:Value):HP:=
 if S 26=true then rO λr=>pt (bOf (val 26)) (.cells [.map (some r)] true 1)*gG .i64 r (fS S val vh vn)
 else if S 25=true then gG .i64 (r25 (val 25)) (fS S val vh vn)
 else if S 24=true then gG .i64 (FS (val 24)) (fS S val vh vn)
 else if S 0=true then gG .i64 (FS (val 0)) (fS S val vh vn) else eZ
def ga (S:Nat->Bool) (val:Nat->Value) (ej:List Int) (nn:Nat):HP:=
 if S 5=true then av .u64 (val 5) (ej++qc nn 0) else if S 2=true then av .u64 (val 2) ej else eZ
def G (ej:List Int) (nn no nt:Nat) (vh vn:Value) (B:HP) (S:Nat->Bool) (val:Nat->Value):HP:=
 jg S val vh vn*(ga S val ej nn*(pc (S 9) (av .u64 (val 9) (qc no 0))*(pc (S 11) (av .u64 (val 11) (qc 1 0))*(pc (S 13) (av .u64 (val 13) (qc 1 0)) *
  (pc (S 15) (av .u64 (val 15) (qc 1 0))*(pc (S 18) (av .u64 (val 18) (qc nt 0))*B))))))
def Gt (vi vh vn:Value) (cb nn no nt:Nat) (j:Nat) (val:Nat->Value):Prop:=
 match j with
 | 0=>∃r,val 0=.map (some r)
 | 1=>val 1=vi
 | 3=>val 3=vn
 | 4=>val 4=.int .i64 (nn:Int)
 | 7=>val 7=.pointer (some ⟨cb,1,none⟩)
 | 8=>val 8=.int .i64 (no:Int)
 | 17=>val 17=.int .i64 (nt:Int)
 | 20=>val 20=vh
 | 22=>val 22=vn
 | 24=>∃r,val 24=.map (some r)
 | 25=>∃r,val 25=.agg #[.map (some r)]
 | 26=>∃b,val 26=.pointer (some ⟨b,0,none⟩)
 | 27=>val 27=val 26
 | 28=>val 28=.int .i64 0
 | _=>True
theorem WG {ej:List Int} {nn no nt:Nat} {vh vn:Value} {B:HP} {S S':Nat->Bool} {val RE:Nat->Value} (hm:jg S' RE vh vn=jg S val vh vn) (hd:ga S' RE ej nn=ga S val ej nn)
 (h:∀k,k=9\/k=11\/k=13\/k=15\/k=18->S' k=S k/\(S k=true->RE k=val k)):G ej nn no nt vh vn B S' RE=G ej nn no nt vh vn B S val:=by
 have key:∀k n,k=9\/k=11\/k=13\/k=15\/k=18->pc (S' k) (av .u64 (RE k) (qc n 0))=pc (S k) (av .u64 (val k) (qc n 0)):=λk n hk=>by
  obtain⟨h1,h2⟩:=h k hk;unfold pc;rw [h1];split;rename_i e;rw [h2 e];rfl
 unfold G;rw [hm,hd,key 9 no (by simp),key 11 1 (by simp),key 13 1 (by simp),key 15 1 (by simp),key 18 nt (by simp)]
end aI
set_option maxRecDepth 100000 in
theorem GQ (nt nn no:Nat) (vi:Value) (ej:List Int) (be ao base n0 n1 n2 n3 reads bP an ay aB:Int) (aW:Bool) (hc:pK ⟨be,ao,base,n0,n1,n2,n3,reads,bP,an,ay,aB,aW⟩) (A:AW) (F R:HP) (hR:∀(A:AW) (F:HP),bB A (R*F)->cd A .u64 vi ej) (hw:A.Wf) (hS:bB A (R*F)) (h1:1<=nt) (FW:nt<=16) (hi:(ej.length:Int)=be) (AJ:ao=(no:Int)) (YP:(tW n0 n1).length=nn) :
 aD qa 39 [(br.mk be ao base n0 n1 n2 n3 reads bP an ay aB aW).v,.int .i64 (nt:Int),vi] A (λv A'=>∃pb,v=.tuple #[.pointer (some ⟨pb,0,none⟩),.int .i64 0]/\
  bB A' (eG pb (λk=>if k=0 then ej++qc nn 0 else if k=1 then qc no 0 else if k=5 then qc nt 0 else if k=6 then tm n0 n1 else if k=7 then tW n0 n1 else [0])*(R*F))):=by
 have CL:=rV _ hc.ok;have YU:=Nb _ hc;have hno1:1<=no/\no<=64:=by
  have:=hc.ok.ao;dsimp only at this;omega
 have hi64:ej.length<=64:=by
  have:=hc.ok.be;dsimp only at this;omega
 have hnn1:nn<=4:=by
  have h0:=hc.c0;have h1:=hc.c1;dsimp only at h0 h1;rw [<-YP];rcases h0 with rfl|rfl|rfl<;>rcases h1 with rfl|rfl|rfl<;>decide
 refine aN Tryz.func39 λ_=>?_;obtain⟨oi,ci,rfl,_⟩:=(hR A F hS).cy;have hnt:¬(nt:Int)<1:=by omega
 have hnt2:¬(16:Int)<nt:=by omega
 dsimp only [br.v] at CL YU ⊢
 repeat' (first|(refine kY λR hR=>?_;simp [ar,ax,AW.ab,aG,hnt,hnt2,hi];try simp (disch:=omega) only [aA,aw,ar,ax])|(refine hR _ _ ?_;clear hR R)|(refine hK _ _ ?_;clear hK K)|refine nx ?_|refine wn λK hK=>?_|simp only [wS]|(refine bO (CL _) ?_;rintro _ _ ⟨rfl,rfl⟩ _ _)|(show c8 _ _ _ _ _ _;refine nx ?_)|(refine wc rfl (λhc=>?_) (λhc=>?_)<;>(try simp at hc)<;>(try omega))|(refine ib (λhc=>?_) (λhc=>?_)<;>(try omega)<;>(try simp (disch:=omega) only [aA,aw])))
 obtain⟨CV,hCV⟩:∃CV:List Value,CV=[.int .i64 be,.int .i64 ao,.int .i64 base,.int .i64 n0,.int .i64 n1,.int .i64 n2,.int .i64 n3,.int .i64 reads,.int .i64 bP,.int .i64 an,.int .i64 ay,.int .i64 aB,.bool aW]:=⟨_,rfl⟩;have jx:=hw.alloc (.cells CV true 1);have iY:=hS.alloc hw (.cells CV true 1);rw [hCV] at jx iY;refine bO (YU _ _ jx (ah.mk iY)) ?_;rintro v A2 ⟨vh,vn,rfl,hSL2⟩ kc _
 repeat (first|(refine hR _ _ ?_;clear hR R)|(refine kY (λR hR=>?_);simp)|refine lwn ?_|(refine hK _ _ ?_;clear hK K))
 have kZ:bB A2 (av .u64 vh (tm n0 n1)*(av .u64 vn (tW n0 n1)*(pt A.next (.cells CV true 1)*(R*F)))):=by
  subst hCV;have:=hSL2;simp only [ah,aM,It.hp,dO] at this;exact this
 have hvnf:∃o c,vn=.slice o nn c:=by
  obtain⟨o,c,h,_⟩:=(av.is kZ.right).cy;rw [YP] at h;exact⟨o,c,h⟩
 obtain⟨B,hB⟩:∃B,B=av .u64 vh (tm n0 n1)*(av .u64 vn (tW n0 n1)*(pt A.next (.cells CV true 1)*(R*F))):=⟨_,rfl⟩;refine ba (T9 (by kernel_rfl) (by decide +kernel) (aI.G ej nn no nt vh vn B) (aI.Gt (.slice oi ej.length ci) vh vn A.next nn no nt) ?_ ?_ ?_ ?_ ?_);intro S i val v hc hi;have c6:=hc 6 5 (by decide +kernel);have c10:=hc 10 9 (by decide +kernel);have c12:=hc 12 11 (by decide +kernel);have c14:=hc 14 13 (by decide +kernel);have c16:=hc 16 15 (by decide +kernel);have c19:=hc 19 18 (by decide +kernel);have hv:∀k,S k=true->b9 val i v k=val k:=λk hk=>by
  have:k≠i:=λe=>by rw [e,hi] at hk;cases hk
  simp [b9,this]
 have GL:aI.fS S (b9 val i v) vh vn=aI.fS S val vh vn:=by
  funext key;unfold aI.fS;have e:∀p k,(S p=true->S k=true)->(if S p=true/\S k=true then some (b9 val i v k) else none)=if S p=true/\S k=true then some (val k) else none:=λp k _=>by
   split;rename_i h;rw [hv k h.2];rfl
  rw [e 6 5 c6,e 10 9 c10,e 12 11 c12,e 14 13 c14,e 16 15 c16,e 19 18 c19]
 refine aI.WG ?_ ?_ (λk _=>⟨rfl,hv k⟩);unfold aI.jg;rw [GL];split;rename_i h;rw [hv 26 h];split;rename_i h;rw [hv 25 h];split;rename_i h;rw [hv 24 h];split;rename_i h;rw [hv 0 h];rfl;unfold aI.ga;split;rename_i h;rw [hv 5 h];split;rename_i h;rw [hv 2 h];rfl;intro S i j val v hc hi hj;have c27:=hc 27 26 (by decide +kernel);have hv:∀k,S k=true->b9 val i v k=val k:=λk hk=>by
  have:k≠i:=λe=>by rw [e,hi] at hk;cases hk
  simp [b9,this]
 have hvj:=hv j hj;unfold aI.Gt;split<;>intro h<;>first|(rw [hvj,hv 26 (c27 hj)];exact h)|(simp only [hvj];exact h)|trivial
 intro val;have e:aI.G ej nn no nt vh vn B (λ_=>false) val=B:=by
  simp [aI.G,aI.jg,aI.ga,aI.pc,iD]
 rw [e,hB];exact kZ
 . intro i cD S val a A3 sR jM dy FU hs;have o1:a 1=.int .i64 (nt:Int):=(by rw [dy.dT 1 (by decide +kernel)];simp);have o2:a 2=.slice oi ej.length ci:=(by rw [dy.dT 2 (by decide +kernel)];simp);have o3:a 3=.pointer (some ⟨A.next,0,none⟩):=(by rw [dy.dT 3 (by decide +kernel)];simp);have o9:a 9=vh:=(by rw [dy.dT 9 (by decide +kernel)];simp);have nd:a 10=vn:=(by rw [dy.dT 10 (by decide +kernel)];simp);have eI:∀k j,yz _ k j=true->S j=false->S k=false:=λk j h hj=>by
    cases hk:S k;rfl;have:=dy.closed k j h hk;rw [hj] at this;cases this
   have hBs:bB A3 (B*(aI.jg S val vh vn*(aI.ga S val ej nn*(aI.pc (S 9) (av .u64 (val 9) (qc no 0))*(aI.pc (S 11) (av .u64 (val 11) (qc 1 0))*(aI.pc (S 13) (av .u64 (val 13) (qc 1 0)) *
    (aI.pc (S 15) (av .u64 (val 15) (qc 1 0))*aI.pc (S 18) (av .u64 (val 18) (qc nt 0))))))))):=hs.dZ (by unfold aI.G;ac_rfl)
   obtain h|h|h|h|h|h|h|h|h|h|h|h|h|h|h|h|h|h|h|h|h|h|h|h|h|h|h|h|h:i=0\/i=1\/i=2\/i=3\/i=4\/i=5\/i=6\/i=7\/i=8\/i=9\/i=10\/i=11\/i=12\/i=13\/i=14\/i=15\/i=16\/i=17\/i=18\/i=19\/i=20\/i=21\/i=22\/i=23\/i=24\/i=25\/i=26\/i=27\/i=28:=by
    have:i<29:=cD;omega
   all_goals subst h
   .
    have vB:=eI 24 0 (by decide +kernel) sR;have tM:=eI 25 24 (by decide +kernel) vB;have zZ:=eI 26 25 (by decide +kernel) tM;have s6:=eI 6 0 (by decide +kernel) sR;have s10:=eI 10 0 (by decide +kernel) sR;have s12:=eI 12 0 (by decide +kernel) sR;have s14:=eI 14 0 (by decide +kernel) sR;have s16:=eI 16 0 (by decide +kernel) sR;have s19:=eI 19 0 (by decide +kernel) sR;have s21:=eI 21 0 (by decide +kernel) sR;have s23:=eI 23 0 (by decide +kernel) sR;have hk:aI.G ej nn no nt vh vn B (cH S 0) (b9 val 0 (.map (some A3.next)))=gG .i64 A3.next (λ_=>none)*aI.G ej nn no nt vh vn B S val:=by
     have hf:aI.fS (cH S 0) (b9 val 0 (.map (some A3.next))) vh vn=λ_=>none:=by funext key;simp [aI.fS,cH,s6,s10,s12,s14,s16,s19,s21,s23]
     simp [aI.G,aI.jg,aI.ga,aI.pc,hf];simp [cH,b9,vB,tM,zZ,sR,aI.FS,iD]
    simp [ma,hk];exact⟨⟨A3.next,by simp [b9]⟩,gG.mc hs FU⟩
   .
    have hk:∀v,aI.G ej nn no nt vh vn B (cH S 1) (b9 val 1 v)=aI.G ej nn no nt vh vn B S val:=λv=>by
     have hf:aI.fS (cH S 1) (b9 val 1 v) vh vn=aI.fS S val vh vn:=by funext key;simp [aI.fS,cH,b9]
     simp [aI.G,aI.jg,aI.ga,aI.pc,hf];simp [cH,b9]
    simp [ma,o2,hk]
    first|exact⟨by simp [aI.Gt,b9],hs⟩|(simp [aI.Gt,b9];exact hs)
   .
    have s5:=eI 5 2 (by decide +kernel) sR;have v1:a 33=.slice oi ej.length ci:=(by rw [dy.lL 1 33 (by decide +kernel) (jM 1 (by decide +kernel))];exact dy.sl 1 (jM 1 (by decide +kernel)));have xQ:cd A3 .u64 (.slice oi ej.length ci) ej:=by
     have h':=hBs.left;rw [hB] at h';have:=hR A3 _ h'.right.right.right;exact this
    have hk:∀v,aI.G ej nn no nt vh vn B (cH S 2) (b9 val 2 v)=av .u64 v ej*aI.G ej nn no nt vh vn B S val:=λv=>by
     have hf:aI.fS (cH S 2) (b9 val 2 v) vh vn=aI.fS S val vh vn:=by funext key;simp [aI.fS,cH,b9]
     simp [aI.G,aI.jg,aI.ga,aI.pc,hf];simp [cH,b9,s5,sR,iD]
     ac_rfl
    simp [ma,v1];refine bO (i7 _ ej A3 xQ (by omega)) ?_;rintro v A4 ⟨h1,h2⟩ _ _;refine⟨trivial,?_⟩;rw [hk];exact av.iB hs FU h2 h1
   .
    have hk:∀v,aI.G ej nn no nt vh vn B (cH S 3) (b9 val 3 v)=aI.G ej nn no nt vh vn B S val:=λv=>by
     have hf:aI.fS (cH S 3) (b9 val 3 v) vh vn=aI.fS S val vh vn:=by funext key;simp [aI.fS,cH,b9]
     simp [aI.G,aI.jg,aI.ga,aI.pc,hf];simp [cH,b9]
    simp [ma,nd,hk]
    first|exact⟨by simp [aI.Gt,b9],hs⟩|(simp [aI.Gt,b9];exact hs)
   .
    have hk:∀v,aI.G ej nn no nt vh vn B (cH S 4) (b9 val 4 v)=aI.G ej nn no nt vh vn B S val:=λv=>by
     have hf:aI.fS (cH S 4) (b9 val 4 v) vh vn=aI.fS S val vh vn:=by funext key;simp [aI.fS,cH,b9]
     simp [aI.G,aI.jg,aI.ga,aI.pc,hf];simp [cH,b9]
    have v4:a 35=vn:=(by rw [dy.lL 3 35 (by decide +kernel) (jM 3 (by decide +kernel))];exact dy.sl 3 (jM 3 (by decide +kernel)));obtain⟨on,cn,hvn⟩:=hvnf;rw [hvn] at v4;simp [ma,v4];exact⟨by simp [aI.Gt,b9],by rw [hk];exact hs⟩
   .
    have s6:=eI 6 5 (by decide +kernel) sR;have s2:=jM 2 (by decide +kernel);have v2:a 34=val 2:=dy.lL 2 34 (by decide +kernel) s2;have v4:a 36=.int .i64 ((nn:Nat):Int):=(by rw [dy.lL 4 36 (by decide +kernel) (jM 4 (by decide +kernel))];exact dy.sl 4 (jM 4 (by decide +kernel)));obtain⟨X,hX⟩:∃X,aI.G ej nn no nt vh vn B S val=av .u64 (val 2) ej*X/\∀v,aI.G ej nn no nt vh vn B (cH S 5) (b9 val 5 v)=av .u64 v (ej++qc nn 0)*X:=by
     refine⟨aI.jg S val vh vn*(aI.pc (S 9) (av .u64 (val 9) (qc no 0))*(aI.pc (S 11) (av .u64 (val 11) (qc 1 0))*(aI.pc (S 13) (av .u64 (val 13) (qc 1 0)) *
      (aI.pc (S 15) (av .u64 (val 15) (qc 1 0))*(aI.pc (S 18) (av .u64 (val 18) (qc nt 0))*B))))),?_,λv=>?_⟩
     simp only [aI.G,aI.ga,sR,s2,if_true,qt,if_false]
     ac_rfl
     have hf:aI.fS (cH S 5) (b9 val 5 v) vh vn=aI.fS S val vh vn:=by funext key;simp [aI.fS,cH,b9,s6]
     simp only [aI.G,aI.jg,aI.ga,aI.pc,hf];simp only [cH,b9,qH,if_true,if_false]
     ac_rfl
    rw [hX.1] at hs;obtain⟨v',A4,e1,e2,e3⟩:=av.Wn (P:=qa) (t:=28) (u:=3) (kq:=.i64) nn ZM ZN ZT ZU rfl hs (by omega) (by simp) FU;simp [ma,v2,v4]
    try simp at e1
    simp [e1];rw [hX.2];exact⟨trivial,e2⟩
   .
    have vB:=eI 24 6 (by decide +kernel) sR;have tM:=eI 25 24 (by decide +kernel) vB;have zZ:=eI 26 25 (by decide +kernel) tM;have s0:=jM 0 (by decide +kernel);have sp:=jM 5 (by decide +kernel);obtain⟨r,hr⟩:=dy.sl 0 s0;have v0:a 32=.map (some r):=(by rw [dy.lL 0 32 (by decide +kernel) s0];exact hr);have vx:a 37=val 5:=dy.lL 5 37 (by decide +kernel) sp;obtain⟨X,Lq,Lp⟩:∃X,aI.G ej nn no nt vh vn B S val=gG .i64 r (aI.fS S val vh vn)*X/\∀v,aI.G ej nn no nt vh vn B (cH S 6) (b9 val 6 v)=gG .i64 r (mT (aI.fS S val vh vn) 1 (val 5))*X:=by
     refine⟨(aI.ga S val ej nn*(aI.pc (S 9) (av .u64 (val 9) (qc no 0))*(aI.pc (S 11) (av .u64 (val 11) (qc 1 0))*(aI.pc (S 13) (av .u64 (val 13) (qc 1 0)) *
      (aI.pc (S 15) (av .u64 (val 15) (qc 1 0))*(aI.pc (S 18) (av .u64 (val 18) (qc nt 0))*B)))))),?_,λv=>?_⟩
     simp only [aI.G,aI.jg,zZ,tM,vB,s0,hr,aI.FS,if_true,qt,if_false];have hf:aI.fS (cH S 6) (b9 val 6 v) vh vn=mT (aI.fS S val vh vn) 1 (val 5):=by
      funext key;simp only [aI.fS,cH,b9,mT,qH,if_true,if_false];by_cases hkey:key=1;subst hkey;simp [sp];simp [hkey]
     simp only [aI.G,aI.jg,aI.ga,aI.pc,hf];simp only [cH,b9,zZ,tM,vB,s0,hr,aI.FS,qH,if_true,if_false,qt]
    rw [Lq] at hs;obtain⟨A4,e1,e2,_⟩:=gG.wd (P:=qa) (t:=137) hs kaa ZN 1 (val 5);simp [-gv,ma,v0,vx,e1];rw [Lp];exact⟨trivial,e2⟩
   .
    have hk:∀v,aI.G ej nn no nt vh vn B (cH S 7) (b9 val 7 v)=aI.G ej nn no nt vh vn B S val:=λv=>by
     have hf:aI.fS (cH S 7) (b9 val 7 v) vh vn=aI.fS S val vh vn:=by funext key;simp [aI.fS,cH,b9]
     simp [aI.G,aI.jg,aI.ga,aI.pc,hf];simp [cH,b9]
    simp [ma,o3,hk]
    first|exact⟨by simp [aI.Gt,b9],hs⟩|(simp [aI.Gt,b9];exact hs)
   .
    have hk:∀v,aI.G ej nn no nt vh vn B (cH S 8) (b9 val 8 v)=aI.G ej nn no nt vh vn B S val:=λv=>by
     have hf:aI.fS (cH S 8) (b9 val 8 v) vh vn=aI.fS S val vh vn:=by funext key;simp [aI.fS,cH,b9]
     simp [aI.G,aI.jg,aI.ga,aI.pc,hf];simp [cH,b9]
    have v8:a 38=.pointer (some ⟨A.next,1,none⟩):=(by rw [dy.lL 7 38 (by decide +kernel) (jM 7 (by decide +kernel))];exact dy.sl 7 (jM 7 (by decide +kernel)));have hgc:A3.bp A.next=some (.cells CV true 1):=by
     have h':=hBs.left;rw [hB] at h';exact h'.right.right.bp
    simp [ma,v8,hgc,hCV,AW.ab,hk,AJ]
    first|exact⟨by simp [aI.Gt,b9],hs⟩|(simp [aI.Gt,b9];exact hs)
   .
    have sI:=eI 10 9 (by decide +kernel) sR;have vd:a 39=.int .i64 ((no:Nat):Int):=(by rw [dy.lL 8 39 (by decide +kernel) (jM 8 (by decide +kernel))];exact dy.sl 8 (jM 8 (by decide +kernel)));have hk:∀v,aI.G ej nn no nt vh vn B (cH S 9) (b9 val 9 v)=av .u64 v (qc no 0)*aI.G ej nn no nt vh vn B S val:=λv=>by
     have hf:aI.fS (cH S 9) (b9 val 9 v) vh vn=aI.fS S val vh vn:=by funext key;simp [aI.fS,cH,b9,sI]
     simp only [aI.G,aI.jg,aI.ga,aI.pc,hf];simp only [cH,b9,sR,qH,if_true,if_false,qt,iD]
     ac_rfl
    obtain⟨v',A4,e1,e2,e3,_⟩:=av.SE (P:=qa) (t:=28) (k1:=.i64) (k2:=.i64) no ZM ZT ZU rfl (by simp) (by omega) hs FU;have Wa:mj qa A3 28 (.int .i64 (no:Int)) (.int .i64 (no:Int))=some (v',A4):=e1;simp [-mj,ma,vd,Wa];rw [hk];exact⟨trivial,e2⟩
   .
    have vB:=eI 24 10 (by decide +kernel) sR;have tM:=eI 25 24 (by decide +kernel) vB;have zZ:=eI 26 25 (by decide +kernel) tM;have s0:=jM 0 (by decide +kernel);have sp:=jM 9 (by decide +kernel);obtain⟨r,hr⟩:=dy.sl 0 s0;have v0:a 32=.map (some r):=(by rw [dy.lL 0 32 (by decide +kernel) s0];exact hr);have vx:a 40=val 9:=dy.lL 9 40 (by decide +kernel) sp;obtain⟨X,Lq,Lp⟩:∃X,aI.G ej nn no nt vh vn B S val=gG .i64 r (aI.fS S val vh vn)*X/\∀v,aI.G ej nn no nt vh vn B (cH S 10) (b9 val 10 v)=gG .i64 r (mT (aI.fS S val vh vn) 2 (val 9))*X:=by
     refine⟨(aI.ga S val ej nn*(aI.pc (S 9) (av .u64 (val 9) (qc no 0))*(aI.pc (S 11) (av .u64 (val 11) (qc 1 0))*(aI.pc (S 13) (av .u64 (val 13) (qc 1 0)) *
      (aI.pc (S 15) (av .u64 (val 15) (qc 1 0))*(aI.pc (S 18) (av .u64 (val 18) (qc nt 0))*B)))))),?_,λv=>?_⟩
     simp only [aI.G,aI.jg,zZ,tM,vB,s0,hr,aI.FS,if_true,qt,if_false];have hf:aI.fS (cH S 10) (b9 val 10 v) vh vn=mT (aI.fS S val vh vn) 2 (val 9):=by
      funext key;simp only [aI.fS,cH,b9,mT,qH,if_true,if_false];by_cases hkey:key=2;subst hkey;simp [sp];simp [hkey]
     simp only [aI.G,aI.jg,aI.ga,aI.pc,hf];simp only [cH,b9,zZ,tM,vB,s0,hr,aI.FS,qH,if_true,if_false,qt]
    rw [Lq] at hs;obtain⟨A4,e1,e2,_⟩:=gG.wd (P:=qa) (t:=137) hs kaa ZN 2 (val 9);simp [-gv,ma,v0,vx,e1];rw [Lp];exact⟨trivial,e2⟩
   .
    have sI:=eI 12 11 (by decide +kernel) sR;have hk:∀v,aI.G ej nn no nt vh vn B (cH S 11) (b9 val 11 v)=av .u64 v (qc 1 0)*aI.G ej nn no nt vh vn B S val:=λv=>by
     have hf:aI.fS (cH S 11) (b9 val 11 v) vh vn=aI.fS S val vh vn:=by funext key;simp [aI.fS,cH,b9,sI]
     simp only [aI.G,aI.jg,aI.ga,aI.pc,hf];simp only [cH,b9,sR,qH,if_true,if_false,qt,iD]
     ac_rfl
    obtain⟨v',A4,e1,e2,e3,_⟩:=av.SE (P:=qa) (t:=28) (k1:=.i64) (k2:=.i64) 1 ZM ZT ZU rfl (by simp) (by omega) hs FU;have Wa:mj qa A3 28 (.int .i64 1) (.int .i64 1)=some (v',A4):=e1;simp [-mj,ma,Wa];rw [hk];exact⟨trivial,e2⟩
   .
    have vB:=eI 24 12 (by decide +kernel) sR;have tM:=eI 25 24 (by decide +kernel) vB;have zZ:=eI 26 25 (by decide +kernel) tM;have s0:=jM 0 (by decide +kernel);have sp:=jM 11 (by decide +kernel);obtain⟨r,hr⟩:=dy.sl 0 s0;have v0:a 32=.map (some r):=(by rw [dy.lL 0 32 (by decide +kernel) s0];exact hr);have vx:a 41=val 11:=dy.lL 11 41 (by decide +kernel) sp;obtain⟨X,Lq,Lp⟩:∃X,aI.G ej nn no nt vh vn B S val=gG .i64 r (aI.fS S val vh vn)*X/\∀v,aI.G ej nn no nt vh vn B (cH S 12) (b9 val 12 v)=gG .i64 r (mT (aI.fS S val vh vn) 3 (val 11))*X:=by
     refine⟨(aI.ga S val ej nn*(aI.pc (S 9) (av .u64 (val 9) (qc no 0))*(aI.pc (S 11) (av .u64 (val 11) (qc 1 0))*(aI.pc (S 13) (av .u64 (val 13) (qc 1 0)) *
      (aI.pc (S 15) (av .u64 (val 15) (qc 1 0))*(aI.pc (S 18) (av .u64 (val 18) (qc nt 0))*B)))))),?_,λv=>?_⟩
     simp only [aI.G,aI.jg,zZ,tM,vB,s0,hr,aI.FS,if_true,qt,if_false];have hf:aI.fS (cH S 12) (b9 val 12 v) vh vn=mT (aI.fS S val vh vn) 3 (val 11):=by
      funext key;simp only [aI.fS,cH,b9,mT,qH,if_true,if_false];by_cases hkey:key=3;subst hkey;simp [sp];simp [hkey]
     simp only [aI.G,aI.jg,aI.ga,aI.pc,hf];simp only [cH,b9,zZ,tM,vB,s0,hr,aI.FS,qH,if_true,if_false,qt]
    rw [Lq] at hs;obtain⟨A4,e1,e2,_⟩:=gG.wd (P:=qa) (t:=137) hs kaa ZN 3 (val 11);simp [-gv,ma,v0,vx,e1];rw [Lp];exact⟨trivial,e2⟩
   .
    have sI:=eI 14 13 (by decide +kernel) sR;have hk:∀v,aI.G ej nn no nt vh vn B (cH S 13) (b9 val 13 v)=av .u64 v (qc 1 0)*aI.G ej nn no nt vh vn B S val:=λv=>by
     have hf:aI.fS (cH S 13) (b9 val 13 v) vh vn=aI.fS S val vh vn:=by funext key;simp [aI.fS,cH,b9,sI]
     simp only [aI.G,aI.jg,aI.ga,aI.pc,hf];simp only [cH,b9,sR,qH,if_true,if_false,qt,iD]
     ac_rfl
    obtain⟨v',A4,e1,e2,e3,_⟩:=av.SE (P:=qa) (t:=28) (k1:=.i64) (k2:=.i64) 1 ZM ZT ZU rfl (by simp) (by omega) hs FU;have Wa:mj qa A3 28 (.int .i64 1) (.int .i64 1)=some (v',A4):=e1;simp [-mj,ma,Wa];rw [hk];exact⟨trivial,e2⟩
   .
    have vB:=eI 24 14 (by decide +kernel) sR;have tM:=eI 25 24 (by decide +kernel) vB;have zZ:=eI 26 25 (by decide +kernel) tM;have s0:=jM 0 (by decide +kernel);have sp:=jM 13 (by decide +kernel);obtain⟨r,hr⟩:=dy.sl 0 s0;have v0:a 32=.map (some r):=(by rw [dy.lL 0 32 (by decide +kernel) s0];exact hr);have vx:a 42=val 13:=dy.lL 13 42 (by decide +kernel) sp;obtain⟨X,Lq,Lp⟩:∃X,aI.G ej nn no nt vh vn B S val=gG .i64 r (aI.fS S val vh vn)*X/\∀v,aI.G ej nn no nt vh vn B (cH S 14) (b9 val 14 v)=gG .i64 r (mT (aI.fS S val vh vn) 4 (val 13))*X:=by
     refine⟨(aI.ga S val ej nn*(aI.pc (S 9) (av .u64 (val 9) (qc no 0))*(aI.pc (S 11) (av .u64 (val 11) (qc 1 0))*(aI.pc (S 13) (av .u64 (val 13) (qc 1 0)) *
      (aI.pc (S 15) (av .u64 (val 15) (qc 1 0))*(aI.pc (S 18) (av .u64 (val 18) (qc nt 0))*B)))))),?_,λv=>?_⟩
     simp only [aI.G,aI.jg,zZ,tM,vB,s0,hr,aI.FS,if_true,qt,if_false];have hf:aI.fS (cH S 14) (b9 val 14 v) vh vn=mT (aI.fS S val vh vn) 4 (val 13):=by
      funext key;simp only [aI.fS,cH,b9,mT,qH,if_true,if_false];by_cases hkey:key=4;subst hkey;simp [sp];simp [hkey]
     simp only [aI.G,aI.jg,aI.ga,aI.pc,hf];simp only [cH,b9,zZ,tM,vB,s0,hr,aI.FS,qH,if_true,if_false,qt]
    rw [Lq] at hs;obtain⟨A4,e1,e2,_⟩:=gG.wd (P:=qa) (t:=137) hs kaa ZN 4 (val 13);simp [-gv,ma,v0,vx,e1];rw [Lp];exact⟨trivial,e2⟩
   .
    have sI:=eI 16 15 (by decide +kernel) sR;have hk:∀v,aI.G ej nn no nt vh vn B (cH S 15) (b9 val 15 v)=av .u64 v (qc 1 0)*aI.G ej nn no nt vh vn B S val:=λv=>by
     have hf:aI.fS (cH S 15) (b9 val 15 v) vh vn=aI.fS S val vh vn:=by funext key;simp [aI.fS,cH,b9,sI]
     simp only [aI.G,aI.jg,aI.ga,aI.pc,hf];simp only [cH,b9,sR,qH,if_true,if_false,qt,iD]
     ac_rfl
    obtain⟨v',A4,e1,e2,e3,_⟩:=av.SE (P:=qa) (t:=28) (k1:=.i64) (k2:=.i64) 1 ZM ZT ZU rfl (by simp) (by omega) hs FU;have Wa:mj qa A3 28 (.int .i64 1) (.int .i64 1)=some (v',A4):=e1;simp [-mj,ma,Wa];rw [hk];exact⟨trivial,e2⟩
   .
    have vB:=eI 24 16 (by decide +kernel) sR;have tM:=eI 25 24 (by decide +kernel) vB;have zZ:=eI 26 25 (by decide +kernel) tM;have s0:=jM 0 (by decide +kernel);have sp:=jM 15 (by decide +kernel);obtain⟨r,hr⟩:=dy.sl 0 s0;have v0:a 32=.map (some r):=(by rw [dy.lL 0 32 (by decide +kernel) s0];exact hr);have vx:a 43=val 15:=dy.lL 15 43 (by decide +kernel) sp;obtain⟨X,Lq,Lp⟩:∃X,aI.G ej nn no nt vh vn B S val=gG .i64 r (aI.fS S val vh vn)*X/\∀v,aI.G ej nn no nt vh vn B (cH S 16) (b9 val 16 v)=gG .i64 r (mT (aI.fS S val vh vn) 5 (val 15))*X:=by
     refine⟨(aI.ga S val ej nn*(aI.pc (S 9) (av .u64 (val 9) (qc no 0))*(aI.pc (S 11) (av .u64 (val 11) (qc 1 0))*(aI.pc (S 13) (av .u64 (val 13) (qc 1 0)) *
      (aI.pc (S 15) (av .u64 (val 15) (qc 1 0))*(aI.pc (S 18) (av .u64 (val 18) (qc nt 0))*B)))))),?_,λv=>?_⟩
     simp only [aI.G,aI.jg,zZ,tM,vB,s0,hr,aI.FS,if_true,qt,if_false];have hf:aI.fS (cH S 16) (b9 val 16 v) vh vn=mT (aI.fS S val vh vn) 5 (val 15):=by
      funext key;simp only [aI.fS,cH,b9,mT,qH,if_true,if_false];by_cases hkey:key=5;subst hkey;simp [sp];simp [hkey]
     simp only [aI.G,aI.jg,aI.ga,aI.pc,hf];simp only [cH,b9,zZ,tM,vB,s0,hr,aI.FS,qH,if_true,if_false,qt]
    rw [Lq] at hs;obtain⟨A4,e1,e2,_⟩:=gG.wd (P:=qa) (t:=137) hs kaa ZN 5 (val 15);simp [-gv,ma,v0,vx,e1];rw [Lp];exact⟨trivial,e2⟩
   .
    have hk:∀v,aI.G ej nn no nt vh vn B (cH S 17) (b9 val 17 v)=aI.G ej nn no nt vh vn B S val:=λv=>by
     have hf:aI.fS (cH S 17) (b9 val 17 v) vh vn=aI.fS S val vh vn:=by funext key;simp [aI.fS,cH,b9]
     simp [aI.G,aI.jg,aI.ga,aI.pc,hf];simp [cH,b9]
    simp [ma,o1,hk]
    first|exact⟨by simp [aI.Gt,b9],hs⟩|(simp [aI.Gt,b9];exact hs)
   .
    have sI:=eI 19 18 (by decide +kernel) sR;have vd:a 44=.int .i64 ((nt:Nat):Int):=(by rw [dy.lL 17 44 (by decide +kernel) (jM 17 (by decide +kernel))];exact dy.sl 17 (jM 17 (by decide +kernel)));have hk:∀v,aI.G ej nn no nt vh vn B (cH S 18) (b9 val 18 v)=av .u64 v (qc nt 0)*aI.G ej nn no nt vh vn B S val:=λv=>by
     have hf:aI.fS (cH S 18) (b9 val 18 v) vh vn=aI.fS S val vh vn:=by funext key;simp [aI.fS,cH,b9,sI]
     simp only [aI.G,aI.jg,aI.ga,aI.pc,hf];simp only [cH,b9,sR,qH,if_true,if_false,qt,iD]
     ac_rfl
    obtain⟨v',A4,e1,e2,e3,_⟩:=av.SE (P:=qa) (t:=28) (k1:=.i64) (k2:=.i64) nt ZM ZT ZU rfl (by simp) (by omega) hs FU;have Wa:mj qa A3 28 (.int .i64 (nt:Int)) (.int .i64 (nt:Int))=some (v',A4):=e1;simp [-mj,ma,vd,Wa];rw [hk];exact⟨trivial,e2⟩
   .
    have vB:=eI 24 19 (by decide +kernel) sR;have tM:=eI 25 24 (by decide +kernel) vB;have zZ:=eI 26 25 (by decide +kernel) tM;have s0:=jM 0 (by decide +kernel);have sp:=jM 18 (by decide +kernel);obtain⟨r,hr⟩:=dy.sl 0 s0;have v0:a 32=.map (some r):=(by rw [dy.lL 0 32 (by decide +kernel) s0];exact hr);have vx:a 45=val 18:=dy.lL 18 45 (by decide +kernel) sp;obtain⟨X,Lq,Lp⟩:∃X,aI.G ej nn no nt vh vn B S val=gG .i64 r (aI.fS S val vh vn)*X/\∀v,aI.G ej nn no nt vh vn B (cH S 19) (b9 val 19 v)=gG .i64 r (mT (aI.fS S val vh vn) 6 (val 18))*X:=by
     refine⟨(aI.ga S val ej nn*(aI.pc (S 9) (av .u64 (val 9) (qc no 0))*(aI.pc (S 11) (av .u64 (val 11) (qc 1 0))*(aI.pc (S 13) (av .u64 (val 13) (qc 1 0)) *
      (aI.pc (S 15) (av .u64 (val 15) (qc 1 0))*(aI.pc (S 18) (av .u64 (val 18) (qc nt 0))*B)))))),?_,λv=>?_⟩
     simp only [aI.G,aI.jg,zZ,tM,vB,s0,hr,aI.FS,if_true,qt,if_false];have hf:aI.fS (cH S 19) (b9 val 19 v) vh vn=mT (aI.fS S val vh vn) 6 (val 18):=by
      funext key;simp only [aI.fS,cH,b9,mT,qH,if_true,if_false];by_cases hkey:key=6;subst hkey;simp [sp];simp [hkey]
     simp only [aI.G,aI.jg,aI.ga,aI.pc,hf];simp only [cH,b9,zZ,tM,vB,s0,hr,aI.FS,qH,if_true,if_false,qt]
    rw [Lq] at hs;obtain⟨A4,e1,e2,_⟩:=gG.wd (P:=qa) (t:=137) hs kaa ZN 6 (val 18);simp [-gv,ma,v0,vx,e1];rw [Lp];exact⟨trivial,e2⟩
   .
    have hk:∀v,aI.G ej nn no nt vh vn B (cH S 20) (b9 val 20 v)=aI.G ej nn no nt vh vn B S val:=λv=>by
     have hf:aI.fS (cH S 20) (b9 val 20 v) vh vn=aI.fS S val vh vn:=by funext key;simp [aI.fS,cH,b9]
     simp [aI.G,aI.jg,aI.ga,aI.pc,hf];simp [cH,b9]
    simp [ma,o9,hk]
    first|exact⟨by simp [aI.Gt,b9],hs⟩|(simp [aI.Gt,b9];exact hs)
   .
    have vB:=eI 24 21 (by decide +kernel) sR;have tM:=eI 25 24 (by decide +kernel) vB;have zZ:=eI 26 25 (by decide +kernel) tM;have s0:=jM 0 (by decide +kernel);have sp:=jM 20 (by decide +kernel);obtain⟨r,hr⟩:=dy.sl 0 s0;have v0:a 32=.map (some r):=(by rw [dy.lL 0 32 (by decide +kernel) s0];exact hr);have vx:a 46=vh:=(by rw [dy.lL 20 46 (by decide +kernel) sp];exact dy.sl 20 sp);obtain⟨X,Lq,Lp⟩:∃X,aI.G ej nn no nt vh vn B S val=gG .i64 r (aI.fS S val vh vn)*X/\∀v,aI.G ej nn no nt vh vn B (cH S 21) (b9 val 21 v)=gG .i64 r (mT (aI.fS S val vh vn) 7 vh)*X:=by
     refine⟨(aI.ga S val ej nn*(aI.pc (S 9) (av .u64 (val 9) (qc no 0))*(aI.pc (S 11) (av .u64 (val 11) (qc 1 0))*(aI.pc (S 13) (av .u64 (val 13) (qc 1 0)) *
      (aI.pc (S 15) (av .u64 (val 15) (qc 1 0))*(aI.pc (S 18) (av .u64 (val 18) (qc nt 0))*B)))))),?_,λv=>?_⟩
     simp only [aI.G,aI.jg,zZ,tM,vB,s0,hr,aI.FS,if_true,qt,if_false];have hf:aI.fS (cH S 21) (b9 val 21 v) vh vn=mT (aI.fS S val vh vn) 7 vh:=by
      funext key;simp only [aI.fS,cH,b9,mT,qH,if_true,if_false];by_cases hkey:key=7;subst hkey;simp [sp];simp [hkey]
     simp only [aI.G,aI.jg,aI.ga,aI.pc,hf];simp only [cH,b9,zZ,tM,vB,s0,hr,aI.FS,qH,if_true,if_false,qt]
    rw [Lq] at hs;obtain⟨A4,e1,e2,_⟩:=gG.wd (P:=qa) (t:=137) hs kaa ZN 7 vh;simp [-gv,ma,v0,vx,e1];rw [Lp];exact⟨trivial,e2⟩
   .
    have hk:∀v,aI.G ej nn no nt vh vn B (cH S 22) (b9 val 22 v)=aI.G ej nn no nt vh vn B S val:=λv=>by
     have hf:aI.fS (cH S 22) (b9 val 22 v) vh vn=aI.fS S val vh vn:=by funext key;simp [aI.fS,cH,b9]
     simp [aI.G,aI.jg,aI.ga,aI.pc,hf];simp [cH,b9]
    simp [ma,nd,hk]
    first|exact⟨by simp [aI.Gt,b9],hs⟩|(simp [aI.Gt,b9];exact hs)
   .
    have vB:=eI 24 23 (by decide +kernel) sR;have tM:=eI 25 24 (by decide +kernel) vB;have zZ:=eI 26 25 (by decide +kernel) tM;have s0:=jM 0 (by decide +kernel);have sp:=jM 22 (by decide +kernel);obtain⟨r,hr⟩:=dy.sl 0 s0;have v0:a 32=.map (some r):=(by rw [dy.lL 0 32 (by decide +kernel) s0];exact hr);have vx:a 47=vn:=(by rw [dy.lL 22 47 (by decide +kernel) sp];exact dy.sl 22 sp);obtain⟨X,Lq,Lp⟩:∃X,aI.G ej nn no nt vh vn B S val=gG .i64 r (aI.fS S val vh vn)*X/\∀v,aI.G ej nn no nt vh vn B (cH S 23) (b9 val 23 v)=gG .i64 r (mT (aI.fS S val vh vn) 8 vn)*X:=by
     refine⟨(aI.ga S val ej nn*(aI.pc (S 9) (av .u64 (val 9) (qc no 0))*(aI.pc (S 11) (av .u64 (val 11) (qc 1 0))*(aI.pc (S 13) (av .u64 (val 13) (qc 1 0)) *
      (aI.pc (S 15) (av .u64 (val 15) (qc 1 0))*(aI.pc (S 18) (av .u64 (val 18) (qc nt 0))*B)))))),?_,λv=>?_⟩
     simp only [aI.G,aI.jg,zZ,tM,vB,s0,hr,aI.FS,if_true,qt,if_false];have hf:aI.fS (cH S 23) (b9 val 23 v) vh vn=mT (aI.fS S val vh vn) 8 vn:=by
      funext key;simp only [aI.fS,cH,b9,mT,qH,if_true,if_false];by_cases hkey:key=8;subst hkey;simp [sp];simp [hkey]
     simp only [aI.G,aI.jg,aI.ga,aI.pc,hf];simp only [cH,b9,zZ,tM,vB,s0,hr,aI.FS,qH,if_true,if_false,qt]
    rw [Lq] at hs;obtain⟨A4,e1,e2,_⟩:=gG.wd (P:=qa) (t:=137) hs kaa ZN 8 vn;simp [-gv,ma,v0,vx,e1];rw [Lp];exact⟨trivial,e2⟩
   .
    have tM:=eI 25 24 (by decide +kernel) sR;have zZ:=eI 26 25 (by decide +kernel) tM;have s0:=jM 0 (by decide +kernel);obtain⟨r,hr⟩:=dy.sl 0 s0;have v0:a 32=.map (some r):=(by rw [dy.lL 0 32 (by decide +kernel) s0];exact hr);have hk:aI.G ej nn no nt vh vn B (cH S 24) (b9 val 24 (.map (some r)))=aI.G ej nn no nt vh vn B S val:=by
     have hf:aI.fS (cH S 24) (b9 val 24 (.map (some r))) vh vn=aI.fS S val vh vn:=by funext key;simp [aI.fS,cH,b9]
     simp only [aI.G,aI.jg,aI.ga,aI.pc,hf];simp only [cH,b9,zZ,tM,sR,s0,hr,aI.FS,qH,if_true,if_false,qt]
    simp [ma,v0,hk];exact⟨⟨r,by simp [b9]⟩,hs⟩
   .
    have zZ:=eI 26 25 (by decide +kernel) sR;have vB:=jM 24 (by decide +kernel);obtain⟨r,hr⟩:=dy.sl 24 vB;have v0:a 48=.map (some r):=(by rw [dy.lL 24 48 (by decide +kernel) vB];exact hr);have hk:aI.G ej nn no nt vh vn B (cH S 25) (b9 val 25 (.agg #[.map (some r)]))=aI.G ej nn no nt vh vn B S val:=by
     have hf:aI.fS (cH S 25) (b9 val 25 (.agg #[.map (some r)])) vh vn=aI.fS S val vh vn:=by funext key;simp [aI.fS,cH,b9]
     simp only [aI.G,aI.jg,aI.ga,aI.pc,hf];simp only [cH,b9,zZ,sR,vB,hr,aI.FS,aI.r25,qH,if_true,if_false,qt];rfl
    simp [ma,v0,hk];exact⟨⟨r,by simp [b9]⟩,hs⟩
   .
    have tM:=jM 25 (by decide +kernel);obtain⟨r,hr⟩:=dy.sl 25 tM;have v0:a 49=.agg #[.map (some r)]:=(by rw [dy.lL 25 49 (by decide +kernel) tM];exact hr)
    obtain⟨X,Lq,Lp⟩:∃X,aI.G ej nn no nt vh vn B S val=gG .i64 r (aI.fS S val vh vn)*X/\aI.G ej nn no nt vh vn B (cH S 26) (b9 val 26 (.pointer (some ⟨A3.next,0,none⟩))) =
     (rO λr=>pt A3.next (.cells [.map (some r)] true 1)*gG .i64 r (aI.fS S val vh vn))*X:=by
     refine⟨(aI.ga S val ej nn*(aI.pc (S 9) (av .u64 (val 9) (qc no 0))*(aI.pc (S 11) (av .u64 (val 11) (qc 1 0))*(aI.pc (S 13) (av .u64 (val 13) (qc 1 0)) *
      (aI.pc (S 15) (av .u64 (val 15) (qc 1 0))*(aI.pc (S 18) (av .u64 (val 18) (qc nt 0))*B)))))),?_,?_⟩
     simp only [aI.G,aI.jg,sR,tM,hr,aI.r25,if_true,qt,if_false];rfl;have hf:aI.fS (cH S 26) (b9 val 26 (.pointer (some ⟨A3.next,0,none⟩))) vh vn=aI.fS S val vh vn:=by funext key;simp [aI.fS,cH,b9]
     simp only [aI.G,aI.jg,aI.ga,aI.pc,hf];simp only [cH,b9,aI.bOf,qH,if_true,if_false]
    rw [Lq] at hs;simp [ma,v0];rw [Lp];refine⟨⟨A3.next,by simp [b9]⟩,?_⟩;rw [bB.ex];refine⟨r,?_⟩;rw [HP.cQ];exact hs.alloc FU _
   .
    have hk:∀v,aI.G ej nn no nt vh vn B (cH S 27) (b9 val 27 v)=aI.G ej nn no nt vh vn B S val:=λv=>by
     have hf:aI.fS (cH S 27) (b9 val 27 v) vh vn=aI.fS S val vh vn:=by funext key;simp [aI.fS,cH,b9]
     simp [aI.G,aI.jg,aI.ga,aI.pc,hf];simp [cH,b9]
    have v26:a 50=val 26:=dy.lL 26 50 (by decide +kernel) (jM 26 (by decide +kernel));simp [ma,v26,hk]
    first|exact⟨by simp [aI.Gt,b9],hs⟩|(simp [aI.Gt,b9];exact hs)
   .
    have hk:∀v,aI.G ej nn no nt vh vn B (cH S 28) (b9 val 28 v)=aI.G ej nn no nt vh vn B S val:=λv=>by
     have hf:aI.fS (cH S 28) (b9 val 28 v) vh vn=aI.fS S val vh vn:=by funext key;simp [aI.fS,cH,b9]
     simp [aI.G,aI.jg,aI.ga,aI.pc,hf];simp [cH,b9]
    simp [ma,o1,hk]
    first|exact⟨by simp [aI.Gt,b9],hs⟩|(simp [aI.Gt,b9];exact hs)
 intro S val a A3 kv dy FU hs;have rQ:∀k,k<29->S k=true:=λk hk=>kv k hk;obtain⟨b,hb⟩:=dy.sl 26 (rQ 26 (by omega));have UF:=dy.sl 27 (rQ 27 (by omega));have a6:a 6=.pointer (some ⟨b,0,none⟩):=by rw [dy.lL 27 6 (by decide +kernel) (rQ 27 (by omega)),UF,hb]
 have a7:a 7=.int .i64 0:=by rw [dy.lL 28 7 (by decide +kernel) (rQ 28 (by omega))];exact dy.sl 28 (rQ 28 (by omega))
 simp only [JH];refine Ps ?_;refine⟨_,by first|(simp [a6,a7];done)|(simp [a6,a7];rfl),b,rfl,?_⟩;have hmap:aI.fS S val vh vn=xK (λk=>if k=0 then val 5 else if k=1 then val 9 else if k=2 then val 11 else if k=3 then val 13 else if k=4 then val 15 else if k=5 then val 18 else if k=6 then vh else vn):=by
  funext key;simp only [aI.fS,xK,rQ 6 (by omega),rQ 5 (by omega),rQ 10 (by omega),rQ 9 (by omega),rQ 12 (by omega),rQ 11 (by omega),rQ 14 (by omega),rQ 13 (by omega),rQ 16 (by omega),rQ 15 (by omega),rQ 19 (by omega),rQ 18 (by omega),rQ 21 (by omega),rQ 23 (by omega),and_self,if_true];by_cases hk:1<=key/\key<=8;have:key=1\/key=2\/key=3\/key=4\/key=5\/key=6\/key=7\/key=8:=by omega
  rcases this with rfl|rfl|rfl|rfl|rfl|rfl|rfl|rfl<;>rfl;rw [aw hk,aw (by omega),aw (by omega),aw (by omega),aw (by omega),aw (by omega),aw (by omega),aw (by omega),aw (by omega)]
 have yk:bB A3 ((rO λr=>pt b (.cells [.map (some r)] true 1)*gG .i64 r (aI.fS S val vh vn))*(av .u64 (val 5) (ej++qc nn 0)*(av .u64 (val 9) (qc no 0)*(av .u64 (val 11) (qc 1 0) *
  (av .u64 (val 13) (qc 1 0)*(av .u64 (val 15) (qc 1 0)*(av .u64 (val 18) (qc nt 0)*B))))))):=by
  refine hs.dZ ?_;simp only [aI.G,aI.jg,aI.ga,aI.pc,rQ 26 (by omega),rQ 5 (by omega),rQ 9 (by omega),rQ 11 (by omega),rQ 13 (by omega),rQ 15 (by omega),rQ 18 (by omega),if_true,hb,aI.bOf]
 rw [bB.ex] at yk;obtain⟨r,hs3⟩:=yk;rw [hB,hmap] at hs3;refine eG.dP (r:=r) (vs:=λk=>if k=0 then val 5 else if k=1 then val 9 else if k=2 then val 11 else if k=3 then val 13 else if k=4 then val 15 else if k=5 then val 18 else if k=6 then vh else vn) ?_;simp only [kV,iD,qH,if_true,if_false];have r1:qc 1 (0:Int)=[0]:=rfl;rw [r1] at hs3;exact bB.right (P:=pt A.next (.cells CV true 1)) (hs3.dZ (by ac_rfl))
end
section
open T22
variable [Gl]
def BC (c:br) (nt:Nat) (ej:List Int):Mm:=λk=>if k=0 then ej++qc c.nb.toNat 0 else if k=1 then qc c.ao.toNat 0 else if k=5 then qc nt 0 else if k=6 then tm c.c0 c.c1 else if k=7 then tW c.c0 c.c1 else [0]
def cfgO (c:br):dQ:=.cells [.int .i64 c.be,.int .i64 c.ao,.int .i64 c.base,.int .i64 c.c0,.int .i64 c.c1,.int .i64 c.c2,.int .i64 c.c3,.int .i64 c.reads,.int .i64 c.bP,.int .i64 c.an,.int .i64 c.ay,.int .i64 c.aB,.bool c.aW] true 1
def refO (c:br) (v0 v1 v5 v6 v7:Value):dQ:=.cells [.int .i64 c.be,.int .i64 c.ao,.int .i64 c.base,.int .i64 c.c0,.int .i64 c.c1,.int .i64 c.c2,.int .i64 c.c3,.int .i64 c.reads,.int .i64 c.bP,.int .i64 c.an,.int .i64 c.ay,.int .i64 c.aB,.bool c.aW,v0,v1,.int .u64 0,.int .u64 0,.int .u64 0,v5,v6,v7] true 1
theorem BR {c:br} (hc:pK c):((tW c.c0 c.c1).length:Int)=c.nb:=by
 have e:c.nb=c.c0+c.c1+c.c2+c.c3:=rfl;rw [e,hc.c2,hc.c3];rcases hc.c0 with h0|h0|h0<;>rcases hc.c1 with h1|h1|h1<;>rw [h0,h1]<;>decide
theorem Sv {c:br} (hc:pK c) (b:Nat) (hb:(b:Int)<c.nb):(tW c.c0 c.c1)[b]? = some (if (b:Int)+1<c.nb/\dU c (b+1)=dU c b then (b:Int)+2 else 0):=by
 have e:c.nb=c.c0+c.c1+c.c2+c.c3:=rfl;rw [e,hc.c2,hc.c3] at hb ⊢;unfold dU Db;rw [hc.c2,hc.c3];rcases hc.c0 with h0|h0|h0<;>rcases hc.c1 with h1|h1|h1<;>rw [h0,h1] at hb ⊢
 all_goals(have yq:b=0\/b=1\/b=2\/b=3:=by omega)
 all_goals(rcases yq with rfl|rfl|rfl|rfl)
 all_goals(first|omega|(simp [tW];done))
def Ke (c:br):Nat->Int|0=>0|1=>c.c0|2=>c.c0+c.c1|3=>c.c0+c.c1+c.c2|_=>c.c0+c.c1+c.c2+c.c3
def LO (c:br):Nat->Int|0=>c.c0|1=>c.c1|2=>c.c2|_=>c.c3
theorem QB {c:br} (hc:pK c) (k:Nat) (hk:k<4):(tm c.c0 c.c1)[k]? = some (if 0<LO c k then Ke c k+1 else 0):=by
 have hk4:k=0\/k=1\/k=2\/k=3:=by omega
 have h2:=hc.c2;have h3:=hc.c3;rcases hk4 with rfl|rfl|rfl|rfl
 all_goals(simp only [LO,Ke,tm])
 all_goals(rcases hc.c0 with h0|h0|h0<;>rcases hc.c1 with h1|h1|h1<;>simp [h0,h1,h2,h3,rP])
theorem TV {c:br} (hc:pK c) (k:Nat):(0<=LO c k/\LO c k<=2)/\0<=Ke c k/\Ke c k<=4:=by
 have h0:=hc.c0;have h1:=hc.c1;have h2:=hc.c2;have h3:=hc.c3;unfold LO Ke
 repeat' split
 all_goals omega
end
section
variable [Gl]
theorem Ha {n:Int} (h:0<=n/\n<65535):jn (n+1)=n:=by
 rw [HX (by omega)];omega
theorem P0 {c:br} (hF:pK c) (nt:Nat) {zs:List Int} (hz:(zs.length:Int)=c.be):k9 c nt 0 (BC c nt zs):=by
 have GK:=rL hF.ok;have ho:=hF.ok.ao;have h0:=hF.c0;have h1:=hF.c1;have h2:=hF.c2;have h3:=hF.c3;have hnbe:c.nb=c.c0+c.c1+c.c2+c.c3:=rfl;refine⟨?_,?_,rfl,rfl,rfl,?_,rfl,BR hF,?_,?_,?_,?_,?_⟩;show ((zs++qc c.nb.toNat 0).length:Int)=_;simp only [List.length_append,Z9];omega;show ((qc c.ao.toNat (0:Int)).length:Int)=_;simp only [Z9];omega;show (qc nt (0:Int)).length=nt;simp;intro i;show j0 c i ((tm c.c0 c.c1).getD i 0);by_cases hi:i<4;rw [ql,QB hF i hi];show j0 c i (if 0<LO c i then Ke c i+1 else 0);split;rename_i hp;have hr:=TV hF i;refine⟨by omega,?_,λ_=>?_⟩;rw [Ha (by omega)];have:i=0\/i=1\/i=2\/i=3:=by omega
 rcases this with rfl|rfl|rfl|rfl<;>simp only [LO,Ke] at hp ⊢<;>omega;rw [Ha (by omega)];have:i=0\/i=1\/i=2\/i=3:=by omega
 rcases this with rfl|rfl|rfl|rfl<;>simp only [LO,Ke] at hp ⊢<;>unfold dU Db;rw [aw (by omega),aA (by omega)];rfl;rw [aw (by omega),aw (by omega),aA (by omega)];rfl;omega;omega;exact j0.zero hF.ok _;rw [ql,qN (by simp [tm];omega)];exact j0.zero hF.ok _;intro b;show og c (dU c b) ((tW c.c0 c.c1).getD b 0);by_cases hb:(b:Int)<c.nb;rw [ql,Sv hF b hb];show og c (dU c b) (if (b:Int)+1<c.nb/\dU c (b+1)=dU c b then (b:Int)+2 else 0);split;rename_i h;refine⟨by omega,by omega,λ_=>?_⟩;rw [show (b:Int)+2-1=b+1 by omega];exact h.2;exact og.zero hF.ok _;have:=BR hF;rw [ql,qN (by omega)];exact og.zero hF.ok _;show (0:Int)<=0/\(0:Int)<=((0:Nat):Int);omega;show (0:Int)<=0/\(0:Int)<=((0:Nat):Int);omega;intro i;show kB 0 ((qc c.ao.toNat (0:Int)).getD i 0);rw [ql];by_cases hi:i<c.ao.toNat
 rw [List.getElem?_replicate_of_lt hi];exact kB.zero 0;rw [qN (by simp;omega)];exact kB.zero 0
theorem tq (s:aJ):(gi s).aF=s.aF:=by unfold gi;split<;>rfl
theorem mD (s:aJ) (aC:Int):(jQ s aC).aF=s.aF:=tq _
theorem rT (s:aJ) (aC:Int):(nz s aC).aF=s.aF:=by unfold nz;split<;>rfl
theorem rC (s:aJ):(fJ s).aF=s.aF:=by unfold fJ;split<;>rfl
theorem lf (s:aJ) (a v:Int):(jp s a v).2.aF=s.aF:=by
 unfold jp;split;rfl;exact mD s 3
theorem AT (s:aJ) (b st:Int):(jr s b st).aF=s.aF:=by
 unfold jr;split;exact rT s 8;split;exact mD s 3;split;exact lf s _ 0;exact lf s _ 0
theorem ur:∀(n:Nat) (a:Int) (s:aJ),(gs n a s).2.aF=s.aF
 | 0,_,_=>rfl
 | n+1,a,s=>by
   unfold gs;split;rw [ur n];exact lf s a 0;exact lf s a 0
theorem Cd (s:aJ) (eE i9:Int):(fx s eE i9).aF=s.aF:=by
 unfold fx;split;exact mD s 4;dsimp only;split;split;show (gs _ _ _).2.aF=_;rw [ur];exact lf { s with an:=s.an++[i9] } _ _;rw [ur];exact lf { s with an:=s.an++[i9] } _ _;exact lf { s with an:=s.an++[i9] } _ _
theorem M9 (s:aJ) (l:FN):(sj s l).aF=s.aF:=by
 cases l with
 | lU a v=>
   unfold sj;dsimp only;split;exact rT s 7;exact lf s a v
 | tR=>exact rT s 7
 | Pr=>exact rT s 8
 | bS aC=>exact rT s aC
 | take v=>rfl
 | AS=>exact mD s 3
 | dg b v=>exact AT s b v
theorem Mo (s:aJ) (v:Int) (u:zH):(zW s v u).aF=s.aF:=by
 cases u with
 | take=>rfl
 | dg b=>exact AT s b v
theorem yB (s:aJ) (M:Mm):(bC s M).2.2.1.aF=(match s.aH with | .ic=>2|_=>s.aF):=by
 unfold bC;cases hd:s.aH with
 | ic=>rfl
 | bF=>rfl
 | iP k=>exact M9 _ k
 | ei=>
   dsimp only;cases s.b7 with
   | none=>rfl
   | some e=>
     dsimp only [gN];split<;>rfl
 | bh r u=>
   show (du s M r u).2.2.1.aF=s.aF;unfold du;dsimp only;split;rfl;split;exact mD _ 9;split;dsimp only;rw [Mo];split<;>rfl;dsimp only;rw [mD];split<;>rfl
 | eO p=>
   show (lh s M p).2.2.1.aF=s.aF;unfold lh;dsimp only;split;rw [Cd];rfl
 | eh=>
   dsimp only;cases s.aP with
   | none=>rfl
   | some l=>
     dsimp only [ip];split<;>rfl
 | cU=>
   dsimp only;cases s.aL with
   | none=>rfl
   | some t=>
     dsimp only [gU];split<;>rfl
 | cM ck=>
   show (gn s M ck).2.2.1.aF=s.aF;unfold gn;dsimp only;split;rw [rC];split<;>rfl
 | bK=>
   show (ff s M).2.2.1.aF=s.aF;unfold ff;dsimp only;split;rw [rC];split;rfl;rw [rC]
 | di w=>
   show (gA s M w).2.2.1.aF=s.aF;unfold gA;dsimp only;split<;>rfl
 | bH w=>rfl
 | fb=>rfl
 | ey=>exact tq s
 | eL p=>
   show (iL s M p).2.2.1.aF=s.aF;unfold iL;dsimp only;split;rw [tq];rfl
theorem Lz {s:aJ} (h:s.mi 1=true):s.aF=1:=by
 unfold aJ.mi at h;simp at h;exact h.2
theorem I6 (s:aJ) (aC:Int):(Dk s aC).2=s\/(Dk s aC).2.aF=1:=by
 unfold Dk;split;rename_i hf;have:=Lz hf;split<;>simp [this];exact .inl rfl
theorem Ou (s:aJ) (a v:Int):(F1 s a v).2=s\/(F1 s a v).2.aF=1:=by
 unfold F1;split;rename_i hf;have:=Lz hf;simp [this];exact .inl rfl
theorem OD (s:aJ) (a:Int):(Hm s a).2=s\/(Hm s a).2.aF=1:=by
 unfold Hm;split;rename_i hf;have:=Lz hf;split;simp [this];split<;>simp [this,ux];exact .inl rfl
theorem Wx (s:aJ) (a:Int):(L0 s a).2=s\/(L0 s a).2.aF=1:=by
 unfold L0;split;rename_i hf;have:=Lz hf;split;simp;split<;>simp [this];exact .inl rfl
theorem V1 (s:aJ) (a:Int):(LA s a).2=s\/(LA s a).2.aF=1:=by
 unfold LA;split;rename_i hf;have:=Lz hf;split;simp [this];split<;>simp [this,ux];exact .inl rfl
end
structure bm where
 op:Int
 a:Int
 b:Int
 c:Int
 bR:Int
deriving DecidableEq
def lW (op:Int):Bool:=op == 1 || op == 2 || op == 3 || op == 5 || op == 6 || op == 10 || op == 11 || op == 12 || op == 13 || op == 14 || op == 15 || op == 17
def ki (op:Int):Bool:=op == 2 || op == 3 || op == 10 || op == 11 || op == 12 || op == 13
def lV (op:Int):Bool:=op == 3
def gJ (r:Int) (is:Bool):Bool:=if is then decide (0<=r) && decide (r<8) else decide (r=0)
def fj (op bR:Int):Bool:=
 if op=1\/op=10\/op=11\/op=12\/op=13 then true
 else if op=3 then decide (0<=bR) && decide (bR<22)
 else if op=4\/op=5\/op=6 then decide (0<=bR) && decide (bR<=64)
 else if op=7 then decide (1<=bR) && decide (bR<=8)
 else if op=14 then decide (0<=bR) && decide (bR<4)
 else decide (bR=0)
def cg (i:bm):Int:=
 if i.op<0\/18<=i.op then 10
 else if (gJ i.a (lW i.op) && gJ i.b (ki i.op) && gJ i.c (lV i.op)) && fj i.op i.bR then 0 else 11
def bA (i:bm):Int:=
 if cg i=0 then
  if i.op=8\/i.op=9\/i.op=10\/i.op=11\/i.op=14\/i.op=15 then 1
  else if i.op=7\/i.op=12\/i.op=13\/i.op=16\/i.op=17 then 2 else 0
 else 0
def ee (i:bm):Option Int:=if cg i=0/\(i.op=4\/i.op=5\/i.op=6) then some i.bR else none
def d6 (p:List bm) (k:Nat):Int:=(p[k]?.map (·.op)).getD (-1)
def li (p:List bm) (k:Nat):Nat:=k+(p.drop k).findIdx λi=>i.op == 8
def dq (p:List bm) (b:Nat):Nat:=li p (b+1)
def bT (p:List bm):Nat->Option Nat
 | 0=>none
 | k+1=>match bT p k with
   | none=>if d6 p k=7 then some k else none
   | some b=>if d6 p k=8 then none else some b
theorem kj {p:List bm}:∀{t b:Nat},bT p t=some b->b<t/\d6 p b=7/\∀j,b<j->j<t->d6 p j≠8
 | 0,b,h=>by cases h
 | t+1,b,h=>by
   unfold bT at h;split at h;split at h;rename_i h7;injection h with h;subst h;exact⟨Nat.lt_succ_self _,h7,λj h1 h2=>by omega⟩;cases h;rename_i b' hb;split at h;cases h;rename_i h8;injection h with h;subst h;obtain⟨h1,h2,h3⟩:=kj hb;refine⟨by omega,h2,λj h4 h5=>?_⟩;by_cases e:j=t;subst e;exact h8;exact h3 j h4 (by omega)
theorem yM {p:List bm} {b:Nat} (hb:d6 p b=7):∀{t:Nat},b<t->(∀j,b<j->j<t->d6 p j≠8)->∃b',bT p t=some b'
 | 0,h,_=>by omega
 | t+1,h,hn=>by
   unfold bT;by_cases e:b=t
   . subst e;cases hs:bT p b with
     | none=>exact⟨b,by simp [hb]⟩
     | some b'=>exact⟨b',by simp [hb]⟩
   obtain⟨b',h'⟩:=yM hb (t:=t) (by omega) (λj h1 h2=>hn j h1 (by omega));rw [h'];have:=hn t (by omega) (by omega);exact⟨b',by simp [this]⟩
theorem D9 {p:List bm} {k:Nat} (hk:bT p k=none):∀{t b:Nat},k<=t->bT p t=some b->k<=b
 | t,b,hkt,h=>by
   obtain⟨h1,h2,h3⟩:=kj h;rcases Zt b k with h4|h4;obtain⟨b',h'⟩:=yM h2 h4 (λj h5 h6=>h3 j h5 (by omega));rw [hk] at h';cases h';exact h4
theorem rM {p:List bm} {k:Nat} (h:0<=d6 p k):k<p.length:=by
 rcases Zt k p.length with h1|h1;exact h1;unfold d6 at h;rw [qN h1] at h;simp at h
theorem uQ {p:List bm} {k:Nat} (h:k<p.length):li p k=if d6 p k=8 then k else li p (k+1):=by
 unfold li;have e:p.drop k=p[k]::p.drop (k+1):=q9 h;have e2:d6 p k=p[k].op:=by simp [d6,List.getElem?_eq_getElem h]
 rw [e,List.findIdx_cons,e2];by_cases h8:p[k].op=8;simp [h8];have e3:(p[k].op == 8)=false:=by simpa using h8
 rw [aw h8,e3];simp only [cond_false];omega
theorem BS {p:List bm} {k:Nat} (h:p.length<=k):li p k=k:=by
 unfold li;rw [List.drop_eq_nil_of_le h];rfl
theorem mr {p:List bm} {k:Nat} (h:k<=p.length):k<=li p k/\li p k<=p.length/\(∀j,k<=j->j<li p k->d6 p j≠8)/\(li p k<p.length->d6 p (li p k)=8):=by
 induction hn:p.length-k generalizing k with
 | zero=>
   have:k=p.length:=by omega
   rw [BS (by omega)];exact⟨qf _,h,λj h1 h2=>by omega,λh1=>by omega⟩
 | succ n ih=>
   rw [uQ (by omega)];split;rename_i h8;exact⟨qf _,h,λj h1 h2=>by omega,λ_=>h8⟩;rename_i h8;obtain⟨h1,h2,h3,h4⟩:=ih (k:=k+1) (by omega) (by omega);refine⟨by omega,h2,λj h5 h6=>?_,h4⟩;by_cases e:j=k;subst e;exact h8;exact h3 j (by omega) h6
def gX (p:List bm) (k t:Nat):Bool:=(List.range t).any λb=>decide (k<b) && decide (d6 p b=7) && decide (t<=min (dq p b) (p.length-1))
def fG (p:List bm) (k:Nat) (b:Option Nat) (n:Int):Bool:=
 let t:Nat:=k+1+n.toNat
 if p.length<t then false else match b with
 | some b=>decide (t<=dq p b)
 | none=>!gX p k t
def jS (p:List bm) (t:Nat):Nat->Nat->Option Nat->Option (Nat×Nat)
 | 0,_,b=>match b with
   | some b=>if b<=t/\t<p.length then some (b,p.length) else none
   | none=>none
 | n+1,k,b=>match b with
   | none=>jS p t n (k+1) (if d6 p k=7 then some k else none)
   | some b=>if d6 p k=8 then (if b<=t/\t<=k then some (b,k) else jS p t n (k+1) none) else jS p t n (k+1) (some b)
def Cq (p:List bm) (t:Nat):Option (Nat×Nat):=jS p t p.length 0 none
theorem Oz {p:List bm} {t:Nat}:∀{k n:Nat},k+n=p.length->k<=t->Cq p t=jS p t n k (bT p k)
 | 0,n,h,_=>by
   have:n=p.length:=by omega
   subst this;rfl
 | k+1,n,h,hk=>by
   rw [Oz (k:=k) (n:=n+1) (by omega) (by omega)]
   conv=>lhs;unfold jS
   conv=>rhs;rw [bT]
   cases hb:bT p k with
   | none=>rfl
   | some b=>
     simp only;by_cases h8:d6 p k=8;rw [aA h8,aA h8,aw (by omega)];rw [aw h8,aw h8]
theorem BE {p:List bm} {t:Nat}:∀{n k:Nat},t<k->jS p t n k none=none
 | 0,k,_=>rfl
 | n+1,k,h=>by
   unfold jS;by_cases h7:d6 p k=7;rw [aA h7];exact He h (by omega);rw [aw h7];exact BE (by omega)
where
 He {p:List bm} {t:Nat}:∀{n k b:Nat},t<b->b<k->jS p t n k (some b)=none
 | 0,k,b,h,_=>by unfold jS;simp;omega
 | n+1,k,b,h,hk=>by
   unfold jS;simp only;split;rw [aw (by omega)];exact BE (by omega);exact He h (by omega)
theorem BD {p:List bm} {t b:Nat} (hb:b<=t):∀{n k:Nat},k+n=p.length->t<=k->t<p.length->jS p t n k (some b)=some (b,li p k)
 | 0,k,h,_,ht=>by
   unfold jS;rw [BS (by omega)];simp only;rw [aA ⟨hb,ht⟩];rw [show k=p.length by omega]
 | n+1,k,h,hk,ht=>by
   unfold jS;rw [uQ (by omega)];simp only;by_cases h8:d6 p k=8;rw [aA h8,aA h8,aA ⟨hb,hk⟩];rw [aw h8,aw h8];exact BD hb (by omega) (by omega) ht
theorem Kh {p:List bm} {t:Nat} (ht:t<=p.length):Cq p t=match bT p t with
 | some b=>if t<p.length then some (b,li p t) else none
 | none=>if d6 p t=7 then some (t,dq p t) else none:=by
 rw [Oz (k:=t) (n:=p.length-t) (by omega) (qf t)];cases hb:bT p t with
 | some b=>
   obtain⟨h1,h2,h3⟩:=kj hb;simp only;split;exact BD (by omega) (by omega) (qf t) (by assumption);have:p.length-t=0:=by omega
   rw [this];unfold jS;simp only;rw [aw (by omega)]
 | none=>
   simp only;cases hn:p.length-t with
   | zero=>
     have h7:d6 p t≠7:=λh=>by
      have:=rM (p:=p) (k:=t) (by omega);omega
     rw [aw h7];rfl
   | succ n=>
     unfold jS;simp only;by_cases h7:d6 p t=7;rw [aA h7,aA h7];have:=rM (p:=p) (k:=t) (by omega);by_cases hl:t+1<=p.length;exact MA (by omega) (by omega) this;omega;rw [aw h7,aw h7];exact BE (by omega)
where
 MA {p:List bm} {t:Nat}:∀{n k:Nat},k+n=p.length->t<k->t<p.length->jS p t n k (some t)=some (t,li p k)
 | n,k,h,hk,ht=>BD (qf t) h (by omega) ht
def gV (p:List bm) (k t:Nat):Bool:=
 if p.length<t then false else match Cq p k with
 | some (_,c)=>decide (t<=c)
 | none=>match Cq p t with
   | some (b,_)=>decide (b=t)
   | none=>true
theorem SP {p:List bm} {k t:Nat} (hk:bT p k=none) (h7:d6 p k≠7) (hkt:k<t) (ht:t<=p.length):gX p k t=true↔t<p.length/\∃b,bT p t=some b:=by
 unfold gX;rw [List.any_eq_true];constructor;rintro ⟨b,hb,h⟩;simp only [qq,decide_eq_true_eq] at h;have hbt:=qy.1 hb;obtain⟨⟨h1,h2⟩,h3⟩:=h;have h4:t<=dq p b:=by omega
 have Tr:=rM (p:=p) (k:=b) (by omega);refine⟨by omega,yM h2 hbt λj h5 h6=>?_⟩;exact(mr (p:=p) (k:=b+1) (by omega)).2.2.1 j (by omega) (by unfold dq at h4;omega);rintro ⟨h1,b,hb⟩;obtain⟨h2,h3,h4⟩:=kj hb;have h5:=D9 hk (by omega) hb;have h6:b≠k:=λe=>h7 (by rw [<-e];exact h3);refine⟨b,qy.2 h2,?_⟩;simp only [qq,decide_eq_true_eq];refine⟨⟨by omega,h3⟩,?_⟩;have h7:t<=dq p b:=by
  rcases Zt (dq p b) t with h8|h8;obtain⟨g1,g2,g3,g4⟩:=mr (p:=p) (k:=b+1) (by omega);unfold dq at h8;exact absurd (g4 (by omega)) (h4 _ (by omega) h8);exact h8
 omega
theorem PQ {p:List bm} {k:Nat} (hk:k<p.length) (h7:d6 p k≠7) (h8:d6 p k≠8) {n:Int}:gV p k (k+1+n.toNat)=fG p k (bT p k) n:=by
 unfold gV fG;simp only;generalize ht:k+1+n.toNat=t;by_cases hl:p.length<t;rw [aA hl,aA hl];rw [aw hl,aw hl,Kh (by omega:k<=p.length)];cases hb:bT p k with
 | some b=>
   simp only;rw [aA hk];obtain⟨h1,h2,h3⟩:=kj hb;have e:dq p b=li p k:=by
    have:∀d,b+1+d=k->li p (b+1)=li p (b+1+d):=by
     intro d
     induction d with
     | zero=>intro _;rfl
     | succ d ih=>
       intro hd;have key:∀q,b<q->q<=k->li p (b+1)=li p q:=by
        intro q
        induction q with
        | zero=>intro h;omega
        | succ q ihq=>
          intro h5 h6;by_cases e:b=q;subst e;rfl;rw [ihq (by omega) (by omega),uQ (by omega),aw (h3 q (by omega) (by omega))]
       exact key _ (by omega) (by omega)
    have h9:=this (k-(b+1)) (by omega);rw [show b+1+(k-(b+1))=k by omega] at h9;exact h9
   rw [e]
 | none=>
   simp only;rw [aw h7,Kh (by omega)];have hi:=SP hb h7 (t:=t) (by omega) (by omega);cases hs:bT p t with
   | some b=>
     obtain⟨h1,_,_⟩:=kj hs;simp only;by_cases cD:t<p.length;have:gX p k t=true:=hi.2 ⟨cD,b,hs⟩;rw [aA cD,this];have:¬b=t:=by omega
     simp [this];have:gX p k t=false:=by
      cases hp:gX p k t with
      | false=>rfl
      | true=>exact absurd (hi.1 hp).1 cD
     rw [aw cD,this];rfl
   | none=>
     have:gX p k t=false:=by
      cases hp:gX p k t with
      | false=>rfl
      | true=>obtain⟨b,wG⟩:=(hi.1 hp).2;rw [hs] at wG;cases wG
     rw [this];simp only;by_cases h9:d6 p t=7;simp [h9];simp [h9]
def uI (Hb:Nat->Option Nat->Int->Bool) (k:Nat) (b:Option Nat) (x:bm):Int:=
 if cg x=0 then
  if (x.op=7/\b.isSome=true)\/(x.op=8/\b.isSome=false) then 40
  else if (bA x=1/\b.isSome=false)\/(bA x=2/\b.isSome=true) then 41
  else match ee x with
   | some n=>if Hb k b n=true then 0 else 42
   | none=>0
 else cg x
def Eu (k:Nat) (b:Option Nat) (x:bm):Option Nat:=if x.op=7 then some k else if x.op=8 then none else b
def i5 (Hb:Nat->Option Nat->Int->Bool):List bm->Nat->Option Nat->Nat×Int
 | [],_,b=>match b with
   | some q=>(q,43)
   | none=>(0,0)
 | x::l,k,b=>if uI Hb k b x=0 then i5 Hb l (k+1) (Eu k b x) else (k,uI Hb k b x)
def cG (p:List bm):Nat×Int:=if 64<p.length then (0,3) else i5 (fG p) p 0 none
def lZ (p:List bm):Nat×Int:=if 64<p.length then (0,3) else i5 (λk _ n=>gV p k (k+1+n.toNat)) p 0 none
theorem uw {x:bm} {n:Int} (h:ee x=some n):n=x.bR/\cg x=0/\(x.op=4\/x.op=5\/x.op=6):=by
 unfold ee at h;split at h;rename_i h1;injection h with h;exact⟨h.symm,h1.1,h1.2⟩;cases h
theorem lE {p:List bm} {k:Nat} {x:bm} (h:p[k]? = some x):d6 p k=x.op:=by simp [d6,h]
theorem yX {Hb:Nat->Option Nat->Int->Bool} {p:List bm} {k:Nat} {x:bm} (hx:p[k]? = some x) (h:uI Hb k (bT p k) x=0):Eu k (bT p k) x=bT p (k+1):=by
 have e:=lE hx;unfold Eu;rw [bT];cases hb:bT p k with
 | none=>
   simp only;rw [e];by_cases h7:x.op=7;rw [aA h7,aA h7];rw [aw h7,aw h7];split<;>rfl
 | some b=>
   simp only;rw [e];have h7:x.op≠7:=λh7=>by
    rw [hb] at h;unfold uI at h;split at h;rw [aA (.inl ⟨h7,rfl⟩)] at h;cases h;rename_i h0;exact h0 h
   rw [aw h7]
theorem Vd {p:List bm} {k:Nat} {x:bm} (hx:p[k]? = some x):uI (λk _ n=>gV p k (k+1+n.toNat)) k (bT p k) x=uI (fG p) k (bT p k) x:=by
 unfold uI;split
 . split;rfl;split;rfl;cases hs:ee x with
   | none=>rfl
   | some n=>
     obtain⟨rfl,_,h3⟩:=uw hs;have e:=lE hx;have ht:=PQ (n:=x.bR) (qK.1 hx).1 (show d6 p k≠7 by rw [e];omega) (show d6 p k≠8 by rw [e];omega);simp only [ht]
 rfl
theorem Fq {p:List bm}:∀(l:List bm) (k:Nat),p.drop k=l->i5 (λk _ n=>gV p k (k+1+n.toNat)) l k (bT p k)=i5 (fG p) l k (bT p k)
 | [],k,_=>rfl
 | x::l,k,h=>by
   have hx:p[k]? = some x:=by
    have:=congrArg (λq=>q[0]?) h
    simpa using this
   unfold i5;rw [Vd hx];split;rename_i h0;rw [yX hx h0];exact Fq l (k+1) (by rw [<-List.drop_drop,h];rfl);rfl
theorem TX (p:List bm):lZ p=cG p:=by
 unfold lZ cG;split;rfl;exact Fq p 0 rfl
theorem Fo {Hb:Nat->Option Nat->Int->Bool} {p:List bm}:∀(l:List bm) (k:Nat),p.drop k=l->(i5 Hb l k (bT p k)).2=0->
 (∀j x,k<=j->p[j]? = some x->uI Hb j (bT p j) x=0)/\bT p (k+l.length)=none
 | [],k,h,h0=>by
   refine⟨λj x hj hx=>?_,?_⟩;have h1:=(qK.1 hx).1;have h2:p.length<=k:=by
    rcases Zt k p.length with h3|h3;rw [q9 h3] at h;cases h;exact h3
   omega;unfold i5 at h0;show bT p k=none;cases hb:bT p k with
   | none=>rfl
   | some b=>rw [hb] at h0;cases h0
 | x::l,k,h,h0=>by
   have hx:p[k]? = some x:=by
    have:=congrArg (λq=>q[0]?) h
    simpa using this
   unfold i5 at h0;split at h0;rename_i h1;rw [yX hx h1] at h0;obtain⟨h2,h3⟩:=Fo l (k+1) (by rw [<-List.drop_drop,h];rfl) h0;refine⟨λj y hj hy=>?_,by rw [List.length_cons,show k+(l.length+1)=k+1+l.length by omega];exact h3⟩;by_cases e:j=k;subst e;rw [hx] at hy;injection hy with hy;subst hy;exact h1;exact h2 j y (by omega) hy;rename_i h1;exact absurd h0 h1
theorem gY {p:List bm} (h:(cG p).2=0):p.length<=64/\(∀j x,p[j]? = some x->uI (fG p) j (bT p j) x=0)/\bT p p.length=none:=by
 unfold cG at h;split at h;cases h;rename_i hl;obtain⟨h1,h2⟩:=Fo p 0 rfl h;rw [Nat.zero_add] at h2;exact⟨by omega,λj x hx=>h1 j x (Nat.zero_le _) hx,h2⟩
theorem EJ {x:bm} (h:cg x=0) (ho:x.op=4\/x.op=5\/x.op=6):0<=x.bR/\x.bR<=64:=by
 unfold cg at h;split at h;cases h;split at h;rename_i h1;rw [qq] at h1;have h2:=h1.2;unfold fj at h2;rw [aw (by omega),aw (by omega),aA ho] at h2
 simpa using h2
 cases h
end Go.Stx
