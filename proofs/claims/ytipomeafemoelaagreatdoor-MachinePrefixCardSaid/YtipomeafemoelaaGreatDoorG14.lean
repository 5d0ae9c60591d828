/-
 Events in memory; what a step answers.
-/
import Derived.Test.YtipomeafemoelaaGreatDoorG13
set_option linter.unusedVariables false
set_option linter.unusedSimpArgs false
set_option linter.unusedSectionVars false
set_option maxRecDepth 20000
set_option maxHeartbeats 4000000
namespace Go.Stx
open Go Go.Proofs
attribute [local irreducible] TW bA cM aS ax aH cJ de
section
open Go.Proofs Go
variable [Gl]
def uA (e:zd) (r w:Value):List Value:=[.int .i64 e.bR,.int .i64 e.am,.int .i64 e.gu,.int .i64 e.Ni,r,w]
abbrev vP:=zd×Value×Value
def eP (q:List vP):List Value:=q.flatMap λy=>uA y.1 y.2.1 y.2.2
def zX (y:vP):HP:=ap .i64 y.2.1 y.1.reads*ap .i64 y.2.2 y.1.bK
def ee (q:List vP):HP:=q.foldr (λy P=>zX y*P) eC
theorem AM (q r:List vP):ee (q++r)=ee q*ee r:=by
 induction q with
 | nil=>show ee r=eC*ee r;rw [gL]
 | cons y q ih=>
   show zX y*ee (q++r)=(zX y*ee q)*ee r;rw [ih]
   ac_rfl
def Dk (v:Value) (q:List vP):List It:=[.h (cY 6 v q.length (eP q)),.h (ee q)]
def fB (v:Value) (l:List zd):HP:=pG λx:{ q:List vP // q.map Prod.fst=l }=>aE (Dk v x.1)
section
variable {A:AW} {L K K1 K2:List It} {v:Value}
theorem fB.open {l:List zd} (h:ah A L) (hp:ay L (.h (fB v l)) K):∃q,q.map Prod.fst=l/\ah A (Dk v q++K):=by
 obtain⟨⟨q,hq⟩,h⟩:=i9 h hp;exact⟨q,hq,h⟩
theorem fB.dA {l:List zd} {q:List vP} (hq:q.map Prod.fst=l) (h:ah A L) (e:aP L (Dk v q) K):ah A (.h (fB v l)::K):=gN (g:=λx:{ q:List vP // q.map Prod.fst=l }=>Dk v x.1) ⟨q,hq⟩ h e
theorem fB.nil (h:ah A L):ah A (.h (fB (.slice none 0 0) [])::L):=by
 have h1:ah A (.h eC::L):=ah.lP h;have h2:ah A (.h (cY 6 (.slice none 0 0) 0 [])::.h eC::L):=cY.nil h1;exact fB.dA (q:=[]) rfl h2 (.s .z (.s .z .z))
theorem fB.aD {n:Nat} {e:zd} {r w:Value} (h:ah A L) (h1:ay L (.at n (.cells (uA e r w) true 6)) K) (h2:ay K (.h (ap .i64 r e.reads)) K1) (h3:ay K1 (.h (ap .i64 w e.bK)) K2):ah A (.h (fB (.slice (some ⟨n,0,none⟩) 1 1) [e])::K2):=by
 unfold ah at h;rw [h1.aE,h2.aE,h3.aE] at h;have h4:bk A (pt n (.cells (uA e r w) true 6)*(ap .i64 r e.reads*(ap .i64 w e.bK*aE K2))):=h;have e0:eP [(e,r,w)]=uA e r w:=by simp [eP]
 have h5:ah A (.h (cY 6 (.slice (some ⟨n,0,none⟩) 1 1) [(e,r,w)].length (eP [(e,r,w)]))::.h (ee [(e,r,w)])::K2):=by
  rw [e0];refine cY.mk (size:=6) (n:=1) (off:=0) (c:=1) (bP:=uA e r w) (Nat.le_refl _) (Nat.le_refl _) rfl ?_;refine h4.dK ?_;show _=pt n (.cells (uA e r w) true 6)*(((ap .i64 r e.reads*ap .i64 w e.bK)*eC)*aE K2);rw [du]
  ac_rfl
 exact fB.dA (q:=[(e,r,w)]) rfl h5 (.s .z (.s .z .z))
end
def dV (s:fR):Value:=.agg #[.int .i64 s.am,.int .i64 s.Ir,.int .i64 s.yJ,.int .i64 s.uM.gu,.int .i64 s.uM.cell,.int .i64 s.uM.dJ,.int .u64 s.uM.fA,.int .u64 s.uM.put,.bool s.uM.done]
end
section
abbrev nP:List (Nat×Nat):=[(0,0),(1,0),(2,0),(3,0),(4,0),(5,0),(6,0),(7,0),(8,0),(9,0),(10,0),(11,0),(12,3)]
open T2
variable [Gl]
theorem Hq (hF:FOK) (q:nK) (b pb:Nat) (t:aU) (s:aM) (M:Mm) (dt:t.jL=some s) (dC:t.dX=none) (eR:t.dO=none) (hB:O3 t) (yl:HD s M) (hC:gq (cK s M).2.2.1) (hi:b8 t.fV=0) (bL:t.pc<t.az.length)
 (dv:t.aT=true->t.fV.op=12\/t.fV.op=13) (Xe:t.aT=false->dS t.az t.bJ.toNat=7/\0<=t.bJ) (sd:∀x∈(cK s M).2.2.1.av,x<2^62) (R2:(cK s M).2.2.1.av.length<=8) (Bp:CR q t.az) :
 dT Tryz.prog 65 [pv b,pv pb] [.h (gk q b t),dG pb M] (λev v=>v=.tuple #[dV (t.wE M s).1,ev]) (λev=>[.h (gk q b (t.wE M s).2.2.1),dG pb (t.wE M s).2.2.2,.h (fB ev (t.wE M s).2.1)]):=by
 have iS:=λn=>Nv n pb s M yl;unfold fE at iS;unfold aU.wE;generalize cK s M=r at iS hC sd R2 ⊢;obtain⟨ac,ph,s',M'⟩:=r;dsimp only at iS hC sd R2 ⊢;have ln:0<=t.pc/\t.pc<2^40:=hB.pc;have qd:t.pc.toNat<t.az.length:=by omega
 obtain⟨I7,MO⟩:=Bp.at qd;have Wb:t.az[t.pc.toNat]=t.fV:=by
  unfold aU.fV aU.uo;rw [List.getD_eq_getElem?_getD,List.getElem?_eq_getElem qd];rfl
 rw [Wb] at MO;have Bn:q.off+t.d.pc.toNat*5+5<=q.bP.length:=I7;have C8:(q.bP.drop (q.off+t.d.pc.toNat*5)).take 5=au t.fV:=MO;have ML:0<=t.d.pc:=ln.1;have EL:t.d.pc<(t.az.length:Int):=bL;have hB':O3 ({ t with jL:=some s' }:aU):=⟨hB.cf,hB.pc,hB.ga,hB.nz,hB.tN,hB.xy,hB.mV,hB.qu⟩;have Th:=EY hF q b { t with jL:=some s' } s' t.fV rfl dC eR hB' hi dv Xe sd R2 Bp;by_cases h3:ph=3
 . rw [if_pos h3];subst h3;by_cases hb:s'.kN=true
   . rw [if_pos hb];have tK:=λn=>tw n s';simp only [hb] at tK;intro A F hw dm;refine aF Tryz.func65 λ_=>?_;dsimp only [aa,ag] at dm;obtain⟨⟨cy,ep,ka,eX,vs,vo⟩,hS⟩:=gk.open dm .z;clear dm;dsimp only [iK,aa,ag] at hS;rw [dt,dC,eR] at hS;dsimp only [dQ,fJ,dP,fI,fL,lp] at hS;have hq:=fk hS hw;revert hq hS hw;refine W (J3 (Tg.mk (n:=10) (λ{A L K k}=>eY (A:=A) (L:=L) (K:=K) (k:=k) (tK cy))) (od nP) (iS cy)) (J3 bz @be.eq_1 @aW.v.eq_1) ?_<;>(unhygienic intros);refine⟨_,by first|rfl|(simp;rfl)|(simp [hq,AW.af,aB];rfl),?_⟩;apply wv
     (·first|rfl|(simp [dV,aW.v,aW.zero];done)|(simp [dV,aW.v,aW.zero];rfl))
     apply gk.bO
     . skip
       apply fB.aD (e:=⟨0,t.id,3,0,[],[]⟩) (r:=.slice none 0 0) (w:=.slice none 0 0);apply ah.uj .i64;apply ah.uj .i64
       (·exact sA)
       (·repeat' (first|apply ay.z|apply ay.s))
       (·repeat' (first|apply ay.z|apply ay.s))
       (·repeat' (first|apply ay.z|apply ay.s))
     . dsimp only [iK,aU.oT,aU.to,aU.oP,aU.fX,aU.fA,aU.jZ,aU.d]
       (try simp only [dt,dC,eR])
       (·first|exact pA|exact kA)
     (·first|exact pA|exact kA)
     all_goals(first|exact 0|exact undef)
   rw [if_neg hb];have k7:s'.kN=false:=by simpa using hb
   have tK:=λn=>tw n s';simp only [k7] at tK;intro A F hw dm;refine aF Tryz.func65 λ_=>?_;dsimp only [aa,ag] at dm;obtain⟨⟨cy,ep,ka,eX,vs,vo⟩,hS⟩:=gk.open dm .z;clear dm;dsimp only [iK,aa,ag] at hS;rw [dt,dC,eR] at hS;dsimp only [dQ,fJ,dP,fI,fL,lp] at hS;have hq:=fk hS hw;revert hq hS hw;(repeat first|clear hq|clear hS|clear hw|revert hc|revert R|revert K);refine Wu (J4 (Tg.mk (n:=10) (λ{A L K k}=>eY (A:=A) (L:=L) (K:=K) (k:=k) (tK cy))) (Tg.mk (n:=34) @Th) (od nP) (iS cy)) (J7 Bn C8 ML EL bz @be.eq_1 @aW.v.eq_1) ?_<;>(unhygienic intros);refine⟨_,by first|rfl|(simp;rfl)|(simp [hq,AW.af,aB];rfl),?_⟩;apply wv
   (·first|rfl|(simp [dV,aW.v,aW.zero];done)|(simp [dV,aW.v,aW.zero];rfl))
   apply ah.bO
   . skip
     apply fB.aD (e:=⟨0,t.id,3,0,[],[]⟩) (r:=.slice none 0 0) (w:=.slice none 0 0);apply ah.uj .i64;apply ah.uj .i64
     (·exact sA)
     (·repeat' (first|apply ay.z|apply ay.s))
     (·repeat' (first|apply ay.z|apply ay.s))
     (·repeat' (first|apply ay.z|apply ay.s))
   (·first|exact pA|exact kA)
 rw [if_neg h3];by_cases DZ:ph=16
 . subst DZ;have UE:=λn=>Rh n s';by_cases C7:s'.aj=true
   . rw [if_pos (⟨rfl,C7⟩:(16:Int)=16/\s'.aj=true)];simp only [C7] at UE;by_cases h1:s'.az=1
     . rw [if_pos h1];have Y0:=λn=>tu n s';simp only [h1] at Y0;by_cases hb:s'.kN=true
       . rw [if_pos hb];have tK:=λn=>tw n s';simp only [hb] at tK;intro A F hw dm;refine aF Tryz.func65 λ_=>?_;dsimp only [aa,ag] at dm;obtain⟨⟨cy,ep,ka,eX,vs,vo⟩,hS⟩:=gk.open dm .z;clear dm;dsimp only [iK,aa,ag] at hS;rw [dt,dC,eR] at hS;dsimp only [dQ,fJ,dP,fI,fL,lp] at hS;have hq:=fk hS hw;revert hq hS hw;(repeat first|clear hq|clear hS|clear hw|revert hc|revert R|revert K);refine W (J6 (Tg.mk (n:=10) (λ{A L K k}=>eY (A:=A) (L:=L) (K:=K) (k:=k) (tK cy))) (Tg.mk (n:=10) (λ{A L K k}=>eY (A:=A) (L:=L) (K:=K) (k:=k) (UE cy))) (Tg.mk (n:=10) (λ{A L K k}=>eY (A:=A) (L:=L) (K:=K) (k:=k) (Y0 cy))) (Tg.mk (n:=32) (FY cy s' hC)) (od nP) (iS cy)) (J3 bz @be.eq_1 @aW.v.eq_1) ?_<;>(unhygienic intros);refine⟨_,by first|rfl|(simp;rfl)|(simp [hq,AW.af,aB];rfl),?_⟩;apply wv
         (·first|rfl|(simp [dV,aW.v,aW.zero];done)|(simp [dV,aW.v,aW.zero];rfl))
         apply gk.bO
         . skip
           apply fB.aD (e:=⟨0,t.id,4,0,s'.reads,lW s'⟩)
           (·exact sA)
           (·repeat' (first|apply ay.z|apply ay.s))
           (·repeat' (first|apply ay.z|apply ay.s))
           (·repeat' (first|apply ay.z|apply ay.s))
         . dsimp only [iK,aU.oT,aU.to,aU.oP,aU.fX,aU.fA,aU.jZ,aU.d]
           (try simp only [dt,dC,eR])
           (·first|exact pA|exact kA)
         (·first|exact pA|exact kA)
         all_goals(first|exact 0|exact undef)
       rw [if_neg hb];have k7:s'.kN=false:=by simpa using hb
       have tK:=λn=>tw n s';simp only [k7] at tK;intro A F hw dm;refine aF Tryz.func65 λ_=>?_;dsimp only [aa,ag] at dm;obtain⟨⟨cy,ep,ka,eX,vs,vo⟩,hS⟩:=gk.open dm .z;clear dm;dsimp only [iK,aa,ag] at hS;rw [dt,dC,eR] at hS;dsimp only [dQ,fJ,dP,fI,fL,lp] at hS;have hq:=fk hS hw;revert hq hS hw;(repeat first|clear hq|clear hS|clear hw|revert hc|revert R|revert K);refine Wu (J7 (Tg.mk (n:=10) (λ{A L K k}=>eY (A:=A) (L:=L) (K:=K) (k:=k) (tK cy))) (Tg.mk (n:=34) @Th) (Tg.mk (n:=10) (λ{A L K k}=>eY (A:=A) (L:=L) (K:=K) (k:=k) (UE cy))) (Tg.mk (n:=10) (λ{A L K k}=>eY (A:=A) (L:=L) (K:=K) (k:=k) (Y0 cy))) (Tg.mk (n:=32) (FY cy s' hC)) (od nP) (iS cy)) (J7 Bn C8 ML EL bz @be.eq_1 @aW.v.eq_1) ?_<;>(unhygienic intros);refine⟨_,by first|rfl|(simp;rfl)|(simp [hq,AW.af,aB];rfl),?_⟩;apply wv
       (·first|rfl|(simp [dV,aW.v,aW.zero];done)|(simp [dV,aW.v,aW.zero];rfl))
       apply ah.bO
       . skip
         apply fB.aD (e:=⟨0,t.id,4,0,s'.reads,lW s'⟩)
         (·exact sA)
         (·repeat' (first|apply ay.z|apply ay.s))
         (·repeat' (first|apply ay.z|apply ay.s))
         (·repeat' (first|apply ay.z|apply ay.s))
       (·first|exact pA|exact kA)
     rw [if_neg h1];by_cases hb:s'.kN=true
     . rw [if_pos hb];have tK:=λn=>tw n s';simp only [hb] at tK;intro A F hw dm;refine aF Tryz.func65 λ_=>?_;dsimp only [aa,ag] at dm;obtain⟨⟨cy,ep,ka,eX,vs,vo⟩,hS⟩:=gk.open dm .z;clear dm;dsimp only [iK,aa,ag] at hS;rw [dt,dC,eR] at hS;dsimp only [dQ,fJ,dP,fI,fL,lp] at hS;have hq:=fk hS hw;revert hq hS hw;(repeat first|clear hq|clear hS|clear hw|revert hc|revert R|revert K);refine W (J6 (Tg.mk (n:=10) (λ{A L K k}=>eY (A:=A) (L:=L) (K:=K) (k:=k) (tK cy))) (Tg.mk (n:=10) (λ{A L K k}=>eY (A:=A) (L:=L) (K:=K) (k:=k) (UE cy))) (Tg.mk (n:=10) (λ{A L K k}=>eY (A:=A) (L:=L) (K:=K) (k:=k) (tu cy s'))) (Tg.mk (n:=32) (FY cy s' hC)) (od nP) (iS cy)) (J4 h1 bz @be.eq_1 @aW.v.eq_1) ?_<;>(unhygienic intros);refine⟨_,by first|rfl|(simp;rfl)|(simp [hq,AW.af,aB];rfl),?_⟩;apply wv
       (·first|rfl|(simp [dV,aW.v,aW.zero];done)|(simp [dV,aW.v,aW.zero];rfl))
       apply gk.bO
       . skip
         apply fB.aD (e:=⟨0,t.id,4,0,s'.reads,[]⟩) (w:=.slice none 0 0);apply ah.uj .i64
         (·exact sA)
         (·repeat' (first|apply ay.z|apply ay.s))
         (·repeat' (first|apply ay.z|apply ay.s))
         (·repeat' (first|apply ay.z|apply ay.s))
       . dsimp only [iK,aU.oT,aU.to,aU.oP,aU.fX,aU.fA,aU.jZ,aU.d]
         (try simp only [dt,dC,eR])
         (·first|exact pA|exact kA)
       (·first|exact pA|exact kA)
       all_goals(first|exact 0|exact undef)
     rw [if_neg hb];have k7:s'.kN=false:=by simpa using hb
     have tK:=λn=>tw n s';simp only [k7] at tK;intro A F hw dm;refine aF Tryz.func65 λ_=>?_;dsimp only [aa,ag] at dm;obtain⟨⟨cy,ep,ka,eX,vs,vo⟩,hS⟩:=gk.open dm .z;clear dm;dsimp only [iK,aa,ag] at hS;rw [dt,dC,eR] at hS;dsimp only [dQ,fJ,dP,fI,fL,lp] at hS;have hq:=fk hS hw;revert hq hS hw;(repeat first|clear hq|clear hS|clear hw|revert hc|revert R|revert K);refine Wu (J7 (Tg.mk (n:=10) (λ{A L K k}=>eY (A:=A) (L:=L) (K:=K) (k:=k) (tK cy))) (Tg.mk (n:=34) @Th) (Tg.mk (n:=10) (λ{A L K k}=>eY (A:=A) (L:=L) (K:=K) (k:=k) (UE cy))) (Tg.mk (n:=10) (λ{A L K k}=>eY (A:=A) (L:=L) (K:=K) (k:=k) (tu cy s'))) (Tg.mk (n:=32) (FY cy s' hC)) (od nP) (iS cy)) (J8 h1 Bn C8 ML EL bz @be.eq_1 @aW.v.eq_1) ?_<;>(unhygienic intros);refine⟨_,by first|rfl|(simp;rfl)|(simp [hq,AW.af,aB];rfl),?_⟩;apply wv
     (·first|rfl|(simp [dV,aW.v,aW.zero];done)|(simp [dV,aW.v,aW.zero];rfl))
     apply ah.bO
     . skip
       apply fB.aD (e:=⟨0,t.id,4,0,s'.reads,[]⟩) (w:=.slice none 0 0);apply ah.uj .i64
       (·exact sA)
       (·repeat' (first|apply ay.z|apply ay.s))
       (·repeat' (first|apply ay.z|apply ay.s))
       (·repeat' (first|apply ay.z|apply ay.s))
     (·first|exact pA|exact kA)
   rw [if_neg (λhh:(16:Int)=16/\s'.aj=true=>C7 hh.2)];have hdc2:s'.aj=false:=by simpa using C7
   simp only [hdc2] at UE;by_cases hb:s'.kN=true
   . rw [if_pos hb];have tK:=λn=>tw n s';simp only [hb] at tK;intro A F hw dm;refine aF Tryz.func65 λ_=>?_;dsimp only [aa,ag] at dm;obtain⟨⟨cy,ep,ka,eX,vs,vo⟩,hS⟩:=gk.open dm .z;clear dm;dsimp only [iK,aa,ag] at hS;rw [dt,dC,eR] at hS;dsimp only [dQ,fJ,dP,fI,fL,lp] at hS;have hq:=fk hS hw;revert hq hS hw;(repeat first|clear hq|clear hS|clear hw|revert hc|revert R|revert K);refine W (J4 (Tg.mk (n:=10) (λ{A L K k}=>eY (A:=A) (L:=L) (K:=K) (k:=k) (tK cy))) (Tg.mk (n:=10) (λ{A L K k}=>eY (A:=A) (L:=L) (K:=K) (k:=k) (UE cy))) (od nP) (iS cy)) (J3 bz @be.eq_1 @aW.v.eq_1) ?_<;>(unhygienic intros);refine⟨_,by first|rfl|(simp;rfl)|(simp [hq,AW.af,aB];rfl),?_⟩;apply wv
     (·first|rfl|(simp [dV,aW.v,aW.zero];done)|(simp [dV,aW.v,aW.zero];rfl))
     apply gk.bO
     . skip
       apply fB.nil
       (·exact sA)
     . dsimp only [iK,aU.oT,aU.to,aU.oP,aU.fX,aU.fA,aU.jZ,aU.d]
       (try simp only [dt,dC,eR])
       (·first|exact pA|exact kA)
     (·first|exact pA|exact kA)
     all_goals(first|exact 0|exact undef)
   rw [if_neg hb];have k7:s'.kN=false:=by simpa using hb
   have tK:=λn=>tw n s';simp only [k7] at tK;intro A F hw dm;refine aF Tryz.func65 λ_=>?_;dsimp only [aa,ag] at dm;obtain⟨⟨cy,ep,ka,eX,vs,vo⟩,hS⟩:=gk.open dm .z;clear dm;dsimp only [iK,aa,ag] at hS;rw [dt,dC,eR] at hS;dsimp only [dQ,fJ,dP,fI,fL,lp] at hS;have hq:=fk hS hw;revert hq hS hw;(repeat first|clear hq|clear hS|clear hw|revert hc|revert R|revert K);refine Wu (J5 (Tg.mk (n:=10) (λ{A L K k}=>eY (A:=A) (L:=L) (K:=K) (k:=k) (tK cy))) (Tg.mk (n:=34) @Th) (Tg.mk (n:=10) (λ{A L K k}=>eY (A:=A) (L:=L) (K:=K) (k:=k) (UE cy))) (od nP) (iS cy)) (J7 Bn C8 ML EL bz @be.eq_1 @aW.v.eq_1) ?_<;>(unhygienic intros);refine⟨_,by first|rfl|(simp;rfl)|(simp [hq,AW.af,aB];rfl),?_⟩;apply wv
   (·first|rfl|(simp [dV,aW.v,aW.zero];done)|(simp [dV,aW.v,aW.zero];rfl))
   apply ah.bO
   . skip
     apply fB.nil
     (·exact sA)
   (·first|exact pA|exact kA)
 rw [if_neg (λhh:ph=16/\s'.aj=true=>DZ hh.1)];by_cases hb:s'.kN=true
 . rw [if_pos hb];have tK:=λn=>tw n s';simp only [hb] at tK;intro A F hw dm;refine aF Tryz.func65 λ_=>?_;dsimp only [aa,ag] at dm;obtain⟨⟨cy,ep,ka,eX,vs,vo⟩,hS⟩:=gk.open dm .z;clear dm;dsimp only [iK,aa,ag] at hS;rw [dt,dC,eR] at hS;dsimp only [dQ,fJ,dP,fI,fL,lp] at hS;have hq:=fk hS hw;revert hq hS hw;(repeat first|clear hq|clear hS|clear hw|revert hc|revert R|revert K);refine W (J3 (Tg.mk (n:=10) (λ{A L K k}=>eY (A:=A) (L:=L) (K:=K) (k:=k) (tK cy))) (od nP) (iS cy)) (J5 h3 DZ bz @be.eq_1 @aW.v.eq_1) ?_<;>(unhygienic intros);refine⟨_,by first|rfl|(simp;rfl)|(simp [hq,AW.af,aB];rfl),?_⟩;apply wv
   (·first|rfl|(simp [dV,aW.v,aW.zero];done)|(simp [dV,aW.v,aW.zero];rfl))
   apply gk.bO
   . skip
     apply fB.nil
     (·exact sA)
   . dsimp only [iK,aU.oT,aU.to,aU.oP,aU.fX,aU.fA,aU.jZ,aU.d]
     (try simp only [dt,dC,eR])
     (·first|exact pA|exact kA)
   (·first|exact pA|exact kA)
   all_goals(first|exact 0|exact undef)
 rw [if_neg hb];have k7:s'.kN=false:=by simpa using hb
 have tK:=λn=>tw n s';simp only [k7] at tK;intro A F hw dm;refine aF Tryz.func65 λ_=>?_;dsimp only [aa,ag] at dm;obtain⟨⟨cy,ep,ka,eX,vs,vo⟩,hS⟩:=gk.open dm .z;clear dm;dsimp only [iK,aa,ag] at hS;rw [dt,dC,eR] at hS;dsimp only [dQ,fJ,dP,fI,fL,lp] at hS;have hq:=fk hS hw;revert hq hS hw;(repeat first|clear hq|clear hS|clear hw|revert hc|revert R|revert K);refine Wu (J4 (Tg.mk (n:=10) (λ{A L K k}=>eY (A:=A) (L:=L) (K:=K) (k:=k) (tK cy))) (Tg.mk (n:=34) @Th) (od nP) (iS cy)) (J9 h3 DZ Bn C8 ML EL bz @be.eq_1 @aW.v.eq_1) ?_<;>(unhygienic intros);refine⟨_,by first|rfl|(simp;rfl)|(simp [hq,AW.af,aB];rfl),?_⟩;apply wv
 (·first|rfl|(simp [dV,aW.v,aW.zero];done)|(simp [dV,aW.v,aW.zero];rfl))
 apply ah.bO
 . skip
   apply fB.nil
   (·exact sA)
 (·first|exact pA|exact kA)
end
section
abbrev nO:List (Nat×Nat):=[(0,0),(1,0),(2,0),(3,0),(4,0),(5,0),(6,0),(7,0),(8,0),(9,0),(10,2),(11,3),(12,0),(13,0),(14,0),(15,3)]
open T24
variable [Gl]
theorem ay.pt {n:Nat} {o:dH} {L:List It}:ay (.at n o::L) (.h (pt n o)) L:=.e rfl
theorem ah.Iu {A:AW} {L K:List It} {n:Nat} {o:dH} (h:ah A L) (hp:ay L (.h (pt n o)) K):ah A (.at n o::K):=by
 unfold ah at h ⊢;rw [hp.aE] at h;exact h
theorem Il (a:aW) (A:AW):eQ 83 [a.v] A (.int .i64 (iO a)):=by
 refine ax.qt (V:=.int .i64 (iO a)) (by simp) (λhw=>?_) (by kernel_rfl);refine aF Tryz.func83 λ_=>?_;unfold aW.v iO;by_cases h1:a.cell=8
 . refine W cd (J2 h1 bz) ?_<;>intros;exact⟨_,by first|(simp;done)|(simp;rfl),by simp [h1],AW.le.alloc _ _⟩
 by_cases h2:a.gu=3
 . refine W cd (J3 h1 h2 bz) ?_<;>intros;exact⟨_,by first|(simp;done)|(simp;rfl),by simp [h1,h2],AW.le.alloc _ _⟩
 refine W cd (J3 h1 h2 bz) ?_<;>intros;exact⟨_,by first|(simp;done)|(simp;rfl),by simp [h1,h2],AW.le.alloc _ _⟩
theorem Ml (a:aW) {A:AW} {k:Value->AW->Prop} (hk:k (.int .i64 (iO a)) A):ax Tryz.prog 83 [a.v] A k:=by
 refine bD (Il a A) ?_;rintro _ _ ⟨rfl,rfl⟩ _ _;exact hk
theorem BI (p:Nat) (l:List fM) (r:Bool) (h:decide (l.length=0)=r):bf Tryz.prog 84 [pv p] [.h (yY p l)] (λv=>v=.bool r) (λ_=>[.h (yY p l)]):=by
 subst h;exact Jt p l
theorem E9 (q:nK) (b pb:Nat) (t:aU) (M:Mm) (f:jr) (dt:t.jL=none) (dC:t.dX=some f) (hB:O3 t) (hn:0<=f.next/\f.next<2^39) (Qw:∀x∈t.gh,x.1<2^62) (hdl:∀l,t.dO=some l->l≠[]/\l.length<2^28) :
 bf Tryz.prog 63 [pv b,pv pb] [.h (gk q b t),dG pb M] (λv=>v=dV (t.vu M f).1) (λ_=>[.h (gk q b (t.vu M f).2.1),dG pb (t.vu M f).2.2]):=by
 have ln:0<=t.pc/\t.pc<2^40:=hB.pc;have u7:t.ga.length<2^30:=by have:=hB.ga;omega
 have hll:t.gh.length<2^28:=by have:=hB.nz;omega
 have wo:=hB.cf;unfold aU.vu;cases eR:t.dO with
 | none=>
   dsimp only;have dv:=λn=>GX n pb f M hn;have R3:=λn A hg=>mS n (gI f M).2 A hg;have Xn:=λn A hg=>EP n (gI f M).2 A hg;generalize hr:gI f M=r at dv R3 Xn ⊢;obtain⟨ac,f'⟩:=r;dsimp only at dv R3 Xn ⊢;by_cases oA:f'.done=true
   . simp only [oA] at R3;rw [if_pos oA];cases nh:lT t.cf t.gh f'.nz with
     | nil=>
       have e:({ t with dX:=some f',dO:=some [],gh:=jV t.gh f'.nz }:aU).kF=(({ t with dX:=none,dO:=none,gh:=jV t.gh f'.nz }:aU).oP 6 0).oT:=rfl;rw [e];have OV:=λn=>BI n [] true rfl;have Lq:=λn=>nh▸wa n t.cf wo t.gh f'.nz Qw hll;by_cases h3:ac.cell=3
       . rw [if_pos h3];intro A F hw dm;refine aF Tryz.func63 λ_=>?_;dsimp only [aa,ag] at dm;obtain⟨⟨cy,ep,ka,eX,vs,vo⟩,iz⟩:=gk.open dm .z;clear dm;dsimp only [iK,aa,ag] at iz;rw [dt,dC,eR] at iz;dsimp only [dQ,fJ,dP,fI,fL,lp] at iz;have hS:=ah.Iu iz (.s (.s (.s .z)));clear iz;have hq:=oU hS hw;revert hq hS hw;refine Wu (J8 (Tg.mk (n:=10) (λ{A L K k}=>mo (A:=A) (L:=L) (K:=K) (k:=k) (R3 ep))) (Tg.mk (n:=10) (λ{A L K k}=>mo (A:=A) (L:=L) (K:=K) (k:=k) (Xn ep))) (Tg.mk (n:=32) (Lq eX)) (Tg.mk (n:=36) (λx1=>jc b t.d x1 t.ga 6 0 u7)) (Tg.mk (n:=37) (λx1 x2 x3 x4 x5 x6 x7 x8 x9=>kS b t.d x1 x2 x3 x4 x5 x6 x7 x8 x9 ln)) (od nO) (dv ep) @OV) (J4 h3 bz @be.eq_1 @aW.v.eq_1) ?_<;>(unhygienic intros);refine⟨_,by first|rfl|(simp;rfl)|(simp [hq,AW.af,aB];rfl),by first|trivial|rfl|(simp [dV,aW.v,aW.zero];done)|(simp [dV,aW.v,aW.zero,h3];done)|(simp [dV,aW.v,aW.zero];rfl),?_⟩;apply gk.bO
         apply ah.lP;apply ah.lP
         (·exact sA)
         . dsimp only [iK,aU.oT,aU.to,aU.oP,aU.fX,aU.fA,aU.jZ,aU.d]
           (try simp only [dt,dC,eR])
           dsimp only [dQ,fJ,dP,fI,fL,lp]
           (·repeat' (first|apply aP.z|apply aP.s|apply ay.z|apply ay.pt|apply ay.s))
         (·repeat' (first|apply aP.z|apply aP.s|apply ay.z|apply ay.pt|apply ay.s))
         all_goals(first|exact 0|exact undef)
       rw [if_neg h3];intro A F hw dm;refine aF Tryz.func63 λ_=>?_;dsimp only [aa,ag] at dm;obtain⟨⟨cy,ep,ka,eX,vs,vo⟩,iz⟩:=gk.open dm .z;clear dm;dsimp only [iK,aa,ag] at iz;rw [dt,dC,eR] at iz;dsimp only [dQ,fJ,dP,fI,fL,lp] at iz;have hS:=ah.Iu iz (.s (.s (.s .z)));clear iz;have hq:=oU hS hw;revert hq hS hw;(repeat first|clear hq|clear hS|clear hw|revert hc|revert R|revert K);refine Wu (J8 (Tg.mk (n:=10) (λ{A L K k}=>mo (A:=A) (L:=L) (K:=K) (k:=k) (R3 ep))) (Tg.mk (n:=10) (λ{A L K k}=>mo (A:=A) (L:=L) (K:=K) (k:=k) (Xn ep))) (Tg.mk (n:=32) (Lq eX)) (Tg.mk (n:=36) (λx1=>jc b t.d x1 t.ga 6 0 u7)) (Tg.mk (n:=37) (λx1 x2 x3 x4 x5 x6 x7 x8 x9=>kS b t.d x1 x2 x3 x4 x5 x6 x7 x8 x9 ln)) (od nO) (dv ep) @OV) (J4 h3 bz @be.eq_1 @aW.v.eq_1) ?_<;>(unhygienic intros);refine⟨_,by first|rfl|(simp;rfl)|(simp [hq,AW.af,aB];rfl),by first|trivial|rfl|(simp [dV,aW.v,aW.zero];done)|(simp [dV,aW.v,aW.zero,h3];done)|(simp [dV,aW.v,aW.zero];rfl),?_⟩
       apply gk.bO;apply ah.lP;apply ah.lP
       (·exact sA)
       . dsimp only [iK,aU.oT,aU.to,aU.oP,aU.fX,aU.fA,aU.jZ,aU.d]
         (try simp only [dt,dC,eR])
         dsimp only [dQ,fJ,dP,fI,fL,lp]
         (·repeat' (first|apply aP.z|apply aP.s|apply ay.z|apply ay.pt|apply ay.s))
       (·repeat' (first|apply aP.z|apply aP.s|apply ay.z|apply ay.pt|apply ay.s))
       all_goals(first|exact 0|exact undef)
     | cons x l=>
       have e:({ t with dX:=some f',dO:=some (x::l),gh:=jV t.gh f'.nz }:aU).kF={ t with dX:=some f',dO:=some (x::l),gh:=jV t.gh f'.nz }:=rfl;rw [e];have OV:=λn=>BI n (x::l) false rfl;have Lq:=λn=>nh▸wa n t.cf wo t.gh f'.nz Qw hll;by_cases h3:ac.cell=3
       . rw [if_pos h3];intro A F hw dm;refine aF Tryz.func63 λ_=>?_;dsimp only [aa,ag] at dm;obtain⟨⟨cy,ep,ka,eX,vs,vo⟩,iz⟩:=gk.open dm .z;clear dm;dsimp only [iK,aa,ag] at iz;rw [dt,dC,eR] at iz;dsimp only [dQ,fJ,dP,fI,fL,lp] at iz;have hS:=ah.Iu iz (.s (.s (.s .z)));clear iz;have hq:=oU hS hw;revert hq hS hw;(repeat first|clear hq|clear hS|clear hw|revert hc|revert R|revert K);refine W (J6 (Tg.mk (n:=10) (λ{A L K k}=>mo (A:=A) (L:=L) (K:=K) (k:=k) (R3 ep))) (Tg.mk (n:=10) (λ{A L K k}=>mo (A:=A) (L:=L) (K:=K) (k:=k) (Xn ep))) (Tg.mk (n:=32) (Lq eX)) (od nO) (dv ep) @OV) (J4 h3 bz @be.eq_1 @aW.v.eq_1) ?_<;>(unhygienic intros);refine⟨_,by first|rfl|(simp;rfl)|(simp [hq,AW.af,aB];rfl),by first|trivial|rfl|(simp [dV,aW.v,aW.zero];done)|(simp [dV,aW.v,aW.zero,h3];done)|(simp [dV,aW.v,aW.zero];rfl),?_⟩;apply gk.bO;apply ah.lP;apply ah.lP
         (·exact sA)
         . dsimp only [iK,aU.oT,aU.to,aU.oP,aU.fX,aU.fA,aU.jZ,aU.d]
           (try simp only [dt,dC,eR])
           dsimp only [dQ,fJ,dP,fI,fL,lp]
           (·repeat' (first|apply aP.z|apply aP.s|apply ay.z|apply ay.pt|apply ay.s))
         (·repeat' (first|apply aP.z|apply aP.s|apply ay.z|apply ay.pt|apply ay.s))
         all_goals(first|exact 0|exact undef)
       rw [if_neg h3];intro A F hw dm;refine aF Tryz.func63 λ_=>?_;dsimp only [aa,ag] at dm;obtain⟨⟨cy,ep,ka,eX,vs,vo⟩,iz⟩:=gk.open dm .z;clear dm;dsimp only [iK,aa,ag] at iz;rw [dt,dC,eR] at iz;dsimp only [dQ,fJ,dP,fI,fL,lp] at iz;have hS:=ah.Iu iz (.s (.s (.s .z)));clear iz;have hq:=oU hS hw;revert hq hS hw;(repeat first|clear hq|clear hS|clear hw|revert hc|revert R|revert K);refine W (J6 (Tg.mk (n:=10) (λ{A L K k}=>mo (A:=A) (L:=L) (K:=K) (k:=k) (R3 ep))) (Tg.mk (n:=10) (λ{A L K k}=>mo (A:=A) (L:=L) (K:=K) (k:=k) (Xn ep))) (Tg.mk (n:=32) (Lq eX)) (od nO) (dv ep) @OV) (J4 h3 bz @be.eq_1 @aW.v.eq_1) ?_<;>(unhygienic intros);refine⟨_,by first|rfl|(simp;rfl)|(simp [hq,AW.af,aB];rfl),by first|trivial|rfl|(simp [dV,aW.v,aW.zero];done)|(simp [dV,aW.v,aW.zero,h3];done)|(simp [dV,aW.v,aW.zero];rfl),?_⟩;apply gk.bO;apply ah.lP;apply ah.lP
       (·exact sA)
       . dsimp only [iK,aU.oT,aU.to,aU.oP,aU.fX,aU.fA,aU.jZ,aU.d]
         (try simp only [dt,dC,eR])
         dsimp only [dQ,fJ,dP,fI,fL,lp]
         (·repeat' (first|apply aP.z|apply aP.s|apply ay.z|apply ay.pt|apply ay.s))
       (·repeat' (first|apply aP.z|apply aP.s|apply ay.z|apply ay.pt|apply ay.s))
       all_goals(first|exact 0|exact undef)
   have hdn2:f'.done=false:=by simpa using oA
   simp only [hdn2] at R3;rw [if_neg oA];have e:({ t with dX:=some f',dO:=none }:aU).kF={ t with dX:=some f',dO:=none }:=rfl;rw [e];by_cases h3:ac.cell=3
   . rw [if_pos h3];intro A F hw dm;refine aF Tryz.func63 λ_=>?_;dsimp only [aa,ag] at dm;obtain⟨⟨cy,ep,ka,eX,vs,vo⟩,iz⟩:=gk.open dm .z;clear dm;dsimp only [iK,aa,ag] at iz;rw [dt,dC,eR] at iz;dsimp only [dQ,fJ,dP,fI,fL,lp] at iz;have hS:=ah.Iu iz (.s (.s (.s .z)));clear iz;have hq:=oU hS hw;revert hq hS hw;(repeat first|clear hq|clear hS|clear hw|revert hc|revert R|revert K);refine W (J3 (Tg.mk (n:=10) (λ{A L K k}=>mo (A:=A) (L:=L) (K:=K) (k:=k) (R3 ep))) (od nO) (dv ep)) (J4 h3 bz @be.eq_1 @aW.v.eq_1) ?_<;>(unhygienic intros);refine⟨_,by first|rfl|(simp;rfl)|(simp [hq,AW.af,aB];rfl),by first|trivial|rfl|(simp [dV,aW.v,aW.zero];done)|(simp [dV,aW.v,aW.zero,h3];done)|(simp [dV,aW.v,aW.zero];rfl),?_⟩;apply gk.bO;apply ah.lP;apply ah.lP
     (·exact sA)
     . dsimp only [iK,aU.oT,aU.to,aU.oP,aU.fX,aU.fA,aU.jZ,aU.d]
       (try simp only [dt,dC,eR])
       dsimp only [dQ,fJ,dP,fI,fL,lp]
       (·repeat' (first|apply aP.z|apply aP.s|apply ay.z|apply ay.pt|apply ay.s))
     (·repeat' (first|apply aP.z|apply aP.s|apply ay.z|apply ay.pt|apply ay.s))
     all_goals(first|exact 0|exact undef)
   rw [if_neg h3];intro A F hw dm;refine aF Tryz.func63 λ_=>?_;dsimp only [aa,ag] at dm;obtain⟨⟨cy,ep,ka,eX,vs,vo⟩,iz⟩:=gk.open dm .z;clear dm;dsimp only [iK,aa,ag] at iz;rw [dt,dC,eR] at iz;dsimp only [dQ,fJ,dP,fI,fL,lp] at iz;have hS:=ah.Iu iz (.s (.s (.s .z)));clear iz;have hq:=oU hS hw;revert hq hS hw;(repeat first|clear hq|clear hS|clear hw|revert hc|revert R|revert K);refine W (J3 (Tg.mk (n:=10) (λ{A L K k}=>mo (A:=A) (L:=L) (K:=K) (k:=k) (R3 ep))) (od nO) (dv ep)) (J4 h3 bz @be.eq_1 @aW.v.eq_1) ?_<;>(unhygienic intros);refine⟨_,by first|rfl|(simp;rfl)|(simp [hq,AW.af,aB];rfl),by first|trivial|rfl|(simp [dV,aW.v,aW.zero];done)|(simp [dV,aW.v,aW.zero,h3];done)|(simp [dV,aW.v,aW.zero];rfl),?_⟩;apply gk.bO;apply ah.lP;apply ah.lP
   (·exact sA)
   . dsimp only [iK,aU.oT,aU.to,aU.oP,aU.fX,aU.fA,aU.jZ,aU.d]
     (try simp only [dt,dC,eR])
     dsimp only [dQ,fJ,dP,fI,fL,lp]
     (·repeat' (first|apply aP.z|apply aP.s|apply ay.z|apply ay.pt|apply ay.s))
   (·repeat' (first|apply aP.z|apply aP.s|apply ay.z|apply ay.pt|apply ay.s))
   all_goals(first|exact 0|exact undef)
 | some l0=>
   obtain⟨hU,Xm⟩:=hdl l0 eR;cases l0 with
   | nil=>exact absurd rfl hU
   | cons x l=>
     dsimp only;have hln2:l.length<2^29:=(by rw [List.length_cons] at Xm;omega);have dv:=λn=>Js n pb x l M hln2;generalize hr:xq (x::l) M=r at dv ⊢;obtain⟨ac,l',M'⟩:=r;dsimp only at dv ⊢;cases l' with
     | nil=>
       have e:({ t with dO:=some [] }:aU).kF=(({ t with dX:=none,dO:=none }:aU).oP 6 0).oT:=rfl;rw [e];have OV:=λn=>BI n [] true rfl;intro A F hw dm;refine aF Tryz.func63 λ_=>?_;dsimp only [aa,ag] at dm;obtain⟨⟨cy,ep,ka,eX,vs,vo⟩,iz⟩:=gk.open dm .z;clear dm;dsimp only [iK,aa,ag] at iz;rw [dt,dC,eR] at iz;dsimp only [dQ,fJ,dP,fI,fL,lp] at iz;have hS:=ah.Iu iz (.s (.s (.s .z)));clear iz;have hq:=oU hS hw
       repeat' (first|(refine jX λR hR=>?_;simp [ai,ar,hq,AW.af,aB,be,aW.v];try simp (disch:=omega) only [if_pos,if_neg,ai,ar])|(refine hR _ _ ?_;clear hR R)|(refine hK _ _ ?_;clear hK K)|refine nx ?_|refine wn λK hK=>?_|simp only [wS,nO]|refine wl Tryz.mx nO (by decide +kernel) λK hK=>?_|(refine Ml ac ?_)|(apply bf.eZ (dv ka);(·exact wA);(·exact sA);(·first|exact pA|exact kA);rintro _ _ rfl hS hw _;have hS:=lA hS;have hq:=oU hS hw)|(apply bf.eZ (OV _);(·exact wA);(·exact sA);(·first|exact pA|exact kA);rintro _ _ rfl hS hw _;have hS:=lA hS;have hq:=oU hS hw)|(apply dT.eZ (jc b t.d _ t.ga 6 0 u7);(·exact wA);(·exact sA);(·first|exact pA|exact kA);(rintro xw _ _ _ hS hw _;have hS:=lA hS;(try (have hq:=oU hS hw))))|(apply bf.eZ (kS b t.d _ _ _ _ _ _ _ _ _ ln);(·exact wA);(·exact sA);(·first|exact pA|exact kA);rintro _ _ _ hS hw _;have hS:=lA hS;have hq:=oU hS hw)|(show cM _ _ _ _ _ _;refine nx ?_)|(refine wc rfl (λhc=>?_) (λhc=>?_)<;>(try simp at hc)<;>(try omega))|(refine ib (λhc=>?_) (λhc=>?_)<;>(try omega)<;>(try simp (disch:=omega) only [if_pos,if_neg])))
       refine⟨_,by first|rfl|(simp;rfl)|(simp [hq,AW.af,aB];rfl),by first|trivial|rfl|(simp [dV,aW.v,aW.zero];done)|(simp [dV,aW.v,aW.zero,h3];done)|(simp [dV,aW.v,aW.zero];rfl),?_⟩;apply gk.bO;apply ah.lP;apply ah.lP
       (·exact sA)
       . dsimp only [iK,aU.oT,aU.to,aU.oP,aU.fX,aU.fA,aU.jZ,aU.d]
         (try simp only [dt,dC,eR])
         dsimp only [dQ,fJ,dP,fI,fL,lp]
         (·repeat' (first|apply aP.z|apply aP.s|apply ay.z|apply ay.pt|apply ay.s))
       (·repeat' (first|apply aP.z|apply aP.s|apply ay.z|apply ay.pt|apply ay.s))
       all_goals(first|exact 0|exact undef)
     | cons y l'=>
       have e:({ t with dO:=some (y::l') }:aU).kF={ t with dO:=some (y::l') }:=rfl;rw [e];have OV:=λn=>BI n (y::l') false rfl;intro A F hw dm;refine aF Tryz.func63 λ_=>?_;dsimp only [aa,ag] at dm;obtain⟨⟨cy,ep,ka,eX,vs,vo⟩,iz⟩:=gk.open dm .z;clear dm;dsimp only [iK,aa,ag] at iz;rw [dt,dC,eR] at iz;dsimp only [dQ,fJ,dP,fI,fL,lp] at iz;have hS:=ah.Iu iz (.s (.s (.s .z)));clear iz;have hq:=oU hS hw
       repeat' (first|(refine jX λR hR=>?_;simp [ai,ar,hq,AW.af,aB,be,aW.v];try simp (disch:=omega) only [if_pos,if_neg,ai,ar])|(refine hR _ _ ?_;clear hR R)|(refine hK _ _ ?_;clear hK K)|refine nx ?_|refine wn λK hK=>?_|simp only [wS,nO]|refine wl Tryz.mx nO (by decide +kernel) λK hK=>?_|(refine Ml ac ?_)|(apply bf.eZ (dv ka);(·exact wA);(·exact sA);(·first|exact pA|exact kA);rintro _ _ rfl hS hw _;have hS:=lA hS;have hq:=oU hS hw)|(apply bf.eZ (OV _);(·exact wA);(·exact sA);(·first|exact pA|exact kA);rintro _ _ rfl hS hw _;have hS:=lA hS;have hq:=oU hS hw)|(show cM _ _ _ _ _ _;refine nx ?_)|(refine wc rfl (λhc=>?_) (λhc=>?_)<;>(try simp at hc)<;>(try omega))|(refine ib (λhc=>?_) (λhc=>?_)<;>(try omega)<;>(try simp (disch:=omega) only [if_pos,if_neg])))
       refine⟨_,by first|rfl|(simp;rfl)|(simp [hq,AW.af,aB];rfl),by first|trivial|rfl|(simp [dV,aW.v,aW.zero];done)|(simp [dV,aW.v,aW.zero,h3];done)|(simp [dV,aW.v,aW.zero];rfl),?_⟩;apply gk.bO;apply ah.lP;apply ah.lP
       (·exact sA)
       . dsimp only [iK,aU.oT,aU.to,aU.oP,aU.fX,aU.fA,aU.jZ,aU.d]
         (try simp only [dt,dC,eR])
         dsimp only [dQ,fJ,dP,fI,fL,lp]
         (·repeat' (first|apply aP.z|apply aP.s|apply ay.z|apply ay.pt|apply ay.s))
       (·repeat' (first|apply aP.z|apply aP.s|apply ay.z|apply ay.pt|apply ay.s))
       all_goals(first|exact 0|exact undef)
theorem nM [Gl] {L G K:List It} (h':aP L G K:=by first|((repeat' (first|apply aP.z|apply aP.s|apply ay.z|apply ay.pt|apply ay.s));done)|fail):aP L G K:=h'
theorem nZ [Gl] {L K:List It} {x:It} (h':ay L x K:=by first|((repeat' (first|apply aP.z|apply aP.s|apply ay.z|apply ay.pt|apply ay.s));done)|fail):ay L x K:=h'
end
section
abbrev sH:List (Nat×Nat):=[(0,0),(1,0),(2,0),(3,0),(4,0),(5,0),(6,0),(7,3)]
abbrev sG:List (Nat×Nat):=[(0,0),(1,0),(2,0),(3,0),(4,0),(5,0),(6,0),(7,0),(8,0),(9,0),(10,0),(11,3),(12,0),(13,0),(14,0),(15,0),(16,3)]
open T2
variable [Gl]
structure DT (t:aU) (s:aM) (M:Mm):Prop where
 hB:O3 t
 yl:HD s M
 hC:gq (cK s M).2.2.1
 hi:b8 t.fV=0
 bL:t.pc<t.az.length
 dv:t.aT=true->t.fV.op=12\/t.fV.op=13
 Xe:t.aT=false->dS t.az t.bJ.toNat=7/\0<=t.bJ
 sd:∀x∈(cK s M).2.2.1.av,x<2^62
 R2:(cK s M).2.2.1.av.length<=8
theorem uL (hF:FOK) {t:aU} {s:aM} {M:Mm} (h:DT t s M) (q:nK) (b pb:Nat) (dt:t.jL=some s) (dC:t.dX=none) (eR:t.dO=none) (Bp:CR q t.az) :
 dT Tryz.prog 65 [pv b,pv pb] [.h (gk q b t),dG pb M] (λev v=>v=.tuple #[dV (t.wE M s).1,ev]) (λev=>[.h (gk q b (t.wE M s).2.2.1),dG pb (t.wE M s).2.2.2,.h (fB ev (t.wE M s).2.1)]):=
 Hq hF q b pb t s M dt dC eR h.hB h.yl h.hC h.hi h.bL h.dv h.Xe h.sd h.R2 Bp
theorem KA (hF:FOK) (q:nK) (b pb:Nat) (t:aU) (M:Mm) (i:aZ) (dt:t.jL=none) (dC:t.dX=none) (eR:t.dO=none) (hB:O3 t) (mt:i.op=12\/i.op=13) (hi:b8 i=0) (Bp:CR q t.az)
 (hadv:t.cf.aT=true->DT ({ t with aT:=true,fp:=0 }:aU).tg (gO (fG t.cf t.id)).2 M) :
 dT Tryz.prog 98 [pv b,pv pb,jJ i] [.h (gk q b t),dG pb M] (λev v=>v=.tuple #[dV (t.plain M i).1,ev]) (λev=>[.h (gk q b (t.plain M i).2.2.1),dG pb (t.plain M i).2.2.2,.h (fB ev (t.plain M i).2.1)]):=by
 have ln:0<=t.pc/\t.pc<2^40:=hB.pc;have u7:t.ga.length<2^30:=by have:=hB.ga;omega
 have wo:=hB.cf;have RX:=wo.ba;have hct:=hB.tN;have jg:IntKind.u64.wrap t.d.cf.ba=t.d.cf.ba:=(ar (by omega) (by omega):IntKind.u64.wrap t.cf.ba=t.cf.ba);have htg:t.sh i=pd t.d i:=by
  unfold aU.sh pd;rfl
 have htn:=Pk t.d i;unfold aU.plain;dsimp only;rw [htg];by_cases h1:t.d.cf.ba<=pd t.d i
 . rw [if_pos (show t.cf.ba<=pd t.d i from h1)];rcases mt with h2|h2
   . obtain⟨op,i1,i2,i3,bQ⟩:=i;dsimp only at h2;subst h2;have ha:=(mB hi).1 rfl;dsimp only at ha;have BD:=λx w=>wL (d:=t.d) (w:=w) (x:=x) ha;rw [if_pos rfl];unfold jJ;intro A F hw dm;refine aF Tryz.func98 λ_=>?_;dsimp only [aa,ag] at dm;obtain⟨⟨cy,ep,ka,eX,vs,vo⟩,hS⟩:=gk.open dm .z;clear dm;dsimp only [iK,aa,ag] at hS;rw [dt,dC,eR] at hS;dsimp only [dQ,fJ,dP,fI,fL,lp] at hS;have hq:=fk hS hw;have QS:b<A.next:=hw.lt (hS.g 0 rfl);have RV:(b=A.next+1+1)=False:=eq_false (by omega);have nF:(b=A.next+1+1+1)=False:=eq_false (by omega);have vz:(A.next+1+1=b)=False:=eq_false (by omega);have w7:(A.next+1+1+1=b)=False:=eq_false (by omega);revert hq hS hw;refine Wu (J5 (Tg.mk (n:=10) (λ{A L K k} x1=>B5 (A:=A) (L:=L) (K:=K) (k:=k) b t.d x1 ⟨12,i1,i2,i3,bQ⟩ (.inl rfl) hi)) (Tg.mk (n:=36) (λx1=>jc b { t.d with dw:=t.d.dw.set i1 0 } x1 t.ga 7 7 u7)) (Tg.mk (n:=37) (λx1 x2 x3 x4 x5 x6 x7 x8 x9=>kS b { t.d with dw:=t.d.dw.set i1 0 } x1 x2 x3 x4 x5 x6 x7 x8 x9 ln)) (od sH) (od sG)) (J6 jg h1 BD ha.1 ha.2 bz) ?_<;>(unhygienic intros)
     refine⟨_,by first|rfl|(simp;rfl)|(simp [hq,AW.af,aB];rfl),?_⟩;apply wv
     (·first|rfl|(simp [dV,fR.zero,aW.v,aW.zero];done)|(simp [dV,fR.zero,aW.v,aW.zero];rfl))
     apply gk.bO;apply fB.nil
     (·exact sA)
     . dsimp only [iK,aU.oT,aU.to,aU.oP,aU.fX,aU.fA,aU.jZ,aU.d]
       (try simp only [dt,dC,eR])
       dsimp only [dQ,fJ,dP,fI,fL,lp]
       (·first|exact nM|exact nZ)
     (·first|exact nM|exact nZ)
     all_goals(first|exact 0|exact undef)
   obtain⟨op,i1,i2,i3,bQ⟩:=i;dsimp only at h2;subst h2;rw [if_neg (show ¬(13:Int)=12 by decide)];unfold jJ;intro A F hw dm;refine aF Tryz.func98 λ_=>?_;dsimp only [aa,ag] at dm;obtain⟨⟨cy,ep,ka,eX,vs,vo⟩,hS⟩:=gk.open dm .z;clear dm;dsimp only [iK,aa,ag] at hS;rw [dt,dC,eR] at hS;dsimp only [dQ,fJ,dP,fI,fL,lp] at hS;have hq:=fk hS hw;have QS:b<A.next:=hw.lt (hS.g 0 rfl);have RV:(b=A.next+1+1)=False:=eq_false (by omega);have nF:(b=A.next+1+1+1)=False:=eq_false (by omega);have vz:(A.next+1+1=b)=False:=eq_false (by omega);have w7:(A.next+1+1+1=b)=False:=eq_false (by omega);revert hq hS hw;(repeat first|clear hq|clear hS|clear hw|revert hc|revert R|revert K);refine Wu (J5 (Tg.mk (n:=10) (λ{A L K k} x1=>B5 (A:=A) (L:=L) (K:=K) (k:=k) b t.d x1 ⟨13,i1,i2,i3,bQ⟩ (.inr rfl) hi)) (Tg.mk (n:=36) (λx1=>jc b t.d x1 t.ga 7 7 u7)) (Tg.mk (n:=37) (λx1 x2 x3 x4 x5 x6 x7 x8 x9=>kS b t.d x1 x2 x3 x4 x5 x6 x7 x8 x9 ln)) (od sH) (od sG)) (J3 jg h1 bz) ?_<;>(unhygienic intros)
   refine⟨_,by first|rfl|(simp;rfl)|(simp [hq,AW.af,aB];rfl),?_⟩;apply wv
   (·first|rfl|(simp [dV,fR.zero,aW.v,aW.zero];done)|(simp [dV,fR.zero,aW.v,aW.zero];rfl))
   apply gk.bO;apply fB.nil
   (·exact sA)
   . dsimp only [iK,aU.oT,aU.to,aU.oP,aU.fX,aU.fA,aU.jZ,aU.d]
     (try simp only [dt,dC,eR])
     dsimp only [dQ,fJ,dP,fI,fL,lp]
     (·first|exact nM|exact nZ)
   (·first|exact nM|exact nZ)
   all_goals(first|exact 0|exact undef)
 rw [if_neg (show ¬t.cf.ba<=pd t.d i from h1)];by_cases h3:t.d.cf.aT=true
 . rw [if_pos (show t.cf.aT=true from h3)];have Og:=uL hF (hadv h3) q b pb rfl dC eR Bp;have hcf2:db t.d.cf:=wo;rcases mt with h2|h2
   all_goals
    obtain⟨op,i1,i2,i3,bQ⟩:=i;dsimp only at h2;subst h2;unfold jJ;intro A F hw dm;refine aF Tryz.func98 λ_=>?_;dsimp only [aa,ag] at dm;obtain⟨⟨cy,ep,ka,eX,vs,vo⟩,hS⟩:=gk.open dm .z;clear dm;dsimp only [iK,aa,ag] at hS;rw [dt,dC,eR] at hS;dsimp only [dQ,fJ,dP,fI,fL,lp] at hS;have hq:=fk hS hw;have QS:b<A.next:=hw.lt (hS.g 0 rfl);have RV:(b=A.next+1+1)=False:=eq_false (by omega);have nF:(b=A.next+1+1+1)=False:=eq_false (by omega);have vz:(A.next+1+1=b)=False:=eq_false (by omega);have w7:(A.next+1+1+1=b)=False:=eq_false (by omega)
    all_goals(revert hq hS hw;(repeat first|clear hq|clear hS|clear hw|revert hc|revert R|revert K);refine Wu (J5 (Tg.mk (n:=10) (λ{A L K k} x1=>B5 (A:=A) (L:=L) (K:=K) (k:=k) b t.d x1 ⟨_,i1,i2,i3,bQ⟩ (by first|exact .inl rfl|exact .inr rfl) hi)) (Tg.mk (n:=36) (λx1=>Ap b { t.d with aT:=true,fp:=0 } x1 hcf2 hct)) (Tg.mk (n:=35) @Og) (od sH) (od sG)) (J5 jg h1 h3 @dV.eq_1 bz) ?_<;>unhygienic intros)
    refine⟨_,by first|rfl|(simp;rfl)|(simp [hq,AW.af,aB];rfl),?_⟩;apply wv
    (·first|rfl|(simp [dV,fR.zero,aW.v,aW.zero];done)|(simp [dV,fR.zero,aW.v,aW.zero];rfl))
    apply ah.bO
    (·exact sA)
    (·first|exact nM|exact nZ)
 rw [if_neg (show ¬t.cf.aT=true from h3)];have hwd2:t.d.cf.ba<=64:=RX.2;have jR:IntKind.i64.wrap (pd t.d i)=pd t.d i:=ai (by omega) (by omega);rcases mt with h2|h2
 . obtain⟨op,i1,i2,i3,bQ⟩:=i;dsimp only at h2;subst h2;rw [if_pos rfl];have e:t.DN ⟨12,i1,i2,i3,bQ⟩ (iP M 1 (pd t.d ⟨12,i1,i2,i3,bQ⟩)).put=((t.fX i1 (iP M 1 (pd t.d ⟨12,i1,i2,i3,bQ⟩)).put).oP 4 (iP M 1 (pd t.d ⟨12,i1,i2,i3,bQ⟩)).put).oT:=if_pos rfl;rw [e];have Ut:=λw {A L K} {k:Value->AW->Prop}=>B5 (A:=A) (L:=L) (K:=K) (k:=k) b t.d w ⟨12,i1,i2,i3,bQ⟩ (.inl rfl) hi;generalize zV:pd t.d ⟨12,i1,i2,i3,bQ⟩=Hs at *;unfold jJ;unfold jJ at Ut;intro A F hw dm;refine aF Tryz.func98 λ_=>?_;dsimp only [aa,ag] at dm;obtain⟨⟨cy,ep,ka,eX,vs,vo⟩,hS⟩:=gk.open dm .z;clear dm;dsimp only [iK,aa,ag] at hS;rw [dt,dC,eR] at hS;dsimp only [dQ,fJ,dP,fI,fL,lp] at hS;have hq:=fk hS hw;have QS:b<A.next:=hw.lt (hS.g 0 rfl);have RV:(b=A.next+1+1)=False:=eq_false (by omega);have nF:(b=A.next+1+1+1)=False:=eq_false (by omega);have vz:(A.next+1+1=b)=False:=eq_false (by omega);have w7:(A.next+1+1+1=b)=False:=eq_false (by omega)
   repeat' (first|(refine jX λR hR=>?_;simp [ai,ar,hq,RV,nF,vz,w7,jg,jR,h1,h3,AW.af,aB,be,aW.v];try simp (disch:=omega) only [if_pos,if_neg,ai,ar])|(refine hR _ _ ?_;clear hR R)|(refine hK _ _ ?_;clear hK K)|refine nx ?_|(refine Md λR hR=>?_;simp [ai,ar,hq,RV,nF,vz,w7,jg,jR,h1,h3,AW.af,aB,be,aW.v];try simp (disch:=omega) only [if_pos,if_neg,ai,ar])|(refine H0 (λR hR=>?_) (λR hR=>?_)<;>(simp [ai,ar,hq,RV,nF,vz,w7,jg,jR,h1,h3,AW.af,aB,be,aW.v];try simp (disch:=omega) only [if_pos,if_neg,ai,ar]))|refine Mc ?_|refine wn λK hK=>?_|simp only [wS,sH,sG]|simp only [bA,rg,kU,Option.map_none,Option.map_some,List.getElem?_toArray,List.getElem?_cons_zero,List.getElem?_cons_succ,List.getD_cons_zero,List.getD_cons_succ,Option.bind_some]|refine wl Tryz.mx sH (by decide +kernel) λK hK=>?_|refine wl Tryz.mx sG (by decide +kernel) λK hK=>?_|(refine ⟨λA' g=>by simp [AW.af,g],?_⟩)|(refine ⟨by simp [hq],?_⟩)|(refine wt (λA'=>A'.bg (A.next+1+1+1)=some (.cells [.int .i64 0,.int .i64 t.d.id,.int .i64 1,.int .i64 Hs,.slice none 0 0,.slice none 0 0] true 1)) Tryz.mx [0,1,2,3,0] (.aD 0 (.aD 1 (.qD 2 (.aD 3 (.aD 4 .nil)) 3 (.aD 2 (.aD 4 .nil))))) (by decide +kernel) λK hK=>?_)|(apply Ut _;(·exact wA);(·exact sA);(·first|exact pA|exact kA);)|(apply bf.eZ (Qh pb M 1 Hs);(·exact wA);(·exact sA);(·first|exact pA|exact kA);rintro _ _ rfl hS hw _;have hS:=lA hS;have hq:=fk hS hw)|(apply dT.eZ (AZ b t.d _ _ _ _ _ _ _ _ _ i1 i2 i3 bQ _ t.ga hi ln u7);(·exact wA);(·exact sA);(·first|exact pA|exact kA);(rintro xw _ _ _ hS hw _;have hS:=lA hS;(try (have hq:=fk hS hw))))|(show cM _ _ _ _ _ _;refine nx ?_)|(refine wc rfl (λhc=>?_) (λhc=>?_)<;>(try simp at hc)<;>(try omega))|(refine ib (λhc=>?_) (λhc=>?_)<;>(try omega)<;>(try simp (disch:=omega) only [if_pos,if_neg])))
   all_goals(
    refine⟨_,by first|rfl|(simp;rfl)|(simp [hq,AW.af,aB];rfl),?_⟩;apply wv
    (·first|rfl|(simp [dV,fR.zero,aW.v,aW.zero];done)|(simp [dV,fR.zero,aW.v,aW.zero];rfl))
    apply gk.bO
    . apply fB.aD (e:=⟨0,t.id,1,Hs,[],[]⟩) (r:=.slice none 0 0) (w:=.slice none 0 0);apply ah.uj .i64;apply ah.uj .i64
      (·exact sA)
      (·repeat' (first|apply ay.z|apply ay.s))
      (·repeat' (first|apply ay.z|apply ay.s))
      (·repeat' (first|apply ay.z|apply ay.s))
    . dsimp only [iK,aU.oT,aU.to,aU.oP,aU.fX,aU.fA,aU.jZ,aU.d]
      (try simp only [dt,dC,eR])
      dsimp only [dQ,fJ,dP,fI,fL,lp]
      (·first|exact nM|exact nZ)
    (·first|exact nM|exact nZ)
    all_goals(first|exact 0|exact undef))
 obtain⟨op,i1,i2,i3,bQ⟩:=i;dsimp only at h2;subst h2;rw [if_neg (show ¬(13:Int)=12 by decide)];have hb:=(mB hi).2.1 rfl;dsimp only at hb;have vI:=λw=>pO (d:=t.d) (w:=w) hb;have e:t.DN ⟨13,i1,i2,i3,bQ⟩ (DU M 1 (pd t.d ⟨13,i1,i2,i3,bQ⟩) (t.d.dw.bg i2)).put=(t.oP 5 (DU M 1 (pd t.d ⟨13,i1,i2,i3,bQ⟩) (t.d.dw.bg i2)).put).oT:=if_neg (show ¬(13:Int)=12 by decide);have e0:t.dw.bg i2=t.d.dw.bg i2:=rfl;dsimp only;rw [e0,e];have Ut:=λw {A L K} {k:Value->AW->Prop}=>B5 (A:=A) (L:=L) (K:=K) (k:=k) b t.d w ⟨13,i1,i2,i3,bQ⟩ (.inr rfl) hi;generalize zV:pd t.d ⟨13,i1,i2,i3,bQ⟩=Hs at *;unfold jJ;unfold jJ at Ut;intro A F hw dm;refine aF Tryz.func98 λ_=>?_;dsimp only [aa,ag] at dm;obtain⟨⟨cy,ep,ka,eX,vs,vo⟩,hS⟩:=gk.open dm .z;clear dm;dsimp only [iK,aa,ag] at hS;rw [dt,dC,eR] at hS;dsimp only [dQ,fJ,dP,fI,fL,lp] at hS;have hq:=fk hS hw;have QS:b<A.next:=hw.lt (hS.g 0 rfl);have RV:(b=A.next+1+1)=False:=eq_false (by omega)
 have nF:(b=A.next+1+1+1)=False:=eq_false (by omega);have vz:(A.next+1+1=b)=False:=eq_false (by omega);have w7:(A.next+1+1+1=b)=False:=eq_false (by omega)
 repeat' (first|(refine jX λR hR=>?_;simp [ai,ar,hq,RV,nF,vz,w7,jg,jR,h1,h3,vI,hb.1,hb.2,AW.af,aB,be,aW.v];try simp (disch:=omega) only [if_pos,if_neg,ai,ar])|(refine hR _ _ ?_;clear hR R)|(refine hK _ _ ?_;clear hK K)|refine nx ?_|(refine Md λR hR=>?_;simp [ai,ar,hq,RV,nF,vz,w7,jg,jR,h1,h3,vI,hb.1,hb.2,AW.af,aB,be,aW.v];try simp (disch:=omega) only [if_pos,if_neg,ai,ar])|(refine H0 (λR hR=>?_) (λR hR=>?_)<;>(simp [ai,ar,hq,RV,nF,vz,w7,jg,jR,h1,h3,vI,hb.1,hb.2,AW.af,aB,be,aW.v];try simp (disch:=omega) only [if_pos,if_neg,ai,ar]))|refine Mc ?_|refine wn λK hK=>?_|simp only [wS,sH,sG]|simp only [bA,rg,kU,Option.map_none,Option.map_some,List.getElem?_toArray,List.getElem?_cons_zero,List.getElem?_cons_succ,List.getD_cons_zero,List.getD_cons_succ,Option.bind_some]|refine wl Tryz.mx sH (by decide +kernel) λK hK=>?_|refine wl Tryz.mx sG (by decide +kernel) λK hK=>?_|(refine ⟨λA' g=>by simp [AW.af,g],?_⟩)|(refine ⟨by simp [hq],?_⟩)|(refine wt (λA'=>A'.bg (A.next+1+1+1)=some (.cells [.int .i64 0,.int .i64 t.d.id,.int .i64 2,.int .i64 Hs,.slice none 0 0,.slice none 0 0] true 1)) Tryz.mx [0,1,2,3,0] (.aD 0 (.aD 1 (.qD 2 (.aD 3 (.aD 4 .nil)) 3 (.aD 2 (.aD 4 .nil))))) (by decide +kernel) λK hK=>?_)|(apply Ut _;(·exact wA);(·exact sA);(·first|exact pA|exact kA);)|(apply bf.eZ (W2 pb M 1 Hs _);(·exact wA);(·exact sA);(·first|exact pA|exact kA);rintro _ _ rfl hS hw _;have hS:=lA hS;have hq:=fk hS hw)|(apply dT.eZ (AY b t.d _ _ _ _ _ _ _ _ _ i1 i2 i3 bQ _ t.ga hi ln u7);(·exact wA);(·exact sA);(·first|exact pA|exact kA);(rintro xw _ _ _ hS hw _;have hS:=lA hS;(try (have hq:=fk hS hw))))|(show cM _ _ _ _ _ _;refine nx ?_)|(refine wc rfl (λhc=>?_) (λhc=>?_)<;>(try simp at hc)<;>(try omega))|(refine ib (λhc=>?_) (λhc=>?_)<;>(try omega)<;>(try simp (disch:=omega) only [if_pos,if_neg])))
 all_goals(
  refine⟨_,by first|rfl|(simp;rfl)|(simp [hq,AW.af,aB];rfl),?_⟩;apply wv
  (·first|rfl|(simp [dV,fR.zero,aW.v,aW.zero];done)|(simp [dV,fR.zero,aW.v,aW.zero];rfl))
  apply gk.bO
  . apply fB.aD (e:=⟨0,t.id,2,Hs,[],[]⟩) (r:=.slice none 0 0) (w:=.slice none 0 0);apply ah.uj .i64;apply ah.uj .i64
    (·exact sA)
    (·repeat' (first|apply ay.z|apply ay.s))
    (·repeat' (first|apply ay.z|apply ay.s))
    (·repeat' (first|apply ay.z|apply ay.s))
  . dsimp only [iK,aU.oT,aU.to,aU.oP,aU.fX,aU.fA,aU.jZ,aU.d]
    (try simp only [dt,dC,eR])
    dsimp only [dQ,fJ,dP,fI,fL,lp]
    (·first|exact nM|exact nZ)
  (·first|exact nM|exact nZ)
  all_goals(first|exact 0|exact undef))
end
section
abbrev qK:List (Nat×Nat):=[(0,0),(1,0),(2,0),(3,0),(4,0),(5,0),(6,0),(7,0),(8,0),(9,0),(10,0),(11,0),(12,0),(13,0),(14,0),(15,3),(16,0),(17,0),(18,0),(19,3)]
abbrev qJ:List (Nat×Nat):=[(0,0),(1,0),(2,0),(3,0),(4,0),(5,0),(6,0),(7,0),(8,0),(9,2),(10,0),(11,0),(12,0),(13,3)]
open T2
variable [Gl]
variable [AF]
structure ExN (d6:Int->Int->Int->Int) (t:aU) (M:Mm) (i:aZ):Prop where
 hA:yZ d6
 hB:O3 t
 hi:b8 i=0
 qz:i.op=3->DJ i.bQ
 N3:i.op≠8/\i.op≠9/\i.op≠10/\i.op≠11/\i.op≠14/\i.op≠15
 hb:i.op=7->DT ({ t with bJ:=t.pc,lG:=t.dw,iJ:=t.iJ+1 }:aU).tg (gO (fG t.cf t.id)).2 M
 hp:t.cf.aT=true->i.op=12\/i.op=13->DT ({ t with aT:=true,fp:=0 }:aU).tg (gO (fG t.cf t.id)).2 M
 Qw:∀x∈t.gh,x.1<2^62
theorem yh (d6:Int->Int->Int->Int) (t:aU) (i:aZ):(t.je d6 i).jL=t.jL/\(t.je d6 i).dX=t.dX/\(t.je d6 i).dO=t.dO/\(t.je d6 i).az=t.az/\(t.je d6 i).eF=t.eF/\(t.je d6 i).cf=t.cf/\(t.je d6 i).gh=t.gh/\(t.je d6 i).ga=t.ga:=by
 unfold aU.je;split;exact⟨rfl,rfl,rfl,rfl,rfl,rfl,rfl,rfl⟩;split;exact⟨rfl,rfl,rfl,rfl,rfl,rfl,rfl,rfl⟩;split;exact⟨rfl,rfl,rfl,rfl,rfl,rfl,rfl,rfl⟩;split;exact⟨rfl,rfl,rfl,rfl,rfl,rfl,rfl,rfl⟩;exact⟨rfl,rfl,rfl,rfl,rfl,rfl,rfl,rfl⟩
theorem NR (d6:Int->Int->Int->Int) (t:aU) (i:aZ):(t.je d6 i).d.jj=t.d.jj:=by
 unfold aU.je;split;rfl;split;rfl;split;rfl;split<;>rfl
theorem Rd {d6:Int->Int->Int->Int} (hF:FOK) (q:nK) (b pb:Nat) (t:aU) (M:Mm) (i:aZ) (dt:t.jL=none) (dC:t.dX=none) (eR:t.dO=none) (hE:ExN d6 t M i) (Bp:CR q t.az) :
 dT Tryz.prog 67 [pv b,pv pb,jJ i] [.h (gk q b t),dG pb M] (λev v=>v=.tuple #[dV (t.mc d6 M i).1,ev]) (λev=>[.h (gk q b (t.mc d6 M i).2.2.1),dG pb (t.mc d6 M i).2.2.2,.h (fB ev (t.mc d6 M i).2.1)]):=by
 have hB:=hE.hB;have ln:0<=t.pc/\t.pc<2^40:=hB.pc;have wo:db t.d.cf:=hB.cf;have hct:=hB.tN;have htr:=hB.xy;have jg:IntKind.i64.wrap (t.d.iJ+1)=t.d.iJ+1:=(ai (by omega) (by omega):IntKind.i64.wrap (t.iJ+1)=t.iJ+1);have N3:=hE.N3;obtain⟨_,_,_,VR,_⟩:=mB hE.hi;unfold aU.mc;rw [dt];dsimp only;by_cases h7:i.op=7
 . rw [if_pos h7];have Og:=uL hF (hE.hb h7) q b pb rfl dC eR Bp;obtain⟨op,i1,i2,i3,bQ⟩:=i;dsimp only at h7;subst h7;unfold jJ;intro A F hw dm;refine aF Tryz.func67 λ_=>?_;dsimp only [aa,ag] at dm;obtain⟨⟨cy,ep,ka,eX,vs,vo⟩,hS⟩:=gk.open dm .z;clear dm;dsimp only [iK,aa,ag] at hS;rw [dt,dC,eR] at hS;dsimp only [dQ,fJ,dP,fI,fL,lp] at hS;have hq:=fk hS hw;revert hq hS hw;refine Wu (J4 (Tg.mk (n:=36) (λx1=>Ap b { t.d with bJ:=t.pc,lG:=t.dw,iJ:=t.iJ+1 } x1 wo hct)) (Tg.mk (n:=35) @Og) (od qK) (od qJ)) (J3 jg @dV.eq_1 bz) ?_<;>(unhygienic intros);refine⟨_,by first|rfl|(simp;rfl)|(simp [hq,AW.af,aB];rfl),?_⟩;apply wv
   (·first|rfl|(simp [dV,fR.zero,aW.v,aW.zero];done)|(simp [dV,fR.zero,aW.v,aW.zero];rfl))
   apply ah.bO
   (·exact sA)
   (·first|exact nM|exact nZ)
 rw [if_neg h7];by_cases hp:i.op=12\/i.op=13
 . rw [if_pos hp];have nh:=KA hF q b pb t M i dt dC eR hB hp hE.hi Bp (λh=>hE.hp h hp);rcases hp with h2|h2
   all_goals
    obtain⟨op,i1,i2,i3,bQ⟩:=i;dsimp only at h2;subst h2;unfold jJ at nh;unfold jJ;intro A F hw dm;refine aF Tryz.func67 λ_=>?_;dsimp only [aa,ag] at dm;obtain⟨⟨cy,ep,ka,eX,vs,vo⟩,hS⟩:=gk.open dm .z;clear dm;dsimp only [iK,aa,ag] at hS;rw [dt,dC,eR] at hS;dsimp only [dQ,fJ,dP,fI,fL,lp] at hS;have hq:=fk hS hw
    all_goals(revert hq hS hw;(repeat first|clear hq|clear hS|clear hw|revert hc|revert R|revert K);refine Wu (J3 (Tg.mk (n:=35) @nh) (od qK) (od qJ)) (J2 @dV.eq_1 bz) ?_<;>unhygienic intros)
    refine⟨_,by first|rfl|(simp;rfl)|(simp [hq,AW.af,aB];rfl),?_⟩;apply wv
    (·first|rfl|(simp [dV,fR.zero,aW.v,aW.zero];done)|(simp [dV,fR.zero,aW.v,aW.zero];rfl))
    apply ah.bO
    (·exact sA)
    (·first|exact nM|exact nZ)
 rw [if_neg hp];by_cases DZ:i.op=16
 . rw [if_pos DZ];dsimp only;have CT:=E9 q b pb ({ t with dX:=some ⟨t.id,t.nt,false,0,0⟩ }:aU) M ⟨t.id,t.nt,false,0,0⟩ dt rfl ⟨hB.cf,hB.pc,hB.ga,hB.nz,hB.tN,hB.xy,hB.mV,hB.qu⟩ (by dsimp only;omega) hE.Qw (λl e=>by have e2:t.dO=some l:=e;rw [eR] at e2;cases e2);rw [dt] at CT;generalize aU.vu ({ t with jL:=none,dX:=some ⟨t.id,t.nt,false,0,0⟩ }:aU) M ⟨t.id,t.nt,false,0,0⟩=r at CT ⊢;obtain⟨op,i1,i2,i3,bQ⟩:=i;dsimp only at DZ;subst DZ;unfold jJ;intro A F hw dm;refine aF Tryz.func67 λ_=>?_;dsimp only [aa,ag] at dm;obtain⟨⟨cy,ep,ka,eX,vs,vo⟩,hS⟩:=gk.open dm .z;clear dm;dsimp only [iK,aa,ag] at hS;rw [dt,dC,eR] at hS;dsimp only [dQ,fJ,dP,fI,fL,lp] at hS;have hq:=fk hS hw;have k7:∀k l,(b=A.next+k+l)=False:=λk l=>by simp [hq,Nat.add_assoc]
   revert hq hS hw;(repeat first|clear hq|clear hS|clear hw|revert hc|revert R|revert K);refine Wu (J4 (Tg.mk (n:=34) @CT) (od qK) (od qJ) @Ex) (J3 k7 @dV.eq_1 bz) ?_<;>(unhygienic intros);refine⟨_,by first|rfl|(simp;rfl)|(simp [hq,AW.af,aB];rfl),?_⟩;apply wv
   (·first|rfl|(simp [dV,fR.zero,aW.v,aW.zero];done)|(simp [dV,fR.zero,aW.v,aW.zero];rfl))
   apply ah.bO;apply fB.nil
   (·exact sA)
   (·first|exact nM|exact nZ)
 rw [if_neg DZ];have mt:(0<=i.op/\i.op<=6)\/i.op=17:=by omega
 have N8:=λva vs vf vd vl vo o cc=>CI hE.hA b t va vs vf vd vl vo o cc i mt hE.hi hE.qz ln;obtain⟨l1,l2,l3,l4,l5,l6,l7,l8⟩:=yh d6 t i;rw [dt] at l1;rw [dC] at l2;rw [eR] at l3;obtain⟨n8,n9,n10,n11,n14,n15⟩:=N3;have P7:¬i.op=12:=λe=>hp (.inl e);have n13:¬i.op=13:=λe=>hp (.inr e);unfold jJ at N8;unfold jJ;intro A F hw dm;refine aF Tryz.func67 λ_=>?_;dsimp only [aa,ag] at dm;obtain⟨⟨cy,ep,ka,eX,vs,vo⟩,hS⟩:=gk.open dm .z;clear dm;dsimp only [iK,aa,ag] at hS;rw [dt,dC,eR] at hS;dsimp only [dQ,fJ,dP,fI,fL,lp] at hS;have hq:=fk hS hw
 repeat' (first|(refine jX λR hR=>?_;simp [ai,ar,hq,h7,n8,n9,n10,n11,P7,n13,n14,n15,DZ,AW.af,aB];try simp (disch:=omega) only [if_pos,if_neg,ai,ar])|(refine hR _ _ ?_;clear hR R)|(refine hK _ _ ?_;clear hK K)|refine nx ?_|refine wn λK hK=>?_|simp only [wS,qK,qJ]|refine wl Tryz.mx qK (by decide +kernel) λK hK=>?_|refine wl Tryz.mx qJ (by decide +kernel) λK hK=>?_|(apply bf.eZ (N8 _ _ _ _ _ _ _ _);(·exact wA);(·exact sA);(·first|exact pA|exact kA);rintro _ _ _ hS hw _;have hS:=lA hS;have hq:=fk hS hw)|(show cM _ _ _ _ _ _;refine nx ?_)|(refine wc rfl (λhc=>?_) (λhc=>?_)<;>(try simp at hc)<;>(try omega))|(refine ib (λhc=>?_) (λhc=>?_)<;>(try omega)<;>(try simp (disch:=omega) only [if_pos,if_neg])))
 refine⟨_,by first|rfl|(simp;rfl)|(simp [hq,AW.af,aB];rfl),?_⟩;apply wv
 (·first|rfl|(simp [dV,fR.zero,aW.v,aW.zero];done)|(simp [dV,fR.zero,aW.v,aW.zero];rfl))
 apply gk.bO;apply fB.nil
 (·exact sA)
 dsimp only [iK];simp only [l1,l2,l3,l4,l5,l6,l7,l8];dsimp only [dQ,fJ,dP,fI,fL,lp]
 (·first|exact nM|exact nZ)
 (·first|exact nM|exact nZ)
 all_goals(first|exact 0|exact undef)
structure ExS (d6:Int->Int->Int->Int) (t:aU) (s:aM) (M:Mm) (i:aZ):Prop where
 hA:yZ d6
 hB:O3 t
 hC:gq s
 hi:b8 i=0
 qz:i.op=3->DJ i.bQ
 vH:i.op≠7/\i.op≠12/\i.op≠13/\i.op≠16/\i.op≠17
 hr:i.op=10\/i.op=11\/i.op=14\/i.op=15\/i.op=8\/i.op=9->DT ({ t with jL:=some (t.Ih i s) }:aU) (t.Ih i s) M
theorem Rb {d6:Int->Int->Int->Int} (hF:FOK) (q:nK) (b pb:Nat) (t:aU) (s:aM) (M:Mm) (i:aZ) (dt:t.jL=some s) (dC:t.dX=none) (eR:t.dO=none) (hE:ExS d6 t s M i) (Bp:CR q t.az) :
 dT Tryz.prog 67 [pv b,pv pb,jJ i] [.h (gk q b t),dG pb M] (λev v=>v=.tuple #[dV (t.mc d6 M i).1,ev]) (λev=>[.h (gk q b (t.mc d6 M i).2.2.1),dG pb (t.mc d6 M i).2.2.2,.h (fB ev (t.mc d6 M i).2.1)]):=by
 have hB:=hE.hB;have ln:0<=t.pc/\t.pc<2^40:=hB.pc;have vH:=hE.vH;obtain⟨_,_,_,VR,_⟩:=mB hE.hi;unfold aU.mc;rw [if_neg vH.1,dt];dsimp only;by_cases hp:i.op=10\/i.op=11\/i.op=14\/i.op=15\/i.op=8\/i.op=9
 . rw [if_pos hp];have Og:=uL hF (hE.hr hp) q b pb rfl dC eR Bp;have hrq:=λvs vf vd vc vl vo n=>Gu b n t.d vs vf vd vc vl vo i s hE.hC hp hE.hi;have er:zC t.d i s=t.Ih i s:=rfl;rw [er] at hrq;generalize t.Ih i s=s2 at Og hrq ⊢;rcases hp with h|h|h|h|h|h
   all_goals
    obtain⟨op,i1,i2,i3,bQ⟩:=i;dsimp only at h;subst h;unfold jJ at hrq;unfold jJ;intro A F hw dm;refine aF Tryz.func67 λ_=>?_;dsimp only [aa,ag] at dm;obtain⟨⟨cy,ep,ka,eX,vs,vo⟩,hS⟩:=gk.open dm .z;clear dm;dsimp only [iK,aa,ag] at hS;rw [dt,dC,eR] at hS;dsimp only [dQ,fJ,dP,fI,fL,lp] at hS;have hq:=fk hS hw
    all_goals(revert hq hS hw;refine Wu (J4 (Tg.mk (n:=37) (λx1 x2 x3 x4 x5 x6=>hrq x1 x2 x3 x4 x5 x6 cy)) (Tg.mk (n:=35) @Og) (od qK) (od qJ)) (J2 @dV.eq_1 bz) ?_<;>unhygienic intros)
    refine⟨_,by first|rfl|(simp;rfl)|(simp [hq,AW.af,aB];rfl),?_⟩;apply wv
    (·first|rfl|(simp [dV,fR.zero,aW.v,aW.zero];done)|(simp [dV,fR.zero,aW.v,aW.zero];rfl))
    apply ah.bO
    (·exact sA)
    (·first|exact nM|exact nZ)
 rw [if_neg hp];have mt:(0<=i.op/\i.op<=6)\/i.op=17:=by omega
 have N8:=λva vs vf vd vl vo o cc=>CI hE.hA b t va vs vf vd vl vo o cc i mt hE.hi hE.qz ln;obtain⟨l1,l2,l3,l4,l5,l6,l7,l8⟩:=yh d6 t i;have l9:(t.je d6 i).d.jj=t.d.jj:=NR d6 t i;rw [dt] at l1;rw [dC] at l2;rw [eR] at l3;obtain⟨n7,P7,n13,n16,n17⟩:=vH;have n8:¬i.op=8:=by omega
 have n9:¬i.op=9:=by omega
 have n10:¬i.op=10:=by omega
 have n11:¬i.op=11:=by omega
 have n14:¬i.op=14:=by omega
 have n15:¬i.op=15:=by omega
 unfold jJ at N8;unfold jJ;intro A F hw dm;refine aF Tryz.func67 λ_=>?_;dsimp only [aa,ag] at dm;obtain⟨⟨cy,ep,ka,eX,vs,vo⟩,hS⟩:=gk.open dm .z;clear dm;dsimp only [iK,aa,ag] at hS;rw [dt,dC,eR] at hS;dsimp only [dQ,fJ,dP,fI,fL,lp] at hS;have hq:=fk hS hw
 repeat' (first|(refine jX λR hR=>?_;simp [ai,ar,hq,n7,n8,n9,n10,n11,P7,n13,n14,n15,n16,l9,AW.af,aB];try simp (disch:=omega) only [if_pos,if_neg,ai,ar])|(refine hR _ _ ?_;clear hR R)|(refine hK _ _ ?_;clear hK K)|refine nx ?_|refine wn λK hK=>?_|simp only [wS,qK,qJ]|refine wl Tryz.mx qK (by decide +kernel) λK hK=>?_|refine wl Tryz.mx qJ (by decide +kernel) λK hK=>?_|(apply bf.eZ (N8 _ _ _ _ _ _ _ _);(·exact wA);(·exact sA);(·first|exact pA|exact kA);rintro _ _ _ hS hw _;have hS:=lA hS;have hq:=fk hS hw)|(show cM _ _ _ _ _ _;refine nx ?_)|(refine wc rfl (λhc=>?_) (λhc=>?_)<;>(try simp at hc)<;>(try omega))|(refine ib (λhc=>?_) (λhc=>?_)<;>(try omega)<;>(try simp (disch:=omega) only [if_pos,if_neg])))
 refine⟨_,by first|rfl|(simp;rfl)|(simp [hq,AW.af,aB];rfl),?_⟩;apply wv
 (·first|rfl|(simp [dV,fR.zero,aW.v,aW.zero];done)|(simp [dV,fR.zero,aW.v,aW.zero];rfl))
 apply gk.bO;apply fB.nil
 (·exact sA)
 dsimp only [iK];simp only [l1,l2,l3,l4,l5,l6,l7,l8];dsimp only [dQ,fJ,dP,fI,fL,lp]
 (·first|exact nM|exact nZ)
 (·first|exact nM|exact nZ)
 all_goals(first|exact 0|exact undef)
end
end Go.Stx
