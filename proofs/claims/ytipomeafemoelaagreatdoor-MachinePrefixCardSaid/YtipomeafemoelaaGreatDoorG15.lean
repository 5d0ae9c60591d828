/-
 What the thread's step needs, from what always holds of it.
-/
import Derived.Test.YtipomeafemoelaaGreatDoorG14
set_option linter.unusedVariables false
set_option linter.unusedSimpArgs false
set_option linter.unusedSectionVars false
set_option maxRecDepth 20000
set_option maxHeartbeats 4000000
namespace Go.Stx
open Go Go.Proofs
attribute [local irreducible] cM aS ax aH cJ de TW bA
section
variable [Gl]
variable [AF]
variable {d6:Int->Int->Int->Int} {c:bq} {nt k:Nat} {M:Mm} {t:aU} {s:aM}
theorem F4 (hc:db c) (hk:k<2^24) (h:nI c nt k t) (vG:t.ga.length+t.eF.length<=4*k):O3 t:=by
 have h1:=h.ga;have h2:=h.sn;have h3:=h.vC;have h4:=h.pc;have h5:=(gy h.qu).1;have h6:=h.tN;have h7:=h.xy;have h8:=h.mV;exact⟨by rw [h.cf];exact hc,⟨h4.1,by omega⟩,by omega,by omega,by omega,by omega,by omega,h.qu⟩
theorem GL (h:nI c nt k t) (hd:t.done=false):b8 t.fV=0:=by
 obtain⟨ki,hi⟩:=h.fV hd;rw [hi];exact(uh h.qu ki).2.2
theorem BO (hc:db c) (hk:k+1<2^24) (hM:lR c nt k M) (h:nI c nt (k+1) t) (hd:t.done=false) (hA:Adv c k t s):DT t s M:=by
 have h1:=h.ga;have h2:=h.sn;obtain⟨Tj,UJ⟩:=Fc hc (by omega) hA.ok hM;have EN:=FR hA.ok hA.Bq M;have EM:=hc.nb;have e1:=Tj.b.Bq;have e2:=hc.av;exact⟨F4 hc hk h (by omega),hA.ok.U9 hc hM,Tj.b.TE hc,GL h hd,h.lt hd,λe=>(hA.Me e).1,λe=>⟨(hA.D4 e).1,(hA.D4 e).2.2.1⟩,λx hx=>by have:=EN x hx;omega,by omega⟩
theorem Mf (hc:db c) (hk:k+1<2^24) (hM:lR c nt k M) (h:nI c nt (k+1) t) (hcn:t.jj<=k) (hd:t.done=false)
 (hs:t.aT=true->(t.fV.op=12\/t.fV.op=13)/\bS t.az t.pc.toNat=none) (hw:t.aT=false->t.pc=t.bJ/\t.fV.op=7/\bS t.az t.pc.toNat=none) :
 DT t.tg (gO (fG t.cf t.id)).2 M:=by
 have QH:=h.xA;have hcn0:=h.tN;have h1:nI c nt (k+1) t.tg:=⟨h.cf,h.nn,h.xA,h.qu,h.pc,h.dn,h.ga,by show ([]:List iq).length<=_;simp,h.vC,h.yj,by show 0<=t.jj+1/\t.jj+1<=((k+1:Nat):Int);omega,h.xy,h.mV⟩;have hn:(fG t.cf t.id).mR 0=true:=rfl;have hb:qw c k (gO (fG t.cf t.id)).2:=FO (by rw [h.cf];exact CC hc k t.id (by omega));have dv:(gO (fG t.cf t.id)).2.aA=1:=by unfold gO;rw [if_pos hn]
 have hbf:∀x∈(gO (fG t.cf t.id)).2.av,0<=x/\x<c.nb:=by
  unfold gO;rw [if_pos hn];intro x hx;cases hx
 refine BO hc hk hM h1 hd ⟨hb,dv,hbf,hs,λe=>?_⟩;obtain⟨w1,w2,w3⟩:=hw e;have ln:=h.pc;have ho:=pE h hd;show dS t.az t.bJ.toNat=7/\bS t.az t.bJ.toNat=none/\0<=t.bJ/\_;rw [<-w1];exact⟨ho.trans w2,w3,ln.1,.inl ⟨w1,w2⟩⟩
theorem Fz (hc:db c) (h:nI c nt k t):∀x∈t.gh,x.1<2^62:=λx hx=>by
 have h1:=Ds hc (h.yj x hx);have h2:=hc.nb;omega
theorem RF (h:nI c nt k t) (hd:t.done=false) (qz:E5 t.az):t.fV.op=3->DJ t.fV.bQ:=by
 obtain⟨ki,hi⟩:=h.fV hd;rw [hi];exact qz _ (List.getElem_mem ki)
theorem Rc (hA:yZ d6) (hc:db c) (hk:k+1<2^24) (hM:lR c nt k M) (h:lu c nt k t) (hd:t.done=false) (ha:t.jL=none) (hf:t.dX=none) (qz:E5 t.az):ExN d6 t M t.fV:=by
 have qU:=h.co;have h':=qU.mono (Nat.le_succ k);obtain⟨hs,gV⟩:=h.MC ha;obtain⟨ki,hi⟩:=qU.fV hd;have nh:=(uh qU.qu ki).1 gV;rw [<-hi] at nh;have htr:=qU.xy;have h1:=qU.ga;have h2:=qU.sn;refine⟨hA,F4 hc (by omega) qU (by omega),GL qU hd,RF qU hd qz,nh,λh7=>?_,λ_ mt=>?_,Fz hc qU⟩;exact Mf hc hk hM (t:={ t with bJ:=t.pc,lG:=t.dw,iJ:=t.iJ+1 }) ⟨h'.cf,h'.nn,h'.xA,h'.qu,h'.pc,h'.dn,h'.ga,h'.sn,h'.vC,h'.yj,h'.tN,by dsimp only;omega,h'.mV⟩ qU.tN.2 hd (λe=>(by rw [show t.aT=true from e] at hs;cases hs)) (λ_=>⟨rfl,h7,gV⟩);exact Mf hc hk hM (t:={ t with aT:=true,fp:=0 }) ⟨h'.cf,h'.nn,h'.xA,h'.qu,h'.pc,h'.dn,h'.ga,h'.sn,h'.vC,h'.yj,h'.tN,h'.xy,by dsimp only;omega⟩ qU.tN.2 hd (λ_=>⟨mt,gV⟩) (λe=>(by cases e))
theorem UT (hc:db c) (hk:k+1<2^24) (hM:lR c nt k M) (h:lu c nt k t) (hd:t.done=false) (ha:t.jL=some s) (hs:t.aT=true):DT (t.ZD t.fV s) (t.uH t.fV s) M:=by
 have qU:=h.co;have h':=qU.mono (Nat.le_succ k);have hak:=qU.mV;obtain⟨g1,_,_,g2⟩:=h.Fh s ha;rw [if_pos (.inr hs)] at g1;exact BO hc hk hM (t:=t.ZD t.fV s) ⟨h'.cf,h'.nn,h'.xA,h'.qu,h'.pc,h'.dn,h'.ga,h'.sn,h'.vC,h'.yj,h'.tN,h'.xy,by show 0<=t.fp+1/\t.fp+1<=((k+1:Nat):Int);omega⟩ hd ⟨RA hc g1.ok _,Rz g1.st _,FS g1.Bq _,g1.Me,λe=>(by rw [show t.aT=false from e] at hs;cases hs)⟩
theorem Rs (hc:db c) (hk:k+1<2^24) (hM:lR c nt k M) (h:lu c nt k t) (hd:t.done=false) (ha:t.jL=some s) (hb:s.kN=true):DT t s M:=by
 obtain⟨g1,_,_,g2⟩:=h.Fh s ha;rw [if_pos (.inl hb)] at g1;exact BO hc hk hM (h.co.mono (Nat.le_succ k)) hd g1
theorem Ra (hA:yZ d6) (hc:db c) (hk:k+1<2^24) (hM:lR c nt k M) (h:lu c nt k t) (hd:t.done=false) (ha:t.jL=some s) (hb:s.kN=false) (hs:t.aT=false) (qz:E5 t.az):ExS d6 t s M t.fV:=by
 have qU:=h.co;have h':=qU.mono (Nat.le_succ k);have h1:=qU.ga;have h2:=qU.sn;obtain⟨g1,_,_,g2⟩:=h.Fh s ha;rw [if_neg (by rw [hb,hs];simp)] at g1;have hR:=g1;obtain⟨w1,w2,w3,w4⟩:=hR.D4;obtain⟨ki,hi⟩:=qU.fV hd;have nh:=(uh qU.qu ki).2.1 _ w4;rw [<-hi] at nh;refine⟨hA,F4 hc (by omega) qU (by omega),hR.ok.b.TE hc,GL qU hd,RF qU hd qz,nh,λmt=>?_⟩;refine BO hc hk hM (t:={ t with jL:=some (t.Ih t.fV s) }) ⟨h'.cf,h'.nn,h'.xA,h'.qu,h'.pc,h'.dn,h'.ga,h'.sn,h'.vC,h'.yj,h'.tN,h'.xy,h'.mV⟩ hd ⟨PC hc hR.ok _,Fk hR.st _,Fl hR.Bq _,λe=>(by have e2:t.aT=true:=e;rw [hR.Me] at e2;cases e2),λ_=>⟨w1,w2,w3,?_⟩⟩;by_cases h89:t.fV.op=8\/t.fV.op=9;right;right;unfold aU.Ih;rw [if_neg (by omega),if_neg (by omega),if_neg (by omega),if_neg (by omega)];split;exact BH hR.st hb (.inl rfl);rw [if_pos (by omega)];exact BH hR.st hb (.inr rfl);exact .inr (.inl ⟨w4,by show t.fV.op=10\/t.fV.op=11\/t.fV.op=14\/t.fV.op=15;omega⟩)
theorem Ah (i:aZ) (v:Int):(t.DN i v).az=t.az:=by unfold aU.DN;split<;>rfl
theorem zY:(t.pm s).az=t.az:=by unfold aU.pm;split<;>rfl
theorem Q8:(t.bO s).az=t.az:=by
 unfold aU.bO;split;split;exact zY;exact zY;exact zY
theorem OF (i:aZ):(t.sX i s).az=t.az:=by
 unfold aU.sX;split;split;unfold aU.me;dsimp only;split;exact Ah _ _;split<;>rfl;exact Q8;split;rfl
 (repeat' split)<;>rfl
theorem uK:(t.wE M s).2.2.1.az=t.az:=by
 unfold aU.wE;dsimp only;split;rfl;exact OF _
theorem sU:t.kF.az=t.az:=by unfold aU.kF;split<;>rfl
theorem E8 (f:jr):(t.vu M f).2.1.az=t.az:=by
 unfold aU.vu;split;dsimp only;split;exact sU;exact sU;exact sU
theorem Kz (i:aZ):(t.plain M i).2.2.1.az=t.az:=by
 unfold aU.plain;dsimp only;split;split<;>rfl;split;exact uK;split;exact Ah _ _;exact Ah _ _
theorem FM (i:aZ):(t.mc d6 M i).2.2.1.az=t.az:=by
 unfold aU.mc;split;exact uK;split;split;exact uK;exact(yh d6 t i).2.2.2.1;split;exact Kz i;split;exact E8 _;exact(yh d6 t i).2.2.2.1
theorem Ke:(t.tT d6 M).2.2.1.az=t.az:=by
 unfold aU.tT;split;exact E8 _;split;split;exact uK;split;exact uK;exact FM _;exact FM _
theorem Fd:(t.step d6 M).2.2.2.1.az=t.az:=by
 unfold aU.step;split;rfl;exact Ke
theorem Qc (d6:Int->Int->Int->Int) (t:aU) (i:aZ):(t.je d6 i).id=t.id:=by
 unfold aU.je;split;rfl;split;rfl;split;rfl;split<;>rfl
theorem Hv (i:aZ) (v:Int):(t.DN i v).id=t.id:=by unfold aU.DN;split<;>rfl
theorem G0:(t.pm s).id=t.id:=by unfold aU.pm;split<;>rfl
theorem WA:(t.bO s).id=t.id:=by
 unfold aU.bO;split;split;exact G0;exact G0;exact G0
theorem TL (i:aZ):(t.sX i s).id=t.id:=by
 unfold aU.sX;split;split;unfold aU.me;dsimp only;split;exact Hv _ _;split<;>rfl;exact WA;split;rfl
 (repeat' split)<;>rfl
theorem DL:(t.wE M s).2.2.1.id=t.id:=by
 unfold aU.wE;dsimp only;split;rfl;exact TL _
theorem xp:t.kF.id=t.id:=by unfold aU.kF;split<;>rfl
theorem Ma (f:jr):(t.vu M f).2.1.id=t.id:=by
 unfold aU.vu;split;dsimp only;split;exact xp;exact xp;exact xp
theorem PK (i:aZ):(t.plain M i).2.2.1.id=t.id:=by
 unfold aU.plain;dsimp only;split;split<;>rfl;split;exact DL;split;exact Hv _ _;exact Hv _ _
theorem MX (i:aZ):(t.mc d6 M i).2.2.1.id=t.id:=by
 unfold aU.mc;split;exact DL;split;split;exact DL;exact(Qc d6 t i);split;exact PK i;split;exact Ma _;exact(Qc d6 t i)
theorem Sn (hc:db c) (hk:k<2^40) (hM:lR c nt k M) (h:lu c nt k t):lu c nt (k+1) (t.step d6 M).2.2.2.1/\lR c nt (k+1) (t.step d6 M).2.2.2.2:=by
 unfold aU.step;split;exact⟨h.mono (by omega),hM.mono (by omega)⟩;rename_i hd;exact Pt hc hk hM h (by simpa using hd)
end
section
abbrev xS:List (Nat×Nat):=[(0,0),(1,0),(2,0),(3,0),(4,0),(5,0),(6,0),(7,0),(8,0),(9,0),(10,0),(11,2),(12,3)]
open T2
variable [Gl]
variable [AF]
theorem bf.Fw {P:Program} {f:FuncId} {args:List Value} {q:nK} {b:Nat} {t:aU} {pC post:List It} {φ:Value->Prop} (h:bf P f args pC φ (λ_=>.h (gk q b t)::post)) :
 dT P f args pC (λ(_:UW) v=>φ v) (λx=>.at b (rD t.d ⟨fJ t.jL x.cy,x.vs,fI t.dX x.ep,lp t.dO x.ka,.slice (some ⟨q.bb,q.off,none⟩) t.az.length q.ef,pv x.eX,x.vo⟩)::.h (dQ t.jL x.cy)::.h (ir x.vs t.eF)::.h (dP t.dX x.ep)::.h (fL t.dO x.ka) ::
  .at q.bb q.o::.h (oO x.eX t.cf t.gh)::.h (ir x.vo t.ga)::post):=λA F hw hS=>by
 refine bD (h A F hw hS) ?_;rintro v A' ⟨h1,h2⟩ _ _;obtain⟨x,hx⟩:=gk.open h2 .z;exact⟨x,h1,hx⟩
theorem dT.Fw {P:Program} {f:FuncId} {args:List Value} {q:nK} {b:Nat} {t:aU} {pC:List It} {post:Value->List It} {φ:Value->Value->Prop} (h:dT P f args pC φ (λev=>.h (gk q b t)::post ev)) :
 dT P f args pC (λ(y:Value×UW) v=>φ y.1 v) (λy=>.at b (rD t.d ⟨fJ t.jL y.2.cy,y.2.vs,fI t.dX y.2.ep,lp t.dO y.2.ka,.slice (some ⟨q.bb,q.off,none⟩) t.az.length q.ef,pv y.2.eX,y.2.vo⟩)::.h (dQ t.jL y.2.cy)::.h (ir y.2.vs t.eF)::.h (dP t.dX y.2.ep)::.h (fL t.dO y.2.ka) ::
  .at q.bb q.o::.h (oO y.2.eX t.cf t.gh)::.h (ir y.2.vo t.ga)::post y.1):=λA F hw hS=>by
 refine bD (h A F hw hS) ?_;rintro v A' ⟨ev,h1,h2⟩ _ _;obtain⟨x,hx⟩:=gk.open h2 .z;exact⟨(ev,x),h1,hx⟩
theorem H3 {d6:Int->Int->Int->Int} (hA:yZ d6) (hF:FOK) {c:bq} {nt k:Nat} (hc:db c) (hk:k+1<2^24) (q:nK) (b pb:Nat) (t:aU) (M:Mm) (hM:lR c nt k M) (h:lu c nt k t) (qz:E5 t.az) (Bp:CR q t.az) (hd:t.done=false) :
 dT Tryz.prog 41 [pv b,pv pb] [.h (gk q b t),dG pb M] (λev v=>v=.tuple #[dV (t.step d6 M).2.1,ev,.bool true]) (λev=>[.h (gk q b (t.step d6 M).2.2.2.1),dG pb (t.step d6 M).2.2.2.2,.h (fB ev (t.step d6 M).2.2.1)]):=by
 have hB:O3 t:=by
  have h1:=h.co.ga;have h2:=h.co.sn;exact F4 hc (by omega) h.co (by omega)
 have ln:0<=t.pc/\t.pc<2^40:=hB.pc;have bL:=h.co.lt hd;have qd:t.pc.toNat<t.az.length:=by omega
 obtain⟨I7,MO⟩:=Bp.at qd;have Wb:t.az[t.pc.toNat]=t.fV:=by
  unfold aU.fV aU.uo;rw [List.getD_eq_getElem?_getD,List.getElem?_eq_getElem qd];rfl
 rw [Wb] at MO;have Bn:q.off+t.d.pc.toNat*5+5<=q.bP.length:=I7;have C8:(q.bP.drop (q.off+t.d.pc.toNat*5)).take 5=au t.fV:=MO;have ML:0<=t.d.pc:=ln.1;have EL:t.d.pc<(t.az.length:Int):=bL;have Lu:t.d.done=false:=hd;have hi:=GL h.co hd;unfold aU.step;rw [if_neg (by rw [hd];decide)];dsimp only;unfold aU.tT;cases dC:t.dX with
 | some f=>
   obtain⟨dt,_,g3,g4,g5,g6,g7⟩:=h.fen f dC;have QH:=h.co.xA;have CT:=E9 q b pb t M f dt dC hB (by omega) (Fz hc h.co) (λl e=>by
    obtain⟨h1,h2,_⟩:=h.dr l e;exact⟨h1,by omega⟩)
   dsimp only;have I2:(t.vu M f).2.1.d.id=t.d.id:=Ma f;generalize t.vu M f=r at CT I2 ⊢;have eR:=dC;intro A F hw dm;refine aF Tryz.func41 λ_=>?_;dsimp only [aa,ag] at dm;obtain⟨⟨cy,ep,ka,eX,vs,vo⟩,hS⟩:=gk.open dm .z;clear dm;dsimp only [iK,aa,ag] at hS;rw [dt,dC] at hS;dsimp only [dQ,fJ,dP,fI,fL,lp] at hS;have hq:=fk hS hw;have k7:∀k l,(b=A.next+k+l)=False:=λk l=>by simp [hq,Nat.add_assoc]
   have tL:∀k l,(q.bb=A.next+k+l)=False:=λk l=>by simp [hq,Nat.add_assoc]
   revert hq hS hw;(repeat first|revert hc|revert R|revert K);refine Wu (J2 (Tg.mk (n:=35) (bf.Fw CT)) (od xS)) (Bs k7 tL I2 Lu ML EL Bn C8 @dV.eq_1 bz) ?_<;>(unhygienic intros);refine⟨_,by first|rfl|(simp;rfl)|(simp [hq,AW.af,aB];rfl),?_⟩;apply wv
   (·first|rfl|(simp [dV,fR.zero,aW.v,aW.zero];done)|(simp [dV,fR.zero,aW.v,aW.zero];rfl))
   apply gk.bO;apply fB.nil
   (·exact sA)
   dsimp only [iK]
   (·first|exact nM|exact nZ)
   (·first|exact nM|exact nZ)
 | none=>
   have eR:=h.P4 dC;dsimp only;cases dt:t.jL with
   | none=>
     dsimp only;have pG:=Rd hF q b pb t M t.fV dt dC eR (Rc hA hc hk hM h hd dt dC qz) Bp;have I2:(t.mc d6 M t.fV).2.2.1.d.id=t.d.id:=MX _;generalize t.mc d6 M t.fV=r at pG I2 ⊢;generalize t.fV=i at *;obtain⟨op,i1,i2,i3,bQ⟩:=i;unfold jJ at pG;intro A F hw dm;refine aF Tryz.func41 λ_=>?_;dsimp only [aa,ag] at dm;obtain⟨⟨cy,ep,ka,eX,vs,vo⟩,hS⟩:=gk.open dm .z;clear dm;dsimp only [iK,aa,ag] at hS;rw [dt,dC,eR] at hS;dsimp only [dQ,fJ,dP,fI,fL,lp] at hS;have hq:=fk hS hw;have k7:∀k l,(b=A.next+k+l)=False:=λk l=>by simp [hq,Nat.add_assoc]
     have tL:∀k l,(q.bb=A.next+k+l)=False:=λk l=>by simp [hq,Nat.add_assoc]
     revert hq hS hw;(repeat first|clear hq|clear hS|clear hw|revert hc|revert R|revert K);refine Wu (J2 (Tg.mk (n:=35) (dT.Fw pG)) (od xS)) (HE k7 tL I2 Lu ML EL Bn C8 @au.eq_1 @dV.eq_1 bz) ?_<;>(unhygienic intros);refine⟨_,by first|rfl|(simp;rfl)|(simp [hq,AW.af,aB];rfl),?_⟩;apply wv
     (·first|rfl|(simp [dV,fR.zero,aW.v,aW.zero];done)|(simp [dV,fR.zero,aW.v,aW.zero];rfl))
     apply gk.bO
     . skip
       (·exact sA)
     dsimp only [iK]
     (·first|exact nM|exact nZ)
     (·first|exact nM|exact nZ)
   | some s=>
     dsimp only;by_cases hb:s.kN=true
     . rw [if_pos hb];have Og:=uL hF (Rs hc hk hM h hd dt hb) q b pb dt dC eR Bp;have tK:=λn=>tw n s;simp only [hb] at tK;have I2:(t.wE M s).2.2.1.d.id=t.d.id:=DL;generalize t.wE M s=r at Og I2 ⊢;intro A F hw dm;refine aF Tryz.func41 λ_=>?_;dsimp only [aa,ag] at dm;obtain⟨⟨cy,ep,ka,eX,vs,vo⟩,hS⟩:=gk.open dm .z;clear dm;dsimp only [iK,aa,ag] at hS;rw [dt,dC,eR] at hS;dsimp only [dQ,fJ,dP,fI,fL,lp] at hS;have hq:=fk hS hw;have k7:∀k l,(b=A.next+k+l)=False:=λk l=>by simp [hq,Nat.add_assoc]
       have tL:∀k l,(q.bb=A.next+k+l)=False:=λk l=>by simp [hq,Nat.add_assoc]
       revert hq hS hw;(repeat first|clear hq|clear hS|clear hw|revert hc|revert R|revert K);refine Wu (J3 (Tg.mk (n:=10) (λ{A L K k}=>eY (A:=A) (L:=L) (K:=K) (k:=k) (tK cy))) (Tg.mk (n:=35) (dT.Fw Og)) (od xS)) (Bs k7 tL I2 Lu ML EL Bn C8 @dV.eq_1 bz) ?_<;>(unhygienic intros);refine⟨_,by first|rfl|(simp;rfl)|(simp [hq,AW.af,aB];rfl),?_⟩;apply wv
       (·first|rfl|(simp [dV,fR.zero,aW.v,aW.zero];done)|(simp [dV,fR.zero,aW.v,aW.zero];rfl))
       apply gk.bO
       . skip
         (·exact sA)
       dsimp only [iK]
       (·first|exact nM|exact nZ)
       (·first|exact nM|exact nZ)
     rw [if_neg hb];have k7:s.kN=false:=by simpa using hb
     have tK:=λn=>tw n s;simp only [k7] at tK;by_cases hs:t.aT=true
     . rw [if_pos hs];have ym:t.d.aT=true:=hs;have Og:=uL hF (t:={ t with fp:=t.fp+1,jL:=some (t.uH t.fV s) }) (UT hc hk hM h hd dt hs) q b pb rfl dC eR Bp;obtain⟨g1,_,_,g2⟩:=h.Fh s dt;rw [if_pos (.inr hs)] at g1;have Tf:=λvs vf vd vc vl vo n=>Ns b n t.d vs vf vd vc vl vo t.fV s (g1.ok.b.TE hc) (g1.Me hs).1 hi hB.mV;have ea:LX t.d t.fV s=t.uH t.fV s:=rfl;rw [ea] at Tf;have I2:(({ t with fp:=t.fp+1,jL:=some (t.uH t.fV s) }:aU).wE M (t.uH t.fV s)).2.2.1.d.id=t.d.id:=DL;rw [show t.ZD t.fV s={ t with fp:=t.fp+1,jL:=some (t.uH t.fV s) } from rfl];generalize ({ t with fp:=t.fp+1,jL:=some (t.uH t.fV s) }:aU).wE M (t.uH t.fV s)=r at Og I2 ⊢;generalize t.uH t.fV s=s2 at Og Tf ⊢;generalize t.fV=i at *;obtain⟨op,i1,i2,i3,bQ⟩:=i;unfold jJ at Tf;intro A F hw dm;refine aF Tryz.func41 λ_=>?_;dsimp only [aa,ag] at dm;obtain⟨⟨cy,ep,ka,eX,vs,vo⟩,hS⟩:=gk.open dm .z;clear dm;dsimp only [iK,aa,ag] at hS
       rw [dt,dC,eR] at hS;dsimp only [dQ,fJ,dP,fI,fL,lp] at hS;have hq:=fk hS hw;have k7:∀k l,(b=A.next+k+l)=False:=λk l=>by simp [hq,Nat.add_assoc]
       have tL:∀k l,(q.bb=A.next+k+l)=False:=λk l=>by simp [hq,Nat.add_assoc]
       revert hq hS hw;(repeat first|clear hq|clear hS|clear hw|revert hc|revert R|revert K);refine Wu (J4 (Tg.mk (n:=10) (λ{A L K k}=>eY (A:=A) (L:=L) (K:=K) (k:=k) (tK cy))) (Tg.mk (n:=37) (λx1 x2 x3 x4 x5 x6=>Tf x1 x2 x3 x4 x5 x6 cy)) (Tg.mk (n:=35) (dT.Fw Og)) (od xS)) (tA k7 tL I2 Lu ym ML EL Bn C8 @au.eq_1 @dV.eq_1 bz) ?_<;>(unhygienic intros);refine⟨_,by first|rfl|(simp;rfl)|(simp [hq,AW.af,aB];rfl),?_⟩;apply wv
       (·first|rfl|(simp [dV,fR.zero,aW.v,aW.zero];done)|(simp [dV,fR.zero,aW.v,aW.zero];rfl))
       apply gk.bO
       . skip
         (·exact sA)
       dsimp only [iK]
       (·first|exact nM|exact nZ)
       (·first|exact nM|exact nZ)
     rw [if_neg hs];have NZ:t.aT=false:=by simpa using hs
     have ym:t.d.aT=false:=NZ;have pG:=Rb hF q b pb t s M t.fV dt dC eR (Ra hA hc hk hM h hd dt k7 NZ qz) Bp;have I2:(t.mc d6 M t.fV).2.2.1.d.id=t.d.id:=MX _;generalize t.mc d6 M t.fV=r at pG I2 ⊢;generalize t.fV=i at *;obtain⟨op,i1,i2,i3,bQ⟩:=i;unfold jJ at pG;intro A F hw dm;refine aF Tryz.func41 λ_=>?_;dsimp only [aa,ag] at dm;obtain⟨⟨cy,ep,ka,eX,vs,vo⟩,hS⟩:=gk.open dm .z;clear dm;dsimp only [iK,aa,ag] at hS;rw [dt,dC,eR] at hS;dsimp only [dQ,fJ,dP,fI,fL,lp] at hS;have hq:=fk hS hw;have k7:∀k l,(b=A.next+k+l)=False:=λk l=>by simp [hq,Nat.add_assoc]
     have tL:∀k l,(q.bb=A.next+k+l)=False:=λk l=>by simp [hq,Nat.add_assoc]
     revert hq hS hw;(repeat first|clear hq|clear hS|clear hw|revert hc|revert R|revert K);refine Wu (J3 (Tg.mk (n:=10) (λ{A L K k}=>eY (A:=A) (L:=L) (K:=K) (k:=k) (tK cy))) (Tg.mk (n:=35) (dT.Fw pG)) (od xS)) (tA k7 tL I2 Lu ym ML EL Bn C8 @au.eq_1 @dV.eq_1 bz) ?_<;>(unhygienic intros);refine⟨_,by first|rfl|(simp;rfl)|(simp [hq,AW.af,aB];rfl),?_⟩;apply wv
     (·first|rfl|(simp [dV,fR.zero,aW.v,aW.zero];done)|(simp [dV,fR.zero,aW.v,aW.zero];rfl))
     apply gk.bO
     . skip
       (·exact sA)
     dsimp only [iK]
     (·first|exact nM|exact nZ)
     (·first|exact nM|exact nZ)
end
section
abbrev Sz:List (Nat×Nat):=[(0,0),(1,0),(2,0),(3,0),(4,0),(5,0),(6,0),(7,0),(8,0),(9,0),(10,0),(11,2),(12,3)]
abbrev Bw:List (Nat×Nat):=[(0,0),(1,0),(2,0),(3,0),(5,0),(4,2),(6,2),(7,0),(8,2),(9,0)]
open T7
variable [Gl]
theorem Ha (v:Value) (n:Nat) (cs:List Value) (A:AW) (h:dM A 5 v n cs) (h1:cs.all Value.oneCell'=true) (hl:n<2^30) :
 ax Tryz.prog 60 [v] A (λu A'=>dB A.next A' 5 u n cs/\A.le A'/\A'.Wf):=by
 refine aF Tryz.func60 λhw=>?_;have hv:(∃c,v=.slice none n c)\/∃q c,v=.slice (some q) n c:=by
  rcases h with ⟨⟨o,rfl⟩,rfl,rfl⟩|⟨p,c,bP,own,u,rfl,_⟩
  . cases o with
    | none=>exact .inl ⟨_,rfl⟩
    | some q=>exact .inr ⟨_,_,rfl⟩
  exact .inr ⟨_,_,rfl⟩
 rcases hv with ⟨c,rfl⟩|⟨q,c,rfl⟩;obtain⟨rfl,rfl,rfl⟩:n=0/\c=0/\cs=[]:=by
  rcases h with ⟨⟨o,h0⟩,h2,h3⟩|⟨p,c',bP,own,u,h0,_⟩;injection h0 with h4 h5 h6;exact⟨h2,h6,h3⟩;cases h0
 revert hw;refine W cd cd ?_<;>(unhygienic intros);exact⟨_,rfl,.inl ⟨rfl,rfl,rfl⟩,AW.le.refl A,hw⟩;have h2:=dM.le (AW.le.alloc A (.cells [] true 5)) hw h;have gB:dB A.next (A.alloc (.cells [] true 5)) 5 (.slice (some ⟨A.next,0,none⟩) 0 0) 0 []:=.inr ⟨⟨A.next,0,none⟩,0,[],rfl,Nat.le_refl _,rfl,Nat.le_refl _,by simp,by simp,by simp⟩;obtain⟨v',A',e1,e2,e3,e4,e5,e6,e7⟩:=jm (P:=Tryz.prog) (size:=5) (t:=75) Tryz.underlying75 Tryz.info74 Tryz.zero74 rfl rfl (by omega) gB (dM.ng h2) h1 (by omega) (by simp;omega) (by simp) (hw.alloc _);refine W cd (J1 e1) ?_<;>intros;refine⟨_,rfl,?_,?_,e4⟩
 simpa using e2
 exact e3 A (Nat.le_refl _) (AW.le.alloc A _)
theorem G9 (v:Value) (n:Nat) (cs:List Value) (A:AW) (h:dM A 3 v n cs) (h1:cs.all Value.oneCell'=true) (hl:n<2^30) :
 ax Tryz.prog 68 [v] A (λu A'=>dB A.next A' 3 u n cs/\A.le A'/\A'.Wf):=by
 refine aF Tryz.func68 λhw=>?_;have hv:(∃c,v=.slice none n c)\/∃q c,v=.slice (some q) n c:=by
  rcases h with ⟨⟨o,rfl⟩,rfl,rfl⟩|⟨p,c,bP,own,u,rfl,_⟩
  . cases o with
    | none=>exact .inl ⟨_,rfl⟩
    | some q=>exact .inr ⟨_,_,rfl⟩
  exact .inr ⟨_,_,rfl⟩
 rcases hv with ⟨c,rfl⟩|⟨q,c,rfl⟩;obtain⟨rfl,rfl,rfl⟩:n=0/\c=0/\cs=[]:=by
  rcases h with ⟨⟨o,h0⟩,h2,h3⟩|⟨p,c',bP,own,u,h0,_⟩;injection h0 with h4 h5 h6;exact⟨h2,h6,h3⟩;cases h0
 revert hw;refine W cd cd ?_<;>(unhygienic intros);exact⟨_,rfl,.inl ⟨rfl,rfl,rfl⟩,AW.le.refl A,hw⟩;have h2:=dM.le (AW.le.alloc A (.cells [] true 3)) hw h;have gB:dB A.next (A.alloc (.cells [] true 3)) 3 (.slice (some ⟨A.next,0,none⟩) 0 0) 0 []:=.inr ⟨⟨A.next,0,none⟩,0,[],rfl,Nat.le_refl _,rfl,Nat.le_refl _,by simp,by simp,by simp⟩;obtain⟨v',A',e1,e2,e3,e4,e5,e6,e7⟩:=jm (P:=Tryz.prog) (size:=3) (t:=117) Tryz.underlying117 Tryz.info159 Tryz.zero159 rfl rfl (by omega) gB (dM.ng h2) h1 (by omega) (by simp;omega) (by simp) (hw.alloc _);refine W cd (J1 e1) ?_<;>intros;refine⟨_,rfl,?_,?_,e4⟩
 simpa using e2
 exact e3 A (Nat.le_refl _) (AW.le.alloc A _)
def BZ (b:Nat) (t:aU) (f:UW) (vc:Value):List It:=[.at b (rD t.d ⟨fJ t.jL f.cy,f.vs,fI t.dX f.ep,lp t.dO f.ka,vc,pv f.eX,f.vo⟩),.h (dQ t.jL f.cy),.h (ir f.vs t.eF),.h (dP t.dX f.ep),.h (fL t.dO f.ka),
 .h (lS vc t.az),.h (oO f.eX t.cf t.gh),.h (ir f.vo t.ga)]
def rF (b:Nat) (t:aU):HP:=pG λf:UW×Value=>aE (BZ b t f.1 f.2)
theorem rF.open {A:AW} {L K:List It} {b:Nat} {t:aU} (h:ah A L) (hp:ay L (.h (rF b t)) K):∃f:UW×Value,ah A (BZ b t f.1 f.2++K):=i9 h hp
theorem rF.dA {A:AW} {L K:List It} {b:Nat} {t:aU} {f:UW} {vc:Value} (h:ah A L) (e:aP L (BZ b t f vc) K):ah A (.h (rF b t)::K):=gN (f,vc) h e
theorem rF.bO {A:AW} {L K G K2:List It} {b:Nat} {t:aU} {cy ep ka eX:Nat} {vs vo vc:Value} (h:ah A L) (e:aP L (BZ b t ⟨cy,ep,ka,eX,vs,vo⟩ vc) K) (e2:aP K G K2):ah A (.h (rF b t)::G):=ah.bO (rF.dA h e) (.s .z e2)
theorem rF.toQ {A:AW} {L K:List It} {b:Nat} {t:aU} (h:ah A L) (hp:ay L (.h (rF b t)) K) (hl:0<t.az.length):∃q,CR q t.az/\ah A (.h (gk q b t)::K):=by
 obtain⟨⟨⟨cy,ep,ka,eX,vs,vo⟩,vc⟩,h1⟩:=rF.open h hp;dsimp only [BZ,aa,ag] at h1;obtain⟨q,rfl,h2,h3⟩:=Rj h1 (.s (.s (.s (.s (.s .z))))) hl;refine⟨q,h2,gk.dA (cy:=cy) (ep:=ep) (ka:=ka) (eX:=eX) (vs:=vs) (vo:=vo) h3 ?_⟩;unfold iK;dsimp only
 (·first|exact nM|exact nZ)
theorem gk.toP {A:AW} {L K:List It} {q:nK} {b:Nat} {t:aU} (h:ah A L) (hp:ay L (.h (gk q b t)) K) (hR:CR q t.az):ah A (.h (rF b t)::K):=by
 obtain⟨⟨cy,ep,ka,eX,vs,vo⟩,h1⟩:=gk.open h hp;dsimp only [iK,aa,ag] at h1;have h2:=OA hR h1 (.s (.s (.s (.s (.s .z)))));refine rF.dA (f:=⟨cy,ep,ka,eX,vs,vo⟩) (vc:=.slice (some ⟨q.bb,q.off,none⟩) t.az.length q.ef) h2 ?_;unfold BZ;dsimp only
 (·first|exact nM|exact nZ)
def Vc (d:r8):Value:=.agg (.int .i64 d.pc::(d.dw.cells++[.int .i64 d.kC,.bool d.done])).toArray
theorem H5 (b:Nat) (t:aU) (M:Mm) (pb:Nat) (hd:t.done=true):bf Tryz.prog 41 [pv b,pv pb] [.h (rF b t)] (λv=>v=.tuple #[dV fR.zero,.slice none 0 0,.bool false]) (λ_=>[.h (rF b t)]):=by
 intro A F hw dm;refine aF Tryz.func41 λ_=>?_;dsimp only [aa,ag] at dm;obtain⟨⟨⟨cy,ep,ka,eX,vs,vo⟩,vc⟩,hS⟩:=rF.open dm .z;clear dm;dsimp only [BZ,aa,ag] at hS;have hq:=fm hS hw;have Lu:t.d.done=true:=hd;revert hq hS hw;refine W (J1 (od Sz)) (J2 Lu bz) ?_<;>(unhygienic intros);refine⟨_,by first|rfl|(simp;rfl)|(simp [hq,AW.af,aB];rfl),by first|rfl|(simp [dV,fR.zero,aW.v,aW.zero];done),?_⟩;apply rF.bO
 (·exact sA)
 unfold BZ;dsimp only
 (·first|exact nM|exact nZ)
 (·first|exact nM|exact nZ)
theorem SL (l:List aZ):(l.flatMap au).all Value.oneCell'=true:=by
 rw [List.all_eq_true];intro v hv;obtain⟨x,_,hx⟩:=List.mem_flatMap.1 hv;simp only [au,List.mem_cons,List.not_mem_nil,or_false] at hx;rcases hx with rfl|rfl|rfl|rfl|rfl<;>rfl
theorem KT (c:bq) {A:AW} {L:List It} {k:Value->AW->Prop} (hw:A.Wf) (hS:ah A L) (hk:∀n A',ah A' (.h (oO n c [])::L)->A'.Wf->A.le A'->k (pv n) A'):ax Tryz.prog 61 [c.v] A k:=by
 refine aF Tryz.func61 λ_=>?_;obtain⟨lf,fi,kH,c0,c1,c2,c3,jB,kw,kI,kD,jk,lx⟩:=c;simp only [bq.v,bq.cells];revert hS hw;refine W cd (J1 bz) ?_<;>(unhygienic intros);refine⟨_,by first|rfl|(simp;rfl),?_⟩;have w1:=hw.alloc (.cells [.int .i64 lf,.int .i64 fi,.int .i64 kH,.int .i64 c0,.int .i64 c1,.int .i64 c2,.int .i64 c3,.int .i64 jB,.int .i64 kw,.int .i64 kI,.int .i64 kD,.int .i64 jk,.bool lx] true 1);have h1:ah _ L:=bk.alloc hS hw (.cells [.int .i64 lf,.int .i64 fi,.int .i64 kH,.int .i64 c0,.int .i64 c1,.int .i64 c2,.int .i64 c3,.int .i64 jB,.int .i64 kw,.int .i64 kI,.int .i64 kD,.int .i64 jk,.bool lx] true 1) |>.right;refine hk (A.next+1) _ ?_ (w1.alloc _) ((AW.le.alloc A _).trans (AW.le.alloc _ _));refine oO.dA (v:=.slice none 0 0) (L:=.h (Sc (.slice none 0 0) [])::.at (A.next+1) (Qf ⟨lf,fi,kH,c0,c1,c2,c3,jB,kw,kI,kD,jk,lx⟩ (.slice none 0 0))::L) ?_ (.s (.s .z) (.s .z .z));exact cY.nil (bk.alloc h1 w1 _)
theorem Ph (b:Nat) (d:r8) (va vs vf vd vl vo:Value) (o:Option Addr) (n c:Nat) (pc:Int) (A:AW) (hg:A.bg b=some (rD d ⟨va,vs,vf,vd,.slice o n c,vl,vo⟩)) :
 ax Tryz.prog 62 [pv b,.int .i64 pc] A (λu A'=>A'=A.set b (some (rD { d with pc:=pc,done:=decide (pc=n) } ⟨va,vs,vf,vd,.slice o n c,vl,vo⟩))):=by
 refine aF Tryz.func62 λ_=>?_;refine W cd (J2 hg bz) ?_<;>intros;exact⟨_,rfl,AW.set_set⟩
theorem ah.Tu {A:AW} {L:List It} (h:ah A L):ah A (.h eC::L):=by
 unfold ah at *;show bk A (eC*aE L);rw [gL];exact h
theorem ah.Zz {A:AW} {x y:It} {L:List It} (h:ah A (x::y::L)):ah A (x::L):=by
 have h2:bk A (y.hp*(x.hp*aE L)):=bk.dK h (by show x.hp*(y.hp*aE L)=_;ac_rfl);exact h2.right
theorem ID (hF:FOK) {c:bq} (hc:db c) (id n:Int) (QH:0<=id/\id<n/\n<=16) (v:Value) (p:List aZ) (hp:(cD p).2=0) {A:AW} {L:List It} {k:Value->AW->Prop} (hw:A.Wf) (hS:ah A L) (h:jS A v p)
 (hk:∀b A',ah A' (.h (rF b (qa c id n p))::L)->A'.Wf->A.le A'->k (.tuple #[pv b,.int .i64 0]) A'):ax Tryz.prog 40 [c.v,.int .i64 id,.int .i64 n,v] A k:=by
 refine aF Tryz.func40 λ_=>?_;have hl:p.length<=64:=(gy hp).1;obtain⟨o,cc,rfl,_⟩:=h.bE;have I8:=ql c hc;have ln:=λO=>pW hF (.slice o p.length cc) p (A.alloc O) (dM.le (AW.le.alloc A O) hw h);have Xm:=λ{A:AW} {L:List It} {k:Value->AW->Prop}=>KT c (A:=A) (L:=L) (k:=k);generalize N2:cD p=pp at hp ln;obtain⟨p1,p2⟩:=pp;dsimp only at hp;subst hp;unfold oB at ln;have a1:¬n<1:=by omega
 have a2:¬16<n:=by omega
 have a3:¬id<0:=by omega
 have a4:¬n<=id:=by omega
 obtain⟨lf,fi,kH,c0,c1,c2,c3,jB,kw,kI,kD,jk,lx⟩:=c;simp only [bq.v,bq.cells] at I8 Xm ⊢;revert hS hw;(repeat first|revert hc|revert R|revert K);refine W (J3 (od Bw) @I8 @ln) (J5 a1 a2 a3 a4 bz) ?_<;>(unhygienic intros);have w1:=hw.alloc (.cells [.int .i64 lf,.int .i64 fi,.int .i64 kH,.int .i64 c0,.int .i64 c1,.int .i64 c2,.int .i64 c3,.int .i64 jB,.int .i64 kw,.int .i64 kI,.int .i64 kD,.int .i64 jk,.bool lx] true 1);have h1:ah _ (.at A.next _::L):=bk.alloc hS hw (.cells [.int .i64 lf,.int .i64 fi,.int .i64 kH,.int .i64 c0,.int .i64 c1,.int .i64 c2,.int .i64 c3,.int .i64 jB,.int .i64 kw,.int .i64 kI,.int .i64 kD,.int .i64 jk,.bool lx] true 1);refine bD (Ha _ _ _ _ (dM.le (AW.le.alloc A _) hw h) (SL p) (by omega)) ?_;rintro u A4 ⟨ho4,mL,pF⟩ _ _
 first|refine⟨mL,?_⟩|skip
 have h4:ah A4 (.h (lS u p)::.at A.next _::L):=cY.gA h1 w1 mL ho4;obtain⟨o4,c4,rfl,_⟩:=ho4.is.bE;have hg4:=h4.g 1 rfl;revert hS hw;(repeat first|clear hS|clear hw|revert hc|revert R|revert K);refine W (J1 (od Bw)) (J2 hg4 bz) ?_<;>(unhygienic intros);refine Xm pF h4 ?_;intro n5 A5 h5 AE I7
 first|refine⟨I7,?_⟩|skip
 revert hS hw;(repeat first|clear hS|clear hw|revert hc|revert R|revert K);refine W (J1 (od Bw)) (J1 bz) ?_<;>(unhygienic intros);refine bD (Ph A5.next ⟨0,.zero,0,false,0,⟨lf,fi,kH,c0,c1,c2,c3,jB,kw,kI,kD,jk,lx⟩,id,n,0,.zero,0,false,0⟩ (.pointer none) (.slice none 0 0) (.pointer none) (.pointer none) (pv n5) (.slice none 0 0) o4 p.length c4 0 _ (AW.bM _ _)) ?_;rintro u A6 rfl _ _
 first|refine⟨AW.le.refl _,?_⟩|skip
 revert hS hw;(repeat first|clear hS|clear hw|revert hc|revert R|revert K);refine W (J1 (od Bw)) (J1 bz) ?_<;>(unhygienic intros);refine⟨.tuple #[pv A5.next,.int .i64 0],by simp [bm,aK,aN],?_⟩
 have h6:ah ((A5.alloc (rD ⟨0,.zero,0,false,0,⟨lf,fi,kH,c0,c1,c2,c3,jB,kw,kI,kD,jk,lx⟩,id,n,0,.zero,0,false,0⟩ ⟨.pointer none,.slice none 0 0,.pointer none,.pointer none,.slice o4 p.length c4,pv n5,.slice none 0 0⟩)).set A5.next (some (rD ⟨0,.zero,0,false,0,⟨lf,fi,kH,c0,c1,c2,c3,jB,kw,kI,kD,jk,lx⟩,id,n,0,.zero,0,decide ((0:Int)=p.length),0⟩ ⟨.pointer none,.slice none 0 0,.pointer none,.pointer none,.slice o4 p.length c4,pv n5,.slice none 0 0⟩))) (.at A5.next (rD ⟨0,.zero,0,false,0,⟨lf,fi,kH,c0,c1,c2,c3,jB,kw,kI,kD,jk,lx⟩,id,n,0,.zero,0,decide ((0:Int)=p.length),0⟩ ⟨.pointer none,.slice none 0 0,.pointer none,.pointer none,.slice o4 p.length c4,pv n5,.slice none 0 0⟩)::.h (oO n5 ⟨lf,fi,kH,c0,c1,c2,c3,jB,kw,kI,kD,jk,lx⟩ [])::.h (lS (.slice o4 p.length c4) p)::.at A.next (.cells [.int .i64 lf,.int .i64 fi,.int .i64 kH,.int .i64 c0,.int .i64 c1,.int .i64 c2,.int .i64 c3,.int .i64 jB,.int .i64 kw,.int .i64 kI,.int .i64 kD,.int .i64 jk,.bool lx] true 1)::L):=
  bk.set (bk.alloc h5 AE _) _
 refine hk A5.next _ ?_ ((AE.alloc _).set _ (by simp)) (((AW.le.alloc A _).trans mL).trans (I7.trans (AW.le.km A5 _ _)));have h7:=ah.Tu (ah.Tu (ah.Tu (ah.Vu (ah.Vu h6))));have e:decide ((0:Int)=p.length)=decide (p.length=0):=by
  by_cases e:p.length=0;simp [e];rw [decide_eq_false e,decide_eq_false (by omega)]
 rw [e] at h7;have h8:=rF.dA (b:=A5.next) (t:=qa ⟨lf,fi,kH,c0,c1,c2,c3,jB,kw,kI,kD,jk,lx⟩ id n p) (f:=⟨0,0,0,n5,.slice none 0 0,.slice none 0 0⟩) (vc:=.slice o4 p.length c4) (K:=.at A.next (.cells [.int .i64 lf,.int .i64 fi,.int .i64 kH,.int .i64 c0,.int .i64 c1,.int .i64 c2,.int .i64 c3,.int .i64 jB,.int .i64 kw,.int .i64 kI,.int .i64 kD,.int .i64 jk,.bool lx] true 1)::L) h7 (by
  show aP _ [.at A5.next (rD ⟨0,.zero,0,false,0,⟨lf,fi,kH,c0,c1,c2,c3,jB,kw,kI,kD,jk,lx⟩,id,n,0,.zero,0,decide (p.length=0),0⟩ ⟨.pointer none,.slice none 0 0,.pointer none,.pointer none,.slice o4 p.length c4,pv n5,.slice none 0 0⟩),.h eC,.h (ir (.slice none 0 0) []),.h eC,.h eC,.h (lS (.slice o4 p.length c4) p),.h (oO n5 _ []),.h (ir (.slice none 0 0) [])] _
  first|exact pA|exact kA)
 have h9:=ah.Zz h8;rw [<-e] at h9;exact h9
theorem dT.ev0 {P:Program} {f:FuncId} {args:List Value} {pC:List It} {x y:Value} {a1 a2:It} (h:dT P f args pC (λev v=>v=.tuple #[x,ev,y]) (λev=>[a1,a2,.h (fB ev [])])) :
 dT P f args pC (λ(z:Option Addr×Nat) v=>v=.tuple #[x,.slice z.1 0 z.2,y]) (λ_=>[a1,a2]):=λA F hw hS=>by
 refine bD (h A F hw hS) ?_;rintro v A' ⟨ev,rfl,h2⟩ _ _;obtain⟨q,hq,h3⟩:=fB.open h2 (.s (.s .z));have MJ:q=[]:=List.map_eq_nil_iff.1 hq;subst MJ;dsimp only [Dk,aa,ag] at h3;obtain⟨o,c,rfl,_⟩:=dM.bE (ah.jQ h3 .z);refine⟨(o,c),rfl,?_⟩;exact h3.tail.tail
end
section
abbrev Bv:List (Nat×Nat):=[(0,0),(1,0),(2,0),(3,0),(4,0),(5,0),(6,0),(7,0),(8,0)]
open T7
variable [Gl]
variable [AF]
theorem Sk {d6:Int->Int->Int->Int} (hA:yZ d6) (hF:FOK) {c:bq} {nt k:Nat} (hc:db c) (hk:k+1<2^24) (b pb:Nat) (t:aU) (M:Mm) (hM:lR c nt k M) (h:lu c nt k t) (qz:E5 t.az) (hd:t.done=false) :
 dT Tryz.prog 41 [pv b,pv pb] [.h (rF b t),dG pb M] (λev v=>v=.tuple #[dV (t.step d6 M).2.1,ev,.bool true]) (λev=>[.h (rF b (t.step d6 M).2.2.2.1),dG pb (t.step d6 M).2.2.2.2,.h (fB ev (t.step d6 M).2.2.1)]):=by
 intro A F hw hS;have bL:=h.co.lt hd;have ln:=h.co.pc;obtain⟨q,hR,kL⟩:=rF.toQ hS .z (by omega);refine bD (H3 hA hF hc hk q b pb t M hM h qz hR hd A F hw kL) ?_;rintro v A' ⟨ev,h1,h2⟩ _ _;exact⟨ev,h1,gk.toP h2 .z (by rw [Fd];exact hR)⟩
theorem No (b:Nat) (d:r8) (w:RL) (l:List iq) (hl:l.length<2^30) {A:AW} {L K:List It} {k:Value->AW->Prop} (hw:A.Wf) (hS:ah A L) (hp:aP L [.at b (rD d w),.h (ir w.vo l)] K)
 (hk:∀o c A',ah A' (.h (ir (.slice o l.length c) l)::L)->A'.Wf->A.le A'->k (.slice o l.length c) A'):ax Tryz.prog 45 [pv b] A k:=by
 have kL:ah A (.at b (rD d w)::.h (ir w.vo l)::K):=by
  unfold ah at hS ⊢;rw [hp.aE] at hS;refine bk.dK hS ?_;show (pt b (rD d w)*(ir w.vo l*eC))*aE K=pt b (rD d w)*(ir w.vo l*aE K);rw [du]
  ac_rfl
 have hq:=kL.eD hw;dsimp only [aa,ag,aR,bj,bN,eE] at hq;have GN:dM A 3 w.vo l.length (oJ l):=ah.jQ kL (.s .z);refine aF Tryz.func45 λ_=>?_
 repeat' (first|(refine jX λR hR=>?_;simp [ai,ar,hq,AW.af,aB];try simp (disch:=omega) only [if_pos,if_neg,ai,ar])|(refine hR _ _ ?_;clear hR R)|(refine hK _ _ ?_;clear hK K)|refine nx ?_|refine wn λK hK=>?_|simp only [wS]|(show cM _ _ _ _ _ _;refine nx ?_)|(refine wc rfl (λhc=>?_) (λhc=>?_)<;>(try simp at hc)<;>(try omega))|(refine ib (λhc=>?_) (λhc=>?_)<;>(try omega)<;>(try simp (disch:=omega) only [if_pos,if_neg])))
 refine bD (G9 _ _ _ _ GN (Mo l) hl) ?_;rintro u A4 ⟨ho,eJ,pF⟩ _ _;obtain⟨o,c,rfl,_⟩:=ho.is.bE
 first|refine⟨eJ,?_⟩|skip
 revert hq hS hw;(repeat first|clear hq|clear hS|clear hw|revert hc|revert R|revert K);refine W cd (J1 bz) ?_<;>(unhygienic intros);refine⟨_,by first|rfl|(simp;rfl),?_⟩;exact hk o c A4 (cY.gA hS hw eJ ho) pF eJ
theorem Iv:∀(l:List iq) (j:Nat) (hj:j<l.length),((oJ l).drop (j*3)).take 3=(l[j]).cells
 | x::l,0,_=>by simp [oJ,iq.cells]
 | x::l,j+1,h=>by
   have:=Iv l j (by simpa using h);simp only [List.getElem_cons_succ];rw [<-this];have e:(j+1)*3=3+j*3:=(by omega);rw [e,<-List.drop_drop];rfl
theorem PU {A:AW} {v:Value} {l:List iq} (h:dM A 3 v l.length (oJ l)) {i:Nat} (hi:i<l.length) :
 ∃p c bP own,v=.slice (some p) l.length c/\A.bg p.block=some (.cells bP own 3)/\p.off+i*3+3<=bP.length/\(bP.drop (p.off+i*3)).take 3=[.int .i64 l[i].pc,.int .i64 l[i].gu,.int .u64 l[i].val]:=by
 rcases h with ⟨_,h0,_⟩|⟨p,c,bP,own,u,e1,e2,e3,e4,e5,e6⟩;omega;subst e4;refine⟨p,c,bP,own,e1,e3,by omega,?_⟩;have:=Iv l i hi;rw [e6,List.drop_take,List.drop_drop,List.take_take,Nat.min_eq_left (by omega)] at this;exact this
theorem Eu (va vb:Value) (l:List iq) (A:AW) (ha:dM A 3 va l.length (oJ l)) (hb:dM A 3 vb l.length (oJ l)) (hl:l.length<2^30) :
 ax Tryz.prog 47 [va,vb] A (λv A'=>v=.bool true/\A.le A'):=by
 refine aF Tryz.func47 λhw=>?_;obtain⟨oa,ca,rfl,_⟩:=ha.bE;obtain⟨ob,cb,rfl,_⟩:=hb.bE;revert hw;refine W (J1 (od Bv)) (J1 @AW.af) ?_<;>(unhygienic intros);refine cW (λk fr A'=>A.le A'/\A'.Wf/\∃i:Nat,k=l.length-i/\i<=l.length/\fr 0=.slice oa l.length ca/\fr 1=.slice ob l.length cb/\fr 5=.int .i64 i) l.length ?_ ?_;refine⟨AW.le.refl A,hw,0,by simp,by simp,rfl,rfl,rfl⟩;rintro k fr A' ⟨eJ,i8,i,rfl,hi,h0,h1,h5⟩;by_cases bL:i<l.length
 . obtain⟨x1,c1,r1,w1,q1,q2,q3,q4⟩:=PU (dM.le eJ hw ha) bL;obtain⟨x2,c2,r2,w2,p1,p2,p3,p4⟩:=PU (dM.le eJ hw hb) bL;injection q1 with q1 _ q5;injection p1 with p1 _ p5;subst q1 p1 q5 p5;have fU:=uR (i:=i);refine aO ?_
   repeat' (first|(refine jX λR hR=>?_;simp [ai,ar,h0,h1,h5,q2,q3,q4,p2,p3,p4,bL,fU,AW.af];try simp (disch:=omega) only [if_pos,if_neg,ai,ar])|(refine hR _ _ ?_;clear hR R)|(refine hK _ _ ?_;clear hK K)|refine nx ?_|refine wn λK hK=>?_|simp only [wS,Bv]|refine wl Tryz.mx Bv (by decide +kernel) λK hK=>?_|(show cM _ _ _ _ _ _;refine nx ?_)|(refine wc rfl (λhc=>?_) (λhc=>?_)<;>(try simp at hc)<;>(try omega))|(refine ib (λhc=>?_) (λhc=>?_)<;>(try omega)<;>(try simp (disch:=omega) only [if_pos,if_neg])))
   refine⟨l.length-(i+1),by omega,eJ,i8,i+1,rfl,by omega,?_,?_,?_⟩;simp [h0];simp [h1];simp
 refine aO ?_;revert hw;(repeat first|clear hw|revert hc|revert R|revert K);refine W (J1 (od Bv)) (J4 h0 h1 h5 bL) ?_<;>(unhygienic intros);exact⟨_,by first|rfl|(simp;rfl),rfl,eJ⟩
end
section
variable [Gl]
structure r9 where
 gJ:List aU
 M:Mm
 cG:List fR
 lC:List zd
def r9.pick (d6:Int->Int->Int->Int) (m:r9) (id:Int):r9:=
 if 0<=id then
  match m.gJ[id.toNat]? with
  | none=>m
  | some t=>
    let r:=t.step d6 m.M
    if r.1=true then ⟨m.gJ.set id.toNat r.2.2.2.1,r.2.2.2.2,m.cG++[r.2.1],m.lC++r.2.2.1.map λe=>{ e with bR:=m.cG.length }⟩ else m
 else m
def r9.XA (d6:Int->Int->Int->Int) (m:r9) (id:Int):Bool:=
 if 0<=id then
  match m.gJ[id.toNat]? with
  | none=>false
  | some t=>(t.step d6 m.M).1
 else false
def fR.cells (s:fR):List Value:=[.int .i64 s.am,.int .i64 s.Ir,.int .i64 s.yJ,.int .i64 s.uM.gu,.int .i64 s.uM.cell,.int .i64 s.uM.dJ,.int .u64 s.uM.fA,.int .u64 s.uM.put,.bool s.uM.done]
def tS (l:List fR):List Value:=l.flatMap fR.cells
def mw (v:Value) (l:List fR):HP:=cY 9 v l.length (tS l)
theorem Pp (l:List fR) (o:fR):tS l++o.cells=tS (l++[o]):=by simp [tS]
section
variable {P:Program} {S:AW->Prop} {K:Fr->AW->Prop} {fu:List xu} {a:Fr} {A:AW} {d:Option Tmp} {x y:Operand} {n:Nat} {v:Value} {L K':List It}
theorem Uk {l:List fR} {s:fR} (e1:ia a x=v) (e2:ia a y=.slice (some ⟨n,0,none⟩) 1 1) (hw:A.Wf) (hS:ah A L) (hp:ay L (.h (mw v l)) K') (hn:A.bg n=some (.cells [.int .i64 s.am,.int .i64 s.Ir,.int .i64 s.yJ,.int .i64 s.uM.gu,.int .i64 s.uM.cell,.int .i64 s.uM.dJ,.int .u64 s.uM.fA,.int .u64 s.uM.put,.bool s.uM.done] true 9)) (bG:l.length<2 ^ 30)
 (hs:∀A',ah A' K'->S A')
 (hk:∀o c A',ah A' (.h (mw (.slice o (l.length+1) c) (l++[s]))::K')->A'.Wf->A.next<=A'.next->aS Tryz.prog S K fu (eA a d (.slice o (l.length+1) c)) A') :
 aS Tryz.prog S K (⟨d,.call ⟨.builtin .append,#[x,y],#[39,39]⟩,none,3⟩::fu) a A:=by
 refine ye (P:=Tryz.prog) (size:=9) (m:=l.length) (cs:=tS l) Tryz.underlying39 Tryz.info62 Tryz.zero62 rfl rfl (by omega) (by decide) e1 e2 hw hS hp hn rfl rfl bG hs λo c A' h1 h2 h3=>hk o c A' ?_ h2 h3;have e:mw (.slice o (l.length+1) c) (l++[s])=cY 9 (.slice o (l.length+1) c) (l.length+1) (tS l++s.cells):=by
  unfold mw;rw [<-Pp,List.length_append];rfl
 rw [e];exact h1
theorem Yf {l:List zd} {e:zd} {r w:Value} {K1 K2 K3:List It} (e1:ia a x=v) (e2:ia a y=.slice (some ⟨n,0,none⟩) 1 1) (hw:A.Wf) (hS:ah A L) (hp:ay L (.h (fB v l)) K1) (Bm:ay K1 (.h (ap .i64 r e.reads)) K2) (YB:ay K2 (.h (ap .i64 w e.bK)) K3)
 (hn:A.bg n=some (.cells (uA e r w) true 6)) (bG:l.length<2 ^ 30) (hs:∀A',ah A' K3->S A')
 (hk:∀o c A',ah A' (.h (fB (.slice o (l.length+1) c) (l++[e]))::K3)->A'.Wf->A.next<=A'.next->aS Tryz.prog S K fu (eA a d (.slice o (l.length+1) c)) A') :
 aS Tryz.prog S K (⟨d,.call ⟨.builtin .append,#[x,y],#[40,40]⟩,none,3⟩::fu) a A:=by
 obtain⟨q,hq,h1⟩:=fB.open hS hp;have hl:q.length=l.length:=by rw [<-hq,List.length_map]
 dsimp only [Dk,aa,ag] at h1;have bO:∀o c A',ah A' (.h (cY 6 (.slice o (l.length+1) c) (q.length+1) (eP q++uA e r w))::.h (ee q)::K1)->ah A' (.h (fB (.slice o (l.length+1) c) (l++[e]))::K3):=λo c A' h=>by
  have h2:ah A' (.h (cY 6 (.slice o (l.length+1) c) (q++[(e,r,w)]).length (eP (q++[(e,r,w)])))::.h (ee (q++[(e,r,w)]))::K3):=by
   have e5:eP (q++[(e,r,w)])=eP q++uA e r w:=(by simp [eP]);have e6:ee (q++[(e,r,w)])=ee q*(ap .i64 r e.reads*ap .i64 w e.bK):=by
    rw [AM];show _*((ap .i64 r e.reads*ap .i64 w e.bK)*eC)=_;rw [du]
   rw [e5,e6,List.length_append];refine bk.dK h ?_;show cY 6 _ _ _*(ee q*aE K1)=cY 6 _ _ _*((ee q*(ap .i64 r e.reads*ap .i64 w e.bK))*aE K3);rw [Bm.aE,YB.aE];show cY 6 (.slice o (l.length+1) c) (q.length+1) _*(ee q*(ap .i64 r e.reads*(ap .i64 w e.bK*aE K3)))=_
   ac_rfl
  exact fB.dA (q:=q++[(e,r,w)]) (by rw [List.map_append,hq];rfl) h2 (.s .z (.s .z .z))
 rw [<-hl] at hk bO;have lN:(uA e r w).all Value.oneCell'=true:=by
  have f1:=(ah.qT h1 (.s (.s Bm))).bE;have h9:ah A (.h (ap .i64 r e.reads)::.h (cY 6 v q.length (eP q))::.h (ee q)::K2):=by
   unfold ah at h1 ⊢;refine bk.dK h1 ?_;show cY 6 v _ _*(ee q*aE K1)=ap .i64 r e.reads*(cY 6 v _ _*(ee q*aE K2));rw [Bm.aE];show cY 6 v _ _*(ee q*(ap .i64 r e.reads*aE K2))=_
   ac_rfl
  have f2:=(ah.qT h9 (.s (.s (.s YB)))).bE;obtain⟨o1,c1,e1,_⟩:=f1;obtain⟨o2,c2,e2,_⟩:=f2;rw [e1,e2];rfl
 refine ye (P:=Tryz.prog) (size:=6) (m:=q.length) (cs:=eP q) Tryz.underlying40 Tryz.info92 Tryz.zero92 rfl rfl (by omega) (by decide) e1 e2 hw h1 .z hn rfl lN (by omega) (λA' h=>hs A' ?_) λo c A' h1 h2 h3=>hk o c A' (bO o c A' h1) h2 h3;have h3:ah A' K1:=h.tail;have h4:bk A' (ap .i64 r e.reads*(ap .i64 w e.bK*aE K3)):=by
  unfold ah at h3;rw [Bm.aE,YB.aE] at h3;exact h3
 exact h4.right.right
theorem Ul {l:List zd} {e:zd} {r w:Value} {K3:List It} (e1:ia a x=v) (e2:ia a y=.slice (some ⟨n,0,none⟩) 1 1) (hw:A.Wf) (hS:ah A L) (hp:aP L [.h (fB v l),.h (ap .i64 r e.reads),.h (ap .i64 w e.bK)] K3)
 (hn:A.bg n=some (.cells [.int .i64 e.bR,.int .i64 e.am,.int .i64 e.gu,.int .i64 e.Ni,r,w] true 6)) (bG:l.length<2 ^ 30) (hs:∀A',ah A' K3->S A')
 (hk:∀o c A',ah A' (.h (fB (.slice o (l.length+1) c) (l++[e]))::K3)->A'.Wf->A.next<=A'.next->aS Tryz.prog S K fu (eA a d (.slice o (l.length+1) c)) A') :
 aS Tryz.prog S K (⟨d,.call ⟨.builtin .append,#[x,y],#[40,40]⟩,none,3⟩::fu) a A:=by
 have h1:ah A (.h (fB v l)::.h (ap .i64 r e.reads)::.h (ap .i64 w e.bK)::K3):=by
  unfold ah at hS ⊢;rw [hp.aE] at hS;refine bk.dK hS ?_;show (fB v l*(ap .i64 r e.reads*(ap .i64 w e.bK*eC)))*aE K3=fB v l*(ap .i64 r e.reads*(ap .i64 w e.bK*aE K3));rw [du]
  ac_rfl
 exact Yf e1 e2 hw h1 .z .z .z hn bG hs hk
end
def lc (q:List (Nat×aU)):HP:=q.foldr (λx P=>rF x.1 x.2*P) eC
theorem DS (q r:List (Nat×aU)):lc (q++r)=lc q*lc r:=by
 induction q with
 | nil=>show lc r=eC*lc r;rw [gL]
 | cons y q ih=>
   show rF y.1 y.2*lc (q++r)=(rF y.1 y.2*lc q)*lc r;rw [ih]
   ac_rfl
theorem TR {q:List (Nat×aU)} {i:Nat} (hi:i<q.length):∃R:HP,lc q=rF q[i].1 q[i].2*R/\∀t,lc (q.set i (q[i].1,t))=rF q[i].1 t*R:=by
 refine⟨lc (q.take i)*lc (q.drop (i+1)),?_,λt=>?_⟩;have e:q=q.take i++(q[i]::q.drop (i+1)):=by rw [<-List.drop_eq_getElem_cons hi,List.take_append_drop]
 have h:=congrArg lc e;rw [DS] at h;rw [h];show lc (q.take i)*(rF q[i].1 q[i].2*lc (q.drop (i+1)))=_
 ac_rfl
 have e:q.set i (q[i].1,t)=q.take i++((q[i].1,t)::q.drop (i+1)):=by rw [List.set_eq_take_append_cons_drop,if_pos hi]
 rw [e,DS];show lc (q.take i)*(rF q[i].1 t*lc (q.drop (i+1)))=_
 ac_rfl
structure McF where
 pb:Nat
 vt:Value
 vs:Value
 ve:Value
def P8 (b:Nat) (m:r9) (f:McF) (q:List (Nat×aU)):List It:=[.at b (.cells [pv f.pb,f.vt,f.vs,f.ve] true 1),dG f.pb m.M,.h (mh f.vt (q.map Prod.fst)),.h (lc q),.h (mw f.vs m.cG),.h (fB f.ve m.lC)]
def D2 (b:Nat) (m:r9):HP:=pG λx:McF×{ q:List (Nat×aU) // q.map Prod.snd=m.gJ }=>aE (P8 b m x.1 x.2.1)
section
variable {A:AW} {L K:List It} {b:Nat} {m:r9}
theorem D2.open (h:ah A L) (hp:ay L (.h (D2 b m)) K):∃f q,q.map Prod.snd=m.gJ/\ah A (P8 b m f q++K):=by
 obtain⟨⟨f,q,hq⟩,h⟩:=i9 h hp;exact⟨f,q,hq,h⟩
theorem D2.dA {f:McF} {q:List (Nat×aU)} (hq:q.map Prod.snd=m.gJ) (h:ah A L) (e:aP L (P8 b m f q) K):ah A (.h (D2 b m)::K):=gN (g:=λx:McF×{ q:List (Nat×aU) // q.map Prod.snd=m.gJ }=>P8 b m x.1 x.2.1) (f,⟨q,hq⟩) h e
theorem ah.TZ {q:List (Nat×aU)} {i:Nat} (hi:i<q.length) (h:ah A L) (hp:ay L (.h (lc q)) K):∃R:HP,ah A (.h (rF q[i].1 q[i].2)::.h R::K)/\∀(A':AW) (L' K' K2:List It) (t:aU),ah A' L'->ay L' (.h (rF q[i].1 t)) K'->ay K' (.h R) K2->ah A' (.h (lc (q.set i (q[i].1,t)))::K2):=by
 obtain⟨R,h1,h2⟩:=TR hi;refine⟨R,?_,λA' L' K' K2 t hS e1 e2=>?_⟩;unfold ah at h ⊢;rw [hp.aE] at h;refine h.dK ?_;show lc q*aE K=rF q[i].1 q[i].2*(R*aE K);rw [h1]
 ac_rfl
 unfold ah at hS ⊢;rw [e1.aE,e2.aE] at hS;refine hS.dK ?_;show rF q[i].1 t*(R*aE K2)=lc (q.set i (q[i].1,t))*aE K2;rw [h2]
 ac_rfl
end
end
section
open T7
abbrev tv (c:bq):Prop:=(0<=c.c0/\c.c0<=64)/\(0<=c.c1/\c.c1<=64)/\(0<=c.c2/\c.c2<=64)/\(0<=c.c3/\c.c3<=64)
def j4 (c:bq):Int:=
 if ¬((1<=c.ba/\c.ba<=64)/\(1<=c.ao/\c.ao<=64)) then 50
 else if ¬(tv c/\c.nb<=64/\(0<=c.base/\c.base<=c.ba)/\c.hw<=c.ba-c.base) then 51
 else if ¬((1<=c.reads/\c.reads<=32)/\(1<=c.bK/\c.bK<=32)/\(0<=c.ak/\c.ak<=8)/\(0<=c.av/\c.av<=8)) then 52
 else if ¬(0<=c.aw/\c.aw<=1099511627776) then 53 else 0
def FF (c:bq):Value:=if tv c then .tuple #[.int .i64 c.nb,.int .i64 c.hw,.bool (decide (c.nb<=64))] else .tuple #[.int .i64 0,.int .i64 0,.bool false]
variable [Gl]
theorem d8 (n lo hi:Int) (A:AW):ax Tryz.prog 56 [.int .i64 n,.int .i64 lo,.int .i64 hi] A (λv A'=>v=.bool (decide (lo<=n/\n<=hi))/\A=A'):=by
 refine aF Tryz.func56 λ_=>?_;refine W cd cd (J2 ?_ ?_)<;>intros
 all_goals(simp_all<;>omega)
theorem ig (n lo hi:Int) (A:AW):ax Tryz.prog 73 [.int .i64 n,.int .i64 lo,.int .i64 hi] A (λv A'=>v=.bool (decide (lo<=n/\n<=hi))/\A=A'):=by
 refine aF Tryz.func73 λ_=>?_;refine W cd cd (J2 ?_ ?_)<;>intros
 all_goals(simp_all<;>omega)
theorem Ob (c:bq) (A:AW):ax Tryz.prog 74 [c.v] A (λv A'=>v=FF c/\A=A'):=by
 refine ax.qt (V:=FF c) (by unfold FF;split<;>exact cL.tuple (by simp)) (λhw=>?_) (by kernel_rfl);refine aF Tryz.func74 λ_=>?_;obtain⟨V,hV⟩:∃V,FF c=V:=⟨_,rfl⟩;rw [hV];unfold FF tv bq.nb bq.hw at hV;obtain⟨lf,fi,kH,c0,c1,c2,c3,jB,kw,kI,kD,jk,lx⟩:=c;dsimp only [bq.v,bq.cells] at hV ⊢;revert hw;refine W cd (J1 bz) ?_<;>(unhygienic intros);refine ii 5 ?_;by_cases h0:0<=c0/\c0<=64
 . obtain⟨k0,EG⟩:=h0;by_cases h1:0<=c1/\c1<=64
   . obtain⟨k1,HL⟩:=h1;by_cases h2:0<=c2/\c2<=64
     . obtain⟨k2,KX⟩:=h2;by_cases h3:0<=c3/\c3<=64
       . obtain⟨k3,OQ⟩:=h3;rw [if_pos (by omega)] at hV;subst hV;refine W cd (J9 k0 EG k1 HL k2 KX k3 OQ bz) ?_<;>intros
         all_goals(
          refine⟨_,by first|(simp;done)|(simp;rfl),?_,AW.le.alloc _ _⟩;simp only [Value.tuple.injEq,Array.mk.injEq,List.cons.injEq,Value.int.injEq,Value.bool.injEq,true_and,and_true];rw [Ua,pw2,pw3];simp (disch:=omega) only [ai]
          try simp)
       rw [if_neg (by omega)] at hV;subst hV;by_cases MQ:c3<0
       . refine W cd (J8 k0 EG k1 HL k2 KX MQ bz) ?_<;>intros
         all_goals exact⟨_,by first|(simp;done)|(simp;rfl),rfl,AW.le.alloc _ _⟩
       have Ly:64<c3:=(by omega);refine W cd (J9 k0 EG k1 HL k2 KX MQ Ly bz) ?_<;>intros
       all_goals exact⟨_,by first|(simp;done)|(simp;rfl),rfl,AW.le.alloc _ _⟩
     rw [if_neg (by omega)] at hV;subst hV;by_cases MQ:c2<0
     . refine W cd (J6 k0 EG k1 HL MQ bz) ?_<;>intros
       all_goals exact⟨_,by first|(simp;done)|(simp;rfl),rfl,AW.le.alloc _ _⟩
     have Ly:64<c2:=(by omega);refine W cd (J7 k0 EG k1 HL MQ Ly bz) ?_<;>intros
     all_goals exact⟨_,by first|(simp;done)|(simp;rfl),rfl,AW.le.alloc _ _⟩
   rw [if_neg (by omega)] at hV;subst hV;by_cases MQ:c1<0
   . refine W cd (J4 k0 EG MQ bz) ?_<;>intros
     all_goals exact⟨_,by first|(simp;done)|(simp;rfl),rfl,AW.le.alloc _ _⟩
   have Ly:64<c1:=(by omega);refine W cd (J5 k0 EG MQ Ly bz) ?_<;>intros
   all_goals exact⟨_,by first|(simp;done)|(simp;rfl),rfl,AW.le.alloc _ _⟩
 rw [if_neg (by omega)] at hV;subst hV;by_cases MQ:c0<0
 . refine W cd (J2 MQ bz) ?_<;>intros
   all_goals exact⟨_,by first|(simp;done)|(simp;rfl),rfl,AW.le.alloc _ _⟩
 have Ly:64<c0:=by omega
 refine W cd (J3 MQ Ly bz) ?_<;>intros
 all_goals exact⟨_,by first|(simp;done)|(simp;rfl),rfl,AW.le.alloc _ _⟩
theorem ER (c:bq) (A:AW):ax Tryz.prog 55 [c.v] A (λv A'=>v=.int .i64 (j4 c)/\A=A'):=by
 refine ax.qt (V:=.int .i64 (j4 c)) (by simp) (λhw=>?_) (by kernel_rfl);refine aF Tryz.func55 λ_=>?_;have hh:=Ob c;unfold FF at hh;have eN:c.nb=c.c0+c.c1+c.c2+c.c3:=rfl;have eW:c.hw=c.c0+c.c1*2+c.c2*4+c.c3*8:=rfl;have hW:tv c->0<=c.hw/\c.hw<=1000:=λh=>by unfold tv at h;omega
 obtain⟨V,hV⟩:∃V,j4 c=V:=⟨_,rfl⟩;rw [hV];unfold j4 at hV;by_cases q0:tv c
 . rw [if_pos q0] at hh;obtain⟨q1,q2⟩:=hW q0;simp only [show tv c=True from eq_true q0,true_and] at hV;generalize c.nb=nb at *;generalize c.hw=i8 at *;clear eN eW hW q0;obtain⟨lf,fi,kH,c0,c1,c2,c3,jB,kw,kI,kD,jk,lx⟩:=c;dsimp only [bq.v,bq.cells] at hV hh ⊢;refine W (J2 @hh @d8) (J1 bz) (HE ?_ ?_ ?_ ?_ ?_ ?_ ?_ ?_ ?_ ?_ ?_)<;>intros
   all_goals(
    refine⟨_,by first|(simp;done)|(simp;rfl),?_,AW.le.alloc _ _⟩;rw [<-hV];congr 1
    repeat (first|rw [if_pos (by omega)]|rw [if_neg (by omega)])
    first|done|skip)
 rw [if_neg q0] at hh;simp only [show tv c=False from eq_false q0,false_and,not_false_eq_true,if_true] at hV;clear eN eW hW q0;obtain⟨lf,fi,kH,c0,c1,c2,c3,jB,kw,kI,kD,jk,lx⟩:=c;dsimp only [bq.v,bq.cells] at hV hh ⊢;refine W (J2 @hh @d8) (J1 bz) (J3 ?_ ?_ ?_)<;>intros
 all_goals(
  refine⟨_,by first|(simp;done)|(simp;rfl),?_,AW.le.alloc _ _⟩;rw [<-hV];congr 1
  repeat (first|rw [if_pos (by omega)]|rw [if_neg (by omega)])
  first|done|skip)
end
section
open T7
variable [Gl]
set_option maxHeartbeats 8000000 in
theorem zE (c:bq) (A:AW):ax Tryz.prog 54 [c.v] A (λv A'=>v=.int .i64 (j4 c)/\A=A'):=by
 refine ax.qt (V:=.int .i64 (j4 c)) (by simp) (λhw=>?_) (by kernel_rfl);refine aF Tryz.func54 λ_=>?_;obtain⟨V,hV⟩:∃V,j4 c=V:=⟨_,rfl⟩;rw [hV];unfold j4 tv bq.nb bq.hw at hV;obtain⟨lf,fi,kH,c0,c1,c2,c3,jB,kw,kI,kD,jk,lx⟩:=c;dsimp only [bq.v,bq.cells] at hV ⊢;by_cases jg:(1<=lf/\lf<=64)/\(1<=fi/\fi<=64)
 rotate_left
 . rw [if_pos jg] at hV;subst hV;refine W (J1 @ig) (J1 bz) (J2 ?_ ?_)<;>intros
   all_goals first|exact⟨_,by first|(simp;done)|(simp;rfl),rfl,AW.le.alloc _ _⟩|(exfalso;omega)
 rw [if_neg (by omega)] at hV;obtain⟨⟨w1,w2⟩,w3,w4⟩:=jg;revert hw;(repeat first|clear hw|revert hc|revert R|revert K);refine W (J1 @ig) (J5 w1 w2 w3 w4 bz) ?_<;>(unhygienic intros);refine ii 5 ?_;by_cases h0:0<=c0/\c0<=64
 rotate_left
 . rw [if_pos (by omega)] at hV;subst hV;refine W (J1 @ig) (J2 h0 bz) ?_<;>intros
   all_goals first|exact⟨_,by first|(simp;done)|(simp;rfl),rfl,AW.le.alloc _ _⟩|(exfalso;omega)
 obtain⟨k0,EG⟩:=h0;by_cases h1:0<=c1/\c1<=64
 rotate_left
 . rw [if_pos (by omega)] at hV;subst hV;refine W (J1 @ig) (J4 k0 EG h1 bz) ?_<;>intros
   all_goals first|exact⟨_,by first|(simp;done)|(simp;rfl),rfl,AW.le.alloc _ _⟩|(exfalso;omega)
 obtain⟨k1,HL⟩:=h1;by_cases h2:0<=c2/\c2<=64
 rotate_left
 . rw [if_pos (by omega)] at hV;subst hV;refine W (J1 @ig) (J6 k0 EG k1 HL h2 bz) ?_<;>intros
   all_goals first|exact⟨_,by first|(simp;done)|(simp;rfl),rfl,AW.le.alloc _ _⟩|(exfalso;omega)
 obtain⟨k2,KX⟩:=h2;by_cases h3:0<=c3/\c3<=64
 rotate_left
 . rw [if_pos (by omega)] at hV;subst hV;refine W (J1 @ig) (J8 k0 EG k1 HL k2 KX h3 bz) ?_<;>intros
   all_goals first|exact⟨_,by first|(simp;done)|(simp;rfl),rfl,AW.le.alloc _ _⟩|(exfalso;omega)
 obtain⟨k3,OQ⟩:=h3;refine W (J1 @ig) (TS w1 w2 w3 w4 k0 EG k1 HL k2 KX k3 OQ bz @Ua @pw2 @pw3 @pw0) (J9 ?_ ?_ ?_ ?_ ?_ ?_ ?_ ?_ ?_)<;>intros
 all_goals(
  refine⟨_,by first|(simp;done)|(simp;rfl),?_,AW.le.alloc _ _⟩;rw [<-hV];congr 1
  repeat (first|rw [if_pos (by omega)]|rw [if_neg (by omega)])
  first|done|skip)
def BM (c:bq):Int:=if j4 c=0 then c.nb else 0
theorem LR {c:bq} (h:j4 c=0):tv c/\c.nb<=64:=by
 unfold j4 at h;split at h;cases h;split at h;cases h;rename_i h1;rw [Decidable.not_not] at h1;exact⟨h1.1,h1.2.1⟩
theorem Cl (c:bq) (A:AW):ax Tryz.prog 37 [c.v] A (λv A'=>v=.int .i64 (BM c)/\A=A'):=by
 refine ax.qt (V:=.int .i64 (BM c)) (by simp) (λhw=>?_) (by kernel_rfl);refine aF Tryz.func37 λ_=>?_;have BE:=zE c;unfold BM;by_cases h0:j4 c=0
 . rw [h0] at BE;rw [if_pos h0];have hc:=(LR h0).1;unfold tv at hc;unfold bq.nb;obtain⟨lf,fi,kH,c0,c1,c2,c3,jB,kw,kI,kD,jk,lx⟩:=c;dsimp only [bq.v,bq.cells] at BE hc ⊢;obtain⟨⟨k0,EG⟩,⟨k1,HL⟩,⟨k2,KX⟩,k3,OQ⟩:=hc;refine W (J1 @BE) (J1 bz) ?_<;>intros
   all_goals exact⟨_,by first|(simp;done)|(simp;rfl),by first|rfl|(simp (disch:=omega) only [ai]),AW.le.alloc _ _⟩
 rw [if_neg h0];dsimp only [bq.v,bq.cells] at BE ⊢;refine W (J1 @BE) (J2 h0 bz) ?_<;>intros
 all_goals exact⟨_,by first|(simp;done)|(simp;rfl),rfl,AW.le.alloc _ _⟩
end
section
open T7
def kB:List (List aZ)->Nat->Option (Nat×Nat×Int)
 | [],_=>none
 | p::l,t=>if (cD p).2=0 then kB l (t+1) else some (t,(cD p).1,(cD p).2)
def rj (n:Nat):List Int->Nat->Option Nat
 | [],_=>none
 | x::l,k=>if x<0\/(n:Int)<=x then some k else rj n l (k+1)
def iZ (c:bq) (ni:Nat) (ps:List (List aZ)) (pk:List Int):Nat×Nat×Int:=
 if j4 c≠0 then (0,0,j4 c)
 else if ps.length<1\/16<ps.length then (0,0,54)
 else if ¬(ni:Int)=c.ba then (0,0,55)
 else match kB ps 0 with
 | some r=>r
 | none=>if 65536<pk.length then (0,0,56) else match rj ps.length pk 0 with
   | some k=>(0,k,56)
   | none=>(0,0,0)
def rV (x:Nat×Nat×Int):Value:=.tuple #[.int .i64 x.1,.int .i64 x.2.1,.int .i64 x.2.2]
variable [Gl]
def gs (A:AW) (v:Value) (ps:List (List aZ)):Prop:=∃us:List Value,dM A 1 v ps.length us/\∀i (hi:i<ps.length),∃u,us[i]? = some u/\jS A u ps[i]
theorem gs.le {A B:AW} (hl:A.le B) (hw:A.Wf) {v:Value} {ps:List (List aZ)} (h:gs A v ps):gs B v ps:=by
 obtain⟨us,h1,h2⟩:=h;exact⟨us,h1.le hl hw,λi hi=>let ⟨u,h3,h4⟩:=h2 i hi;⟨u,h3,h4.le hl hw⟩⟩
theorem gs.bE {A:AW} {v:Value} {ls:List (List aZ)} (h:gs A v ls):∃o c,v=.slice o ls.length c/\ls.length<=c:=by
 obtain⟨us,h1,_⟩:=h;exact h1.bE
theorem gs.at {A:AW} {o:Option Addr} {n c:Nat} {ls:List (List aZ)} (h:gs A (.slice o n c) ls) {i:Nat} (hi:i<ls.length) :
 ∃p bP u,o=some p/\A.bP p.block=some bP/\bP[p.off+i]? = some u/\jS A u ls[i]:=by
 obtain⟨us,h1,h2⟩:=h;obtain⟨u,h3,h4⟩:=h2 i hi;rcases h1 with ⟨_,e,_⟩|⟨p,c',bP,own,q,e1,e2,e3,e4,e5,e6⟩;omega;injection e1 with e1 e7 e8;subst e4;refine⟨p,bP,u,e1,AW.wQ e3,?_,h4⟩;rw [e6,Nat.mul_one,List.getElem?_take_of_lt hi,List.getElem?_drop] at h3;exact h3
def jv (c:bq) (vi vp vk:Value):List Value:=c.cells++[vi,vp,vk]
def HK (c:bq) (vi vp vk:Value):Value:=.agg (jv c vi vp vk).toArray
def tW:List Value:=[.int .i64 0,.int .i64 0,.int .i64 0,.int .i64 0,.int .i64 0,.int .i64 0,.int .i64 0,.int .i64 0,.int .i64 0,.int .i64 0,.int .i64 0,.int .i64 0,.bool false,.slice none 0 0,.slice none 0 0,.slice none 0 0]
set_option maxHeartbeats 8000000 in
theorem Id (hF:FOK) (c:bq) (vi vp vk:Value) (ni ci:Nat) (oi:Option Addr) (ps:List (List aZ)) (pk:List Int) (A:AW) (RY:vi=.slice oi ni ci) (hp:gs A vp ps) (hk:bx A .i64 vk pk) :
 ax Tryz.prog 38 [HK c vi vp vk] A (λu A'=>u=rV (iZ c ni ps pk)/\A=A'):=by
 refine ax.qt (V:=rV (iZ c ni ps pk)) (cL.tuple (by simp)) (λhw=>?_) (by kernel_rfl);refine aF Tryz.func38 λ_=>?_;subst RY;obtain⟨op,cp,rfl,_⟩:=hp.bE;obtain⟨ok,ck,rfl,_⟩:=hk.bE;have kO:=ER c;unfold iZ;generalize j4 c=ce at kO ⊢;obtain⟨lf,fi,kH,c0,c1,c2,c3,jB,kw,kI,kD,jk,lx⟩:=c;unfold HK jv;simp only [bq.v,bq.cells,aa,ag] at kO ⊢;obtain⟨O,hO⟩:∃O,(dH.cells [.int .i64 lf,.int .i64 fi,.int .i64 kH,.int .i64 c0,.int .i64 c1,.int .i64 c2,.int .i64 c3,.int .i64 jB,.int .i64 kw,.int .i64 kI,.int .i64 kD,.int .i64 jk,.bool lx,.slice oi ni ci,.slice op ps.length cp,.slice ok pk.length ck] true 1)=O:=⟨_,rfl⟩;by_cases e0:ce=0
 rotate_left
 . rw [if_pos e0];refine W (J2 @kO @d8) (J2 e0 bz) ?_<;>intros
   all_goals first|exact AW.le.alloc A _|(simp [aL,aQ,bm,aK,aN,rV]<;>exact AW.le.alloc A _)
 subst e0;rw [if_neg (by simp)];by_cases e1:ps.length<1\/16<ps.length
 . rw [if_pos e1];by_cases e2:ps.length<1
   . have e2':ps.length=0:=(by omega);refine W (J2 @kO @d8) (J3 e2 e2' bz) ?_<;>intros
     all_goals first|exact AW.le.alloc A _|(simp [aL,aQ,bm,aK,aN,rV]<;>exact AW.le.alloc A _)
   have e3:16<ps.length:=(by omega);have e4:¬(ps.length:Int)<=16:=(by omega);have e5:1<=(ps.length:Int):=(by omega);refine W (J2 @kO @d8) (J5 e2 e3 e4 e5 bz) ?_<;>intros
   all_goals first|exact AW.le.alloc A _|(simp [aL,aQ,bm,aK,aN,rV]<;>exact AW.le.alloc A _)
 rw [if_neg e1];have e2:¬ps.length<1:=by omega
 have e3:¬16<ps.length:=by omega
 have e4:(ps.length:Int)<=16:=by omega
 have e5:1<=(ps.length:Int):=by omega
 by_cases e6:(ni:Int)=lf
 rotate_left
 . rw [if_pos e6];refine W (J2 @kO @d8) (J6 e2 e3 e4 e5 e6 bz) ?_<;>intros
   all_goals first|exact AW.le.alloc A _|(simp [aL,aQ,bm,aK,aN,rV]<;>exact AW.le.alloc A _)
 subst e6;rw [if_neg (by simp)];obtain⟨Rp,hRp⟩:∃Rp,kB ps 0=Rp:=⟨_,rfl⟩;obtain⟨Rk,hRk⟩:∃Rk,rj ps.length pk 0=Rk:=⟨_,rfl⟩;have hR0:Rp=kB (ps.drop 0) 0:=hRp.symm;have hK0:Rk=rj ps.length (pk.drop 0) 0:=hRk.symm;rw [hRp,hRk];clear hRp hRk;obtain⟨V,hV⟩:∃V,rV (match Rp with
  | some r=>r
  | none=>if 65536<pk.length then (0,0,56) else match Rk with
    | some k=>(0,k,56)
    | none=>(0,0,0))=V:=⟨_,rfl⟩
 rw [hV];revert hw;(repeat first|clear hw|revert hc|revert R|revert K);refine W (J2 @kO @d8) (J5 e2 e3 e4 e5 bz) ?_<;>(unhygienic intros);rw [hO];have zR:A.le (A.alloc O):=AW.le.alloc A O;have hgO:(A.alloc O).bg A.next=some O:=by simp
 have hwO:=hw.alloc O;generalize A.alloc O=A1 at zR hgO hwO ⊢;subst hO;have Uv:=AW.wQ hgO;refine cW (λk fr A'=>A1=A'/\∃i:Nat,k=ps.length-i/\i<=ps.length/\fr 1=.pointer (some ⟨A.next,0,none⟩)/\fr 31=.slice op ps.length cp/\fr 32=.int .i64 ps.length/\fr 33=.int .i64 i/\Rp=kB (ps.drop i) i) ps.length ?_ ?_;exact⟨rfl,0,rfl,Nat.zero_le _,rfl,rfl,rfl,rfl,hR0⟩;rintro k fr A' ⟨rfl,i,rfl,hi,g1,Zq,Zp,Zo,he⟩;by_cases bL:i<ps.length
 . obtain⟨q,bP,u,uq,bI,hcell,hu⟩:=(hp.le zR hw).at bL;subst uq;have fU:=uR (i:=i);have eR:ps.drop i=ps[i]::ps.drop (i+1):=List.drop_eq_getElem_cons bL;rw [eR] at he;unfold kB at he;have cC:=pW hF u ps[i] _ hu;unfold oB at cC;by_cases z:(cD ps[i]).2=0;rw [if_pos z] at he;rw [z] at cC;refine aO ?_;refine W (J2 @cC @d8) (J9 Uv g1 Zq Zp Zo bL fU bI hcell) ?_<;>intros;refine⟨ps.length-(i+1),by omega,rfl,i+1,rfl,by omega,?_,?_,?_,?_,he⟩<;>simp [g1,Zq,Zp,Zo];rw [if_neg z] at he;rw [he] at hV;simp only at hV;refine aO ?_;refine W (J2 @cC @d8) (Bs Uv g1 Zq Zp Zo bL fU bI hcell z) ?_<;>intros
   all_goals first|exact zR|(simp [cg,aL,aQ,bm,aK,aN,<-hV,rV]<;>exact zR)
 have tJ:i=ps.length:=by omega
 subst tJ;rw [List.drop_length] at he;rw [he] at hV;simp only [kB] at hV;by_cases f1:65536<pk.length
 . rw [if_pos f1] at hV;refine aO ?_;refine W (J1 @d8) (J7 Uv g1 Zq Zp Zo bL f1) ?_<;>intros
   all_goals first|exact zR|(simp [cg,aL,aQ,bm,aK,aN,<-hV,rV]<;>exact zR)
 rw [if_neg f1] at hV;refine aO ?_;revert hw;(repeat first|clear hw|revert hc|revert R|revert K);refine W (J1 @d8) (J7 Uv g1 Zq Zp Zo bL f1) ?_<;>(unhygienic intros);refine cW (λk R6 A'=>A1=A'/\∃i:Nat,k=pk.length-i/\i<=pk.length/\R6 1=.pointer (some ⟨A.next,0,none⟩)/\R6 54=.slice ok pk.length ck/\R6 55=.int .i64 pk.length/\R6 56=.int .i64 i/\Rk=rj ps.length (pk.drop i) i) pk.length ?_ ?_;refine⟨rfl,0,rfl,Nat.zero_le _,?_,?_,?_,?_,hK0⟩<;>simp [g1];rintro k R6 A' ⟨rfl,i,rfl,QI,j1,Yk,Yj,Yi,hf⟩;by_cases qd:i<pk.length
 . obtain⟨q,bP,uq,bI,hcell⟩:=(hk.le zR hw).at qd;subst uq;have fU:=uR (i:=i);have eR:pk.drop i=pk[i]::pk.drop (i+1):=List.drop_eq_getElem_cons qd;rw [eR] at hf;unfold rj at hf;generalize pk[i]=x at hcell hf;by_cases b1:x<0
   . rw [if_pos (.inl b1)] at hf;rw [hf] at hV;simp only at hV;refine aO ?_;refine W (J1 @d8) (Bs Uv j1 Yk Yj Yi qd fU bI hcell b1) ?_<;>intros
     all_goals first|exact zR|(simp [cg,aL,aQ,bm,aK,aN,<-hV,rV]<;>exact zR)
   by_cases b2:(ps.length:Int)<=x
   . rw [if_pos (.inr b2)] at hf;rw [hf] at hV;simp only at hV;refine aO ?_;refine W (J1 @d8) (HE Uv j1 Yk Yj Yi qd fU bI hcell b1 b2) ?_<;>intros
     all_goals first|exact zR|(simp [cg,aL,aQ,bm,aK,aN,<-hV,rV]<;>exact zR)
   rw [if_neg (by omega)] at hf;refine aO ?_;refine W (J1 @d8) (HE Uv j1 Yk Yj Yi qd fU bI hcell b1 b2) ?_<;>intros;refine⟨pk.length-(i+1),by omega,rfl,i+1,rfl,by omega,?_,?_,?_,?_,hf⟩<;>simp [j1,Yk,Yj,Yi]
 have hil2:i=pk.length:=by omega
 subst hil2;rw [List.drop_length] at hf;rw [hf] at hV;simp only [rj] at hV;refine aO ?_;refine W (J1 @d8) (J6 Uv j1 Yk Yj Yi qd) ?_<;>intros
 all_goals first|exact zR|(simp [cg,aL,aQ,bm,aK,aN,<-hV,rV]<;>exact zR)
end
end Go.Stx
