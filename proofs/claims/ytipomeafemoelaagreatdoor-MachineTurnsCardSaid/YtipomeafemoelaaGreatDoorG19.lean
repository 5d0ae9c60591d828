/-
 The script of the machine laws.
-/
import Derived.Test.YtipomeafemoelaaGreatDoorG18
import Derived.Laws.FloatArith
set_option linter.unusedVariables false
set_option linter.unusedSimpArgs false
set_option linter.unusedSectionVars false
set_option maxRecDepth 20000
set_option maxHeartbeats 4000000
open BitVec renaming ofInt->ZR
open Go.Extern.MathFloatBits renaming float64bits->kaT,float64frombits->kaS
open Go.FloatKind renaming f64->kal
open Go.IntKind renaming i64->qg,u64->qd
open Go.Oper renaming upon_value->ka2
open Go.Proofs.Tryz renaming prog->qa
open Go.Result renaming andThen->ka7
open Ieee renaming double->kax
open Int renaming le_refl->qE
open List renaming eq_nil_of_length_eq_zero->Zc,getD_eq_getElem?_getD->ql,getElem?_append_left->ZI,getElem?_eq_getElem->qk,getElem?_eq_none->qN,getElem_mem->Zh,length_append->qm,length_map->qD,length_singleton->q8,nodup_nil->kad,take_length->ZY
open Nat renaming add_assoc->qJ,le_refl->qf
namespace Go.Stx
open Go Go.Proofs
attribute [local irreducible] TW bG c8 aY aD aO cK da
section
open T7
variable [Gl]
theorem QY {c:br} (h:cX c):kz c=0:=by
 have h1:=h.be;have h2:=h.ao;have h3:=h.k0;have h4:=h.k1;have h5:=h.k2;have h6:=h.k3;have h7:=h.nb;have h8:=h.base;have h9:=h.fit;have NK:=h.reads;have FX:=h.bP;have HE:=h.an;have E2:=h.ay;have h14:=h.aB;unfold kz;rw [aw (by omega),aw (by unfold vJ;omega),aw (by omega),aw (by omega)]
theorem Ej:∀(l:List (List bm)) (t:Nat),(∀q∈l,(cG q).2=0)->kQ l t=none
 | [],_,_=>rfl
 | p::l,t,h=>by
   unfold kQ;rw [aA (h p (by simp))];exact Ej l (t+1) λq hq=>h q (by simp [hq])
theorem Hs (n:Nat):∀(l:List Int) (k:Nat),(∀x∈l,0<=x/\x<(n:Int))->tc n l k=none
 | [],_,_=>rfl
 | x::l,k,h=>by
   unfold tc;have:=h x (by simp);rw [aw (by omega)];exact Hs n l (k+1) λy hy=>h y (by simp [hy])
theorem Ik {c:br} {ni:Nat} {ps:List (List bm)} {pk:List Int} (h0:cX c) (h1:1<=ps.length) (h2:ps.length<=16) (h3:(ni:Int)=c.be) (h4:∀q∈ps,(cG q).2=0) (h5:pk.length<=65536) (h6:∀x∈pk,0<=x/\x<(ps.length:Int)):jt c ni ps pk=(0,0,0):=by
 unfold jt;rw [aw (by rw [QY h0];simp),aw (by omega),aw (by simp [h3]),Ej ps 0 h4];simp only;rw [aw (by omega),Hs _ _ _ h6]
structure WD (A:AW) (c:br) (vi vp vk:Value) (zs:List Int) (ps:List (List bm)) (kl:List Int):Prop where
 few:pK c
 i:cd A .u64 vi zs
 p:jf A vp ps
 k:cd A .i64 vk kl
 e:∀pk:List Int,(∀x∈pk,x∈kl)->pk.length<=kl.length->(jt c zs.length ps pk).2.2=0
 kl:kl.length<=300
 pl:∀p∈ps,p.length<=64
 n:ps.length<=16
 z:(zs.length:Int)=c.be
 al:∀p∈ps,JG p
theorem Gi (hn:Gl.N=4) (l0 l1 l2 l3 l4:Int) (vl vk:Value) (ls:List (List Int)) (pk:List Int) (aW:Bool) (A:AW) (hL:r9 A vl ls) (hk:cd A .i64 vk pk) (Tw:ls.length<=maxLen) (JP:∀x∈ls,x.length<=17592186044415) (hpk:pk.length<=17592186044415) :
 aD qa 6 [.agg #[.int .i64 l0,.int .i64 l1,.int .i64 l2,.int .i64 l3,.int .i64 l4],vl,vk,.bool aW] A (λu A'=>∃(b:Bool) (c:br) (vi vp vk':Value) (zs:List Int) (ps:List (List bm)) (kl:List Int),
  u=.tuple #[MG c vi vp vk',.bool b]/\A.le A'/\A'.Wf/\(∃o n c,vi=.slice o n c)/\(∃o n c,vp=.slice o n c)/\(∃o n c,vk'=.slice o n c)/\(b=true->WD A' c vi vp vk' zs ps kl)):=by
 have Qw:maxLen=9223372036854775807:=rfl;rw [Qw] at Tw;refine aN Tryz.func6 λhw=>?_;obtain⟨ol,cl,rfl,_⟩:=hL.cy;obtain⟨Uy,UI,rfl,_⟩:=hk.cy;revert hw;refine W cF cF ?_<;>(unhygienic intros);refine Je (λA1=>A.le A1/\A1.Wf/\A1.next=A.next+2/\A1.bp A.next=some (.cells [.int .i64 l0,.int .i64 l1,.int .i64 l2,.int .i64 l3,.int .i64 l4] true 1)/\A1.bp (A.next+1)=some (.cells wh true 1)) ?_ ?_;refine⟨(AW.le.alloc A _).trans (AW.le.alloc _ _),(hw.alloc _).alloc _,by simp,?_,?_⟩;simp [AW.dt,show ¬A.next=A.next+1 by omega];simp [AW.dt,wh];rintro A1 ⟨NC,jx,ER,hbA,hbR⟩;have hL1:=hL.keeps (kg.sE NC hw);have hk1:=hk.le NC hw;refine ui (λfr A'=>A1=A'/\∃s:Int,fr 1=.slice ol ls.length cl/\fr 2=.slice Uy pk.length UI/\fr 3=.bool aW/\fr 4=.pointer (some ⟨A.next,0,none⟩)/\fr 8=.pointer (some ⟨A.next+1,0,none⟩)/\fr 10=.int .i64 s/\(ls.length<=3->(pk.length:Int)<=s)) ?_ ?_;refine ef (λk fr A'=>A1=A'/\∃(i:Nat) (s:Int),k=ls.length-i/\i<=ls.length/\fr 1=.slice ol ls.length cl/\fr 2=.slice Uy pk.length UI/\fr 3=.bool aW/\fr 4=.pointer (some ⟨A.next,0,none⟩)/\fr 8=.pointer (some ⟨A.next+1,0,none⟩)/\fr 10=.int .i64 s/\fr 11=.int .i64 i/\(ls.length<=3->(pk.length:Int)<=s/\s<=pk.length+i*17592186044415)) ls.length ?_ ?_
 exact⟨rfl,0,pk.length,rfl,Nat.zero_le _,rfl,rfl,rfl,rfl,rfl,rfl,rfl,λ_=>by omega⟩;rintro k fr A' ⟨rfl,i,s,rfl,hi,g1,g2,g3,g4,g8,mh,kT,Vz⟩;by_cases cD:i<ls.length;obtain⟨q,b8,own,u,xO,bV,hcell,hu⟩:=hL1.at cD;subst xO;obtain⟨ou,cu,hu',_⟩:=hu.cy;subst hu';have gS:=By (i:=i);have dy:ls.length-i=(ls.length-(i+1))+1:=by omega
 obtain⟨s2,yk⟩:∃s2,qg.wrap (s+ls[i].length)=s2:=⟨_,rfl⟩;refine ba ?_;refine W cF (mB g1 g2 g3 g4 g8 mh kT cD gS bV hcell yk @AW.ab) ?_<;>intros;have hsum2:ls.length<=3->(pk.length:Int)<=s2/\s2<=pk.length+((i+1:Nat):Int)*17592186044415:=λh=>by
  have h1:=Vz h;have h2:=JP ls[i] (Zh cD);rw [<-yk,ar (by omega) (by omega)];omega
 refine⟨ls.length-(i+1),by omega,rfl,i+1,s2,rfl,by omega,?_,?_,?_,?_,?_,?_,?_,hsum2⟩<;>simp [g1,g2,g3,g4,g8];have vT:i=ls.length:=by omega
 subst vT;refine ba ?_;refine W cF (J8 g1 g2 g3 g4 g8 mh kT cD) ?_<;>intros;exact⟨rfl,s,by simp [g1],by simp [g2],by simp [g3],by simp [g4],by simp [g8],by simp [mh],λh=>(Vz h).1⟩;rintro fr A' ⟨rfl,s,g1,g2,g3,g4,g8,mh,Vz⟩;have gT:¬A.next=A.next+1:=by omega
 have hne2:¬A.next+1=A.next:=by omega
 have zero:A.le (A1.set (A.next+1) (some (.cells wh true 1)))/\(A1.set (A.next+1) (some (.cells wh true 1))).Wf:=⟨NC.set (by omega) _,jx.set _ (by omega)⟩;unfold wh at hbR zero;by_cases h3:3<ls.length
 . refine W cF (J9 g1 g2 g3 g4 g8 mh h3 hbR bE) ?_<;>intros
   all_goals(
    refine⟨_,by first|(simp [bu,aQ,aS,g8,iF,AW.ab];done)|(simp [bu,aQ,aS,g8,iF,AW.ab];rfl),false,⟨0,0,0,0,0,0,0,0,0,0,0,0,false⟩,.slice none 0 0,.slice none 0 0,.slice none 0 0,[],[],[],rfl,zero.1,zero.2,⟨_,_,_,rfl⟩,⟨_,_,_,rfl⟩,⟨_,_,_,rfl⟩,λe=>by cases e⟩)
 by_cases h300:300<s
 . refine W cF (DM g1 g2 g3 g4 g8 mh h3 h300 hbR bE) ?_<;>intros
   all_goals(
    refine⟨_,by first|(simp [bu,aQ,aS,g8,iF,AW.ab];done)|(simp [bu,aQ,aS,g8,iF,AW.ab];rfl),false,⟨0,0,0,0,0,0,0,0,0,0,0,0,false⟩,.slice none 0 0,.slice none 0 0,.slice none 0 0,[],[],[],rfl,zero.1,zero.2,⟨_,_,_,rfl⟩,⟨_,_,_,rfl⟩,⟨_,_,_,rfl⟩,λe=>by cases e⟩)
 obtain⟨c,hc,cC⟩:=LM l0 l1 l2 l3 l4;have hf:=hc.few;have VQ:=hc.be;have Rj:(ls.length:Int).tmod 2=((ls.length % 2:Nat):Int):=by rw [Int.tmod_eq_emod_of_nonneg (by omega)];omega
 obtain⟨nn,YP⟩:∃nn:Nat,2+ls.length % 2=nn:=⟨_,rfl⟩;have FU:qg.wrap (2+(ls.length:Int).tmod 2)=(nn:Int):=by rw [Rj,ar (by omega) (by omega)];omega
 obtain⟨mC,fR,lS,c0,c1,c2,c3,kL,lO,lT,lR,iZ,mW⟩:=c;have IW:pK ⟨mC,fR,lS,c0,c1,c2,c3,kL,lO,lT,lR,iZ,aW⟩:=⟨⟨hf.ok.be,hf.ok.ao,hf.ok.k0,hf.ok.k1,hf.ok.k2,hf.ok.k3,hf.ok.nb,hf.ok.base,hf.ok.fit,hf.ok.reads,hf.ok.bP,hf.ok.an,hf.ok.ay,hf.ok.aB⟩,hf.c0,hf.c1,hf.c2,hf.c3⟩;dsimp only at VQ;have cS:=λO O' O''=>MF hn ⟨mC,fR,lS,c0,c1,c2,c3,kL,lO,lT,lR,iZ,aW⟩ ⟨by dsimp only;omega,by dsimp only;omega⟩ nn (by omega) (.slice ol ls.length cl) (.slice Uy pk.length UI) ls pk 14 true true (((A1.alloc O).set A1.next O').set A1.next O'') (hL1.keeps (kg.sE ((AW.le.lP A1 O O').set (qf _) O'') jx)) (by omega) (hk1.le ((AW.le.lP A1 O O').set (qf _) O'') jx) hpk (.inr (by omega));simp only [br.v,br.cells] at cC cS;revert hw;(repeat first|clear hw|revert hc|revert R|revert K);refine W (J1 @cC) (xe g1 g2 g3 g4 g8 mh h3 h300 hbR hbA FU bE) ?_<;>(unhygienic intros);refine(cS _ _ _).mono ?_;rintro u A3 ⟨oi,ni,ci,vp,ok,ck,us,ps,kl,zs,Z,hu,hZ,hP,Td,pU,hKo,hkl,Vx,mO,up,Pa,hkr,hzl,hIo,hIz⟩
 subst hu;subst hzl;obtain⟨op,cp,uU,_⟩:=hP.own.is.cy;subst uU;have Te:=((AW.le.lP A1 _ _).set (qf _) _).trans Td;have hbR3:=Te.mu jx hbR;have ET:=pU.lt hbR3;have hn3:=Te.next;rw [ER] at hn3;have hZ:A.next+3<=Z:=by simp at hZ;omega
 have hIo:=hIo.zL (C:=A.next+2) (by simp;omega);have hQ:=(hP.jJ (A':=A3.set (A.next+1) (some (.cells (km ⟨mC,fR,lS,c0,c1,c2,c3,kL,lO,lT,lR,iZ,aW⟩ (.slice oi zs.length ci) (.slice op us.length cp) (.slice ok kl.length ck)) true 1))) (λj h1 _=>AW.bg (show j≠A.next+1 by omega)) pU);have Xp:=hKo.jJ (A':=A3.set (A.next+1) (some (.cells (km ⟨mC,fR,lS,c0,c1,c2,c3,kL,lO,lT,lR,iZ,aW⟩ (.slice oi zs.length ci) (.slice op us.length cp) (.slice ok kl.length ck)) true 1))) (λj hj=>AW.bg (λe=>by have:=(hKo.lt pU hj).1;omega));have Xt:=hIo.jJ (A':=A3.set (A.next+1) (some (.cells (km ⟨mC,fR,lS,c0,c1,c2,c3,kL,lO,lT,lR,iZ,aW⟩ (.slice oi zs.length ci) (.slice op us.length cp) (.slice ok kl.length ck)) true 1))) (λj hj=>AW.bg (λe=>by have:=(hIo.lt pU hj).1;omega))
 have hfr2:∀j o,fu (.slice ok kl.length ck)=some j->PS Z ((A3.set (A.next+1) (some (.cells (km ⟨mC,fR,lS,c0,c1,c2,c3,kL,lO,lT,lR,iZ,aW⟩ (.slice oi zs.length ci) (.slice op us.length cp) (.slice ok kl.length ck)) true 1))).set j o) (.slice op us.length cp) us ps:=λj o hj=>
  (up j o hj).jJ (λi h1 h2=>by
   by_cases e:i=j;subst e;rw [AW.cY,AW.cY];rw [AW.bg e,AW.bg (by omega),AW.bg e]) (pU.set _ (hKo.lt pU hj).2)
 clear hP cS up hKo hIo;unfold MG km br.cells;unfold km br.cells at hQ Xp Xt hfr2;simp only [aa,af] at hQ Xp Xt hfr2 ⊢;revert hw;(repeat first|clear hw|revert hc|revert R|revert K);refine W cF (J7 g1 g2 g3 g4 g8 hbR3 bE) ?_<;>(unhygienic intros)
 all_goals(
  refine⟨_,by first|(simp [bu,aQ,aS,g8,iF,AW.ab];done)|(simp [bu,aQ,aS,g8,iF,AW.ab];rfl),true,⟨mC,fR,lS,c0,c1,c2,c3,kL,lO,lT,lR,iZ,aW⟩,.slice oi zs.length ci,.slice op us.length cp,.slice ok kl.length ck,zs,ps,kl,rfl,(NC.trans Te).set (by omega) _,pU.set _ ET,⟨_,_,_,rfl⟩,⟨_,_,_,rfl⟩,⟨_,_,_,rfl⟩,λ_=>?_⟩;have hpl2:us.length=ps.length:=hQ.len;have Qs:=Vz (by omega);refine⟨IW,Xt.is,hQ.progs,Xp.is,λpk' hs hl=>?_,by omega,λp hp=>(gY ((mO p hp).2.1 (by omega))).1,by omega,Pa,λp hp=>(mO p hp).2.2⟩;rw [Ik IW.ok (by omega) (by omega) (Pa) (λq hq=>(mO q hq).2.1 (by omega)) (by omega) (λx hx=>by have:=hkr x (hs x hx);omega)])
end
section
open Go.Proofs Go
theorem Qg {b:Nat} (h:0x7ff0000000000000<b % 2^63):kal.format.order b b=none:=by
 show (kax.read b).order (kax.read b)=none;have e:∃s t,kax.read b=.nan s t:=by
  unfold Ieee.Format.read;have e1:kax.signWeight=2^63:=rfl;have e2:kax.binade=2^52:=rfl;have e3:kax.infRung=0x7ff0000000000000:=by decide
  rw [e1,e2,e3];dsimp only;rw [aw (by omega),aw (by omega),aw (by omega)];exact⟨_,_,rfl⟩
 obtain⟨s,t,e⟩:=e;rw [e];rfl
def Ek (b:Nat):Int:=if kal.format.order b b=some .eq then b else 9221120237041090560
def Pk (x y:Nat):Int:=match kal.format.add x y with
 | some r=>Ek r
 | none=>9221120237041090560
theorem AV (x y:Nat) (w:World):Calls qa 227 #[.int .i64 12,.float .f64 x,.float .f64 y] w λe w'=>e=.returned (.int .u64 (Pk x y))/\(w'=w\/w'=w.drew):=by
 unfold Pk;cases hadd:kal.format.add x y with
 | some r=>
   have hr:=λw=>run_float_arith (P:=qa) w .add 273 .f64 x y r hadd
   go_enter Tryz.func227,Tryz.ntmps227
   go_wp2
   all_goals first
    | (go_ret;refine⟨?_,.inl rfl⟩;simp_all [Ek];done)
    | (rw [run_callFunc_extern Tryz.func224 (by kernel_rfl) (by kernel_rfl) (by kernel_rfl) (e:=kaT) (by kernel_rfl)]
       rw [show ∀w,(kaT #[Value.float kal r]).run qa w=.ok (.int .u64 r) w from λw=>rfl];simp only [ka7];rw [ka2]
       go_wp2
       go_ret
       refine⟨?_,.inl rfl⟩;simp_all [Ek];done)
 | none=>
   obtain⟨r,h1,hr⟩:∃r,0x7ff0000000000000<r % 2^63/\(binOp .add 273 (.float .f64 x) (.float .f64 y)).run qa w=.ok (.float .f64 r) w.drew:=by
    refine⟨(Question.nanBits .f64 x y).cut (w.tape w.drawn (.nanBits .f64 x y)),?_,?_⟩;simp only [Question.cut];generalize w.tape w.drawn (Question.nanBits kal x y)=t;have hu:t / 2 % (2 ^ 52-1)<2 ^ 52-1:=Nat.mod_lt _ (by decide);generalize t / 2 % (2 ^ 52-1)=u at hu ⊢;have hq:t % 2=0\/t % 2=1:=(by omega);rcases hq with hq|hq<;>rw [hq]<;>omega;simp [binOp,Op.floatArith,hadd,Question.forced]
   have h2:=Qg h1
   go_enter Tryz.func227,Tryz.ntmps227
   go_wp2
   all_goals first
    | (go_ret;refine⟨?_,.inr rfl⟩;simp_all [Ek];done)
    | (rw [run_callFunc_extern Tryz.func224 (by kernel_rfl) (by kernel_rfl) (by kernel_rfl) (e:=kaT) (by kernel_rfl)]
       rw [show ∀w,(kaT #[Value.float kal r]).run qa w=.ok (.int .u64 r) w from λw=>rfl];simp only [ka7];rw [ka2]
       go_wp2
       go_ret
       refine⟨?_,.inr rfl⟩;simp_all [Ek];done)
theorem LU (x y:Int) (w:World):Calls qa 153 #[.int .i64 12,.int .u64 x,.int .u64 y] w λe w'=>e=.returned (.tuple #[.int .u64 (Pk x.toNat y.toNat),.int .i64 0])/\(w'=w\/w'=w.drew):=by
 have hf:=λx y w=>AV x y w
 go_enter Tryz.func153,Tryz.ntmps153
 go_wp2
 all_goals rw [run_callFunc_extern Tryz.func226 (by kernel_rfl) (by kernel_rfl) (by kernel_rfl) (e:=kaS) (by kernel_rfl)]
 all_goals rw [show ∀w,(kaS #[Value.int .u64 x]).run qa w=.ok (.float .f64 x.toNat) w from λw=>rfl]
 all_goals simp only [ka7]
 all_goals rw [ka2]
 all_goals go_wp2
 all_goals rw [run_callFunc_extern Tryz.func226 (by kernel_rfl) (by kernel_rfl) (by kernel_rfl) (e:=kaS) (by kernel_rfl)]
 all_goals rw [show ∀w,(kaS #[Value.int .u64 y]).run qa w=.ok (.float .f64 y.toNat) w from λw=>rfl]
 all_goals simp only [ka7]
 all_goals rw [ka2]
 all_goals go_wp2_with (go_at_call 227;refine(AV _ _ _).mono ?_;rintro e w' ⟨rfl,kI⟩)
 go_ret2
 exact⟨rfl,kI⟩
theorem wordV {m:Mp} {l l':List Value} (h:iV m l l') (hp:∀v∈l,∃k n,v=.int k n):l'=l:=by
 induction l generalizing l' with
 | nil=>exact h.pT
 | cons v l ih=>
   obtain⟨v',t',rfl,hv,ht⟩:=h.mf;obtain⟨k,n,rfl⟩:=hp v (by simp);have e:v'=.int k n:=by cases hv;rfl
   rw [e,ih ht λx hx=>hp x (by simp [hx])]
theorem El [Gl] {f:FuncId} {args:List Value} {x y:Int} (A:AW) (hc:jY qa f=true) (ha:∀v∈args,∃k n,v=.int k n)
 (h:∀w:World,Calls qa f args.toArray w λe w'=>e=.returned (.tuple #[.int .u64 x,.int .i64 y])/\(w'=w\/w'=w.drew)):fh f args A (.tuple #[.int .u64 x,.int .i64 y]):=by
 show aD _ _ _ _ _;unfold aD;refine⟨hc,λm w gK hs hl=>?_⟩;have e:=wordV hl ha;have e2:gK=args.toArray:=by apply Array.ext';simpa using e
 subst e2;refine(h w).mono ?_;rintro e w' ⟨rfl,hw⟩;refine⟨_,_,m,A,rfl,?_,?_,rfl,rfl⟩;rcases hw with rfl|rfl;exact(G3.refl _).evo hs;exact(G3.drew _).evo hs;refine .tuple rfl λi v v' h1 h2=>?_;rw [h1] at h2;injection h2 with h2;subst h2
 match i,h1 with
 | 0,h1=>injection h1 with h1;subst h1;exact .int _ _
 | 1,h1=>injection h1 with h1;subst h1;exact .int _ _
theorem Wd [Gl] {P:Program} {f:FuncId} {R:Value->Prop} (h:aD P f [] AW.mM λv _=>R v) (hR:∀v,R v->fD v=true) (A:AW):aD P f [] A λv A'=>R v/\A'=A:=by
 unfold aD at h ⊢;refine⟨h.1,λm w gK hs hl=>?_⟩;have JN:iV Mp.mM [] gK.toList:=by rw [hl.pT];exact .nil
 refine(h.2 Mp.mM w gK (j6.mM w hs.laid) JN).mono ?_;rintro e w' ⟨v,v',m',A',rfl,ev,hv,hr⟩;have e1:=hv.ny (hR v hr);subst e1;refine⟨v',v',m,A,rfl,G3.evo hs ⟨λb hb=>ev.tR b hb ?_,ev.os,ev.tape,ev.output,ev.size⟩,.kH (hR v' hr) m,hr,rfl⟩;rintro ⟨i,o,p,hi,_⟩;cases hi
end
section
open T7
variable [Gl]
def XM (x y:Int):Int:=qd.wrap (ZR 64 x ^^^ ZR 64 y).toNat
def LY (fn x y:Int):Int:=if fn=0 then qd.wrap (x+y) else if fn=1 then qd.wrap (x-y) else if fn=5 then XM x y else if fn=8 then (if x=y then 1 else 0) else if fn=11 then (if x<y then 1 else 0) else Pk x.toNat y.toNat
theorem GX (b:Bool) (A:AW):fh 248 [.bool b] A (.int .u64 (if b=true then 1 else 0)):=by
 refine aN Tryz.func248 λhw=>?_;cases b;refine W cF cF ?_<;>intros;exact⟨_,rfl,rfl,rfl⟩;refine W cF cF ?_<;>intros;exact⟨_,rfl,rfl,rfl⟩
theorem Jl (fn x y:Int) (h:fn=0\/fn=1\/fn=5\/fn=8\/fn=11) (A:AW):fh 228 [.int .i64 fn,.int .u64 x,.int .u64 y] A (.int .u64 (LY fn x y)):=by
 refine aN Tryz.func228 λhw=>?_;have ht:=λb A=>GX b A;rcases h with rfl|rfl|rfl|rfl|rfl
 all_goals
  all_goals(revert hw;refine W (J1 @ht) trivial ?_<;>unhygienic intros)
  refine⟨_,rfl,?_,rfl⟩
  first|(simp [LY,XM];done)|(simp [LY,XM];rfl)
theorem uk (fn x y:Int) (h:fn=0\/fn=1\/fn=5\/fn=8\/fn=11) (A:AW):fh 153 [.int .i64 fn,.int .u64 x,.int .u64 y] A (.tuple #[.int .u64 (LY fn x y),.int .i64 0]):=by
 refine aN Tryz.func153 λhw=>?_;have hi:=λA=>Jl fn x y h A;generalize LY fn x y=v at hi;rcases h with rfl|rfl|rfl|rfl|rfl
 all_goals
  all_goals(revert hw;refine W (J1 @hi) trivial ?_<;>unhygienic intros)
  exact⟨_,rfl,rfl,rfl⟩
instance madeAF:AF:=⟨jZ⟩
theorem xG:xf LY:=λfn x y h A=>by
 rcases h with rfl|rfl|rfl|rfl|rfl|rfl;exact uk 0 x y (by simp) A;exact uk 1 x y (by simp) A;exact uk 5 x y (by simp) A;exact uk 8 x y (by simp) A;exact uk 11 x y (by simp) A;exact El A (by kernel_rfl) (by simp) λw=>LU x y w
end
section
open T7
variable [Gl]
theorem jf.kps {A B:AW} (hk:kg A B) {v:Value} {ps:List (List bm)} (h:jf A v ps):jf B v ps:=by
 obtain⟨us,h1,h2⟩:=h;exact⟨us,fW.keeps hk h1,λi hi=>let ⟨u,h3,h4⟩:=h2 i hi;⟨u,h3,fW.keeps hk h4⟩⟩
def scM (c:br) (zs:List Int) (ps:List (List bm)) (pk:List Int):sr:=pD LY (pH c zs ps) pk
theorem X0 {A:AW} {c:br} {vi vp vk:Value} {zs:List Int} {ps:List (List bm)} {kl pk:List Int} (h:WD A c vi vp vk zs ps kl) (hs:∀x∈pk,x∈kl) (hl:pk.length<=kl.length):vy c ps.length pk.length (scM c zs ps pk):=by
 obtain⟨_,_,_,AK,Pa,kO⟩:=xk (h.e pk hs hl);have:=vy.run xG h.few.ok pk (Ev h.few Pa AK kO h.al) (by have:=h.kl;omega);rw [Nat.zero_add] at this;exact this
theorem runG {A0:AW} {c:br} {vi0 vp0 vk0:Value} {zs:List Int} {ps:List (List bm)} {kl pk:List Int} (hF:FOK) (h:WD A0 c vi0 vp0 vk0 zs ps kl) (hs:∀x∈pk,x∈kl) (hl:pk.length<=kl.length) (vi vp vk:Value) (A:AW) (hi:cd A .u64 vi zs) (hp:jf A vp ps) (hk:cd A .i64 vk pk) :
 aD qa 8 [MG c vi vp vk] A (λu A'=>∃z,u=.tuple #[.agg (Gm (scM c zs ps pk) z).toArray,.int .i64 0,.int .i64 0,.int .i64 0]/\kg A A'/\XF A' (scM c zs ps pk) z):=by
 refine(Km xG hF h.few vi vp vk zs ps pk A hi hp hk (h.e pk hs hl) (by have:=h.kl;omega) h.al).mono ?_;rintro u A' ⟨z,rfl,hS⟩;have kZ:ah A' [_,_,_,_,_,.h (pV A.bp)]:=hS;exact⟨z,rfl,kZ.kp (.s (.s (.s (.s (.s .z))))),hS.W4⟩
end
section
open T7
variable [Gl]
def c21:br:=⟨1,1,0,0,0,0,0,1,1,0,0,0,false⟩
def i21:bm:=⟨0,0,0,0,0⟩
theorem few21:pK c21:=⟨⟨by decide,by decide,by decide,by decide,by decide,by decide,by decide,by decide,by decide,by decide,by decide,by decide,by decide,by decide⟩,by decide,by decide,rfl,rfl⟩
def WW:sr:=pD LY (pH c21 [5] [[i21],[i21]]) [0,1,0]
theorem Yo:WW.fN.length=2/\WW.cJ.length=2/\WW.M 0=[5]/\WW.cJ[1]? = some ⟨1,0,0,⟨0,0,0,0,0,false⟩⟩/\(WW.fN.map aT.d)[1]?.map vO.done=some true:=⟨by kernel_rfl,by kernel_rfl,by kernel_rfl,by kernel_rfl,by kernel_rfl⟩
theorem e21:(jt c21 1 [[i21],[i21]] [0,1,0]).2.2=0:=by decide +kernel
theorem KG {A:AW} {n k size:Nat} {cs:List Value} (h:A.bp n=some (.cells cs true size)) (hl:cs.length=k*size):fW A size (.slice (some ⟨n,0,none⟩) k k) k cs:=
 .inr ⟨⟨n,0,none⟩,k,cs,true,size,rfl,qf _,h,rfl,by rw [Nat.zero_add,hl];exact qf _,by rw [<-hl];exact ZY.symm⟩
theorem GR (hF:FOK):aD qa 7 [] AW.mM (λu A'=>u=.bool true):=by
 refine aN Tryz.func7 λhw=>?_;generalize AW.mM=A at *;have cR:=λB vi vp vk hi hp hk=>Km xG hF few21 vi vp vk [5] [[i21],[i21]] [0,1,0] B hi hp hk e21 (by decide) (λp hp x hx h3=>by
  simp only [List.mem_cons,List.not_mem_nil,or_false] at hp;rcases hp with rfl|rfl<;>(rw [List.mem_singleton] at hx;subst hx;cases h3))
 change ∀(B:AW) (vi vp vk:Value) (hi:_) (hp:_) (hk:_),aD _ _ _ _ (λu A'=>∃z,u=.tuple #[.agg (Gm WW z).toArray,.int .i64 0,.int .i64 0,.int .i64 0]/\ah A' (P5 WW z++[.h (pV B.bp)])) at cR;unfold MG km br.cells c21 Gm jT at cR;simp only [aa,af] at cR;revert hw;refine W cF (J1 bE) ?_<;>(unhygienic intros);refine bO (cR _ _ _ _ ?_ ?_ ?_) ?_;exact KG (by simp [AW.dt,AW.df,qJ]) rfl;refine⟨_,KG (by simp [AW.dt,AW.df,qJ];rfl) rfl,λi hi=>?_⟩;have hi:i=0\/i=1:=by simp at hi;omega
 rcases hi with rfl|rfl;exact⟨_,rfl,KG (by simp [AW.dt,AW.df,qJ];rfl) rfl⟩;exact⟨_,rfl,KG (by simp [AW.dt,AW.df,qJ];rfl) rfl⟩;exact KG (by simp [AW.dt,AW.df,qJ]) rfl;rintro _ A2 ⟨z,rfl,hS⟩ kc _;have hr:=hS.W4;obtain⟨h1,h2,h3,h4,h5⟩:=Yo;have kp:=λO O'=>kg.sE (AW.le.lP A2 O O') kc;clear hS cR;generalize WW=m at *;have hl:1<m.cJ.length:=by omega
 have JN:1<(m.fN.map aT.d).length:=by rw [qD];omega
 rw [qk hl] at h4;rw [qk JN] at h5;injection h4 with h4;injection h5 with h5;obtain⟨v0,_,_,_,_,e,i0,_⟩:=hr.im;injection e with e;injection e with e;injection e with e _;subst e;unfold jT at i0;rw [h3] at i0;obtain⟨p,row0,q1,q2,q3⟩:=i0.at (i:=0) (by decide);obtain⟨x1,c1,r1,w1,s1,s2,s3,s4⟩:=Is (f:=eF.cells) (λ_=>rfl) hr.st hl;obtain⟨x2,c2,r2,w2,t1,t2,t3,t4⟩:=Is (f:=vO.stC) (λ_=>rfl) hr.th JN;rw [h4] at s4;rw [h2] at s1;rw [qD,h1] at t1;injection s1 with s1 _ s5;injection t1 with t1 _ t5;have t6:r2[x2.off+11+10]? = some (.bool true):=by
  have:=congrArg (λl=>l[10]?) t4;rw [List.getElem?_take_of_lt (by decide),List.getElem?_drop,vO.stC,h5] at this;exact this
 have t7:A2.b8 x2.block=some r2:=AW.yP t2;rw [q1];rw [h1,h2,h3];dsimp only [eF.cells] at s4;have n1:¬x1.block=A2.next:=by have:=kc.lt s2;omega
 have n2:¬x2.block=A2.next:=by have:=kc.lt t2;omega
 obtain⟨ow,un,q4⟩:∃ow un,A2.bp p.block=some (.cells row0 ow un):=by
  rw [AW.b8] at q2;split at q2;rename_i cs ow un h;injection q2 with q2;exact⟨ow,un,q2▸h⟩;cases q2
 have q3:row0[p.off]? = some (.int .u64 5):=q3;have n3:¬p.block=A2.next:=by have:=kc.lt q4;omega
 refine W cF (Mh n1 n2 n3 q4 q3 s2 s3 s4 t2 t3 t6 t7 s1 t1 q1 bE) ?_<;>intros
 all_goals exact⟨_,rfl,rfl⟩
theorem Jf (hF:FOK) (B:AW):aD qa 7 [] B (λv A'=>v=.bool true/\B=A'):=
 (Wd (R:=λv=>v=.bool true) (GR hF) (λv h=>by rw [h];rfl) B).mono λv A' h=>⟨h.1,h.2.symm⟩
end
section
variable [Gl]
theorem rR (s:aJ):(gi s).aj=s.aj:=by unfold gi;split<;>rfl
theorem lz (s:aJ) (aC:Int):(jQ s aC).aj=s.aj:=rR _
theorem oR (s:aJ) (aC:Int):(nz s aC).aj=s.aj:=by unfold nz;split<;>rfl
theorem pi (s:aJ):(fJ s).aj=s.aj:=by unfold fJ;split<;>rfl
theorem j9 (s:aJ) (a v:Int):(jp s a v).2.aj=s.aj:=by
 unfold jp;split;rfl;exact lz s 3
theorem yu (s:aJ) (b st:Int):(jr s b st).aj=s.aj:=by
 unfold jr;split;exact oR s 8;split;exact lz s 3;split;exact j9 s _ 0;exact j9 s _ 0
theorem sY:∀(n:Nat) (a:Int) (s:aJ),(gs n a s).2.aj=s.aj
 | 0,_,_=>rfl
 | n+1,a,s=>by
   unfold gs;split;rw [sY n];exact j9 s a 0;exact j9 s a 0
theorem Bh (s:aJ) (eE i9:Int):(fx s eE i9).aj=s.aj:=by
 unfold fx;split;exact lz s 4;dsimp only;split;split;show (gs _ _ _).2.aj=_;rw [sY];exact j9 { s with an:=s.an++[i9] } _ _;rw [sY];exact j9 { s with an:=s.an++[i9] } _ _;exact j9 { s with an:=s.an++[i9] } _ _
theorem KV (s:aJ) (l:FN):(sj s l).aj=s.aj:=by
 cases l with
 | lU a v=>
   unfold sj;dsimp only;split;exact oR s 7;exact j9 s a v
 | tR=>exact oR s 7
 | Pr=>exact oR s 8
 | bS aC=>exact oR s aC
 | take v=>rfl
 | AS=>exact lz s 3
 | dg b v=>exact yu s b v
theorem JX (s:aJ) (v:Int) (u:zH):(zW s v u).aj=s.aj:=by
 cases u with
 | take=>rfl
 | dg b=>exact yu s b v
theorem Fx (s:aJ) (M:Mm):(bC s M).2.2.1.aj=s.aj:=by
 unfold bC;cases hd:s.aH with
 | ic=>rfl
 | bF=>rfl
 | iP k=>exact KV _ k
 | ei=>
   dsimp only;cases s.b7 with
   | none=>rfl
   | some e=>
     dsimp only [gN];split<;>rfl
 | bh r u=>
   show (du s M r u).2.2.1.aj=s.aj;unfold du;dsimp only;split;rfl;split;exact lz _ 9;split;dsimp only;rw [JX];split<;>rfl;dsimp only;rw [lz];split<;>rfl
 | eO p=>
   show (lh s M p).2.2.1.aj=s.aj;unfold lh;dsimp only;split;rw [Bh];rfl
 | eh=>
   dsimp only;cases s.aP with
   | none=>rfl
   | some l=>
     dsimp only [ip];split<;>rfl
 | cU=>
   dsimp only;cases s.aL with
   | none=>rfl
   | some t=>
     dsimp only [gU];split<;>rfl
 | cM ck=>
   show (gn s M ck).2.2.1.aj=s.aj;unfold gn;dsimp only;split;rw [pi];split<;>rfl
 | bK=>
   show (ff s M).2.2.1.aj=s.aj;unfold ff;dsimp only;split;rw [pi];split;rfl;rw [pi]
 | di w=>
   show (gA s M w).2.2.1.aj=s.aj;unfold gA;dsimp only;split<;>rfl
 | bH w=>rfl
 | fb=>rfl
 | ey=>exact rR s
 | eL p=>
   show (iL s M p).2.2.1.aj=s.aj;unfold iL;dsimp only;split;rw [rR];rfl
def uv (M:Mm):Int:=(M 3).getD 0 0
def vR (M:Mm):Int:=(M 4).getD 0 0
theorem jq {M:Mm} {cell cL:Int} {g:Int->Int×Bool} {k:Nat} (h:k≠(cell-1).toNat):kX M cell cL g k=M k:=by
 unfold kX;split;unfold setRow;rw [aw h];rfl
theorem ks {M:Mm} {cell cL:Int} (h:1<=cell/\cell<=8) (h0:0<=cL) (h1:cL<(M (cell-1).toNat).length):eR M cell cL=true:=by
 unfold eR ju;rw [aA h];exact decide_eq_true ⟨h0,h1⟩
theorem xq {M:Mm} {cell cL:Int} {g:Int->Int×Bool} (h:eR M cell cL=true) (hg:(g ((ju M cell).getD cL.toNat 0)).2=true):kX M cell cL g (cell-1).toNat=(M (cell-1).toNat).set cL.toNat (g ((ju M cell).getD cL.toNat 0)).1:=by
 unfold kX;rw [aA ⟨h,hg⟩];unfold setRow;rw [aA rfl]
theorem OJ {M:Mm} {cell cL:Int} {g:Int->Int×Bool} (hg:(g ((ju M cell).getD cL.toNat 0)).2=false):kX M cell cL g=M:=by
 unfold kX;rw [aw (by rw [hg];simp)]
theorem tS {M:Mm} {fI cell cL:Int} {g:Int->Int×Bool} (h:eR M cell cL=true):(eU M fI cell cL g).fi=(ju M cell).getD cL.toNat 0/\(eU M fI cell cL g).done=(g ((ju M cell).getD cL.toNat 0)).2:=by
 unfold eU;rw [aA h];exact⟨rfl,rfl⟩
theorem Kx (M:Mm) (fI cell cL:Int) (g:Int->Int×Bool):(eU M fI cell cL g).fI=0\/((eU M fI cell cL g).fI=fI/\(eU M fI cell cL g).cell=cell):=by
 unfold eU;split;exact .inr ⟨rfl,rfl⟩;exact .inl rfl
theorem jA (l:List Int) (i j:Nat) (v:Int):(l.set i v).getD j 0=if i=j/\i<l.length then v else l.getD j 0:=by
 simp only [ql];by_cases h:i=j;subst h;by_cases h2:i<l.length;rw [List.getElem?_set_self h2,aA ⟨rfl,h2⟩];rfl;rw [aw (by omega),qN (by simp;omega),qN (by omega)];rw [List.getElem?_set_ne h,aw (by omega)]
def su (s:aJ):Prop:=match s.aH with
 | .eh=>s.ao.Nodup/\∃l,s.aP=some l/\l.dT=[]
 | .cU=>s.ao=[]/\∃t,s.aL=some t/\t.jk=false
 | .cM _ | .bK | .bH _ | .ey | .di _ | .fb=>False
 | _=>True
theorem sT (s:aJ):su (gi s):=by
 unfold gi;split<;>exact trivial
theorem ri (s:aJ) (aC:Int):su (jQ s aC):=sT _
theorem wT {s:aJ} (h:jL s) (aC:Int):su (nz s aC):=by
 unfold nz;split;have:=(mX (s.bz.bL.map (gw s.cf))).1;exact⟨this.imp λh=>by omega,_,rfl,rfl⟩;exact⟨h.ao,_,rfl,rfl⟩
def lx (s:aJ):Prop:=jL s/\s.aH=.bF
theorem lx.zB {s:aJ} (h:lx s):su s:=by unfold su;rw [h.2];trivial
theorem Dp {s:aJ} (h:lx s) (a v:Int):((jp s a v).1=true->lx (jp s a v).2)/\su (jp s a v).2:=by
 unfold jp;split;have:lx { s with bz:=(fM s.bz a v).2 }:=⟨h.1.to rfl rfl rfl rfl rfl,h.2⟩;exact⟨λ_=>this,this.zB⟩;exact⟨λe=>(by cases e),ri s 3⟩
theorem E4 {s:aJ} (h:lx s) (b st:Int):su (jr s b st):=by
 unfold jr;split;exact wT h.1 8;split;exact ri s 3;have:=Dp h (s.cf.be+b) 0;split;rename_i e;have h2:=this.1 e;exact lx.zB ⟨h2.1.to rfl rfl rfl rfl rfl,h2.2⟩;exact this.2
theorem G4:∀(n:Nat) (a:Int) (s:aJ),lx s->((gs n a s).1=true->lx (gs n a s).2)/\su (gs n a s).2
 | 0,_,s,h=>⟨λ_=>h,h.zB⟩
 | n+1,a,s,h=>by
   unfold gs;have:=Dp h a 0;split;rename_i e;exact G4 n (a+1) _ (this.1 e);exact⟨λe=>(by cases e),this.2⟩
theorem Oh {s:aJ} (h:lx s) (eE i9:Int):su (fx s eE i9):=by
 unfold fx;split;exact ri s 4;have h1:lx { s with an:=s.an++[i9] }:=⟨h.1.to rfl rfl rfl rfl rfl,h.2⟩;have:=Dp h1 (s.cf.be+i9) (eE+1);dsimp only;split;rename_i e;have hz:=G4 (2 ^ eE.toNat) (iE s.cf i9) _ (this.1 e);split;rename_i e2;have h2:=hz.1 e2;exact lx.zB ⟨h2.1.to rfl rfl rfl rfl rfl,h2.2⟩;exact hz.2;exact this.2
theorem KU {s:aJ} (h:lx s) (l:FN):su (sj s l):=by
 cases l with
 | lU a v=>
   unfold sj;dsimp only;split;exact wT h.1 7;exact(Dp h a v).2
 | tR=>exact wT h.1 7
 | Pr=>exact wT h.1 8
 | bS aC=>exact wT h.1 aC
 | take v=>exact lx.zB ⟨h.1.to rfl rfl rfl rfl rfl,h.2⟩
 | AS=>exact ri s 3
 | dg b v=>exact E4 h b v
theorem RF {s:aJ} (h:lx s) (v:Int) (u:zH):su (zW s v u):=by
 cases u with
 | take=>exact lx.zB ⟨h.1.to rfl rfl rfl rfl rfl,h.2⟩
 | dg b=>exact E4 h b v
def xX (M M':Mm):Prop:=M' 0=M 0/\M' 1=M 1/\M' 2=M 2/\M' 3=M 3/\M' 4=M 4
theorem xX.refl (M:Mm):xX M M:=⟨rfl,rfl,rfl,rfl,rfl⟩
theorem xX.op (M:Mm) {cell cL:Int} {g:Int->Int×Bool} (hc:6<=cell):xX M (kX M cell cL g):=by
 refine⟨jq ?_,jq ?_,jq ?_,jq ?_,jq ?_⟩<;>omega
def rm (s:aJ):List Int:=match s.aH with
 | .eh=>match s.aP with
   | some l=>l.ao.take l.dT.length
   | none=>[]
 | .cU | .cM _ | .bK | .di _=>s.ao
 | .bH w=>w.os
 | _=>[]
def CF (s:aJ):List Int:=match s.aH with
 | .eh | .cU | .cM _ | .bK | .di _=>s.dT
 | .bH w=>w.ws
 | _=>[]
def sm (s:aJ):Bool:=match s.aH with
 | .di _ | .fb=>true
 | .bH _=>s.am
 | _=>false
def lK (s:aJ):Option Int:=match s.aH with
 | .cU=>match s.aL with
   | some t=>if t.jk=true then some t.dx else none
   | none=>none
 | .cM _ | .bK | .di _ | .bH _ | .fb | .ey=>match s.aL with
   | some t=>some t.dx
   | none=>none
 | _=>none
def nA (s:aJ):Bool:=match s.aH with
 | .cM _ | .bK | .di _ | .bH _ | .fb | .ey=>true
 | _=>false
def FT (c:br) (s:aJ):Prop:=match s.aH with
 | .eh | .cU | .cM _ | .bK | .di _=>s.il=true->∀a∈s.bz.bL,gw c a∈s.ao
 | _=>True
def jv (M:Mm) (x:Int):Int:=(M 1).getD x.toNat 0
def uq (M:Mm):Int:=(M 2).getD 0 0
structure sq (c:br) (s:aJ) (M:Mm):Prop where
 Vi:(rm s).Nodup
 lk:∀i,i<(rm s).length->jv M ((rm s).getD i 0) % 64=s.aj+1/\(sm s=false->jv M ((rm s).getD i 0)=(CF s).getD i 0+s.aj+1/\(CF s).getD i 0 % 64=0)
 cm:sm s=true->s.aB=uq M
 lg:FT c s
 tk:∀n,lK s=some n->n<uv M/\(nA s=true->n=vR M)
structure JF (c:br) (s:aJ) (M:Mm) (s':aJ) (M':Mm):Prop where
 ti:sq c s' M'
 iZ:uq M'=uq M\/(sm s=true/\uq M<=uq M')
 sv:vR M'=vR M\/nA s=true
 tkn:uv M<=uv M'
 tks:lK s'=none\/lK s'=lK s\/lK s'=some (uv M)
 m1:∀j:Nat,(M' 1).getD j 0=(M 1).getD j 0\/(M 1).getD j 0 % 64=0\/(M 1).getD j 0 % 64=s.aj+1
 nJ:∀o rv:Int,rv<=uq M->(rv<jv M o / 64\/(sm s=true/\o∈rm s))->(rv<jv M' o / 64\/(sm s'=true/\o∈rm s'))
 m0:∀j:Nat,(M' 0).getD j 0=(M 0).getD j 0\/(sm s'=true/\gw c j∈rm s')
def mS (c:br) (s:aJ) (M:Mm) (r:oW):Prop:=JF c s M r.2.2.1 r.2.2.2
theorem mS.of {c:br} {s:aJ} {M:Mm} {a:aZ} {ph:Int} {s':aJ} {M':Mm} (h:JF c s M s' M'):mS c s M (a,ph,s',M'):=h
structure uo (s:aJ):Prop where
 l:rm s=[]
 c:sm s=false
 t:lK s=none
 d:nA s=false
theorem su.quiet {s:aJ} (h:su s):uo s:=by
 unfold su at h;revert h;cases hd:s.aH<;>intro h<;>first
  | exact h.elim
  | skip
 all_goals first|(refine ⟨?_,?_,?_,?_⟩<;>simp [rm,sm,lK,nA,hd];done)|skip
 obtain⟨_,l,h4,h5⟩:=h;refine⟨?_,?_,?_,?_⟩<;>simp [rm,sm,lK,nA,hd,h4,h5];obtain⟨h3,t,h4,h5⟩:=h;refine⟨?_,?_,?_,?_⟩<;>simp [rm,sm,lK,nA,hd,h3,h4,h5]
def sw (s:aJ):Prop:=match s.aH with
 | .eh=>∀a∈s.bz.bL,gw s.cf a∈s.ao
 | .cU=>s.il=false
 | .cM _ | .bK | .di _=>False
 | _=>True
theorem sw.lg {c:br} {s:aJ} (h:sw s) (hc:s.cf=c):FT c s:=by
 unfold sw at h;unfold FT;subst hc;revert h;cases s.aH<;>intro h<;>first
  | exact h.elim
  | trivial
  | exact λ_=>h
  | exact λe=>by rw [h] at e;cases e
theorem wL (s:aJ):sw (gi s):=by
 unfold gi;split<;>exact trivial
theorem rj (s:aJ) (aC:Int):sw (jQ s aC):=wL _
theorem wV {s:aJ} (h:jL s) (aC:Int):sw (nz s aC):=by
 unfold nz;split;intro a ha;exact((mX (s.bz.bL.map (gw s.cf))).2 _).2 (List.mem_map.2 ⟨a,ha,rfl⟩);rename_i hs;show aJ.il _=false;have:(decide (aC=1) && decide (0<s.bz.bL.length))=false:=by simpa using hs
 exact this
theorem lx.QZ {s:aJ} (h:lx s):sw s:=by unfold sw;rw [h.2];trivial
theorem Ae {s:aJ} (h:lx s) (a v:Int):((jp s a v).1=true->lx (jp s a v).2)/\sw (jp s a v).2:=by
 unfold jp;split;have:lx { s with bz:=(fM s.bz a v).2 }:=⟨h.1.to rfl rfl rfl rfl rfl,h.2⟩;exact⟨λ_=>this,this.QZ⟩;exact⟨λe=>(by cases e),rj s 3⟩
theorem E6 {s:aJ} (h:lx s) (b st:Int):sw (jr s b st):=by
 unfold jr;split;exact wV h.1 8;split;exact rj s 3;have:=Ae h (s.cf.be+b) 0;split;rename_i e;have h2:=this.1 e;exact lx.QZ ⟨h2.1.to rfl rfl rfl rfl rfl,h2.2⟩;exact this.2
theorem DN:∀(n:Nat) (a:Int) (s:aJ),lx s->((gs n a s).1=true->lx (gs n a s).2)/\sw (gs n a s).2
 | 0,_,s,h=>⟨λ_=>h,h.QZ⟩
 | n+1,a,s,h=>by
   unfold gs;have:=Ae h a 0;split;rename_i e;exact DN n (a+1) _ (this.1 e);exact⟨λe=>(by cases e),this.2⟩
theorem Oj {s:aJ} (h:lx s) (eE i9:Int):sw (fx s eE i9):=by
 unfold fx;split;exact rj s 4;have h1:lx { s with an:=s.an++[i9] }:=⟨h.1.to rfl rfl rfl rfl rfl,h.2⟩;have:=Ae h1 (s.cf.be+i9) (eE+1);dsimp only;split;rename_i e;have hz:=DN (2 ^ eE.toNat) (iE s.cf i9) _ (this.1 e);split;rename_i e2;have h2:=hz.1 e2;exact lx.QZ ⟨h2.1.to rfl rfl rfl rfl rfl,h2.2⟩;exact hz.2;exact this.2
theorem SJ {s:aJ} (h:lx s) (l:FN):sw (sj s l):=by
 cases l with
 | lU a v=>
   unfold sj;dsimp only;split;exact wV h.1 7;exact(Ae h a v).2
 | tR=>exact wV h.1 7
 | Pr=>exact wV h.1 8
 | bS aC=>exact wV h.1 aC
 | take v=>exact lx.QZ ⟨h.1.to rfl rfl rfl rfl rfl,h.2⟩
 | AS=>exact rj s 3
 | dg b v=>exact E6 h b v
theorem RG {s:aJ} (h:lx s) (v:Int) (u:zH):sw (zW s v u):=by
 cases u with
 | take=>exact lx.QZ ⟨h.1.to rfl rfl rfl rfl rfl,h.2⟩
 | dg b=>exact E6 h b v
section
variable {c:br} {nt k:Nat} {s:aJ} {M:Mm}
theorem JF.quiet {s':aJ} {M':Mm} (h:uo s) (h':uo s') (hl:FT c s') (hM:xX M M'):JF c s M s' M':=by
 obtain⟨e0,e1,e2,e3,e4⟩:=hM;refine⟨⟨by rw [h'.l];exact kad,λi hi=>(by rw [h'.l] at hi;simp at hi),λe=>(by rw [h'.c] at e;cases e),hl,λn e=>(by rw [h'.t] at e;cases e)⟩,.inl (by unfold uq;rw [e2]),.inl (by unfold vR;rw [e4]),by unfold uv;rw [e3];exact qE _,.inl h'.t,λj=>.inl (by rw [e1]),λo rv _ h1=>?_,λj=>.inl (by rw [e0])⟩;rcases h1 with h1|⟨h1,_⟩;exact .inl (by unfold jv at *;rw [e1];exact h1);rw [h.c] at h1;cases h1
theorem JF.zB {s':aJ} {M':Mm} (h:uo s) (h1:su s') (h2:sw s') (hc:s'.cf=c) (hM:xX M M'):JF c s M s' M':=JF.quiet h h1.quiet (h2.lg hc) hM
theorem NV (e:iv) (M:Mm):xX M (gl e M).2.2:=by
 unfold gl;split;exact .op M (by omega);split;exact .refl M;split;exact .op M (by omega);exact .refl M
theorem Sb (p:pw) (M:Mm):xX M (gg p M).2.2:=by
 unfold gg;split;exact .refl M;split;exact .refl M;split;exact .op M (by omega);exact .refl M
theorem Ho (p:fK) (M:Mm):xX M (dD p M).2.2:=by
 unfold dD;split;exact .refl M;split;exact .op M (by omega);split;exact .op M (by omega);exact .refl M
theorem RJ (hM:k9 c nt k M) (hk:k<2^40) (h:nP c k s) (t:iG) (hs:s.aL=some t) (h1:t.done=false) (hd:s.aH=.cU) (hT:sq c s M):mS c s M (gU s M t):=by
 have hl:=hT.lk;have hn:=hT.Vi;have hg:=hT.lg;have e0:rm s=s.ao:=by unfold rm;rw [hd]
 have e1:CF s=s.dT:=by unfold CF;rw [hd]
 have e2:sm s=false:=by unfold sm;rw [hd]
 have e3:nA s=false:=by unfold nA;rw [hd]
 have e4:lK s=if t.jk=true then some t.dx else none:=by unfold lK;rw [hd,hs]
 unfold FT at hg;rw [hd] at hg;rw [e0] at hn;rw [e0,e1,e2] at hl;unfold gU gI;rw [aw (by rw [h1];decide)];split;rename_i zM;have YG:t.jk=false:=zM;have hm:∀kk,kk≠3->Wy M 4 0 1 kk=M kk:=λkk jz=>jq (by omega);have hcell:eR M 4 0=true:=ks (by omega) (by omega) (by show (0:Int)<((M 3).length:Int);rw [hM.l3];decide);have hgt:(FY M 4 0 1).fi=uv M:=(tS hcell).1;have ht:=hM.XT;have j5:Wy M 4 0 1 3=(M 3).set 0 (uv M+1):=by
  have:Wy M 4 0 1 3=(M 3).set 0 (qd.wrap (uv M+1)):=xq hcell rfl;rw [this,ax (by unfold uv;omega) (by unfold uv;omega)]
 have htk2:uv (Wy M 4 0 1)=uv M+1:=by unfold uv;rw [j5,jA,aA ⟨rfl,by rw [hM.l3];omega⟩];rfl
 refine mS.of ?_;rw [aw (by dsimp only;rw [h1];decide)];show JF c s M { s with aL:=some { t with jk:=true,dx:=(FY M 4 0 1).fi } } (Wy M 4 0 1);have f0:rm { s with aL:=some { t with jk:=true,dx:=(FY M 4 0 1).fi } }=s.ao:=by unfold rm;rw [show ({ s with aL:=some { t with jk:=true,dx:=(FY M 4 0 1).fi } }:aJ).aH=s.aH from rfl,hd]
 have f1:CF { s with aL:=some { t with jk:=true,dx:=(FY M 4 0 1).fi } }=s.dT:=by unfold CF;rw [show ({ s with aL:=some { t with jk:=true,dx:=(FY M 4 0 1).fi } }:aJ).aH=s.aH from rfl,hd];rfl
 have f2:sm { s with aL:=some { t with jk:=true,dx:=(FY M 4 0 1).fi } }=false:=by unfold sm;rw [show ({ s with aL:=some { t with jk:=true,dx:=(FY M 4 0 1).fi } }:aJ).aH=s.aH from rfl,hd]
 have f3:nA { s with aL:=some { t with jk:=true,dx:=(FY M 4 0 1).fi } }=false:=by unfold nA;rw [show ({ s with aL:=some { t with jk:=true,dx:=(FY M 4 0 1).fi } }:aJ).aH=s.aH from rfl,hd]
 have f4:lK { s with aL:=some { t with jk:=true,dx:=(FY M 4 0 1).fi } }=some (uv M):=by unfold lK;rw [show ({ s with aL:=some { t with jk:=true,dx:=(FY M 4 0 1).fi } }:aJ).aH=s.aH from rfl,hd,<-hgt];rfl
 have f5:FT c { s with aL:=some { t with jk:=true,dx:=(FY M 4 0 1).fi } }:=by unfold FT;rw [show ({ s with aL:=some { t with jk:=true,dx:=(FY M 4 0 1).fi } }:aJ).aH=s.aH from rfl,hd];exact hg
 refine⟨⟨by rw [f0];exact hn,?_,λe=>(by rw [f2] at e;cases e),f5,?_⟩,.inl (by unfold uq;rw [hm 2 (by omega)]),.inl (by unfold vR;rw [hm 4 (by omega)]),by rw [htk2];omega,.inr (.inr f4),λj=>.inl (by rw [hm 1 (by omega)]),λo rv _ h2=>?_,λj=>.inl (by rw [hm 0 (by omega)])⟩;rw [f0,f1,f2];unfold jv;rw [hm 1 (by omega)];exact hl;intro n Pb;rw [f4] at Pb;injection Pb with Pb;rw [htk2,<-Pb];exact⟨by omega,λe=>(by rw [f3] at e;cases e)⟩;rcases h2 with h2|⟨h2,_⟩;left;unfold jv;rw [hm 1 (by omega)];exact h2;rw [e2] at h2;cases h2;rename_i zM;have YG:t.jk=true:=by simpa using zM
 rw [aA YG] at e4;obtain⟨a1,a2⟩:=hT.tk _ e4;have key:∀s':aJ,rm s'=s.ao->CF s'=s.dT->sm s'=false->FT c s'->lK s'=some t.dx->s'.aj=s.aj->(nA s'=true->t.dx=vR M)->JF c s M s' M:=by
  intro s' g0 g1 g2 g3 g4 g5 g6;refine⟨⟨by rw [g0];exact hn,by rw [g0,g1,g2,g5];exact hl,λe=>(by rw [g2] at e;cases e),g3,λn e=>?_⟩,.inl rfl,.inl rfl,qE _,.inr (.inl (g4.trans e4.symm)),λj=>.inl rfl,λo rv _ h2=>?_,λj=>.inl rfl⟩;rw [g4] at e;injection e with e;subst e;exact⟨a1,g6⟩;rcases h2 with h2|⟨h2,_⟩;exact .inl h2;rw [e2] at h2;cases h2
 refine mS.of ?_;dsimp only;split;rename_i lQ;have Vy:t.dx=vR M:=by
  have hcell:eR M 5 0=true:=ks (by omega) (by omega) (by show (0:Int)<((M 4).length:Int);rw [hM.l4];decide);have:(iA M 5 0).fi=vR M:=(tS hcell).1;have h3:decide ((iA M 5 0).fi=t.dx)=true:=lQ;have h4:=of_decide_eq_true h3;rw [<-h4,this]
 by_cases hz:s.set.length=0;rw [aA hz];exact key _ rfl rfl rfl hg rfl rfl λ_=>Vy;rw [aw hz];exact key _ rfl rfl rfl hg rfl rfl λ_=>Vy;refine key _ ?_ ?_ ?_ ?_ ?_ rfl ?_;show rm { s with aL:=_ }=_;unfold rm;dsimp only;rw [hd];show CF { s with aL:=_ }=_;unfold CF;dsimp only;rw [hd];rfl;show sm { s with aL:=_ }=_;unfold sm;dsimp only;rw [hd];show FT c { s with aL:=_ };unfold FT;dsimp only;rw [hd];exact hg;show lK { s with aL:=_ }=_;unfold lK;dsimp only;rw [hd];dsimp only;rw [aA YG];intro e;have:nA { s with aL:=some { t with done:=decide ((iA M 5 0).fi=t.dx) } }=false:=by unfold nA;dsimp only;rw [hd]
 rw [this] at e;cases e
theorem wj {s1:aJ} (h0:rm s=s1.ao) (h1:CF s=s1.dT) (h2:sm s=false) (h3:s1.aj=s.aj) (h4:s1.am=true->s1.ao=[]) {n:Int} (h5:lK s=some n) {t:iG} (h6:s1.aL=some t) (h7:t.dx=n) (h8:nA s=true) (hT:sq c s M):JF c s M (fJ s1) M:=by
 have hl:=hT.lk;have hn:=hT.Vi;rw [h0] at hn;rw [h0,h1,h2] at hl;have ht:=hT.tk n h5;have hv:∀o rv:Int,rv<=uq M->(rv<jv M o / 64\/(sm s=true/\o∈rm s))->rv<jv M o / 64:=λo rv _ h=>by
  rcases h with h|⟨h,_⟩;exact h;rw [h2] at h;cases h
 unfold fJ;split;refine⟨⟨kad,λi hi=>(by simp [rm] at hi),λe=>(by cases e),trivial,λm e=>?_⟩,.inl rfl,.inl rfl,qE _,.inr (.inl ?_),λj=>.inl rfl,λo rv h9 NK=>.inl (hv o rv h9 NK),λj=>.inl rfl⟩;have e:lK { s1 with aH:=.ey }=some m:=e;unfold lK at e;dsimp only at e;rw [h6] at e;injection e with e;rw [<-e,h7];exact⟨ht.1,λ_=>ht.2 h8⟩;rw [h5];unfold lK;dsimp only;rw [h6];exact congrArg some h7;rename_i gT;have hdf:s1.am=false:=by
  cases e:s1.am with
  | false=>rfl
  | true=>rw [h4 e] at gT;exact absurd rfl gT
 refine⟨⟨hn,λi hi=>?_,λe=>?_,trivial,λm e=>?_⟩,.inl rfl,.inl rfl,qE _,.inr (.inl ?_),λj=>.inl rfl,λo rv h9 NK=>.inl (hv o rv h9 NK),λj=>.inl rfl⟩;have:=hl i hi;show jv M (s1.ao.getD i 0) % 64=s1.aj+1/\(_->jv M (s1.ao.getD i 0)=s1.dT.getD i 0+s1.aj+1/\s1.dT.getD i 0 % 64=0);rw [h3];exact⟨this.1,λ_=>this.2 rfl⟩;have e:s1.am=true:=e;rw [hdf] at e;cases e;have e:lK { s1 with aH:=.bH ⟨s1.ao,s1.dT⟩ }=some m:=e;unfold lK at e;dsimp only at e;rw [h6] at e;injection e with e;rw [<-e,h7];exact⟨ht.1,λ_=>ht.2 h8⟩;rw [h5];unfold lK;dsimp only;rw [h6];exact congrArg some h7
theorem QX (ck:iw) (Ln:s.am=false) (t:iG) (ht:s.aL=some t) (hd:s.aH=.cM ck) (hT:sq c s M):mS c s M (gn s M ck):=by
 have hm:(gm ck M).2.2=M:=by unfold gm;split<;>rfl
 have e0:rm s=s.ao:=by unfold rm;rw [hd]
 have e1:CF s=s.dT:=by unfold CF;rw [hd]
 have e2:sm s=false:=by unfold sm;rw [hd]
 have e3:nA s=true:=by unfold nA;rw [hd]
 have e4:lK s=some t.dx:=by unfold lK;rw [hd];dsimp only;rw [ht]
 have hg:=hT.lg;unfold FT at hg;rw [hd] at hg;unfold gn;dsimp only;rw [hm];refine mS.of ?_;split;exact wj e0 e1 e2 rfl (λe=>by rw [show s.am=true from e] at Ln;cases Ln) e4 (t:=t) ht rfl e3 hT;have hl:=hT.lk;have hn:=hT.Vi;rw [e0] at hn;rw [e0,e1,e2] at hl;have zM:=hT.tk _ e4;have key:∀s':aJ,rm s'=s.ao->CF s'=s.dT->sm s'=false->FT c s'->lK s'=some t.dx->s'.aj=s.aj->JF c s M s' M:=by
  intro s' g0 g1 g2 g3 g4 g5;refine⟨⟨by rw [g0];exact hn,by rw [g0,g1,g2,g5];exact hl,λe=>(by rw [g2] at e;cases e),g3,λn e=>?_⟩,.inl rfl,.inl rfl,qE _,.inr (.inl (g4.trans e4.symm)),λj=>.inl rfl,λo rv _ h2=>?_,λj=>.inl rfl⟩;rw [g4] at e;injection e with e;subst e;exact⟨zM.1,λ_=>zM.2 e3⟩;rcases h2 with h2|⟨h2,_⟩;exact .inl h2;rw [e2] at h2;cases h2
 have e5:∀d,(match d with | .cM _ | .bK=>True|_=>False)->lK { s with aH:=d }=some t.dx:=by
  intro d EY;unfold lK;dsimp only;revert EY;cases d<;>intro EY<;>first
   | exact EY.elim
   | (dsimp only;rw [ht])
 split;exact key _ rfl rfl rfl hg (e5 .bK trivial) rfl;exact key _ rfl rfl rfl hg (e5 (.cM _) trivial) rfl
theorem N0 (hM:k9 c nt k M) (Ln:s.am=false) (YU:s.il=true↔0<s.ao.length) (t:iG) (ht:s.aL=some t) (hd:s.aH=.bK) (hT:sq c s M):mS c s M (ff s M):=by
 have e0:rm s=s.ao:=by unfold rm;rw [hd]
 have e1:CF s=s.dT:=by unfold CF;rw [hd]
 have e2:sm s=false:=by unfold sm;rw [hd]
 have e3:nA s=true:=by unfold nA;rw [hd]
 have e4:lK s=some t.dx:=by unfold lK;rw [hd];dsimp only;rw [ht]
 have hg:=hT.lg;unfold FT at hg;rw [hd] at hg;unfold ff;dsimp only;refine mS.of ?_;split;exact wj e0 e1 e2 rfl (λe=>by rw [show s.am=true from e] at Ln;cases Ln) e4 (t:=t) ht rfl e3 hT;split;rename_i dy;have hl:=hT.lk;have hn:=hT.Vi;rw [e0] at hn;rw [e0,e1,e2] at hl;have zM:=hT.tk _ e4;have hcell:eR M 3 0=true:=ks (by omega) (by omega) (by show (0:Int)<((M 2).length:Int);rw [hM.l2];decide);have hgt:(iA M 3 0).fi=uq M:=(tS hcell).1;refine⟨⟨hn,λi hi=>⟨(hl i hi).1,λe=>(by cases e)⟩,λ_=>hgt,hg,λn e=>?_⟩,.inl rfl,.inl rfl,qE _,.inr (.inl ?_),λj=>.inl rfl,λo rv _ h2=>?_,λj=>.inl rfl⟩;have e:(match s.aL with|some t=>some t.dx|none=>none)=some n:=e;rw [ht] at e;injection e with e;subst e;exact⟨zM.1,λ_=>zM.2 e3⟩;rw [e4];show (match s.aL with|some t=>some t.dx|none=>none)=_;rw [ht];rcases h2 with h2|⟨h2,_⟩;exact .inl h2;rw [e2] at h2;cases h2;rename_i dy;refine wj e0 e1 e2 rfl (λe=>?_) e4 (t:=t) ht rfl e3 hT
 have:¬0<s.ao.length:=λe=>dy (YU.2 e);exact Zc (by show s.ao.length=0;omega)
theorem SG (hM:k9 c nt k M) (hk:k<2^40) (hb:ji c k s) (l:ik) (hs:s.aP=some l) (ES:s.aL=none) (ho:l.ao=s.ao) (ST:l.aj=s.aj) (cD:l.dT.length<l.ao.length) (hI:yE k l) (hd:s.aH=.eh) (hT:sq c s M):mS c s M (ip s M l):=by
 have e0:rm s=l.ao.take l.dT.length:=by unfold rm;rw [hd];dsimp only;rw [hs]
 have e1:CF s=l.dT:=by unfold CF;rw [hd];dsimp only;unfold aJ.dT;rw [hs]
 have e2:sm s=false:=by unfold sm;rw [hd]
 have e3:lK s=none:=by unfold lK;rw [hd]
 have e4:nA s=false:=by unfold nA;rw [hd]
 have hg:=hT.lg;unfold FT at hg;rw [hd] at hg;have hl:=hT.lk;have hn:=hT.Vi;rw [e0] at hn;rw [e0,e1,e2] at hl;have hx:dK l∈s.ao:=by
  unfold dK;rw [<-ho,ql,qk cD];exact Zh cD
 have Vw:=hb.Ye _ hx;have hcell:eR M 2 (dK l)=true:=ks (by omega) Vw.1 (by show _<((M 1).length:Int);rw [hM.l1];exact Vw.2);have Tm:¬l.done=true:=by simp only [ik.done,decide_eq_true_eq];omega
 have pW:∀(l2:ik) (M':Mm),l2.ao=l.ao->M' 0=M 0->M' 2=M 2->M' 3=M 3->M' 4=M 4->(l2.ao.take l2.dT.length).Nodup->
  (∀i,i<(l2.ao.take l2.dT.length).length->jv M' ((l2.ao.take l2.dT.length).getD i 0) % 64=s.aj+1/\(jv M' ((l2.ao.take l2.dT.length).getD i 0)=l2.dT.getD i 0+s.aj+1/\l2.dT.getD i 0 % 64=0))->
  (∀j:Nat,(M' 1).getD j 0=(M 1).getD j 0\/(M 1).getD j 0 % 64=0\/(M 1).getD j 0 % 64=s.aj+1)->(∀o:Int,jv M' o / 64=jv M o / 64)->
  JF c s M (if l2.done=true then { { s with aP:=some l2 } with aL:=some ⟨false,0,false⟩,aH:=.cU } else { s with aP:=some l2 }) M':=by
  intro l2 M' f1 f2 f3 f4 f5 f6 f7 f8 f9;have key:∀s':aJ,rm s'=l2.ao.take l2.dT.length->CF s'=l2.dT->sm s'=false->FT c s'->lK s'=none->s'.aj=s.aj->JF c s M s' M':=by
   intro s' g0 g1 g2 g3 g4 g5;refine⟨⟨by rw [g0];exact f6,λi hi=>?_,λe=>(by rw [g2] at e;cases e),g3,λn e=>(by rw [g4] at e;cases e)⟩,.inl (by unfold uq;rw [f3]),.inl (by unfold vR;rw [f5]),by unfold uv;rw [f4];exact qE _,.inl g4,f8,λo rv _ h2=>?_,λj=>.inl (by rw [f2])⟩;rw [g0] at hi ⊢;rw [g1,g5];exact⟨(f7 i hi).1,λ_=>(f7 i hi).2⟩;rcases h2 with h2|⟨h2,_⟩;left;rw [f9];exact h2;rw [e2] at h2;cases h2
  split;rename_i lQ;simp only [ik.done,decide_eq_true_eq] at lQ;refine key _ ?_ rfl rfl hg rfl rfl;show s.ao=_;rw [lQ,ZY,<-ho,f1];refine key _ ?_ ?_ ?_ ?_ ?_ rfl;unfold rm;dsimp only;rw [hd];unfold CF;dsimp only;rw [hd];rfl;unfold sm;dsimp only;rw [hd];unfold FT;dsimp only;rw [hd];exact hg;unfold lK;dsimp only;rw [hd]
 unfold ip dW;rw [aw Tm];have hl':∀i,i<(l.ao.take l.dT.length).length->jv M ((l.ao.take l.dT.length).getD i 0) % 64=s.aj+1/\(jv M ((l.ao.take l.dT.length).getD i 0)=l.dT.getD i 0+s.aj+1/\l.dT.getD i 0 % 64=0):=λi hi=>⟨(hl i hi).1,(hl i hi).2 rfl⟩;split;exact mS.of (pW { l with dF:=_,fH:=_ } M rfl rfl rfl rfl rfl hn hl' (λj=>.inl rfl) λo=>rfl);rename_i IU;have Ll:l.fH=true:=by simpa using IU
 refine mS.of ?_;have hm:∀kk,kk≠1->kX M 2 (dK l) (jW l.dF (ia l)) kk=M kk:=λkk jz=>jq (by omega);obtain⟨NE,lI⟩:=tS (fI:=3) (g:=jW l.dF (ia l)) hcell;by_cases hsw:(eU M 3 2 (dK l) (jW l.dF (ia l))).done=true;have SU:jv M (dK l)=l.dF:=by
  rw [lI] at hsw;exact of_decide_eq_true hsw
 have hz:=hI.load Ll;have ht:=hb.Mb;have tg:=za (by omega) hI Ll (by rw [ST];exact ht);rw [ST] at tg;have h64:=hI.dF.1;simp only [hsw,if_true];have f1:kX M 2 (dK l) (jW l.dF (ia l)) 1=(M 1).set (dK l).toNat (ia l):=xq hcell (by rw [<-lI];exact hsw);have bX:(dK l).toNat<(M 1).length:=by have:=hM.l1;omega
 have se:∀o:Int,jv (kX M 2 (dK l) (jW l.dF (ia l))) o=if (dK l).toNat=o.toNat then l.dF+s.aj+1 else jv M o:=by
  intro o;unfold jv;rw [f1,jA];by_cases h:(dK l).toNat=o.toNat;rw [aA ⟨h,bX⟩,aA h,tg];rw [aw (by omega),aw h]
 have f2:l.ao.take (l.dT++[l.dF]).length=l.ao.take l.dT.length++[dK l]:=by
  rw [qm,q8,List.take_add_one,qk cD];unfold dK;rw [ql,qk cD];rfl
 have oP:(l.ao.take l.dT.length).length=l.dT.length:=by simp;omega
 have gT:∀i,i<l.dT.length->(dK l).toNat≠((l.ao.take l.dT.length).getD i 0).toNat:=by
  intro i hi e;have h1:=(hl' i (by omega)).1;have h2:jv M ((l.ao.take l.dT.length).getD i 0)=jv M (dK l):=by unfold jv;rw [e]
  rw [h2,SU] at h1;omega
 refine pW { l with fH:=false,dT:=l.dT++[l.dF] } _ rfl (hm 0 (by omega)) (hm 2 (by omega)) (hm 3 (by omega)) (hm 4 (by omega)) ?_ ?_ ?_ ?_;show (l.ao.take (l.dT++[l.dF]).length).Nodup;rw [f2];refine Hv hn λNz=>?_;obtain⟨i,hi,IV⟩:=List.getElem_of_mem Nz;refine gT i (by omega) ?_;rw [ql,qk hi];show _=(_:Int).toNat;rw [show (some (l.ao.take l.dT.length)[i]).getD 0=(l.ao.take l.dT.length)[i] from rfl,IV];intro i hi;dsimp only at hi ⊢;rw [f2] at hi ⊢;simp only [qm,q8,oP] at hi;by_cases Pc:i<l.dT.length;have g1:(l.ao.take l.dT.length++[dK l]).getD i 0=(l.ao.take l.dT.length).getD i 0:=by simp only [ql];rw [ZI (by omega)]
 have g2:(l.dT++[l.dF]).getD i 0=l.dT.getD i 0:=by simp only [ql];rw [ZI Pc]
 rw [g1,g2,se,aw (gT i Pc)];exact hl' i (by omega);have IV:i=l.dT.length:=by omega
 subst IV;have g1:(l.ao.take l.dT.length++[dK l]).getD l.dT.length 0=dK l:=by
  rw [ql,List.getElem?_append_right (by omega)];simp [oP]
 have g2:(l.dT++[l.dF]).getD l.dT.length 0=l.dF:=by simp [ql]
 rw [g1,g2,se,aA rfl];exact⟨by omega,rfl,hz⟩;intro j;by_cases h:(dK l).toNat=j;right;left;have:(M 1).getD j 0=l.dF:=by rw [<-h];exact SU
 rw [this];exact hz;left;rw [f1,jA,aw (by omega)];intro o;rw [se];split;rename_i h;have:jv M o=l.dF:=by rw [<-SU];unfold jv;rw [h]
 rw [this];omega;rfl;simp only [hsw,if_false];have f1:kX M 2 (dK l) (jW l.dF (ia l))=M:=OJ (by rw [<-lI];simpa using hsw);rw [f1];exact pW { l with fH:=false } M rfl rfl rfl rfl rfl hn hl' (λj=>.inl rfl) λo=>rfl
theorem PH (hM:k9 c nt k M) (hb:ji c k s) (w:je) (vU:s.am=true/\s.il=true) (t:iG) (ht:s.aL=some t) (q:Nat) (hq:q<s.bz.bL.length) (hw:w=⟨s.bz.bL.drop q,s.bz.fq.drop q⟩) (hd:s.aH=.di w) (hT:sq c s M):mS c s M (gA s M w):=by
 have e0:rm s=s.ao:=by unfold rm;rw [hd]
 have e2:sm s=true:=by unfold sm;rw [hd]
 have e3:nA s=true:=by unfold nA;rw [hd]
 have e4:lK s=some t.dx:=by unfold lK;rw [hd];dsimp only;rw [ht]
 have hg:=hT.lg;unfold FT at hg;rw [hd] at hg;have hl:=hT.lk;have hn:=hT.Vi;rw [e0] at hn;rw [e0,e2] at hl;have zM:=hT.tk _ e4;have ud:0<w.os.length:=by rw [hw];simp;omega
 have xP:w.os.getD 0 0∈s.bz.bL:=by
  have:w.os.getD 0 0∈w.os:=wJ ud;rw [hw] at this ⊢;exact List.mem_of_mem_drop this
 have har:=hb.HN _ xP;unfold gA kh;rw [aw (by simp only [je.done,decide_eq_true_eq];omega)];dsimp only;refine mS.of ?_;have hm:∀kk,kk≠0->kX M 1 (w.os.getD 0 0) (fo (w.ws.getD 0 0)) kk=M kk:=λkk jz=>jq (by omega);have key:∀s':aJ,rm s'=s.ao->sm s'=true->FT c s'->lK s'=some t.dx->s'.aj=s.aj->s'.aB=s.aB->JF c s M s' (kX M 1 (w.os.getD 0 0) (fo (w.ws.getD 0 0))):=by
  intro s' g0 g1 g2 g3 g4 g5;have se:∀o,jv (kX M 1 (w.os.getD 0 0) (fo (w.ws.getD 0 0))) o=jv M o:=λo=>by unfold jv;rw [hm 1 (by omega)]
  have CL:uq (kX M 1 (w.os.getD 0 0) (fo (w.ws.getD 0 0)))=uq M:=by unfold uq;rw [hm 2 (by omega)]
  have htf:uv (kX M 1 (w.os.getD 0 0) (fo (w.ws.getD 0 0)))=uv M:=by unfold uv;rw [hm 3 (by omega)]
  have Qq:vR (kX M 1 (w.os.getD 0 0) (fo (w.ws.getD 0 0)))=vR M:=by unfold vR;rw [hm 4 (by omega)]
  refine⟨⟨by rw [g0];exact hn,λi hi=>?_,λ_=>?_,g2,λn e=>?_⟩,.inl CL,.inl Qq,by rw [htf];exact qE _,.inr (.inl (g3.trans e4.symm)),λj=>.inl (by rw [hm 1 (by omega)]),λo rv _ h2=>?_,λj=>?_⟩;rw [g0] at hi ⊢;rw [se,g4];exact⟨(hl i hi).1,λe=>by rw [g1] at e;cases e⟩;rw [g5,CL];exact hT.cm e2;rw [g3] at e;injection e with e;subst e;rw [htf,Qq];exact⟨zM.1,λ_=>zM.2 e3⟩;rw [se];rcases h2 with h2|⟨_,h2⟩;exact .inl h2;rw [e0] at h2;exact .inr ⟨g1,by rw [g0];exact h2⟩;rcases yT M 1 (w.os.getD 0 0) (fo (w.ws.getD 0 0)) 0 j with h|⟨_,_,h,_⟩;exact .inl h;right;refine⟨g1,?_⟩;rw [g0];have:(j:Int)=w.os.getD 0 0:=by omega
  rw [this];exact hg vU.2 _ xP
 have e5:∀d,(match d with | .di _ | .bH _=>True|_=>False)->lK { s with aH:=d }=some t.dx:=by
  intro d EY;unfold lK;dsimp only;revert EY;cases d<;>intro EY<;>first
   | exact EY.elim
   | (dsimp only;rw [ht])
 split;exact key _ rfl vU.1 trivial (e5 (.bH _) trivial) rfl rfl;exact key _ rfl rfl hg (e5 (.di _) trivial) rfl rfl
theorem U5 (hM:k9 c nt k M) (hk:k<2^40) (hb:ji c k s) (w:je) (vU:s.am=true->s.il=true) (t:iG) (ht:s.aL=some t) (q:Nat) (hq1:q<s.ao.length) (hw:w=⟨s.ao.drop q,(tO s).drop q⟩) (hd:s.aH=.bH w) (hT:sq c s M):mS c s M (mF s M w):=by
 have e0:rm s=w.os:=by unfold rm;rw [hd]
 have e1:CF s=w.ws:=by unfold CF;rw [hd]
 have e2:sm s=s.am:=by unfold sm;rw [hd]
 have e3:nA s=true:=by unfold nA;rw [hd]
 have e4:lK s=some t.dx:=by unfold lK;rw [hd];dsimp only;rw [ht]
 have hl:=hT.lk;have hn:=hT.Vi;rw [e0] at hn;rw [e0,e1,e2] at hl;have zM:=hT.tk _ e4;have VR:=hT.cm;rw [e2] at VR;have ud:0<w.os.length:=by rw [hw];simp;omega
 have kv:∀x∈w.os,0<=x/\x<c.ao:=λx hx=>hb.Ye x (by rw [hw] at hx;exact List.mem_of_mem_drop hx);have Vw:=kv _ (wJ ud);have hl1:=hM.l1;have hcell:eR M 2 (w.os.getD 0 0)=true:=ks (by omega) Vw.1 (by show _<((M 1).length:Int);rw [hl1];exact Vw.2);have hv0:s.am=true->w.ws.getD 0 0=(uq M+1)*64:=by
  intro e;have h1:=uu hb hk ⟨e,vU e⟩;have h2:=VR e;have h3:=hb.iZ;have e5:(tO s).drop q=List.replicate (s.ao.length-q) (kF s.nJ):=by unfold tO;rw [aA e,List.drop_replicate]
  rw [hw];show ((tO s).drop q).getD 0 0=_;rw [e5,ql,List.getElem?_replicate_of_lt (by omega)];show kF s.nJ=_;rw [h1,<-h2];unfold kF;rw [aA (by omega)]
 have hver:0<=s.nJ↔s.am=true:=by
  constructor
  . intro h;cases e:s.am with
    | true=>rfl
    | false=>unfold aJ.nJ at h;rw [aw (by rw [e];simp)] at h;omega
  intro e;rw [uu hb hk ⟨e,vU e⟩];have:=hb.iZ;omega
 obtain⟨x,xs,O9⟩:∃x xs,w.os=x::xs:=by
  cases h:w.os with
  | nil=>rw [h] at ud;simp at ud
  | cons x xs=>exact⟨x,xs,rfl⟩
 have La:w.os.getD 0 0=x:=by rw [O9];rfl
 have Lm:=hl 0 ud;rw [La] at Lm Vw hcell;have bX:x.toNat<(M 1).length:=by omega
 unfold mF gM;rw [aw (by simp only [je.done,decide_eq_true_eq];omega)];dsimp only;rw [La];refine mS.of ?_;have hm:∀kk,kk≠1->kX M 2 x (fo (w.ws.getD 0 0)) kk=M kk:=λkk jz=>jq (by omega);have f1:kX M 2 x (fo (w.ws.getD 0 0)) 1=(M 1).set x.toNat (w.ws.getD 0 0):=xq hcell rfl;have se:∀o:Int,jv (kX M 2 x (fo (w.ws.getD 0 0))) o=if x.toNat=o.toNat then w.ws.getD 0 0 else jv M o:=by
  intro o;unfold jv;rw [f1,jA];by_cases h:x.toNat=o.toNat;rw [aA ⟨h,bX⟩,aA h];rw [aw (by omega),aw h]
 have CL:uq (kX M 2 x (fo (w.ws.getD 0 0)))=uq M:=by unfold uq;rw [hm 2 (by omega)]
 have htf:uv (kX M 2 x (fo (w.ws.getD 0 0)))=uv M:=by unfold uv;rw [hm 3 (by omega)]
 have Qq:vR (kX M 2 x (fo (w.ws.getD 0 0)))=vR M:=by unfold vR;rw [hm 4 (by omega)]
 rw [O9] at hn hl kv;have hnx:=List.nodup_cons.1 hn;have key:∀s':aJ,rm s'=xs->CF s'=w.ws.tail\/xs=[]->(s.am=true/\xs≠[]->sm s'=true)->(sm s'=true->s.am=true)->FT c s'->lK s'=some t.dx->s'.aj=s.aj->s'.aB=s.aB->JF c s M s' (kX M 2 x (fo (w.ws.getD 0 0))):=by
  intro s' g0 g1 g2 g3 g4 g5 g6 g7;refine⟨⟨by rw [g0];exact hnx.2,λi hi=>?_,λe=>?_,g4,λn e=>?_⟩,.inl CL,.inl Qq,by rw [htf];exact qE _,.inr (.inl (g5.trans e4.symm)),λj=>?_,λo rv hrv h2=>?_,λj=>.inl (by rw [hm 0 (by omega)])⟩;rw [g0] at hi ⊢;have h1:=hl (i+1) (by simp;omega);rw [List.getD_cons_succ] at h1;have xP:xs.getD i 0∈xs:=wJ hi;have gT:¬x.toNat=(xs.getD i 0).toNat:=by
   intro e;have h3:=(kv (xs.getD i 0) (List.mem_cons_of_mem _ xP)).1;have:x=xs.getD i 0:=by omega
   rw [<-this] at xP;exact hnx.1 xP
  rw [se,aw gT,g6];refine⟨h1.1,λe=>?_⟩;rcases g1 with g1|g1;have hdf:s.am=false:=by
   cases h:s.am with
   | false=>rfl
   | true=>
     have:=g2 ⟨h,λe=>by rw [e] at hi;simp at hi⟩;rw [this] at e;cases e
  have h4:=h1.2 hdf;rw [g1];have h5:w.ws.tail.getD i 0=w.ws.getD (i+1) 0:=by cases w.ws<;>simp
  rw [h5];exact h4;rw [g1] at hi;simp at hi;rw [g7,CL];exact VR (g3 e);rw [g5] at e;injection e with e;subst e;rw [htf,Qq];exact⟨zM.1,λ_=>zM.2 e3⟩;by_cases h:x.toNat=j;right;right;have:(M 1).getD j 0=jv M x:=by unfold jv;rw [h]
  rw [this];exact Lm.1;left;rw [f1,jA,aw (by omega)];rw [e2,e0,O9] at h2;by_cases h:x.toNat=o.toNat
  . left;rw [se,aA h];cases hdv:s.am with
    | true=>rw [hv0 hdv];omega
    | false=>
      rcases h2 with h2|⟨h2,_⟩;have h3:=Lm.2 hdv;have h4:jv M o=jv M x:=(by unfold jv;rw [h]);have h5:=hb.Mb;rw [h4] at h2;omega;rw [hdv] at h2;cases h2
  rw [se,aw h];rcases h2 with h2|⟨h2,h3⟩;exact .inl h2;right;rcases List.mem_cons.1 h3 with h3|h3;exact absurd (by rw [h3]) h;exact⟨g2 ⟨h2,λe=>by rw [e] at h3;simp at h3⟩,by rw [g0];exact h3⟩
 have e5:∀d,(match d with | .bH _ | .fb | .ey=>True|_=>False)->lK { s with aH:=d }=some t.dx:=by
  intro d EY;unfold lK;dsimp only;revert EY;cases d<;>intro EY<;>first
   | exact EY.elim
   | (dsimp only;rw [ht])
 have YF:w.os.tail=xs:=by rw [O9];rfl
 rw [YF];by_cases lQ:je.done ⟨xs,w.ws.tail⟩=true;have W5:xs=[]:=Zc (by simpa [je.done] using lQ);rw [aA lQ];by_cases hv:0<=s.nJ;rw [aA hv];exact key _ W5.symm (.inr W5) (λh=>absurd W5 h.2) (λ_=>hver.1 hv) trivial (e5 .fb trivial) rfl rfl;rw [aw hv];exact key _ W5.symm (.inr W5) (λh=>absurd W5 h.2) (λe=>by cases e) trivial (e5 .ey trivial) rfl rfl;rw [aw lQ];exact key _ rfl (.inl rfl) (λh=>h.1) (λe=>e) trivial (e5 (.bH _) trivial) rfl rfl
theorem P1 (hM:k9 c nt k M) (hk:k<2^40) (hb:ji c k s) (t:iG) (ht:s.aL=some t) (hd:s.aH=.fb) (hT:sq c s M) (a:aZ) (ph:Int):mS c s M (a,ph,{ s with aH:=.ey },yb M 3 0 (qd.wrap (s.aB+1))):=by
 refine mS.of ?_;have e2:sm s=true:=by unfold sm;rw [hd]
 have e3:nA s=true:=by unfold nA;rw [hd]
 have e4:lK s=some t.dx:=by unfold lK;rw [hd];dsimp only;rw [ht]
 have e0:rm s=[]:=by unfold rm;rw [hd]
 have zM:=hT.tk _ e4;have VR:=hT.cm e2;have CL:=hb.iZ;have hm:∀kk,kk≠2->yb M 3 0 (qd.wrap (s.aB+1)) kk=M kk:=λkk jz=>jq (by omega);have hcell:eR M 3 0=true:=ks (by omega) (by omega) (by show (0:Int)<((M 2).length:Int);rw [hM.l2];decide);have f1:yb M 3 0 (qd.wrap (s.aB+1)) 2=(M 2).set 0 (qd.wrap (s.aB+1)):=xq hcell rfl;have AP:uq (yb M 3 0 (qd.wrap (s.aB+1)))=uq M+1:=by unfold uq at *;rw [f1,jA,aA ⟨rfl,by rw [hM.l2];omega⟩,ax (by omega) (by omega),VR]
 have f4:lK { s with aH:=.ey }=some t.dx:=by unfold lK;dsimp only;rw [ht]
 refine⟨⟨kad,λi hi=>(by simp [rm] at hi),λe=>(by cases e),trivial,λn e=>?_⟩,.inr ⟨e2,by rw [AP];omega⟩,.inl (by unfold vR;rw [hm 4 (by omega)]),by unfold uv;rw [hm 3 (by omega)];exact qE _,.inr (.inl (f4.trans e4.symm)),λj=>.inl (by rw [hm 1 (by omega)]),λo rv _ h2=>?_,λj=>.inl (by rw [hm 0 (by omega)])⟩;rw [f4] at e;injection e with e;subst e;unfold uv vR at *;rw [hm 3 (by omega),hm 4 (by omega)];exact⟨zM.1,λ_=>zM.2 e3⟩;rcases h2 with h2|⟨_,h2⟩;left;unfold jv at *;rw [hm 1 (by omega)];exact h2;rw [e0] at h2;simp at h2
theorem Sf (hb:ji c k s) (t:iG) (ht:s.aL=some t) (hd:s.aH=.ey) (pn:(gi s).cf=c) (a:aZ) (ph v:Int):mS c s M (a,ph,gi s,yb M 5 0 v):=by
 refine mS.of ?_;have e2:sm s=false:=by unfold sm;rw [hd]
 have e3:nA s=true:=by unfold nA;rw [hd]
 have hq:=(sT s).quiet;have hm:∀kk,kk≠4->yb M 5 0 v kk=M kk:=λkk jz=>jq (by omega);refine⟨⟨by rw [hq.l];exact kad,λi hi=>(by rw [hq.l] at hi;simp at hi),λe=>(by rw [hq.c] at e;cases e),(wL s).lg pn,λn e=>(by rw [hq.t] at e;cases e)⟩,.inl (by unfold uq;rw [hm 2 (by omega)]),.inr e3,by unfold uv;rw [hm 3 (by omega)];exact qE _,.inl hq.t,λj=>.inl (by rw [hm 1 (by omega)]),λo rv _ h1=>?_,λj=>.inl (by rw [hm 0 (by omega)])⟩;rcases h1 with h1|⟨h1,_⟩;left;unfold jv at *;rw [hm 1 (by omega)];exact h1;rw [e2] at h1;cases h1
end
theorem Xx {s:aJ} (h:sm s=true):nA s=true:=by
 unfold sm at h;unfold nA;revert h;cases s.aH<;>intro h<;>first
  | rfl
  | cases h
theorem TR {c:br} {k:Nat} {s:aJ} (h:nP c k s) (hd:nA s=true):∃n,lK s=some n:=by
 have hD:=h.d;unfold nA at hd;unfold lK;revert hd hD;cases s.aH<;>intro hd hD<;>first
  | (cases hd;done)
  | skip
 obtain⟨_,_,⟨t,ht⟩,_⟩:=hD;dsimp only;rw [ht];exact⟨_,rfl⟩;obtain⟨_,_,t,ht⟩:=hD;dsimp only;rw [ht];exact⟨_,rfl⟩;obtain⟨_,_,_,⟨t,ht⟩,_⟩:=hD;dsimp only;rw [ht];exact⟨_,rfl⟩;obtain⟨_,_,_,⟨t,ht⟩,_⟩:=hD;dsimp only;rw [ht];exact⟨_,rfl⟩;obtain⟨_,_,t,ht⟩:=hD;dsimp only;rw [ht];exact⟨_,rfl⟩;obtain⟨_,t,ht⟩:=hD;dsimp only;rw [ht];exact⟨_,rfl⟩
section
variable {c:br} {nt k:Nat} {s:aJ} {M:Mm}
theorem gW {s:aJ} (h:match s.aH with | .bF | .iP _ | .ei | .bh _ _ | .eO _ | .eL _ | .ic=>True|_=>False):uo s:=by
 revert h;cases hd:s.aH<;>intro h<;>first
  | exact h.elim
  | (refine ⟨?_,?_,?_,?_⟩<;>simp [rm,sm,lK,nA,hd])
theorem mS.zB {r:oW} (h:uo s) (h1:su r.2.2.1/\sw r.2.2.1/\xX M r.2.2.2) (hc:r.2.2.1.cf=c):mS c s M r:=JF.zB h h1.1 h1.2.1 hc h1.2.2
theorem Iu (r:iI) (u:zH) (he:jL s):su (du s M r u).2.2.1/\sw (du s M r u).2.2.1/\xX M (du s M r u).2.2.2:=by
 have hm:xX M (dC r M).2.2:=by rw [(Cv r M).2.2.2];exact .refl M
 unfold du;dsimp only;split;exact⟨trivial,trivial,hm⟩;split;exact⟨ri _ _,rj _ _,hm⟩;split;have hp:lx { (if r.dJ<s.cf.be/\¬r.dJ∈s.reads then { { s with aH:=.bh (dC r M).2.1 u } with reads:=s.reads++[r.dJ] } else { s with aH:=.bh (dC r M).2.1 u }) with set:=(eg s.cf.reads.toNat s.set r.ig).2,aH:=.bF }:=by
  refine⟨?_,rfl⟩;split<;>exact he.to rfl rfl rfl rfl rfl
 exact⟨RF hp _ _,RG hp _ _,hm⟩;exact⟨ri _ _,rj _ _,hm⟩
theorem MQ (p:pw) (he:jL s):su (lh s M p).2.2.1/\sw (lh s M p).2.2.1/\xX M (lh s M p).2.2.2:=by
 have hm:=Sb p M;unfold lh;dsimp only;split;have hp:lx { s with aH:=.bF }:=⟨he.to rfl rfl rfl rfl rfl,rfl⟩;exact⟨Oh hp _ _,Oj hp _ _,hm⟩;exact⟨trivial,trivial,hm⟩
theorem Ix (p:fK):su (iL s M p).2.2.1/\sw (iL s M p).2.2.1/\xX M (iL s M p).2.2.2:=by
 have hm:=Ho p M;unfold iL;dsimp only;split;exact⟨sT _,wL _,hm⟩;exact⟨trivial,trivial,hm⟩
theorem Fc (e:iv) (hd:s.aH=.ei):su (gN s M e).2.2.1/\sw (gN s M e).2.2.1/\xX M (gN s M e).2.2.2:=by
 have hm:=NV e M;unfold gN;dsimp only;split;exact⟨trivial,trivial,hm⟩;refine⟨?_,?_,hm⟩;unfold su;dsimp only;rw [hd];trivial;unfold sw;dsimp only;rw [hd];trivial
theorem RV (hc:cX c) (hk:k<2^40) (h:nP c k s) (hM:k9 c nt k M) (hT:sq c s M):mS c s M (bC s M):=by
 have hb:=h.b;have hd:=h.d;have pn:(bC s M).2.2.1.cf=c:=(xj hc hk h hM).1.b.cf;revert pn;unfold bC;cases e:s.aH with
 | bF=>
   intro pn;exact mS.of (JF.quiet (gW (by rw [e];trivial)) (gW (by rw [e];trivial)) (by unfold FT;rw [e];trivial) (.refl M))
 | iP l=>
   intro pn;rw [e] at hd;have hp:lx { s with aH:=.bF }:=⟨hd.1.to rfl rfl rfl rfl rfl,rfl⟩;exact mS.zB (gW (by rw [e];trivial)) ⟨KU hp l,SJ hp l,.refl M⟩ pn
 | ei=>
   rw [e] at hd;obtain⟨h0,en,h1,_⟩:=hd;dsimp only;rw [h1];intro pn;exact mS.zB (gW (by rw [e];trivial)) (Fc en e) pn
 | bh r u=>
   intro pn;rw [e] at hd;exact mS.zB (gW (by rw [e];trivial)) (Iu r u hd.1) pn
 | eO p=>
   intro pn;rw [e] at hd;exact mS.zB (gW (by rw [e];trivial)) (MQ p hd.1) pn
 | eh=>
   rw [e] at hd;obtain⟨h0,Mf,l,h1,h2,h3,h4,h5⟩:=hd;dsimp only;rw [h1];intro _;exact SG hM hk hb l h1 h0.1 h2 h3 h4 h5 e hT
 | cU=>
   rw [e] at hd;obtain⟨h0,hl,t,h1,h2,h3⟩:=hd;dsimp only;rw [h1];intro _;exact RJ hM hk h t h1 h2 e hT
 | cM ck=>
   intro _;rw [e] at hd;obtain⟨h0,hl,⟨t,ht⟩,_⟩:=hd;exact QX ck h0.2 t ht e hT
 | bK=>
   intro _;rw [e] at hd;obtain⟨h0,hl,t,ht⟩:=hd;exact N0 hM h0.2 hl.2 t ht e hT
 | di w=>
   intro _;rw [e] at hd;obtain⟨h0,vU,hl,⟨t,ht⟩,q,h1,h2⟩:=hd;exact PH hM hb w vU t ht q h1 h2 e hT
 | bH w=>
   intro _;rw [e] at hd;obtain⟨h0,vU,hl,⟨t,ht⟩,q,h1,h2⟩:=hd;exact U5 hM hk hb w vU t ht q h1 h2 e hT
 | fb=>
   intro _;rw [e] at hd;obtain⟨h0,vU,t,ht⟩:=hd;exact P1 hM hk hb t ht e hT _ _
 | ey=>
   intro pn;rw [e] at hd;obtain⟨h0,t,ht⟩:=hd;exact Sf hb t ht e pn _ _ _
 | eL p=>
   intro pn;exact mS.zB (gW (by rw [e];trivial)) (Ix p) pn
 | ic=>
   intro pn;exact mS.zB (gW (by rw [e];trivial)) ⟨trivial,trivial,.op M (by omega)⟩ pn
end
end
end Go.Stx
