/-
 The program's functions of words: those that made programs use (no variable [Gl] here).
-/
import Derived.Laws.FloatArith
import Derived.Test.YtnnbecihffpedaaGreatDoorG16
import Derived.Test.YtnnbecihffpedaaGreatDoorF5
set_option linter.unusedVariables false
set_option linter.unusedSimpArgs false
set_option linter.unusedSectionVars false
set_option maxRecDepth 20000
set_option maxHeartbeats 4000000
namespace Go.Stx
open Go Go.Proofs
attribute [local irreducible] TW bC cB aW az aG bZ cz
section
open Go.Proofs Go
theorem MK {b:Nat} (h:0x7ff0000000000000<b % 2^63):FloatKind.f64.format.order b b=none:=by
 show (Ieee.double.read b).order (Ieee.double.read b)=none;have e:∃s t,Ieee.double.read b=.nan s t:=by
  unfold Ieee.Format.read;have e1:Ieee.double.signWeight=2^63:=rfl;have e2:Ieee.double.binade=2^52:=rfl;have e3:Ieee.double.infRung=0x7ff0000000000000:=by decide
  rw [e1,e2,e3];dsimp only;rw [ap (by omega),ap (by omega),ap (by omega)];exact⟨_,_,rfl⟩
 obtain⟨s,t,e⟩:=e;rw [e];rfl
def BC (b:Nat):Int:=if FloatKind.f64.format.order b b=some .eq then b else 9221120237041090560
def LY (x y:Nat):Int:=match FloatKind.f64.format.add x y with
 | some r=>BC r
 | none=>9221120237041090560
theorem xO (x y:Nat) (w:World):Calls Tryz.prog 235 #[.int .i64 12,.float .f64 x,.float .f64 y] w λe w'=>e=.returned (.int .u64 (LY x y))/\(w'=w\/w'=w.drew):=by
 unfold LY;cases hadd:FloatKind.f64.format.add x y with
 | some r=>
   have hr:=λw=>run_float_arith (P:=Tryz.prog) w .add 312 .f64 x y r hadd
   go_enter Tryz.func235,Tryz.ntmps235
   go_wp2
   all_goals first
    | (go_ret;refine⟨?_,.inl rfl⟩;simp_all [BC];done)
    | (rw [run_callFunc_extern Tryz.func232 (by kernel_rfl) (by kernel_rfl) (by kernel_rfl) (e:=Extern.MathFloatBits.float64bits) (by kernel_rfl)]
       rw [show ∀w,(Extern.MathFloatBits.float64bits #[Value.float FloatKind.f64 r]).run Tryz.prog w=.ok (.int .u64 r) w from λw=>rfl];simp only [Result.andThen];rw [Oper.upon_value]
       go_wp2
       go_ret
       refine⟨?_,.inl rfl⟩;simp_all [BC];done)
 | none=>
   obtain⟨r,h1,hr⟩:∃r,0x7ff0000000000000<r % 2^63/\(binOp .add 312 (.float .f64 x) (.float .f64 y)).run Tryz.prog w=.ok (.float .f64 r) w.drew:=by
    refine⟨(Question.nanBits .f64 x y).cut (w.tape w.drawn (.nanBits .f64 x y)),?_,?_⟩;simp only [Question.cut];generalize w.tape w.drawn (Question.nanBits FloatKind.f64 x y)=t;have hu:t / 2 % (2 ^ 52-1)<2 ^ 52-1:=Nat.mod_lt _ (by decide);generalize t / 2 % (2 ^ 52-1)=u at hu ⊢;have hq:t % 2=0\/t % 2=1:=(by omega);rcases hq with hq|hq<;>rw [hq]<;>omega;simp [binOp,Op.floatArith,hadd,Question.forced]
   have h2:=MK h1
   go_enter Tryz.func235,Tryz.ntmps235
   go_wp2
   all_goals first
    | (go_ret;refine⟨?_,.inr rfl⟩;simp_all [BC];done)
    | (rw [run_callFunc_extern Tryz.func232 (by kernel_rfl) (by kernel_rfl) (by kernel_rfl) (e:=Extern.MathFloatBits.float64bits) (by kernel_rfl)]
       rw [show ∀w,(Extern.MathFloatBits.float64bits #[Value.float FloatKind.f64 r]).run Tryz.prog w=.ok (.int .u64 r) w from λw=>rfl];simp only [Result.andThen];rw [Oper.upon_value]
       go_wp2
       go_ret
       refine⟨?_,.inr rfl⟩;simp_all [BC];done)
theorem ID (x y:Int) (w:World):Calls Tryz.prog 147 #[.int .i64 12,.int .u64 x,.int .u64 y] w λe w'=>e=.returned (.tuple #[.int .u64 (LY x.toNat y.toNat),.int .i64 0])/\(w'=w\/w'=w.drew):=by
 have hf:=λx y w=>xO x y w
 go_enter Tryz.func147,Tryz.ntmps147
 go_wp2
 all_goals rw [run_callFunc_extern Tryz.func234 (by kernel_rfl) (by kernel_rfl) (by kernel_rfl) (e:=Extern.MathFloatBits.float64frombits) (by kernel_rfl)]
 all_goals rw [show ∀w,(Extern.MathFloatBits.float64frombits #[Value.int .u64 x]).run Tryz.prog w=.ok (.float .f64 x.toNat) w from λw=>rfl]
 all_goals simp only [Result.andThen]
 all_goals rw [Oper.upon_value]
 all_goals go_wp2
 all_goals rw [run_callFunc_extern Tryz.func234 (by kernel_rfl) (by kernel_rfl) (by kernel_rfl) (e:=Extern.MathFloatBits.float64frombits) (by kernel_rfl)]
 all_goals rw [show ∀w,(Extern.MathFloatBits.float64frombits #[Value.int .u64 y]).run Tryz.prog w=.ok (.float .f64 y.toNat) w from λw=>rfl]
 all_goals simp only [Result.andThen]
 all_goals rw [Oper.upon_value]
 all_goals go_wp2_with (go_at_call 235;refine(xO _ _ _).mono ?_;rintro e w' ⟨rfl,lp⟩)
 go_ret2
 exact⟨rfl,lp⟩
theorem Wm {m:Mp} {l l':List Value} (h:gQ m l l') (hp:∀v∈l,∃k n,v=.int k n):l'=l:=by
 induction l generalizing l' with
 | nil=>exact h.nL
 | cons v l ih=>
   obtain⟨v',t',rfl,hv,ht⟩:=h.kE;obtain⟨k,n,rfl⟩:=hp v (by simp);have e:v'=.int k n:=by cases hv;rfl
   rw [e,ih ht λx hx=>hp x (by simp [hx])]
theorem BD [Gl] {f:FuncId} {args:List Value} {x y:Int} (A:AW) (hc:i7 Tryz.prog f=true) (ha:∀v∈args,∃k n,v=.int k n)
 (h:∀w:World,Calls Tryz.prog f args.toArray w λe w'=>e=.returned (.tuple #[.int .u64 x,.int .i64 y])/\(w'=w\/w'=w.drew)):et f args A (.tuple #[.int .u64 x,.int .i64 y]):=by
 show az _ _ _ _ _;unfold az;refine⟨hc,λm w fL hs hl=>?_⟩;have e:=Wm hl ha;have e2:fL=args.toArray:=by apply Array.ext';simpa using e
 subst e2;refine(h w).mono ?_;rintro e w' ⟨rfl,hw⟩;refine⟨_,_,m,A,rfl,?_,?_,rfl,rfl⟩;rcases hw with rfl|rfl;exact(D5.refl _).evo hs;exact(D5.drew _).evo hs;refine .tuple rfl λi v v' h1 h2=>?_;rw [h1] at h2;injection h2 with h2;subst h2
 match i,h1 with
 | 0,h1=>injection h1 with h1;subst h1;exact .int _ _
 | 1,h1=>injection h1 with h1;subst h1;exact .int _ _
end
section
open T7
variable [Gl]
def TA (x y:Int):Int:=IntKind.u64.wrap (BitVec.ofInt 64 x ^^^ BitVec.ofInt 64 y).toNat
def II (fn x y:Int):Int:=if fn=0 then IntKind.u64.wrap (x+y) else if fn=1 then IntKind.u64.wrap (x-y) else if fn=5 then TA x y else if fn=8 then (if x=y then 1 else 0) else if fn=11 then (if x<y then 1 else 0) else LY x.toNat y.toNat
theorem DZ (b:Bool) (A:AW):et 260 [.bool b] A (.int .u64 (if b=true then 1 else 0)):=by
 refine aH Tryz.func260 λhw=>?_;cases b;refine W cy cy ?_<;>intros;exact⟨_,rfl,rfl,rfl⟩;refine W cy cy ?_<;>intros;exact⟨_,rfl,rfl,rfl⟩
theorem Gq (fn x y:Int) (h:fn=0\/fn=1\/fn=5\/fn=8\/fn=11) (A:AW):et 236 [.int .i64 fn,.int .u64 x,.int .u64 y] A (.int .u64 (II fn x y)):=by
 refine aH Tryz.func236 λhw=>?_;have ht:=λb A=>DZ b A;rcases h with rfl|rfl|rfl|rfl|rfl
 all_goals
  all_goals(revert hw;refine W (J1 @ht) trivial ?_<;>unhygienic intros)
  refine⟨_,rfl,?_,rfl⟩
  first|(simp [II,TA];done)|(simp [II,TA];rfl)
theorem rH (fn x y:Int) (h:fn=0\/fn=1\/fn=5\/fn=8\/fn=11) (A:AW):et 147 [.int .i64 fn,.int .u64 x,.int .u64 y] A (.tuple #[.int .u64 (II fn x y),.int .i64 0]):=by
 refine aH Tryz.func147 λhw=>?_;have hi:=λA=>Gq fn x y h A;generalize II fn x y=v at hi;rcases h with rfl|rfl|rfl|rfl|rfl
 all_goals
  all_goals(revert hw;refine W (J1 @hi) trivial ?_<;>unhygienic intros)
  exact⟨_,rfl,rfl,rfl⟩
instance madeAF:AF:=⟨i8⟩
theorem NF:D7 II:=λfn x y h A=>by
 rcases h with rfl|rfl|rfl|rfl|rfl|rfl;exact rH 0 x y (by simp) A;exact rH 1 x y (by simp) A;exact rH 5 x y (by simp) A;exact rH 8 x y (by simp) A;exact rH 11 x y (by simp) A;exact BD A (by kernel_rfl) (by simp) λw=>ID x y w
end
section
variable [Gl]
structure PS (B:Nat) (A:AW) (vp:Value) (us:List Value) (ps:List (List bg)):Prop where
 own:ez B A 1 vp us.length us
 len:us.length=ps.length
 el:∀i (hi:i<ps.length),∃u,us[i]? = some u/\ez B A 5 u ps[i].length (ps[i].flatMap ao)/\∀j,gK vp=some j->gK u≠some j
theorem ez.DE {B C:Nat} (hc:C<=B) {A:AW} {size:Nat} {v:Value} {n:Nat} {cs:List Value} (h:ez B A size v n cs):ez C A size v n cs:=by
 rcases h with h|⟨p,c,cD,h1,h2,hs,h3,h4,h5⟩;exact .inl h;exact .inr ⟨p,c,cD,h1,h2,hs,by omega,h4,h5⟩
end
section
open T7
variable [Gl]
structure SB (A:AW) (b:Nat) (A':AW):Prop where
 next:A.next<=A'.next
 bt:∀i,i<A.next->i≠b->A'.bt i=A.bt i
end
section
variable [Gl]
theorem Ql {A:AW} {B:Nat} {v:Value} {n:Nat} {cs:List Value} (x y:bg) (pd:ez B A 5 v n cs) (hn:n<2 ^ 30) (hB:B<=A.next) (hw:A.Wf) :
 ∃v' A',eK Tryz.prog (A.alloc (.cells (ao x++ao y) true 5)) 30 30 v (.slice (some ⟨A.next,0,none⟩) 2 2)=some (v',A')/\ez B A' 5 v' (n+2) (cs++(ao x++ao y))/\Su B A A' v v':=by
 have HX:=ez.le (AW.le.alloc A (.cells (ao x++ao y) true 5)) hw pd;have iN:ga (A.alloc (.cells (ao x++ao y) true 5)) 5 (.slice (some ⟨A.next,0,none⟩) 2 2)=some (2,ao x++ao y):=by
  simp [ga,AW.cD,ao]
 obtain⟨v',A',h1,h2,h3,h4,h5,h6,h7⟩:=li (P:=Tryz.prog) (size:=5) (t:=30) Tryz.underlying30 Tryz.info33 Tryz.zero33 rfl rfl (by omega) HX iN (by simp [ao,Value.oneCell']) (by omega) (by show (n+2)*40<=140737488355328;omega) (by rw [AW.bx];omega) (hw.alloc _);refine⟨v',A',h1,h2,λA0 ha hl=>h3 A0 ha (hl.trans (AW.le.alloc A _)),h4,by rw [AW.bx] at h5;omega,λj hj gl=>?_,λj hj=>?_⟩;rw [h6 j (by simp;omega) gl,AW.fz _ _ (by omega)];rcases h7 with rfl|h7;exact .inl hj;rw [h7] at hj;injection hj with hj;simp at hj;exact .inr (by omega)
structure RJ (A0 A:AW) (vp u:Value) (ps q:List bg):Prop where
 own:ez A0.next A 5 vp ps.length (ps.flatMap ao)
 QA:ez A0.next A 5 u q.length (q.flatMap ao)
 Ct:∀j,gK vp=some j->gK u≠some j
 le:A0.le A
 wf:A.Wf
section
variable {A0 A:AW} {vp u:Value} {ps q:List bg}
theorem RJ.nil (A:AW) (hw:A.Wf):RJ A A (.slice none 0 0) (.slice none 0 0) [] []:=⟨ez.nil _ _ _,ez.nil _ _ _,λj hj=>(by cases hj),AW.le.refl A,hw⟩
theorem RJ.kQ {tc:Value} {A':AW} {ps':List bg} (h:RJ A0 A vp u ps q) (h2:ez A0.next A' 5 tc ps'.length (ps'.flatMap ao)) (k:Su A0.next A A' vp tc):RJ A0 A' tc u ps' q:=by
 refine⟨h2,h.QA.BG λj hj=>k.bt j (h.QA.lt h.wf hj).2 λe2=>h.Ct j e2 hj,λj hj uB=>?_,k.le A0 (Nat.le_refl _) h.le,k.wf⟩;rcases k.kD j hj with e2|e2;exact h.Ct j e2 uB;have:=(h.QA.lt h.wf uB).2;omega
theorem RJ.eX (h:RJ A0 A vp u ps q) (hn:ps.length<2 ^ 30) (x:bg) :
 ∃tc A',eK Tryz.prog (A.alloc (.cells (ao x) true 5)) 30 30 vp (.slice (some ⟨A.next,0,none⟩) 1 1)=some (tc,A')/\RJ A0 A' tc u (ps++[x]) q:=by
 obtain⟨tc,A',e,h2,k⟩:=L9 x h.own hn h.le.next h.wf;exact⟨tc,A',e,h.kQ (by simpa [List.flatMap_append] using h2) k⟩
theorem RJ.ins2 (h:RJ A0 A vp u ps q) (hn:ps.length<2 ^ 30) (x y:bg) :
 ∃tc A',eK Tryz.prog (A.alloc (.cells (ao x++ao y) true 5)) 30 30 vp (.slice (some ⟨A.next,0,none⟩) 2 2)=some (tc,A')/\RJ A0 A' tc u (ps++[x,y]) q:=by
 obtain⟨tc,A',e,h2,k⟩:=Ql x y h.own hn h.le.next h.wf;exact⟨tc,A',e,h.kQ (by simpa [List.flatMap_append] using h2) k⟩
theorem RJ.body {B:AW} {w:Value} {r:List bg} (h:RJ A0 A vp (.slice none 0 0) ps []) (hs:ez A.next B 5 w r.length (r.flatMap ao)) (hl:A.le B) (hw:B.Wf):RJ A0 B vp w ps r:=
 ⟨h.own.le hl h.wf,hs.DE h.le.next,λj hj uB=>by have:=(h.own.lt h.wf hj).2;have:=(hs.lt hw uB).1;omega,h.le.trans hl,hw⟩
end
theorem MA {P:Program} {fn:FuncId} {args:List Value} {X Y:Nat->It} {g:Nat->Nat->Value} {A:AW} (h:∀F,ah A [.h F]->az P fn args A (λv A'=>∃pb mb,v=g pb mb/\ah A' [X pb,Y mb,.h F])) {L:List It} {k:Value->AW->Prop} (hS:ah A L) (hk:∀pb mb A',ah A' (X pb::Y mb::L)->A'.Wf->k (g pb mb) A'):az P fn args A k:=by
 have mT:ah A [.h (aL L)]:=by
  unfold ah at *;show bn A (aL L*eP);rwa [dt]
 refine bV (h (aL L) mT) ?_;rintro _ A' ⟨pb,mb,rfl,h2⟩ lp _;refine hk pb mb A' ?_ lp;unfold ah at *;have h3:bn A' ((X pb).hp*((Y mb).hp*(aL L*eP))):=h2;rwa [dt] at h3
theorem M9 (A:AW):ah A [.h (H0 A.bt)]:=by
 show bn A (H0 A.bt*eP);rw [dt];exact⟨_,rfl,λi o h=>h⟩
theorem vL (b:Nat) (t:aV) {A:AW} {L K:List It} {k:Value->AW->Prop} (hw:A.Wf) (hS:ah A L) (hp:aB L (.h (yg b t)) K) (hk:∀(u:Nat) A',ah A' L->A'.Wf->A.le A'->k (NS t.d) A'):az Tryz.prog 12 [pv b] A k:=by
 obtain⟨⟨⟨b8,dS,jr,eC,vs,vo⟩,vc⟩,mg⟩:=yg.open hS hp;dsimp only [Dg,aa,af] at mg;exact Ha b t.d _ hw mg .z λu A' _ lp fo=>hk u A' (ah.le hS hw fo) lp fo
theorem NK.av [AF] {c:bH} {p:List bg} {v:Nat->Int} {n i:Nat} {t:aV} {M:Mm} (h:NK c p v n i t M) (hd:t.done=false):t.av=p:=by
 obtain⟨m,_,h3⟩:=h.st;rcases h3 with h3|⟨s,j,_,hB,_⟩|h3;exact h3.1;exact hB.co;rw [h3.1] at hd;cases hd
end
section
abbrev iY:List (Nat×Nat):=[(0,0),(1,0),(2,0),(3,0),(4,0),(5,0),(6,0),(7,2),(8,0),(9,2),(10,3),(11,0)]
abbrev iX:List (Nat×Nat):=[(0,0),(1,0),(2,0),(3,0),(4,0),(5,0),(6,0),(7,0),(8,0),(9,2),(10,0),(11,0)]
open T29
variable [Gl]
def rlV (bl:List Int) (w:Int) (i:Nat):Int:=jR (bl.getD i 0) w
theorem MB {c:bH} (zs:List Int):D3 (jE c 1 zs)/\Tz (jE c 1 zs):=by
 refine⟨⟨λj=>?_,rfl⟩,rfl,rfl⟩;show (List.replicate c.am.toNat (0:Int)).getD j 0=0;rw [List.getD_eq_getElem?_getD,List.getElem?_replicate];split<;>rfl
theorem Tl {bl:List Int} (h:bl.length=8) {i:Nat} (hi:i<8):(bl.map (Value.int .i64))[i]? = some (.int .i64 (bl.getD i 0)):=by
 rw [List.getElem?_map,List.getD_eq_getElem?_getD,List.getElem?_eq_getElem (by omega)];rfl
theorem Ii (q:List bg) {j:Nat} (hj:j<q.length):(q.take (j+1)).filter kz=(q.take j).filter kz++if kz q[j]=true then [q[j]] else []:=by
 rw [List.take_succ_eq_append_getElem hj,List.filter_append];congr 1;by_cases h:kz q[j]=true;rw [ay h,List.filter_cons_of_pos h];rfl;rw [ap h,List.filter_cons_of_neg h];rfl
theorem yu (hF:FOK) (hAw:∀B:AW,az Tryz.prog 6 [] B (λv A'=>v=.bool true/\B=A')) (l0 l1 l2 l3 l4:Int) (vl:Value) (l:List Int) (e0 e1 e2 e3 e4 e5 e6 e7:Int) (A:AW) (hL:dz A .i64 vl l) :
 az Tryz.prog 3 [.agg #[.int .i64 l0,.int .i64 l1,.int .i64 l2,.int .i64 l3,.int .i64 l4],vl,.agg #[.int .i64 e0,.int .i64 e1,.int .i64 e2,.int .i64 e3,.int .i64 e4,.int .i64 e5,.int .i64 e6,.int .i64 e7]] A (λu A'=>u=.bool true):=by
 have hn:=hF.n;refine aH Tryz.func3 λhw=>?_;obtain⟨ol,cl,rfl,_⟩:=hL.dO;obtain⟨c,hmk,hcfg⟩:=Is l0 l1 l2 l3 l4;have UP:=hmk.few;have hcC:cx c:=UP.ok;have V2:=hmk.aR;have hcr:=hmk.reads;have hca:=hmk.ag;have cL:=fun(A:AW) F hw hS=>Bl c UP 1 (by decide) (by decide) A F hw hS;have e2':((1:Nat):Int)=1:=rfl;rw [e2'] at cL;dsimp only [bH.v] at cL hcfg;by_cases U0:30<l.length
 . refine W (J3 (od iY) (od iX) @hAw) (J1 U0) ?_<;>intros
   all_goals(first|exact⟨_,by first|rfl|(simp;rfl),by first|rfl|(simp;done)⟩|(refine ⟨_,by first|rfl|(simp;rfl),?_⟩;simp;done))
 revert hw;(repeat first|clear hw|revert hc|revert R|revert K);refine W (J3 (od iY) (od iX) @hcfg) (J2 U0 bF) ?_<;>(unhygienic intros);refine Gh (λA1=>A.le A1/\A1.Wf/\A1.next=A.next+3/\A1.bt (A.next+1)=some (.cells ([e0,e1,e2,e3,e4,e5,e6,e7].map (Value.int .i64)) true 1)/\A1.bt (A.next+2)=some (oN c)) ?_ ?_;refine⟨((AW.le.alloc A _).trans (AW.le.alloc _ _)).trans (AW.le.kQ _ _ _),(((hw.alloc _).alloc _).alloc _).set _ (by simp),by simp,?_,?_⟩;simp [AW.eY,AW.dM,Nat.add_assoc];simp [AW.eY,AW.dM,oN,Nat.add_assoc];rintro A1 ⟨hle1,i5,DO,hbB,hbF⟩;have hL1:=hL.le hle1 hw;obtain⟨bl,H2⟩:∃bl,[e0,e1,e2,e3,e4,e5,e6,e7]=bl:=⟨_,rfl⟩;rw [H2] at hbB;have hb8:bl.length=8:=by rw [<-H2];rfl
 clear H2;unfold oN at hbF;obtain⟨v,hv⟩:∃v,rlV bl c.aR=v:=⟨_,rfl⟩;have hcP:∀(i:Nat) B,az Tryz.prog 8 [.int .i64 (bl.getD i 0),.int .i64 c.aR] B (λu B'=>u=.int .i64 (v i)/\B=B'):=λi B=>by
  rw [<-hv];exact ij (bl.getD i 0) c.aR B (by omega) (by omega)
 have Ur:∀i,0<=v i/\v i<c.aR:=λi=>by
  rw [<-hv];exact fB _ _ (by omega)
 refine rG (λfr A'=>∃vp,fr 1=.slice ol l.length cl/\fr 5=pv (A.next+1)/\fr 7=pv (A.next+2)/\fr 8=vp/\RJ A1 A' vp (.slice none 0 0) (mO v 8) []) ?_ ?_;refine dW (λk fr A'=>∃(i:Nat) (vp:Value),k=8-i/\i<=8/\fr 1=.slice ol l.length cl/\fr 5=pv (A.next+1)/\fr 7=pv (A.next+2)/\fr 8=vp/\fr 9=.int .i64 i/\RJ A1 A' vp (.slice none 0 0) (mO v i) []) 8 ?_ ?_;exact⟨0,_,rfl,by omega,by simp,by simp,by simp,by simp,by simp,RJ.nil A1 i5⟩;rintro k fr A' ⟨i,vp,rfl,hi,g1,g5,g7,g8,g9,hJ⟩;have hbB':=hJ.le.sZ i5 hbB;have hbF':=hJ.le.sZ i5 hbF;by_cases cF:i<8;have hP:=D9 (i:=i);have hcell:=Tl hb8 cF;obtain⟨tc,A5,e5,EL⟩:=hJ.eX (by rw [kL];omega) ⟨1,i,0,0,v i⟩;simp only [ao] at e5;have cP:=hcP i;generalize bl.getD i 0=y at hcell cP;rw [<-Iu] at EL;generalize bl.map (Value.int .i64)=brow at hbB' hcell;refine bh ?_;refine W (J3 (od iY) (od iX) @cP) (rL g1 g5 g7 g8 g9 cF hP hbB' hbF' hcell e5 @AW.ab) ?_<;>intros;refine⟨8-(i+1),by omega,i+1,tc,rfl,by omega,by simp [g1],by simp [g5],by simp [g7],by simp,by simp,EL⟩
 have hi8:i=8:=by omega
 subst hi8;refine bh ?_;refine W (J2 (od iY) (od iX)) (J5 g1 g5 g7 g8 g9) ?_<;>intros;exact⟨vp,by simp [g1],by simp [g5],by simp [g7],by simp [g8],hJ⟩;rintro fr A2 ⟨vp,g1,g5,g7,g8,hJ⟩;obtain⟨vp2,A3,e3',Kn⟩:=hJ.eX (by rw [kL];omega) ⟨7,0,0,0,1⟩;simp only [ao] at e3';have cPr:=BB hn (.slice ol l.length cl) l 30 true false A3 (hL1.le Kn.le i5) (by decide);revert hw;(repeat first|clear hw|revert hc|revert R|revert K);refine W (J2 (od iY) (od iX)) (J6 g1 g5 g7 g8 e3' @AW.ab) ?_<;>(unhygienic intros);refine cPr.mono ?_;rintro u A4 ⟨q,_,hq1,M6,VQ,QF,hq3,hq4,hq5⟩
 first|refine⟨M6,?_⟩|skip
 have QM:=Kn.body hq1 M6 VQ;clear hq1 Kn cPr hJ;obtain⟨ob,cb,hu2,_⟩:=QM.QA.is.dO;subst hu2;revert hw;(repeat first|clear hw|revert hc|revert R|revert K);refine W (J2 (od iY) (od iX)) (J3 g1 g5 g7) ?_<;>(unhygienic intros);refine rG (λfr A'=>∃vp,fr 5=pv (A.next+1)/\fr 7=pv (A.next+2)/\fr 8=vp/\RJ A1 A' vp (.slice ob q.length cb) (mO v 8++[⟨7,0,0,0,1⟩]++q.filter kz) q) ?_ ?_
 . refine dW (λk fr A'=>∃(j:Nat) (vp:Value),k=q.length-j/\j<=q.length/\fr 5=pv (A.next+1)/\fr 7=pv (A.next+2)/\fr 8=vp/\fr 10=.slice ob q.length cb/\fr 11=.int .i64 j/\RJ A1 A' vp (.slice ob q.length cb) (mO v 8++[⟨7,0,0,0,1⟩]++(q.take j).filter kz) q) q.length ?_ ?_;exact⟨0,vp2,rfl,Nat.zero_le _,by simp [g5],by simp [g7],by simp,by simp,by simp,by simpa using QM⟩;clear QM g1 g5 g7 g8;rintro k fr A' ⟨j,vp,rfl,hj,g5,g7,g8,kT,jX,hJ⟩;by_cases cF:j<q.length
   . have hP:IntKind.i64.wrap ((j:Int)+1)=((j+1:Nat):Int):=an (by omega) (by omega);obtain⟨x1,c1,r1,w1,q1,q2,q3,q4⟩:=TS (f:=ao) (λ_=>rfl) hJ.QA.is cF;injection q1 with q1 _ q5;subst q1 q5;have cL:q.length-j=(q.length-(j+1))+1:=(by omega);have hft:=Ii q cF;have hll:(mO v 8++[(⟨7,0,0,0,1⟩:bg)]++(q.take j).filter kz).length<2 ^ 30:=by
      have:=List.length_filter_le kz (q.take j);rw [List.length_take] at this;rw [List.length_append,List.length_append,kL,List.length_singleton];omega
     obtain⟨tc,A5,e5,EL⟩:=hJ.eX hll q[j];rw [List.append_assoc _ _ [q[j]]] at EL;by_cases rQ:kz q[j]=true;rw [ay rQ] at hft;rw [<-hft] at EL;have M7:=of_decide_eq_true rQ;generalize q[j]=x at q4 e5 M7;obtain⟨y1,y2,y3,y4,y5⟩:=x;dsimp only [ao] at q4 e5 M7;have q5:=congrArg (λz:List Value=>z[0]?) q4;simp [List.getElem?_take,List.getElem?_drop] at q5;obtain⟨n1,n2,n3,n4,n5,n6⟩:=M7;refine bh ?_;refine W (J2 (od iY) (od iX)) (J19 g5 g7 g8 kT jX cF hP q2 q3 q4 q5 e5 n1 n2 n3 n4 n5 n6 @AW.ab) ?_<;>intros;refine⟨q.length-(j+1),by omega,j+1,tc,rfl,by omega,by simp [g5],by simp [g7],by simp,by simp [kT],by simp,EL⟩;rw [ap rQ,List.append_nil] at hft;have M7:¬(q[j].op≠7/\q[j].op≠8/\q[j].op≠17/\q[j].op≠5/\q[j].op≠6/\q[j].op≠4):=λh=>rQ (decide_eq_true h);rw [<-hft] at hJ;generalize q[j]=x at q4 M7;obtain⟨y1,y2,y3,y4,y5⟩:=x;dsimp only [ao] at q4 M7;have q5:=congrArg (λz:List Value=>z[0]?) q4;simp [List.getElem?_take,List.getElem?_drop] at q5
     have hin3:y1=7\/y1=8\/y1=17\/y1=5\/y1=6\/y1=4:=(by omega);refine bh ?_;rcases hin3 with rfl|rfl|rfl|rfl|rfl|rfl
     all_goals(
      all_goals(revert hw;(repeat first|clear hw|revert hc|revert R|revert K);refine W (J2 (od iY) (od iX)) (rL g5 g7 g8 kT jX cF hP q2 q3 q4 q5 @AW.ab) ?_<;>unhygienic intros)
      refine⟨q.length-(j+1),by omega,j+1,vp,rfl,by omega,by simp [g5],by simp [g7],by simp [g8],by simp [kT],by simp,hJ⟩)
   have hj8:j=q.length:=(by omega);subst hj8;rw [List.take_length] at hJ;refine bh ?_;refine W (J2 (od iY) (od iX)) (J5 g5 g7 g8 kT jX) ?_<;>intros;exact⟨vp,by simp [g5],by simp [g7],by simp [g8],hJ⟩
 clear QM g1 g5 g7 g8;rintro fr A5 ⟨vp,g5,g7,g8,hJ⟩;have hq30:q.length<=31:=by omega
 have hll:(mO v 8++[(⟨7,0,0,0,1⟩:bg)]++q.filter kz).length<2 ^ 30:=by
  have:=List.length_filter_le kz q;rw [List.length_append,List.length_append,kL,List.length_singleton];omega
 obtain⟨vp2,A6,e6',V8⟩:=hJ.ins2 hll ⟨9,0,0,0,0⟩ ⟨8,0,0,0,0⟩;have N0:mO v 8++[⟨7,0,0,0,1⟩]++q.filter kz++[⟨9,0,0,0,0⟩,⟨8,0,0,0,0⟩]=iE v q:=by unfold iE;simp
 rw [N0] at V8;simp only [ao,aa,af] at e6';have RO:=OC (v:=v) (QF (by decide)) hq3 hq4 (by omega);have hQ:=rl_q (v:=v) (QF (by decide)) hq3 hq4;have sS:=(Lo (v:=v) (QF (by decide)) hq3 hq4).2;have s4:(iE v q).length<=42:=by rw [Jn];have:=List.length_filter_le kz q;omega
 have UI:kl A6 vp2 (iE v q):=V8.own.is;have hbB6:=V8.le.sZ i5 hbB;have UX:=V8.le.sZ i5 hbF;have hw:=V8.wf;clear hJ QF hq3 hq4 N0 hll;generalize iE v q=p at *;obtain⟨op,cp,u6,_⟩:=UI.dO;subst u6;clear V8;have hZ:=MB (c:=c) (ir c);have hM:=Eh UP 1 (vE hcC);have hal':La p:=sS;revert hw;(repeat first|clear hw|revert hc|revert R|revert K);refine W (J2 (od iY) (od iX)) (J6 g5 g7 g8 e6' UX @AW.ab) ?_<;>(unhygienic intros);refine MA (L:=[.h (H0 A6.bt)]) (λF h=>cL _ F hw h) (M9 A6) ?_;clear hw cL;intro pb mb A7 hS hw;have hk7:C1 A6 A7:=hS.keeps 2 rfl;have UW:=hk7 _ _ UX;have hin7:kl A7 (.slice op p.length cp) p:=gZ.keeps hk7 UI;have hlF:=hw.lt UW;have aaa:¬A.next+2=A7.next:=by omega
 have hq:=rD hS hw;revert hq hS hw;(repeat first|clear hq|clear hS|clear hw|revert hc|revert R|revert K);refine W (J2 (od iY) (od iX)) (J6 g5 g7 g8 UW aaa bF) ?_<;>(unhygienic intros);obtain⟨N2,hN2⟩:∃N2,N2=A7.next:=⟨_,rfl⟩;generalize jE c 1 (ir c)=M0 at *;refine HC hF hcC 0 1 (by omega) _ p RO (L:=[.at N2 (.cells [pv pb,pv mb] true 1),dH pb M0,.h (H0 A6.bt)]) ?_ ?_ (gZ.le (AW.le.kQ A7 _ _) hw hin7) ?_;exact wA;rw [hN2];apply ah.bI
 (·exact sA)
 (·first|exact rN|exact rP)
 clear hS hw UI hin7 hq aaa hlF UW hk7;rw [<-hN2];intro b A8 hS hw _;have hq:=rD hS hw;revert hq hS hw;(repeat first|clear hq|clear hS|clear hw|revert hc|revert R|revert K);refine W (J2 (od iY) (od iX)) (J4 g5 g7 g8 bF) ?_<;>(unhygienic intros);refine rG (λfr A'=>A'.Wf/\∃(i:Nat) (t:aV) (M:Mm),fr 5=pv (A.next+1)/\fr 7=pv (A.next+2)/\fr 15=pv b/\NK c p v 600 i t M/\(t.done=true\/600<=i)/\ah A' [.h (yg b t),dH pb M,.at N2 (.cells [pv pb,pv mb] true 1),.h (H0 A6.bt)]) ?_ ?_
 . refine dW (λk fr A'=>A'.Wf/\∃(i:Nat) (t:aV) (M:Mm),k=600-i/\i<=600/\fr 5=pv (A.next+1)/\fr 7=pv (A.next+2)/\fr 13=pv N2/\fr 15=pv b/\fr 17=.int .i64 i/\NK c p v 600 i t M/\ah A' [.h (yg b t),dH pb M,.at N2 (.cells [pv pb,pv mb] true 1),.h (H0 A6.bt)]) 600 ?_ ?_;refine⟨?_,0,wd c 0 1 p,M0,rfl,by omega,by simp [g5],by simp [g7],by simp,by simp,by simp,NK.ot hcC hQ RO hM hZ.1 hZ.2 (by omega),?_⟩;exact wA;apply ah.bI
   (·exact sA)
   (·first|exact rN|exact rP)
   clear hS hw hq g5 g7 g8;rintro k fr A9 ⟨hw,i,t,M,rfl,hi,g5,g7,g13,Te,U2,hJ,hS⟩;have hq:=rD hS hw;by_cases cF:i<600
   . have fZ:(i:Int)<600:=(by omega);have hP:=D9 (i:=i);have cL:600-i=(600-(i+1))+1:=(by omega);cases hd:t.done with
     | true=>
       have Km:t.d.done=true:=hd;refine bh ?_;revert hq hS hw;(repeat first|clear hq|clear hS|clear hw|revert hc|revert R|revert K);refine W (J3 (Tg.mk (n:=15) (λ{A L K k}=>vL (A:=A) (L:=L) (K:=K) (k:=k) b t)) (od iY) (od iX)) (J9 g5 g7 g13 Te U2 fZ Km @NS.eq_1 bF) ?_<;>(unhygienic intros);refine⟨?_,i,t,M,by simp [g5],by simp [g7],by simp [Te],hJ,.inl hd,?_⟩;exact wA;apply ah.bI
       (·exact sA)
       (·first|exact rN|exact rP)
     | false=>
       have Km:t.d.done=false:=hd;have HV:=Lg NF hF hcC (by omega) b pb t M hJ.mo hJ.ok (by rw [hJ.av hd];exact hal') hd;have Ko:=NK.step (eW:=II) hcC (by omega) hQ hJ hd;generalize t.step II M=r at HV Ko;refine bh ?_;revert hq hS hw;(repeat first|clear hq|clear hS|clear hw|revert hc|revert R|revert K);refine W (J4 (Tg.mk (n:=15) (λ{A L K k}=>vL (A:=A) (L:=L) (K:=K) (k:=k) b t)) (Tg.mk (n:=32) @HV) (od iY) (od iX)) (IX g5 g7 g13 Te U2 fZ hP Km @NS.eq_1 @dL.eq_1 bF) ?_<;>(unhygienic intros);refine⟨600-(i+1),by omega,?_,i+1,r.2.2.2.1,r.2.2.2.2,rfl,by omega,by simp [g5],by simp [g7],by simp [g13],by simp [Te],by simp,Ko,?_⟩;exact wA;apply ah.bI
       (·exact sA)
       (·first|exact rN|exact rP)
   have hi6:i=600:=(by omega);subst hi6;have fZ:¬(((600:Nat):Int)<600):=(by omega);refine bh ?_;revert hq hS hw;(repeat first|clear hq|clear hS|clear hw|revert hc|revert R|revert K);refine W (J2 (od iY) (od iX)) (J7 g5 g7 g13 Te U2 fZ bF) ?_<;>(unhygienic intros);exact⟨hw,600,t,M,by simp [g5],by simp [g7],by simp [Te],hJ,.inr (Nat.le_refl _),hS⟩
 clear hS hw hq g5 g7 g8;rintro fr A9 ⟨hw,i,t,M,g5,g7,Te,hJ,pf,hS⟩;obtain⟨mr,WV,mu⟩:=hJ.bI hQ.l0 pf;have PH:t.d.done=true:=mr;have hrg':t.d.df=SD v:=WV;have wB:lm t.d.gA:=mu;have hq:=rD hS hw
 repeat' (first|(refine jK λR hR=>?_;simp [an,ax,hq,g5,g7,Te,NS,PH,hrg',R8.cells,SD,AW.ab,aD];try simp (disch:=omega) only [ay,ap,an,ax])|(refine hR _ _ ?_;clear hR R)|(refine hK _ _ ?_;clear hK K)|refine nx ?_|refine wn λK hK=>?_|simp only [wS,iY,iX]|refine wl Tryz.mx iY (by decide +kernel) λK hK=>?_|refine wl Tryz.mx iX (by decide +kernel) λK hK=>?_|(apply vL b t;(·exact wA);(·exact sA);(·first|exact pA|exact kA);((first|rintro _ _ _ hS hw fo|rintro _ _ hS hw fo|rintro _ _ hS hw);(try refine⟨fo,?_⟩);(try dsimp only [AW.bx] at hS);have hq:=rD hS hw))|(show cB _ _ _ _ _ _;refine nx ?_)|(refine wc rfl (λhc=>?_) (λhc=>?_)<;>(try simp at hc)<;>(try omega))|(refine ib (λhc=>?_) (λhc=>?_)<;>(try omega)<;>(try simp (disch:=omega) only [ay,ap])))
 rename_i _ A10;have hk10:C1 A6 A10:=hS.keeps 3 rfl;have S9:=hk10 _ _ UX;have Ta:=hk10 _ _ hbB6;obtain⟨sp,yM⟩:∃sp,A10.next=sp:=⟨_,rfl⟩;have n1:¬A.next+2=sp:=by have:=hw.lt S9;omega
 have n2:¬A.next+1=sp:=by have:=hw.lt Ta;omega
 refine Gh (λB=>B.bt sp=some (.cells [.int .i64 t.d.pc,.int .u64 (IntKind.u64.wrap (v 0)),.int .u64 (IntKind.u64.wrap (v 1)),.int .u64 (IntKind.u64.wrap (v 2)),.int .u64 (IntKind.u64.wrap (v 3)),.int .u64 (IntKind.u64.wrap (v 4)),.int .u64 (IntKind.u64.wrap (v 5)),.int .u64 (IntKind.u64.wrap (v 6)),.int .u64 (IntKind.u64.wrap (v 7)),.int .i64 t.d.gA,.bool true] true 1)/\B.bt (A.next+1)=some (.cells (bl.map (Value.int .i64)) true 1)/\B.bt (A.next+2)=some (oN c)) ?_ ?_;refine⟨by simp [AW.eY,AW.dM,yM],by simp [AW.eY,AW.dM,yM,n2,Ta],by simp [AW.eY,AW.dM,yM,n1,S9,oN]⟩;rintro A11 ⟨hgS,hgB,hgF⟩;unfold oN at hgF;obtain⟨TK,wO⟩:∃r:List Value,[.int .i64 t.d.pc,.int .u64 (IntKind.u64.wrap (v 0)),.int .u64 (IntKind.u64.wrap (v 1)),.int .u64 (IntKind.u64.wrap (v 2)),.int .u64 (IntKind.u64.wrap (v 3)),.int .u64 (IntKind.u64.wrap (v 4)),.int .u64 (IntKind.u64.wrap (v 5)),.int .u64 (IntKind.u64.wrap (v 6)),.int .u64 (IntKind.u64.wrap (v 7)),.int .i64 t.d.gA,.bool true]=r:=⟨_,rfl⟩
 rw [wO] at hgS;have hs:∀j,j<8->TK[1+j]? = some (Value.int .u64 (IntKind.u64.wrap (v j))):=λj hj=>by
  subst wO;have:j=0\/j=1\/j=2\/j=3\/j=4\/j=5\/j=6\/j=7:=by omega
  rcases this with rfl|rfl|rfl|rfl|rfl|rfl|rfl|rfl<;>rfl
 have ho:TK[9]? = some (.int .i64 t.d.gA):=by subst wO;rfl
 have hd:TK[10]? = some (.bool true):=by subst wO;rfl
 clear wO hS hw;refine rG (λfr A'=>A11=A'/\fr 18=pv sp) ?_ ?_;refine dW (λk fr A'=>A11=A'/\∃j:Nat,k=8-j/\j<=8/\fr 5=pv (A.next+1)/\fr 7=pv (A.next+2)/\fr 18=pv sp/\fr 19=.int .i64 j) 8 ?_ ?_;exact⟨rfl,0,rfl,by omega,by simp [g5],by simp [g7],by simp [yM],by simp⟩;clear g5 g7;rintro k fr A' ⟨rfl,j,rfl,hj,g5,g7,Wc,g19⟩;by_cases cF:j<8;have hP:IntKind.i64.wrap ((j:Int)+1)=((j+1:Nat):Int):=an (by omega) (by omega);have hcell:=Tl hb8 cF;have cP:=hcP j;have hsj:=hs j cF;have cL:8-j=(8-(j+1))+1:=by omega
 generalize bl.getD j 0=y at hcell cP;generalize bl.map (Value.int .i64)=brow at hgB hcell;refine bh ?_;refine W (J3 (od iY) (od iX) @cP) (rL g5 g7 Wc g19 cF hP hgS hgB hgF hcell hsj @AW.ab) ?_<;>intros;refine⟨8-(j+1),by omega,rfl,j+1,rfl,by omega,by simp [g5],by simp [g7],by simp [Wc],by simp⟩;have hj8:j=8:=by omega
 subst hj8;refine bh ?_;refine W (J2 (od iY) (od iX)) (J4 g5 g7 Wc g19) ?_<;>intros;exact⟨rfl,by simp [Wc]⟩;clear g5 g7;rintro fr A' ⟨rfl,Wc⟩;rcases wB with e|e|e|e|e
 all_goals(
  rw [e] at ho
  all_goals(revert hq hS hw;(repeat first|clear hq|clear hS|clear hw|revert hc|revert R|revert K);refine W (J3 (od iY) (od iX) @hAw) (J5 Wc hgS ho hd @AW.ab) ?_<;>unhygienic intros)
  all_goals(first|exact⟨_,by first|rfl|(simp;rfl),by first|rfl|(simp;done)⟩|(refine ⟨_,by first|rfl|(simp;rfl),?_⟩;simp;done)))
end
section
variable [Gl]
instance noAF:AF:=⟨λ_=>False⟩
theorem WH:D7 λ_ _ _=>0:=λfn x y h=>h.elim
def sW:bH:=⟨4,2,0,0,0,0,0,2,2,0,0,9,false⟩
def WC:List bg:=[⟨7,0,0,0,2⟩,⟨11,0,1,0,0⟩,⟨8,0,0,0,0⟩]
def alu0:Int->Int->Int->Int:=λ_ _ _=>0
def jO:Nat->aV×Mm
 | 0=>(wd sW 0 1 WC,jE sW 1 (ir sW))
 | i+1=>((jO i).1.step alu0 (jO i).2).2.2.2
theorem EQ:rM sW:=⟨⟨by decide,by decide,by decide,by decide,by decide,by decide,by decide,by decide,by decide,by decide,by decide,by decide,by decide,by decide⟩,by decide,by decide,rfl,rfl⟩
theorem Ti:(cK WC).2=0:=by decide +kernel
theorem Ve:∀i,i<15->(jO i).1.done=false:=by decide +kernel
theorem end20:(jO 15).1.done=true/\(jO 15).1.pc=3/\(jO 15).1.gA=1/\(jO 15).1.hU=1/\(jO 15).1.gx.map (λo=>(o.pc,o.gd,o.val))=[(0,3,1)]:=by decide +kernel
theorem ok20 (i:Nat) (hi:i<2^30):j5 sW 1 i (jO i).1/\js sW 1 i (jO i).2:=by
 induction i with
 | zero=>exact⟨Ew ⟨by decide,by decide,by decide⟩ Ti,Eh EQ 1 (vE EQ.ok)⟩
 | succ i ih=>
   obtain⟨h1,h2⟩:=ih (by omega);exact Lj EQ.ok (by omega) h2 h1
theorem Vh (i:Nat):(jO i).1.av=WC:=by
 induction i with
 | zero=>rfl
 | succ i ih=>exact Ef.trans ih
end
section
open T29
variable [Gl]
theorem Jf {P:Program} {fn:FuncId} {args:List Value} {X Y:Nat->It} {g:Nat->Nat->Value} {A:AW} (h:∀F,ah A [.h F]->az P fn args A (λv A'=>∃pb mb,v=g pb mb/\ah A' [X pb,Y mb,.h F])) {L:List It} {k:Value->AW->Prop} (hS:ah A L) (hk:∀pb mb A',ah A' (X pb::Y mb::L)->A'.Wf->k (g pb mb) A'):az P fn args A k:=by
 have mT:ah A [.h (aL L)]:=by
  unfold ah at *;show bn A (aL L*eP);rwa [dt]
 refine bV (h (aL L) mT) ?_;rintro _ A' ⟨pb,mb,rfl,h2⟩ lp _;refine hk pb mb A' ?_ lp;unfold ah at *;have h3:bn A' ((X pb).hp*((Y mb).hp*(aL L*eP))):=h2;rwa [dt] at h3
end
section
open T29
variable [Gl]
theorem Rg {l:List lT} (h:l.map (λo=>(o.pc,o.gd,o.val))=[(0,3,1)]):l=[⟨0,3,1⟩]:=by
 cases l with
 | nil=>cases h
 | cons x l=>
   cases l with
   | nil=>
     obtain⟨a,b,c⟩:=x;simp at h;obtain⟨rfl,rfl,rfl⟩:=h;rfl
   | cons y l=>simp at h
theorem Ml (b:Nat) (d:vB) (w:NJ) {A:AW} {L K:List It} {k:Value->AW->Prop} (hw:A.Wf) (hS:ah A L) (hp:aB L (.at b (oT d w)) K) (hk:k (.int .i64 d.hU) A):az Tryz.prog 23 [pv b] A k:=by
 have hg:A.bt b=some (oT d w):=by
  unfold ah at hS;rw [hp.aL] at hS;exact hS.bt
 refine aH Tryz.func23 λ_=>?_
 repeat' (first|(refine jK λR hR=>?_;simp [an,ax,hg,AW.ab];try simp (disch:=omega) only [ay,ap,an,ax])|(refine hR _ _ ?_;clear hR R)|(refine hK _ _ ?_;clear hK K)|refine nx ?_|refine wn λK hK=>?_|simp only [wS]|(show cB _ _ _ _ _ _;refine nx ?_)|(refine wc rfl (λhc=>?_) (λhc=>?_)<;>(try simp at hc)<;>(try omega))|(refine ib (λhc=>?_) (λhc=>?_)<;>(try omega)<;>(try simp (disch:=omega) only [ay,ap])))
 exact⟨_,rfl,hk⟩
theorem Dz {va:Value} {n:Nat} {A:AW} {L K:List It} {k:Value->AW->Prop} (hw:A.Wf) (hS:ah A L) (hp:aQ L [.h (jf va [⟨0,3,1⟩]),.at n (.cells [.int .i64 0,.int .i64 3,.int .u64 1] true 3)] K)
 (hk:∀(_:Unit) A',ah A' L->A'.Wf->A.le A'->k (.bool true) A'):az Tryz.prog 21 [va,.slice (some ⟨n,0,none⟩) 1 1] A k:=by
 have mg:ah A (.h (jf va [⟨0,3,1⟩])::.at n (.cells [.int .i64 0,.int .i64 3,.int .u64 1] true 3)::K):=by
  unfold ah at hS ⊢;rw [hp.aL] at hS;refine bn.dV hS ?_;show (jf va _*(pt n _*eP))*aL K=jf va _*(pt n _*aL K);rw [dt]
  ac_rfl
 refine bV (Dy va _ [⟨0,3,1⟩] A (ah.EA mg .z) (.inr ⟨⟨n,0,none⟩,1,_,true,3,rfl,Nat.le_refl _,mg.g 1 rfl,rfl,Nat.le_refl _,rfl⟩) (by decide)) ?_;rintro _ A' ⟨rfl,fo⟩ lp _;exact hk () A' (bn.le hS hw fo) lp fo
theorem Iz (hF:FOK):az Tryz.prog 6 [] AW.lh (λu A'=>u=.bool true):=by
 refine aH Tryz.func6 λhw=>?_;generalize AW.lh=A at *;have cL:=fun(A:AW) F hw hS=>Bl sW EQ 1 (by decide) (by decide) A F hw hS;have e2:((1:Nat):Int)=1:=rfl;rw [e2] at cL;dsimp only [bH.v,sW] at cL;have hS:ah A []:=bn.emp A;revert hS hw;refine W cy (J1 bF) ?_<;>(unhygienic intros);refine Jf (L:=[.at A.next (oN sW)]) (λF h=>cL _ F ?_ h) ?_ ?_;exact wA;apply ah.bI
 (·exact sA)
 (·first|exact rN|exact rP)
 clear hS hw cL;generalize hN:A.next=N;intro pb mb A1 hS hw;dsimp only [oN,sW] at hS;have hq:=rD hS hw;revert hq hS hw;(repeat first|clear hq|clear hS|clear hw|revert hc|revert R|revert K);refine W cy (J1 bF) ?_<;>(unhygienic intros);obtain⟨N2,hN2⟩:∃N2,N2=A1.next:=⟨_,rfl⟩;refine HC hF EQ.ok 0 1 (by decide) _ WC Ti (L:=[.at N2 (.cells [pv pb,pv mb] true 1),dH pb (jE sW 1 (ir sW))]) ?_ ?_ (.inr ⟨⟨A1.next+1,0,none⟩,3,_,true,5,rfl,Nat.le_refl _,AW.dw _ _,rfl,Nat.le_refl _,rfl⟩) ?_;exact wA;rw [hN2];apply ah.bI
 (·exact sA)
 (·first|exact rN|exact rP)
 clear hS hw hq;rw [<-hN2];intro b A2 hS hw _;have hS:ah A2 [.h (yg b (jO 0).1),.at N2 (.cells [pv pb,pv mb] true 1),dH pb (jO 0).2]:=hS;have hq:=rD hS hw;revert hq hS hw;(repeat first|clear hq|clear hS|clear hw|revert hc|revert R|revert K);refine W cy (J1 bF) ?_<;>(unhygienic intros);refine dW (λk fr A'=>A'.Wf/\∃j:Nat,k=15-j/\j<=15/\fr 4=pv b/\fr 2=pv N2/\fr 6=.int .i64 j/\ah A' [.h (yg b (jO j).1),.at N2 (.cells [pv pb,pv mb] true 1),dH pb (jO j).2]) 15 ?_ ?_;refine⟨?_,0,rfl,by omega,by simp,by simp,by simp,?_⟩;exact wA;apply ah.bI
 (·exact sA)
 (·first|exact rN|exact rP)
 clear hS hw hq;rintro k fr A3 ⟨hw,j,rfl,hj,g4,g2,g6,hS⟩;obtain⟨lq,hMj⟩:=ok20 j (by omega);by_cases cF:j<15
 . have fZ:(j:Int)<15:=(by omega);have hP:IntKind.i64.wrap ((j:Int)+1)=((j+1:Nat):Int):=an (by omega) (by omega);have HV:=Lg (eW:=alu0) WH hF EQ.ok (by omega) b pb _ _ hMj lq (by rw [Vh];intro i hi h3;simp only [WC,List.mem_cons,List.not_mem_nil,or_false] at hi;rcases hi with rfl|rfl|rfl<;>cases h3) (Ve j cF);change d8 _ _ _ _ _ (λev=>[.h (yg b (jO (j+1)).1),dH pb (jO (j+1)).2,.h (kh ev _)]) at HV;have hq:=rD hS hw;refine bh ?_;revert hq hS hw;(repeat first|clear hq|clear hS|clear hw|revert hc|revert R|revert K);refine W (J1 (Tg.mk (n:=32) @HV)) (J7 g4 g2 g6 fZ hP @dL.eq_1 bF) ?_<;>(unhygienic intros);refine⟨15-(j+1),by omega,?_,j+1,rfl,by omega,by simp [g4],by simp [g2],by simp,?_⟩;exact wA;apply ah.bI
   (·exact sA)
   (·first|exact rN|exact rP)
 have hj4:j=15:=by omega
 subst hj4;have fZ:¬(((15:Nat):Int)<15):=by omega
 obtain⟨h1,h2,h3,h4,h5⟩:=end20;have xH:=Rg h5;have mr:=Hb b _ (jO 15).2 pb h1;have uL:(jO 15).1.d.done=true:=h1;have Kl:(jO 15).1.d.pc=3:=h2;have QL:(jO 15).1.d.gA=1:=h3;have hd4:(jO 15).1.d.hU=1:=h4;generalize (jO 15).1=t at *;have hq:=rD hS hw;refine bh ?_;revert hq hS hw;(repeat first|clear hq|clear hS|clear hw|revert hc|revert R|revert K);refine W (J1 @mr) (J8 g4 g2 g6 fZ @dL.eq_1 @gu.zero.eq_1 @aU.zero.eq_1 bF) ?_<;>(unhygienic intros);obtain⟨⟨⟨b8,dS,jr,eC,vs,vo⟩,vc⟩,mg⟩:=yg.open hS .z;clear hS hq;have hS:=mg;clear mg;dsimp only [Dg,aa,af] at hS;rw [xH] at hS;generalize t.d=d at *;have hq:=rD hS hw
 repeat' (first|(refine jK λR hR=>?_;simp [an,ax,hq,g4,g2,g6,fZ,NS,uL,Kl,QL,hd4,R8.cells,AW.ab,aD];try simp (disch:=omega) only [ay,ap,an,ax])|(refine hR _ _ ?_;clear hR R)|(refine hK _ _ ?_;clear hK K)|refine nx ?_|refine wn λK hK=>?_|simp only [wS]|(apply bf.eH (Fb b d _);(·exact wA);(·exact sA);(·first|exact pA|exact kA);rintro _ _ rfl hS hw _;have hS:=lA hS;have hq:=rD hS hw)|(apply Mk b d _ [⟨0,3,1⟩] (by decide);(·exact wA);(·exact sA);(·first|exact pA|exact kA);((first|rintro _ _ _ hS hw fo|rintro _ _ hS hw fo|rintro _ _ hS hw);(try refine⟨fo,?_⟩);(try dsimp only [AW.bx] at hS);have hq:=rD hS hw))|(apply Dz;(·exact wA);(·exact sA);(·first|exact pA|exact kA);((first|rintro _ _ _ hS hw fo|rintro _ _ hS hw fo|rintro _ _ hS hw);(try refine⟨fo,?_⟩);(try dsimp only [AW.bx] at hS);have hq:=rD hS hw))|(apply Ml b d _;(·exact wA);(·exact sA);(·first|exact pA|exact kA);)|(show cB _ _ _ _ _ _;refine nx ?_)|(refine wc rfl (λhc=>?_) (λhc=>?_)<;>(try simp at hc)<;>(try omega))|(refine ib (λhc=>?_) (λhc=>?_)<;>(try omega)<;>(try simp (disch:=omega) only [ay,ap])))
 all_goals(first|exact⟨_,by first|rfl|(simp;rfl),by first|rfl|(simp;done)⟩|(refine ⟨_,by first|rfl|(simp;rfl),?_⟩;simp;done))
theorem Gi (hF:FOK) (B:AW):az Tryz.prog 6 [] B (λv A'=>v=.bool true/\B=A'):=
 (az.KI (R:=λv=>v=.bool true) (Iz hF) (λv h=>by rw [h];rfl) B).mono λv A' h=>⟨h.1,h.2.symm⟩
end
section
open Go.RowKit
theorem Vn {α:Type} {cs:Array α} (h:cs.size=8):∃c0 c1 c2 c3 c4 c5 c6 c7,cs = #[c0,c1,c2,c3,c4,c5,c6,c7]:=by
 obtain⟨l⟩:=cs
 match l,h with
 | [c0,c1,c2,c3,c4,c5,c6,c7],_=>exact⟨c0,c1,c2,c3,c4,c5,c6,c7,rfl⟩
theorem okWide_arr8 {P:Program} {W:World} {k e:TypeId} (hu:P.underlying k=some (.array 8 e)) (size:P.cellsOf k=8) {r:Reach} {b0:Nat} {v:Value} (h:Value.okWide P W r b0 k v):∃xs:Array Value,v=.agg xs/\xs.size=8:=by
 simp only [Value.okWide,hu] at h;obtain⟨cs,h1,h2,_⟩:=h;exact⟨cs,h1,by rw [h2,size]⟩
theorem open_arr8 {H:Type} {enc:TypeId×Value->H} {P:Program} {W:World} {base:Nat} {sp:Nat->Bool} {UQ:Bool} {k e:TypeId} {q:IntKind} (hu:P.underlying k=some (.array 8 e)) (he:P.underlying e=some (.int q)) (aY:P.cellsOf e=1) (size:P.cellsOf k=8)
 {xs:Array Value} (hn:xs.size=8) {d:DataW H} {ps:List MemPlace} (hd:DataW.Trod enc P W base sp UQ k (.agg xs) d ps):∃a0 a1 a2 a3 a4 a5 a6 a7,xs = #[.int q a0,.int q a1,.int q a2,.int q a3,.int q a4,.int q a5,.int q a6,.int q a7]:=by
 obtain⟨c0,c1,c2,c3,c4,c5,c6,c7,rfl⟩:=Vn hn;obtain⟨fuel,hf⟩:=hd;cases fuel with
 | zero=>simp [DataW.trod] at hf
 | succ m=>
   rw [DataW.trod_step] at hf;unfold DataW.trodStep at hf;simp only [hu,Value.cells] at hf;rw [ay (by rw [size];rfl)] at hf;simp only [Option.map_eq_some_iff] at hf;obtain⟨ys,hy,_⟩:=hf;have hm:=BS _ ys hy;rw [aY] at hm;have g:∀i,i<8->∃a,([c0,c1,c2,c3,c4,c5,c6,c7].drop (i*1)).take 1=[Value.int q a]:=λi hi=>by
    obtain⟨y,h1⟩:=hm i (List.mem_range.2 hi);obtain⟨a,h2,_⟩:=DataW.trod_int he h1;exact⟨a,h2⟩
   obtain⟨a0,e0⟩:=g 0 (by omega);obtain⟨a1,e1⟩:=g 1 (by omega);obtain⟨a2,e2⟩:=g 2 (by omega);obtain⟨a3,e3⟩:=g 3 (by omega);obtain⟨a4,e4⟩:=g 4 (by omega);obtain⟨a5,e5⟩:=g 5 (by omega);obtain⟨a6,e6⟩:=g 6 (by omega);obtain⟨a7,e7⟩:=g 7 (by omega);simp at e0 e1 e2 e3 e4 e5 e6 e7;subst e0 e1 e2 e3 e4 e5 e6 e7;exact⟨a0,a1,a2,a3,a4,a5,a6,a7,rfl⟩
variable [Gl]
theorem JT {m:Mp} (a0 a1 a2 a3 a4 a5 a6 a7:Int):bu m (.agg #[.int .i64 a0,.int .i64 a1,.int .i64 a2,.int .i64 a3,.int .i64 a4,.int .i64 a5,.int .i64 a6,.int .i64 a7]) (.agg #[.int .i64 a0,.int .i64 a1,.int .i64 a2,.int .i64 a3,.int .i64 a4,.int .i64 a5,.int .i64 a6,.int .i64 a7]):=by
 refine .agg rfl λi v v' h1 h2=>?_;rw [h1] at h2;injection h2 with h2;subst h2;have hi:=(Array.getElem?_eq_some_iff.1 h1).1;have:i=0\/i=1\/i=2\/i=3\/i=4\/i=5\/i=6\/i=7:=by simp at hi;omega
 rcases this with rfl|rfl|rfl|rfl|rfl|rfl|rfl|rfl<;>simp at h1<;>subst h1<;>exact .int _ _
theorem rl_world (hF:FOK) (W:World) (QH:∀b x,Gl.B b=some x->W.heap[b]? = some x) (b0 b1 b2 b3 b4:Int) (a1:Option Addr) (len1 cap1:Nat) (z1:List Int) (w1:IntsIn .i64 W a1 len1 cap1 z1) (hz1:len1<=17592186044415) (e0 e1 e2 e3 e4 e5 e6 e7:Int) :
 Calls Tryz.prog 3 #[.agg #[.int .i64 b0,.int .i64 b1,.int .i64 b2,.int .i64 b3,.int .i64 b4],.slice a1 len1 cap1,.agg #[.int .i64 e0,.int .i64 e1,.int .i64 e2,.int .i64 e3,.int .i64 e4,.int .i64 e5,.int .i64 e6,.int .i64 e7]] W λe w'=>e=.returned (.bool true)/\Below W.heap.size W w':=by
 have s0:=jp.lh W QH;have n0:=AW.yh.lh;obtain⟨m2,A2,v2,le2,g2,s2,n2,r2,h2,_⟩:=JS s0 n0 (k:=.i64) w1;refine CE (yu hF (Gi hF) b0 b1 b2 b3 b4 v2 (z1.take len1) e0 e1 e2 e3 e4 e5 e6 e7 A2 h2) (λv A' h=>h) s2 n2 ?_;exact .cons (JU _ _ _ _ _) (.cons r2 (.cons (JT _ _ _ _ _ _ _ _) .nil))
end
end Go.Stx
