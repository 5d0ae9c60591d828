import Derived.Test.YtnnbecihffpedaaGreatDoorG15
set_option linter.all false
set_option maxRecDepth 20000
set_option maxHeartbeats 4000000
open List renaming length->U
open Go.IntKind renaming i64->Zb,u64->Zc
open Go.Proofs.Tryz renaming func79->kbq,mx->Zm,prog->qZ
open Go.Value renaming oneCell'->ZK
open Int renaming le_refl->ZH
open List renaming drop_zero->kap,flatMap_cons->kbc,getD_eq_getElem?_getD->Ze,getElem?_eq_getElem->Zf,length_append->Zh,take_of_length_le->kaG
open Nat renaming add_mul->kaA,le_refl->Za
open Prod renaming fst->ZB,snd->kaj
open Bool renaming false->qn,true->qj
open Go renaming Addr->qM,Operand->qA,Program->qp,TypeInfo->qX,Value->qi
open Go.Builtin renaming append->qP
open Go.Callee renaming builtin->qH
open Go.IntKind renaming i64->qg,u64->qr
open Go.Op renaming call->qW
open Go.Stx.dt renaming cells->qm
open Go.Value renaming bool->qt,int->qh,pointer->qs
open Option renaming none->qk,some->qf
open Or renaming inl->qw,inr->qB
namespace Go.Stx
open Go Go.Proofs
attribute [local irreducible] df aW aE aL cY dm TW bK
section
variable [Gl]
def pM (M:Mm)(a:bj)(M':Mm):Prop:=(a=bj.zero/\M'=M)\/(eU M a.cell a.cZ=qj/\a.eV=(j4 M a.cell).getD a.cZ.toNat 0/\M'=setRow M a.cell a.cZ a.put)
def set_same (l:List Int)(i:Nat):l.set i (l.getD i 0)=l:=by by_cases h:i<U l;rw[Ze,Zf h];exact List.set_getElem_self h;rw[List.set_eq_of_length_le Ya]
def FJ {M:Mm}{cell cZ:Int}(h:eU M cell cZ=qj):setRow M cell cZ ((j4 M cell).getD cZ.toNat 0)=M:=by obtain⟨h1,h2,h3⟩:=sf h;funext k;unfold setRow j4;rw[az h1];split;rename_i e;subst e;exact set_same _ _;rfl
def pM.op (M:Mm)(fB cell cZ:Int)(g:Int->Int×Bool):pM M (fk M fB cell cZ g) (mw M cell cZ g):=by by_cases h:eU M cell cZ=qj;right;unfold fk;rw[az h];refine⟨h,rfl,?_⟩;unfold mw;dsimp only;by_cases hg:(g ((j4 M cell).getD cZ.toNat 0)).2=qj;rw[az ⟨h,hg⟩,az hg];rw[ar (λe=>hg e.2),ar hg,FJ h];left;unfold fk mw;rw[ar h,ar (λe=>h e.1)];exact⟨rfl,rfl⟩
def pM.load (M:Mm)(cell cZ:Int):pM M (iy M cell cZ) M:=by
 have h:=pM.op M 1 cell cZ lQ;have e:mw M cell cZ lQ=M:=by unfold mw;split;rename_i h;exact FJ h.1;rfl
 rw[e]at h;exact h
def pM.zero (M:Mm):pM M bj.zero M:=qw ⟨rfl,rfl⟩
def enter_ao (e:ig)(M:Mm):pM M (fN e M).1 (fN e M).2.2:=by unfold fN;split;exact .op ..;split;exact .load ..;split;exact .op ..;exact .zero M
def turn_ao (e:jk)(M:Mm):pM M (gX e M).1 (gX e M).2.2:=by unfold gX;split;exact .zero M;split;exact .op ..;exact .load ..
def pop_ao (e:sU)(M:Mm):pM M (gB e M).1 (gB e M).2.2:=by unfold gB;split;exact .load ..;split;exact .load ..;split;exact .op ..;exact .zero M
def Uq (e:gy)(M:Mm):pM M (dD e M).1 (dD e M).2.2:=by unfold dD;split;exact .load ..;split;exact .op ..;split;exact .op ..;exact .zero M
def M9 (e:hY)(M:Mm):pM M (dh e M).1 (dh e M).2.2:=by unfold dh;split;exact .load ..;split;exact .load ..;split;exact .load ..;exact .zero M
def check_ao (e:i8)(M:Mm):pM M (gx e M).1 (gx e M).2.2:=by unfold gx;split;exact .zero M;exact .load ..
def lock_ao (e:iR)(M:Mm):pM M (ep e M).1 (ep e M).2.2:=by unfold ep;split;exact .zero M;split;exact .load ..;exact .op ..
def wr_ao (e:jS)(M:Mm):pM M (kC e M).1 (kC e M).2.2:=by unfold kC;split;exact .zero M;exact .op ..
def rel_ao (e:jS)(M:Mm):pM M (ii e M).1 (ii e M).2.2:=by unfold ii;split;exact .zero M;exact .op ..
def att_ao (s:aJ)(M:Mm):pM M (aY s M).1 (aY s M).2.2.2:=by
 unfold aY;cases s.aH with
 |bC=>exact .zero M
 |iY k=>exact .zero M
 |dA=>
   dsimp only;cases s.bQ with
   |none=>exact .zero M
   |some e=>dsimp only;unfold go;dsimp only;split<;>exact enter_ao e M
 |be c u=>dsimp only;unfold da;dsimp only;split;exact M9 c M;split;exact M9 c M;split<;>exact M9 c M
 |eO p=>exact pop_ao p M
 |ef=>
   dsimp only;cases s.aQ with
   |none=>exact .zero M
   |some l=>exact lock_ao l M
 |c8=>
   dsimp only;cases s.aN with
   |none=>exact .zero M
   |some t=>exact turn_ao t M
 |cK ck=>exact check_ao ck M
 |bN=>exact .load M 3 0
 |dy w=>exact wr_ao w M
 |bG w=>exact rel_ao w M
 |eR=>exact .op ..
 |ey=>exact .op ..
 |eG p=>exact Uq p M
 |gC=>exact .op ..
def Rq (s:aJ):Prop:=pF s=qj->∃t,s.aN=qf t/\t.j0=qj/\0<=t.dR
def Rq.off {s:aJ}(h:pF s=qn):Rq s:=λe=>by rw[h]at e;cases e
def Rq.restore {s:aJ}{t:jk}(h:s.aN=qf t)(h1:t.j0=qj)(h2:0<=t.dR):Rq (fE s):=λ_=>⟨t,by rw[<-h];unfold fE;split<;>rfl,h1,h2⟩
def tki_step {c:bu}{k:Nat}{s:aJ}{M:Mm}(h:oU c k s)(hQ:Rq s):Rq (aY s M).2.2.1:=by
 have hd:=h.d;have jp:pF s=qj->∀s':aJ,s'.aN=s.aN->Rq s':=λe s' e' _=>by obtain⟨t,h1,h2⟩:=hQ e;exact⟨t,e'.trans h1,h2⟩
 have dE:pF s=qj->∀s':aJ,s'.aN=s.aN->Rq (fE s'):=λe s' e'=>by obtain⟨t,h1,h2,h3⟩:=hQ e;exact .restore (e'.trans h1) h2 h3
 have on:∀e:(match s.aH with | .cK _ | .bN | .dy _ | .bG _ | .eR | .ey=>True|_=>False),pF s=qj:=by intro e;unfold pF;revert e;cases s.aH<;>first|(intro _;rfl)|(intro e;exact e.elim)
 have qu:∀s':aJ,uT s'->Rq s':=λs' e=>.off e.quiet.d;unfold aY;cases e:s.aH with
 |bC=>exact .off YA
 |iY l=>rw[e]at hd;exact qu _ (PU (s:={ s with aH:=.bC }) ⟨hd.1.to rfl rfl rfl rfl rfl,rfl⟩ l)
 |dA=>
   dsimp only;cases s.bQ with
   |none=>exact .off YA
   |some en=>exact qu _ (Je en e).1
 |be r u=>rw[e]at hd;exact qu _ (M8 r u hd.1).1
 |eO p=>rw[e]at hd;exact qu _ (Sf p hd.1).1
 |ef=>
   dsimp only;cases s.aQ with
   |none=>exact .off YA
   |some l=>dsimp only;unfold ip;dsimp only;split;exact .off rfl;exact .off Xk
 |c8=>rw[e]at hd;obtain⟨h0,hl,t,h1,h2,h3⟩:=hd;dsimp only;rw[h1];dsimp only;unfold ia gX;rw[ar (by rw[h2];decide)];by_cases ht:t.j0=qn;rw[az ht];dsimp only;rw[ar (by rw[h2];decide)];exact .off Xk;rw[ar ht];dsimp only;split;exact λ_=>⟨_,rfl,by simpa using ht,h3.1⟩;exact .off Xk
 |cK ck=>have h1:=on Yn;show Rq (gu s M ck).2.2.1;unfold gu;dsimp only;split;exact dE h1 _ rfl;split<;>exact jp h1 _ rfl
 |bN=>have h1:=on Yn;show Rq (fo s M).2.2.1;unfold fo;dsimp only;split;exact dE h1 _ rfl;split;exact jp h1 _ rfl;exact dE h1 _ rfl
 |dy w=>have h1:=on Yn;show Rq (gF s M w).2.2.1;unfold gF;dsimp only;split<;>exact jp h1 _ rfl
 |bG w=>exact jp (on Yn) _ rfl
 |eR=>exact jp (on Yn) _ rfl
 |ey=>exact qu _ (vD s)
 |eG p=>exact qu _ (Nd p).1
 |gC=>exact .off rfl
structure TuR (s:aJ) (M:Mm) (r:sx):Prop where
 p13:r.2.1=13->ng s=none/\r.1.eV=yy M
 n13:r.2.1≠13->yy r.2.2.2=yy M
 dn:(r.2.1=15\/r.2.1=16\/r.2.1=17\/r.2.1=19\/r.2.1=20)->pF s=true
 sv:yz r.2.2.2=if r.2.1=20 then yz M+1 else yz M
 pX:(∀o,kF M o / 64<=sQ M+1)->∀o,kF M o / 64<=kF r.2.2.2 o / 64/\kF r.2.2.2 o / 64<=sQ M+1
section
variable {c:bu} {nt k:Nat} {s:aJ} {M:Mm}
def C6 {M':Mm}(h:M' 1=M 1):(∀o,kF M o / 64<=sQ M+1)->∀o,kF M o / 64<=kF M' o / 64/\kF M' o / 64<=sQ M+1:=λhv o=>by
 have:kF M' o=kF M o:=by unfold kF;rw[h]
 rw[this];exact⟨ZH _,hv o⟩
def TuR.SD {r:sx}(h:Bz M r.2.2.2)(hp:r.2.1<=11\/21<=r.2.1):TuR s M r:=by obtain⟨h0,h1,h2,h3,h4⟩:=h;refine⟨λe=>by omega,λ_=>?_,λe=>by omega,?_,C6 h1⟩;unfold yy;rw[h3];rw[ar Ya];unfold yz;rw[h4]
def TuR.dE {r:sx}(h1:r.2.2.2 1=M 1)(h3:r.2.2.2 3=M 3)(h4:r.2.2.2 4=M 4)(hp:r.2.1≠13/\r.2.1≠20)(hd:pF s=qj\/r.2.1<=14\/r.2.1=18):TuR s M r:=by refine⟨λe=>absurd e hp.1,λ_=>?_,λe=>?_,?_,C6 h1⟩;unfold yy;rw[h3];rcases hd with hd|hd|hd;exact hd;omega;omega;rw[ar hp.2];unfold yz;rw[h4]
def pop_ph (a:bj):iC a<=11:=by unfold iC;(repeat' split)<;>decide
def Nc (a:bj):21<=eJ a:=by unfold eJ;(repeat' split)<;>decide
def orW_rel {x v:Int}(hc:eU M 2 x=qj)(o:Int):kF (mw M 2 x (ga v)) o=if x.toNat=o.toNat then v else kF M o:=by
 obtain⟨_,h1,h2⟩:=sf hc;have f1:mw M 2 x (ga v) 1=(M 1).set x.toNat v:=AL hc rfl;unfold kF;rw[f1,nR];by_cases h:x.toNat=o.toNat;have h2':x.toNat<U (M 1):=by have:x<(U (M 1):Int):=h2;omega
 rw[az ⟨h,h2'⟩,az h];rw[ar (λe=>h e.1),ar h]
def VM (hc:dl c)(hk:k<2^40)(h:oU c k s)(hM:mr c nt k M)(hT:uM c s M)(hQ:Rq s):TuR s M (aY s M):=by
 have hb:=h.b;have hd:=h.d;unfold aY;cases e:s.aH with
 |bC=>exact .SD (.refl M) (qw (by show (0:Int)<=11;decide))
 |iY l=>exact .SD (.refl M) (qw (by show (0:Int)<=11;decide))
 |dA=>rw[e]at hd;obtain⟨h0,en,h1,_⟩:=hd;dsimp only;rw[h1];dsimp only;refine .SD (Je en e).2.2 (qw ?_);unfold go;dsimp only;split;show (4:Int)<=11;decide;dsimp only;split<;>decide
 |be r u=>rw[e]at hd;refine .SD (M8 r u hd.1).2.2 (qw ?_);have:=hd.2.1;show (da s M r u).2.1<=11;unfold da;dsimp only;split;dsimp only;omega;split;dsimp only;omega;split<;>(dsimp only;omega)
 |eO p=>rw[e]at hd;exact .SD (Sf p hd.1).2.2 (qw (pop_ph _))
 |ef=>
   rw[e]at hd;obtain⟨h0,RC,l,h1,h2,h3,h4,h5⟩:=hd;have F7:=hb.Rw;dsimp only;rw[h1];dsimp only;have Wq:(ip s M l).2.1=12\/(ip s M l).2.1=11:=by unfold ip;dsimp only;split;exact qw rfl;exact qB rfl
   have hm:∀kk,kk≠1->(ip s M l).2.2.2 kk=M kk:=λkk j6=>by show (ep l M).2.2 kk=M kk;unfold ep;split;rfl;split;rfl;exact j9 Ya
   refine⟨λe9=>by omega,λ_=>by unfold yy;rw[hm 3 Ya],λe9=>by omega,by rw[ar Ya];unfold yz;rw[hm 4 Ya],λhv o=>?_⟩;show _<=kF (ep l M).2.2 o / 64/\kF (ep l M).2.2 o / 64<=_;unfold ep;have hdn0:¬l.done=qj:=(by simp only[iR.done,decide_eq_true_eq];omega);rw[ar hdn0];split;exact⟨ZH _,hv o⟩;rename_i NC;have Qj:l.fx=qj:=by simpa using NC
   have ru:=Cx Ya h5 Qj (by rw[h3];exact F7);have hz:=h5.load Qj;dsimp only;rcases Cn M 2 (eg l) (lc l.dC (iN l)) 1 o.toNat with h6|⟨h6,h7,h8,h9⟩;have:kF (mw M 2 (eg l) (lc l.dC (iN l))) o=kF M o:=h6;rw[this];exact⟨ZH _,hv o⟩;by_cases hsw:(lc l.dC (iN l) ((j4 M 2).getD (eg l).toNat 0)).2=qj;have e9:(M 1).getD (eg l).toNat 0=l.dC:=of_decide_eq_true hsw;have e10:kF M o=l.dC:=(by unfold kF;rw[h8];exact e9);have e11:kF (mw M 2 (eg l) (lc l.dC (iN l))) o=l.dC+l.af+1:=by unfold kF;rw[h9];exact ru
   have:=hv o;rw[e11];rw[e10]at this ⊢;rw[h3];omega;have:=Uu (M:=M) (cell:=2) (cZ:=eg l) (g:=lc l.dC (iN l)) (by simpa using hsw);rw[this];exact⟨ZH _,hv o⟩
 |c8=>
   rw[e]at hd;obtain⟨h0,hl,t,h1,h2,h3⟩:=hd;dsimp only;rw[h1];dsimp only;unfold ia gX;rw[ar (by rw[h2];decide)];by_cases ht:t.j0=qn;rw[az ht];dsimp only;have hcell:eU M 4 0=qj:=jw Ya Ya Xx;have xh:(JM M 4 0 1).fB=4:=(by unfold JM fk;rw[az hcell]);refine⟨λ_=>⟨?_,(oH hcell).1⟩,λe9=>absurd (az xh) e9,λe9=>?_,?_,C6 (j9 Yd)⟩;unfold ng;rw[e];dsimp only;rw[h1];dsimp only;rw[ht];rfl;dsimp only at e9;rw[az xh]at e9;omega;dsimp only;rw[az xh,ar Yd];unfold yz;rw[show adM M 4 0 1 4=M 4 from j9 Yd];rw[ar ht];dsimp only;have xh:(if (iy M 5 0).fB=4 then (13:Int) else 14)=14:=by refine ar ?_;rcases Pv M 1 5 0 lQ with h|h;show ¬(fk M 1 5 0 lQ).fB=4;omega;show ¬(fk M 1 5 0 lQ).fB=4;omega
   rw[xh];exact .dE rfl rfl rfl (by show (14:Int)≠13/\(14:Int)≠20;decide) (qB (qw (by show (14:Int)<=14;decide)))
 |cK ck=>have hm:(gx ck M).2.2=M:=(by unfold gx;split<;>rfl);refine .dE ?_ ?_ ?_ (by show (15:Int)≠13/\(15:Int)≠20;decide) (qw YA);show (gx ck M).2.2 1=_;rw[hm];show (gx ck M).2.2 3=_;rw[hm];show (gx ck M).2.2 4=_;rw[hm]
 |bN=>exact .dE rfl rfl rfl (by show (16:Int)≠13/\(16:Int)≠20;decide) (qw YA)
 |dy w=>
   have hm:∀kk,kk≠0->(kC w M).2.2 kk=M kk:=λkk j6=>by unfold kC;split;rfl;exact j9 Ya
   exact .dE (hm 1 Ya) (hm 3 Ya) (hm 4 Ya) (by show (17:Int)≠13/\(17:Int)≠20;decide) (qw YA)
 |bG w=>
   rw[e]at hd;obtain⟨h0,yZ,hl,⟨t,ht⟩,q,hq1,hw⟩:=hd;have hm:∀kk,kk≠1->(ii w M).2.2 kk=M kk:=λkk j6=>by unfold ii;split;rfl;exact j9 Ya
   show TuR s M (nM s M w);refine⟨λe9=>absurd e9 (by show ¬(18:Int)=13;decide),λ_=>(by show yy (ii w M).2.2=_;unfold yy;rw[hm 3 Ya]),λe9=>absurd e9 (by show ¬((18:Int)=15\/(18:Int)=16\/(18:Int)=17\/(18:Int)=19\/(18:Int)=20);decide),(by show yz (ii w M).2.2=if (18:Int)=20 then _ else _;rw[ar Yd];unfold yz;rw[hm 4 Ya]),λhv o=>?_⟩;show _<=kF (ii w M).2.2 o / 64/\kF (ii w M).2.2 o / 64<=_;have vU:0<U w.os:=(by rw[hw];simp;omega);unfold ii;rw[ar Xh];dsimp only;have hxr:0<=w.os.getD 0 0/\w.os.getD 0 0<c.au:=hb.orr _ (by have:=zO vU;rw[hw]at this ⊢;exact List.mem_of_mem_drop this)
   have hl1:=hM.l1;have hcell:eU M 2 (w.os.getD 0 0)=qj:=jw Ya hxr.1 Xz;have ND:kF M (w.os.getD 0 0) % 64=s.af+1/\(tA s=qn->kF M (w.os.getD 0 0)=(F4 s).getD 0 0+s.af+1/\(F4 s).getD 0 0 % 64=0):=by have:=hT.lk 0 (by unfold s8;rw[e];exact vU);unfold s8 at this;rw[e]at this;exact this
   have e1:F4 s=w.ws:=(by unfold F4;rw[e]);have e2:tA s=s.am:=(by unfold tA;rw[e]);rw[e1,e2]at ND;rw[orW_rel hcell];split
   . rename_i hxo;have e3:kF M o=kF M (w.os.getD 0 0):=(by unfold kF;rw[hxo]);have hv0:=hv o;have F7:=hb.Rw;cases hdv:s.am with
     |true=>
       have h1:=xr hb hk ⟨hdv,yZ hdv⟩;have h2:=hT.cm (by rw[e2];exact hdv);have h3:=hb.jC;have e5:(wI s).drop q=List.replicate (U s.au-q) (lR s.pX):=(by unfold wI;rw[az hdv,List.drop_replicate]);have e6:w.ws.getD 0 0=(sQ M+1)*64:=by rw[hw];show ((wI s).drop q).getD 0 0=_;rw[e5,Ze,List.getElem?_replicate_of_lt Ya];show lR s.pX=_;rw[h1,<-h2];unfold lR;rw[az Ya]
       rw[e6];omega
     |false=>have h4:=ND.2 hdv;rw[e3]at hv0 ⊢;omega
   exact⟨ZH _,hv o⟩
 |eR=>have hm:∀kk,kk≠2->BC M 3 0 (Zc.wrap (s.aC+1)) kk=M kk:=λkk j6=>j9 Ya;exact .dE (hm 1 Ya) (hm 3 Ya) (hm 4 Ya) (by show (19:Int)≠13/\(19:Int)≠20;decide) (qw YA)
 |ey=>
   rw[e]at hd;obtain⟨h0,t,ht⟩:=hd;have hm:∀kk,kk≠4->BC M 5 0 (s4 s.dZ) kk=M kk:=λkk j6=>j9 Ya;have nG:pF s=qj:=YA;show TuR s M (FG M 5 0 (s4 s.dZ),20,gn s,BC M 5 0 (s4 s.dZ));refine⟨λe9=>absurd e9 (by show ¬(20:Int)=13;decide),λ_=>(by show yy (BC M 5 0 (s4 s.dZ))=_;unfold yy;rw[hm 3 Ya]),λ_=>nG,?_,C6 (hm 1 Ya)⟩;show yz (BC M 5 0 (s4 s.dZ))=if (20:Int)=20 then _ else _;rw[az rfl];have hcell:eU M 5 0=qj:=jw Ya Ya Xy;have f1:BC M 5 0 (s4 s.dZ) 4=(M 4).set 0 (s4 s.dZ):=AL hcell rfl;obtain⟨t',ht',h5,h6⟩:=hQ nG;rw[ht]at ht';injection ht' with ht';subst ht';have C2:=hT.tk t.dR (by unfold ng;rw[e];dsimp only;rw[ht]);have SR:=C2.2 nG;have htn:=hM.tik;have hsv0:yy M=(M 3).getD 0 0:=rfl;have h7:=C2.1;have hv:s4 s.dZ=t.dR+1:=by unfold s4 aJ.dZ;rw[ht];show Zc.wrap (Zc.wrap t.dZ+1)=_;unfold jk.dZ;rw[az h5,an (x:=t.dR) Ya Ya,ax (x:=t.dR) Ya Ya,ax Ya Ya]
   rw[<-SR];unfold yz;rw[f1,nR,az ⟨rfl,by rw[hM.l4];omega⟩,hv]
 |eG p=>exact .SD (Nd p).2.2 (qB (Nc _))
 |gC=>exact .SD (.op M Ya) (qB (by show (21:Int)<=24;decide))
end
end
section
open Go.Proofs Go
variable [Gl]
def dv.Ek {P:qp}{A:AW}{t e:TypeId}{i:qX}{z:qi}{v:qi}{size m:Nat}{cs nF:List qi}{F:HP}(n:Nat)(hu:P.underlying t=qf (.slice e))(hi:P.info? e=qf i)(hz:i.zero=qf z)(iP:i.size=size)(rR:z.cells.size=size)(h0:0<size)(hn:A.bk n=qf (qm nF qj size))(zJ:U nF=size)(nQ:nF.all ZK=qj)(h:bD A (dv size v m cs*F))(cy:m<2 ^ 30)(CH:i.bytes<=2 ^ 16)(hw:A.Wf):
 ∃v' A',fD P A t t v (.slice (qf ⟨n,0,qk⟩) 1 1)=qf (v',A')/\bD A' (dv size v' (m+1) (cs++nF)*F)/\A'.Wf/\A.next<=A'.next:=by
 subst iP;have j5:iv A i.size (.slice (qf ⟨n,0,qk⟩) 1 1)=qf (1,nF):=by have e1:nF.take i.size=nF:=kaG Ya;simp[iv,AW.bO,hn,zJ,e1]
 have hb:(m+1)*i.bytes<=140737488355328:=by have h1:=Nat.mul_le_mul (show m+1<=2 ^ 30 by omega) CH;omega
 have lW:m+1<=140737488355328:=Ya
 rcases dv.cases h with ⟨rfl,rfl,rfl,h2⟩|⟨b,off,c,bO,rfl,h1,h2,h3,h4⟩
 . refine⟨.slice (qf ⟨A.next,0,qk⟩) (0+1) (0+1),A.alloc (qm ([]++nF) qj i.size),?_,?_,hw.alloc _,by simp⟩
   . simp only[fD,hu,hi,hz,j5,gU];rw[az ⟨rR,h0,trivial⟩,ar Ya,az ⟨lW,hb,nQ⟩]
     try simp
   have:=h2.alloc hw (qm ([]++nF) qj i.size);have h9:bD (A.alloc (qm ([]++nF) qj i.size)) (pt A.next (qm nF qj i.size)*F):=this;exact dv.mk (size:=i.size) (n:=1) (off:=0) (c:=1) Yb (by simp[zJ]) (by simp[<-zJ]) h9
 have hg:=h4.bk;have b9:=hw.lt hg;have jv:U cs=m*i.size:=by rw[h3,List.length_take,List.length_drop];omega
 refine⟨.slice (qf ⟨A.next,0,qk⟩) (m+1) (m+1),(A.set b qk).alloc (qm ((bO.drop off).take (m*i.size)++nF) qj i.size),?_,?_,
  (hw.set qk b9).alloc _,by simp⟩
 simp only[fD,hu,hi,hz,j5,gU,hg];rw[az ⟨rR,h0,trivial⟩,ar Yb,az ⟨trivial,h2⟩];simp only;rw[ar Ya,az ⟨lW,hb,nQ⟩];have h5:=(h4.PY).alloc (hw.set qk b9) (qm ((bO.drop off).take (m*i.size)++nF) qj i.size);have h6:bD ((A.set b qk).alloc (qm ((bO.drop off).take (m*i.size)++nF) qj i.size)) (pt A.next (qm (cs++nF) qj i.size)*F):=by have:=h5;rw[<-h3]at this ⊢;exact this
 have h7:U (cs++nF)=(m+1)*i.size:=by rw[Zh,jv,zJ,kaA,Nat.one_mul]
 refine dv.mk (Za _) Ya ?_ h6;rw[kap,kaG Ya]
def dv.appendS {P:qp}{A:AW}{t e:TypeId}{i:qX}{z:qi}{v x:qi}{size m m2:Nat}{cs nF:List qi}{F:HP}(hu:P.underlying t=qf (.slice e))(hi:P.info? e=qf i)(hz:i.zero=qf z)(iP:i.size=size)(rR:z.cells.size=size)(h0:0<size)(hx:gW A size x m2 nF)(nQ:nF.all ZK=qj)(h:bD A (dv size v m cs*F))(cy:m+m2<2 ^ 30)(CH:i.bytes<=2 ^ 16)(hw:A.Wf):
 ∃v' A',fD P A t t v x=qf (v',A')/\bD A' (dv size v' (m+m2) (cs++nF)*F)/\A'.Wf/\A.next<=A'.next:=by
 subst iP;have j5:iv A i.size x=qf (m2,nF):=gW.pR hx;have zJ:nF.length=m2*i.size:=hx.length;have hb:(m+m2)*i.bytes<=140737488355328:=by have h1:=Nat.mul_le_mul (show m+m2<=2 ^ 30 by omega) CH;omega
 have lW:m+m2<=140737488355328:=Ya
 by_cases hm:m2=0;subst hm;have IO:nF=[]:=List.eq_nil_of_length_eq_zero Ya;subst IO;refine⟨v,A,?_,by simpa using h,hw,Za _⟩;have holds:∃b,gU A i.size v=qf (b,m,cs):=by rcases dv.cases h with ⟨rfl,rfl,rfl,h2⟩|⟨b,off,c,bO,rfl,h1,h2,h3,h4⟩;exact⟨qk,rfl⟩;refine⟨qf ⟨b,off,qk⟩,?_⟩;simp[gU,h4.bk,h2,h3]
 obtain⟨b,uO⟩:=holds;simp[fD,hu,hi,hz,rR,h0,j5,uO];rcases dv.cases h with ⟨rfl,rfl,rfl,h2⟩|⟨b,off,c,bO,rfl,h1,h2,h3,h4⟩;refine⟨.slice (qf ⟨A.next,0,qk⟩) (0+m2) (0+m2),A.alloc (qm nF qj i.size),?_,?_,hw.alloc _,by simp⟩;simp only[fD,hu,hi,hz,j5,gU];rw[az ⟨rR,h0,trivial⟩,ar hm,az ⟨lW,hb,nQ⟩];simp;have h9:=h2.alloc hw (qm nF qj i.size);exact dv.mk (size:=i.size) (n:=0+m2) (off:=0) (c:=0+m2) (Za _) (by simp[zJ]) (by simp[<-zJ]) h9;have hg:=h4.bk;have b9:=hw.lt hg;have jv:cs.length=m*i.size:=by rw[h3,List.length_take,List.length_drop];omega
 refine⟨.slice (qf ⟨A.next,0,qk⟩) (m+m2) (m+m2),(A.set b qk).alloc (qm ((bO.drop off).take (m*i.size)++nF) qj i.size),?_,?_,
  (hw.set qk b9).alloc _,by simp⟩
 simp only[fD,hu,hi,hz,j5,gU,hg];rw[az ⟨rR,h0,trivial⟩,ar Yb,az ⟨trivial,h2⟩];simp only;rw[ar hm,az ⟨lW,hb,nQ⟩];have h5:=(h4.PY).alloc (hw.set qk b9) (qm ((bO.drop off).take (m*i.size)++nF) qj i.size);have h6:bD ((A.set b qk).alloc (qm ((bO.drop off).take (m*i.size)++nF) qj i.size)) (pt A.next (qm (cs++nF) qj i.size)*F):=by have:=h5;rw[<-h3]at this ⊢;exact this
 have h7:(cs++nF).length=(m+m2)*i.size:=by rw[Zh,jv,zJ,kaA]
 refine dv.mk (Za _) Ya ?_ h6;rw[kap,kaG Ya]
section
variable {P:qp} {S:AW->Prop} {K:Fr->AW->Prop} {dE:List yW} {a:Fr} {A:AW} {d:Option Tmp} {m:Nat} {x y:qA} {t e:TypeId} {i:qX} {z:qi} {n size:Nat} {v:qi} {cs nF:List qi} {L K':List It}
def rec_core {k':qi->AW->Prop}(hu:P.underlying t=qf (.slice e))(hi:P.info? e=qf i)(hz:i.zero=qf z)(iP:i.size=size)(rR:z.cells.size=size)(h0:0<size)(CH:i.bytes<=2 ^ 16)(e1:gZ a x=v)(e2:gZ a y=.slice (qf ⟨n,0,qk⟩) 1 1)(hw:A.Wf)(hS:aj A L)(hp:aF L (.h (dv size v m cs)) K')(hn:A.bk n=qf (qm nF qj size))(zJ:U nF=size)(nQ:nF.all ZK=qj)(cy:m<2 ^ 30)(hk:∀o c A',aj A' (.h (dv size (.slice o (m+1) c) (m+1) (cs++nF))::K')->A'.Wf->A.next<=A'.next->k' (.slice o (m+1) c) A'):
 iJ P (qW ⟨qH qP,#[x,y],#[t,t]⟩) (gZ a) A k':=by
 have h1:bD A (dv size v m cs*aP K'):=by exact X6
 obtain⟨v',A',e3,h2,h3,h4⟩:=dv.Ek (P:=P) (t:=t) n hu hi hz iP rR h0 hn zJ nQ h1 cy CH hw;obtain⟨o,c,h5,_⟩:=(dv.is h2).cL;subst h5;exact Fl e1 e2 e3 (hk o c A' h2 h3 h4)
def F0 (hu:P.underlying t=qf (.slice e))(hi:P.info? e=qf i)(hz:i.zero=qf z)(iP:i.size=size)(rR:z.cells.size=size)(h0:0<size)(CH:i.bytes<=2 ^ 16)(e1:gZ a x=v)(e2:gZ a y=.slice (qf ⟨n,0,qk⟩) 1 1)(hw:A.Wf)(hS:aj A L)(hp:aF L (.h (dv size v m cs)) K')(hn:A.bk n=qf (qm nF qj size))(zJ:U nF=size)(nQ:nF.all ZK=qj)(cy:m<2 ^ 30)(hs:∀A',aj A' K'->S A')(hk:∀o c A',aj A' (.h (dv size (.slice o (m+1) c) (m+1) (cs++nF))::K')->A'.Wf->A.next<=A'.next->aW P S K dE (d8 a d (.slice o (m+1) c)) A'):
 aW P S K (⟨d,qW ⟨qH qP,#[x,y],#[t,t]⟩,qk,3⟩::dE) a A:=by unfold aW;rw[az Yb];exact rec_core hu hi hz iP rR h0 CH e1 e2 hw hS hp hn zJ nQ cy λo c A' h1 h2 h3=>⟨hs A' h1.tail,hk o c A' h1 h2 h3⟩
end
def lq.cells (o:lq):List qi:=[qh qg o.pc,qh qg o.fB,qh qr o.val]
def xN (l:List lq):List qi:=l.flatMap lq.cells
def jD (v:qi)(l:List lq):HP:=dv 3 v (U l) (xN l)
def obsC_one (l:List lq)(o:lq):xN l++o.cells=xN (l++[o]):=by simp[xN]
section
variable {S:AW->Prop} {K:Fr->AW->Prop} {dE:List yW} {a:Fr} {A:AW} {d:Option Tmp} {x y:qA} {l:List lq} {n:Nat} {v:qi} {L K' K2:List It} {y1 y2 y3:Int}
def LU (e1:gZ a x=v)(e2:gZ a y=.slice (qf ⟨n,0,qk⟩) 1 1)(hw:A.Wf)(hS:aj A L)(hp:aF L (.h (jD v l)) K')(hn:A.bk n=qf (qm [qh qg y1,qh qg y2,qh qr y3] qj 3))(cy:U l<2 ^ 30)(hs:∀A',aj A' K'->S A')(hk:∀o c A',aj A' (.h (jD (.slice o (U l+1) c) (l++[⟨y1,y2,y3⟩]))::K')->A'.Wf->A.next<=A'.next->aW qZ S K dE (d8 a d (.slice o (U l+1) c)) A'):
 aW qZ S K (⟨d,qW ⟨qH qP,#[x,y],#[80,80]⟩,qk,3⟩::dE) a A:=by
 refine F0 (P:=qZ) (size:=3) (m:=U l) (cs:=xN l) Tryz.underlying80 Tryz.info83 Tryz.zero83 rfl rfl Ya Yd e1 e2 hw hS hp hn rfl rfl cy hs λo c A' h1 h2 h3=>hk o c A' ?_ h2 h3;have e:jD (.slice o (U l+1) c) (l++[⟨y1,y2,y3⟩])=dv 3 (.slice o (U l+1) c) (U l+1) (xN l++[qh qg y1,qh qg y2,qh qr y3]):=by unfold jD;rw[<-obsC_one,Zh];rfl
 rw[e];exact h1
def Ux (l:List lq):(xN l).all ZK=qj:=by rw[List.all_eq_true];intro v hv;obtain⟨x,_,hx⟩:=List.mem_flatMap.1 hv;simp only[lq.cells,List.mem_cons,List.not_mem_nil,or_false]at hx;rcases hx with rfl|rfl|rfl<;>rfl
def lwObs2 {v2:qi}{l2:List lq}(e1:gZ a x=v)(e2:gZ a y=v2)(hw:A.Wf)(hS:aj A L)(hp:aF L (.h (jD v l)) K')(yY:aF L (.h (jD v2 l2)) K2)(cy:U l+U l2<2 ^ 30)(hs:∀A',aj A' K'->S A')(hk:∀o c A',aj A' (.h (jD (.slice o (U l+U l2) c) (l++l2))::K')->A'.Wf->A.next<=A'.next->aW qZ S K dE (d8 a d (.slice o (U l+U l2) c)) A'):
 aW qZ S K (⟨d,qW ⟨qH qP,#[x,y],#[80,80]⟩,qk,3⟩::dE) a A:=by
 have h1:bD A (dv 3 v (U l) (xN l)*aP K'):=by have sG:=hS;unfold aj at sG;rw[hp.aP]at sG;exact sG
 have h2:gW A 3 v2 (U l2) (xN l2):=by have sG:=hS;unfold aj at sG;rw[yY.aP]at sG;exact dv.is sG
 obtain⟨v',A',e3,h3,h4,h5⟩:=dv.appendS (P:=qZ) (size:=3) (t:=80) Tryz.underlying80 Tryz.info83 Tryz.zero83 rfl rfl Ya h2 (Ux l2) h1 cy Yd hw;obtain⟨o,c,h6,_⟩:=(dv.is h3).cL;subst h6;have h7:aj A' (.h (jD (.slice o (U l+U l2) c) (l++l2))::K'):=by
  have e:jD (.slice o (U l+U l2) c) (l++l2)=dv 3 (.slice o (U l+U l2) c) (U l+U l2) (xN l++xN l2):=by unfold jD;rw[Zh,show xN (l++l2)=xN l++xN l2 by simp[xN]]
  show bD A' (jD (.slice o (U l+U l2) c) (l++l2)*aP K');rw[e];exact h3
 unfold aW;rw[az Yb];exact Fl e1 e2 e3 ⟨hs A' h7.tail,hk o c A' h7 h4 h5⟩
end
structure Bh where
 bW:Int
 nh:R8
 jz:Int
 aZ:Bool
 gt:Int
 cf:bu
 id:Int
 nt:Int
 pc:Int
 dY:R8
 mn:Int
 done:Bool
 kz:Int
structure ThW where
 va:Value
 vs:Value
 vf:Value
 vd:Value
 vc:Value
 vl:Value
 vo:Value
def aV.d (t:aV):Bh:=⟨t.bW,t.nh,t.jz,t.aZ,t.gt,t.cf,t.id,t.nt,t.pc,t.dY,t.mn,t.done,t.kz⟩
def pN (d:Bh)(w:ThW):List qi:=[w.va,qh qg d.bW,qh qr d.nh.r0,qh qr d.nh.r1,qh qr d.nh.r2,qh qr d.nh.r3,qh qr d.nh.r4,qh qr d.nh.r5,qh qr d.nh.r6,qh qr d.nh.r7,qh qg d.jz,w.vs,qt d.aZ,qh qg d.gt,w.vf,w.vd,qh qg d.cf.bm,qh qg d.cf.au,qh qg d.cf.base,qh qg d.cf.c0,qh qg d.cf.c1,qh qg d.cf.c2,qh qg d.cf.c3,qh qg d.cf.reads,qh qg d.cf.b8,qh qg d.cf.ao,qh qg d.cf.aB,qh qg d.cf.aC,qt d.cf.aZ,qh qg d.id,qh qg d.nt,w.vc,qh qg d.pc,qh qr d.dY.r0,qh qr d.dY.r1,qh qr d.dY.r2,qh qr d.dY.r3,qh qr d.dY.r4,qh qr d.dY.r5,qh qr d.dY.r6,qh qr d.dY.r7,qh qg d.mn,qt d.done,w.vl,w.vo,qh qg d.kz]
abbrev wo (d:Bh)(w:ThW):dt:=qm (pN d w) qj 1
variable {d:Bh} {w:ThW}
@[simp] def thC_len:U (pN d w)=46:=rfl
@[simp] def thC_g0:(pN d w)[0]?=qf (w.va):=rfl
@[simp] def thC_g1:(pN d w)[1]?=qf (qh qg d.bW):=rfl
@[simp] def thC_g10:(pN d w)[10]?=qf (qh qg d.jz):=rfl
@[simp] def thC_g11:(pN d w)[11]?=qf (w.vs):=rfl
@[simp] def thC_g12:(pN d w)[12]?=qf (qt d.aZ):=rfl
@[simp] def thC_g13:(pN d w)[13]?=qf (qh qg d.gt):=rfl
@[simp] def thC_g14:(pN d w)[14]?=qf (w.vf):=rfl
@[simp] def thC_g15:(pN d w)[15]?=qf (w.vd):=rfl
@[simp] def thC_g29:(pN d w)[29]?=qf (qh qg d.id):=rfl
@[simp] def thC_g30:(pN d w)[30]?=qf (qh qg d.nt):=rfl
@[simp] def thC_g31:(pN d w)[31]?=qf (w.vc):=rfl
@[simp] def thC_g32:(pN d w)[32]?=qf (qh qg d.pc):=rfl
@[simp] def thC_g41:(pN d w)[41]?=qf (qh qg d.mn):=rfl
@[simp] def thC_g42:(pN d w)[42]?=qf (qt d.done):=rfl
@[simp] def thC_g43:(pN d w)[43]?=qf (w.vl):=rfl
@[simp] def thC_g44:(pN d w)[44]?=qf (w.vo):=rfl
@[simp] def thC_g45:(pN d w)[45]?=qf (qh qg d.kz):=rfl
@[simp] def thC_g16:(pN d w)[16]?=qf (qh qg d.cf.bm):=rfl
@[simp] def thC_g28:(pN d w)[28]?=qf (qt d.cf.aZ):=rfl
@[simp] def thC_cf:((pN d w).drop 16).take 13=[qh qg d.cf.bm,qh qg d.cf.au,qh qg d.cf.base,qh qg d.cf.c0,qh qg d.cf.c1,qh qg d.cf.c2,qh qg d.cf.c3,qh qg d.cf.reads,qh qg d.cf.b8,qh qg d.cf.ao,qh qg d.cf.aB,qh qg d.cf.aC,qt d.cf.aZ]:=rfl
@[simp] def thC_rg:((pN d w).drop 33).take 8=d.dY.cells:=rfl
@[simp] def thC_sv:((pN d w).drop 2).take 8=d.nh.cells:=rfl
@[simp] def thC_st:((pN d w).drop 32).take 11=qh qg d.pc::(d.dY.cells++[qh qg d.mn,qt d.done]):=rfl
@[simp] def thC_s0 {x:qi}:(pN d w).set 0 (x)=pN d { w with va:=x }:=rfl
@[simp] def thC_s1 {x:Int}:(pN d w).set 1 (qh qg x)=pN { d with bW:=x } w:=rfl
@[simp] def thC_s10 {x:Int}:(pN d w).set 10 (qh qg x)=pN { d with jz:=x } w:=rfl
@[simp] def thC_s11 {x:qi}:(pN d w).set 11 (x)=pN d { w with vs:=x }:=rfl
@[simp] def thC_s12 {x:Bool}:(pN d w).set 12 (qt x)=pN { d with aZ:=x } w:=rfl
@[simp] def thC_s13 {x:Int}:(pN d w).set 13 (qh qg x)=pN { d with gt:=x } w:=rfl
@[simp] def thC_s14 {x:qi}:(pN d w).set 14 (x)=pN d { w with vf:=x }:=rfl
@[simp] def thC_s15 {x:qi}:(pN d w).set 15 (x)=pN d { w with vd:=x }:=rfl
@[simp] def thC_s32 {x:Int}:(pN d w).set 32 (qh qg x)=pN { d with pc:=x } w:=rfl
@[simp] def thC_s41 {x:Int}:(pN d w).set 41 (qh qg x)=pN { d with mn:=x } w:=rfl
@[simp] def thC_s42 {x:Bool}:(pN d w).set 42 (qt x)=pN { d with done:=x } w:=rfl
@[simp] def thC_s44 {x:qi}:(pN d w).set 44 (x)=pN d { w with vo:=x }:=rfl
@[simp] def thC_s45 {x:Int}:(pN d w).set 45 (qh qg x)=pN { d with kz:=x } w:=rfl
@[simp] def thC_ssv {r:R8}:dS (pN d w) 2 r.cells=pN { d with nh:=r } w:=rfl
@[simp] def thC_srg {r:R8}:dS (pN d w) 33 r.cells=pN { d with dY:=r } w:=rfl
def tV {i:Int}(h:0<=i/\i<8):(pN d w)[33+i.toNat]?=qf (qh qr (d.dY.bk i)):=by
 have h1:i=0\/i=1\/i=2\/i=3\/i=4\/i=5\/i=6\/i=7:=Ya
 rcases h1 with rfl|rfl|rfl|rfl|rfl|rfl|rfl|rfl<;>rfl
def Cf {i x:Int}(h:0<=i/\i<8):(pN d w).set (33+i.toNat) (qh qr x)=pN { d with dY:=d.dY.set i x } w:=by
 have h1:i=0\/i=1\/i=2\/i=3\/i=4\/i=5\/i=6\/i=7:=Ya
 rcases h1 with rfl|rfl|rfl|rfl|rfl|rfl|rfl|rfl<;>rfl
def Ms (v:qi)(l:List bp):HP:=dv 5 v (U l) (l.flatMap aA)
def BR {ι:Type}{φ ψ:ι->Prop}{x:ι}(h1:φ x)(h2:ψ x):∃x,φ x/\ψ x:=⟨x,h1,h2⟩
def aj.mH {A:AW}{L K:List It}{size n:Nat}{v:qi}{cs:List qi}(h:aj A L)(hp:aF L (.h (dv size v n cs)) K):gW A size v n cs:=by unfold aj at h;rw[hp.aP]at h;exact dv.is h
end
section
abbrev UE:List (Nat×Nat):=[(0,0),(1,0),(2,0),(3,0),(4,0),(5,0),(6,0),(7,0),(8,0),(9,0),(10,0),(11,0),(12,0),(13,2),(14,3),(15,0),(16,0),(17,3)]
open T7
variable [Gl]
def Ce (b:Nat)(d:Bh)(va vs vf vd vl vo:qi)(o:Option qM)(n c:Nat)(pc:Int):bz qZ 32 [pv b,qh qg pc] [.at b (wo d ⟨va,vs,vf,vd,.slice o n c,vl,vo⟩)] (λ_=>True)
 (λ_=>[.at b (wo { d with pc:=pc,done:=decide (pc=n) } ⟨va,vs,vf,vd,.slice o n c,vl,vo⟩)]):=by intro A F hw hS;refine aO Tryz.func32 λ_=>?_;dsimp only[aa,ah]at hS;have hq:=gv hS hw;revert hq hS hw;refine W db (J1 bL) ?_<;>(unhygienic intros);exact XH
def mC (b:Nat)(d:Bh)(va vs vf vd vl vo:qi)(o:Option qM)(n c:Nat)(h:0<=d.pc/\d.pc<2^40):bz qZ 68 [pv b] [.at b (wo d ⟨va,vs,vf,vd,.slice o n c,vl,vo⟩)] (λ_=>True)
 (λ_=>[.at b (wo { d with pc:=d.pc+1,done:=decide (d.pc+1=n) } ⟨va,vs,vf,vd,.slice o n c,vl,vo⟩)]):=by intro A F hw hS;refine aO Tryz.func68 λ_=>?_;dsimp only[aa,ah]at hS;have hq:=gv hS hw;have UT:Zb.wrap (d.pc+1)=d.pc+1:=an Ya Ya;revert hq hS hw;refine W (J1 (Ce b d va vs vf vd vl vo o n c (d.pc+1))) (J2 UT bL) ?_<;>(unhygienic intros);exact XH
def ko (b:Nat)(d:Bh)(w:ThW)(l:List lq)(kd v:Int)(hl:U l<2^30):eL qZ 67 [pv b,qh qg kd,qh qr v] [.at b (wo d w),.h (jD w.vo l)] (λ_ _=>True)
 (λvo=>[.at b (wo d { w with vo:=vo }),.h (jD vo (l++[⟨d.pc,kd,v⟩]))]):=by
 intro A F hw hS;refine aO Tryz.func67 λ_=>?_;dsimp only[aa,ah]at hS;have hq:=gv hS hw
 repeat' (first|(with_reducible apply LU;(·(simp;rfl));(·(simp;rfl));(·exact wA);(·exact sA);(·exact kA);(·exact AW.cD _ _);(·omega);(·intro _ _;trivial);rintro _ _ _ hS hw _;have hq:=gv hS hw)|(refine lz λR hR=>?_;simp[hq,AW.ab,aI];try simp(disch:=omega)only[az,ar,an,ax])|(refine hR _ _ ?_;clear hR R)|(refine hK _ _ ?_;clear hK K)|refine nx ?_|simp only[wS,UE]|refine wl Zm UE Yc λK hK=>?_)
 refine⟨_,by rfl,?_⟩;apply BR
 (·trivial)
 apply aj.bZ
 (·exact sA)
 (·exact pA)
def yq (b:Nat)(d:Bh)(w:ThW)(r cg:Int)(h:0<=r/\r<8)(A:AW)(hg:A.bk b=qf (wo d w)):fQ 139 [pv b,qh qg r,qh qg cg] A (qh qr (Zc.wrap (d.dY.bk r+Zc.wrap cg))):=by refine aO Tryz.func139 λ_=>?_;have Bq:=tV (d:=d) (w:=w) h;refine W db (J5 hg Bq h.1 h.2 bL) ?_<;>intros;exact⟨_,by rfl,rfl,rfl⟩
def ll (i:bp):qi:=.agg #[qh qg i.op,qh qg i.a,qh qg i.b,qh qg i.c,qh qg i.cg]
def tg (d:Bh)(i:bp):Int:=if i.op=12 then Zc.wrap (d.dY.bk i.b+Zc.wrap i.cg) else Zc.wrap (d.dY.bk i.a+Zc.wrap i.cg)
def MG (b:Nat)(d:Bh)(w:ThW)(i:bp)(ha:i.op=12\/i.op=13)(h:cQ i=0)(A:AW)(hg:A.bk b=qf (wo d w)):fQ 76 [pv b,ll i] A (qh qr (tg d i)):=by
 refine aE.wy (V:=qh qr (tg d i)) Yb (λhw=>?_) Yf;refine aO Tryz.func76 λ_=>?_;obtain⟨r1,r2,_⟩:=pd h;have b9:=hw.lt hg;have fL:¬b=A.next:=Ya
 unfold ll tg;rcases ha with h2|h2
 . have hb:=r2 YN
   repeat' (first|(refine lz λR hR=>?_;simp[h2,AW.ab];try simp(disch:=omega)only[az,ar,an,ax])|(refine hR _ _ ?_;clear hR R)|(refine hK _ _ ?_;clear hK K)|refine nx ?_|refine wn λK hK=>?_|simp only[wS]|(refine bT (yq b d w i.b i.cg hb _ ((AW.gJ _ _ fL).trans hg)) ?_;rintro _ _⟨rfl,rfl⟩_ _)|(show df _ _ _ _ _ _;refine nx ?_)|(refine wc rfl (λhc=>?_) (λhc=>?_)<;>(try simp at hc)))
   exact⟨_,by (simp;rfl),by simp[h2],AW.le.alloc _ _⟩
 have hb:=r1 YN
 repeat' (first|(refine lz λR hR=>?_;simp[h2,AW.ab];try simp(disch:=omega)only[az,ar,an,ax])|(refine hR _ _ ?_;clear hR R)|(refine hK _ _ ?_;clear hK K)|refine nx ?_|refine wn λK hK=>?_|simp only[wS]|(refine bT (yq b d w i.a i.cg hb _ ((AW.gJ _ _ fL).trans hg)) ?_;rintro _ _⟨rfl,rfl⟩_ _)|(show df _ _ _ _ _ _;refine nx ?_)|(refine wc rfl (λhc=>?_) (λhc=>?_)<;>(try simp at hc)))
 exact⟨_,by (simp;rfl),by simp[h2],AW.le.alloc _ _⟩
end
section
abbrev UD:List (Nat×Nat):=[(0,0),(1,0),(2,0),(3,0),(4,0),(5,0),(6,0),(7,0),(8,3)]
abbrev UC:List (Nat×Nat):=[(0,0),(1,0),(2,0),(3,0),(4,0),(5,0),(6,0),(7,0),(8,0),(9,0),(10,0),(11,0),(12,0),(13,0),(14,2),(15,3),(16,0),(17,0),(18,0),(19,3)]
abbrev UB:List (Nat×Nat):=[(0,0),(1,0),(2,0),(3,0),(4,0),(5,0),(6,0),(7,0),(8,0),(9,0),(10,3),(11,0),(12,0),(13,0),(14,3),(15,0),(16,0),(17,0),(18,3)]
abbrev AQ:List (Nat×Nat):=[(0,0),(1,0),(2,0),(3,0),(4,0),(5,0),(6,0),(7,0),(8,0),(9,0),(10,2),(11,3)]
abbrev AP:List (Nat×Nat):=[(0,0),(1,0),(2,0),(3,0),(4,0),(5,0),(6,0),(7,0),(8,0),(9,0),(11,0),(12,0),(13,0),(14,0),(15,0),(16,0),(17,0),(18,0),(10,2),(19,3)]
abbrev AO:List (Nat×Nat):=[(0,0),(1,0),(2,0),(3,0),(4,0),(5,0),(6,0),(7,3)]
abbrev AN:List (Nat×Nat):=[(0,0),(1,0),(2,0),(3,0),(4,0),(5,0),(6,0),(7,0),(8,0),(9,0),(10,0),(11,0),(12,0),(13,3)]
abbrev G8:List (Nat×Nat):=[(0,0),(1,0),(2,0),(3,0),(4,0),(5,0),(6,0),(7,2),(8,3)]
abbrev G7:List (Nat×Nat):=[(0,0),(1,0),(2,0),(3,0),(4,0),(5,0),(6,0),(8,0),(9,0),(10,0),(11,0),(12,0),(13,0),(14,0),(15,0),(7,2),(16,3)]
open T7
variable [Gl]
def yL (n:Nat)(s:aJ):∀A':AW,A'.Wf->aj A' [.h (bq n s)]->fQ 34 [pv n] A' (qt s.kQ):=λA' h1 h2=>Md n s s.aH A' h1 (bq.toB h2 .z)
def EK (n:Nat)(s:aJ):∀A':AW,A'.Wf->aj A' [.h (bq n s)]->fQ 125 [pv n] A' (qh qg s.aG):=λA' h1 h2=>RU n s _ s.aH A' h1 (bq.toB h2 .z)
def yI (n:Nat)(s:aJ):∀A':AW,A'.Wf->aj A' [.h (bq n s)]->fQ 72 [pv n] A' (qh qg s.aD):=λA' h1 h2=>WZ n s _ s.aH A' h1 (bq.toB h2 .z)
def Hw (n:Nat)(s:aJ):∀A':AW,A'.Wf->aj A' [.h (bq n s)]->fQ 211 [pv n] A' (qh qr s.value):=λA' h1 h2=>RJ n s _ s.aH A' h1 (bq.toB h2 .z)
def decidedP (n:Nat)(s:aJ):∀A':AW,A'.Wf->aj A' [.h (bq n s)]->fQ 70 [pv n] A' (qt s.am):=λA' h1 h2=>NX n s _ s.aH A' h1 (bq.toB h2 .z)
def OW (n:Nat)(s:aJ):∀A':AW,A'.Wf->aj A' [.h (bq n s)]->fQ 206 [pv n] A' (qh qg s.pX):=λA' h1 h2=>td n s _ s.aH A' h1 (bq.toB h2 .z)
def newE (c:bu)(hc:dl c)(t:Int):eL qZ 142 [c.v,qh qg t] [] (λn v=>v=pv n) (λn=>[.h (bq n (fq c t))]):=
 λA F hw hS=>new_call c hc t A F hw hS
def Gx (b:Nat)(d:Bh)(va vs vf vd vl vo:qi)(o:Option qM)(n c:Nat)(i1 i2 i3 cg:Int)(v:Int)(iA:List lq)(hi:cQ ⟨12,i1,i2,i3,cg⟩=0)(lj:0<=d.pc/\d.pc<2^40)(hl:U iA<2^30):
 eL qZ 146 [pv b,ll ⟨12,i1,i2,i3,cg⟩,qh qr v] [.at b (wo d ⟨va,vs,vf,vd,.slice o n c,vl,vo⟩),.h (jD vo iA)] (λ_ _=>True)
  (λvo=>[.at b (wo { d with dY:=d.dY.set i1 v,pc:=d.pc+1,done:=decide (d.pc+1=n) } ⟨va,vs,vf,vd,.slice o n c,vl,vo⟩),.h (jD vo (iA++[⟨d.pc,4,v⟩]))]):=by
 unfold ll;have ha:=(pd hi).1 rfl;dsimp only at ha;have Hb:=λx=>Cf (d:=d) (w:=⟨va,vs,vf,vd,.slice o n c,vl,vo⟩) (x:=x) ha;intro A F hw hS;refine aO Tryz.func146 λ_=>?_;dsimp only[aa,ah]at hS;have hq:=gv hS hw;revert hq hS hw;refine Wu (J3 (Tg.mk (n:=36) (λx1=>ko b { d with dY:=d.dY.set i1 v } x1 iA 4 v hl)) (Tg.mk (n:=37) (λx1 x2 x3 x4 x5 x6 x7 x8 x9=>mC b { d with dY:=d.dY.set i1 v } x1 x2 x3 x4 x5 x6 x7 x8 x9 lj)) (od UD)) (J4 Hb ha.1 ha.2 bL) ?_<;>(unhygienic intros);refine⟨_,by rfl,?_⟩;apply BR
 (·trivial)
 apply aj.bZ
 (·exact sA)
 (·exact pA)
def Gw (b:Nat)(d:Bh)(va vs vf vd vl vo:qi)(o:Option qM)(n c:Nat)(i1 i2 i3 cg:Int)(v:Int)(iA:List lq)(hi:cQ ⟨13,i1,i2,i3,cg⟩=0)(lj:0<=d.pc/\d.pc<2^40)(hl:U iA<2^30):
 eL qZ 146 [pv b,ll ⟨13,i1,i2,i3,cg⟩,qh qr v] [.at b (wo d ⟨va,vs,vf,vd,.slice o n c,vl,vo⟩),.h (jD vo iA)] (λ_ _=>True)
  (λvo=>[.at b (wo { d with pc:=d.pc+1,done:=decide (d.pc+1=n) } ⟨va,vs,vf,vd,.slice o n c,vl,vo⟩),.h (jD vo (iA++[⟨d.pc,5,v⟩]))]):=by
 unfold ll;intro A F hw hS;refine aO Tryz.func146 λ_=>?_;dsimp only[aa,ah]at hS;have hq:=gv hS hw;revert hq hS hw;refine Wu (J3 (Tg.mk (n:=36) (λx1=>ko b d x1 iA 5 v hl)) (Tg.mk (n:=37) (λx1 x2 x3 x4 x5 x6 x7 x8 x9=>mC b d x1 x2 x3 x4 x5 x6 x7 x8 x9 lj)) (od UD)) (J1 bL) ?_<;>(unhygienic intros);refine⟨_,by rfl,?_⟩;apply BR
 (·trivial)
 apply aj.bZ
 (·exact sA)
 (·exact pA)
def Qz (b n:Nat)(d:Bh)(vs vf vd vc vl vo:qi)(s:aJ)(dC:List lq)(r kd:Int)(hr:0<=r/\r<8)(hl:U dC<2^30):
 eL qZ 128 [pv b,qh qg r,qh qg kd] [.at b (wo d ⟨pv n,vs,vf,vd,vc,vl,vo⟩),.h (bq n s),.h (jD vs dC)] (λ_ _=>True)
  (λvs=>[.at b (wo { d with dY:=d.dY.set r s.value } ⟨pv n,vs,vf,vd,vc,vl,vo⟩),.h (bq n s),.h (jD vs (dC++[⟨d.pc,kd,s.value⟩]))]):=by
 have Hb:=λx=>Cf (d:=d) (w:=⟨pv n,vs,vf,vd,vc,vl,vo⟩) (x:=x) hr;intro A F hw hS;refine aO Tryz.func128 λ_=>?_;dsimp only[aa,ah]at hS;have hq:=gv hS hw
 repeat' (first|(with_reducible apply LU;(·(simp;rfl));(·(simp;rfl));(·exact wA);(·exact sA);(·exact kA);(·(simp;(repeat' (first|rfl|refine⟨rfl,?_⟩));done));(·omega);(·intro _ _;trivial);rintro _ _ _ hS hw _;have hq:=gv hS hw)|(refine lz λR hR=>?_;simp[hq,Hb,hr.1,hr.2,AW.ab,aI];try simp(disch:=omega)only[az])|(refine hR _ _ ?_;clear hR R)|(refine hK _ _ ?_;clear hK K)|refine nx ?_|refine wn λK hK=>?_|simp only[wS,UC]|refine wl Zm UC Yc λK hK=>?_|(apply gg (Hw n s);(·exact wA);(·exact sA);(·exact kA);)|(show df _ _ _ _ _ _;refine nx ?_))
 refine⟨_,by rfl,?_⟩;apply BR
 (·trivial)
 apply aj.bZ
 (·exact sA)
 (·exact pA)
def aj.nilO {A:AW}{L:List It}(h:aj A L):aj A (.h (jD (.slice qk 0 0) [])::L):=dv.nil h
def FC (b:Nat)(d:Bh)(w:ThW)(hc:dl d.cf)(hct:0<=d.kz/\d.kz<2^40):eL qZ 78 [pv b] [.at b (wo d w)] (λ_ _=>True)
 (λn=>[.at b (wo { d with kz:=d.kz+1 } { w with va:=pv n,vs:=.slice qk 0 0 }),.h (bq n (gE (fq d.cf d.id)).2),.h (jD (.slice qk 0 0) [])]):=by
 have UT:Zb.wrap (d.kz+1)=d.kz+1:=an Ya Ya;intro A F hw hS;refine aO Tryz.func78 λ_=>?_;dsimp only[aa,ah]at hS;have hq:=gv hS hw
 repeat' (first|(refine lz λR hR=>?_;simp[hq,UT,AW.ab,aI];try simp(disch:=omega)only[az,ar,an,ax])|(refine hR _ _ ?_;clear hR R)|(refine hK _ _ ?_;clear hK K)|refine nx ?_|refine wn λK hK=>?_|simp only[wS,UB]|refine wl Zm UB Yc λK hK=>?_|(apply eL.gk (newE d.cf hc d.id);(·exact wA);(·exact sA);(·exact pA);(rintro xw _ _ rfl hS hw _;have hS:=lA hS;(try (have hq:=gv hS hw))))|(apply bz.gk (TH _ (fq d.cf d.id));(·exact wA);(·exact sA);(·exact pA);rintro _ _ _ hS hw _;have hS:=lA hS;have hq:=gv hS hw)|(show df _ _ _ _ _ _;refine nx ?_))
 refine⟨_,by rfl,?_⟩;apply BR
 (·trivial)
 apply aj.bZ;apply aj.nilO
 (·exact sA)
 (·exact pA)
def EU (d:Bh)(i:bp)(s:aJ):aJ:=
 if i.op=10 then (LM s (Zc.wrap (d.dY.bk i.b+Zc.wrap i.cg))).2 else if i.op=11 then (Kl s (Zc.wrap (d.dY.bk i.a+Zc.wrap i.cg)) (d.dY.bk i.b)).2 else if i.op=14 then (Rf s i.cg).2
 else if i.op=15 then (QE s (d.dY.bk i.a)).2 else if i.op=8 then (GR s 1).2 else if i.op=9 then (GR s 2).2 else s
def u64_nn (x:Int):0<=Zc.wrap x:=(kV x).1
def addrE (b:Nat)(d:Bh)(w:ThW)(r cg:Int)(h:0<=r/\r<8){A:AW}{L K:List It}{k:qi->AW->Prop}(hw:A.Wf)(hS:aj A L)(hp:aF L (.at b (wo d w)) K)(hk:k (qh qr (Zc.wrap (d.dY.bk r+Zc.wrap cg))) A):aE qZ 139 [pv b,qh qg r,qh qg cg] A k:=by
 have hg:A.bk b=qf (wo d w):=by exact X8
 refine bT (yq b d w r cg h A hg) ?_;rintro _ _⟨rfl,rfl⟩_ _;exact hk
def HF (b:Nat)(d:Bh)(w:ThW)(i:bp)(ha:i.op=12\/i.op=13)(h:cQ i=0){A:AW}{L K:List It}{k:qi->AW->Prop}(hw:A.Wf)(hS:aj A L)(hp:aF L (.at b (wo d w)) K)(hk:k (qh qr (tg d i)) A):aE qZ 76 [pv b,ll i] A k:=by
 have hg:A.bk b=qf (wo d w):=by exact X8
 refine bT (MG b d w i ha h A hg) ?_;rintro _ _⟨rfl,rfl⟩_ _;exact hk
def M6 (b n:Nat)(d:Bh)(vs vf vd vc vl vo:qi)(i:bp)(s:aJ)(hC:iF s)(lV:i.op=10\/i.op=11\/i.op=14\/i.op=15\/i.op=8\/i.op=9)(hi:cQ i=0):
 bz qZ 79 [pv b,ll i] [.at b (wo d ⟨pv n,vs,vf,vd,vc,vl,vo⟩),.h (bq n s)] (λ_=>True) (λ_=>[.at b (wo d ⟨pv n,vs,vf,vd,vc,vl,vo⟩),.h (bq n (EU d i s))]):=by
 obtain⟨r1,r2,_⟩:=pd hi;unfold ll;rcases lV with h2|h2|h2|h2|h2|h2
 . have hb:=r2 YN;have e:EU d i s=_:=az h2;intro A F hw hS;refine aO kbq λ_=>?_;dsimp only[aa,ah]at hS;have hq:=gv hS hw;revert hq hS hw;refine Wu (J6 (Tg.mk (n:=10) (λ{A L K k} x1=>addrE (A:=A) (L:=L) (K:=K) (k:=k) b d x1 i.b i.cg hb)) (Tg.mk (n:=37) (λx1=>LL n s _ hC (u64_nn x1))) (od AQ) (od AP) (od AO) (od AN)) (J2 h2 bL) ?_<;>(unhygienic intros);rw[e];exact XH
 . have ha:=r1 YN;have hb:=r2 YN;have Bq:=tV (d:=d) (w:=⟨pv n,vs,vf,vd,vc,vl,vo⟩) hb;have e:EU d i s=(Kl s (Zc.wrap (d.dY.bk i.a+Zc.wrap i.cg)) (d.dY.bk i.b)).2:=(by unfold EU;rw[ar Ya,az h2]);intro A F hw hS;refine aO kbq λ_=>?_;dsimp only[aa,ah]at hS;have hq:=gv hS hw;revert hq hS hw;refine W (J6 (Tg.mk (n:=10) (λ{A L K k} x1=>addrE (A:=A) (L:=L) (K:=K) (k:=k) b d x1 i.a i.cg ha)) (od AQ) (od AP) (od AO) (od AN) (Ht n s)) (J5 h2 Bq hb.1 hb.2 bL) ?_<;>(unhygienic intros);rw[e];exact XH
 . have e:EU d i s=(Rf s i.cg).2:=(by unfold EU;rw[ar Ya,ar Ya,az h2]);intro A F hw hS;refine aO kbq λ_=>?_;dsimp only[aa,ah]at hS;have hq:=gv hS hw;revert hq hS hw;refine Wu (J5 (Tg.mk (n:=37) (λx1=>TY n s x1 hC)) (od AQ) (od AP) (od AO) (od AN)) (J2 h2 bL) ?_<;>(unhygienic intros);rw[e];exact XH
 . have ha:=r1 YN;have Bq:=tV (d:=d) (w:=⟨pv n,vs,vf,vd,vc,vl,vo⟩) ha;have e:EU d i s=(QE s (d.dY.bk i.a)).2:=(by unfold EU;rw[ar Ya,ar Ya,ar Ya,az h2]);intro A F hw hS;refine aO kbq λ_=>?_;dsimp only[aa,ah]at hS;have hq:=gv hS hw;revert hq hS hw;refine Wu (J5 (Tg.mk (n:=37) (λx1=>WK n s x1 hC)) (od AQ) (od AP) (od AO) (od AN)) (J5 h2 Bq ha.1 ha.2 bL) ?_<;>(unhygienic intros);rw[e];exact XH
 . have e:EU d i s=(GR s 1).2:=(by unfold EU;rw[ar Ya,ar Ya,ar Ya,ar Ya,az h2]);intro A F hw hS;refine aO kbq λ_=>?_;dsimp only[aa,ah]at hS;have hq:=gv hS hw;revert hq hS hw;refine W (J5 (od AQ) (od AP) (od AO) (od AN) (Ae n s 1)) (J2 h2 bL) ?_<;>(unhygienic intros);rw[e];exact XH
 have e:EU d i s=(GR s 2).2:=by unfold EU;rw[ar Ya,ar Ya,ar Ya,ar Ya,ar Ya,az h2]
 intro A F hw hS;refine aO kbq λ_=>?_;dsimp only[aa,ah]at hS;have hq:=gv hS hw;revert hq hS hw;refine W (J5 (od AQ) (od AP) (od AO) (od AN) (Ae n s 2)) (J2 h2 bL) ?_<;>(unhygienic intros);rw[e];exact XH
def TP (d:Bh)(i:bp)(s:aJ):aJ:=if 1<d.gt+1 then (GR s 1).2 else if i.op=12 then (LM s (tg d i)).2 else (Kl s (tg d i) (d.dY.bk i.b)).2
def tgt_nn (d:Bh)(i:bp):0<=tg d i:=by unfold tg;split<;>exact u64_nn _
def VJ (b n:Nat)(d:Bh)(vs vf vd vc vl vo:qi)(i:bp)(s:aJ)(hC:iF s)(lV:i.op=12\/i.op=13)(hi:cQ i=0)(hak:0<=d.gt/\d.gt<2^40):
 bz qZ 36 [pv b,ll i] [.at b (wo d ⟨pv n,vs,vf,vd,vc,vl,vo⟩),.h (bq n s)] (λ_=>True) (λ_=>[.at b (wo { d with gt:=d.gt+1 } ⟨pv n,vs,vf,vd,vc,vl,vo⟩),.h (bq n (TP d i s))]):=by
 have UT:Zb.wrap (d.gt+1)=d.gt+1:=an Ya Ya;obtain⟨r1,r2,_⟩:=pd hi;obtain⟨op,i1,i2,i3,cg⟩:=i;dsimp only at lV r2;unfold ll;by_cases h1:1<d.gt+1
 . have e:TP d ⟨op,i1,i2,i3,cg⟩ s=_:=az h1;intro A F hw hS;refine aO Tryz.func36 λ_=>?_;dsimp only[aa,ah]at hS;have hq:=gv hS hw;revert hq hS hw;refine W (J3 (od G8) (od G7) (Ae n s 1)) (J3 UT h1 bL) ?_<;>(unhygienic intros);rw[e];exact XH
 rcases lV with h2|h2
 . subst h2;have e:TP d ⟨12,i1,i2,i3,cg⟩ s=(LM s (tg { d with gt:=d.gt+1 } ⟨12,i1,i2,i3,cg⟩)).2:=(by unfold TP;rw[ar h1,az rfl];rfl);intro A F hw hS;refine aO Tryz.func36 λ_=>?_;dsimp only[aa,ah]at hS;have hq:=gv hS hw
   repeat' (first|(refine lz λR hR=>?_;simp[hq,UT,h1,AW.ab,aI];try simp(disch:=omega)only[az,ar,an,ax])|(refine hR _ _ ?_;clear hR R)|(refine hK _ _ ?_;clear hK K)|refine nx ?_|refine wn λK hK=>?_|simp only[wS,G8]|refine wl Zm G8 Yc λK hK=>?_|(apply HF b { d with gt:=d.gt+1 } _ ⟨12,i1,i2,i3,cg⟩ (qw rfl) hi;(·exact wA);(·exact sA);(·exact kA);)|(apply bz.gk (LL n s _ hC (tgt_nn _ _));(·exact wA);(·exact sA);(·exact pA);rintro _ _ _ hS hw _;have hS:=lA hS;have hq:=gv hS hw)|(show df _ _ _ _ _ _;refine nx ?_)|(refine wc rfl (λhc=>?_) (λhc=>?_)<;>(try simp at hc)))
   rw[e];exact XH
 subst h2;have hb:=r2 rfl;have Bq:=tV (d:={ d with gt:=d.gt+1 }) (w:=⟨pv n,vs,vf,vd,vc,vl,vo⟩) hb;have e:TP d ⟨13,i1,i2,i3,cg⟩ s=(Kl s (tg { d with gt:=d.gt+1 } ⟨13,i1,i2,i3,cg⟩) (d.dY.bk i2)).2:=by unfold TP;rw[ar h1,ar (show ¬(13:Int)=12 by decide)];rfl
 intro A F hw hS;refine aO Tryz.func36 λ_=>?_;dsimp only[aa,ah]at hS;have hq:=gv hS hw;revert hq hS hw;refine W (J4 (Tg.mk (n:=10) (λ{A L K k} x1=>HF (A:=A) (L:=L) (K:=K) (k:=k) b { d with gt:=d.gt+1 } x1 ⟨13,i1,i2,i3,cg⟩ (qB rfl) hi)) (od G8) (od G7) (Ht n s)) (J6 UT h1 Bq hb.1 hb.2 bL) ?_<;>(unhygienic intros);rw[e];exact XH
end
section
abbrev UA:List (Nat×Nat):=[(0,0),(1,0),(2,0),(3,0),(4,0),(5,0),(6,0),(7,0),(8,0),(9,0),(10,0),(11,0),(12,0),(13,0),(14,0),(15,0)]
abbrev Uz:List (Nat×Nat):=[(0,0),(1,0),(2,0),(3,0),(4,0),(5,0),(6,0),(7,0),(8,0)]
open T24
variable [Gl]
def oG {f:FuncId}{args:List qi}{V:qi}{b:Nat}{o:dt}(hC:∀A:AW,A.bk b=qf o->fQ f args A V){A:AW}{L K:List It}{k:qi->AW->Prop}(hw:A.Wf)(hS:aj A L)(hp:aF L (.at b o) K)(hk:k V A):aE qZ f args A k:=by
 have hg:A.bk b=qf o:=by exact X8
 refine bT (hC A hg) ?_;rintro _ _⟨rfl,rfl⟩_ _;exact hk
def w6 (f:kB):dt:=qm [qh qg f.af,qh qg f.oW,qt f.fx,qh qr f.DN,qh qg f.next] qj 1
def KN (t n:Int)(A:AW):aE qZ 81 [qh qg t,qh qg n] A (λv A'=>v=qs (qf ⟨A.next,0,qk⟩)/\A'=A.alloc (w6 ⟨t,n,qn,0,0⟩)):=by refine aO Tryz.func81 λ_=>?_;refine W db db ?_<;>intros;exact XU
def pC (b:Nat)(s:kB)(A:AW)(hg:A.bk b=qf (w6 s)):fQ 61 [qs (qf ⟨b,0,qk⟩)] A (qt s.done):=by refine aO Tryz.func61 λ_=>?_;dsimp only[w6]at hg;unfold kB.done;cases h:s.fx;refine W (J1 (od UA)) (J3 hg h @AW.ab) ?_<;>intros;exact⟨_,rfl,by simp,rfl⟩;refine W (J1 (od UA)) (J3 hg h @AW.ab) ?_<;>intros;exact⟨_,rfl,by simp,rfl⟩
def Ld (b:Nat)(s:kB)(A:AW)(hg:A.bk b=qf (w6 s)):fQ 63 [qs (qf ⟨b,0,qk⟩)] A (qh qg s.p9):=by refine aO Tryz.func63 λ_=>?_;dsimp only[w6]at hg;unfold kB.p9;cases h:s.fx;refine W db (J3 hg h @AW.ab) ?_<;>intros;exact⟨_,rfl,by simp,rfl⟩;refine W db (J3 hg h @AW.ab) ?_<;>intros;exact⟨_,rfl,by simp,rfl⟩
def za (x:Int)(A:AW):fQ 170 [qh qr x] A (qh qg (if x=0 then 0 else if x=1 then 1 else 2)):=by
 refine aO Tryz.func170 λ_=>?_;refine W db db (J3 ?_ ?_ ?_)<;>intros
 all_goals exact⟨_,rfl,by simp_all,rfl⟩
def Aa (b:Nat)(s:kB)(x:Int)(A:AW)(hg:A.bk b=qf (w6 s)):fQ 104 [qs (qf ⟨b,0,qk⟩),qh qr x] A (qt (s.E0 x)):=by refine aO Tryz.func104 λ_=>?_;dsimp only[w6]at hg;unfold kB.E0;by_cases h0:x=0;have cJ:=za x;rw[az h0]at cJ;refine W (J1 @cJ) (J2 hg @AW.ab) ?_<;>intros;exact⟨_,rfl,by simp[h0],rfl⟩;by_cases h1:x=1;have cJ:=za x;rw[ar h0,az h1]at cJ;refine W (J1 @cJ) (J2 hg @AW.ab) ?_<;>intros;exact⟨_,rfl,by simp[h1],rfl⟩;have cJ:=za x;rw[ar h0,ar h1]at cJ;refine W (J1 @cJ) (J2 hg @AW.ab) ?_<;>intros;exact⟨_,rfl,by simp[h0,h1],rfl⟩
def D7 (b:Nat)(f:kB)(hn:0<=f.next/\f.next<2^40):bz qZ 103 [qs (qf ⟨b,0,qk⟩)] [.at b (w6 f)] (λ_=>True) (λ_=>[.at b (w6 f.skip)]):=by
 intro A F hw hS;refine aO Tryz.func103 λ_=>?_;dsimp only[aa,ah]at hS;have hq:=s9 hS hw;have UT:Zb.wrap (f.next+1)=f.next+1:=an Ya Ya;unfold kB.skip;by_cases h:f.next=f.af
 . have e:(if f.next=f.af then ({ f with next:=f.next+1 }:kB) else f)={ f with next:=f.next+1 }:=az h;rw[<-h]at hq;revert hq hS hw;refine W (J1 (od Uz)) (J2 UT bL) ?_<;>(unhygienic intros)
   all_goals(
    try rw[e]
    refine⟨_,by simp[];rfl,by trivial,?_⟩;apply aj.bZ
    (·exact sA)
    (·repeat' (first|apply bd.z|apply bd.s|apply aF.z|(apply aF.OE;simp[w6,h];done))))
 have e:(if f.next=f.af then ({ f with next:=f.next+1 }:kB) else f)=f:=ar h;revert hq hS hw;refine W (J1 (od Uz)) (J2 h bL) ?_<;>(unhygienic intros)
 all_goals(
  try rw[e]
  refine⟨_,by simp[];rfl,by trivial,?_⟩;apply aj.bZ
  (·exact sA)
  (·repeat' (first|apply bd.z|apply bd.s|apply aF.z)))
def WP (f:kB)(M:Mm):(f.done=qj/\gG f M=(bj.zero,f)) \/
 ((f.done=qn/\f.fx=qn)/\gG f M=(iy M 3 0,({ f with fx:=qj,DN:=(iy M 3 0).eV }:kB).skip)) \/
 ((f.done=qn/\f.fx=qj/\f.E0 (iy M 6 f.next).eV=qj)/\gG f M=(iy M 6 f.next,({ f with next:=f.next+1 }:kB).skip)) \/
 ((f.done=qn/\f.fx=qj/\f.E0 (iy M 6 f.next).eV=qn)/\gG f M=(iy M 6 f.next,f)):=by unfold gG;cases h0:f.done<;>cases h1:f.fx<;>cases h2:f.E0 (iy M 6 f.next).eV<;>simp
def NL (b pb:Nat)(f:kB)(M:Mm)(hn:0<=f.next/\f.next<2^39):
 bz qZ 60 [qs (qf ⟨b,0,qk⟩),qs (qf ⟨pb,0,qk⟩)] [.at b (w6 f),eA pb M]
  (λv=>v=(gG f M).1.v) (λ_=>[.at b (w6 (gG f M).2),eA pb M]):=by
 intro A F hw hS;refine aO Tryz.func60 λ_=>?_;dsimp only[aa,ah]at hS;have hq:=s9 hS hw;have UT:Zb.wrap (f.next+1)=f.next+1:=an Ya Ya;have BO:0<=f.next/\f.next<2^40:=Ya
 have hn3:0<=f.next+1/\f.next+1<2^40:=Ya
 rcases WP f M with ⟨h,e⟩|⟨h,e⟩|⟨h,e⟩|⟨h,e⟩
 . have hd:=λA hg=>pC b f A hg;rw[h]at hd;revert hq hS hw;refine W (J1 (Tg.mk (n:=10) (λ{A L K k}=>oG (A:=A) (L:=L) (K:=K) (k:=k) hd))) (J4 h bL @bx.eq_1 @bj.v.eq_1) ?_<;>(unhygienic intros)
   all_goals(
    try rw[e]
    refine⟨_,by simp[AW.ab];rfl,by trivial,?_⟩;apply aj.bZ
    (·exact sA)
    (·repeat' (first|apply bd.z|apply bd.s|apply aF.z|apply aF.s)))
 . have hd:=λA hg=>pC b f A hg;rw[h.1]at hd;revert hq hS hw;refine Wu (J4 (Tg.mk (n:=10) (λ{A L K k}=>oG (A:=A) (L:=L) (K:=K) (k:=k) hd)) (⟨⟩:Os (λA'=>A'.bk (A.next+1)=qf (qm (accC (iy M 3 0)) qj 1)) [(0,0),(1,0),(2,0),(3,1),(4,0),(5,0),(6,3),(7,0),(8,0),(9,3)]) (ldL pb) (D7 b { f with fx:=qj,DN:=(iy M 3 0).eV } BO)) (J4 h bL @bx.eq_1 @bj.v.eq_1) ?_<;>(unhygienic intros)
   all_goals(
    try rw[e]
    refine⟨_,by simp[AW.ab];rfl,by trivial,?_⟩;apply aj.bZ
    (·exact sA)
    (·repeat' (first|apply bd.z|apply bd.s|apply aF.z|apply aF.s)))
 . have hd:=λA hg=>pC b f A hg;have hp:=λA hg=>Aa b f (iy M 6 f.next).eV A hg;rw[h.1]at hd;rw[h.2.2]at hp;have e2:({ f with next:=f.next+1 }:kB)=⟨f.af,f.oW,qj,f.DN,f.next+1⟩:=(by rw[<-h.2.1]);rw[e2]at e;revert hq hS hw;refine W (J4 (Tg.mk (n:=10) (λ{A L K k}=>oG (A:=A) (L:=L) (K:=K) (k:=k) hd)) (Tg.mk (n:=10) (λ{A L K k}=>oG (A:=A) (L:=L) (K:=K) (k:=k) hp)) (ldL pb) (D7 b ⟨f.af,f.oW,qj,f.DN,f.next+1⟩ hn3)) (J5 h UT bL @bx.eq_1 @bj.v.eq_1) ?_<;>(unhygienic intros)
   all_goals(
    try rw[e]
    refine⟨_,by simp[AW.ab];rfl,by trivial,?_⟩;apply aj.bZ
    (·exact sA)
    (·repeat' (first|apply bd.z|apply bd.s|apply aF.z|apply aF.s)))
 have hd:=λA hg=>pC b f A hg;have hp:=λA hg=>Aa b f (iy M 6 f.next).eV A hg;rw[h.1]at hd;rw[h.2.2]at hp;revert hq hS hw;refine W (J3 (Tg.mk (n:=10) (λ{A L K k}=>oG (A:=A) (L:=L) (K:=K) (k:=k) hd)) (Tg.mk (n:=10) (λ{A L K k}=>oG (A:=A) (L:=L) (K:=K) (k:=k) hp)) (ldL pb)) (J4 h bL @bx.eq_1 @bj.v.eq_1) ?_<;>(unhygienic intros)
 all_goals(
  try rw[e]
  refine⟨_,by simp[AW.ab];rfl,by trivial,?_⟩;apply aj.bZ
  (·exact sA)
  (·repeat' (first|apply bd.z|apply bd.s|apply aF.z|apply aF.s)))
end
section
open Go.Proofs Go
variable [Gl]
def WU (l:List (Int×Int)):List qi:=l.flatMap λx=>[qh qg x.1,qh qg x.2]
def LmE (v:qi)(l:List (Int×Int)):HP:=dv 2 v (U l) (WU l)
def oC (v:qi)(l:List Nat):HP:=dv 1 v (U l) (l.map pv)
def gW.recAt {A:AW}{o:Option qM}{c n m size:Nat}{cs x:List qi}(h:gW A size (.slice o n c) m cs){i:Nat}(hi:i<m)(hx:(cs.drop (i*size)).take size=x):
 ∃p bO,o=qf p/\A.bO p.block=qf bO/\p.off+i*size+size<=U bO/\(bO.drop (p.off+i*size)).take size=x:=by
 rcases h with ⟨⟨o,h1⟩,h2,_⟩|⟨p,c,bO,own,u,h1,h2,h3,h4,h5,h6⟩;omega;injection h1 with h1 _ _;have h7:i*size+size<=m*size:=by have:=Nat.mul_le_mul_right size (show i+1<=m by omega);rwa [kaA,Nat.one_mul]at this
 refine⟨p,bO,h1,AW.ES h3,by omega,?_⟩;rw[<-hx,h6,<-List.drop_drop,List.drop_take,List.take_take];congr 1;omega
def xH {α:Type}(f:α->List qi)(k:Nat)(hf:∀x,U (f x)=k):∀(l:List α)(i:Nat)(hi:i<U l),((l.flatMap f).drop (i*k)).take k=f l[i]
 |[],i,hi=>by simp at hi
 |x::l,0,hi=>by simp only[kbc,Nat.zero_mul,kap,List.getElem_cons_zero];rw[<-hf x,List.take_left'];rfl
 |x::l,i+1,hi=>by rw[kbc,kaA,Nat.one_mul,Nat.add_comm,<-List.drop_drop,List.drop_left' (hf x)];exact xH f k hf l i YP
def aj.entAt {A:AW}{L K:List It}{o:Option qM}{n c:Nat}{l:List (Int×Int)}(hS:aj A L)(hp:aF L (.h (LmE (.slice o n c) l)) K){i:Nat}(hi:i<U l):
 ∃p bO,o=qf p/\A.bO p.block=qf bO/\p.off+i*2+2<=U bO/\(bO.drop (p.off+i*2)).take 2=[qh qg l[i].1,qh qg l[i].2]:=
 gW.recAt (aj.mH hS hp) hi (xH _ 2 (λ_=>rfl) l i hi)
section
variable {S:AW->Prop} {K:Fr->AW->Prop} {dE:List yW} {a:Fr} {A:AW} {d:Option Tmp} {x y:qA} {n:Nat} {v:qi} {L K':List It}
def lwEnt {l:List (Int×Int)}{y1 y2:Int}(e1:gZ a x=v)(e2:gZ a y=.slice (qf ⟨n,0,qk⟩) 1 1)(hw:A.Wf)(hS:aj A L)(hp:aF L (.h (LmE v l)) K')(hn:A.bk n=qf (qm [qh qg y1,qh qg y2] qj 2))(cy:U l<2 ^ 30)(hs:∀A',aj A' K'->S A')(hk:∀o c A',aj A' (.h (LmE (.slice o (U l+1) c) (l++[(y1,y2)]))::K')->A'.Wf->A.next<=A'.next->aW qZ S K dE (d8 a d (.slice o (U l+1) c)) A'):
 aW qZ S K (⟨d,qW ⟨qH qP,#[x,y],#[149,149]⟩,qk,3⟩::dE) a A:=by
 refine F0 (P:=qZ) (size:=2) (m:=U l) (cs:=WU l) Tryz.underlying149 Tryz.info227 Tryz.zero227 rfl rfl Ya Yd e1 e2 hw hS hp hn rfl rfl cy hs λo c A' h1 h2 h3=>hk o c A' ?_ h2 h3;have e:LmE (.slice o (U l+1) c) (l++[(y1,y2)])=dv 2 (.slice o (U l+1) c) (U l+1) (WU l++[qh qg y1,qh qg y2]):=by unfold LmE;rw[Zh,show WU (l++[(y1,y2)])=WU l++[qh qg y1,qh qg y2] by simp[WU]];rfl
 rw[e];exact h1
def lwPush {l:List Nat}{q:Nat}(e1:gZ a x=v)(e2:gZ a y=.slice (qf ⟨n,0,qk⟩) 1 1)(hw:A.Wf)(hS:aj A L)(hp:aF L (.h (oC v l)) K')(hn:A.bk n=qf (qm [pv q] qj 1))(cy:U l<2 ^ 30)(hs:∀A',aj A' K'->S A')(hk:∀o c A',aj A' (.h (oC (.slice o (U l+1) c) (l++[q]))::K')->A'.Wf->A.next<=A'.next->aW qZ S K dE (d8 a d (.slice o (U l+1) c)) A'):
 aW qZ S K (⟨d,qW ⟨qH qP,#[x,y],#[223,223]⟩,qk,3⟩::dE) a A:=by
 refine F0 (P:=qZ) (size:=1) (m:=U l) (cs:=l.map pv) Tryz.underlying223 Tryz.info168 Tryz.zero168 rfl rfl Ya Yd e1 e2 hw hS hp hn rfl rfl cy hs λo c A' h1 h2 h3=>hk o c A' ?_ h2 h3;have e:oC (.slice o (U l+1) c) (l++[q])=dv 1 (.slice o (U l+1) c) (U l+1) (l.map pv++[pv q]):=by unfold oC;rw[Zh,List.map_append];rfl
 rw[e];exact h1
end
def limO (c:bu)(v:qi):dt:=qm [qh qg c.bm,qh qg c.au,qh qg c.base,qh qg c.c0,qh qg c.c1,qh qg c.c2,qh qg c.c3,qh qg c.reads,qh qg c.b8,qh qg c.ao,qh qg c.aB,qh qg c.aC,qt c.aZ,v] qj 1
def Wd (p:Nat)(c:bu)(l:List (Int×Int))(v:qi):List It:=[.at p (limO c v),.h (LmE v l)]
def sV (p:Nat)(c:bu)(l:List (Int×Int)):HP:=ut λv:qi=>aP (Wd p c l v)
def rZ (q:List (Nat×gy)):HP:=q.foldr (λx P=>pt x.1 (iW x.2)*P) eY
def Se (q:List (Nat×gy))(x:Nat×gy):rZ (q++[x])=pt x.1 (iW x.2)*rZ q:=by
 induction q with
 |nil=>rfl
 |cons y q ih=>
   show pt y.1 (iW y.2)*rZ (q++[x])=pt x.1 (iW x.2)*(pt y.1 (iW y.2)*rZ q);rw[ih]
   ac_rfl
def aj.pushH {A:AW}{L K:List It}{n:Nat}{p:gy}{q:List (Nat×gy)}(h:aj A L)(h1:aF L (.h (rZ ((n,p)::q))) K):aj A (.at n (iW p)::.h (rZ q)::K):=by unfold aj at h ⊢;rw[h1.aP]at h;exact h.dJ (by show (pt n (iW p)*rZ q)*aP K=pt n (iW p)*(rZ q*aP K);ac_rfl)
def aj.pushB {A:AW}{L K K2:List It}{n:Nat}{p:gy}{q:List (Nat×gy)}(h:aj A L)(h1:aF L (.at n (iW p)) K)(h2:aF K (.h (rZ q)) K2):aj A (.h (rZ ((n,p)::q))::K2):=by unfold aj at h ⊢;rw[h1.aP,h2.aP]at h;exact h.dJ (by show pt n (iW p)*(rZ q*aP K2)=(pt n (iW p)*rZ q)*aP K2;ac_rfl)
def drI (p:Nat)(x:qi×List (Nat×gy)):List It:=[.at p (qm [x.1] qj 1),.h (oC x.1 (x.2.map ZB)),.h (rZ x.2)]
def EA (p:Nat)(l:List gy):HP:=ut λx:qi×{ q:List (Nat×gy) // q.map kaj=l }=>aP (drI p (x.1,x.2.1))
section
variable {A:AW} {L K:List It} {p:Nat}
def sV.open {c:bu}{l:List (Int×Int)}(h:aj A L)(hp:aF L (.h (sV p c l)) K):∃v,aj A (Wd p c l v++K):=lb h hp
def sV.eB {c:bu}{l:List (Int×Int)}{v:qi}(h:aj A L)(e:bd L (Wd p c l v) K):aj A (.h (sV p c l)::K):=ju v h e
def EA.open {l:List gy}(h:aj A L)(hp:aF L (.h (EA p l)) K):∃v q,q.map kaj=l/\aj A (drI p (v,q)++K):=by obtain⟨⟨v,q,hq⟩,h⟩:=lb h hp;exact⟨v,q,hq,h⟩
def EA.eB {l:List gy}{v:qi}{q:List (Nat×gy)}(hq:q.map kaj=l)(h:aj A L)(e:bd L (drI p (v,q)) K):aj A (.h (EA p l)::K):=ju (g:=λx:qi×{ q:List (Nat×gy) // q.map kaj=l }=>drI p (x.1,x.2.1)) (v,⟨q,hq⟩) h e
def EA.nil (h:aj A L)(h1:aF L (.at p (qm [.slice qk 0 0] qj 1)) K):aj A (.h (EA p [])::K):=by
 have h2:aj A (.at p (qm [.slice qk 0 0] qj 1)::K):=by unfold aj at h ⊢;rw[h1.aP]at h;exact h
 have h3:aj A (.h eY::.at p (qm [.slice qk 0 0] qj 1)::K):=aj.oA h2;have h4:aj A (.h (oC (.slice qk 0 0) [])::.h eY::.at p (qm [.slice qk 0 0] qj 1)::K):=dv.nil h3;exact EA.eB (v:=.slice qk 0 0) (q:=[]) rfl h4 (.s (.s (.s .z)) (.s .z (.s .z .z)))
def EA.oZ {K1 K2 K3:List It}{n:Nat}{v:qi}{q:List (Nat×gy)}{x:gy}{l:List gy}(hq:q.map kaj=l)(h:aj A L)(h1:aF L (.at p (qm [v] qj 1)) K)(h2:aF K (.h (oC v (q.map ZB++[n]))) K1)(h3:aF K1 (.h (rZ q)) K2)(h4:aF K2 (.at n (iW x)) K3):
 aj A (.h (EA p (l++[x]))::K3):=by
 have h5:aj A (.h (rZ (q++[(n,x)]))::.at p (qm [v] qj 1)::.h (oC v ((q++[(n,x)]).map ZB))::K3):=by unfold aj at h ⊢;rw[h1.aP,h2.aP,h3.aP,h4.aP]at h;show bD A (rZ (q++[(n,x)])*(pt p (qm [v] qj 1)*(oC v ((q++[(n,x)]).map ZB)*aP K3)));rw[Se,List.map_append];exact h.dJ (by show pt p (qm [v] qj 1)*(oC v (q.map ZB++[n])*(rZ q*(pt n (iW x)*aP K3)))=_;ac_rfl)
 exact EA.eB (v:=v) (q:=q++[(n,x)]) Xl h5 (.s (.s .z) (.s (.s .z) (.s .z .z)))
def aj.ptrOpen {v:qi}{n:Nat}{ns:List Nat}(h:aj A L)(hp:aF L (.h (oC v (n::ns))) K):
 ∃b off c bO,v=.slice (qf ⟨b,off,qk⟩) (U ns+1) c/\U ns+1<=c/\off+(U ns+1)<=U bO/\bO[off]?=qf (pv n)/\aj A (.at b (qm bO qj 1)::K)/\
  (∀(A':AW)(L' K':List It),aj A' L'->aF L' (.at b (qm bO qj 1)) K'->aj A' (.h (oC (.slice (qf ⟨b,off,qk⟩) (U ns+1) c) (n::ns))::K')/\aj A' (.h (oC (.slice (qf ⟨b,off+1,qk⟩) (U ns) (c-1)) ns)::K')):=by unfold aj at h;rw[hp.aP]at h;rcases dv.cases h with ⟨_,h0,_⟩|⟨b,off,c,bO,rfl,h1,h2,h3,h4⟩;simp at h0;simp only[List.length_cons,Nat.mul_one]at h1 h2 h3;have U7:=h3;rw[List.drop_eq_getElem_cons Ya,List.map_cons,List.take_succ_cons]at U7;obtain⟨h5,h6⟩:=List.cons.inj U7;refine⟨b,off,c,bO,by simp,h1,h2,?_,h4,λA' L' K' hS hq=>?_⟩;rw[Zf Ya,<-h5];unfold aj at hS;rw[hq.aP]at hS;refine⟨dv.mk YC Yw (by simpa using h3) hS,?_⟩;exact dv.mk Ya Ya (by simpa using h6) hS
def aj.nilE (h:aj A L):aj A (.h (LmE (.slice qk 0 0) [])::L):=dv.nil h
end
end
end Go.Stx
