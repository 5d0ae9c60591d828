import Derived.Test.YtnnbecihffpedaaGreatDoorG13
set_option linter.all false
set_option maxRecDepth 20000
set_option maxHeartbeats 4000000
open List renaming length->U
open Go.IntKind renaming u64->Zc
open Int renaming le_refl->ZH
open List renaming eq_nil_of_length_eq_zero->kab,getD_eq_getElem?_getD->Ze,getElem?_append_left->kac,getElem?_eq_getElem->Zf,getElem?_eq_none->ZL,length_append->Zh,length_singleton->ZO,nodup_nil->kaS
open Bool renaming false->qn,true->qj
open Option renaming none->qk,some->qf
open Or renaming inl->qw,inr->qB
namespace Go.Stx
open Go Go.Proofs
attribute [local irreducible] df aW aE aL cY dm
section
variable [Gl]
def uy (s:aJ):(gn s).af=s.af:=by unfold gn;split<;>rfl
def mU (s:aJ)(aD:Int):(kM s aD).af=s.af:=uy _
def sl (s:aJ)(aD:Int):(nB s aD).af=s.af:=by unfold nB;split<;>rfl
def sL (s:aJ):(fE s).af=s.af:=by unfold fE;split<;>rfl
def lw (s:aJ)(a v:Int):(jr s a v).2.af=s.af:=by unfold jr;split;rfl;exact mU s 3
def BQ (s:aJ)(b st:Int):(ji s b st).af=s.af:=by unfold ji;split;exact sl s 8;split;exact mU s 3;split;exact lw s _ 0;exact lw s _ 0
def vI:∀(n:Nat)(a:Int)(s:aJ),(fX n a s).2.af=s.af
 |0,_,_=>rfl
 |n+1,a,s=>by unfold fX;split;rw[vI n];exact lw s a 0;exact lw s a 0
def En (s:aJ)(fa jj:Int):(fb s fa jj).af=s.af:=by unfold fb;split;exact mU s 4;dsimp only;split;split;show (fX _ _ _).2.af=_;rw[vI];exact lw { s with ao:=s.ao++[jj] } _ _;rw[vI];exact lw { s with ao:=s.ao++[jj] } _ _;exact lw { s with ao:=s.ao++[jj] } _ _
def PV (s:aJ)(l:Fx):(r9 s l).af=s.af:=by
 cases l with
 |mA a v=>unfold r9;dsimp only;split;exact sl s 7;exact lw s a v
 |sD=>exact sl s 7
 |RG=>exact sl s 8
 |bZ aD=>exact sl s aD
 |take v=>rfl
 |lp=>exact mU s 3
 |dz b v=>exact BQ s b v
def OY (s:aJ)(v:Int)(u:sT):(Bi s v u).af=s.af:=by
 cases u with
 |take=>rfl
 |dz b=>exact BQ s b v
def Jz (s:aJ)(M:Mm):(aY s M).2.2.1.af=s.af:=by
 unfold aY;cases hd:s.aH with
 |gC=>rfl
 |bC=>rfl
 |iY k=>exact PV _ k
 |dA=>
   dsimp only;cases s.bQ with
   |none=>rfl
   |some e=>dsimp only[go];split<;>rfl
 |be r u=>show (da s M r u).2.2.1.af=s.af;unfold da;dsimp only;split;rfl;split;exact mU _ 9;split;dsimp only;rw[OY];split<;>rfl;dsimp only;rw[mU];split<;>rfl
 |eO p=>show (lx s M p).2.2.1.af=s.af;unfold lx;dsimp only;split;rw[En];rfl
 |ef=>
   dsimp only;cases s.aQ with
   |none=>rfl
   |some l=>dsimp only[ip];split<;>rfl
 |c8=>
   dsimp only;cases s.aN with
   |none=>rfl
   |some t=>dsimp only[ia];split<;>rfl
 |cK ck=>show (gu s M ck).2.2.1.af=s.af;unfold gu;dsimp only;split;rw[sL];split<;>rfl
 |bN=>show (fo s M).2.2.1.af=s.af;unfold fo;dsimp only;split;rw[sL];split;rfl;rw[sL]
 |dy w=>show (gF s M w).2.2.1.af=s.af;unfold gF;dsimp only;split<;>rfl
 |bG w=>rfl
 |eR=>rfl
 |ey=>exact uy s
 |eG p=>show (iT s M p).2.2.1.af=s.af;unfold iT;dsimp only;split;rw[uy];rfl
def yy (M:Mm):Int:=(M 3).getD 0 0
def yz (M:Mm):Int:=(M 4).getD 0 0
def j9 {M:Mm}{cell cZ:Int}{g:Int->Int×Bool}{k:Nat}(h:k≠(cell-1).toNat):mw M cell cZ g k=M k:=by unfold mw;split;unfold setRow;rw[ar h];rfl
def jw {M:Mm}{cell cZ:Int}(h:1<=cell/\cell<=8)(h0:0<=cZ)(h1:cZ<U (M (cell-1).toNat)):eU M cell cZ=qj:=by unfold eU j4;rw[az h];exact decide_eq_true ⟨h0,h1⟩
def AL {M:Mm}{cell cZ:Int}{g:Int->Int×Bool}(h:eU M cell cZ=qj)(hg:(g ((j4 M cell).getD cZ.toNat 0)).2=qj):mw M cell cZ g (cell-1).toNat=(M (cell-1).toNat).set cZ.toNat (g ((j4 M cell).getD cZ.toNat 0)).1:=by unfold mw;rw[az ⟨h,hg⟩];unfold setRow;rw[az rfl]
def Uu {M:Mm}{cell cZ:Int}{g:Int->Int×Bool}(hg:(g ((j4 M cell).getD cZ.toNat 0)).2=qn):mw M cell cZ g=M:=by unfold mw;rw[ar (by rw[hg];simp)]
def oH {M:Mm}{fB cell cZ:Int}{g:Int->Int×Bool}(h:eU M cell cZ=qj):(fk M fB cell cZ g).eV=(j4 M cell).getD cZ.toNat 0/\(fk M fB cell cZ g).done=(g ((j4 M cell).getD cZ.toNat 0)).2:=by unfold fk;rw[az h];exact⟨rfl,rfl⟩
def Pv (M:Mm)(fB cell cZ:Int)(g:Int->Int×Bool):(fk M fB cell cZ g).fB=0\/((fk M fB cell cZ g).fB=fB/\(fk M fB cell cZ g).cell=cell):=by unfold fk;split;exact qB ⟨rfl,rfl⟩;exact qw rfl
def nR (l:List Int)(i j:Nat)(v:Int):(l.set i v).getD j 0=if i=j/\i<U l then v else l.getD j 0:=by simp only[Ze];by_cases h:i=j;subst h;by_cases h2:i<U l;rw[List.getElem?_set_self h2,az ⟨rfl,h2⟩];rfl;rw[ar Ya,ZL Yg,ZL Ya];rw[List.getElem?_set_ne h,ar Ya]
def uT (s:aJ):Prop:=match s.aH with
 | .ef=>s.au.Nodup/\∃l,s.aQ=qf l/\l.eD=[]
 | .c8=>s.au=[]/\∃t,s.aN=qf t/\t.j0=qn
 | .cK _ | .bN | .bG _ | .ey | .dy _ | .eR=>False
 |_=>True
def vD (s:aJ):uT (gn s):=by unfold gn;split<;>exact trivial
def tI (s:aJ)(aD:Int):uT (kM s aD):=vD _
def Af {s:aJ}(h:kO s)(aD:Int):uT (nB s aD):=by unfold nB;split;have:=(oY (s.bJ.bU.map (fU s.cf))).1;exact⟨this.imp λh=>by omega,_,rfl,rfl⟩;exact⟨h.au,_,rfl,rfl⟩
def mS (s:aJ):Prop:=kO s/\s.aH=.bC
def mS.CP {s:aJ}(h:mS s):uT s:=by unfold uT;rw[h.2];trivial
def GX {s:aJ}(h:mS s)(a v:Int):((jr s a v).1=qj->mS (jr s a v).2)/\uT (jr s a v).2:=by unfold jr;split;have:mS { s with bJ:=(gD s.bJ a v).2 }:=⟨h.1.to rfl rfl rfl rfl rfl,h.2⟩;exact⟨λ_=>this,this.CP⟩;exact⟨λe=>Ym,tI s 3⟩
def I1 {s:aJ}(h:mS s)(b st:Int):uT (ji s b st):=by unfold ji;split;exact Af h.1 8;split;exact tI s 3;have:=GX h (s.cf.bm+b) 0;split;rename_i e;have h2:=this.1 e;exact mS.CP ⟨h2.1.to rfl rfl rfl rfl rfl,h2.2⟩;exact this.2
def Lt:∀(n:Nat)(a:Int)(s:aJ),mS s->((fX n a s).1=qj->mS (fX n a s).2)/\uT (fX n a s).2
 |0,_,s,h=>⟨λ_=>h,h.CP⟩
 |n+1,a,s,h=>by unfold fX;have:=GX h a 0;split;rename_i e;exact Lt n (a+1) _ (this.1 e);exact⟨λe=>Ym,this.2⟩
def TX {s:aJ}(h:mS s)(fa jj:Int):uT (fb s fa jj):=by unfold fb;split;exact tI s 4;have h1:mS { s with ao:=s.ao++[jj] }:=⟨h.1.to rfl rfl rfl rfl rfl,h.2⟩;have:=GX h1 (s.cf.bm+jj) (fa+1);dsimp only;split;rename_i e;have hz:=Lt (2 ^ fa.toNat) (i5 s.cf jj) _ (this.1 e);split;rename_i e2;have h2:=hz.1 e2;exact mS.CP ⟨h2.1.to rfl rfl rfl rfl rfl,h2.2⟩;exact hz.2;exact this.2
def PU {s:aJ}(h:mS s)(l:Fx):uT (r9 s l):=by
 cases l with
 |mA a v=>unfold r9;dsimp only;split;exact Af h.1 7;exact(GX h a v).2
 |sD=>exact Af h.1 7
 |RG=>exact Af h.1 8
 |bZ aD=>exact Af h.1 aD
 |take v=>exact mS.CP ⟨h.1.to rfl rfl rfl rfl rfl,h.2⟩
 |lp=>exact tI s 3
 |dz b v=>exact I1 h b v
def use_calm {s:aJ}(h:mS s)(v:Int)(u:sT):uT (Bi s v u):=by
 cases u with
 |take=>exact mS.CP ⟨h.1.to rfl rfl rfl rfl rfl,h.2⟩
 |dz b=>exact I1 h b v
def Bz (M M':Mm):Prop:=M' 0=M 0/\M' 1=M 1/\M' 2=M 2/\M' 3=M 3/\M' 4=M 4
def Bz.refl (M:Mm):Bz M M:=⟨rfl,rfl,rfl,rfl,rfl⟩
def Bz.op (M:Mm){cell cZ:Int}{g:Int->Int×Bool}(hc:6<=cell):Bz M (mw M cell cZ g):=by refine⟨j9 ?_,j9 ?_,j9 ?_,j9 ?_,j9 ?_⟩<;>omega
def s8 (s:aJ):List Int:=match s.aH with
 | .ef=>match s.aQ with
   |some l=>l.au.take (U l.eD)
   |none=>[]
 | .c8 | .cK _ | .bN | .dy _=>s.au
 | .bG w=>w.os
 |_=>[]
def F4 (s:aJ):List Int:=match s.aH with
 | .ef | .c8 | .cK _ | .bN | .dy _=>s.eD
 | .bG w=>w.ws
 |_=>[]
def tA (s:aJ):Bool:=match s.aH with
 | .dy _ | .eR=>qj
 | .bG _=>s.am
 |_=>qn
def ng (s:aJ):Option Int:=match s.aH with
 | .c8=>match s.aN with
   |some t=>if t.j0=qj then qf t.dR else qk
   |none=>qk
 | .cK _ | .bN | .dy _ | .bG _ | .eR | .ey=>match s.aN with
   |some t=>qf t.dR
   |none=>qk
 |_=>qk
def pF (s:aJ):Bool:=match s.aH with
 | .cK _ | .bN | .dy _ | .bG _ | .eR | .ey=>qj
 |_=>qn
def Iy (c:bu)(s:aJ):Prop:=match s.aH with
 | .ef | .c8 | .cK _ | .bN | .dy _=>s.iS=qj->∀a∈s.bJ.bU,fU c a∈s.au
 |_=>True
def kF (M:Mm)(x:Int):Int:=(M 1).getD x.toNat 0
def sQ (M:Mm):Int:=(M 2).getD 0 0
structure uM (c:bu) (s:aJ) (M:Mm):Prop where
 nod:(s8 s).Nodup
 lk:∀i,i<(s8 s).length->kF M ((s8 s).getD i 0) % 64=s.af+1/\(tA s=false->kF M ((s8 s).getD i 0)=(F4 s).getD i 0+s.af+1/\(F4 s).getD i 0 % 64=0)
 cm:tA s=true->s.aC=sQ M
 lg:Iy c s
 tk:∀n,ng s=some n->n<yy M/\(pF s=true->n=yz M)
structure Oz (c:bu) (s:aJ) (M:Mm) (s':aJ) (M':Mm):Prop where
 ti:uM c s' M'
 jC:sQ M'=sQ M\/(tA s=true/\sQ M<=sQ M')
 sv:yz M'=yz M\/pF s=true
 tkn:yy M<=yy M'
 tks:ng s'=none\/ng s'=ng s\/ng s'=some (yy M)
 m1:∀j:Nat,(M' 1).getD j 0=(M 1).getD j 0\/(M 1).getD j 0 % 64=0\/(M 1).getD j 0 % 64=s.af+1
 pX:∀o rv:Int,rv<=sQ M->(rv<kF M o / 64\/(tA s=true/\o∈s8 s))->(rv<kF M' o / 64\/(tA s'=true/\o∈s8 s'))
 m0:∀j:Nat,(M' 0).getD j 0=(M 0).getD j 0\/(tA s'=true/\fU c j∈s8 s')
def oT (c:bu)(s:aJ)(M:Mm)(r:sx):Prop:=Oz c s M r.2.2.1 r.2.2.2
def oT.of {c:bu}{s:aJ}{M:Mm}{a:bj}{ph:Int}{s':aJ}{M':Mm}(h:Oz c s M s' M'):oT c s M (a,ph,s',M'):=h
structure vG (s:aJ):Prop where
 l:s8 s=[]
 c:tA s=false
 t:ng s=none
 d:pF s=false
def uT.quiet {s:aJ}(h:uT s):vG s:=by
 unfold uT at h;revert h;cases hd:s.aH<;>intro h<;>first
  |exact h.elim
  |skip
 all_goals first|(refine ⟨?_,?_,?_,?_⟩<;>simp[s8,tA,ng,pF,hd];done)|skip
 obtain⟨_,l,h4,h5⟩:=h;refine⟨?_,?_,?_,?_⟩<;>simp[s8,tA,ng,pF,hd,h4,h5];obtain⟨h3,t,h4,h5⟩:=h;refine⟨?_,?_,?_,?_⟩<;>simp[s8,tA,ng,pF,hd,h3,h4,h5]
def uU (s:aJ):Prop:=match s.aH with
 | .ef=>∀a∈s.bJ.bU,fU s.cf a∈s.au
 | .c8=>s.iS=qn
 | .cK _ | .bN | .dy _=>False
 |_=>True
def uU.lg {c:bu}{s:aJ}(h:uU s)(hc:s.cf=c):Iy c s:=by
 unfold uU at h;unfold Iy;subst hc;revert h;cases s.aH<;>intro h<;>first
  |exact h.elim
  |trivial
  |exact λ_=>h
  |exact λe=>by rw[h]at e;cases e
def zV (s:aJ):uU (gn s):=by unfold gn;split<;>exact trivial
def tJ (s:aJ)(aD:Int):uU (kM s aD):=zV _
def Ah {s:aJ}(h:kO s)(aD:Int):uU (nB s aD):=by
 unfold nB;split;intro a ha;exact((oY (s.bJ.bU.map (fU s.cf))).2 _).2 (List.mem_map.2 ⟨a,ha,rfl⟩);rename_i hs;show aJ.iS _=qn;have:(decide (aD=1) && decide (0<U s.bJ.bU))=qn:=by simpa using hs
 exact this
def mS.W4 {s:aJ}(h:mS s):uU s:=by unfold uU;rw[h.2];trivial
def Dl {s:aJ}(h:mS s)(a v:Int):((jr s a v).1=qj->mS (jr s a v).2)/\uU (jr s a v).2:=by unfold jr;split;have:mS { s with bJ:=(gD s.bJ a v).2 }:=⟨h.1.to rfl rfl rfl rfl rfl,h.2⟩;exact⟨λ_=>this,this.W4⟩;exact⟨λe=>Ym,tJ s 3⟩
def I3 {s:aJ}(h:mS s)(b st:Int):uU (ji s b st):=by unfold ji;split;exact Ah h.1 8;split;exact tJ s 3;have:=Dl h (s.cf.bm+b) 0;split;rename_i e;have h2:=this.1 e;exact mS.W4 ⟨h2.1.to rfl rfl rfl rfl rfl,h2.2⟩;exact this.2
def Hs:∀(n:Nat)(a:Int)(s:aJ),mS s->((fX n a s).1=qj->mS (fX n a s).2)/\uU (fX n a s).2
 |0,_,s,h=>⟨λ_=>h,h.W4⟩
 |n+1,a,s,h=>by unfold fX;have:=Dl h a 0;split;rename_i e;exact Hs n (a+1) _ (this.1 e);exact⟨λe=>Ym,this.2⟩
def TZ {s:aJ}(h:mS s)(fa jj:Int):uU (fb s fa jj):=by unfold fb;split;exact tJ s 4;have h1:mS { s with ao:=s.ao++[jj] }:=⟨h.1.to rfl rfl rfl rfl rfl,h.2⟩;have:=Dl h1 (s.cf.bm+jj) (fa+1);dsimp only;split;rename_i e;have hz:=Hs (2 ^ fa.toNat) (i5 s.cf jj) _ (this.1 e);split;rename_i e2;have h2:=hz.1 e2;exact mS.W4 ⟨h2.1.to rfl rfl rfl rfl rfl,h2.2⟩;exact hz.2;exact this.2
def loc_cal2 {s:aJ}(h:mS s)(l:Fx):uU (r9 s l):=by
 cases l with
 |mA a v=>unfold r9;dsimp only;split;exact Ah h.1 7;exact(Dl h a v).2
 |sD=>exact Ah h.1 7
 |RG=>exact Ah h.1 8
 |bZ aD=>exact Ah h.1 aD
 |take v=>exact mS.W4 ⟨h.1.to rfl rfl rfl rfl rfl,h.2⟩
 |lp=>exact tJ s 3
 |dz b v=>exact I3 h b v
def use_cal2 {s:aJ}(h:mS s)(v:Int)(u:sT):uU (Bi s v u):=by
 cases u with
 |take=>exact mS.W4 ⟨h.1.to rfl rfl rfl rfl rfl,h.2⟩
 |dz b=>exact I3 h b v
section
variable {c:bu} {nt k:Nat} {s:aJ} {M:Mm}
def Oz.quiet {s':aJ}{M':Mm}(h:vG s)(h':vG s')(hl:Iy c s')(hM:Bz M M'):Oz c s M s' M':=by obtain⟨e0,e1,e2,e3,e4⟩:=hM;refine⟨⟨by rw[h'.l];exact kaS,λi hi=>(by rw[h'.l]at hi;simp at hi),λe=>(by rw[h'.c]at e;cases e),hl,λn e=>(by rw[h'.t]at e;cases e)⟩,qw (by unfold sQ;rw[e2]),qw (by unfold yz;rw[e4]),by unfold yy;rw[e3];exact ZH _,qw h'.t,λj=>qw (by rw[e1]),λo rv _ h1=>?_,λj=>qw (by rw[e0])⟩;rcases h1 with h1|⟨h1,_⟩;exact qw (by unfold kF at *;rw[e1];exact h1);rw[h.c]at h1;cases h1
def Oz.CP {s':aJ}{M':Mm}(h:vG s)(h1:uT s')(h2:uU s')(hc:s'.cf=c)(hM:Bz M M'):Oz c s M s' M':=Oz.quiet h h1.quiet (h2.lg hc) hM
def Jd (e:ig)(M:Mm):Bz M (fN e M).2.2:=by unfold fN;split;exact .op M Ya;split;exact .refl M;split;exact .op M Ya;exact .refl M
def pop_like (p:sU)(M:Mm):Bz M (gB p M).2.2:=by unfold gB;split;exact .refl M;split;exact .refl M;split;exact .op M Ya;exact .refl M
def EY (p:gy)(M:Mm):Bz M (dD p M).2.2:=by unfold dD;split;exact .refl M;split;exact .op M Ya;split;exact .op M Ya;exact .refl M
def turn_eff (hM:mr c nt k M)(hk:k<2^40)(h:oU c k s)(t:jk)(hs:s.aN=qf t)(h1:t.done=qn)(hd:s.aH=.c8)(hT:uM c s M):oT c s M (ia s M t):=by
 have hl:=hT.lk;have hn:=hT.nod;have hg:=hT.lg;have e0:s8 s=s.au:=by unfold s8;rw[hd]
 have e1:F4 s=s.eD:=by unfold F4;rw[hd]
 have e2:tA s=qn:=by unfold tA;rw[hd]
 have e3:pF s=qn:=by unfold pF;rw[hd]
 have e4:ng s=if t.j0=qj then qf t.dR else qk:=by unfold ng;rw[hd,hs]
 unfold Iy at hg;rw[hd]at hg;rw[e0]at hn;rw[e0,e1,e2]at hl;unfold ia gX;rw[ar Y1];split;rename_i C2;have htk':t.j0=qn:=C2;have hm:∀kk,kk≠3->adM M 4 0 1 kk=M kk:=λkk j6=>j9 Ya;have hcell:eU M 4 0=qj:=jw Ya Ya Xx;have S8:(JM M 4 0 1).eV=yy M:=(oH hcell).1;have ht:=hM.tik;have jM:adM M 4 0 1 3=(M 3).set 0 (yy M+1):=by have:adM M 4 0 1 3=(M 3).set 0 (Zc.wrap (yy M+1)):=AL hcell rfl;rw[this,ax (by unfold yy;omega) (by unfold yy;omega)]
 have htk2:yy (adM M 4 0 1)=yy M+1:=by unfold yy;rw[jM,nR,az ⟨rfl,by rw[hM.l3];omega⟩];rfl
 refine oT.of ?_;rw[ar (by dsimp only;rw[h1];decide)];show Oz c s M { s with aN:=qf { t with j0:=qj,dR:=(JM M 4 0 1).eV } } (adM M 4 0 1);have f0:s8 { s with aN:=qf { t with j0:=qj,dR:=(JM M 4 0 1).eV } }=s.au:=by unfold s8;rw[show ({ s with aN:=qf { t with j0:=qj,dR:=(JM M 4 0 1).eV } }:aJ).aH=s.aH from rfl,hd]
 have f1:F4 { s with aN:=qf { t with j0:=qj,dR:=(JM M 4 0 1).eV } }=s.eD:=by unfold F4;rw[show ({ s with aN:=qf { t with j0:=qj,dR:=(JM M 4 0 1).eV } }:aJ).aH=s.aH from rfl,hd];rfl
 have f2:tA { s with aN:=qf { t with j0:=qj,dR:=(JM M 4 0 1).eV } }=qn:=by unfold tA;rw[show ({ s with aN:=qf { t with j0:=qj,dR:=(JM M 4 0 1).eV } }:aJ).aH=s.aH from rfl,hd]
 have f3:pF { s with aN:=qf { t with j0:=qj,dR:=(JM M 4 0 1).eV } }=qn:=by unfold pF;rw[show ({ s with aN:=qf { t with j0:=qj,dR:=(JM M 4 0 1).eV } }:aJ).aH=s.aH from rfl,hd]
 have f4:ng { s with aN:=qf { t with j0:=qj,dR:=(JM M 4 0 1).eV } }=qf (yy M):=by unfold ng;rw[show ({ s with aN:=qf { t with j0:=qj,dR:=(JM M 4 0 1).eV } }:aJ).aH=s.aH from rfl,hd,<-S8];rfl
 have f5:Iy c { s with aN:=qf { t with j0:=qj,dR:=(JM M 4 0 1).eV } }:=by unfold Iy;rw[show ({ s with aN:=qf { t with j0:=qj,dR:=(JM M 4 0 1).eV } }:aJ).aH=s.aH from rfl,hd];exact hg
 refine⟨⟨by rw[f0];exact hn,?_,λe=>(by rw[f2]at e;cases e),f5,?_⟩,qw (by unfold sQ;rw[hm 2 Ya]),qw (by unfold yz;rw[hm 4 Ya]),by rw[htk2];omega,qB (qB f4),λj=>qw (by rw[hm 1 Ya]),λo rv _ h2=>?_,λj=>qw (by rw[hm 0 Ya])⟩;rw[f0,f1,f2];unfold kF;rw[hm 1 Ya];exact hl;intro n RB;rw[f4]at RB;injection RB with RB;rw[htk2,<-RB];exact⟨by omega,λe=>(by rw[f3]at e;cases e)⟩;rcases h2 with h2|⟨h2,_⟩;left;unfold kF;rw[hm 1 Ya];exact h2;rw[e2]at h2;cases h2;rename_i C2;have htk':t.j0=qj:=by simpa using C2
 rw[az htk']at e4;obtain⟨a1,a2⟩:=hT.tk _ e4;have key:∀s':aJ,s8 s'=s.au->F4 s'=s.eD->tA s'=qn->Iy c s'->ng s'=qf t.dR->s'.af=s.af->(pF s'=qj->t.dR=yz M)->Oz c s M s' M:=by intro s' g0 g1 g2 g3 g4 g5 g6;refine⟨⟨by rw[g0];exact hn,by rw[g0,g1,g2,g5];exact hl,λe=>Xf,g3,λn e=>?_⟩,qw rfl,qw rfl,ZH _,qB (qw (g4.trans e4.symm)),λj=>qw rfl,λo rv _ h2=>?_,λj=>qw rfl⟩;rw[g4]at e;injection e with e;subst e;exact⟨a1,g6⟩;rcases h2 with h2|⟨h2,_⟩;exact qw h2;rw[e2]at h2;cases h2
 refine oT.of ?_;dsimp only;split;rename_i nG;have SR:t.dR=yz M:=by have hcell:eU M 5 0=qj:=jw Ya Ya Xy;have:(iy M 5 0).eV=yz M:=(oH hcell).1;have h3:decide ((iy M 5 0).eV=t.dR)=qj:=nG;have h4:=of_decide_eq_true h3;rw[<-h4,this]
 by_cases hz:U s.set=0;rw[az hz];exact key _ rfl rfl rfl hg rfl rfl λ_=>SR;rw[ar hz];exact key _ rfl rfl rfl hg rfl rfl λ_=>SR;refine key _ ?_ ?_ ?_ ?_ ?_ rfl ?_;show s8 { s with aN:=_ }=_;unfold s8;dsimp only;rw[hd];show F4 { s with aN:=_ }=_;unfold F4;dsimp only;rw[hd];rfl;show tA { s with aN:=_ }=_;unfold tA;dsimp only;rw[hd];show Iy c { s with aN:=_ };unfold Iy;dsimp only;rw[hd];exact hg;show ng { s with aN:=_ }=_;unfold ng;dsimp only;rw[hd];dsimp only;rw[az htk'];intro e;have:pF { s with aN:=qf { t with done:=decide ((iy M 5 0).eV=t.dR) } }=qn:=by unfold pF;dsimp only;rw[hd]
 rw[this]at e;cases e
def zl {s1:aJ}(h0:s8 s=s1.au)(h1:F4 s=s1.eD)(h2:tA s=qn)(h3:s1.af=s.af)(h4:s1.am=qj->s1.au=[]){n:Int}(h5:ng s=qf n){t:jk}(h6:s1.aN=qf t)(h7:t.dR=n)(h8:pF s=qj)(hT:uM c s M):Oz c s M (fE s1) M:=by
 have hl:=hT.lk;have hn:=hT.nod;rw[h0]at hn;rw[h0,h1,h2]at hl;have ht:=hT.tk n h5;have hv:∀o rv:Int,rv<=sQ M->(rv<kF M o / 64\/(tA s=qj/\o∈s8 s))->rv<kF M o / 64:=λo rv _ h=>by rcases h with h|⟨h,_⟩;exact h;rw[h2]at h;cases h
 unfold fE;split;refine⟨⟨kaS,λi hi=>(by simp[s8]at hi),λe=>Ym,trivial,λm e=>?_⟩,qw rfl,qw rfl,ZH _,qB (qw ?_),λj=>qw rfl,λo rv h9 Qx=>qw (hv o rv h9 Qx),λj=>qw rfl⟩;have e:ng { s1 with aH:=.ey }=qf m:=e;unfold ng at e;dsimp only at e;rw[h6]at e;injection e with e;rw[<-e,h7];exact⟨ht.1,λ_=>ht.2 h8⟩;rw[h5];unfold ng;dsimp only;rw[h6];exact congrArg qf h7;rename_i fL;have hdf:s1.am=qn:=by
  cases e:s1.am with
  |false=>rfl
  |true=>rw[h4 e]at fL;exact absurd rfl fL
 refine⟨⟨hn,λi hi=>?_,λe=>?_,trivial,λm e=>?_⟩,qw rfl,qw rfl,ZH _,qB (qw ?_),λj=>qw rfl,λo rv h9 Qx=>qw (hv o rv h9 Qx),λj=>qw rfl⟩;have:=hl i hi;show kF M (s1.au.getD i 0) % 64=s1.af+1/\(_->kF M (s1.au.getD i 0)=s1.eD.getD i 0+s1.af+1/\s1.eD.getD i 0 % 64=0);rw[h3];exact⟨this.1,λ_=>this.2 rfl⟩;have e:s1.am=qj:=e;rw[hdf]at e;cases e;have e:ng { s1 with aH:=.bG ⟨s1.au,s1.eD⟩ }=qf m:=e;unfold ng at e;dsimp only at e;rw[h6]at e;injection e with e;rw[<-e,h7];exact⟨ht.1,λ_=>ht.2 h8⟩;rw[h5];unfold ng;dsimp only;rw[h6];exact congrArg qf h7
def W2 (ck:i8)(Qo:s.am=qn)(t:jk)(ht:s.aN=qf t)(hd:s.aH=.cK ck)(hT:uM c s M):oT c s M (gu s M ck):=by
 have hm:(gx ck M).2.2=M:=by unfold gx;split<;>rfl
 have e0:s8 s=s.au:=by unfold s8;rw[hd]
 have e1:F4 s=s.eD:=by unfold F4;rw[hd]
 have e2:tA s=qn:=by unfold tA;rw[hd]
 have e3:pF s=qj:=by unfold pF;rw[hd]
 have e4:ng s=qf t.dR:=by unfold ng;rw[hd];dsimp only;rw[ht]
 have hg:=hT.lg;unfold Iy at hg;rw[hd]at hg;unfold gu;dsimp only;rw[hm];refine oT.of ?_;split;exact zl e0 e1 e2 rfl (λe=>by rw[show s.am=qj from e]at Qo;cases Qo) e4 (t:=t) ht rfl e3 hT;have hl:=hT.lk;have hn:=hT.nod;rw[e0]at hn;rw[e0,e1,e2]at hl;have C2:=hT.tk _ e4;have key:∀s':aJ,s8 s'=s.au->F4 s'=s.eD->tA s'=qn->Iy c s'->ng s'=qf t.dR->s'.af=s.af->Oz c s M s' M:=by intro s' g0 g1 g2 g3 g4 g5;refine⟨⟨by rw[g0];exact hn,by rw[g0,g1,g2,g5];exact hl,λe=>Xf,g3,λn e=>?_⟩,qw rfl,qw rfl,ZH _,qB (qw (g4.trans e4.symm)),λj=>qw rfl,λo rv _ h2=>?_,λj=>qw rfl⟩;rw[g4]at e;injection e with e;subst e;exact⟨C2.1,λ_=>C2.2 e3⟩;rcases h2 with h2|⟨h2,_⟩;exact qw h2;rw[e2]at h2;cases h2
 have e5:∀d,(match d with | .cK _ | .bN=>True|_=>False)->ng { s with aH:=d }=qf t.dR:=by
  intro d IV;unfold ng;dsimp only;revert IV;cases d<;>intro IV<;>first
   |exact IV.elim
   | (dsimp only;rw[ht])
 split;exact key _ rfl rfl rfl hg (e5 .bN trivial) rfl;exact key _ rfl rfl rfl hg (e5 (.cK _) trivial) rfl
def Tz (hM:mr c nt k M)(Qo:s.am=qn)(hls:s.iS=qj↔0<U s.au)(t:jk)(ht:s.aN=qf t)(hd:s.aH=.bN)(hT:uM c s M):oT c s M (fo s M):=by
 have e0:s8 s=s.au:=by unfold s8;rw[hd]
 have e1:F4 s=s.eD:=by unfold F4;rw[hd]
 have e2:tA s=qn:=by unfold tA;rw[hd]
 have e3:pF s=qj:=by unfold pF;rw[hd]
 have e4:ng s=qf t.dR:=by unfold ng;rw[hd];dsimp only;rw[ht]
 have hg:=hT.lg;unfold Iy at hg;rw[hd]at hg;unfold fo;dsimp only;refine oT.of ?_;split;exact zl e0 e1 e2 rfl (λe=>by rw[show s.am=qj from e]at Qo;cases Qo) e4 (t:=t) ht rfl e3 hT;split;rename_i cJ;have hl:=hT.lk;have hn:=hT.nod;rw[e0]at hn;rw[e0,e1,e2]at hl;have C2:=hT.tk _ e4;have hcell:eU M 3 0=qj:=jw Ya Ya Xg;have S8:(iy M 3 0).eV=sQ M:=(oH hcell).1;refine⟨⟨hn,λi hi=>⟨(hl i hi).1,λe=>Ym⟩,λ_=>S8,hg,λn e=>?_⟩,qw rfl,qw rfl,ZH _,qB (qw ?_),λj=>qw rfl,λo rv _ h2=>?_,λj=>qw rfl⟩;have e:(match s.aN with|some t=>qf t.dR|none=>qk)=qf n:=e;rw[ht]at e;injection e with e;subst e;exact⟨C2.1,λ_=>C2.2 e3⟩;rw[e4];show (match s.aN with|some t=>qf t.dR|none=>qk)=_;rw[ht];rcases h2 with h2|⟨h2,_⟩;exact qw h2;rw[e2]at h2;cases h2;rename_i cJ;refine zl e0 e1 e2 rfl (λe=>?_) e4 (t:=t) ht rfl e3 hT
 have:¬0<U s.au:=λe=>cJ (hls.2 e);exact kab (by show U s.au=0;omega)
def lock_eff (hM:mr c nt k M)(hk:k<2^40)(hb:jY c k s)(l:iR)(hs:s.aQ=qf l)(IQ:s.aN=qk)(ho:l.au=s.au)(F7:l.af=s.af)(b9:U l.eD<U l.au)(hI:B6 k l)(hd:s.aH=.ef)(hT:uM c s M):oT c s M (ip s M l):=by
 have e0:s8 s=l.au.take (U l.eD):=by unfold s8;rw[hd];dsimp only;rw[hs]
 have e1:F4 s=l.eD:=by unfold F4;rw[hd];dsimp only;unfold aJ.eD;rw[hs]
 have e2:tA s=qn:=by unfold tA;rw[hd]
 have e3:ng s=qk:=by unfold ng;rw[hd]
 have e4:pF s=qn:=by unfold pF;rw[hd]
 have hg:=hT.lg;unfold Iy at hg;rw[hd]at hg;have hl:=hT.lk;have hn:=hT.nod;rw[e0]at hn;rw[e0,e1,e2]at hl;have hx:eg l∈s.au:=by unfold eg;rw[<-ho,Ze,Zf b9];exact List.getElem_mem b9
 have hxr:=hb.orr _ hx;have hcell:eU M 2 (eg l)=qj:=jw Ya hxr.1 (by show _<(U (M 1):Int);rw[hM.l1];exact hxr.2);have hdn0:¬l.done=qj:=by simp only[iR.done,decide_eq_true_eq];omega
 have ry:∀(l2:iR)(M':Mm),l2.au=l.au->M' 0=M 0->M' 2=M 2->M' 3=M 3->M' 4=M 4->(l2.au.take (U l2.eD)).Nodup->
  (∀i,i<(l2.au.take (U l2.eD)).length->kF M' ((l2.au.take (U l2.eD)).getD i 0) % 64=s.af+1/\(kF M' ((l2.au.take (U l2.eD)).getD i 0)=l2.eD.getD i 0+s.af+1/\l2.eD.getD i 0 % 64=0))->
  (∀j:Nat,(M' 1).getD j 0=(M 1).getD j 0\/(M 1).getD j 0 % 64=0\/(M 1).getD j 0 % 64=s.af+1)->(∀o:Int,kF M' o / 64=kF M o / 64)->
  Oz c s M (if l2.done=qj then { { s with aQ:=qf l2 } with aN:=qf ⟨qn,0,qn⟩,aH:=.c8 } else { s with aQ:=qf l2 }) M':=by
  intro l2 M' f1 f2 f3 f4 f5 f6 f7 f8 f9;have key:∀s':aJ,s8 s'=l2.au.take (U l2.eD)->F4 s'=l2.eD->tA s'=qn->Iy c s'->ng s'=qk->s'.af=s.af->Oz c s M s' M':=by intro s' g0 g1 g2 g3 g4 g5;refine⟨⟨by rw[g0];exact f6,λi hi=>?_,λe=>Xf,g3,λn e=>(by rw[g4]at e;cases e)⟩,qw (by unfold sQ;rw[f3]),qw (by unfold yz;rw[f5]),by unfold yy;rw[f4];exact ZH _,qw g4,f8,λo rv _ h2=>?_,λj=>qw (by rw[f2])⟩;rw[g0]at hi ⊢;rw[g1,g5];exact⟨(f7 i hi).1,λ_=>(f7 i hi).2⟩;rcases h2 with h2|⟨h2,_⟩;left;rw[f9];exact h2;rw[e2]at h2;cases h2
  split;rename_i nG;simp only[iR.done,decide_eq_true_eq]at nG;refine key _ ?_ rfl rfl hg rfl rfl;show s.au=_;rw[nG,List.take_length,<-ho,f1];refine key _ ?_ ?_ ?_ ?_ ?_ rfl;unfold s8;dsimp only;rw[hd];unfold F4;dsimp only;rw[hd];rfl;unfold tA;dsimp only;rw[hd];unfold Iy;dsimp only;rw[hd];exact hg;unfold ng;dsimp only;rw[hd]
 unfold ip ep;rw[ar hdn0];have hl':∀i,i<(l.au.take (U l.eD)).length->kF M ((l.au.take (U l.eD)).getD i 0) % 64=s.af+1/\(kF M ((l.au.take (U l.eD)).getD i 0)=l.eD.getD i 0+s.af+1/\l.eD.getD i 0 % 64=0):=λi hi=>⟨(hl i hi).1,(hl i hi).2 rfl⟩;split;exact oT.of (ry { l with dC:=_,fx:=_ } M rfl rfl rfl rfl rfl hn hl' (λj=>qw rfl) λo=>rfl);rename_i NC;have Qj:l.fx=qj:=by simpa using NC
 refine oT.of ?_;have hm:∀kk,kk≠1->mw M 2 (eg l) (lc l.dC (iN l)) kk=M kk:=λkk j6=>j9 Ya;obtain⟨S9,nu⟩:=oH (fB:=3) (g:=lc l.dC (iN l)) hcell;by_cases hsw:(fk M 3 2 (eg l) (lc l.dC (iN l))).done=qj;have hseen:kF M (eg l)=l.dC:=by rw[nu]at hsw;exact of_decide_eq_true hsw
 have hz:=hI.load Qj;have ht:=hb.Rw;have ru:=Cx Ya hI Qj (by rw[F7];exact ht);rw[F7]at ru;have h64:=hI.dC.1;simp only[hsw,if_true];have f1:mw M 2 (eg l) (lc l.dC (iN l)) 1=(M 1).set (eg l).toNat (iN l):=AL hcell (by rw[<-nu];exact hsw);have cy:(eg l).toNat<U (M 1):=by have:=hM.l1;omega
 have vV:∀o:Int,kF (mw M 2 (eg l) (lc l.dC (iN l))) o=if (eg l).toNat=o.toNat then l.dC+s.af+1 else kF M o:=by intro o;unfold kF;rw[f1,nR];by_cases h:(eg l).toNat=o.toNat;rw[az ⟨h,cy⟩,az h,ru];rw[ar Ya,ar h]
 have f2:l.au.take (U (l.eD++[l.dC]))=l.au.take (U l.eD)++[eg l]:=by rw[Zh,ZO,List.take_add_one,Zf b9];unfold eg;rw[Ze,Zf b9];rfl
 have se:(l.au.take (U l.eD)).length=U l.eD:=by simp;omega
 have fL:∀i,i<U l.eD->(eg l).toNat≠((l.au.take (U l.eD)).getD i 0).toNat:=by
  intro i hi e;have h1:=(hl' i Ya).1;have h2:kF M ((l.au.take (U l.eD)).getD i 0)=kF M (eg l):=by unfold kF;rw[e]
  rw[h2,hseen]at h1;omega
 refine ry { l with fx:=qn,eD:=l.eD++[l.dC] } _ rfl (hm 0 Ya) (hm 2 Ya) (hm 3 Ya) (hm 4 Ya) ?_ ?_ ?_ ?_;show (l.au.take (U (l.eD++[l.dC]))).Nodup;rw[f2];refine LT hn λSY=>?_;obtain⟨i,hi,NE⟩:=List.getElem_of_mem SY;refine fL i Ya ?_;rw[Ze,Zf hi];show _=(_:Int).toNat;rw[show (qf (l.au.take (U l.eD))[i]).getD 0=(l.au.take (U l.eD))[i] from rfl,NE];intro i hi;dsimp only at hi ⊢;rw[f2]at hi ⊢;simp only[Zh,ZO,se]at hi;by_cases OL:i<U l.eD;have g1:(l.au.take (U l.eD)++[eg l]).getD i 0=(l.au.take (U l.eD)).getD i 0:=by simp only[Ze];rw[kac Ya]
 have g2:(l.eD++[l.dC]).getD i 0=l.eD.getD i 0:=by simp only[Ze];rw[kac OL]
 rw[g1,g2,vV,ar (fL i OL)];exact hl' i Ya;have NE:i=U l.eD:=Ya
 subst NE;have g1:(l.au.take (U l.eD)++[eg l]).getD (U l.eD) 0=eg l:=by rw[Ze,List.getElem?_append_right Ya];simp[se]
 have g2:(l.eD++[l.dC]).getD (U l.eD) 0=l.dC:=by simp[Ze]
 rw[g1,g2,vV,az rfl];exact⟨by omega,rfl,hz⟩;intro j;by_cases h:(eg l).toNat=j;right;left;have:(M 1).getD j 0=l.dC:=by rw[<-h];exact hseen
 rw[this];exact hz;left;rw[f1,nR,ar Ya];intro o;rw[vV];split;rename_i h;have:kF M o=l.dC:=by rw[<-hseen];unfold kF;rw[h]
 rw[this];omega;rfl;simp only[hsw];have f1:mw M 2 (eg l) (lc l.dC (iN l))=M:=Uu (by rw[<-nu];simpa using hsw);rw[f1];exact ry { l with fx:=qn } M rfl rfl rfl rfl rfl hn hl' (λj=>qw rfl) λo=>rfl
def Vz (hM:mr c nt k M)(hb:jY c k s)(w:jS)(yZ:s.am=qj/\s.iS=qj)(t:jk)(ht:s.aN=qf t)(q:Nat)(hq:q<U s.bJ.bU)(hw:w=⟨s.bJ.bU.drop q,s.bJ.gi.drop q⟩)(hd:s.aH=.dy w)(hT:uM c s M):oT c s M (gF s M w):=by
 have e0:s8 s=s.au:=by unfold s8;rw[hd]
 have e2:tA s=qj:=by unfold tA;rw[hd]
 have e3:pF s=qj:=by unfold pF;rw[hd]
 have e4:ng s=qf t.dR:=by unfold ng;rw[hd];dsimp only;rw[ht]
 have hg:=hT.lg;unfold Iy at hg;rw[hd]at hg;have hl:=hT.lk;have hn:=hT.nod;rw[e0]at hn;rw[e0,e2]at hl;have C2:=hT.tk _ e4;have vU:0<U w.os:=by rw[hw];simp;omega
 have nA:w.os.getD 0 0∈s.bJ.bU:=by have:w.os.getD 0 0∈w.os:=zO vU;rw[hw]at this ⊢;exact List.mem_of_mem_drop this
 have har:=hb.Mj _ nA;unfold gF kC;rw[ar Xh];dsimp only;refine oT.of ?_;have hm:∀kk,kk≠0->mw M 1 (w.os.getD 0 0) (ga (w.ws.getD 0 0)) kk=M kk:=λkk j6=>j9 Ya;have key:∀s':aJ,s8 s'=s.au->tA s'=qj->Iy c s'->ng s'=qf t.dR->s'.af=s.af->s'.aC=s.aC->Oz c s M s' (mw M 1 (w.os.getD 0 0) (ga (w.ws.getD 0 0))):=by
  intro s' g0 g1 g2 g3 g4 g5;have vV:∀o,kF (mw M 1 (w.os.getD 0 0) (ga (w.ws.getD 0 0))) o=kF M o:=λo=>by unfold kF;rw[hm 1 Ya]
  have CF:sQ (mw M 1 (w.os.getD 0 0) (ga (w.ws.getD 0 0)))=sQ M:=by unfold sQ;rw[hm 2 Ya]
  have htf:yy (mw M 1 (w.os.getD 0 0) (ga (w.ws.getD 0 0)))=yy M:=by unfold yy;rw[hm 3 Ya]
  have Wk:yz (mw M 1 (w.os.getD 0 0) (ga (w.ws.getD 0 0)))=yz M:=by unfold yz;rw[hm 4 Ya]
  refine⟨⟨by rw[g0];exact hn,λi hi=>?_,λ_=>?_,g2,λn e=>?_⟩,qw CF,qw Wk,by rw[htf];exact ZH _,qB (qw (g3.trans e4.symm)),λj=>qw (by rw[hm 1 Ya]),λo rv _ h2=>?_,λj=>?_⟩;rw[g0]at hi ⊢;rw[vV,g4];exact⟨(hl i hi).1,λe=>by rw[g1]at e;cases e⟩;rw[g5,CF];exact hT.cm e2;rw[g3]at e;injection e with e;subst e;rw[htf,Wk];exact⟨C2.1,λ_=>C2.2 e3⟩;rw[vV];rcases h2 with h2|⟨_,h2⟩;exact qw h2;rw[e0]at h2;exact qB ⟨g1,by rw[g0];exact h2⟩;rcases Cn M 1 (w.os.getD 0 0) (ga (w.ws.getD 0 0)) 0 j with h|⟨_,_,h,_⟩;exact qw h;right;refine⟨g1,?_⟩;rw[g0];have:(j:Int)=w.os.getD 0 0:=Ya
  rw[this];exact hg yZ.2 _ nA
 have e5:∀d,(match d with | .dy _ | .bG _=>True|_=>False)->ng { s with aH:=d }=qf t.dR:=by
  intro d IV;unfold ng;dsimp only;revert IV;cases d<;>intro IV<;>first
   |exact IV.elim
   | (dsimp only;rw[ht])
 split;exact key _ rfl yZ.1 trivial (e5 (.bG _) trivial) rfl rfl;exact key _ rfl rfl hg (e5 (.dy _) trivial) rfl rfl
def rel_eff (hM:mr c nt k M)(hk:k<2^40)(hb:jY c k s)(w:jS)(yZ:s.am=qj->s.iS=qj)(t:jk)(ht:s.aN=qf t)(q:Nat)(hq1:q<U s.au)(hw:w=⟨s.au.drop q,(wI s).drop q⟩)(hd:s.aH=.bG w)(hT:uM c s M):oT c s M (nM s M w):=by
 have e0:s8 s=w.os:=by unfold s8;rw[hd]
 have e1:F4 s=w.ws:=by unfold F4;rw[hd]
 have e2:tA s=s.am:=by unfold tA;rw[hd]
 have e3:pF s=qj:=by unfold pF;rw[hd]
 have e4:ng s=qf t.dR:=by unfold ng;rw[hd];dsimp only;rw[ht]
 have hl:=hT.lk;have hn:=hT.nod;rw[e0]at hn;rw[e0,e1,e2]at hl;have C2:=hT.tk _ e4;have L3:=hT.cm;rw[e2]at L3;have vU:0<U w.os:=by rw[hw];simp;omega
 have gQ:∀x∈w.os,0<=x/\x<c.au:=λx hx=>hb.orr x (by rw[hw]at hx;exact List.mem_of_mem_drop hx);have hxr:=gQ _ (zO vU);have hl1:=hM.l1;have hcell:eU M 2 (w.os.getD 0 0)=qj:=jw Ya hxr.1 Xz;have hv0:s.am=qj->w.ws.getD 0 0=(sQ M+1)*64:=by
  intro e;have h1:=xr hb hk ⟨e,yZ e⟩;have h2:=L3 e;have h3:=hb.jC;have e5:(wI s).drop q=List.replicate (U s.au-q) (lR s.pX):=by unfold wI;rw[az e,List.drop_replicate]
  rw[hw];show ((wI s).drop q).getD 0 0=_;rw[e5,Ze,List.getElem?_replicate_of_lt Ya];show lR s.pX=_;rw[h1,<-h2];unfold lR;rw[az Ya]
 have hver:0<=s.pX↔s.am=qj:=by
  constructor
  . intro h;cases e:s.am with
    |true=>rfl
    |false=>unfold aJ.pX at h;rw[ar (by rw[e];simp)]at h;omega
  intro e;rw[xr hb hk ⟨e,yZ e⟩];have:=hb.jC;omega
 obtain⟨x,xs,OI⟩:∃x xs,w.os=x::xs:=by
  cases h:w.os with
  |nil=>rw[h]at vU;simp at vU
  |cons x xs=>exact⟨x,xs,rfl⟩
 have P2:w.os.getD 0 0=x:=by rw[OI];rfl
 have ND:=hl 0 vU;rw[P2]at ND hxr hcell;have cy:x.toNat<U (M 1):=Ya
 unfold nM ii;rw[ar Xh];dsimp only;rw[P2];refine oT.of ?_;have hm:∀kk,kk≠1->mw M 2 x (ga (w.ws.getD 0 0)) kk=M kk:=λkk j6=>j9 Ya;have f1:mw M 2 x (ga (w.ws.getD 0 0)) 1=(M 1).set x.toNat (w.ws.getD 0 0):=AL hcell rfl;have vV:∀o:Int,kF (mw M 2 x (ga (w.ws.getD 0 0))) o=if x.toNat=o.toNat then w.ws.getD 0 0 else kF M o:=by intro o;unfold kF;rw[f1,nR];by_cases h:x.toNat=o.toNat;rw[az ⟨h,cy⟩,az h];rw[ar Ya,ar h]
 have CF:sQ (mw M 2 x (ga (w.ws.getD 0 0)))=sQ M:=by unfold sQ;rw[hm 2 Ya]
 have htf:yy (mw M 2 x (ga (w.ws.getD 0 0)))=yy M:=by unfold yy;rw[hm 3 Ya]
 have Wk:yz (mw M 2 x (ga (w.ws.getD 0 0)))=yz M:=by unfold yz;rw[hm 4 Ya]
 rw[OI]at hn hl gQ;have hnx:=List.nodup_cons.1 hn;have key:∀s':aJ,s8 s'=xs->F4 s'=w.ws.tail\/xs=[]->(s.am=qj/\xs≠[]->tA s'=qj)->(tA s'=qj->s.am=qj)->Iy c s'->ng s'=qf t.dR->s'.af=s.af->s'.aC=s.aC->Oz c s M s' (mw M 2 x (ga (w.ws.getD 0 0))):=by
  intro s' g0 g1 g2 g3 g4 g5 g6 g7;refine⟨⟨by rw[g0];exact hnx.2,λi hi=>?_,λe=>?_,g4,λn e=>?_⟩,qw CF,qw Wk,by rw[htf];exact ZH _,qB (qw (g5.trans e4.symm)),λj=>?_,λo rv hrv h2=>?_,λj=>qw (by rw[hm 0 Ya])⟩;rw[g0]at hi ⊢;have h1:=hl (i+1) Yg;rw[List.getD_cons_succ]at h1;have nA:xs.getD i 0∈xs:=zO hi;have fL:¬x.toNat=(xs.getD i 0).toNat:=by
   intro e;have h3:=(gQ (xs.getD i 0) (List.mem_cons_of_mem _ nA)).1;have:x=xs.getD i 0:=Ya
   rw[<-this]at nA;exact hnx.1 nA
  rw[vV,ar fL,g6];refine⟨h1.1,λe=>?_⟩;rcases g1 with g1|g1;have hdf:s.am=qn:=by
   cases h:s.am with
   |false=>rfl
   |true=>have:=g2 ⟨h,λe=>by rw[e]at hi;simp at hi⟩;rw[this]at e;cases e
  have h4:=h1.2 hdf;rw[g1];have h5:w.ws.tail.getD i 0=w.ws.getD (i+1) 0:=by cases w.ws<;>simp
  rw[h5];exact h4;rw[g1]at hi;simp at hi;rw[g7,CF];exact L3 (g3 e);rw[g5]at e;injection e with e;subst e;rw[htf,Wk];exact⟨C2.1,λ_=>C2.2 e3⟩;by_cases h:x.toNat=j;right;right;have:(M 1).getD j 0=kF M x:=by unfold kF;rw[h]
  rw[this];exact ND.1;left;rw[f1,nR,ar Ya];rw[e2,e0,OI]at h2;by_cases h:x.toNat=o.toNat
  . left;rw[vV,az h];cases hdv:s.am with
    |true=>rw[hv0 hdv];omega
    |false=>rcases h2 with h2|⟨h2,_⟩;have h3:=ND.2 hdv;have h4:kF M o=kF M x:=(by unfold kF;rw[h]);have h5:=hb.Rw;rw[h4]at h2;omega;rw[hdv]at h2;cases h2
  rw[vV,ar h];rcases h2 with h2|⟨h2,h3⟩;exact qw h2;right;rcases List.mem_cons.1 h3 with h3|h3;exact absurd (by rw[h3]) h;exact⟨g2 ⟨h2,λe=>by rw[e]at h3;simp at h3⟩,by rw[g0];exact h3⟩
 have e5:∀d,(match d with | .bG _ | .eR | .ey=>True|_=>False)->ng { s with aH:=d }=qf t.dR:=by
  intro d IV;unfold ng;dsimp only;revert IV;cases d<;>intro IV<;>first
   |exact IV.elim
   | (dsimp only;rw[ht])
 have UV:w.os.tail=xs:=by rw[OI];rfl
 rw[UV];by_cases nG:jS.done ⟨xs,w.ws.tail⟩=qj;have hxs:xs=[]:=kab (by simpa[jS.done]using nG);rw[az nG];by_cases hv:0<=s.pX;rw[az hv];exact key _ hxs.symm (qB hxs) (λh=>absurd hxs h.2) (λ_=>hver.1 hv) trivial (e5 .eR trivial) rfl rfl;rw[ar hv];exact key _ hxs.symm (qB hxs) (λh=>absurd hxs h.2) (λe=>by cases e) trivial (e5 .ey trivial) rfl rfl;rw[ar nG];exact key _ rfl (qw rfl) (λh=>h.1) (λe=>e) trivial (e5 (.bG _) trivial) rfl rfl
def VR (hM:mr c nt k M)(hk:k<2^40)(hb:jY c k s)(t:jk)(ht:s.aN=qf t)(hd:s.aH=.eR)(hT:uM c s M)(a:bj)(ph:Int):oT c s M (a,ph,{ s with aH:=.ey },BC M 3 0 (Zc.wrap (s.aC+1))):=by
 refine oT.of ?_;have e2:tA s=qj:=by unfold tA;rw[hd]
 have e3:pF s=qj:=by unfold pF;rw[hd]
 have e4:ng s=qf t.dR:=by unfold ng;rw[hd];dsimp only;rw[ht]
 have e0:s8 s=[]:=by unfold s8;rw[hd]
 have C2:=hT.tk _ e4;have L3:=hT.cm e2;have CF:=hb.jC;have hm:∀kk,kk≠2->BC M 3 0 (Zc.wrap (s.aC+1)) kk=M kk:=λkk j6=>j9 Ya;have hcell:eU M 3 0=qj:=jw Ya Ya Xg;have f1:BC M 3 0 (Zc.wrap (s.aC+1)) 2=(M 2).set 0 (Zc.wrap (s.aC+1)):=AL hcell rfl;have AV:sQ (BC M 3 0 (Zc.wrap (s.aC+1)))=sQ M+1:=by unfold sQ at *;rw[f1,nR,az ⟨rfl,by rw[hM.l2];omega⟩,ax Ya Ya,L3]
 have f4:ng { s with aH:=.ey }=qf t.dR:=by unfold ng;dsimp only;rw[ht]
 refine⟨⟨kaS,λi hi=>(by simp[s8]at hi),λe=>Ym,trivial,λn e=>?_⟩,qB ⟨e2,by rw[AV];omega⟩,qw (by unfold yz;rw[hm 4 Ya]),by unfold yy;rw[hm 3 Ya];exact ZH _,qB (qw (f4.trans e4.symm)),λj=>qw (by rw[hm 1 Ya]),λo rv _ h2=>?_,λj=>qw (by rw[hm 0 Ya])⟩;rw[f4]at e;injection e with e;subst e;unfold yy yz at *;rw[hm 3 Ya,hm 4 Ya];exact⟨C2.1,λ_=>C2.2 e3⟩;rcases h2 with h2|⟨_,h2⟩;left;unfold kF at *;rw[hm 1 Ya];exact h2;rw[e0]at h2;simp at h2
def pass_eff (hb:jY c k s)(t:jk)(ht:s.aN=qf t)(hd:s.aH=.ey)(sF:(gn s).cf=c)(a:bj)(ph v:Int):oT c s M (a,ph,gn s,BC M 5 0 v):=by
 refine oT.of ?_;have e2:tA s=qn:=by unfold tA;rw[hd]
 have e3:pF s=qj:=by unfold pF;rw[hd]
 have hq:=(vD s).quiet;have hm:∀kk,kk≠4->BC M 5 0 v kk=M kk:=λkk j6=>j9 Ya;refine⟨⟨by rw[hq.l];exact kaS,λi hi=>(by rw[hq.l]at hi;simp at hi),λe=>(by rw[hq.c]at e;cases e),(zV s).lg sF,λn e=>(by rw[hq.t]at e;cases e)⟩,qw (by unfold sQ;rw[hm 2 Ya]),qB e3,by unfold yy;rw[hm 3 Ya];exact ZH _,qw hq.t,λj=>qw (by rw[hm 1 Ya]),λo rv _ h1=>?_,λj=>qw (by rw[hm 0 Ya])⟩;rcases h1 with h1|⟨h1,_⟩;left;unfold kF at *;rw[hm 1 Ya];exact h1;rw[e2]at h1;cases h1
end
def cm_dn {s:aJ}(h:tA s=qj):pF s=qj:=by
 unfold tA at h;unfold pF;revert h;cases s.aH<;>intro h<;>first
  |rfl
  |cases h
def dn_tk {c:bu}{k:Nat}{s:aJ}(h:oU c k s)(hd:pF s=qj):∃n,ng s=qf n:=by
 have hD:=h.d;unfold pF at hd;unfold ng;revert hd hD;cases s.aH<;>intro hd hD<;>first
  | (cases hd;done)
  |skip
 obtain⟨_,_,⟨t,ht⟩,_⟩:=hD;dsimp only;rw[ht];exact⟨_,rfl⟩;obtain⟨_,_,t,ht⟩:=hD;dsimp only;rw[ht];exact⟨_,rfl⟩;obtain⟨_,_,_,⟨t,ht⟩,_⟩:=hD;dsimp only;rw[ht];exact⟨_,rfl⟩;obtain⟨_,_,_,⟨t,ht⟩,_⟩:=hD;dsimp only;rw[ht];exact⟨_,rfl⟩;obtain⟨_,_,t,ht⟩:=hD;dsimp only;rw[ht];exact⟨_,rfl⟩;obtain⟨_,t,ht⟩:=hD;dsimp only;rw[ht];exact⟨_,rfl⟩
section
variable {c:bu} {nt k:Nat} {s:aJ} {M:Mm}
def iL {s:aJ}(h:match s.aH with | .bC | .iY _ | .dA | .be _ _ | .eO _ | .eG _ | .gC=>True|_=>False):vG s:=by
 revert h;cases hd:s.aH<;>intro h<;>first
  |exact h.elim
  | (refine ⟨?_,?_,?_,?_⟩<;>simp[s8,tA,ng,pF,hd])
def oT.CP {r:sx}(h:vG s)(h1:uT r.2.2.1/\uU r.2.2.1/\Bz M r.2.2.2)(hc:r.2.2.1.cf=c):oT c s M r:=Oz.CP h h1.1 h1.2.1 hc h1.2.2
def M8 (r:hY)(u:sT)(he:kO s):uT (da s M r u).2.2.1/\uU (da s M r u).2.2.1/\Bz M (da s M r u).2.2.2:=by
 have hm:Bz M (dh r M).2.2:=by rw[(zB r M).2.2.2];exact .refl M
 unfold da;dsimp only;split;exact⟨trivial,trivial,hm⟩;split;exact⟨tI _ _,tJ _ _,hm⟩;split;have hp:mS { (if r.cr<s.cf.bm/\¬r.cr∈s.reads then { { s with aH:=.be (dh r M).2.1 u } with reads:=s.reads++[r.cr] } else { s with aH:=.be (dh r M).2.1 u }) with set:=(eT s.cf.reads.toNat s.set r.gz).2,aH:=.bC }:=by refine⟨?_,rfl⟩;split<;>exact he.to rfl rfl rfl rfl rfl
 exact⟨use_calm hp _ _,use_cal2 hp _ _,hm⟩;exact⟨tI _ _,tJ _ _,hm⟩
def Sf (p:sU)(he:kO s):uT (lx s M p).2.2.1/\uU (lx s M p).2.2.1/\Bz M (lx s M p).2.2.2:=by have hm:=pop_like p M;unfold lx;dsimp only;split;have hp:mS { s with aH:=.bC }:=⟨he.to rfl rfl rfl rfl rfl,rfl⟩;exact⟨TX hp _ _,TZ hp _ _,hm⟩;exact⟨trivial,trivial,hm⟩
def Nd (p:gy):uT (iT s M p).2.2.1/\uU (iT s M p).2.2.1/\Bz M (iT s M p).2.2.2:=by have hm:=EY p M;unfold iT;dsimp only;split;exact⟨vD _,zV _,hm⟩;exact⟨trivial,trivial,hm⟩
def Je (e:ig)(hd:s.aH=.dA):uT (go s M e).2.2.1/\uU (go s M e).2.2.1/\Bz M (go s M e).2.2.2:=by have hm:=Jd e M;unfold go;dsimp only;split;exact⟨trivial,trivial,hm⟩;refine⟨?_,?_,hm⟩;unfold uT;dsimp only;rw[hd];trivial;unfold uU;dsimp only;rw[hd];trivial
def HJ (hc:dl c)(hk:k<2^40)(h:oU c k s)(hM:mr c nt k M)(hT:uM c s M):oT c s M (aY s M):=by
 have hb:=h.b;have hd:=h.d;have sF:(aY s M).2.2.1.cf=c:=(AD hc hk h hM).1.b.cf;revert sF;unfold aY;cases e:s.aH with
 |bC=>intro sF;exact oT.of (Oz.quiet (iL Yn) (iL Yn) (by unfold Iy;rw[e];trivial) (.refl M))
 |iY l=>intro sF;rw[e]at hd;have hp:mS { s with aH:=.bC }:=⟨hd.1.to rfl rfl rfl rfl rfl,rfl⟩;exact oT.CP (iL Yn) ⟨PU hp l,loc_cal2 hp l,.refl M⟩ sF
 |dA=>rw[e]at hd;obtain⟨h0,en,h1,_⟩:=hd;dsimp only;rw[h1];intro sF;exact oT.CP (iL Yn) (Je en e) sF
 |be r u=>intro sF;rw[e]at hd;exact oT.CP (iL Yn) (M8 r u hd.1) sF
 |eO p=>intro sF;rw[e]at hd;exact oT.CP (iL Yn) (Sf p hd.1) sF
 |ef=>rw[e]at hd;obtain⟨h0,RC,l,h1,h2,h3,h4,h5⟩:=hd;dsimp only;rw[h1];intro _;exact lock_eff hM hk hb l h1 h0.1 h2 h3 h4 h5 e hT
 |c8=>rw[e]at hd;obtain⟨h0,hl,t,h1,h2,h3⟩:=hd;dsimp only;rw[h1];intro _;exact turn_eff hM hk h t h1 h2 e hT
 |cK ck=>intro _;rw[e]at hd;obtain⟨h0,hl,⟨t,ht⟩,_⟩:=hd;exact W2 ck h0.2 t ht e hT
 |bN=>intro _;rw[e]at hd;obtain⟨h0,hl,t,ht⟩:=hd;exact Tz hM h0.2 hl.2 t ht e hT
 |dy w=>intro _;rw[e]at hd;obtain⟨h0,yZ,hl,⟨t,ht⟩,q,h1,h2⟩:=hd;exact Vz hM hb w yZ t ht q h1 h2 e hT
 |bG w=>intro _;rw[e]at hd;obtain⟨h0,yZ,hl,⟨t,ht⟩,q,h1,h2⟩:=hd;exact rel_eff hM hk hb w yZ t ht q h1 h2 e hT
 |eR=>intro _;rw[e]at hd;obtain⟨h0,yZ,t,ht⟩:=hd;exact VR hM hk hb t ht e hT _ _
 |ey=>intro sF;rw[e]at hd;obtain⟨h0,t,ht⟩:=hd;exact pass_eff hb t ht e sF _ _ _
 |eG p=>intro sF;exact oT.CP (iL Yn) (Nd p) sF
 |gC=>intro sF;exact oT.CP (iL Yn) ⟨trivial,trivial,.op M Ya⟩ sF
end
end
end Go.Stx
