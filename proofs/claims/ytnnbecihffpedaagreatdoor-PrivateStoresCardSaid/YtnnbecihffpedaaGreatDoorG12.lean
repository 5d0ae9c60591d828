import Derived.Test.YtnnbecihffpedaaGreatDoorG11
set_option linter.all false
set_option maxRecDepth 20000
set_option maxHeartbeats 4000000
open List renaming length->U
open Go.IntKind renaming i64->Zb
open Go.Proofs.Tryz renaming prog->qZ
open Go.Stx.AW renaming le->Zw
open Go.Value renaming oneCell'->ZK
open List renaming flatMap_cons->kbc,getElem?_eq_getElem->Zf,getElem_mem->ZP,getElem_of_mem->kaZ,length_set->ZZ
open Nat renaming le_refl->Za,zero_le->Zv
open Option.some renaming inj->ZC
open Bool renaming false->qn,true->qj
open Go renaming Value->qi
open Go.IntKind renaming i64->qg
open Go.Stx.dt renaming cells->qm
open Go.Value renaming bool->qt,int->qh,pointer->qs,slice->ql
open Option renaming none->qk,some->qf
namespace Go.Stx
open Go Go.Proofs
attribute [local irreducible] TW bK df aW aE aL cY dm
section
open T7
variable [Gl]
def W3 {c:bu}(h:dl c):lL c=0:=by have h1:=h.bm;have h2:=h.au;have h3:=h.k0;have h4:=h.k1;have h5:=h.k2;have h6:=h.k3;have h7:=h.nb;have h8:=h.base;have h9:=h.fit;have Qx:=h.reads;have Kh:=h.b8;have xm:=h.ao;have D0:=h.aB;have h14:=h.aC;unfold lL;rw[ar Ya,ar (by unfold yJ;omega),ar Ya,ar Ya]
def H9:∀(l:List (List bp))(t:Nat),(∀q∈l,(b7 q).2=0)->mm l t=qk
 |[],_,_=>rfl
 |p::l,t,h=>by unfold mm;rw[az (h p Yb)];exact H9 l (t+1) λq hq=>h q (by simp[hq])
def LQ (n:Nat):∀(l:List Int)(k:Nat),(∀x∈l,0<=x/\x<(n:Int))->vP n l k=qk
 |[],_,_=>rfl
 |x::l,k,h=>by unfold vP;have:=h x Yb;rw[ar Ya];exact LQ n l (k+1) λy hy=>h y YB
def Dd {c:bu}{ni:Nat}{ps:List (List bp)}{pk:List Int}(h0:dl c)(h1:1<=U ps)(h2:U ps<=16)(h3:(ni:Int)=c.bm)(h4:∀q∈ps,(b7 q).2=0)(h5:U pk<=65536)(h6:∀x∈pk,0<=x/\x<(U ps:Int)):kh c ni ps pk=(0,0,0):=by unfold kh;rw[ar (by rw[W3 h0];simp),ar Ya,ar (by simp[h3]),H9 ps 0 h4];simp only;rw[ar Ya,LQ _ _ _ h6]
structure ScrG (A:AW) (c:bu) (vi vp vk:Value) (zs:List Int) (ps:List (List bp)) (kl:List Int):Prop where
 few:re c
 i:b5 A .u64 vi zs
 p:jU A vp ps
 k:b5 A .i64 vk kl
 e:∀pk:List Int,(∀x∈pk,x∈kl)->pk.length<=kl.length->(kh c zs.length ps pk).2.2=0
 kl:kl.length<=300
 pl:∀p∈ps,p.length<=64
 n:ps.length<=16
 z:(zs.length:Int)=c.bm
 al:∀p∈ps,GU p
end
section
open T7
variable [Gl]
structure ScrF (N:Nat) (A:AW) (c:bu) (vi vp vk:Value) (zs:List Int) (ps:List (List bp)):Prop where
 few:re c
 b:∃(Z B:Nat) (us:List Value),N<=Z/\PS Z A vp us ps/\dW Z A 1 vk 0 []/\(∀j o,dX vk=some j->PS Z (A.set j o) vp us ps)/\dW B A 1 vi zs.length (zs.map (Value.int .u64))/\(∀j,dX vi=some j->j<Z)/\us.length=ps.length
 e:∀pk:List Int,pk.length<=65536->(∀x∈pk,0<=x/\x<(ps.length:Int))->(kh c zs.length ps pk).2.2=0
 pl:∀p∈ps,p.length<=64
 n:ps.length<=16
 n1:1<=ps.length
 z:(zs.length:Int)=c.bm
 al:∀p∈ps,GU p
end
section
def Dc:∀(vs a b:List qi)(o:Nat),dS (a++b) (U a+o) vs=a++dS b o vs
 |[],a,b,o=>rfl
 |v::vs,a,b,o=>by show dS ((a++b).set (U a+o) v) (U a+o+1) vs=a++dS (b.set o v) (o+1) vs;rw[List.set_append_right _ _ Ya,Nat.add_sub_cancel_left,Nat.add_assoc,Dc vs a (b.set o v) (o+1)]
def Da:∀(vs bO:List qi)(off k n:Nat),((dS bO (off+k) vs).drop off).take n=dS ((bO.drop off).take n) k vs
 |[],bO,off,k,n=>rfl
 |v::vs,bO,off,k,n=>by show ((dS (bO.set (off+k) v) (off+(k+1)) vs).drop off).take n=dS (((bO.drop off).take n).set k v) (k+1) vs;rw[Da vs (bO.set (off+k) v) off (k+1) n,List.drop_set,ar Ya,List.take_set,Nat.add_sub_cancel_left]
def QG (y:bp):∀(l:List bp)(j:Nat)(hj:j<U l),dS (l.flatMap aA) (j*5) (aA y)=(l.set j y).flatMap aA
 |x::l,0,_=>by simp[aA,dS]
 |x::l,j+1,h=>by have ih:=QG y l j YV;rw[kbc,List.set_cons_succ,kbc,<-ih];have e:(j+1)*5=U (aA x)+j*5:=(by simp[aA];omega);rw[e,Dc]
variable [Gl]
def VK {A:AW}{B:Nat}{p:Addr}{n c:Nat}{l:List bp}(y:bp){j:Nat}(jd:dW B A 5 (ql (qf p) n c) (U l) (l.flatMap aA))(hj:j<U l)(hw:A.Wf):
 ∃A',aI qZ A 33 ⟨p.block,p.off+j*5,qk⟩ (.agg (aA y).toArray)=qf A'/\dW B A' 5 (ql (qf p) n c) (U (l.set j y)) ((l.set j y).flatMap aA)/\A'.Wf/\A'.next=A.next/\(∀i,i≠p.block->A'.bk i=A.bk i)/\p.spot=qk:=by
 rcases jd with ⟨h,_⟩|⟨q,c',bO,e,h2,hs,h3,h4,h5,h6⟩;cases h;injection e with e1 e2 e3;injection e1 with e1;subst e1;refine⟨A.set p.block (qf (qm (dS bO (p.off+j*5) (aA y)) qj 5)),?_,?_,hw.set _ (hw.lt h4),rfl,λi hi=>AW.bh hi,hs⟩;have ho:p.off+j*5+5<=U bO:=Ya
 unfold aA;simp[aI,h4,Tryz.info33,ZK,Value.cells,ho];refine .inr ⟨p,c,dS bO (p.off+j*5) (aA y),by rw[ZZ,e2],by rw[ZZ,<-e2];omega,hs,h3,AW.cM,by rw[yC,ZZ];exact h5,?_⟩;rw[<-QG y l j hj,h6,ZZ,Da]
def PS.put {Z:Nat}{A:AW}{vp:qi}{us:List qi}{ps:List (List bp)}(h:PS Z A vp us ps)(hd:UsD us)(hw:A.Wf){t j:Nat}(ht:t<U ps){p:Addr}{n c:Nat}(hu:us[t]?=qf (ql (qf p) n c))(hj:j<U ps[t])(y:bp):
 ∃A',aI qZ A 33 ⟨p.block,p.off+j*5,qk⟩ (.agg (aA y).toArray)=qf A'/\PS Z A' vp us (ps.set t (ps[t].set j y))/\A'.Wf/\A'.next=A.next/\(∀i,i≠p.block->A'.bk i=A.bk i):=by obtain⟨u,h1,h2,h3⟩:=h.el t ht;rw[hu]at h1;obtain rfl:=ZC h1;obtain⟨A',e,k1,k2,k3,k4,_⟩:=VK y h2 hj hw;refine⟨A',e,⟨h.own.km λi hi=>k4 i λe2=>h3 i hi (by rw[e2];rfl),by rw[ZZ];exact h.len,λi hi=>?_⟩,k2,k3,k4⟩;by_cases hit:i=t;subst hit;refine⟨_,hu,?_,h3⟩;rw[List.getElem_set_self];exact k1;rw[ZZ]at hi;obtain⟨w,g1,g2,g3⟩:=h.el i hi;refine⟨w,g1,?_,g3⟩;rw[List.getElem_set_ne (λe=>hit e.symm)];exact g2.km λb hb=>k4 b λe2=>hd.ne g1 hu hit hb (by rw[e2];rfl)
def lE.getAt {A:AW}{o:Option Addr}{c n:Nat}{l:List bp}(h:lE A (ql o n c) l){i:Nat}(hi:i<U l):
 ∃p bO own,o=qf p/\A.bk p.block=qf (qm bO own 5)/\p.off+i*5+5<=U bO/\(bO.drop (p.off+i*5)).take 5=aA l[i]:=by rcases h with ⟨⟨o,h1⟩,h2,_⟩|⟨p,c,bO,own,u,h1,h2,h3,h4,h5,h6⟩;omega;injection h1 with h1 _ _;subst h4;refine⟨p,bO,own,h1,h3,by omega,?_⟩;rw[<-DP l i hi,h6,<-List.drop_drop,List.drop_take,List.take_take];congr 1;omega
end
section
open T7
variable [Gl]
def PS.above {B:Nat}{A:AW}{vp:qi}{us:List qi}{ps:List (List bp)}(h:PS B A vp us ps)(hw:A.Wf):∀x∈us,∀j,dX x=qf j->B<=j:=λx hx j hj=>by obtain⟨i,hi,rfl⟩:=kaZ hx;obtain⟨u,h1,h2,_⟩:=h.el i (by rw[<-h.len];exact hi);rw[Zf hi]at h1;obtain rfl:=ZC h1;exact(h2.lt hw hj).1
def TJ {P:Program}{n:Nat}{i j:Nat}{Q:Exit->Fr->AW->Prop}{a:Fr}{A:AW}{x:Code}{K:Fr->AW->Prop}(J:Fr->AW->Prop)(h1:df P n x (b6 i (b6 j (aT J Q))) a A)(h2:∀a A,J a A->K a A):df P n x (b6 i (b6 j (aT K Q))) a A:=
 An h1 λe a A h=>by
  cases e with
  |normal=>exact h2 a A h
  |exit k=>simp only[b6]at h ⊢;split at h<;>rename_i e;rw[az e];exact h2 a A h;rw[ar e];split at h<;>rename_i e';rw[az e'];exact h2 a A h;rw[ar e'];exact h
  |_=>exact h
structure Fy (A4 A:AW) (Z:Nat) (vp:Value) (us:List Value) (ps:List (List bp)):Prop where
 own:PS Z A vp us ps
 wf:A.Wf
 next:A4.next<=A.next
 jp:∀b,b<A4.next->(∀x∈us,dX x≠some b)->A.bk b=A4.bk b
 ok:∀q∈ps,(b7 q).2=0/\GU q
 self:True=True
section
variable {A4 A:AW} {Z:Nat} {vp:qi} {us:List qi} {ps:List (List bp)}
def Fy.le (h:Fy A4 A Z vp us ps){B:AW}(hl:A.le B)(hw:B.Wf):Fy A4 B Z vp us ps:=
 ⟨h.own.le hl h.wf,hw,Nat.le_trans h.next hl.next,λb h1 h2=>(hl.bk b (Nat.lt_of_lt_of_le h1 h.next)).trans (h.jp b h1 h2),h.ok,rfl⟩
def Fy.put (h:Fy A4 A Z vp us ps)(hd:UsD us){t j:Nat}(ht:t<U ps){p:Addr}{n c:Nat}(hu:us[t]?=qf (ql (qf p) n c))(hj:j<U ps[t])(xm:ps[t][j].op=12):
 ∃A',aI qZ A 33 ⟨p.block,p.off+j*5,qk⟩ (.agg (aA Bu).toArray)=qf A'/\Fy A4 A' Z vp us (ps.set t (ps[t].set j Bu)):=by obtain⟨A',e,h1,h2,h3,h4⟩:=h.own.put hd h.wf ht hu hj Bu;have hx:ps[t][j]?=qf ps[t][j]:=Zf hj;refine⟨A',e,h1,h2,by rw[h3];exact h.next,λb g1 g2=>?_,λq hq=>?_,rfl⟩;rw[h4 b λe2=>g2 _ (List.mem_of_getElem? hu) (by rw[e2];rfl)];exact h.jp b g1 g2;rcases List.mem_or_eq_of_mem_set hq with g1|g1;exact h.ok q g1;have h5:=h.ok ps[t] (ZP ht);subst g1;exact⟨QZ h5.1 hx xm,aad h5.2⟩
def PS.at {o:Option Addr}{n c:Nat}(h:PS Z A (ql o n c) us ps){t:Nat}(ht:t<U ps):
 ∃p bO u,o=qf p/\A.bk p.block=qf (qm bO qj 1)/\bO[p.off+t]?=qf u/\us[t]?=qf u/\dW Z A 5 u (U ps[t]) (ps[t].flatMap aA):=by obtain⟨u,h3,h4,_⟩:=h.el t ht;rcases h.own with ⟨_,e,_⟩|⟨p,c',bO,e1,e2,hs,e3,e4,e5,e6⟩;have:=h.len;omega;injection e1 with e1 e7 e8;refine⟨p,bO,u,e1,e4,?_,h3,h4⟩;have h5:=h3;rw[e6,Nat.mul_one,List.getElem?_take_of_lt (by have:=h.len;omega),List.getElem?_drop]at h5;exact h5
end
def KE (hn:Gl.N=4)(l0 l1 l2 l3 l4:Int)(vl vk:qi)(ls:List (List Int))(pk:List Int)(aZ:Bool)(A:AW)(hL:oD A vl ls)(hk:b5 A qg vk pk)(WC:U ls<=maxLen)(Kf:∀x∈ls,U x<=17592186044415)(hpk:U pk<=17592186044415):
 aE qZ 19 [.agg #[qh qg l0,qh qg l1,qh qg l2,qh qg l3,qh qg l4],vl,vk,qt aZ] A (λu A'=>∃(b:Bool)(c:bu)(vi vp vk':qi)(zs:List Int)(ps:List (List bp))(kl:List Int),
  u=.tuple #[MZ c vi vp vk',qt b]/\A.le A'/\A'.Wf/\(∃o n c,vi=ql o n c)/\(∃o n c,vp=ql o n c)/\(∃o n c,vk'=ql o n c)/\(b=qj->ScrG A' c vi vp vk' zs ps kl)):=by
 have Qf:maxLen=9223372036854775807:=rfl;rw[Qf]at WC;refine aO Tryz.func19 λhw=>?_;obtain⟨ol,cl,rfl,_⟩:=hL.cL;obtain⟨Uw,Vk,rfl,_⟩:=hk.cL;revert hw;refine W db db ?_<;>(unhygienic intros);refine Eh (λA1=>A.le A1/\A1.Wf/\A1.next=A.next+2/\A1.bk A.next=qf (qm [qh qg l0,qh qg l1,qh qg l2,qh qg l3,qh qg l4] qj 1)/\A1.bk (A.next+1)=qf (qm vM qj 1)) ?_ ?_;refine⟨(AW.le.alloc A _).trans (AW.le.alloc _ _),(hw.alloc _).alloc _,by simp,?_,?_⟩;simp[AW.bX];simp[AW.bX,vM];rintro A1⟨DV,jt,Hd,hbA,hbR⟩;have hL1:=hL.keeps (iI.oI DV hw);have hk1:=hk.le DV hw;refine lY (λfr A'=>A1=A'/\∃s:Int,fr 1=ql ol (U ls) cl/\fr 2=ql Uw (U pk) Vk/\fr 3=qt aZ/\fr 4=qs (qf ⟨A.next,0,qk⟩)/\fr 8=qs (qf ⟨A.next+1,0,qk⟩)/\fr 10=qh qg s/\(U ls<=3->(U pk:Int)<=s)) ?_ ?_;refine dO (λk fr A'=>A1=A'/\∃(i:Nat)(s:Int),k=U ls-i/\i<=U ls/\fr 1=ql ol (U ls) cl/\fr 2=ql Uw (U pk) Vk/\fr 3=qt aZ/\fr 4=qs (qf ⟨A.next,0,qk⟩)/\fr 8=qs (qf ⟨A.next+1,0,qk⟩)/\fr 10=qh qg s/\fr 11=qh qg i/\(U ls<=3->(U pk:Int)<=s/\s<=U pk+i*17592186044415)) (U ls) ?_ ?_
 exact⟨rfl,0,U pk,rfl,Zv _,rfl,rfl,rfl,rfl,rfl,rfl,rfl,λ_=>by omega⟩;rintro k fr A'⟨rfl,i,s,rfl,hi,g1,g2,g3,g4,g8,jn,i9,Ny⟩;by_cases b9:i<U ls;obtain⟨q,bO,own,u,pS,bP,hcell,hu⟩:=hL1.at b9;subst pS;obtain⟨ou,cu,hu',_⟩:=hu.cL;subst hu';have ij:=C0 (i:=i);have cJ:U ls-i=(U ls-(i+1))+1:=Ya
 obtain⟨s2,tu⟩:∃s2,Zb.wrap (s+U ls[i])=s2:=⟨_,rfl⟩;refine aU ?_;refine W db (oP g1 g2 g3 g4 g8 jn i9 b9 ij bP hcell tu @AW.ab) ?_<;>intros;have hsum2:U ls<=3->(U pk:Int)<=s2/\s2<=U pk+((i+1:Nat):Int)*17592186044415:=λh=>by have h1:=Ny h;have h2:=Kf ls[i] (ZP b9);rw[<-tu,an Ya Ya];omega
 refine⟨U ls-(i+1),by omega,rfl,i+1,s2,rfl,by omega,?_,?_,?_,?_,?_,?_,?_,hsum2⟩<;>simp[g1,g2,g3,g4,g8];have uR:i=U ls:=Ya
 subst uR;refine aU ?_;refine W db (J8 g1 g2 g3 g4 g8 jn i9 b9) ?_<;>intros;exact⟨rfl,s,by simp[g1],by simp[g2],by simp[g3],by simp[g4],by simp[g8],by simp[jn],λh=>(Ny h).1⟩;rintro fr A'⟨rfl,s,g1,g2,g3,g4,g8,jn,Ny⟩;have fL:¬A.next=A.next+1:=Ya
 have hne2:¬A.next+1=A.next:=Ya
 have zero:A.le (A1.set (A.next+1) (qf (qm vM qj 1)))/\(A1.set (A.next+1) (qf (qm vM qj 1))).Wf:=⟨DV.set Ya _,jt.set _ Ya⟩;unfold vM at hbR zero;by_cases h3:3<U ls
 . refine W db (J9 g1 g2 g3 g4 g8 jn h3 hbR bL) ?_<;>intros
   all_goals(
    refine⟨_,by (simp[bA,aR,aS,g8,ja,AW.ab];rfl),qn,⟨0,0,0,0,0,0,0,0,0,0,0,0,qn⟩,ql qk 0 0,ql qk 0 0,ql qk 0 0,[],[],[],rfl,zero.1,zero.2,⟨_,_,_,rfl⟩,⟨_,_,_,rfl⟩,⟨_,_,_,rfl⟩,λe=>by cases e⟩)
 by_cases h260:260<s
 . refine W db (Hr g1 g2 g3 g4 g8 jn h3 h260 hbR bL) ?_<;>intros
   all_goals(
    refine⟨_,by (simp[bA,aR,aS,g8,ja,AW.ab];rfl),qn,⟨0,0,0,0,0,0,0,0,0,0,0,0,qn⟩,ql qk 0 0,ql qk 0 0,ql qk 0 0,[],[],[],rfl,zero.1,zero.2,⟨_,_,_,rfl⟩,⟨_,_,_,rfl⟩,⟨_,_,_,rfl⟩,λe=>by cases e⟩)
 obtain⟨c,hc,cC⟩:=Gi l0 l1 l2 l3 l4;have hf:=hc.few;have WA:=hc.bm;have U2:(U ls:Int).tmod 2=((U ls % 2:Nat):Int):=by rw[Int.tmod_eq_emod_of_nonneg Ya];omega
 obtain⟨nn,SW⟩:∃nn:Nat,2+U ls % 2=nn:=⟨_,rfl⟩;have E6:Zb.wrap (2+(U ls:Int).tmod 2)=(nn:Int):=by rw[U2,an Ya Ya];omega
 obtain⟨mB,gq,mh,c0,c1,c2,c3,kS,lZ,mi,mf,jC,nE⟩:=c;have IT:re ⟨mB,gq,mh,c0,c1,c2,c3,kS,lZ,mi,mf,jC,aZ⟩:=⟨⟨hf.ok.bm,hf.ok.au,hf.ok.k0,hf.ok.k1,hf.ok.k2,hf.ok.k3,hf.ok.nb,hf.ok.base,hf.ok.fit,hf.ok.reads,hf.ok.b8,hf.ok.ao,hf.ok.aB,hf.ok.aC⟩,hf.c0,hf.c1,hf.c2,hf.c3⟩;dsimp only at WA;have cS:=λO O' O''=>FM hn ⟨mB,gq,mh,c0,c1,c2,c3,kS,lZ,mi,mf,jC,aZ⟩ ⟨by dsimp only;omega,by dsimp only;omega⟩ nn Ya (ql ol (U ls) cl) (ql Uw (U pk) Vk) ls pk 14 qj qj (((A1.alloc O).set A1.next O').set A1.next O'') (hL1.keeps (iI.oI ((Zw.mu A1 O O').set (Za _) O'') jt)) Ya (hk1.le ((Zw.mu A1 O O').set (Za _) O'') jt) hpk (.inr Ya);simp only[bu.v]at cC cS;revert hw;(repeat revert hc);refine W (J1 @cC) (Ay g1 g2 g3 g4 g8 jn h3 h260 hbR hbA E6 bL) ?_<;>(unhygienic intros);refine(cS _ _ _).mono ?_;rintro u A3⟨oi,ni,ci,vp,ok,ck,us,ps,kl,zs,Z,hu,hZ,hP,Wt,rS,hKo,hkl,hun,hud,mT,rx,Kc,hkr,hzl,hIo,hIz⟩
 subst hu;subst hzl;obtain⟨op,cp,yE,_⟩:=hP.own.is.cL;subst yE;have hle13:=((Zw.mu A1 _ _).set (Za _) _).trans Wt;have hn3:=hle13.next;rw[Hd]at hn3;have hZ:A.next+3<=Z:=by simp at hZ;omega
 have hIo:=hIo.tO (C:=A.next+2) Yg;have hvk:∀x∈us,∀j,dX x=qf j->dX (ql ok (U kl) ck)≠qf j:=λx hx j h1 h2=>by obtain⟨i,hi,rfl⟩:=kaZ hx;obtain⟨w,g1,g2,_⟩:=(rx j qk h2).el i (by rw[<-hP.len];exact hi);rw[Zf hi]at g1;obtain rfl:=ZC g1;rcases g2 with ⟨g3,_⟩|⟨q,c',bO,g3,_,_,_,g4,_⟩;rw[g3]at h1;cases h1;rw[g3]at h1;have:q.block=j:=ZC h1;rw[this,AW.cM]at g4;cases g4
 have hz6:(kj ⟨mB,gq,mh,c0,c1,c2,c3,kS,lZ,mi,mf,jC,aZ⟩ (ql oi (U zs) ci) (ql op (U us) cp) (ql ok (U kl) ck)).length=16:=rfl;obtain⟨A4,hA4⟩:∃A4,(A3.alloc (qm vM qj 1)).set A3.next (qf (qm (kj ⟨mB,gq,mh,c0,c1,c2,c3,kS,lZ,mi,mf,jC,aZ⟩ (ql oi (U zs) ci) (ql op (U us) cp) (ql ok (U kl) ck)) qj 1))=A4:=⟨_,rfl⟩;have Qi:A3.le A4:=by rw[<-hA4];exact Zw.mu A3 _ _
 have hw44:A4.Wf:=by rw[<-hA4];exact(rS.alloc _).set _ Yb
 have hsb4:A4.bk A3.next=qf (qm (kj ⟨mB,gq,mh,c0,c1,c2,c3,kS,lZ,mi,mf,jC,aZ⟩ (ql oi (U zs) ci) (ql op (U us) cp) (ql ok (U kl) ck)) qj 1):=by rw[<-hA4];simp
 have hn4:A4.next=A3.next+1:=by rw[<-hA4];simp
 have hJ0:Fy A4 A4 Z (ql op (U us) cp) us ps:=⟨hP.le Qi rS,hw44,Za _,λb h1 h2=>rfl,λq hq=>⟨(mT q hq).1.2.1 Yd,(mT q hq).1.2.2⟩,rfl⟩;have WB:=hP.Q1 rS;have huZ:=hP.above rS;have hI4:=hIo.le Qi rS;have hK4:=hKo.le Qi rS;have hpsn:U us=U ps:=hP.len;clear hP rx hIo hKo mT;unfold MZ kj bu.cells;unfold kj bu.cells vM at hA4;unfold kj bu.cells at hsb4;simp only[aa,ah]at hA4 hsb4 ⊢;have hbR4:=(hle13.trans Qi).jp jt hbR;have h260':s<=260:=Ya
 have hsN:∀B:AW,Fy A4 B Z (ql op (U us) cp) us ps->True:=λ_ _=>trivial;revert hw;(repeat first|revert hc|revert R|revert K);refine W db (J7 g1 g2 g3 g4 g8 hA4 bL) ?_<;>(unhygienic intros);clear hsN hA4;generalize hsb:A3.next=sb at *;have hnk:∀x∈us,dX x≠qf sb:=λx hx e=>by have:=WB x hx _ e;omega
 refine lY (λfr A'=>fr 8=qs (qf ⟨A.next+1,0,qk⟩)/\fr 13=qs (qf ⟨sb,0,qk⟩)/\∃V0,U V0=U ps/\Fy A4 A' Z (ql op (U us) cp) us V0) ?_ ?_
 . refine dO (λk fr A'=>∃(t:Nat)(V0:List (List bp)),k=U us-t/\t<=U us/\U V0=U ps/\fr 8=qs (qf ⟨A.next+1,0,qk⟩)/\fr 13=qs (qf ⟨sb,0,qk⟩)/\fr 14=qh qg t/\Fy A4 A' Z (ql op (U us) cp) us V0) (U us) ?_ ?_;exact⟨0,ps,rfl,Zv _,rfl,by simp[g8],by simp,by simp,hJ0⟩;clear hJ0 g1 g2 g3 g4 g8 jn;rintro k fr A5⟨t,Po,rfl,ht,hpl1,g8,Fb,oL,hJ⟩;have Wm:=(hJ.jp sb Ya hnk).trans hsb4;by_cases b9:t<U us
   . have gf:(t:Int)<U us:=Ya;have ij:Zb.wrap ((t:Int)+1)=((t+1:Nat):Int):=an Ya Ya;have cJ:U us-t=(U us-(t+1))+1:=Ya;have ht1:t<U Po:=Ya;obtain⟨q,bO,u,rfl,bP,hcell,hut,jd⟩:=hJ.own.at ht1;obtain⟨ou,cu,rfl,_⟩:=jd.is.cL;obtain⟨ln,Qh⟩:∃ln,U Po[t]=ln:=⟨_,rfl⟩;have hln64:ln<=64:=(by rw[<-Qh];exact(gA (hJ.ok _ (ZP ht1)).1).1);rw[Qh]at hut hcell;clear jd bP hcell;refine aU ?_;revert hw;(repeat revert hc);refine W db (J7 g8 Fb oL gf ij Wm @AW.ab) ?_<;>(unhygienic intros);refine TJ (λfr A'=>fr 8=qs (qf ⟨A.next+1,0,qk⟩)/\fr 13=qs (qf ⟨sb,0,qk⟩)/\fr 14=qh qg t/\∃V0,U V0=U ps/\Fy A4 A' Z (ql (qf q) (U us) cp) us V0) ?_ ?_;refine dO (λk fr A'=>∃(j:Nat)(V0:List (List bp)),k=ln-j/\j<=ln/\U V0=U ps/\(∀h:t<U V0,U V0[t]=ln)/\fr 8=qs (qf ⟨A.next+1,0,qk⟩)/\fr 13=qs (qf ⟨sb,0,qk⟩)/\fr 14=qh qg t/\fr 15=qh qg j/\Fy A4 A' Z (ql (qf q) (U us) cp) us V0) ln ?_ ?_
     exact⟨0,Po,rfl,Zv _,hpl1,λ_=>Qh,by simp[g8],by simp[Fb],by simp[oL],by simp,hJ⟩;clear hJ Wm g8 Fb oL Qh;rintro k fr A6⟨j,ps2,rfl,hj,SS,Qh,g8,Fb,oL,rA,hJ⟩;have Wl:=(hJ.jp sb Ya hnk).trans hsb4;have ht2:t<U ps2:=Ya;have Qh:=Qh ht2;obtain⟨q',bO,u',e',bP,hcell,hut',jd⟩:=hJ.own.at ht2;obtain rfl:=ZC e';rw[hut]at hut';obtain rfl:=ZC hut';by_cases hlj:j<ln;have hlji:(j:Int)<ln:=Ya;have hwj:Zb.wrap ((j:Int)+1)=((j+1:Nat):Int):=an Ya Ya;have hstj:ln-j=(ln-(j+1))+1:=Ya;have OJ:j<U ps2[t]:=Ya;obtain⟨pa,row5,own5,rfl,hr5,hq3,hq4⟩:=lE.getAt jd.is OJ;obtain⟨x,hx⟩:∃x,ps2[t][j]=x:=⟨_,rfl⟩;rw[hx]at hq4;obtain⟨xo,xa,xb,xc,xi⟩:=x;dsimp only[aA]at hq4;have hle7:=λO O'=>Zw.mu A6 O O';have hJ7:=λO O'=>hJ.le (hle7 O O') ((hJ.wf.alloc O).set _ Yb);obtain⟨A7,hA7⟩:∃A7,(A6.alloc (qm [qh qg 0,qh qg 0,qh qg 0,qh qg 0,qh qg 0] qj 1)).set A6.next (qf (qm [qh qg xo,qh qg xa,qh qg xb,qh qg xc,qh qg xi] qj 1))=A7:=⟨_,rfl⟩
     have hb7:A7.bk A6.next=qf (qm [qh qg xo,qh qg xa,qh qg xb,qh qg xc,qh qg xi] qj 1):=(by rw[<-hA7];simp);have hle7:A6.le A7:=(by rw[<-hA7];exact Zw.mu A6 _ _);have hJ7:Fy A4 A7 Z (ql (qf q) (U us) cp) us ps2:=(by rw[<-hA7];exact hJ7 _ _);have hsb7:=hle7.jp hJ.wf Wl;have hrow7:=hle7.jp hJ.wf bP;have hs7:aI qZ (A6.alloc (qm [qh qg 0,qh qg 0,qh qg 0,qh qg 0,qh qg 0] qj 1)) 33 ⟨A6.next,0,qk⟩ (.agg #[qh qg xo,qh qg xa,qh qg xb,qh qg xc,qh qg xi])=qf A7:=by rw[<-hA7];simp[aI,Tryz.info33,ZK,Value.cells]
     have y1:¬sb=A6.next:=by have:=hJ.wf.lt Wl;omega
     have y2:¬q.block=A6.next:=by have:=hJ.wf.lt bP;omega
     have y3:¬pa.block=A6.next:=by have:=hJ.wf.lt hr5;omega
     refine aU ?_;by_cases xm:xo=12;subst xm;by_cases hrz:xi.tmod 2=0;obtain⟨A8,e8,hJ8⟩:=hJ7.put hud ht2 hut OJ (by rw[hx]);simp only[aA,Bu]at e8;refine W db (J20 y1 y2 y3 g8 Fb oL rA hlji hwj Wl bP hcell hr5 hq3 hq4 hA7 hb7 hsb7 hrow7 (J4 hrz hs7 e8 @AW.ab)) ?_<;>intros;refine⟨ln-(j+1),by omega,j+1,ps2.set t (ps2[t].set j Bu),rfl,by omega,by rw[ZZ];exact SS,λh=>by rw[List.getElem_set_self,ZZ];exact Qh,by simp[g8],by simp[Fb],by simp[oL],by simp,hJ8⟩;refine W db (J20 y1 y2 y3 g8 Fb oL rA hlji hwj Wl bP hcell hr5 hq3 hq4 hA7 hb7 hsb7 hrow7 (J2 hrz bL)) ?_<;>intros;exact⟨ln-(j+1),by omega,j+1,ps2,rfl,by omega,SS,λ_=>Qh,by simp[g8],by simp[Fb],by simp[oL],by simp,hJ7⟩;refine W db (J20 y1 y2 y3 g8 Fb oL rA hlji hwj Wl bP hcell hr5 hq3 hq4 hA7 hb7 hsb7 hrow7 (J2 xm bL)) ?_<;>intros;exact⟨ln-(j+1),by omega,j+1,ps2,rfl,by omega,SS,λ_=>Qh,by simp[g8],by simp[Fb],by simp[oL],by simp,hJ7⟩
     have hlji:¬(j:Int)<ln:=Ya;refine aU ?_;refine W db (J9 g8 Fb oL rA hlji Wl bP hcell @AW.ab) ?_<;>intros;exact⟨by simp[g8],by simp[Fb],by simp[oL],ps2,SS,hJ⟩;clear hJ Wm g8 Fb oL;rintro fr A6⟨g8,Fb,oL,ps2,SS,hJ⟩;refine W db (J5 g8 Fb oL ij @AW.ab) ?_<;>intros;exact⟨U us-(t+1),by omega,t+1,ps2,rfl,by omega,SS,by simp[g8],by simp[Fb],by simp,hJ⟩
   have gf:¬(t:Int)<U us:=Ya;refine aU ?_;refine W db (J6 g8 Fb oL gf Wm @AW.ab) ?_<;>intros;exact⟨by simp[g8],by simp[Fb],Po,hpl1,hJ⟩
 clear hJ0 g1 g2 g3 g4 g8 jn;rintro fr A5⟨g8,Fb,Po,hpl1,hJ⟩;have Wr:∀i,i<Z->i<A4.next->A5.bk i=A4.bk i:=λi hi OL=>hJ.jp i OL λx hx e=>by have:=huZ x hx _ e;omega
 have Wm:=(hJ.jp sb Ya hnk).trans hsb4;have hlR:=hw44.lt hbR4;have hbR5:=(Wr (A.next+1) Ya hlR).trans hbR4;have NA:=hJ.wf.lt hbR5;have La:A.le A5:=⟨by have:=DV.next;have:=hJ.next;omega,λi hi=>(Wr i Ya Ya).trans (((DV.trans hle13).trans Qi).bk i hi)⟩;revert hw;(repeat revert hc);refine W db (J5 g8 Fb Wm hbR5 bL) ?_<;>(unhygienic intros)
 all_goals(
  refine⟨_,by (simp[bA,aR,aS,g8,ja,AW.ab];rfl),qj,⟨mB,gq,mh,c0,c1,c2,c3,kS,lZ,mi,mf,jC,aZ⟩,ql oi (U zs) ci,ql op (U us) cp,ql ok (U kl) ck,zs,Po,kl,rfl,La.set Ya _,hJ.wf.set _ NA,⟨_,_,_,rfl⟩,⟨_,_,_,rfl⟩,⟨_,_,_,rfl⟩,λ_=>?_⟩;have UX:=Ny Ya;have hI5:=hI4.km (A':=A5.set (A.next+1) (qf (qm [qh qg mB,qh qg gq,qh qg mh,qh qg c0,qh qg c1,qh qg c2,qh qg c3,qh qg kS,qh qg lZ,qh qg mi,qh qg mf,qh qg jC,qt aZ,ql oi (U zs) ci,ql op (U us) cp,ql ok (U kl) ck] qj 1))) (λj hj=>by have h1:=hI4.lt hw44 hj;have h2:=hIz j hj;rw[AW.bh Ya];exact Wr j h2 h1.2)
  have hK5:=hK4.km (A':=A5.set (A.next+1) (qf (qm [qh qg mB,qh qg gq,qh qg mh,qh qg c0,qh qg c1,qh qg c2,qh qg c3,qh qg kS,qh qg lZ,qh qg mi,qh qg mf,qh qg jC,qt aZ,ql oi (U zs) ci,ql op (U us) cp,ql ok (U kl) ck] qj 1))) (λj hj=>by have h1:=hK4.lt hw44 hj;rw[AW.bh Ya];exact hJ.jp j h1.2 λx hx e=>hvk x hx j e hj)
  have Qs:=hJ.own.km (A':=A5.set (A.next+1) (qf (qm [qh qg mB,qh qg gq,qh qg mh,qh qg c0,qh qg c1,qh qg c2,qh qg c3,qh qg kS,qh qg lZ,qh qg mi,qh qg mf,qh qg jC,qt aZ,ql oi (U zs) ci,ql op (U us) cp,ql ok (U kl) ck] qj 1))) (λj h1 _=>AW.bh (show j≠A.next+1 by omega)) hJ.wf;refine⟨IT,hI5.is,Qs.progs,hK5.is,λpk' hs hl=>?_,by omega,λp hp=>(gA (hJ.ok p hp).1).1,by omega,Kc,λp hp=>(hJ.ok p hp).2⟩;rw[Dd IT.ok Ya Ya (Kc) (λq hq=>(hJ.ok q hq).1) Ya (λx hx=>by have:=hkr x (hs x hx);omega)])
end
end Go.Stx
