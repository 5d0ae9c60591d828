/-
 Contracts of the small functions that the statements share: places, lists compared and copied.
-/
import Derived.Test.YtipomeafemoelaaGreatDoorF1
import Derived.Test.YtipomeafemoelaaGreatDoorF2
set_option linter.unusedVariables false
set_option linter.unusedSimpArgs false
set_option linter.unusedSectionVars false
set_option maxRecDepth 20000
set_option maxHeartbeats 4000000
open Bool renaming false_eq_true->qt
open Go.IntKind renaming i64->qg,u64->qd
open Go.Proofs.Tryz renaming prog->qa
open Go.Stx.AW.le renaming alloc->qb
open List renaming getD_eq_getElem?_getD->ql,getElem?_eq_getElem->qk,getElem?_set_self->Zd
namespace Go.Stx
open Go Go.Proofs
attribute [local irreducible] TW bG c8 aY aD aO cK da
section
namespace TKit
theorem mK [Gl] {A:AW} {L:List It} {T:Prop} (hS:ah A L) (hw:A.Wf) (h':(aV A L/\bq A L/\bQ L)=T:=by first|(dsimp only [aa,af,aV,bq,bQ,eQ];done)|exact rfl):T:=h'▸hS.eJ hw
end TKit
open TKit
variable [Gl]
def lM (a n:Int):Int:=qd.wrap a % n
theorem ja (a:Int):0<=qd.wrap a/\qd.wrap a<18446744073709551616:=by
 simp only [IntKind.wrap,IntKind.bits,IntKind.signed,Bool.false_and,qt,if_false];omega
theorem gZ (a n:Int) (hn:0<n):0<=lM a n/\lM a n<n:=⟨Int.emod_nonneg _ (by omega),Int.emod_lt_of_pos _ hn⟩
theorem jD (a n:Int) (A:AW) (hn:0<n) (AK:n<=9223372036854775807) :
 aD qa 10 [.int .i64 a,.int .i64 n] A (λv A'=>v=.int .i64 (lM a n)/\A=A'):=by
 refine aN Tryz.func10 λhw=>?_;have jx:qd.wrap n=n:=ax (by omega) (by omega);have gT:n≠0:=by omega
 obtain⟨h1,h2⟩:=ja a;obtain⟨h3,h4⟩:=gZ a n hn;have hr:(qd.wrap a).tmod n=lM a n:=Int.tmod_eq_emod_of_nonneg h1;have kc:qg.wrap (lM a n)=lM a n:=ar (by omega) (by omega);refine W cF (J4 jx gT hr kc) ?_<;>intros;simp
end
section
namespace TCells
theorem mK [Gl] {A:AW} {L:List It} {T:Prop} (hS:ah A L) (hw:A.Wf) (h':(aV A L/\bq A L/\bQ L)=T:=by first|(dsimp only [aa,af,aV,bq,bQ,eQ];done)|exact rfl):T:=h'▸hS.eJ hw
end TCells
open TCells
variable [Gl]
def xK (vs:Nat->Value) (a:Int):Option Value:=if 1<=a/\a<=8 then some (vs (a-1).toNat) else none
def eG (pb:Nat) (M:Nat->List Int):HP:=
 rO λr:Nat=>rO λvs:Nat->Value=>
  pt pb (.cells [.map (some r)] true 1)*(gG .i64 r (xK vs)*kV (λk=>av .u64 (vs k) (M k)) 8)
theorem eG.open {A:AW} {pb:Nat} {M:Nat->List Int} {F:HP} (h:bB A (eG pb M*F)) :
 ∃r vs,bB A (pt pb (.cells [.map (some r)] true 1)*(gG .i64 r (xK vs)*(kV (λk=>av .u64 (vs k) (M k)) 8*F))):=by
 unfold eG at h;rw [bB.ex] at h;obtain⟨r,h⟩:=h;rw [bB.ex] at h;obtain⟨vs,h⟩:=h;rw [HP.cQ,HP.cQ] at h;exact⟨r,vs,h⟩
theorem eG.dP {A:AW} {pb:Nat} {M:Nat->List Int} {F:HP} {r:Nat} {vs:Nat->Value} (h:bB A (pt pb (.cells [.map (some r)] true 1)*(gG .i64 r (xK vs)*(kV (λk=>av .u64 (vs k) (M k)) 8*F)))) :
 bB A (eG pb M*F):=by
 unfold eG;rw [bB.ex];refine⟨r,?_⟩;rw [bB.ex];refine⟨vs,?_⟩;rw [HP.cQ,HP.cQ];exact h
structure aZ where
 fI:Int
 cell:Int
 cL:Int
 fi:Int
 put:Int
 done:Bool
deriving DecidableEq
def aZ.v (a:aZ):Value:=.agg #[.int .i64 a.fI,.int .i64 a.cell,.int .i64 a.cL,.int .u64 a.fi,.int .u64 a.put,.bool a.done]
def aZ.cells (a:aZ):List Value:=[.int .i64 a.fI,.int .i64 a.cell,.int .i64 a.cL,.int .u64 a.fi,.int .u64 a.put,.bool a.done]
def aZ.zero:aZ:=⟨0,0,0,0,0,false⟩
def ju (M:Nat->List Int) (cell:Int):List Int:=if 1<=cell/\cell<=8 then M (cell-1).toNat else []
def setRow (M:Nat->List Int) (cell cL v:Int):Nat->List Int:=λk=>if k=(cell-1).toNat then (M k).set cL.toNat v else M k
def eR (M:Nat->List Int) (cell cL:Int):Bool:=decide (0<=cL/\cL<(ju M cell).length)
def eU (M:Nat->List Int) (fI cell cL:Int) (g:Int->Int×Bool):aZ:=
 if eR M cell cL=true then
  let fi:=(ju M cell).getD cL.toNat 0
  ⟨fI,cell,cL,fi,if (g fi).2=true then (g fi).1 else fi,(g fi).2⟩
 else aZ.zero
def pF (M:Nat->List Int) (cell cL:Int):Int:=if eR M cell cL=true then 0 else 60
def Vc (M:Nat->List Int) (fI cell cL:Int) (g:Int->Int×Bool):Value:=.tuple #[(eU M fI cell cL g).v,.int .i64 (pF M cell cL)]
def kX (M:Nat->List Int) (cell cL:Int) (g:Int->Int×Bool):Nat->List Int:=
 if eR M cell cL=true/\(g ((ju M cell).getD cL.toNat 0)).2=true then setRow M cell cL (g ((ju M cell).getD cL.toNat 0)).1 else M
def bk:List Value:=[.int .i64 0,.int .i64 0,.int .i64 0,.int .u64 0,.int .u64 0,.bool false]
theorem pQ (pb:Nat) (M:Nat->List Int) (fI cell cL:Int) (fc:FuncId) (fs cs:Array Value) (C:HP) (g:Int->Int×Bool)
 (kJ:∀dT,pJ qa fc (fs.toList++.int .u64 dT::cs.toList) C (λv=>De (v=.tuple #[.int .u64 (g dT).1,.bool (g dT).2])*C)) :
 pJ qa 159 [.pointer (some ⟨pb,0,none⟩),.int .i64 fI,.int .i64 cell,.int .i64 cL,.func (.func fc) fs cs] (eG pb M*C)
  (λv=>De (v=Vc M fI cell cL g)*(eG pb (kX M cell cL g)*C)):=by
 intro A F Lb hS;refine aN Tryz.func159 λhw=>?_;rw [HP.cQ] at hS;obtain⟨r,vs,hS⟩:=eG.open hS;have VL:=hS.bp;have kZ:bB A (gG .i64 r (xK vs)*(pt pb (.cells [.map (some r)] true 1)*(kV (λk=>av .u64 (vs k) (M k)) 8*(C*F)))):=hS.dZ (by ac_rfl);obtain⟨sf,xR,vE,S6,yr,Xo⟩:=gG.eJ kZ;obtain⟨np,np'⟩:=hw.dT VL;obtain⟨nr,nr'⟩:=hw.dT xR;by_cases hcell:1<=cell/\cell<=8
 . obtain⟨k,hk⟩:∃k,k=(cell-1).toNat:=⟨_,rfl⟩;have bV:ju M cell=M k:=(by rw [hk];exact aA hcell);have CJ:=vE .i64 cell (vs k) (by simp [xK,hcell,hk]);obtain⟨q,CJ⟩:=CJ;have hk8:k<8:=(by omega)
   have zl:bB A (av .u64 (vs k) (M k)*(kV (s8 (λk=>av .u64 (vs k) (M k)) k eZ) 8*(pt pb (.cells [.map (some r)] true 1)*(gG .i64 r (xK vs)*(C*F))))):=
    bB.pick (f:=λk=>av .u64 (vs k) (M k)) (F:=pt pb (.cells [.map (some r)] true 1)*(gG .i64 r (xK vs)*(C*F))) (hS.dZ (by ac_rfl)) hk8
   by_cases xQ:0<=cL/\cL<(M k).length
   . have Yv:eR M cell cL=true:=by simpa [eR,bV] using xQ
     obtain⟨j,hj⟩:∃j,j=cL.toNat:=⟨_,rfl⟩;have CK:j<(M k).length:=(by omega);have Y1:cL=(j:Int):=(by omega);subst Y1;have YX:(j:Int)<(M k).length:=(by omega);obtain⟨b,off,c,b8,hv,hc0,yp,Y9,rN,_⟩:=av.at zl CK;rw [hv] at CJ;have NE:(ju M cell).getD (j:Int).toNat 0=(M k)[j]:=(by rw [bV,<-hj,ql,qk CK];rfl);obtain⟨nb,WT⟩:=hw.dT yp;revert hS hw;clear hS;refine W cF (xY VL xR yp Y9 CJ np np' nr nr' nb WT YX CK bE) ?_<;>(unhygienic intros)
     have iY:bB (A.alloc (.cells bk true 1)) (C*(pt A.next (.cells bk true 1)*(av .u64 (vs k) (M k)*(kV (s8 (λk=>av .u64 (vs k) (M k)) k eZ) 8*(pt pb (.cells [.map (some r)] true 1)*(gG .i64 r (xK vs)*F)))))):=
      (zl.alloc hw _).dZ (by ac_rfl)
     refine(kJ _).use (hw.alloc _) iY rfl ?_;intro v A2 zO kc _;obtain⟨rfl,AQ⟩:=zO.rt;clear zO;have yr:bB A2 (av .u64 (vs k) (M k)*(pt A.next (.cells bk true 1)*(C*(kV (s8 (λk=>av .u64 (vs k) (M k)) k eZ) 8*(pt pb (.cells [.map (some r)] true 1)*(gG .i64 r (xK vs)*F)))))):=AQ.dZ (by ac_rfl);have hgx:=(show bB A2 (pt A.next (.cells bk true 1)*(av .u64 (vs k) (M k)*(C*(kV (s8 (λk=>av .u64 (vs k) (M k)) k eZ) 8*(pt pb (.cells [.map (some r)] true 1)*(gG .i64 r (xK vs)*F)))))) from AQ.dZ (by ac_rfl)).bp;clear yp Y9 rN;obtain⟨b',off',c',X3,hv',_,yp,Y9,rN,j5⟩:=av.at yr CK;rw [hv] at hv';injection hv' with e1 e2 e3;injection e1 with e1;injection e1 with e1 e4;subst e1;subst e4;subst e3;have gT:(b=A.next)=False:=nb;have hne':(A.next=b)=False:=eq_false λe=>by rw [e] at gT;simp at gT
     have bS:∀(A3:AW) (L:List Int) (x:dQ),bB A3 (av .u64 (vs k) L*(pt A.next (.cells bk true 1)*(C*(kV (s8 (λk=>av .u64 (vs k) (M k)) k eZ) 8*(pt pb (.cells [.map (some r)] true 1)*(gG .i64 r (xK vs)*F))))))->
      bB (A3.set A.next (some x)) (eG pb (λq=>if q=k then L else M q)*(C*F)):=by
      intro A3 L x h;have h1:bB A3 (pt A.next (.cells bk true 1)*(av .u64 (vs k) L*(kV (s8 (λk=>av .u64 (vs k) (M k)) k eZ) 8*(pt pb (.cells [.map (some r)] true 1)*(gG .i64 r (xK vs)*(C*F)))))):=h.dZ (by ac_rfl);have h2:=bB.put (f:=λk=>av .u64 (vs k) (M k)) (h1.set x).right hk8;have e:s8 (λk=>av .u64 (vs k) (M k)) k (av .u64 (vs k) L)=λq=>av .u64 (vs q) (if q=k then L else M q):=by
       funext q;simp only [s8];split;rename_i e;rw [e];rfl
      rw [e] at h2;exact eG.dP (r:=r) (vs:=vs) (h2.dZ (by ac_rfl))
     have hbnd:off+j+1<=X3.length:=(by omega);have mg:Vc M fI cell (j:Int) g=.tuple #[(aZ.mk fI cell j (M k)[j] (if (g (M k)[j]).2=true then (g (M k)[j]).1 else (M k)[j]) (g (M k)[j]).2).v,.int .i64 0]:=by
      unfold Vc eU pF;rw [aA Yv,aA Yv,NE]
     cases NF:(g (M k)[j]).2
     . repeat' (first|(refine kY λR hR=>?_;simp [ar,ax,hgx,yp,Y9,gT,hne',AW.ab,aG,YX,CK,bk,NF];try simp (disch:=omega) only [aA,aw,ar,ax])|(refine hR _ _ ?_;clear hR R)|(refine hK _ _ ?_;clear hK K)|refine nx ?_|refine wn λK hK=>?_|simp only [wS]|(show c8 _ _ _ _ _ _;refine nx ?_)|(refine wc rfl (λhc=>?_) (λhc=>?_)<;>(try simp at hc)<;>(try omega))|(refine ib (λhc=>?_) (λhc=>?_)<;>(try omega)<;>(try simp (disch:=omega) only [aA,aw])))
       refine⟨_,by simp [AW.dt,AW.df,AW.ab,aG];rfl,bB.post (by simp [mg,aZ.v,NF]) ?_⟩;have hM:kX M cell (j:Int) g=λq=>if q=k then M k else M q:=by
        funext q;simp only [kX,NE,NF];simp only [qt,and_false,if_false];split;rename_i e;rw [e];rfl
       rw [hM,HP.cQ];exact bS A2 (M k) _ yr
     have hcb':(X3.set (off+j) (Value.int .u64 (g (M k)[j]).1))[off+j]? = some (Value.int .u64 (g (M k)[j]).1):=Zd (by omega);refine W cF (xe hgx yp Y9 hcb' gT hne' hbnd YX CK NF bE @bk.eq_1) ?_<;>intros;refine⟨_,by simp [AW.dt,AW.df,AW.ab,aG];rfl,bB.post (by simp [mg,aZ.v,NF]) ?_⟩;have hM:kX M cell (j:Int) g=λq=>if q=k then (M k).set j (g (M k)[j]).1 else M q:=by
      have e0:kX M cell (j:Int) g=setRow M cell j (g (M k)[j]).1:=(by unfold kX;rw [NE,aA ⟨Yv,NF⟩]);rw [e0];funext q;simp only [setRow,<-hk,<-hj];by_cases e:q=k;rw [aA e,aA e,e];rw [aw e,aw e]
     rw [hM,HP.cQ];exact bS _ _ _ (j5 _)
   obtain⟨o,c,hv,_⟩:=(av.is zl).cy;rw [hv] at CJ;have AJ:eR M cell cL=false:=by simpa [eR,bV] using xQ
   repeat' (first|(refine kY λR hR=>?_;simp [ar,ax,VL,xR,CJ,np,np',nr,nr',AW.ab,aG,xQ];try simp (disch:=omega) only [aA,aw,ar,ax])|(refine hR _ _ ?_;clear hR R)|(refine hK _ _ ?_;clear hK K)|refine nx ?_|refine wn λK hK=>?_|simp only [wS]|(show c8 _ _ _ _ _ _;refine nx ?_)|(refine wc rfl (λhc=>?_) (λhc=>?_)<;>(try simp at hc)<;>(try omega))|(refine ib (λhc=>?_) (λhc=>?_)<;>(try omega)<;>(try simp (disch:=omega) only [aA,aw])))
   all_goals
    refine⟨_,by simp [AW.dt,AW.df,AW.ab,aG];rfl,bB.post (by simp [Vc,eU,pF,AJ,aZ.v,aZ.zero]) ?_⟩;have hM:kX M cell cL g=M:=(by simp [kX,AJ]);rw [hM,HP.cQ];exact(eG.dP hS).le hw (((qb A _).set (Nat.le_refl _) _))
 have CJ:=S6 .i64 cell (by simp [xK,hcell]);have bV:ju M cell=[]:=aw hcell;have AJ:eR M cell cL=false:=by simp [eR,bV]
 repeat' (first|(refine kY λR hR=>?_;simp [ar,ax,VL,xR,CJ,np,np',nr,nr',AW.ab,aG];try simp (disch:=omega) only [aA,aw,ar,ax])|(refine hR _ _ ?_;clear hR R)|(refine hK _ _ ?_;clear hK K)|refine nx ?_|refine wn λK hK=>?_|simp only [wS]|(show c8 _ _ _ _ _ _;refine nx ?_)|(refine wc rfl (λhc=>?_) (λhc=>?_)<;>(try simp at hc)<;>(try omega))|(refine ib (λhc=>?_) (λhc=>?_)<;>(try omega)<;>(try simp (disch:=omega) only [aA,aw])))
 all_goals first
  | (exfalso;omega)
  | (refine ⟨_,(by simp [AW.dt,AW.df,AW.ab,aG];rfl),bB.post (by simp [Vc,eU,pF,AJ,aZ.v,aZ.zero]) ?_⟩
     have hM:kX M cell cL g=M:=(by simp [kX,AJ]);rw [hM,HP.cQ];exact(eG.dP hS).le hw (((qb A _).set (Nat.le_refl _) _)))
end
section
namespace TWord
theorem mK [Gl] {A:AW} {L:List It} {T:Prop} (hS:ah A L) (hw:A.Wf) (h':(aV A L/\bq A L/\bQ L)=T:=by first|(dsimp only [aa,af,aV,bq,bQ,eQ];done)|exact rfl):T:=h'▸hS.eJ hw
end TWord
open TWord
variable [Gl]
def kF (v:Int):Int:=if 0<=v/\v<=1099511627776 then v*64 else 0
def gr (o:Int):Int:=qg.wrap (qd.wrap (o.tdiv 64))
def ng (o:Int):Int:=qg.wrap (qg.wrap (o.tmod 64)-1)
def rP (WL PN:Int):Int:=if 0<=WL/\WL<281474976710656/\-1<=PN/\PN<64 then WL*65536+(PN+1) else 0
def RS (h:Int):Int:=qg.wrap (qd.wrap (h.tdiv 65536))
def jn (h:Int):Int:=qg.wrap (qg.wrap (h.tmod 65536)-1)
def oU (h PN:Int):Int:=rP ((qg.wrap (RS h+1)).tmod 281474976710656) PN
theorem Hn (v:Int) (A:AW):aD qa 239 [.int .i64 v] A (λu A'=>u=.bool (decide (0<=v/\v<=1099511627776))/\A=A'):=by
 refine aN Tryz.func239 λhw=>?_;refine W cF cF (J2 ?_ ?_)<;>intros
 all_goals(simp_all<;>omega)
theorem MU (v:Int) (A:AW):aD qa 197 [.int .i64 v] A (λu A'=>(∃e,u=.tuple #[.int .u64 (kF v),.int .i64 e])/\A=A'):=by
 refine aN Tryz.func197 λhw=>?_;by_cases h1:0<=v/\v<=1099511627776
 . refine W (J1 @Hn) (J1 h1) ?_<;>intros
   all_goals exact⟨_,by first|(simp;done)|(simp;rfl),⟨_,by simp [kF,h1];first|done|rfl⟩,rfl⟩
 refine W (J1 @Hn) (J1 h1) ?_<;>intros
 all_goals exact⟨_,by first|(simp;done)|(simp;rfl),⟨_,by simp [kF,h1];first|done|rfl⟩,rfl⟩
theorem yf (o:Int) (A:AW):aD qa 233 [.int .u64 o] A (λv A'=>v=.int .i64 (gr o)/\A=A'):=by
 refine aN Tryz.func233 λhw=>?_;refine W cF cF ?_<;>intros;simp [gr]
theorem Ak (o:Int) (A:AW):aD qa 232 [.int .u64 o] A (λv A'=>v=.int .i64 (ng o)/\A=A'):=by
 refine aN Tryz.func232 λhw=>?_;refine W cF cF ?_<;>intros;simp [ng]
theorem nV (WL PN:Int) (A:AW):aD qa 77 [.int .i64 WL,.int .i64 PN] A (λu A'=>(∃e,u=.tuple #[.int .u64 (rP WL PN),.int .i64 e])/\A=A'):=by
 refine aN Tryz.func77 λhw=>?_;by_cases h1:0<=WL<;>by_cases h2:WL<281474976710656<;>by_cases h3:-1<=PN<;>by_cases h4:PN<64
 all_goals
  all_goals(revert hw;refine W cF (J4 h1 h2 h3 h4) (J9 ?_ ?_ ?_ ?_ ?_ ?_ ?_ ?_ ?_)<;>(try exact trivial)<;>unhygienic intros)
  all_goals exact⟨_,by first|(simp;done)|(simp;rfl),⟨_,by simp [rP,h1,h2,h3,h4];first|done|rfl⟩,rfl⟩
theorem P9 (h:Int) (A:AW):aD qa 230 [.int .u64 h] A (λv A'=>v=.int .i64 (RS h)/\A=A'):=by
 refine aN Tryz.func230 λhw=>?_;refine W cF cF ?_<;>intros;simp [RS]
theorem Hq (h:Int) (A:AW):aD qa 163 [.int .u64 h] A (λv A'=>v=.int .i64 (jn h)/\A=A'):=by
 refine aN Tryz.func163 λhw=>?_;refine W cF cF ?_<;>intros;simp [jn]
theorem Em (h PN:Int) (A:AW):aD qa 164 [.int .u64 h,.int .i64 PN] A (λu A'=>(∃e,u=.tuple #[.int .u64 (oU h PN),.int .i64 e])/\A=A'):=by
 refine aN Tryz.func164 λhw=>?_;revert hw;refine W (J1 @P9) trivial ?_<;>(unhygienic intros);refine bO (nV _ _ _) ?_;rintro _ _ ⟨⟨e,rfl⟩,rfl⟩ _ _;refine W cF cF ?_<;>intros;exact⟨_,by first|(simp;done)|(simp;rfl),⟨e,by simp [oU]⟩,rfl⟩
theorem Gj (o:Int) (A:AW):aD qa 19 [.int .u64 o] A (λv A'=>v=.int .i64 (gr o)/\A=A'):=by
 refine aN Tryz.func19 λhw=>?_;refine W cF cF ?_<;>intros;simp [gr]
end
section
namespace TCfg
theorem mK [Gl] {A:AW} {L:List It} {T:Prop} (hS:ah A L) (hw:A.Wf) (h':(aV A L/\bq A L/\bQ L)=T:=by first|(dsimp only [aa,af,aV,bq,bQ,eQ];done)|exact rfl):T:=h'▸hS.eJ hw
end TCfg
open TCfg
variable [Gl]
structure br where
 be:Int
 ao:Int
 base:Int
 c0:Int
 c1:Int
 c2:Int
 c3:Int
 reads:Int
 bP:Int
 an:Int
 ay:Int
 aB:Int
 aW:Bool
def br.v (c:br):Value:=.agg #[.int .i64 c.be,.int .i64 c.ao,.int .i64 c.base,.int .i64 c.c0,.int .i64 c.c1,.int .i64 c.c2,.int .i64 c.c3,.int .i64 c.reads,.int .i64 c.bP,.int .i64 c.an,.int .i64 c.ay,.int .i64 c.aB,.bool c.aW]
def br.cells (c:br):List Value:=[.int .i64 c.be,.int .i64 c.ao,.int .i64 c.base,.int .i64 c.c0,.int .i64 c.c1,.int .i64 c.c2,.int .i64 c.c3,.int .i64 c.reads,.int .i64 c.bP,.int .i64 c.an,.int .i64 c.ay,.int .i64 c.aB,.bool c.aW]
def br.nb (c:br):Int:=c.c0+c.c1+c.c2+c.c3
def br.hw (c:br):Int:=c.c0+c.c1*2+c.c2*4+c.c3*8
structure cX (c:br):Prop where
 be:1<=c.be/\c.be<=64
 ao:1<=c.ao/\c.ao<=64
 k0:0<=c.c0/\c.c0<=64
 k1:0<=c.c1/\c.c1<=64
 k2:0<=c.c2/\c.c2<=64
 k3:0<=c.c3/\c.c3<=64
 nb:c.nb<=64
 base:0<=c.base/\c.base<=c.be
 fit:c.hw<=c.be-c.base
 reads:1<=c.reads/\c.reads<=32
 bP:1<=c.bP/\c.bP<=32
 an:0<=c.an/\c.an<=8
 ay:0<=c.ay/\c.ay<=8
 aB:0<=c.aB/\c.aB<=1099511627776
theorem JV (n lo hi:Int) (A:AW):aD qa 56 [.int .i64 n,.int .i64 lo,.int .i64 hi] A (λv A'=>v=.bool (decide (lo<=n/\n<=hi))/\A=A'):=by
 refine aN Tryz.func56 λ_=>?_;refine W cF cF (J2 ?_ ?_)<;>intros
 all_goals(simp_all<;>omega)
end
section
variable [Gl]
def kE (o:Int):Int×Bool:=(o,true)
def fo (v:Int) (_:Int):Int×Bool:=(v,true)
def jW (dT v:Int) (o:Int):Int×Bool:=(v,decide (o=dT))
def GM (v:Int) (o:Int):Int×Bool:=(qd.wrap (o+v),true)
abbrev Mm:=Nat->List Int
def iA (M:Mm) (cell cL:Int):aZ:=eU M 1 cell cL kE
def Do (M:Mm) (cell cL v:Int):aZ:=eU M 2 cell cL (fo v)
def F6 (M:Mm) (cell cL dT v:Int):aZ:=eU M 3 cell cL (jW dT v)
def FY (M:Mm) (cell cL v:Int):aZ:=eU M 4 cell cL (GM v)
def yb (M:Mm) (cell cL v:Int):Mm:=kX M cell cL (fo v)
def UY (M:Mm) (cell cL dT v:Int):Mm:=kX M cell cL (jW dT v)
def Wy (M:Mm) (cell cL v:Int):Mm:=kX M cell cL (GM v)
structure iv where
 aj:Int
 bW:Int
 aB:Int
def iv.Gh (s:iv):Int:=if s.bW<=1 then -1 else qg.wrap s.aB
def gl (s:iv) (M:Mm):aZ×iv×Mm:=
 if s.bW=0 then (Do M 6 s.aj 1,{ s with bW:=1 },yb M 6 s.aj 1)
 else if s.bW=1 then (iA M 3 0,{ s with bW:=2,aB:=(iA M 3 0).fi },M)
 else if s.bW=2 then (Do M 6 s.aj (qd.wrap (s.aB+2)),{ s with bW:=3 },yb M 6 s.aj (qd.wrap (s.aB+2)))
 else (aZ.zero,s,M)
structure iG where
 jk:Bool
 dx:Int
 done:Bool
def iG.fY (s:iG):Int:=if s.jk=true then qg.wrap s.dx else -1
def gI (s:iG) (M:Mm):aZ×iG×Mm:=
 if s.done=true then (aZ.zero,s,M)
 else if s.jk=false then (FY M 4 0 1,{ s with jk:=true,dx:=(FY M 4 0 1).fi },Wy M 4 0 1)
 else (iA M 5 0,{ s with done:=decide ((iA M 5 0).fi=s.dx) },M)
def pE (dx:Int):Int:=qd.wrap (qd.wrap dx+1)
structure pw where
 eE:Int
 bW:Int
 head:Int
 next:Int
 block:Int
def gg (s:pw) (M:Mm):aZ×pw×Mm:=
 if s.bW=0 then (iA M 7 s.eE,{ s with head:=(iA M 7 s.eE).fi,bW:=if jn (iA M 7 s.eE).fi<0 then 3 else 1 },M)
 else if s.bW=1 then (iA M 8 (jn s.head),{ s with next:=(iA M 8 (jn s.head)).fi,bW:=2 },M)
 else if s.bW=2 then
  let w:=oU s.head (qg.wrap (qg.wrap s.next-1))
  (F6 M 7 s.eE s.head w,if (F6 M 7 s.eE s.head w).done=true then { s with bW:=3,block:=jn s.head } else { s with bW:=0 },UY M 7 s.eE s.head w)
 else (aZ.zero,s,M)
structure fK where
 eE:Int
 block:Int
 bW:Int
 head:Int
def dD (s:fK) (M:Mm):aZ×fK×Mm:=
 if s.bW=0 then (iA M 7 s.eE,{ s with head:=(iA M 7 s.eE).fi,bW:=1 },M)
 else if s.bW=1 then
  let w:=qd.wrap (qg.wrap (jn s.head+1))
  (Do M 8 s.block w,{ s with bW:=2 },yb M 8 s.block w)
 else if s.bW=2 then
  let w:=oU s.head s.block
  (F6 M 7 s.eE s.head w,{ s with bW:=if (F6 M 7 s.eE s.head w).done=true then 3 else 0 },UY M 7 s.eE s.head w)
 else (aZ.zero,s,M)
structure iI where
 dJ:Int
 ig:Int
 rv:Int
 bW:Int
 dF:Int
 value:Int
 iu:Bool
def iI.done (s:iI):Bool:=decide (s.bW=3)
def iI.val (s:iI):Int:=if s.bW=3/\s.iu=false then s.value else 0
def dC (s:iI) (M:Mm):aZ×iI×Mm:=
 if s.bW=0 then
  let a:=iA M 2 s.ig
  (a,if ng a.fi≥0\/gr a.fi>s.rv then { s with dF:=a.fi,iu:=true,bW:=3 } else { s with dF:=a.fi,bW:=1 },M)
 else if s.bW=1 then (iA M 1 s.dJ,{ s with value:=(iA M 1 s.dJ).fi,bW:=2 },M)
 else if s.bW=2 then (iA M 2 s.ig,{ s with iu:=decide ((iA M 2 s.ig).fi≠s.dF),bW:=3 },M)
 else (aZ.zero,s,M)
structure iw where
 ao:List Int
 rv:Int
 jG:Bool
def iw.done (s:iw):Bool:=s.jG || decide (s.ao.length=0)
def gm (s:iw) (M:Mm):aZ×iw×Mm:=
 if s.done=true then (aZ.zero,s,M)
 else (iA M 2 (s.ao.getD 0 0),{ s with ao:=s.ao.tail,jG:=decide (gr (iA M 2 (s.ao.getD 0 0)).fi>s.rv) },M)
end
section
abbrev Vh:List (Nat×Nat):=[(0,0),(1,0),(2,0),(3,0),(4,0),(5,0)]
namespace TMemO
theorem mK [Gl] {A:AW} {L:List It} {T:Prop} (hS:ah A L) (hw:A.Wf) (h':(aV A L/\bq A L/\bQ L)=T:=by first|(dsimp only [aa,af,aV,bq,bQ,eQ];done)|exact rfl):T:=h'▸hS.eJ hw
end TMemO
open TMemO
variable [Gl]
theorem Si {M:Nat->List Int} {cell cL:Int} {g:Int->Int×Bool} (h:∀o,(g o).2=true->(g o).1=o):kX M cell cL g=M:=by
 unfold kX;split;rename_i hc;funext k;simp only [setRow];split;rename_i e;rw [h _ hc.2];have hh:1<=cell/\cell<=8:=by
  have:=hc.1;simp only [eR,ju] at this;split at this;assumption;simp at this;omega
 have hr:ju M cell=M k:=by rw [e];exact aA hh
 have hi:0<=cL/\cL<(M k).length:=by
  have:=hc.1;rw [eR,hr] at this
  simpa using this
 rw [hr];apply List.ext_getElem?;intro q;by_cases eq:cL.toNat=q;subst eq;rw [Zd (by omega),ql,qk (by omega)];rfl;rw [List.getElem?_set_ne eq];rfl;rfl
theorem Na (dT:Int):pJ qa 160 [.int .u64 dT] eZ (λv=>De (v=.tuple #[.int .u64 (kE dT).1,.bool (kE dT).2])*eZ):=by
 intro A F hw hS;refine aN Tryz.func160 λ_=>?_;revert hS hw;refine W cF cF ?_<;>(unhygienic intros);exact⟨_,rfl,bB.post rfl hS⟩
theorem Kf (b:Nat) (x dT:Int):pJ qa 202 [.int .u64 dT,.pointer (some ⟨b,0,none⟩)] (pt b (.cells [.int .u64 x] true 1))
 (λv=>De (v=.tuple #[.int .u64 (fo x dT).1,.bool (fo x dT).2])*pt b (.cells [.int .u64 x] true 1)):=by
 intro A F hw hS;refine aN Tryz.func202 λ_=>?_;have hg:=hS.bp;revert hS hw;refine W cF (J2 hg @AW.ab) ?_<;>(unhygienic intros);exact⟨_,rfl,bB.post rfl hS⟩
theorem Mt (b c:Nat) (x y dT:Int):pJ qa 231 [.int .u64 dT,.pointer (some ⟨b,0,none⟩),.pointer (some ⟨c,0,none⟩)]
 (pt b (.cells [.int .u64 x] true 1)*pt c (.cells [.int .u64 y] true 1))
 (λv=>De (v=.tuple #[.int .u64 (jW y x dT).1,.bool (jW y x dT).2])*(pt b (.cells [.int .u64 x] true 1)*pt c (.cells [.int .u64 y] true 1))):=by
 intro A F hw hS;refine aN Tryz.func231 λ_=>?_;rw [HP.cQ] at hS;have hg:=hS.bp;have NF:=hS.right.bp;revert hS hw;refine W (J1 (od Vh)) (J3 hg NF @AW.ab) ?_<;>(unhygienic intros);exact⟨_,rfl,bB.post (by simp [jW]) (by rw [HP.cQ];exact hS)⟩
theorem KO (pb:Nat) (M:Nat->List Int) (cell cL:Int) :
 pJ qa 108 [.pointer (some ⟨pb,0,none⟩),.int .i64 cell,.int .i64 cL] (eG pb M)
  (λv=>De (v=.tuple #[(eU M 1 cell cL kE).v,.int .i64 (pF M cell cL)])*eG pb M):=by
 intro A F hw hS;refine aN Tryz.func108 λ_=>?_;revert hS hw;refine W cF cF ?_<;>(unhygienic intros);have iY:bB (A.alloc (.cells bk true 1)) ((eG pb M*eZ)*(pt A.next (.cells bk true 1)*F)):=by
  rw [dO];exact(hS.alloc hw _).dZ (by ac_rfl)
 refine(pQ pb M 1 cell cL _ #[] #[] eZ kE Na).use (hw.alloc _) iY rfl ?_;intro v A2 kZ kc _;obtain⟨rfl,yr⟩:=kZ.rt;clear kZ;rw [dO,Si (by intro o _;rfl)] at yr;have zl:bB A2 (pt A.next (.cells bk true 1)*(eG pb M*F)):=yr.dZ (by ac_rfl);have hg:=zl.bp;refine W cF (J5 hg bE @bk.eq_1 @Vc.eq_1 @aZ.v.eq_1) ?_<;>intros;exact⟨_,by simp [AW.dt,AW.df,AW.ab,aG,aZ.v];rfl,bB.post (by simp [aZ.v]) (zl.set _).right⟩
theorem tX (pb:Nat) (M:Nat->List Int) (cell cL x:Int) :
 pJ qa 124 [.pointer (some ⟨pb,0,none⟩),.int .i64 cell,.int .i64 cL,.int .u64 x] (eG pb M)
  (λv=>De (v=.tuple #[(eU M 2 cell cL (fo x)).v,.int .i64 (pF M cell cL)])*eG pb (kX M cell cL (fo x))):=by
 intro A F hw hS;refine aN Tryz.func124 λ_=>?_;revert hS hw;refine W cF cF ?_<;>(unhygienic intros);have jx:=hw.alloc (.cells [.int .u64 x] true 1)
 have iY:bB ((A.alloc (.cells [.int .u64 x] true 1)).alloc (.cells bk true 1)) ((eG pb M*pt A.next (.cells [.int .u64 x] true 1))*(pt (A.next+1) (.cells bk true 1)*F)):=
  ((hS.alloc hw (.cells [.int .u64 x] true 1)).alloc jx (.cells bk true 1)).dZ (by simp only [AW.bd];ac_rfl)
 refine(pQ pb M 2 cell cL _ #[] #[.pointer (some ⟨A.next,0,none⟩)] _ (fo x) (Kf A.next x)).use (jx.alloc _) iY rfl ?_;intro v A2 kZ kc _;obtain⟨rfl,yr⟩:=kZ.rt;clear kZ;have zl:bB A2 (pt (A.next+1) (.cells bk true 1)*(pt A.next (.cells [.int .u64 x] true 1)*(eG pb (kX M cell cL (fo x))*F))):=yr.dZ (by ac_rfl);have hg:=zl.bp;refine W cF (J5 hg bE @bk.eq_1 @Vc.eq_1 @aZ.v.eq_1) ?_<;>intros;exact⟨_,by simp [AW.dt,AW.df,AW.ab,aG,aZ.v];rfl,bB.post (by simp [aZ.v]) (zl.set _).right.right⟩
theorem KN (pb:Nat) (M:Nat->List Int) (cell cL x y:Int) :
 pJ qa 165 [.pointer (some ⟨pb,0,none⟩),.int .i64 cell,.int .i64 cL,.int .u64 x,.int .u64 y] (eG pb M)
  (λv=>De (v=.tuple #[(eU M 3 cell cL (jW x y)).v,.int .i64 (pF M cell cL)])*eG pb (kX M cell cL (jW x y))):=by
 intro A F hw hS;refine aN Tryz.func165 λ_=>?_;revert hS hw;refine W cF cF ?_<;>(unhygienic intros);have jx:=hw.alloc (.cells [.int .u64 x] true 1);have kc:=jx.alloc (.cells [.int .u64 y] true 1)
 have iY:bB (((A.alloc (.cells [.int .u64 x] true 1)).alloc (.cells [.int .u64 y] true 1)).alloc (.cells bk true 1))
  ((eG pb M*(pt (A.next+1) (.cells [.int .u64 y] true 1)*pt A.next (.cells [.int .u64 x] true 1)))*(pt (A.next+1+1) (.cells bk true 1)*F)):=
  (((hS.alloc hw (.cells [.int .u64 x] true 1)).alloc jx (.cells [.int .u64 y] true 1)).alloc kc (.cells bk true 1)).dZ (by simp only [AW.bd];ac_rfl)
 refine(pQ pb M 3 cell cL _ #[] #[.pointer (some ⟨A.next+1,0,none⟩),.pointer (some ⟨A.next,0,none⟩)] _ (jW x y) (Mt (A.next+1) A.next y x)).use (kc.alloc _) iY rfl ?_;intro v A2 kZ FU _;obtain⟨rfl,yr⟩:=kZ.rt;clear kZ;have zl:bB A2 (pt (A.next+1+1) (.cells bk true 1)*(pt A.next (.cells [.int .u64 x] true 1)*(pt (A.next+1) (.cells [.int .u64 y] true 1)*(eG pb (kX M cell cL (jW x y))*F)))):=yr.dZ (by ac_rfl);have hg:=zl.bp;refine W cF (J5 hg bE @bk.eq_1 @Vc.eq_1 @aZ.v.eq_1) ?_<;>intros;exact⟨_,by simp [AW.dt,AW.df,AW.ab,aG,aZ.v];rfl,bB.post (by simp [aZ.v]) (zl.set _).right.right.right⟩
theorem Q7 (b:Nat) (x dT:Int):pJ qa 252 [.int .u64 dT,.pointer (some ⟨b,0,none⟩)] (pt b (.cells [.int .u64 x] true 1))
 (λv=>De (v=.tuple #[.int .u64 (GM x dT).1,.bool (GM x dT).2])*pt b (.cells [.int .u64 x] true 1)):=by
 intro A F hw hS;refine aN Tryz.func252 λ_=>?_;have hg:=hS.bp;revert hS hw;refine W cF (J2 hg @AW.ab) ?_<;>(unhygienic intros);exact⟨_,by first|(simp;done)|(simp;rfl),bB.post (by simp [GM]) hS⟩
theorem Vl (pb:Nat) (M:Nat->List Int) (cell cL x:Int) :
 pJ qa 236 [.pointer (some ⟨pb,0,none⟩),.int .i64 cell,.int .i64 cL,.int .u64 x] (eG pb M)
  (λv=>De (v=.tuple #[(eU M 4 cell cL (GM x)).v,.int .i64 (pF M cell cL)])*eG pb (kX M cell cL (GM x))):=by
 intro A F hw hS;refine aN Tryz.func236 λ_=>?_;revert hS hw;refine W cF cF ?_<;>(unhygienic intros);have jx:=hw.alloc (.cells [.int .u64 x] true 1)
 have iY:bB ((A.alloc (.cells [.int .u64 x] true 1)).alloc (.cells bk true 1)) ((eG pb M*pt A.next (.cells [.int .u64 x] true 1))*(pt (A.next+1) (.cells bk true 1)*F)):=
  ((hS.alloc hw (.cells [.int .u64 x] true 1)).alloc jx (.cells bk true 1)).dZ (by simp only [AW.bd];ac_rfl)
 refine(pQ pb M 4 cell cL _ #[] #[.pointer (some ⟨A.next,0,none⟩)] _ (GM x) (Q7 A.next x)).use (jx.alloc _) iY rfl ?_;intro v A2 kZ kc _;obtain⟨rfl,yr⟩:=kZ.rt;clear kZ;have zl:bB A2 (pt (A.next+1) (.cells bk true 1)*(pt A.next (.cells [.int .u64 x] true 1)*(eG pb (kX M cell cL (GM x))*F))):=yr.dZ (by ac_rfl);have hg:=zl.bp;refine W cF (J5 hg bE @bk.eq_1 @Vc.eq_1 @aZ.v.eq_1) ?_<;>intros;exact⟨_,by simp [AW.dt,AW.df,AW.ab,aG,aZ.v];rfl,bB.post (by simp [aZ.v]) (zl.set _).right.right⟩
def dN (pb:Nat) (M:Mm):It:=.h (eG pb M)
theorem lj (pb:Nat) (M:Mm):aM [dN pb M]=eG pb M:=by show eG pb M*eZ=_;rw [dO]
theorem SN (pb:Nat) (M:Mm) (cell cL:Int):bn qa 108 [.pointer (some ⟨pb,0,none⟩),.int .i64 cell,.int .i64 cL] [dN pb M]
 (λv=>v=.tuple #[(iA M cell cL).v,.int .i64 (pF M cell cL)]) (λ_=>[dN pb M]):=
 bn.rH (KO pb M cell cL) (lj pb M) λv=>by rw [lj];rfl
theorem stL (pb:Nat) (M:Mm) (cell cL x:Int):bn qa 124 [.pointer (some ⟨pb,0,none⟩),.int .i64 cell,.int .i64 cL,.int .u64 x] [dN pb M]
 (λv=>v=.tuple #[(Do M cell cL x).v,.int .i64 (pF M cell cL)]) (λ_=>[dN pb (yb M cell cL x)]):=
 bn.rH (tX pb M cell cL x) (lj pb M) λv=>by rw [lj];rfl
theorem swL (pb:Nat) (M:Mm) (cell cL x y:Int):bn qa 165 [.pointer (some ⟨pb,0,none⟩),.int .i64 cell,.int .i64 cL,.int .u64 x,.int .u64 y] [dN pb M]
 (λv=>v=.tuple #[(F6 M cell cL x y).v,.int .i64 (pF M cell cL)]) (λ_=>[dN pb (UY M cell cL x y)]):=
 bn.rH (KN pb M cell cL x y) (lj pb M) λv=>by rw [lj];rfl
theorem adL (pb:Nat) (M:Mm) (cell cL x:Int):bn qa 236 [.pointer (some ⟨pb,0,none⟩),.int .i64 cell,.int .i64 cL,.int .u64 x] [dN pb M]
 (λv=>v=.tuple #[(FY M cell cL x).v,.int .i64 (pF M cell cL)]) (λ_=>[dN pb (Wy M cell cL x)]):=
 bn.rH (Vl pb M cell cL x) (lj pb M) λv=>by rw [lj];rfl
end
section
variable [Gl]
inductive aE:List It->It->List It->Prop where
 | z {x:It} {L:List It}:aE (x::L) x L
 | s {x y:It} {L K:List It}:aE L x K->aE (y::L) x (y::K)
 | e {x y:It} {L:List It}:x.hp=y.hp->aE (x::L) y L
inductive aX:List It->List It->List It->Prop where
 | z {L:List It}:aX L [] L
 | s {x:It} {L M J K:List It}:aE L x M->aX M J K->aX L (x::J) K
theorem aE.aM {L K:List It} {x:It} (h:aE L x K):aM L=x.hp*aM K:=by
 induction h with
 | z=>rfl
 | e h=>
   rename_i x y L;show x.hp*Stx.aM L=y.hp*Stx.aM L;rw [h]
 | s h ih=>
   rename_i x y L K;show y.hp*Stx.aM L=x.hp*(y.hp*Stx.aM K);rw [ih];ac_rfl
theorem aX.aM {L J K:List It} (h:aX L J K):aM L=aM J*aM K:=by
 induction h with
 | z=>rename_i L;show Stx.aM L=eZ*Stx.aM L;rw [iD]
 | s h1 h2 ih=>
   rename_i x L M J K;rw [h1.aM,ih];show x.hp*(Stx.aM J*Stx.aM K)=x.hp*Stx.aM J*Stx.aM K
   ac_rfl
theorem aE.JJ {b:Nat} {o o':dQ} {L:List It} (h:o=o'):aE (.at b o::L) (.at b o') L:=by rw [h];exact .z
theorem bn.ft {P:Program} {f:FuncId} {args:List Value} {rl:List It} {φ:Value->Prop} {post:Value->List It} (h:bn P f args rl φ post) {A:AW} {L K:List It} {k:Value->AW->Prop} (hw:A.Wf) (hS:ah A L) (e:aX L rl K)
 (hk:∀v A',φ v->ah A' (post v++K)->A'.Wf->A.next<=A'.next->k v A'):aD P f args A k:=by
 have rQ:ah A (rl++[.h (Stx.aM K)]):=by
  unfold ah at *;rw [e.aM] at hS;rw [gf];show bB A (Stx.aM rl*(Stx.aM K*eZ));rw [dO];exact hS
 refine bO (h A (Stx.aM K) hw rQ) ?_;rintro v A' ⟨h1,h2⟩ kI hn;refine hk v A' h1 ?_ kI hn;unfold ah at *;rw [gf] at h2 ⊢;have h3:bB A' (Stx.aM (post v)*(Stx.aM K*eZ)):=h2;rwa [dO] at h3
def d7 {ι:Type} (P:Program) (f:FuncId) (args:List Value) (rl:List It) (φ:ι->Value->Prop) (post:ι->List It):Prop:=
 ∀(A:AW) (F:HP),A.Wf->ah A (rl++[.h F])->aD P f args A λv A'=>∃x,φ x v/\ah A' (post x++[.h F])
theorem d7.ft {ι:Type} {P:Program} {f:FuncId} {args:List Value} {rl:List It} {φ:ι->Value->Prop} {post:ι->List It} (h:d7 P f args rl φ post) {A:AW} {L K:List It} {k:Value->AW->Prop} (hw:A.Wf) (hS:ah A L) (e:aX L rl K)
 (hk:∀x v A',φ x v->ah A' (post x++K)->A'.Wf->A.next<=A'.next->k v A'):aD P f args A k:=by
 have rQ:ah A (rl++[.h (aM K)]):=by
  unfold ah at *;rw [e.aM] at hS;rw [gf];show bB A (aM rl*(aM K*eZ));rw [dO];exact hS
 refine bO (h A (aM K) hw rQ) ?_;rintro v A' ⟨x,h1,h2⟩ kI hn;refine hk x v A' h1 ?_ kI hn;unfold ah at *;rw [gf] at h2 ⊢;have h3:bB A' (aM (post x)*(aM K*eZ)):=h2;rwa [dO] at h3
theorem ah.bS {A:AW} {L G K:List It} (h:ah A L) (e:aX L G K):ah A G:=by
 unfold ah at *;rw [e.aM] at h;exact h.left
theorem ah.gy {A:AW} {L K:List It} {i:Nat} {o o':dQ} (h:ah A L) (e:aE L (.at i o) K):ah (A.set i (some o')) (.at i o'::K):=by
 unfold ah at *;rw [e.aM] at h;exact bB.set h o'
theorem ah.allocR {A:AW} {L:List It} {o:dQ} (h:ah A L) (hw:A.Wf):ah (A.alloc o) (.at A.next o::L):=h.alloc hw o
theorem ah.ltR {A X:AW} {L K:List It} {i:Nat} {o:dQ} (h:ah A L) (hw:A.Wf) (e:aE L (.at i o) K) (hl:A.next<=X.next):i<X.next:=by
 unfold ah at h;rw [e.aM] at h;exact Nat.lt_of_lt_of_le (hw.lt (bB.bp h)) hl
theorem wA {A:AW} (h':A.Wf:=by first|((repeat' (first|assumption|apply AW.Wf.alloc|apply AW.Wf.set|exact Nat.le_refl _|(simp only [AW.bd,AW.rA];omega)|apply ah.ltR hS hw|apply aE.z|apply aE.s));done)|fail):A.Wf:=h'
theorem sA {A:AW} {L:List It} (h':ah A L:=by first|((repeat' (first|exact hS|exact Nat.le_refl _|with_reducible apply ah.gy|with_reducible apply ah.Uk|with_reducible apply AW.KC|with_reducible apply AW.Su|with_reducible apply ah.allocR|with_reducible apply aE.z|with_reducible apply aE.s|assumption|apply AW.Wf.alloc|apply AW.Wf.set|(simp only [AW.bd,AW.rA];omega)|apply ah.ltR hS hw|exact rfl));done)|fail):ah A L:=h'
theorem pA {L G K:List It} (h':aX L G K:=by first|((repeat' (first|apply aX.z|apply aX.s|apply aE.z|apply aE.s));done)|fail):aX L G K:=h'
theorem kA {L K:List It} {x:It} (h':aE L x K:=by first|((repeat' (first|apply aX.z|apply aX.s|apply aE.z|apply aE.s));done)|fail):aE L x K:=h'
theorem lA {A:AW} {L L':List It} (h:ah A L) (h':L=L':=by first|(dsimp only [AW.bd,aa,af];done)|exact rfl):ah A L':=h'▸h
namespace T0
theorem mK [Gl] {A:AW} {L:List It} {T:Prop} (hS:ah A L) (hw:A.Wf) (h':(aV A L/\bq A L/\bQ L)=T:=by first|(dsimp only [aa,af,aV,bq,bQ,eQ,dN,iq,jR,nL,ir,iS];done)|exact rfl):T:=h'▸hS.eJ hw
end T0
theorem Lg [Gl] {A:AW} {L:List It} {T:Prop} (hS:ah A L) (hw:A.Wf) (h':(aV A L/\bq A L/\bQ L)=T:=by first|(dsimp only [aa,af,dN,aV,bq,bQ,eQ,iq,jR,nL,ir,iS];done)|exact rfl):T:=h'▸hS.eJ hw
namespace T2
theorem mK [Gl] {A:AW} {L:List It} {T:Prop} (hS:ah A L) (hw:A.Wf) (h':(aV A L/\bq A L/\bQ L)=T:=by first|(dsimp only [aa,af,aV,bq,bQ,eQ,dN];done)|exact rfl):T:=h'▸hS.eJ hw
end T2
theorem gh [Gl] {A:AW} {L:List It} {T:Prop} (hS:ah A L) (hw:A.Wf) (h':(aV A L/\bq A L/\bQ L)=T:=by first|(dsimp only [aa,af,dN,aV,bq,bQ,eQ];done)|exact rfl):T:=h'▸hS.eJ hw
namespace T4
theorem mK [Gl] {A:AW} {L:List It} {T:Prop} (hS:ah A L) (hw:A.Wf) (h':(aV A L/\bq A L/\bQ L)=T:=by first|(dsimp only [aa,af,aV,bq,bQ,eQ,X6,U7];done)|exact rfl):T:=h'▸hS.eJ hw
end T4
namespace T5
theorem mK [Gl] {A:AW} {L:List It} {T:Prop} (hS:ah A L) (hw:A.Wf) (h':(aV A L/\bq A L/\bQ L)=T:=by first|(dsimp only [aa,af,aV,bq,bQ,eQ,wg];done)|exact rfl):T:=h'▸hS.eJ hw
end T5
namespace T6
theorem mK [Gl] {A:AW} {L:List It} {T:Prop} (hS:ah A L) (hw:A.Wf) (h':(aV A L/\bq A L/\bQ L)=T:=by first|(dsimp only [aa,af,aV,bq,bQ,eQ,lD];done)|exact rfl):T:=h'▸hS.eJ hw
end T6
namespace T7
theorem mK [Gl] {A:AW} {L:List It} {T:Prop} (hS:ah A L) (hw:A.Wf) (h':(aV A L/\bq A L/\bQ L)=T:=by first|(dsimp only [aa,af,aV,bq,bQ,eQ];done)|exact rfl):T:=h'▸hS.eJ hw
end T7
theorem hqx8 [Gl] {A:AW} {L:List It} {T:Prop} (hS:ah A L) (hw:A.Wf) (h':(aV A L/\bq A L/\bQ L)=T:=by first|(dsimp only [aa,af,aV,bq,bQ,eQ,lD];done)|exact rfl):T:=h'▸hS.eJ hw
theorem fE [Gl] {A:AW} {L:List It} {T:Prop} (hS:ah A L) (hw:A.Wf) (h':(aV A L/\bq A L/\bQ L)=T:=by first|(dsimp only [aa,af,aV,bq,bQ,eQ];done)|exact rfl):T:=h'▸hS.eJ hw
namespace T10
theorem mK [Gl] {A:AW} {L:List It} {T:Prop} (hS:ah A L) (hw:A.Wf) (h':(aV A L/\bq A L/\bQ L)=T:=by first|(dsimp only [aa,af,aV,bq,bQ,eQ,X6,U6,X8,rPopO,Ya,X9];done)|exact rfl):T:=h'▸hS.eJ hw
end T10
namespace T11
theorem mK [Gl] {A:AW} {L:List It} {T:Prop} (hS:ah A L) (hw:A.Wf) (h':(aV A L/\bq A L/\bQ L)=T:=by first|(dsimp only [aa,af,aV,bq,bQ,eQ,X6];done)|exact rfl):T:=h'▸hS.eJ hw
end T11
namespace T12
theorem mK [Gl] {A:AW} {L:List It} {T:Prop} (hS:ah A L) (hw:A.Wf) (h':(aV A L/\bq A L/\bQ L)=T:=by first|(dsimp only [aa,af,aV,bq,bQ,eQ,vM,iq,jR,nL,ir,iS];done)|exact rfl):T:=h'▸hS.eJ hw
end T12
namespace T13
theorem hqO [Gl] {A:AW} {L:List It} {T:Prop} (hS:ah A L) (hw:A.Wf) (h':(aV A L/\bq A L/\bQ L)=T:=by first|(dsimp only [aa,af,aV,bq,bQ,eQ,vM,rE,mt,rZ,yR,my,mo,jc,rF,ru,yG,rx];done)|exact rfl):T:=h'▸hS.eJ hw
end T13
theorem O6 [Gl] {A:AW} {L:List It} {T:Prop} (hS:ah A L) (hw:A.Wf) (h':(aV A L/\bq A L/\bQ L)=T:=by first|(dsimp only [aa,af,aV,bq,bQ,eQ,vM];done)|exact rfl):T:=h'▸hS.eJ hw
theorem HA [Gl] {A:AW} {L:List It} {T:Prop} (hS:ah A L) (hw:A.Wf) (h':(aV A L/\bq A L/\bQ L)=T:=by first|(dsimp only [aa,af,aV,bq,bQ,eQ,vM,iq,jR,nL,ir,iS];done)|exact rfl):T:=h'▸hS.eJ hw
theorem eV [Gl] {A:AW} {L:List It} {T:Prop} (hS:ah A L) (hw:A.Wf) (h':(aV A L/\bq A L/\bQ L)=T:=by first|(dsimp only [aa,af,aV,bq,bQ,eQ,vM,rE,mt,rZ,yR,my,mo,jc,rF,ru,yG,rx];done)|exact rfl):T:=h'▸hS.eJ hw
namespace T17
theorem mK [Gl] {A:AW} {L:List It} {T:Prop} (hS:ah A L) (hw:A.Wf) (h':(aV A L/\bq A L/\bQ L)=T:=by first|(dsimp only [aa,af,aV,bq,bQ,eQ,vM,iq,jR,nL,ir,iS,dN];done)|exact rfl):T:=h'▸hS.eJ hw
end T17
theorem CH [Gl] {A:AW} {L:List It} {T:Prop} (hS:ah A L) (hw:A.Wf) (h':(aV A L/\bq A L/\bQ L)=T:=by first|(dsimp only [aa,af,aV,bq,bQ,eQ,vM,iq,jR,nL,ir,iS,dN];done)|exact rfl):T:=h'▸hS.eJ hw
theorem fZ [Gl] {A:AW} {L:List It} {T:Prop} (hS:ah A L) (hw:A.Wf) (h':(aV A L/\bq A L/\bQ L)=T:=by first|(dsimp only [aa,af,dN,aV,bq,bQ,eQ,vM,rE,mt,rZ,yR,my,mo,jc,rF,ru,yG,rx];done)|exact rfl):T:=h'▸hS.eJ hw
namespace T20
theorem mK [Gl] {A:AW} {L:List It} {T:Prop} (hS:ah A L) (hw:A.Wf) (h':(aV A L/\bq A L/\bQ L)=T:=by first|(dsimp only [aa,af,aV,bq,bQ,eQ,vM,iq,jR,nL,ir,iS,dN,rE,mt,rZ,yR,my,mo,jc,rF,ru,yG,rx];done)|exact rfl):T:=h'▸hS.eJ hw
end T20
theorem hqx21 [Gl] {A:AW} {L:List It} {T:Prop} (hS:ah A L) (hw:A.Wf) (h':(aV A L/\bq A L/\bQ L)=T:=by first|(dsimp only [aa,af,aV,bq,bQ,eQ,vM,iq,jR,nL,ir,iS,dN,rE,mt,rZ,yR,my,mo,jc,rF,ru,yG,rx];done)|exact rfl):T:=h'▸hS.eJ hw
namespace T22
theorem mK [Gl] {A:AW} {L:List It} {T:Prop} (hS:ah A L) (hw:A.Wf) (h':(aV A L/\bq A L/\bQ L)=T:=by first|(dsimp only [aa,af,aV,bq,bQ,eQ,refO,cfgO];done)|exact rfl):T:=h'▸hS.eJ hw
end T22
namespace T24
theorem mK [Gl] {A:AW} {L:List It} {T:Prop} (hS:ah A L) (hw:A.Wf) (h':(aV A L/\bq A L/\bQ L)=T:=by first|(dsimp only [aa,af,aV,bq,bQ,eQ,dN,uf];done)|exact rfl):T:=h'▸hS.eJ hw
end T24
theorem pI [Gl] {A:AW} {L:List It} {T:Prop} (hS:ah A L) (hw:A.Wf) (h':(aV A L/\bq A L/\bQ L)=T:=by first|(dsimp only [aa,af,dN,aV,bq,bQ,eQ,uf];done)|exact rfl):T:=h'▸hS.eJ hw
namespace T26
theorem mK [Gl] {A:AW} {L:List It} {T:Prop} (hS:ah A L) (hw:A.Wf) (h':(aV A L/\bq A L/\bQ L)=T:=by first|(dsimp only [aa,af,aV,bq,bQ,eQ,dN,SL,ir];done)|exact rfl):T:=h'▸hS.eJ hw
end T26
theorem AH [Gl] {A:AW} {L:List It} {T:Prop} (hS:ah A L) (hw:A.Wf) (h':(aV A L/\bq A L/\bQ L)=T:=by first|(dsimp only [aa,af,dN,aV,bq,bQ,eQ,SL,ir];done)|exact rfl):T:=h'▸hS.eJ hw
end
section
abbrev KB:List (Nat×Nat):=[(0,0),(1,0),(2,0),(3,0),(4,0),(5,0),(6,0),(7,0),(8,0),(9,0),(10,3),(11,0),(12,0),(13,0),(14,3)]
abbrev Ss:List (Nat×Nat):=[(0,0),(1,0),(2,0),(3,0),(4,0),(5,0),(6,0),(7,0),(8,0),(9,0),(10,3)]
abbrev Sr:List (Nat×Nat):=[(0,0),(1,0),(2,0),(3,0),(4,0),(5,0),(6,0),(7,0),(8,0),(9,0),(10,2),(11,0),(12,0),(13,0),(14,0),(15,0)]
open T0
variable [Gl]
def iq (s:iv):dQ:=.cells [.int .i64 s.aj,.int .i64 s.bW,.int .u64 s.aB] true 1
def jR (s:iG):dQ:=.cells [.bool s.jk,.int .u64 s.dx,.bool s.done] true 1
def nL (s:pw):dQ:=.cells [.int .i64 s.eE,.int .i64 s.bW,.int .u64 s.head,.int .u64 s.next,.int .i64 s.block] true 1
def ir (s:fK):dQ:=.cells [.int .i64 s.eE,.int .i64 s.block,.int .i64 s.bW,.int .u64 s.head] true 1
def iS (s:iI):dQ:=.cells [.int .i64 s.dJ,.int .i64 s.ig,.int .i64 s.rv,.int .i64 s.bW,.int .u64 s.dF,.int .u64 s.value,.bool s.iu] true 1
abbrev accC (a:aZ):List Value:=[.int .i64 a.fI,.int .i64 a.cell,.int .i64 a.cL,.int .u64 a.fi,.int .u64 a.put,.bool a.done]
def fh (f:FuncId) (args:List Value) (A:AW) (u:Value):Prop:=aD qa f args A λv A'=>v=u/\A=A'
theorem Gx (t:Int) (A:AW):aD qa 214 [.int .i64 t] A (λv A'=>v=.pointer (some ⟨A.next,0,none⟩)/\A'=A.alloc (iq ⟨t,0,0⟩)):=by
 refine aN Tryz.func214 λ_=>?_;refine W cF cF ?_<;>intros;exact⟨_,rfl,rfl,rfl⟩
theorem Fe (b:Nat) (s:iv) (A:AW) (hg:A.bp b=some (iq s)):fh 168 [.pointer (some ⟨b,0,none⟩)] A (.bool (decide (s.bW=3))):=by
 refine aN Tryz.func168 λ_=>?_;dsimp only [iq] at hg;refine W cF (J2 hg @AW.ab) ?_<;>intros;exact⟨_,rfl,rfl,rfl⟩
theorem wQ (b:Nat) (s:iv) (A:AW) (hg:A.bp b=some (iq s)):fh 166 [.pointer (some ⟨b,0,none⟩)] A (.int .i64 s.Gh):=by
 refine aN Tryz.func166 λ_=>?_;dsimp only [iq] at hg;refine W cF (J2 hg @AW.ab) (J2 ?_ ?_)<;>intros
 all_goals exact⟨_,rfl,by first|(simp [iv.Gh, *];done)|(simp [iv.Gh];omega),rfl⟩
theorem LH (s:iv) (M:Mm):(s.bW=0/\gl s M=(Do M 6 s.aj 1,{ s with bW:=1 },yb M 6 s.aj 1)) \/
 (s.bW=1/\gl s M=(iA M 3 0,{ s with bW:=2,aB:=(iA M 3 0).fi },M)) \/
 (s.bW=2/\gl s M=(Do M 6 s.aj (qd.wrap (s.aB+2)),{ s with bW:=3 },yb M 6 s.aj (qd.wrap (s.aB+2)))) \/
 ((¬s.bW=0/\¬s.bW=1/\¬s.bW=2)/\gl s M=(aZ.zero,s,M)):=by
 unfold gl;by_cases h0:s.bW=0;simp [h0];by_cases h1:s.bW=1;simp [h1];by_cases h2:s.bW=2;simp [h2];simp [h0,h1,h2]
theorem Fd (b pb:Nat) (s:iv) (M:Mm) :
 bn qa 167 [.pointer (some ⟨b,0,none⟩),.pointer (some ⟨pb,0,none⟩)] [.at b (iq s),dN pb M]
  (λv=>v=(gl s M).1.v) (λ_=>[.at b (iq (gl s M).2.1),dN pb (gl s M).2.2]):=by
 intro A F hw hS;refine aN Tryz.func167 λ_=>?_;have hq:=Lg hS hw;rcases LH s M with ⟨h,e⟩|⟨h,e⟩|⟨h,e⟩|⟨h,e⟩
 all_goals(revert hq hS hw;refine W (J3 (od KB) (stL pb) (SN pb)) (J4 h bE @bk.eq_1 @aZ.v.eq_1) ?_<;>unhygienic intros)
 all_goals(
  try rw [e]
  refine⟨_,by simp [hq,AW.ab,aG];rfl,by simp [aZ.v,aZ.zero,h],?_⟩;apply ah.bS
  (·exact sA)
  (·repeat' (first|apply aX.z|apply aX.s|apply aE.z|(apply aE.JJ;simp [iq,jR,nL,ir,iS,h];done)|apply aE.s)))
theorem Ng (pb:Nat) (t:Int) (M:Mm) :
 bn qa 129 [.pointer (some ⟨pb,0,none⟩),.int .i64 t] [dN pb M] (λv=>v=(Do M 6 t 0).v) (λ_=>[dN pb (yb M 6 t 0)]):=by
 intro A F hw hS;refine aN Tryz.func129 λ_=>?_;have hq:=Lg hS hw;have h:True:=trivial;have e:True=True:=rfl;revert hq hS hw;refine W (J1 (stL pb)) (J3 bE @bk.eq_1 @aZ.v.eq_1) ?_<;>(unhygienic intros)
 all_goals(
  try rw [e]
  refine⟨_,by simp [hq,AW.ab,aG];rfl,by simp [aZ.v,aZ.zero,h],?_⟩;apply ah.bS
  (·exact sA)
  (·repeat' (first|apply aX.z|apply aX.s|apply aE.z|(apply aE.JJ;simp [iq,jR,nL,ir,iS,h];done)|apply aE.s)))
theorem Qd (pb:Nat) (t:Int) (M:Mm) :
 bn qa 125 [.pointer (some ⟨pb,0,none⟩),.int .i64 t] [dN pb M] (λv=>v=(Do M 5 0 (pE t)).v) (λ_=>[dN pb (yb M 5 0 (pE t))]):=by
 intro A F hw hS;refine aN Tryz.func125 λ_=>?_;have hq:=Lg hS hw;have h:True:=trivial;have e:pE t=qd.wrap (qd.wrap t+1):=rfl;revert hq hS hw;refine W (J1 (stL pb)) (J3 bE @bk.eq_1 @aZ.v.eq_1) ?_<;>(unhygienic intros)
 all_goals(
  try rw [e]
  refine⟨_,by simp [hq,AW.ab,aG];rfl,by simp [aZ.v,aZ.zero,h],?_⟩;apply ah.bS
  (·exact sA)
  (·repeat' (first|apply aX.z|apply aX.s|apply aE.z|(apply aE.JJ;simp [iq,jR,nL,ir,iS,h];done)|apply aE.s)))
theorem nf (A:AW):aD qa 182 [] A (λv A'=>v=.pointer (some ⟨A.next,0,none⟩)/\A'=A.alloc (jR ⟨false,0,false⟩)):=by
 refine aN Tryz.func182 λ_=>?_;refine W cF cF ?_<;>intros;exact⟨_,rfl,rfl,rfl⟩
theorem F3 (b:Nat) (s:iG) (A:AW) (hg:A.bp b=some (jR s)):fh 184 [.pointer (some ⟨b,0,none⟩)] A (.bool s.done):=by
 refine aN Tryz.func184 λ_=>?_;dsimp only [jR] at hg;refine W cF (J2 hg @AW.ab) ?_<;>intros;exact⟨_,rfl,rfl,rfl⟩
theorem C7 (b:Nat) (s:iG) (A:AW) (hg:A.bp b=some (jR s)):fh 126 [.pointer (some ⟨b,0,none⟩)] A (.int .i64 s.fY):=by
 refine aN Tryz.func126 λ_=>?_;dsimp only [jR] at hg;refine W cF (J2 hg @AW.ab) (J2 ?_ ?_)<;>intros
 all_goals exact⟨_,rfl,by simp_all [iG.fY],rfl⟩
theorem Mq (s:iG) (M:Mm):(s.done=true/\gI s M=(aZ.zero,s,M)) \/
 ((s.done=false/\s.jk=false)/\gI s M=(FY M 4 0 1,{ s with jk:=true,dx:=(FY M 4 0 1).fi },Wy M 4 0 1)) \/
 ((s.done=false/\s.jk=true)/\gI s M=(iA M 5 0,{ s with done:=decide ((iA M 5 0).fi=s.dx) },M)):=by
 unfold gI;cases h0:s.done<;>cases h1:s.jk<;>simp
theorem F2 (b pb:Nat) (s:iG) (M:Mm) :
 bn qa 183 [.pointer (some ⟨b,0,none⟩),.pointer (some ⟨pb,0,none⟩)] [.at b (jR s),dN pb M]
  (λv=>v=(gI s M).1.v) (λ_=>[.at b (jR (gI s M).2.1),dN pb (gI s M).2.2]):=by
 intro A F hw hS;refine aN Tryz.func183 λ_=>?_;have hq:=Lg hS hw;rcases Mq s M with ⟨h,e⟩|⟨h,e⟩|⟨h,e⟩
 all_goals(revert hq hS hw;refine Wu (J4 (od Ss) (⟨⟩:Os (λA'=>A'.bp (A.next+1)=some (.cells (accC (FY M 4 0 1)) true 1)) [(0,0),(1,0),(2,0),(3,1),(4,0),(5,0),(6,3),(7,0),(8,0),(9,3)]) (adL pb) (SN pb)) (J4 h bE @bk.eq_1 @aZ.v.eq_1) ?_<;>unhygienic intros)
 all_goals(
  try rw [e]
  refine⟨_,by simp [hq,AW.ab,aG];rfl,by simp [aZ.v,aZ.zero,h],?_⟩;apply ah.bS
  (·exact sA)
  (·repeat' (first|apply aX.z|apply aX.s|apply aE.z|(apply aE.JJ;simp [iq,jR,nL,ir,iS,h];done)|apply aE.s)))
theorem KI (c:Int) (A:AW):aD qa 216 [.int .i64 c] A (λv A'=>v=.pointer (some ⟨A.next,0,none⟩)/\A'=A.alloc (nL ⟨c,0,0,0,-1⟩)):=by
 refine aN Tryz.func216 λ_=>?_;refine W cF cF ?_<;>intros;exact⟨_,rfl,rfl,rfl⟩
theorem Iz (b:Nat) (s:pw) (A:AW) (hg:A.bp b=some (nL s)):fh 178 [.pointer (some ⟨b,0,none⟩)] A (.bool (decide (s.bW=3))):=by
 refine aN Tryz.func178 λ_=>?_;dsimp only [nL] at hg;refine W cF (J2 hg @AW.ab) ?_<;>intros;exact⟨_,rfl,rfl,rfl⟩
theorem Gs (b:Nat) (s:pw) (A:AW) (hg:A.bp b=some (nL s)):fh 244 [.pointer (some ⟨b,0,none⟩)] A (.int .i64 s.block):=by
 refine aN Tryz.func244 λ_=>?_;dsimp only [nL] at hg;refine W cF (J2 hg @AW.ab) ?_<;>intros;exact⟨_,rfl,rfl,rfl⟩
theorem Hr (s:pw) (M:Mm) :
 ((s.bW=0/\jn (iA M 7 s.eE).fi<0)/\gg s M=(iA M 7 s.eE,{ s with head:=(iA M 7 s.eE).fi,bW:=3 },M)) \/
 ((s.bW=0/\¬jn (iA M 7 s.eE).fi<0)/\gg s M=(iA M 7 s.eE,{ s with head:=(iA M 7 s.eE).fi,bW:=1 },M)) \/
 (s.bW=1/\gg s M=(iA M 8 (jn s.head),{ s with next:=(iA M 8 (jn s.head)).fi,bW:=2 },M)) \/
 (∃w,((s.bW=2/\oU s.head (qg.wrap (qg.wrap s.next-1))=w)/\(F6 M 7 s.eE s.head w).done=true)/\gg s M=(F6 M 7 s.eE s.head w,{ s with bW:=3,block:=jn s.head },UY M 7 s.eE s.head w)) \/
 (∃w,((s.bW=2/\oU s.head (qg.wrap (qg.wrap s.next-1))=w)/\(F6 M 7 s.eE s.head w).done=false)/\gg s M=(F6 M 7 s.eE s.head w,{ s with bW:=0 },UY M 7 s.eE s.head w)) \/
 ((¬s.bW=0/\¬s.bW=1/\¬s.bW=2)/\gg s M=(aZ.zero,s,M)):=by
 unfold gg;by_cases h0:s.bW=0;by_cases h1:jn (iA M 7 s.eE).fi<0<;>simp [h0,h1];by_cases h1:s.bW=1;simp [h1];by_cases h2:s.bW=2;cases h3:(F6 M 7 s.eE s.head (oU s.head (qg.wrap (qg.wrap s.next-1)))).done<;>(simp [h2,h3];exact⟨_,⟨rfl,h3⟩,rfl,rfl⟩);simp [h0,h1,h2]
theorem Iy (b pb:Nat) (s:pw) (M:Mm) :
 bn qa 177 [.pointer (some ⟨b,0,none⟩),.pointer (some ⟨pb,0,none⟩)] [.at b (nL s),dN pb M]
  (λv=>v=(gg s M).1.v) (λ_=>[.at b (nL (gg s M).2.1),dN pb (gg s M).2.2]):=by
 intro A F hw hS;refine aN Tryz.func177 λ_=>?_;have hq:=Lg hS hw;rcases Hr s M with ⟨h,e⟩|⟨h,e⟩|⟨h,e⟩|⟨w,h,e⟩|⟨w,h,e⟩|⟨h,e⟩
 all_goals(revert hq hS hw;refine W (J6 (od Sr) (od KB) @Hq @Em (swL pb) (SN pb)) (J4 h bE @bk.eq_1 @aZ.v.eq_1) ?_<;>unhygienic intros)
 all_goals(
  try rw [e]
  refine⟨_,by simp [hq,AW.ab,aG];rfl,by simp [aZ.v,aZ.zero,h],?_⟩;apply ah.bS
  (·exact sA)
  (·repeat' (first|apply aX.z|apply aX.s|apply aE.z|(apply aE.JJ;simp [iq,jR,nL,ir,iS,h];done)|apply aE.s)))
end
section
abbrev Ky:List (Nat×Nat):=[(0,0),(1,0),(2,0),(4,0),(5,0),(6,0),(7,0),(3,2),(8,0),(9,0),(10,0),(11,3)]
open T2
variable [Gl]
theorem ah.front {A:AW} {L K:List It} {x:It} (h:ah A L) (e:aE L x K):ah A (x::K):=by
 unfold ah at *;rw [e.aM] at h;exact h
theorem ah.openI {A:AW} {L K:List It} {k:IntKind} {v:Value} {x:Int} {l:List Int} (h:ah A L) (hp:aE L (.h (av k v (x::l))) K) :
 ∃b off c b8,v=.slice (some ⟨b,off,none⟩) (l.length+1) c/\l.length+1<=c/\off+(l.length+1)<=b8.length/\b8[off]? = some (.int k x)/\
  (∀A' K',ah A' (.at b (.cells b8 true 1)::K')->ah A' (.h (av k (.slice (some ⟨b,off+1,none⟩) l.length (c-1)) l)::K'))/\
  (∀A' K',ah A' (.at b (.cells b8 true 1)::K')->ah A' (.h (av k v (x::l))::K'))/\ah A (.at b (.cells b8 true 1)::K):=by
 have h1:bB A (av k v (x::l)*aM K):=by
  have h0:=h;unfold ah at h0;rw [hp.aM] at h0;exact h0
 rcases dv.cases h1 with ⟨_,h0,_⟩|⟨b,off,c,b8,rfl,h2,h3,h4,h5⟩;simp at h0;simp only [List.length_cons,Nat.mul_one] at h2 h3 h4;have h6:=h4;rw [List.drop_eq_getElem_cons (by omega),List.map_cons,List.take_succ_cons] at h6;have h7:=List.cons.inj h6;refine⟨b,off,c,b8,rfl,h2,h3,?_,λA' K' hh=>?_,λA' K' hh=>?_,h5⟩;rw [qk (by omega),<-h7.1];exact av.mk rfl (by omega) (by omega) h7.2 hh;exact av.mk (by simp) (by simpa using h2) (by simpa using h3) (by simpa using h4) hh
def jI (b:Nat) (s:iw):HP:=rO λv:Value=>pt b (.cells [v,.int .i64 s.rv,.bool s.jG] true 1)*av .i64 v s.ao
theorem jI.open {A:AW} {L K:List It} {b:Nat} {s:iw} (h:ah A L) (hp:aE L (.h (jI b s)) K) :
 ∃v,ah A (.at b (.cells [v,.int .i64 s.rv,.bool s.jG] true 1)::.h (av .i64 v s.ao)::K):=by
 unfold ah at h;rw [hp.aM] at h;have h1:bB A (jI b s*aM K):=h;unfold jI at h1;rw [bB.ex] at h1;obtain⟨v,h2⟩:=h1;exact⟨v,h2.dZ (by show _=pt b _*(av .i64 v s.ao*aM K);rw [HP.cQ])⟩
theorem jI.dP {A:AW} {L K:List It} {b:Nat} {s:iw} {v:Value} (h:ah A L) (hp:aX L [.at b (.cells [v,.int .i64 s.rv,.bool s.jG] true 1),.h (av .i64 v s.ao)] K):ah A (.h (jI b s)::K):=by
 unfold ah at h;rw [hp.aM] at h;show bB A (jI b s*aM K);unfold jI;rw [bB.ex];exact⟨v,h.dZ (by show pt b _*(av .i64 v s.ao*eZ)*aM K=_;rw [dO])⟩
theorem ah.tE {A:AW} {L K:List It} {k:IntKind} {v:Value} {l:List Int} (h:ah A L) (hp:aE L (.h (av k v l)) K):cd A k v l:=by
 unfold ah at h;rw [hp.aM] at h;exact av.is h
theorem rW (b:Nat) (o:Option Addr) (n c:Nat) (rv:Int) (f:Bool) (A:AW) (hg:A.bp b=some (.cells [.slice o n c,.int .i64 rv,.bool f] true 1)) :
 fh 188 [.pointer (some ⟨b,0,none⟩)] A (.bool (f || decide (n=0))):=by
 refine aN Tryz.func188 λ_=>?_;cases f
 all_goals(refine W cF (J2 hg @AW.ab) ?_<;>unhygienic intros)
 all_goals exact⟨_,rfl,by simp;try omega,rfl⟩
theorem Fm (b pb:Nat) (s:iw) (M:Mm) :
 bn qa 189 [.pointer (some ⟨b,0,none⟩),.pointer (some ⟨pb,0,none⟩)] [.h (jI b s),dN pb M]
  (λv=>v=(gm s M).1.v) (λ_=>[.h (jI b (gm s M).2.1),dN pb (gm s M).2.2]):=by
 intro A F hw dA;refine aN Tryz.func189 λ_=>?_;obtain⟨vo,hS⟩:=jI.open dA .z;obtain⟨oo,co,rfl,_⟩:=(ah.tE hS (.s .z)).cy;obtain⟨os,rv,jG⟩:=s;by_cases hd:(jG || decide (os.length=0))=true
 . have hq:=gh hS hw;have vU:∀A',A'.bp b=some (.cells [.slice oo os.length co,.int .i64 rv,.bool jG] true 1)->fh 188 [.pointer (some ⟨b,0,none⟩)] A' (.bool true):=λA' h=>by
    have:=rW b oo os.length co rv jG A' h;rwa [hd] at this
   have e:gm ⟨os,rv,jG⟩ M=(aZ.zero,⟨os,rv,jG⟩,M):=aA hd;revert hq hS hw;refine W (J2 (od Ky) @vU) (J4 hd bE @bk.eq_1 @aZ.v.eq_1) ?_<;>(unhygienic intros);rw [e];refine⟨_,by simp [hq,AW.ab,aG];rfl,by simp [aZ.v,aZ.zero],?_⟩;apply ah.bS
   . apply jI.dP (b:=b) (s:=⟨os,rv,jG⟩) (v:=.slice oo os.length co)
     (·exact sA)
     (·repeat' (first|apply aX.z|apply aX.s|apply aE.z|(apply aE.JJ;simp;done)|apply aE.s))
   (·repeat' (first|apply aX.z|apply aX.s|apply aE.z|(apply aE.JJ;simp;done)|apply aE.s))
 obtain⟨hf,hn⟩:jG=false/\¬os.length=0:=by simpa using hd
 subst hf;cases os with
 | nil=>simp at hn
 | cons o os=>
 obtain⟨bo,off,c,b8,hv,Mg,AP,bV,YF,hwh,hS⟩:=ah.openI hS (.s .z);injection hv with Rg SS YE;subst Rg;subst YE;have vU:∀A',A'.bp b=some (.cells [.slice (some ⟨bo,off,none⟩) (os.length+1) co,.int .i64 rv,.bool false] true 1)->fh 188 [.pointer (some ⟨b,0,none⟩)] A' (.bool false):=λA' h=>rW b _ _ co rv false A' h;have e:gm ⟨o::os,rv,false⟩ M=(iA M 2 o,⟨os,rv,decide (rv<gr (iA M 2 o).fi)⟩,M):=aw hd;have hq:=gh hS hw;revert hq hS hw;(repeat first|clear hq|clear hS|clear hw|revert hc|revert R|revert K);refine W (J4 (od Ky) @vU @yf (SN pb)) (J5 bV @fg.eq_1 bE @bk.eq_1 @aZ.v.eq_1) ?_<;>(unhygienic intros);rw [e];refine⟨_,by simp [hq,AW.ab,aG];rfl,by simp [aZ.v,aZ.zero],?_⟩;apply ah.bS
 . apply jI.dP (b:=b) (s:=⟨os,rv,decide (rv<gr (iA M 2 o).fi)⟩) (v:=.slice (some ⟨bo,off+1,none⟩) os.length (co-1))
   . apply YF;apply ah.front
     (·exact sA)
     (·repeat' (first|apply aX.z|apply aX.s|apply aE.z|(apply aE.JJ;simp;done)|apply aE.s))
   (·repeat' (first|apply aX.z|apply aX.s|apply aE.z|(apply aE.JJ;simp;done)|apply aE.s))
 (·repeat' (first|apply aX.z|apply aX.s|apply aE.z|(apply aE.JJ;simp;done)|apply aE.s))
end
section
namespace TRefO
theorem mK [Gl] {A:AW} {L:List It} {T:Prop} (hS:ah A L) (hw:A.Wf) (h':(aV A L/\bq A L/\bQ L)=T:=by first|(dsimp only [aa,af,aV,bq,bQ,eQ];done)|exact rfl):T:=h'▸hS.eJ hw
end TRefO
open TRefO
variable [Gl]
def RefH (cf:br) (mb:Nat) (M:Nat->List Int):HP:=
 rO λv:Value×Value×Value×Value×Value=>
  pt mb (.cells (cf.cells++[v.1,v.2.1,.int .u64 ((M 2).getD 0 0),.int .u64 ((M 3).getD 0 0),.int .u64 ((M 4).getD 0 0),v.2.2.1,v.2.2.2.1,v.2.2.2.2]) true 1) *
   (av .u64 v.1 (M 0)*(av .u64 v.2.1 (M 1)*(av .u64 v.2.2.1 (M 5)*(av .u64 v.2.2.2.1 (M 6)*av .u64 v.2.2.2.2 (M 7)))))
def X6 (cf:br) (mb:Nat) (M:Mm):It:=.h (RefH cf mb M)
end
section
open T4
variable [Gl]
def U7 (v:Value) (rv:Int) (k:Nat) (f:Bool):dQ:=.cells [v,.int .i64 rv,.int .i64 k,.bool f] true 1
end
section
open T5
variable [Gl]
def mI (a:aZ):Int:=if a.cell=8 then 9 else if a.fI=3 then 10 else 8
def hY (a:aZ):Int:=if a.cell=8 then 22 else if a.fI=3 then 23 else 21
theorem Ku (a:aZ) (A:AW) (hw:A.Wf):aD qa 179 [a.v] A (λv A'=>v=.int .i64 (mI a)/\A.le A'):=by
 refine aN Tryz.func179 λ_=>?_;by_cases h1:a.cell=8<;>by_cases h2:a.fI=3
 all_goals(revert hw;refine W cF (J4 h1 h2 bE @aZ.v.eq_1) ?_<;>unhygienic intros)
 all_goals exact⟨_,rfl,by simp [mI,h1,h2],qb _ _⟩
theorem IA (a:aZ) (A:AW) (hw:A.Wf):aD qa 83 [a.v] A (λv A'=>v=.int .i64 (hY a)/\A.le A'):=by
 refine aN Tryz.func83 λ_=>?_;by_cases h1:a.cell=8<;>by_cases h2:a.fI=3
 all_goals(revert hw;refine W cF (J4 h1 h2 bE @aZ.v.eq_1) ?_<;>unhygienic intros)
 all_goals exact⟨_,rfl,by simp [hY,h1,h2],qb _ _⟩
theorem Nn (v:Value) (l:List Int) (x:Int) (A:AW) (h:cd A .i64 v l) (hl:l.length<2^62) :
 aD qa 234 [v,.int .i64 x] A (λu A'=>(∃r:Int,u=.int .i64 r/\(0<=r↔x∈l))/\A=A'):=by
 refine aN Tryz.func234 λ_=>?_;obtain⟨o,c,rfl,_⟩:=h.cy;refine W cF cF ?_<;>(unhygienic intros);refine ef (λk fr A'=>A=A'/\∃i:Nat,k=l.length-i/\i<=l.length/\fr 0=.slice o l.length c/\fr 1=.int .i64 x/\fr 7=.int .i64 l.length/\fr 8=.int .i64 i/\∀j,j<i->l[j]?≠some x) l.length ?_ ?_;refine⟨rfl,0,by simp,by simp,rfl,rfl,rfl,rfl,by simp⟩;rintro k fr A' ⟨rfl,i,rfl,hi,h0,h1,h7,h8,hj⟩;by_cases cD:i<l.length;obtain⟨p,b8,rfl,bV,hcell⟩:=h.at cD;have gS:=By (i:=i);refine ba ?_;refine W cF (J8 h0 h1 h7 h8 bV hcell cD gS) (J2 ?_ ?_)<;>intros;refine⟨_,rfl,⟨(i:Int),by simp,?_⟩,rfl⟩;have hx:l[i]=x:=by simp_all
 exact⟨λ_=>hx▸List.getElem_mem cD,λ_=>by omega⟩;refine⟨l.length-(i+1),by omega,rfl,i+1,rfl,by omega,?_,?_,?_,?_,?_⟩;simp [h0];simp [h1];simp [h7];simp;intro j yn;by_cases e:j=i;subst e;rw [qk cD];intro e2;injection e2 with e2;simp_all;exact hj j (by omega);refine ba ?_;refine W cF (J5 h0 h1 h7 h8 cD) ?_<;>intros;refine⟨_,rfl,⟨-1,by simp,?_⟩,rfl⟩;refine⟨λh=>by omega,λhm=>?_⟩;obtain⟨j,hj1,Qy⟩:=List.getElem_of_mem hm;exact absurd (by rw [qk hj1,Qy]) (hj j (by omega))
theorem yA (v:Value) (l:List Int) (x:Int) (A:AW) (h:cd A .i64 v l) (hl:l.length<2^62) :
 fh 173 [v,.int .i64 x] A (.bool (decide (x∈l))):=by
 refine aN Tryz.func173 λ_=>?_
 repeat' (first|(refine kY λR hR=>?_;simp [ar,ax];try simp (disch:=omega) only [aA,aw,ar,ax])|(refine hR _ _ ?_;clear hR R)|(refine hK _ _ ?_;clear hK K)|refine nx ?_|refine wn λK hK=>?_|simp only [wS]|(refine bO (Nn v l x _ h hl) ?_<;>rintro _ _ ⟨⟨r,rfl,hr⟩,rfl⟩ _ _)|(show c8 _ _ _ _ _ _;refine nx ?_)|(refine wc rfl (λhc=>?_) (λhc=>?_)<;>(try simp at hc)<;>(try omega))|(refine ib (λhc=>?_) (λhc=>?_)<;>(try omega)<;>(try simp (disch:=omega) only [aA,aw])))
 exact⟨_,rfl,by simp [hr],rfl⟩
end
section
abbrev Ep:List (Nat×Nat):=[(0,0),(1,0),(2,0),(3,0),(4,0),(5,0),(6,0),(7,0),(8,0),(9,0),(10,0)]
open T5
variable [Gl]
theorem ah.append {P:Program} {A:AW} {L K:List It} {t e:TypeId} {i:TypeInfo} {z:Value} {v:Value} {k:IntKind} {l:List Int} (h:ah A L) (hp:aE L (.h (av k v l)) K) (y:Int)
 (hu:P.underlying t=some (.slice e)) (hi:P.info? e=some i) (hz:i.zero=some z) (ii:i.size=1) (oK:z.cells.size=1) (bX:l.length<2 ^ 40) (zj:i.bytes<=8) (hw:A.Wf) :
 ∃v' A',fy P (A.alloc (.cells [.int k y] true 1)) t t v (.slice (some ⟨A.next,0,none⟩) 1 1)=some (v',A')/\ah A' (.h (av k v' (l++[y]))::K)/\A'.Wf/\A.next<=A'.next/\∃o c,v'=.slice o (l.length+1) c:=by
 have h1:bB A (av k v l*aM K):=by
  unfold ah at h;rw [hp.aM] at h;exact h
 obtain⟨v',A',e1,h2,h3,h4⟩:=av.append (P:=P) (t:=t) y hu hi hz ii oK h1 bX zj hw;obtain⟨o,c,h5,_⟩:=(av.is h2).cy;exact⟨v',A',e1,h2,h3,h4,o,c,by simpa using h5⟩
def wg (eA:Nat) (v:Value):dQ:=.cells [.int .i64 eA,v] true 1
def xV (b:Nat) (eA:Nat) (l:List Int):HP:=rO λv:Value=>pt b (wg eA v)*av .i64 v l
def eg (eA:Nat) (l:List Int) (x:Int):Bool×List Int:=if x∈l then (true,l) else if eA<=l.length then (false,l) else (true,l++[x])
theorem xV.open {A:AW} {L K:List It} {b eA:Nat} {l:List Int} (h:ah A L) (hp:aE L (.h (xV b eA l)) K):∃v,ah A (.at b (wg eA v)::.h (av .i64 v l)::K):=by
 unfold ah at h;rw [hp.aM] at h;have h1:bB A (xV b eA l*aM K):=h;unfold xV at h1;rw [bB.ex] at h1;obtain⟨v,h2⟩:=h1;exact⟨v,h2.dZ (by show _=pt b _*(av .i64 v l*aM K);rw [HP.cQ])⟩
theorem xV.dP {A:AW} {L K:List It} {b eA:Nat} {l:List Int} {v:Value} (h:ah A L) (hp:aX L [.at b (wg eA v),.h (av .i64 v l)] K):ah A (.h (xV b eA l)::K):=by
 unfold ah at h;rw [hp.aM] at h;show bB A (xV b eA l*aM K);unfold xV;rw [bB.ex];exact⟨v,h.dZ (by show pt b _*(av .i64 v l*eZ)*aM K=_;rw [dO])⟩
theorem Kk (b eA:Nat) (v:Value) (l:List Int) (x:Int) (A:AW) (hg:A.bp b=some (wg eA v)) (h:cd A .i64 v l) (hl:l.length<2^62) :
 fh 235 [.pointer (some ⟨b,0,none⟩),.int .i64 x] A (.bool (decide (x∈l))):=by
 refine aN Tryz.func235 λ_=>?_;dsimp only [wg] at hg;refine W (J1 (yA v l x _ h hl)) (J2 hg @AW.ab) ?_<;>intros
 all_goals exact⟨_,rfl,rfl,rfl⟩
theorem mE (b eA:Nat) (l:List Int) (x:Int) (hc:l.length<=eA) (AP:eA<=32) :
 bn qa 174 [.pointer (some ⟨b,0,none⟩),.int .i64 x] [.h (xV b eA l)] (λu=>u=.bool (eg eA l x).1) (λ_=>[.h (xV b eA (eg eA l x).2)]):=by
 intro A F hw dA;refine aN Tryz.func174 λ_=>?_;obtain⟨vo,hS⟩:=xV.open dA .z;have hI:=ah.tE hS (.s .z);have Bu:=hS.g 0 rfl;have hg:=Bu;dsimp only [wg] at hg;obtain⟨oo,co,rfl,_⟩:=hI.cy;have xQ:=Kk b eA _ l x A Bu hI (by omega);by_cases h1:x∈l;rw [decide_eq_true h1] at xQ;have e:eg eA l x=(true,l):=aA h1;refine W (J2 (od Ep) @xQ) (J3 hg h1 @AW.ab) ?_<;>intros;refine⟨_,rfl,by simp [e],?_⟩;rw [e];exact dA;rw [decide_eq_false h1] at xQ;by_cases h2:eA<=l.length
 . have e:eg eA l x=(false,l):=(by unfold eg;rw [aw h1,aA h2]);have h3:(eA:Int)<=l.length:=by omega
   skip
   refine W (J2 (od Ep) @xQ) (J4 hg h1 h3 @AW.ab) ?_<;>intros;refine⟨_,rfl,by simp [e],?_⟩;rw [e];exact dA
 have e:eg eA l x=(true,l++[x]):=by unfold eg;rw [aw h1,aw h2]
 have h3:¬(eA:Int)<=l.length:=by omega
 have h4:¬(l.length:Int)=eA:=by omega
 obtain⟨v',A',e1,kZ,kc,_,o2,c2,rfl⟩:=ah.append (P:=qa) (t:=24) hS (.s .z) x Tryz.underlying24 Tryz.info3 Tryz.zero3 rfl rfl (by omega) (by simp) hw;have NF:=kZ.g 1 rfl;dsimp only [wg] at NF;refine W (J2 (od Ep) @xQ) (J7 hg h1 h3 h4 e1 NF bE) ?_<;>intros;refine⟨_,by first|rfl|(simp;rfl),by simp [e],?_⟩;rw [e];exact xV.dP (v:=.slice o2 (l.length+1) c2) (ah.gy kZ (.s .z)) (.s .z (.s .z .z))
end
end Go.Stx
