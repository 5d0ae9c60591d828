/-
 Contracts of the small functions that the statements share: places, lists compared and copied.
-/
import Derived.Test.YtipomeafemoelaaGreatDoorF1
import Derived.Test.YtipomeafemoelaaGreatDoorF2
set_option linter.unusedVariables false
set_option linter.unusedSimpArgs false
set_option linter.unusedSectionVars false
set_option maxRecDepth 20000
set_option maxHeartbeats 4000000
namespace Go.Stx
open Go Go.Proofs
attribute [local irreducible] TW bA cM aS ax aH cJ de
section
abbrev ui:List (Nat×Nat):=[(0,0),(1,0),(2,0),(3,0),(4,0),(5,0),(6,0),(7,0),(8,0)]
namespace TKit
theorem mr [Gl] {A:AW} {L:List It} {T:Prop} (hS:ah A L) (hw:A.Wf) (h':(aR A L/\bj A L/\bN L)=T:=by first|(dsimp only [aa,ag,aR,bj,bN,eE];done)|exact rfl):T:=h'▸hS.eD hw
end TKit
open TKit
variable [Gl]
def ko (a n:Int):Int:=IntKind.u64.wrap a % n
theorem kQ (a:Int):0<=IntKind.u64.wrap a/\IntKind.u64.wrap a<18446744073709551616:=by
 simp only [IntKind.wrap,IntKind.bits,IntKind.signed,Bool.false_and,Bool.false_eq_true,if_false];omega
theorem f8 (a n:Int) (hn:0<n):0<=ko a n/\ko a n<n:=⟨Int.emod_nonneg _ (by omega),Int.emod_lt_of_pos _ hn⟩
theorem iN (a n:Int) (A:AW) (hn:0<n) (zP:n<=9223372036854775807) :
 ax Tryz.prog 10 [.int .i64 a,.int .i64 n] A (λv A'=>v=.int .i64 (ko a n)/\A=A'):=by
 refine aF Tryz.func10 λhw=>?_;have jg:IntKind.u64.wrap n=n:=ar (by omega) (by omega);have hU:n≠0:=by omega
 obtain⟨h1,h2⟩:=kQ a;obtain⟨h3,h4⟩:=f8 a n hn;have hr:(IntKind.u64.wrap a).tmod n=ko a n:=Int.tmod_eq_emod_of_nonneg h1;have jR:IntKind.i64.wrap (ko a n)=ko a n:=ai (by omega) (by omega);refine W cd (J4 jg hU hr jR) ?_<;>intros;simp
theorem FA (va vb:Value) (a b:List Int) (A:AW) (ha:bx A .i64 va a) (hb:bx A .i64 vb b) (hla:a.length<2^62) :
 ax Tryz.prog 48 [va,vb] A (λv A'=>v=.bool (decide (a=b))/\A=A'):=by
 refine aF Tryz.func48 λhw=>?_;obtain⟨oa,ca,rfl,_⟩:=ha.bE;obtain⟨ob,cb,rfl,_⟩:=hb.bE;revert hw;refine W (J1 (od ui)) trivial (J2 ?_ ?_)<;>(unhygienic intros);simp;intro e;subst e;simp at hc;have bG:a.length=b.length:=by omega
 refine cW (λk fr A'=>A=A'/\∃i:Nat,k=a.length-i/\i<=a.length/\fr 0=.slice oa a.length ca/\fr 1=.slice ob b.length cb/\fr 5=.int .i64 i/\∀j,j<i->a[j]? = b[j]?) a.length ?_ ?_;refine⟨rfl,0,by simp,by simp,rfl,rfl,rfl,by simp⟩;rintro k fr A' ⟨rfl,i,rfl,hi,h0,h1,h5,hj⟩;by_cases bL:i<a.length
 . obtain⟨p,bP,rfl,bI,hcell⟩:=ha.at bL;obtain⟨q,Sp,rfl,Qo,Lv⟩:=hb.at (i:=i) (by omega);have C1:i<b.length:=(by omega);have fU:=uR (i:=i);refine aO ?_
   repeat' (first|(refine jX λR hR=>?_;simp [ai,ar,h0,h1,h5,bI,Qo,hcell,Lv,bL,C1,fU];try simp (disch:=omega) only [if_pos,if_neg,ai,ar])|(refine hR _ _ ?_;clear hR R)|(refine hK _ _ ?_;clear hK K)|refine nx ?_|refine wn λK hK=>?_|simp only [wS,ui]|refine wl Tryz.mx ui (by decide +kernel) λK hK=>?_|(show cM _ _ _ _ _ _;refine nx ?_)|(refine wc rfl (λhc=>?_) (λhc=>?_)<;>(try simp at hc)<;>(try omega))|(refine ib (λhc=>?_) (λhc=>?_)<;>(try omega)<;>(try simp (disch:=omega) only [if_pos,if_neg])))
   simp;intro e;subst e;simp at hc;refine⟨a.length-(i+1),by omega,rfl,i+1,rfl,by omega,?_,?_,?_,?_⟩;simp [h0];simp [h1];simp;intro j tm;by_cases e:j=i;subst e;rw [List.getElem?_eq_getElem bL,List.getElem?_eq_getElem C1,hc];exact hj j (by omega)
 refine aO ?_;refine W (J1 (od ui)) (J4 h0 h1 h5 bL) ?_<;>intros;have e:a=b:=by
  apply List.ext_getElem?;intro j;by_cases tm:j<i;exact hj j tm;rw [List.getElem?_eq_none (by omega),List.getElem?_eq_none (by omega)]
 simp [e]
theorem pK (va vb:Value) (a b:List Int) (A:AW) (ha:bx A .u64 va a) (hb:bx A .u64 vb b) (hla:a.length<2^62) :
 ax Tryz.prog 35 [va,vb] A (λv A'=>v=.bool (decide (a=b))/\A=A'):=by
 refine aF Tryz.func35 λhw=>?_;obtain⟨oa,ca,rfl,_⟩:=ha.bE;obtain⟨ob,cb,rfl,_⟩:=hb.bE;revert hw;refine W (J1 (od ui)) trivial (J2 ?_ ?_)<;>(unhygienic intros);simp;intro e;subst e;simp at hc;have bG:a.length=b.length:=by omega
 refine cW (λk fr A'=>A=A'/\∃i:Nat,k=a.length-i/\i<=a.length/\fr 0=.slice oa a.length ca/\fr 1=.slice ob b.length cb/\fr 5=.int .i64 i/\∀j,j<i->a[j]? = b[j]?) a.length ?_ ?_;refine⟨rfl,0,by simp,by simp,rfl,rfl,rfl,by simp⟩;rintro k fr A' ⟨rfl,i,rfl,hi,h0,h1,h5,hj⟩;by_cases bL:i<a.length
 . obtain⟨p,bP,rfl,bI,hcell⟩:=ha.at bL;obtain⟨q,Sp,rfl,Qo,Lv⟩:=hb.at (i:=i) (by omega);have C1:i<b.length:=(by omega);have fU:=uR (i:=i);refine aO ?_
   repeat' (first|(refine jX λR hR=>?_;simp [ai,ar,h0,h1,h5,bI,Qo,hcell,Lv,bL,C1,fU];try simp (disch:=omega) only [if_pos,if_neg,ai,ar])|(refine hR _ _ ?_;clear hR R)|(refine hK _ _ ?_;clear hK K)|refine nx ?_|refine wn λK hK=>?_|simp only [wS,ui]|refine wl Tryz.mx ui (by decide +kernel) λK hK=>?_|(show cM _ _ _ _ _ _;refine nx ?_)|(refine wc rfl (λhc=>?_) (λhc=>?_)<;>(try simp at hc)<;>(try omega))|(refine ib (λhc=>?_) (λhc=>?_)<;>(try omega)<;>(try simp (disch:=omega) only [if_pos,if_neg])))
   simp;intro e;subst e;simp at hc;refine⟨a.length-(i+1),by omega,rfl,i+1,rfl,by omega,?_,?_,?_,?_⟩;simp [h0];simp [h1];simp;intro j tm;by_cases e:j=i;subst e;rw [List.getElem?_eq_getElem bL,List.getElem?_eq_getElem C1,hc];exact hj j (by omega)
 refine aO ?_;refine W (J1 (od ui)) (J4 h0 h1 h5 bL) ?_<;>intros;have e:a=b:=by
  apply List.ext_getElem?;intro j;by_cases tm:j<i;exact hj j tm;rw [List.getElem?_eq_none (by omega),List.getElem?_eq_none (by omega)]
 simp [e]
end
section
namespace TCells
theorem mr [Gl] {A:AW} {L:List It} {T:Prop} (hS:ah A L) (hw:A.Wf) (h':(aR A L/\bj A L/\bN L)=T:=by first|(dsimp only [aa,ag,aR,bj,bN,eE];done)|exact rfl):T:=h'▸hS.eD hw
end TCells
open TCells
variable [Gl]
def vA (vs:Nat->Value) (a:Int):Option Value:=if 1<=a/\a<=8 then some (vs (a-1).toNat) else none
def ey (pb:Nat) (M:Nat->List Int):HP:=
 pG λr:Nat=>pG λvs:Nat->Value=>
  pt pb (.cells [.map (some r)] true 1)*(gl .i64 r (vA vs)*kG (λk=>ap .u64 (vs k) (M k)) 8)
theorem ey.open {A:AW} {pb:Nat} {M:Nat->List Int} {F:HP} (h:bk A (ey pb M*F)) :
 ∃r vs,bk A (pt pb (.cells [.map (some r)] true 1)*(gl .i64 r (vA vs)*(kG (λk=>ap .u64 (vs k) (M k)) 8*F))):=by
 unfold ey at h;rw [bk.ex] at h;obtain⟨r,h⟩:=h;rw [bk.ex] at h;obtain⟨vs,h⟩:=h;rw [HP.cx,HP.cx] at h;exact⟨r,vs,h⟩
theorem ey.dA {A:AW} {pb:Nat} {M:Nat->List Int} {F:HP} {r:Nat} {vs:Nat->Value} (h:bk A (pt pb (.cells [.map (some r)] true 1)*(gl .i64 r (vA vs)*(kG (λk=>ap .u64 (vs k) (M k)) 8*F)))) :
 bk A (ey pb M*F):=by
 unfold ey;rw [bk.ex];refine⟨r,?_⟩;rw [bk.ex];refine⟨vs,?_⟩;rw [HP.cx,HP.cx];exact h
structure aW where
 gu:Int
 cell:Int
 dJ:Int
 fA:Int
 put:Int
 done:Bool
deriving DecidableEq
def aW.v (a:aW):Value:=.agg #[.int .i64 a.gu,.int .i64 a.cell,.int .i64 a.dJ,.int .u64 a.fA,.int .u64 a.put,.bool a.done]
def aW.cells (a:aW):List Value:=[.int .i64 a.gu,.int .i64 a.cell,.int .i64 a.dJ,.int .u64 a.fA,.int .u64 a.put,.bool a.done]
def aW.zero:aW:=⟨0,0,0,0,0,false⟩
def ny (M:Nat->List Int) (cell:Int):List Int:=if 1<=cell/\cell<=8 then M (cell-1).toNat else []
def setRow (M:Nat->List Int) (cell dJ v:Int):Nat->List Int:=λk=>if k=(cell-1).toNat then (M k).set dJ.toNat v else M k
def jh (M:Nat->List Int) (cell dJ:Int):Bool:=decide (0<=dJ/\dJ<(ny M cell).length)
def gn (M:Nat->List Int) (gu cell dJ:Int) (g:Int->Int×Bool):aW:=
 if jh M cell dJ=true then
  let fA:=(ny M cell).getD dJ.toNat 0
  ⟨gu,cell,dJ,fA,if (g fA).2=true then (g fA).1 else fA,(g fA).2⟩
 else aW.zero
def oS (M:Nat->List Int) (cell dJ:Int):Int:=if jh M cell dJ=true then 0 else 60
def Sv (M:Nat->List Int) (gu cell dJ:Int) (g:Int->Int×Bool):Value:=.tuple #[(gn M gu cell dJ g).v,.int .i64 (oS M cell dJ)]
def sc (M:Nat->List Int) (cell dJ:Int) (g:Int->Int×Bool):Nat->List Int:=
 if jh M cell dJ=true/\(g ((ny M cell).getD dJ.toNat 0)).2=true then setRow M cell dJ (g ((ny M cell).getD dJ.toNat 0)).1 else M
def be:List Value:=[.int .i64 0,.int .i64 0,.int .i64 0,.int .u64 0,.int .u64 0,.bool false]
theorem pf (pb:Nat) (M:Nat->List Int) (gu cell dJ:Int) (fc:FuncId) (fs cs:Array Value) (C:HP) (g:Int->Int×Bool)
 (kv:∀fe,oX Tryz.prog fc (fs.toList++.int .u64 fe::cs.toList) C (λv=>Bl (v=.tuple #[.int .u64 (g fe).1,.bool (g fe).2])*C)) :
 oX Tryz.prog 159 [.pointer (some ⟨pb,0,none⟩),.int .i64 gu,.int .i64 cell,.int .i64 dJ,.func (.func fc) fs cs] (ey pb M*C)
  (λv=>Bl (v=Sv M gu cell dJ g)*(ey pb (sc M cell dJ g)*C)):=by
 intro A F I0 hS;refine aF Tryz.func159 λhw=>?_;rw [HP.cx] at hS;obtain⟨r,vs,hS⟩:=ey.open hS;have S8:=hS.bg;have kL:bk A (gl .i64 r (vA vs)*(pt pb (.cells [.map (some r)] true 1)*(kG (λk=>ap .u64 (vs k) (M k)) 8*(C*F)))):=hS.dK (by ac_rfl);obtain⟨qx,vI,tp,Qt,tM,UI⟩:=gl.eD kL;obtain⟨np,X9⟩:=hw.fe S8;obtain⟨nr,X8⟩:=hw.fe vI;by_cases hcell:1<=cell/\cell<=8
 . obtain⟨k,hk⟩:∃k,k=(cell-1).toNat:=⟨_,rfl⟩;have bI:ny M cell=M k:=(by rw [hk];exact if_pos hcell);have AJ:=tp .i64 cell (vs k) (by simp [vA,hcell,hk]);obtain⟨q,AJ⟩:=AJ;have YQ:k<8:=(by omega)
   have xk:bk A (ap .u64 (vs k) (M k)*(kG (rf (λk=>ap .u64 (vs k) (M k)) k eC) 8*(pt pb (.cells [.map (some r)] true 1)*(gl .i64 r (vA vs)*(C*F))))):=
    bk.pick (f:=λk=>ap .u64 (vs k) (M k)) (F:=pt pb (.cells [.map (some r)] true 1)*(gl .i64 r (vA vs)*(C*F))) (hS.dK (by ac_rfl)) YQ
   by_cases vH:0<=dJ/\dJ<(M k).length
   . have VG:jh M cell dJ=true:=by simpa [jh,bI] using vH
     obtain⟨j,hj⟩:∃j,j=dJ.toNat:=⟨_,rfl⟩;have wj:j<(M k).length:=(by omega);have Wd:dJ=(j:Int):=(by omega);subst Wd;have V9:(j:Int)<(M k).length:=(by omega);obtain⟨b,off,c,bP,hv,Y4,wm,Wn,qf,_⟩:=ap.at xk wj;rw [hv] at AJ;have N9:(ny M cell).getD (j:Int).toNat 0=(M k)[j]:=(by rw [bI,<-hj,List.getD_eq_getElem?_getD,List.getElem?_eq_getElem wj];rfl);obtain⟨nb,Uf⟩:=hw.fe wm;revert hS hw;clear hS;refine W cd (vO S8 vI wm Wn AJ np X9 nr X8 nb Uf V9 wj bz) ?_<;>(unhygienic intros)
     have iz:bk (A.alloc (.cells be true 1)) (C*(pt A.next (.cells be true 1)*(ap .u64 (vs k) (M k)*(kG (rf (λk=>ap .u64 (vs k) (M k)) k eC) 8*(pt pb (.cells [.map (some r)] true 1)*(gl .i64 r (vA vs)*F)))))):=
      (xk.alloc hw _).dK (by ac_rfl)
     refine(kv _).use (hw.alloc _) iz rfl ?_;intro v A2 xC jR _;obtain⟨rfl,yw⟩:=xC.pL;clear xC;have tM:bk A2 (ap .u64 (vs k) (M k)*(pt A.next (.cells be true 1)*(C*(kG (rf (λk=>ap .u64 (vs k) (M k)) k eC) 8*(pt pb (.cells [.map (some r)] true 1)*(gl .i64 r (vA vs)*F)))))):=yw.dK (by ac_rfl);have hgx:=(show bk A2 (pt A.next (.cells be true 1)*(ap .u64 (vs k) (M k)*(C*(kG (rf (λk=>ap .u64 (vs k) (M k)) k eC) 8*(pt pb (.cells [.map (some r)] true 1)*(gl .i64 r (vA vs)*F)))))) from yw.dK (by ac_rfl)).bg;clear wm Wn qf;obtain⟨b',off',c',Sp,Xg,_,wm,Wn,qf,ke⟩:=ap.at tM wj;rw [hv] at Xg;injection Xg with e1 e2 e3;injection e1 with e1;injection e1 with e1 e4;subst e1;subst e4;subst e3;have hU:(b=A.next)=False:=nb;have YG:(A.next=b)=False:=eq_false λe=>by rw [e] at hU;simp at hU
     have bO:∀(A3:AW) (L:List Int) (x:dH),bk A3 (ap .u64 (vs k) L*(pt A.next (.cells be true 1)*(C*(kG (rf (λk=>ap .u64 (vs k) (M k)) k eC) 8*(pt pb (.cells [.map (some r)] true 1)*(gl .i64 r (vA vs)*F))))))->
      bk (A3.set A.next (some x)) (ey pb (λq=>if q=k then L else M q)*(C*F)):=by
      intro A3 L x h;have h1:bk A3 (pt A.next (.cells be true 1)*(ap .u64 (vs k) L*(kG (rf (λk=>ap .u64 (vs k) (M k)) k eC) 8*(pt pb (.cells [.map (some r)] true 1)*(gl .i64 r (vA vs)*(C*F)))))):=h.dK (by ac_rfl);have h2:=bk.put (f:=λk=>ap .u64 (vs k) (M k)) (h1.set x).right YQ;have e:rf (λk=>ap .u64 (vs k) (M k)) k (ap .u64 (vs k) L)=λq=>ap .u64 (vs q) (if q=k then L else M q):=by
       funext q;simp only [rf];split;rename_i e;rw [e];rfl
      rw [e] at h2;exact ey.dA (r:=r) (vs:=vs) (h2.dK (by ac_rfl))
     have hbnd:off+j+1<=Sp.length:=(by omega);have mt:Sv M gu cell (j:Int) g=.tuple #[(aW.mk gu cell j (M k)[j] (if (g (M k)[j]).2=true then (g (M k)[j]).1 else (M k)[j]) (g (M k)[j]).2).v,.int .i64 0]:=by
      unfold Sv gn oS;rw [if_pos VG,if_pos VG,N9]
     cases Lt:(g (M k)[j]).2
     . repeat' (first|(refine jX λR hR=>?_;simp [ai,ar,hgx,wm,Wn,hU,YG,AW.af,aB,V9,wj,be,Lt];try simp (disch:=omega) only [if_pos,if_neg,ai,ar])|(refine hR _ _ ?_;clear hR R)|(refine hK _ _ ?_;clear hK K)|refine nx ?_|refine wn λK hK=>?_|simp only [wS]|(show cM _ _ _ _ _ _;refine nx ?_)|(refine wc rfl (λhc=>?_) (λhc=>?_)<;>(try simp at hc)<;>(try omega))|(refine ib (λhc=>?_) (λhc=>?_)<;>(try omega)<;>(try simp (disch:=omega) only [if_pos,if_neg])))
       refine⟨_,by simp [AW.eg,AW.dF,AW.af,aB];rfl,bk.post (by simp [mt,aW.v,Lt]) ?_⟩;have hM:sc M cell (j:Int) g=λq=>if q=k then M k else M q:=by
        funext q;simp only [sc,N9,Lt];simp only [Bool.false_eq_true,and_false,if_false];split;rename_i e;rw [e];rfl
       rw [hM,HP.cx];exact bO A2 (M k) _ tM
     have hcb':(Sp.set (off+j) (Value.int .u64 (g (M k)[j]).1))[off+j]? = some (Value.int .u64 (g (M k)[j]).1):=List.getElem?_set_self (by omega);refine W cd (tA hgx wm Wn hcb' hU YG hbnd V9 wj Lt bz @be.eq_1) ?_<;>intros;refine⟨_,by simp [AW.eg,AW.dF,AW.af,aB];rfl,bk.post (by simp [mt,aW.v,Lt]) ?_⟩;have hM:sc M cell (j:Int) g=λq=>if q=k then (M k).set j (g (M k)[j]).1 else M q:=by
      have e0:sc M cell (j:Int) g=setRow M cell j (g (M k)[j]).1:=(by unfold sc;rw [N9,if_pos ⟨VG,Lt⟩]);rw [e0];funext q;simp only [setRow,<-hk,<-hj];by_cases e:q=k;rw [if_pos e,if_pos e,e];rw [if_neg e,if_neg e]
     rw [hM,HP.cx];exact bO _ _ _ (ke _)
   obtain⟨o,c,hv,_⟩:=(ap.is xk).bE;rw [hv] at AJ;have zO:jh M cell dJ=false:=by simpa [jh,bI] using vH
   repeat' (first|(refine jX λR hR=>?_;simp [ai,ar,S8,vI,AJ,np,X9,nr,X8,AW.af,aB,vH];try simp (disch:=omega) only [if_pos,if_neg,ai,ar])|(refine hR _ _ ?_;clear hR R)|(refine hK _ _ ?_;clear hK K)|refine nx ?_|refine wn λK hK=>?_|simp only [wS]|(show cM _ _ _ _ _ _;refine nx ?_)|(refine wc rfl (λhc=>?_) (λhc=>?_)<;>(try simp at hc)<;>(try omega))|(refine ib (λhc=>?_) (λhc=>?_)<;>(try omega)<;>(try simp (disch:=omega) only [if_pos,if_neg])))
   all_goals
    refine⟨_,by simp [AW.eg,AW.dF,AW.af,aB];rfl,bk.post (by simp [Sv,gn,oS,zO,aW.v,aW.zero]) ?_⟩;have hM:sc M cell dJ g=M:=(by simp [sc,zO]);rw [hM,HP.cx];exact(ey.dA hS).le hw (((AW.le.alloc A _).set (Nat.le_refl _) _))
 have AJ:=Qt .i64 cell (by simp [vA,hcell]);have bI:ny M cell=[]:=if_neg hcell;have zO:jh M cell dJ=false:=by simp [jh,bI]
 repeat' (first|(refine jX λR hR=>?_;simp [ai,ar,S8,vI,AJ,np,X9,nr,X8,AW.af,aB];try simp (disch:=omega) only [if_pos,if_neg,ai,ar])|(refine hR _ _ ?_;clear hR R)|(refine hK _ _ ?_;clear hK K)|refine nx ?_|refine wn λK hK=>?_|simp only [wS]|(show cM _ _ _ _ _ _;refine nx ?_)|(refine wc rfl (λhc=>?_) (λhc=>?_)<;>(try simp at hc)<;>(try omega))|(refine ib (λhc=>?_) (λhc=>?_)<;>(try omega)<;>(try simp (disch:=omega) only [if_pos,if_neg])))
 all_goals first
  | (exfalso;omega)
  | (refine ⟨_,(by simp [AW.eg,AW.dF,AW.af,aB];rfl),bk.post (by simp [Sv,gn,oS,zO,aW.v,aW.zero]) ?_⟩
     have hM:sc M cell dJ g=M:=(by simp [sc,zO]);rw [hM,HP.cx];exact(ey.dA hS).le hw (((AW.le.alloc A _).set (Nat.le_refl _) _)))
end
section
namespace TWord
theorem mr [Gl] {A:AW} {L:List It} {T:Prop} (hS:ah A L) (hw:A.Wf) (h':(aR A L/\bj A L/\bN L)=T:=by first|(dsimp only [aa,ag,aR,bj,bN,eE];done)|exact rfl):T:=h'▸hS.eD hw
end TWord
open TWord
variable [Gl]
def mQ (v:Int):Int:=if 0<=v/\v<=1099511627776 then v*64 else 0
def lD (o:Int):Int:=IntKind.i64.wrap (IntKind.u64.wrap (o.tdiv 64))
def mK (o:Int):Int:=IntKind.i64.wrap (IntKind.i64.wrap (o.tmod 64)-1)
def qg (T1 Nn:Int):Int:=if 0<=T1/\T1<281474976710656/\-1<=Nn/\Nn<64 then T1*65536+(Nn+1) else 0
def Po (h:Int):Int:=IntKind.i64.wrap (IntKind.u64.wrap (h.tdiv 65536))
def iV (h:Int):Int:=IntKind.i64.wrap (IntKind.i64.wrap (h.tmod 65536)-1)
def oD (h Nn:Int):Int:=qg ((IntKind.i64.wrap (Po h+1)).tmod 281474976710656) Nn
theorem Fq (v:Int) (A:AW):ax Tryz.prog 239 [.int .i64 v] A (λu A'=>u=.bool (decide (0<=v/\v<=1099511627776))/\A=A'):=by
 refine aF Tryz.func239 λhw=>?_;refine W cd cd (J2 ?_ ?_)<;>intros
 all_goals(simp_all<;>omega)
theorem KB (v:Int) (A:AW):ax Tryz.prog 197 [.int .i64 v] A (λu A'=>(∃e,u=.tuple #[.int .u64 (mQ v),.int .i64 e])/\A=A'):=by
 refine aF Tryz.func197 λhw=>?_;by_cases h1:0<=v/\v<=1099511627776
 . refine W (J1 @Fq) (J1 h1) ?_<;>intros
   all_goals exact⟨_,by first|(simp;done)|(simp;rfl),⟨_,by simp [mQ,h1];first|done|rfl⟩,rfl⟩
 refine W (J1 @Fq) (J1 h1) ?_<;>intros
 all_goals exact⟨_,by first|(simp;done)|(simp;rfl),⟨_,by simp [mQ,h1];first|done|rfl⟩,rfl⟩
theorem vV (o:Int) (A:AW):ax Tryz.prog 233 [.int .u64 o] A (λv A'=>v=.int .i64 (lD o)/\A=A'):=by
 refine aF Tryz.func233 λhw=>?_;refine W cd cd ?_<;>intros;simp [lD]
theorem xP (o:Int) (A:AW):ax Tryz.prog 232 [.int .u64 o] A (λv A'=>v=.int .i64 (mK o)/\A=A'):=by
 refine aF Tryz.func232 λhw=>?_;refine W cd cd ?_<;>intros;simp [mK]
theorem nD (T1 Nn:Int) (A:AW):ax Tryz.prog 77 [.int .i64 T1,.int .i64 Nn] A (λu A'=>(∃e,u=.tuple #[.int .u64 (qg T1 Nn),.int .i64 e])/\A=A'):=by
 refine aF Tryz.func77 λhw=>?_;by_cases h1:0<=T1<;>by_cases h2:T1<281474976710656<;>by_cases h3:-1<=Nn<;>by_cases h4:Nn<64
 all_goals
  all_goals(revert hw;refine W cd (J4 h1 h2 h3 h4) (J9 ?_ ?_ ?_ ?_ ?_ ?_ ?_ ?_ ?_)<;>(try exact trivial)<;>unhygienic intros)
  all_goals exact⟨_,by first|(simp;done)|(simp;rfl),⟨_,by simp [qg,h1,h2,h3,h4];first|done|rfl⟩,rfl⟩
theorem NE (h:Int) (A:AW):ax Tryz.prog 230 [.int .u64 h] A (λv A'=>v=.int .i64 (Po h)/\A=A'):=by
 refine aF Tryz.func230 λhw=>?_;refine W cd cd ?_<;>intros;simp [Po]
theorem Fs (h:Int) (A:AW):ax Tryz.prog 163 [.int .u64 h] A (λv A'=>v=.int .i64 (iV h)/\A=A'):=by
 refine aF Tryz.func163 λhw=>?_;refine W cd cd ?_<;>intros;simp [iV]
theorem Cr (h Nn:Int) (A:AW):ax Tryz.prog 164 [.int .u64 h,.int .i64 Nn] A (λu A'=>(∃e,u=.tuple #[.int .u64 (oD h Nn),.int .i64 e])/\A=A'):=by
 refine aF Tryz.func164 λhw=>?_;revert hw;refine W (J1 @NE) trivial ?_<;>(unhygienic intros);refine bD (nD _ _ _) ?_;rintro _ _ ⟨⟨e,rfl⟩,rfl⟩ _ _;refine W cd cd ?_<;>intros;exact⟨_,by first|(simp;done)|(simp;rfl),⟨e,by simp [oD]⟩,rfl⟩
end
section
namespace TCfg
theorem mr [Gl] {A:AW} {L:List It} {T:Prop} (hS:ah A L) (hw:A.Wf) (h':(aR A L/\bj A L/\bN L)=T:=by first|(dsimp only [aa,ag,aR,bj,bN,eE];done)|exact rfl):T:=h'▸hS.eD hw
end TCfg
open TCfg
variable [Gl]
structure bq where
 ba:Int
 ao:Int
 base:Int
 c0:Int
 c1:Int
 c2:Int
 c3:Int
 reads:Int
 bK:Int
 ak:Int
 av:Int
 aw:Int
 aT:Bool
def bq.v (c:bq):Value:=.agg #[.int .i64 c.ba,.int .i64 c.ao,.int .i64 c.base,.int .i64 c.c0,.int .i64 c.c1,.int .i64 c.c2,.int .i64 c.c3,.int .i64 c.reads,.int .i64 c.bK,.int .i64 c.ak,.int .i64 c.av,.int .i64 c.aw,.bool c.aT]
def bq.cells (c:bq):List Value:=[.int .i64 c.ba,.int .i64 c.ao,.int .i64 c.base,.int .i64 c.c0,.int .i64 c.c1,.int .i64 c.c2,.int .i64 c.c3,.int .i64 c.reads,.int .i64 c.bK,.int .i64 c.ak,.int .i64 c.av,.int .i64 c.aw,.bool c.aT]
def bq.nb (c:bq):Int:=c.c0+c.c1+c.c2+c.c3
def bq.hw (c:bq):Int:=c.c0+c.c1*2+c.c2*4+c.c3*8
structure db (c:bq):Prop where
 ba:1<=c.ba/\c.ba<=64
 ao:1<=c.ao/\c.ao<=64
 k0:0<=c.c0/\c.c0<=64
 k1:0<=c.c1/\c.c1<=64
 k2:0<=c.c2/\c.c2<=64
 k3:0<=c.c3/\c.c3<=64
 nb:c.nb<=64
 base:0<=c.base/\c.base<=c.ba
 Wy:c.hw<=c.ba-c.base
 reads:1<=c.reads/\c.reads<=32
 bK:1<=c.bK/\c.bK<=32
 ak:0<=c.ak/\c.ak<=8
 av:0<=c.av/\c.av<=8
 aw:0<=c.aw/\c.aw<=1099511627776
theorem HX (n lo hi:Int) (A:AW):ax Tryz.prog 56 [.int .i64 n,.int .i64 lo,.int .i64 hi] A (λv A'=>v=.bool (decide (lo<=n/\n<=hi))/\A=A'):=by
 refine aF Tryz.func56 λ_=>?_;refine W cd cd (J2 ?_ ?_)<;>intros
 all_goals(simp_all<;>omega)
end
section
variable [Gl]
def mP (o:Int):Int×Bool:=(o,true)
def iA (v:Int) (_:Int):Int×Bool:=(v,true)
def oV (fe v:Int) (o:Int):Int×Bool:=(v,decide (o=fe))
def EO (v:Int) (o:Int):Int×Bool:=(IntKind.u64.wrap (o+v),true)
abbrev Mm:=Nat->List Int
def iP (M:Mm) (cell dJ:Int):aW:=gn M 1 cell dJ mP
def DU (M:Mm) (cell dJ v:Int):aW:=gn M 2 cell dJ (iA v)
def Ea (M:Mm) (cell dJ fe v:Int):aW:=gn M 3 cell dJ (oV fe v)
def XG (M:Mm) (cell dJ v:Int):aW:=gn M 4 cell dJ (EO v)
def Gj (M:Mm) (cell dJ v:Int):Mm:=sc M cell dJ (iA v)
def Sl (M:Mm) (cell dJ fe v:Int):Mm:=sc M cell dJ (oV fe v)
def adM (M:Mm) (cell dJ v:Int):Mm:=sc M cell dJ (EO v)
structure iE where
 am:Int
 bR:Int
 aw:Int
def iE.El (s:iE):Int:=if s.bR<=1 then -1 else IntKind.i64.wrap s.aw
def ic (s:iE) (M:Mm):aW×iE×Mm:=
 if s.bR=0 then (DU M 6 s.am 1,{ s with bR:=1 },Gj M 6 s.am 1)
 else if s.bR=1 then (iP M 3 0,{ s with bR:=2,aw:=(iP M 3 0).fA },M)
 else if s.bR=2 then (DU M 6 s.am (IntKind.u64.wrap (s.aw+2)),{ s with bR:=3 },Gj M 6 s.am (IntKind.u64.wrap (s.aw+2)))
 else (aW.zero,s,M)
structure kK where
 Ao:Bool
 kR:Int
 done:Bool
def kK.gf (s:kK):Int:=if s.Ao=true then IntKind.i64.wrap s.kR else -1
def ja (s:kK) (M:Mm):aW×kK×Mm:=
 if s.done=true then (aW.zero,s,M)
 else if s.Ao=false then (XG M 4 0 1,{ s with Ao:=true,kR:=(XG M 4 0 1).fA },adM M 4 0 1)
 else (iP M 5 0,{ s with done:=decide ((iP M 5 0).fA=s.kR) },M)
def Cs (kR:Int):Int:=IntKind.u64.wrap (IntKind.u64.wrap kR+1)
structure qB where
 eH:Int
 bR:Int
 head:Int
 next:Int
 block:Int
def gG (s:qB) (M:Mm):aW×qB×Mm:=
 if s.bR=0 then (iP M 7 s.eH,{ s with head:=(iP M 7 s.eH).fA,bR:=if iV (iP M 7 s.eH).fA<0 then 3 else 1 },M)
 else if s.bR=1 then (iP M 8 (iV s.head),{ s with next:=(iP M 8 (iV s.head)).fA,bR:=2 },M)
 else if s.bR=2 then
  let w:=oD s.head (IntKind.i64.wrap (IntKind.i64.wrap s.next-1))
  (Ea M 7 s.eH s.head w,if (Ea M 7 s.eH s.head w).done=true then { s with bR:=3,block:=iV s.head } else { s with bR:=0 },Sl M 7 s.eH s.head w)
 else (aW.zero,s,M)
structure fM where
 eH:Int
 block:Int
 bR:Int
 head:Int
def ej (s:fM) (M:Mm):aW×fM×Mm:=
 if s.bR=0 then (iP M 7 s.eH,{ s with head:=(iP M 7 s.eH).fA,bR:=1 },M)
 else if s.bR=1 then
  let w:=IntKind.u64.wrap (IntKind.i64.wrap (iV s.head+1))
  (DU M 8 s.block w,{ s with bR:=2 },Gj M 8 s.block w)
 else if s.bR=2 then
  let w:=oD s.head s.block
  (Ea M 7 s.eH s.head w,{ s with bR:=if (Ea M 7 s.eH s.head w).done=true then 3 else 0 },Sl M 7 s.eH s.head w)
 else (aW.zero,s,M)
structure ip where
 dD:Int
 gE:Int
 rv:Int
 bR:Int
 eF:Int
 value:Int
 gM:Bool
def ip.done (s:ip):Bool:=decide (s.bR=3)
def ip.val (s:ip):Int:=if s.bR=3/\s.gM=false then s.value else 0
def dY (s:ip) (M:Mm):aW×ip×Mm:=
 if s.bR=0 then
  let a:=iP M 2 s.gE
  (a,if mK a.fA≥0\/lD a.fA>s.rv then { s with eF:=a.fA,gM:=true,bR:=3 } else { s with eF:=a.fA,bR:=1 },M)
 else if s.bR=1 then (iP M 1 s.dD,{ s with value:=(iP M 1 s.dD).fA,bR:=2 },M)
 else if s.bR=2 then (iP M 2 s.gE,{ s with gM:=decide ((iP M 2 s.gE).fA≠s.eF),bR:=3 },M)
 else (aW.zero,s,M)
structure ij where
 ao:List Int
 rv:Int
 jp:Bool
def ij.done (s:ij):Bool:=s.jp || decide (s.ao.length=0)
def lq (s:ij) (M:Mm):aW×ij×Mm:=
 if s.done=true then (aW.zero,s,M)
 else (iP M 2 (s.ao.getD 0 0),{ s with ao:=s.ao.tail,jp:=decide (lD (iP M 2 (s.ao.getD 0 0)).fA>s.rv) },M)
end
section
abbrev SA:List (Nat×Nat):=[(0,0),(1,0),(2,0),(3,0),(4,0),(5,0)]
namespace TMemO
theorem mr [Gl] {A:AW} {L:List It} {T:Prop} (hS:ah A L) (hw:A.Wf) (h':(aR A L/\bj A L/\bN L)=T:=by first|(dsimp only [aa,ag,aR,bj,bN,eE];done)|exact rfl):T:=h'▸hS.eD hw
end TMemO
open TMemO
variable [Gl]
theorem PN {M:Nat->List Int} {cell dJ:Int} {g:Int->Int×Bool} (h:∀o,(g o).2=true->(g o).1=o):sc M cell dJ g=M:=by
 unfold sc;split;rename_i hc;funext k;simp only [setRow];split;rename_i e;rw [h _ hc.2];have hh:1<=cell/\cell<=8:=by
  have:=hc.1;simp only [jh,ny] at this;split at this;assumption;simp at this;omega
 have hr:ny M cell=M k:=by rw [e];exact if_pos hh
 have hi:0<=dJ/\dJ<(M k).length:=by
  have:=hc.1;rw [jh,hr] at this
  simpa using this
 rw [hr];apply List.ext_getElem?;intro q;by_cases eq:dJ.toNat=q;subst eq;rw [List.getElem?_set_self (by omega),List.getD_eq_getElem?_getD,List.getElem?_eq_getElem (by omega)];rfl;rw [List.getElem?_set_ne eq];rfl;rfl
theorem KR (fe:Int):oX Tryz.prog 160 [.int .u64 fe] eC (λv=>Bl (v=.tuple #[.int .u64 (mP fe).1,.bool (mP fe).2])*eC):=by
 intro A F hw hS;refine aF Tryz.func160 λ_=>?_;revert hS hw;refine W cd cd ?_<;>(unhygienic intros);exact⟨_,rfl,bk.post rfl hS⟩
theorem H8 (b:Nat) (x fe:Int):oX Tryz.prog 202 [.int .u64 fe,.pointer (some ⟨b,0,none⟩)] (pt b (.cells [.int .u64 x] true 1))
 (λv=>Bl (v=.tuple #[.int .u64 (iA x fe).1,.bool (iA x fe).2])*pt b (.cells [.int .u64 x] true 1)):=by
 intro A F hw hS;refine aF Tryz.func202 λ_=>?_;have hg:=hS.bg;revert hS hw;refine W cd (J2 hg @AW.af) ?_<;>(unhygienic intros);exact⟨_,rfl,bk.post rfl hS⟩
theorem Ka (b c:Nat) (x y fe:Int):oX Tryz.prog 231 [.int .u64 fe,.pointer (some ⟨b,0,none⟩),.pointer (some ⟨c,0,none⟩)]
 (pt b (.cells [.int .u64 x] true 1)*pt c (.cells [.int .u64 y] true 1))
 (λv=>Bl (v=.tuple #[.int .u64 (oV y x fe).1,.bool (oV y x fe).2])*(pt b (.cells [.int .u64 x] true 1)*pt c (.cells [.int .u64 y] true 1))):=by
 intro A F hw hS;refine aF Tryz.func231 λ_=>?_;rw [HP.cx] at hS;have hg:=hS.bg;have Lt:=hS.right.bg;revert hS hw;refine W (J1 (od SA)) (J3 hg Lt @AW.af) ?_<;>(unhygienic intros);exact⟨_,rfl,bk.post (by simp [oV]) (by rw [HP.cx];exact hS)⟩
theorem IO (pb:Nat) (M:Nat->List Int) (cell dJ:Int) :
 oX Tryz.prog 108 [.pointer (some ⟨pb,0,none⟩),.int .i64 cell,.int .i64 dJ] (ey pb M)
  (λv=>Bl (v=.tuple #[(gn M 1 cell dJ mP).v,.int .i64 (oS M cell dJ)])*ey pb M):=by
 intro A F hw hS;refine aF Tryz.func108 λ_=>?_;revert hS hw;refine W cd cd ?_<;>(unhygienic intros);have iz:bk (A.alloc (.cells be true 1)) ((ey pb M*eC)*(pt A.next (.cells be true 1)*F)):=by
  rw [du];exact(hS.alloc hw _).dK (by ac_rfl)
 refine(pf pb M 1 cell dJ _ #[] #[] eC mP KR).use (hw.alloc _) iz rfl ?_;intro v A2 kL jR _;obtain⟨rfl,tM⟩:=kL.pL;clear kL;rw [du,PN (by intro o _;rfl)] at tM;have xk:bk A2 (pt A.next (.cells be true 1)*(ey pb M*F)):=tM.dK (by ac_rfl);have hg:=xk.bg;refine W cd (J5 hg bz @be.eq_1 @Sv.eq_1 @aW.v.eq_1) ?_<;>intros;exact⟨_,by simp [AW.eg,AW.dF,AW.af,aB,aW.v];rfl,bk.post (by simp [aW.v]) (xk.set _).right⟩
theorem rQ (pb:Nat) (M:Nat->List Int) (cell dJ x:Int) :
 oX Tryz.prog 124 [.pointer (some ⟨pb,0,none⟩),.int .i64 cell,.int .i64 dJ,.int .u64 x] (ey pb M)
  (λv=>Bl (v=.tuple #[(gn M 2 cell dJ (iA x)).v,.int .i64 (oS M cell dJ)])*ey pb (sc M cell dJ (iA x))):=by
 intro A F hw hS;refine aF Tryz.func124 λ_=>?_;revert hS hw;refine W cd cd ?_<;>(unhygienic intros);have jg:=hw.alloc (.cells [.int .u64 x] true 1)
 have iz:bk ((A.alloc (.cells [.int .u64 x] true 1)).alloc (.cells be true 1)) ((ey pb M*pt A.next (.cells [.int .u64 x] true 1))*(pt (A.next+1) (.cells be true 1)*F)):=
  ((hS.alloc hw (.cells [.int .u64 x] true 1)).alloc jg (.cells be true 1)).dK (by simp only [AW.aV];ac_rfl)
 refine(pf pb M 2 cell dJ _ #[] #[.pointer (some ⟨A.next,0,none⟩)] _ (iA x) (H8 A.next x)).use (jg.alloc _) iz rfl ?_;intro v A2 kL jR _;obtain⟨rfl,tM⟩:=kL.pL;clear kL;have xk:bk A2 (pt (A.next+1) (.cells be true 1)*(pt A.next (.cells [.int .u64 x] true 1)*(ey pb (sc M cell dJ (iA x))*F))):=tM.dK (by ac_rfl);have hg:=xk.bg;refine W cd (J5 hg bz @be.eq_1 @Sv.eq_1 @aW.v.eq_1) ?_<;>intros;exact⟨_,by simp [AW.eg,AW.dF,AW.af,aB,aW.v];rfl,bk.post (by simp [aW.v]) (xk.set _).right.right⟩
theorem IN (pb:Nat) (M:Nat->List Int) (cell dJ x y:Int) :
 oX Tryz.prog 165 [.pointer (some ⟨pb,0,none⟩),.int .i64 cell,.int .i64 dJ,.int .u64 x,.int .u64 y] (ey pb M)
  (λv=>Bl (v=.tuple #[(gn M 3 cell dJ (oV x y)).v,.int .i64 (oS M cell dJ)])*ey pb (sc M cell dJ (oV x y))):=by
 intro A F hw hS;refine aF Tryz.func165 λ_=>?_;revert hS hw;refine W cd cd ?_<;>(unhygienic intros);have jg:=hw.alloc (.cells [.int .u64 x] true 1);have jR:=jg.alloc (.cells [.int .u64 y] true 1)
 have iz:bk (((A.alloc (.cells [.int .u64 x] true 1)).alloc (.cells [.int .u64 y] true 1)).alloc (.cells be true 1))
  ((ey pb M*(pt (A.next+1) (.cells [.int .u64 y] true 1)*pt A.next (.cells [.int .u64 x] true 1)))*(pt (A.next+1+1) (.cells be true 1)*F)):=
  (((hS.alloc hw (.cells [.int .u64 x] true 1)).alloc jg (.cells [.int .u64 y] true 1)).alloc jR (.cells be true 1)).dK (by simp only [AW.aV];ac_rfl)
 refine(pf pb M 3 cell dJ _ #[] #[.pointer (some ⟨A.next+1,0,none⟩),.pointer (some ⟨A.next,0,none⟩)] _ (oV x y) (Ka (A.next+1) A.next y x)).use (jR.alloc _) iz rfl ?_;intro v A2 kL CU _;obtain⟨rfl,tM⟩:=kL.pL;clear kL;have xk:bk A2 (pt (A.next+1+1) (.cells be true 1)*(pt A.next (.cells [.int .u64 x] true 1)*(pt (A.next+1) (.cells [.int .u64 y] true 1)*(ey pb (sc M cell dJ (oV x y))*F)))):=tM.dK (by ac_rfl);have hg:=xk.bg;refine W cd (J5 hg bz @be.eq_1 @Sv.eq_1 @aW.v.eq_1) ?_<;>intros;exact⟨_,by simp [AW.eg,AW.dF,AW.af,aB,aW.v];rfl,bk.post (by simp [aW.v]) (xk.set _).right.right.right⟩
theorem OH (b:Nat) (x fe:Int):oX Tryz.prog 252 [.int .u64 fe,.pointer (some ⟨b,0,none⟩)] (pt b (.cells [.int .u64 x] true 1))
 (λv=>Bl (v=.tuple #[.int .u64 (EO x fe).1,.bool (EO x fe).2])*pt b (.cells [.int .u64 x] true 1)):=by
 intro A F hw hS;refine aF Tryz.func252 λ_=>?_;have hg:=hS.bg;revert hS hw;refine W cd (J2 hg @AW.af) ?_<;>(unhygienic intros);exact⟨_,by first|(simp;done)|(simp;rfl),bk.post (by simp [EO]) hS⟩
theorem SD (pb:Nat) (M:Nat->List Int) (cell dJ x:Int) :
 oX Tryz.prog 236 [.pointer (some ⟨pb,0,none⟩),.int .i64 cell,.int .i64 dJ,.int .u64 x] (ey pb M)
  (λv=>Bl (v=.tuple #[(gn M 4 cell dJ (EO x)).v,.int .i64 (oS M cell dJ)])*ey pb (sc M cell dJ (EO x))):=by
 intro A F hw hS;refine aF Tryz.func236 λ_=>?_;revert hS hw;refine W cd cd ?_<;>(unhygienic intros);have jg:=hw.alloc (.cells [.int .u64 x] true 1)
 have iz:bk ((A.alloc (.cells [.int .u64 x] true 1)).alloc (.cells be true 1)) ((ey pb M*pt A.next (.cells [.int .u64 x] true 1))*(pt (A.next+1) (.cells be true 1)*F)):=
  ((hS.alloc hw (.cells [.int .u64 x] true 1)).alloc jg (.cells be true 1)).dK (by simp only [AW.aV];ac_rfl)
 refine(pf pb M 4 cell dJ _ #[] #[.pointer (some ⟨A.next,0,none⟩)] _ (EO x) (OH A.next x)).use (jg.alloc _) iz rfl ?_;intro v A2 kL jR _;obtain⟨rfl,tM⟩:=kL.pL;clear kL;have xk:bk A2 (pt (A.next+1) (.cells be true 1)*(pt A.next (.cells [.int .u64 x] true 1)*(ey pb (sc M cell dJ (EO x))*F))):=tM.dK (by ac_rfl);have hg:=xk.bg;refine W cd (J5 hg bz @be.eq_1 @Sv.eq_1 @aW.v.eq_1) ?_<;>intros;exact⟨_,by simp [AW.eg,AW.dF,AW.af,aB,aW.v];rfl,bk.post (by simp [aW.v]) (xk.set _).right.right⟩
def dG (pb:Nat) (M:Mm):It:=.h (ey pb M)
theorem kY (pb:Nat) (M:Mm):aE [dG pb M]=ey pb M:=by show ey pb M*eC=_;rw [du]
theorem Qh (pb:Nat) (M:Mm) (cell dJ:Int):bf Tryz.prog 108 [.pointer (some ⟨pb,0,none⟩),.int .i64 cell,.int .i64 dJ] [dG pb M]
 (λv=>v=.tuple #[(iP M cell dJ).v,.int .i64 (oS M cell dJ)]) (λ_=>[dG pb M]):=
 bf.pX (IO pb M cell dJ) (kY pb M) λv=>by rw [kY];rfl
theorem W2 (pb:Nat) (M:Mm) (cell dJ x:Int):bf Tryz.prog 124 [.pointer (some ⟨pb,0,none⟩),.int .i64 cell,.int .i64 dJ,.int .u64 x] [dG pb M]
 (λv=>v=.tuple #[(DU M cell dJ x).v,.int .i64 (oS M cell dJ)]) (λ_=>[dG pb (Gj M cell dJ x)]):=
 bf.pX (rQ pb M cell dJ x) (kY pb M) λv=>by rw [kY];rfl
theorem swL (pb:Nat) (M:Mm) (cell dJ x y:Int):bf Tryz.prog 165 [.pointer (some ⟨pb,0,none⟩),.int .i64 cell,.int .i64 dJ,.int .u64 x,.int .u64 y] [dG pb M]
 (λv=>v=.tuple #[(Ea M cell dJ x y).v,.int .i64 (oS M cell dJ)]) (λ_=>[dG pb (Sl M cell dJ x y)]):=
 bf.pX (IN pb M cell dJ x y) (kY pb M) λv=>by rw [kY];rfl
theorem adL (pb:Nat) (M:Mm) (cell dJ x:Int):bf Tryz.prog 236 [.pointer (some ⟨pb,0,none⟩),.int .i64 cell,.int .i64 dJ,.int .u64 x] [dG pb M]
 (λv=>v=.tuple #[(XG M cell dJ x).v,.int .i64 (oS M cell dJ)]) (λ_=>[dG pb (adM M cell dJ x)]):=
 bf.pX (SD pb M cell dJ x) (kY pb M) λv=>by rw [kY];rfl
end
section
variable [Gl]
inductive ay:List It->It->List It->Prop where
 | z {x:It} {L:List It}:ay (x::L) x L
 | s {x y:It} {L K:List It}:ay L x K->ay (y::L) x (y::K)
 | e {x y:It} {L:List It}:x.hp=y.hp->ay (x::L) y L
inductive aP:List It->List It->List It->Prop where
 | z {L:List It}:aP L [] L
 | s {x:It} {L M J K:List It}:ay L x M->aP M J K->aP L (x::J) K
theorem ay.aE {L K:List It} {x:It} (h:ay L x K):aE L=x.hp*aE K:=by
 induction h with
 | z=>rfl
 | e h=>
   rename_i x y L;show x.hp*Stx.aE L=y.hp*Stx.aE L;rw [h]
 | s h ih=>
   rename_i x y L K;show y.hp*Stx.aE L=x.hp*(y.hp*Stx.aE K);rw [ih];ac_rfl
theorem aP.aE {L J K:List It} (h:aP L J K):aE L=aE J*aE K:=by
 induction h with
 | z=>rename_i L;show Stx.aE L=eC*Stx.aE L;rw [gL]
 | s h1 h2 ih=>
   rename_i x L M J K;rw [h1.aE,ih];show x.hp*(Stx.aE J*Stx.aE K)=x.hp*Stx.aE J*Stx.aE K
   ac_rfl
theorem ay.HI {b:Nat} {o o':dH} {L:List It} (h:o=o'):ay (.at b o::L) (.at b o') L:=by rw [h];exact .z
theorem bf.eZ {P:Program} {f:FuncId} {args:List Value} {pC:List It} {φ:Value->Prop} {post:Value->List It} (h:bf P f args pC φ post) {A:AW} {L K:List It} {k:Value->AW->Prop} (hw:A.Wf) (hS:ah A L) (e:aP L pC K)
 (hk:∀v A',φ v->ah A' (post v++K)->A'.Wf->A.next<=A'.next->k v A'):ax P f args A k:=by
 have qh:ah A (pC++[.h (Stx.aE K)]):=by
  unfold ah at *;rw [e.aE] at hS;rw [fF];show bk A (Stx.aE pC*(Stx.aE K*eC));rw [du];exact hS
 refine bD (h A (Stx.aE K) hw qh) ?_;rintro v A' ⟨h1,h2⟩ i8 hn;refine hk v A' h1 ?_ i8 hn;unfold ah at *;rw [fF] at h2 ⊢;have h3:bk A' (Stx.aE (post v)*(Stx.aE K*eC)):=h2;rwa [du] at h3
def dT {ι:Type} (P:Program) (f:FuncId) (args:List Value) (pC:List It) (φ:ι->Value->Prop) (post:ι->List It):Prop:=
 ∀(A:AW) (F:HP),A.Wf->ah A (pC++[.h F])->ax P f args A λv A'=>∃x,φ x v/\ah A' (post x++[.h F])
theorem dT.eZ {ι:Type} {P:Program} {f:FuncId} {args:List Value} {pC:List It} {φ:ι->Value->Prop} {post:ι->List It} (h:dT P f args pC φ post) {A:AW} {L K:List It} {k:Value->AW->Prop} (hw:A.Wf) (hS:ah A L) (e:aP L pC K)
 (hk:∀x v A',φ x v->ah A' (post x++K)->A'.Wf->A.next<=A'.next->k v A'):ax P f args A k:=by
 have qh:ah A (pC++[.h (aE K)]):=by
  unfold ah at *;rw [e.aE] at hS;rw [fF];show bk A (aE pC*(aE K*eC));rw [du];exact hS
 refine bD (h A (aE K) hw qh) ?_;rintro v A' ⟨x,h1,h2⟩ i8 hn;refine hk x v A' h1 ?_ i8 hn;unfold ah at *;rw [fF] at h2 ⊢;have h3:bk A' (aE (post x)*(aE K*eC)):=h2;rwa [du] at h3
theorem ah.bO {A:AW} {L G K:List It} (h:ah A L) (e:aP L G K):ah A G:=by
 unfold ah at *;rw [e.aE] at h;exact h.left
theorem ah.fX {A:AW} {L K:List It} {i:Nat} {o o':dH} (h:ah A L) (e:ay L (.at i o) K):ah (A.set i (some o')) (.at i o'::K):=by
 unfold ah at *;rw [e.aE] at h;exact bk.set h o'
theorem ah.WQ {A:AW} {L:List It} {o:dH} (h:ah A L) (hw:A.Wf):ah (A.alloc o) (.at A.next o::L):=h.alloc hw o
theorem ah.ltR {A X:AW} {L K:List It} {i:Nat} {o:dH} (h:ah A L) (hw:A.Wf) (e:ay L (.at i o) K) (hl:A.next<=X.next):i<X.next:=by
 unfold ah at h;rw [e.aE] at h;exact Nat.lt_of_lt_of_le (hw.lt (bk.bg h)) hl
theorem wA {A:AW} (h':A.Wf:=by first|((repeat' (first|assumption|apply AW.Wf.alloc|apply AW.Wf.set|exact Nat.le_refl _|(simp only [AW.aV,AW.tU];omega)|apply ah.ltR hS hw|apply ay.z|apply ay.s));done)|fail):A.Wf:=h'
theorem sA {A:AW} {L:List It} (h':ah A L:=by first|((repeat' (first|exact hS|exact Nat.le_refl _|with_reducible apply ah.fX|with_reducible apply ah.RG|with_reducible apply AW.IA|with_reducible apply AW.P3|with_reducible apply ah.WQ|with_reducible apply ay.z|with_reducible apply ay.s|assumption|apply AW.Wf.alloc|apply AW.Wf.set|(simp only [AW.aV,AW.tU];omega)|apply ah.ltR hS hw|exact rfl));done)|fail):ah A L:=h'
theorem pA {L G K:List It} (h':aP L G K:=by first|((repeat' (first|apply aP.z|apply aP.s|apply ay.z|apply ay.s));done)|fail):aP L G K:=h'
theorem kA {L K:List It} {x:It} (h':ay L x K:=by first|((repeat' (first|apply aP.z|apply aP.s|apply ay.z|apply ay.s));done)|fail):ay L x K:=h'
theorem lA {A:AW} {L L':List It} (h:ah A L) (h':L=L':=by first|(dsimp only [AW.aV,aa,ag];done)|exact rfl):ah A L':=h'▸h
namespace T0
theorem mr [Gl] {A:AW} {L:List It} {T:Prop} (hS:ah A L) (hw:A.Wf) (h':(aR A L/\bj A L/\bN L)=T:=by first|(dsimp only [aa,ag,aR,bj,bN,eE,dG,gF,jx,nf,gK,il];done)|exact rfl):T:=h'▸hS.eD hw
end T0
theorem I3 [Gl] {A:AW} {L:List It} {T:Prop} (hS:ah A L) (hw:A.Wf) (h':(aR A L/\bj A L/\bN L)=T:=by first|(dsimp only [aa,ag,dG,aR,bj,bN,eE,gF,jx,nf,gK,il];done)|exact rfl):T:=h'▸hS.eD hw
namespace T2
theorem mr [Gl] {A:AW} {L:List It} {T:Prop} (hS:ah A L) (hw:A.Wf) (h':(aR A L/\bj A L/\bN L)=T:=by first|(dsimp only [aa,ag,aR,bj,bN,eE,dG];done)|exact rfl):T:=h'▸hS.eD hw
end T2
theorem fk [Gl] {A:AW} {L:List It} {T:Prop} (hS:ah A L) (hw:A.Wf) (h':(aR A L/\bj A L/\bN L)=T:=by first|(dsimp only [aa,ag,dG,aR,bj,bN,eE];done)|exact rfl):T:=h'▸hS.eD hw
namespace T4
theorem mr [Gl] {A:AW} {L:List It} {T:Prop} (hS:ah A L) (hw:A.Wf) (h':(aR A L/\bj A L/\bN L)=T:=by first|(dsimp only [aa,ag,aR,bj,bN,eE,Vi,Sr];done)|exact rfl):T:=h'▸hS.eD hw
end T4
namespace T5
theorem mr [Gl] {A:AW} {L:List It} {T:Prop} (hS:ah A L) (hw:A.Wf) (h':(aR A L/\bj A L/\bN L)=T:=by first|(dsimp only [aa,ag,aR,bj,bN,eE,tV];done)|exact rfl):T:=h'▸hS.eD hw
end T5
namespace T6
theorem mr [Gl] {A:AW} {L:List It} {T:Prop} (hS:ah A L) (hw:A.Wf) (h':(aR A L/\bj A L/\bN L)=T:=by first|(dsimp only [aa,ag,aR,bj,bN,eE,ll];done)|exact rfl):T:=h'▸hS.eD hw
end T6
namespace T7
theorem mr [Gl] {A:AW} {L:List It} {T:Prop} (hS:ah A L) (hw:A.Wf) (h':(aR A L/\bj A L/\bN L)=T:=by first|(dsimp only [aa,ag,aR,bj,bN,eE];done)|exact rfl):T:=h'▸hS.eD hw
end T7
theorem hqx8 [Gl] {A:AW} {L:List It} {T:Prop} (hS:ah A L) (hw:A.Wf) (h':(aR A L/\bj A L/\bN L)=T:=by first|(dsimp only [aa,ag,aR,bj,bN,eE,ll];done)|exact rfl):T:=h'▸hS.eD hw
theorem fm [Gl] {A:AW} {L:List It} {T:Prop} (hS:ah A L) (hw:A.Wf) (h':(aR A L/\bj A L/\bN L)=T:=by first|(dsimp only [aa,ag,aR,bj,bN,eE];done)|exact rfl):T:=h'▸hS.eD hw
namespace T10
theorem mr [Gl] {A:AW} {L:List It} {T:Prop} (hS:ah A L) (hw:A.Wf) (h':(aR A L/\bj A L/\bN L)=T:=by first|(dsimp only [aa,ag,aR,bj,bN,eE,Vi,Sq,Vk,XW,Vm,Vl];done)|exact rfl):T:=h'▸hS.eD hw
end T10
namespace T11
theorem mr [Gl] {A:AW} {L:List It} {T:Prop} (hS:ah A L) (hw:A.Wf) (h':(aR A L/\bj A L/\bN L)=T:=by first|(dsimp only [aa,ag,aR,bj,bN,eE,Vi];done)|exact rfl):T:=h'▸hS.eD hw
end T11
namespace T12
theorem mr [Gl] {A:AW} {L:List It} {T:Prop} (hS:ah A L) (hw:A.Wf) (h':(aR A L/\bj A L/\bN L)=T:=by first|(dsimp only [aa,ag,aR,bj,bN,eE,tC,gF,jx,nf,gK,il];done)|exact rfl):T:=h'▸hS.eD hw
end T12
namespace T13
theorem hqO [Gl] {A:AW} {L:List It} {T:Prop} (hS:ah A L) (hw:A.Wf) (h':(aR A L/\bj A L/\bN L)=T:=by first|(dsimp only [aa,ag,aR,bj,bN,eE,tC,pU,lY,qq,wT,mf,lV,iL,pV,pM,wH,pN];done)|exact rfl):T:=h'▸hS.eD hw
end T13
theorem MI [Gl] {A:AW} {L:List It} {T:Prop} (hS:ah A L) (hw:A.Wf) (h':(aR A L/\bj A L/\bN L)=T:=by first|(dsimp only [aa,ag,aR,bj,bN,eE,tC];done)|exact rfl):T:=h'▸hS.eD hw
theorem FC [Gl] {A:AW} {L:List It} {T:Prop} (hS:ah A L) (hw:A.Wf) (h':(aR A L/\bj A L/\bN L)=T:=by first|(dsimp only [aa,ag,aR,bj,bN,eE,tC,gF,jx,nf,gK,il];done)|exact rfl):T:=h'▸hS.eD hw
theorem eK [Gl] {A:AW} {L:List It} {T:Prop} (hS:ah A L) (hw:A.Wf) (h':(aR A L/\bj A L/\bN L)=T:=by first|(dsimp only [aa,ag,aR,bj,bN,eE,tC,pU,lY,qq,wT,mf,lV,iL,pV,pM,wH,pN];done)|exact rfl):T:=h'▸hS.eD hw
namespace T17
theorem mr [Gl] {A:AW} {L:List It} {T:Prop} (hS:ah A L) (hw:A.Wf) (h':(aR A L/\bj A L/\bN L)=T:=by first|(dsimp only [aa,ag,aR,bj,bN,eE,tC,gF,jx,nf,gK,il,dG];done)|exact rfl):T:=h'▸hS.eD hw
end T17
theorem AG [Gl] {A:AW} {L:List It} {T:Prop} (hS:ah A L) (hw:A.Wf) (h':(aR A L/\bj A L/\bN L)=T:=by first|(dsimp only [aa,ag,aR,bj,bN,eE,tC,gF,jx,nf,gK,il,dG];done)|exact rfl):T:=h'▸hS.eD hw
theorem fC [Gl] {A:AW} {L:List It} {T:Prop} (hS:ah A L) (hw:A.Wf) (h':(aR A L/\bj A L/\bN L)=T:=by first|(dsimp only [aa,ag,dG,aR,bj,bN,eE,tC,pU,lY,qq,wT,mf,lV,iL,pV,pM,wH,pN];done)|exact rfl):T:=h'▸hS.eD hw
namespace T20
theorem mr [Gl] {A:AW} {L:List It} {T:Prop} (hS:ah A L) (hw:A.Wf) (h':(aR A L/\bj A L/\bN L)=T:=by first|(dsimp only [aa,ag,aR,bj,bN,eE,tC,gF,jx,nf,gK,il,dG,pU,lY,qq,wT,mf,lV,iL,pV,pM,wH,pN];done)|exact rfl):T:=h'▸hS.eD hw
end T20
theorem Yx [Gl] {A:AW} {L:List It} {T:Prop} (hS:ah A L) (hw:A.Wf) (h':(aR A L/\bj A L/\bN L)=T:=by first|(dsimp only [aa,ag,aR,bj,bN,eE,tC,gF,jx,nf,gK,il,dG,pU,lY,qq,wT,mf,lV,iL,pV,pM,wH,pN];done)|exact rfl):T:=h'▸hS.eD hw
namespace T22
theorem mr [Gl] {A:AW} {L:List It} {T:Prop} (hS:ah A L) (hw:A.Wf) (h':(aR A L/\bj A L/\bN L)=T:=by first|(dsimp only [aa,ag,aR,bj,bN,eE,refO,cfgO];done)|exact rfl):T:=h'▸hS.eD hw
end T22
namespace T24
theorem mr [Gl] {A:AW} {L:List It} {T:Prop} (hS:ah A L) (hw:A.Wf) (h':(aR A L/\bj A L/\bN L)=T:=by first|(dsimp only [aa,ag,aR,bj,bN,eE,dG,rU];done)|exact rfl):T:=h'▸hS.eD hw
end T24
theorem oU [Gl] {A:AW} {L:List It} {T:Prop} (hS:ah A L) (hw:A.Wf) (h':(aR A L/\bj A L/\bN L)=T:=by first|(dsimp only [aa,ag,dG,aR,bj,bN,eE,rU];done)|exact rfl):T:=h'▸hS.eD hw
namespace T26
theorem mr [Gl] {A:AW} {L:List It} {T:Prop} (hS:ah A L) (hw:A.Wf) (h':(aR A L/\bj A L/\bN L)=T:=by first|(dsimp only [aa,ag,aR,bj,bN,eE,dG,Qf,gK];done)|exact rfl):T:=h'▸hS.eD hw
end T26
theorem yn [Gl] {A:AW} {L:List It} {T:Prop} (hS:ah A L) (hw:A.Wf) (h':(aR A L/\bj A L/\bN L)=T:=by first|(dsimp only [aa,ag,dG,aR,bj,bN,eE,Qf,gK];done)|exact rfl):T:=h'▸hS.eD hw
end
section
abbrev Iz:List (Nat×Nat):=[(0,0),(1,0),(2,0),(3,0),(4,0),(5,0),(6,0),(7,0),(8,0),(9,0),(10,3),(11,0),(12,0),(13,0),(14,3)]
abbrev P1:List (Nat×Nat):=[(0,0),(1,0),(2,0),(3,0),(4,0),(5,0),(6,0),(7,0),(8,0),(9,0),(10,3)]
abbrev P0:List (Nat×Nat):=[(0,0),(1,0),(2,0),(3,0),(4,0),(5,0),(6,0),(7,0),(8,0),(9,0),(10,2),(11,0),(12,0),(13,0),(14,0),(15,0)]
open T0
variable [Gl]
def gF (s:iE):dH:=.cells [.int .i64 s.am,.int .i64 s.bR,.int .u64 s.aw] true 1
def jx (s:kK):dH:=.cells [.bool s.Ao,.int .u64 s.kR,.bool s.done] true 1
def nf (s:qB):dH:=.cells [.int .i64 s.eH,.int .i64 s.bR,.int .u64 s.head,.int .u64 s.next,.int .i64 s.block] true 1
def gK (s:fM):dH:=.cells [.int .i64 s.eH,.int .i64 s.block,.int .i64 s.bR,.int .u64 s.head] true 1
def il (s:ip):dH:=.cells [.int .i64 s.dD,.int .i64 s.gE,.int .i64 s.rv,.int .i64 s.bR,.int .u64 s.eF,.int .u64 s.value,.bool s.gM] true 1
abbrev WT (a:aW):List Value:=[.int .i64 a.gu,.int .i64 a.cell,.int .i64 a.dJ,.int .u64 a.fA,.int .u64 a.put,.bool a.done]
def eQ (f:FuncId) (args:List Value) (A:AW) (u:Value):Prop:=ax Tryz.prog f args A λv A'=>v=u/\A=A'
theorem Ey (t:Int) (A:AW):ax Tryz.prog 214 [.int .i64 t] A (λv A'=>v=.pointer (some ⟨A.next,0,none⟩)/\A'=A.alloc (gF ⟨t,0,0⟩)):=by
 refine aF Tryz.func214 λ_=>?_;refine W cd cd ?_<;>intros;exact⟨_,rfl,rfl,rfl⟩
theorem Dm (b:Nat) (s:iE) (A:AW) (hg:A.bg b=some (gF s)):eQ 168 [.pointer (some ⟨b,0,none⟩)] A (.bool (decide (s.bR=3))):=by
 refine aF Tryz.func168 λ_=>?_;dsimp only [gF] at hg;refine W cd (J2 hg @AW.af) ?_<;>intros;exact⟨_,rfl,rfl,rfl⟩
theorem uB (b:Nat) (s:iE) (A:AW) (hg:A.bg b=some (gF s)):eQ 166 [.pointer (some ⟨b,0,none⟩)] A (.int .i64 s.El):=by
 refine aF Tryz.func166 λ_=>?_;dsimp only [gF] at hg;refine W cd (J2 hg @AW.af) (J2 ?_ ?_)<;>intros
 all_goals exact⟨_,rfl,by first|(simp [iE.El, *];done)|(simp [iE.El];omega),rfl⟩
theorem Jr (s:iE) (M:Mm):(s.bR=0/\ic s M=(DU M 6 s.am 1,{ s with bR:=1 },Gj M 6 s.am 1)) \/
 (s.bR=1/\ic s M=(iP M 3 0,{ s with bR:=2,aw:=(iP M 3 0).fA },M)) \/
 (s.bR=2/\ic s M=(DU M 6 s.am (IntKind.u64.wrap (s.aw+2)),{ s with bR:=3 },Gj M 6 s.am (IntKind.u64.wrap (s.aw+2)))) \/
 ((¬s.bR=0/\¬s.bR=1/\¬s.bR=2)/\ic s M=(aW.zero,s,M)):=by
 unfold ic;by_cases h0:s.bR=0;simp [h0];by_cases h1:s.bR=1;simp [h1];by_cases h2:s.bR=2;simp [h2];simp [h0,h1,h2]
theorem Dl (b pb:Nat) (s:iE) (M:Mm) :
 bf Tryz.prog 167 [.pointer (some ⟨b,0,none⟩),.pointer (some ⟨pb,0,none⟩)] [.at b (gF s),dG pb M]
  (λv=>v=(ic s M).1.v) (λ_=>[.at b (gF (ic s M).2.1),dG pb (ic s M).2.2]):=by
 intro A F hw hS;refine aF Tryz.func167 λ_=>?_;have hq:=I3 hS hw;rcases Jr s M with ⟨h,e⟩|⟨h,e⟩|⟨h,e⟩|⟨h,e⟩
 all_goals(revert hq hS hw;refine W (J3 (od Iz) (W2 pb) (Qh pb)) (J4 h bz @be.eq_1 @aW.v.eq_1) ?_<;>unhygienic intros)
 all_goals(
  try rw [e]
  refine⟨_,by simp [hq,AW.af,aB];rfl,by simp [aW.v,aW.zero,h],?_⟩;apply ah.bO
  (·exact sA)
  (·repeat' (first|apply aP.z|apply aP.s|apply ay.z|(apply ay.HI;simp [gF,jx,nf,gK,il,h];done)|apply ay.s)))
theorem KV (pb:Nat) (t:Int) (M:Mm) :
 bf Tryz.prog 129 [.pointer (some ⟨pb,0,none⟩),.int .i64 t] [dG pb M] (λv=>v=(DU M 6 t 0).v) (λ_=>[dG pb (Gj M 6 t 0)]):=by
 intro A F hw hS;refine aF Tryz.func129 λ_=>?_;have hq:=I3 hS hw;have h:True:=trivial;have e:True=True:=rfl;revert hq hS hw;refine W (J1 (W2 pb)) (J3 bz @be.eq_1 @aW.v.eq_1) ?_<;>(unhygienic intros)
 all_goals(
  try rw [e]
  refine⟨_,by simp [hq,AW.af,aB];rfl,by simp [aW.v,aW.zero,h],?_⟩;apply ah.bO
  (·exact sA)
  (·repeat' (first|apply aP.z|apply aP.s|apply ay.z|(apply ay.HI;simp [gF,jx,nf,gK,il,h];done)|apply ay.s)))
theorem NK (pb:Nat) (t:Int) (M:Mm) :
 bf Tryz.prog 125 [.pointer (some ⟨pb,0,none⟩),.int .i64 t] [dG pb M] (λv=>v=(DU M 5 0 (Cs t)).v) (λ_=>[dG pb (Gj M 5 0 (Cs t))]):=by
 intro A F hw hS;refine aF Tryz.func125 λ_=>?_;have hq:=I3 hS hw;have h:True:=trivial;have e:Cs t=IntKind.u64.wrap (IntKind.u64.wrap t+1):=rfl;revert hq hS hw;refine W (J1 (W2 pb)) (J3 bz @be.eq_1 @aW.v.eq_1) ?_<;>(unhygienic intros)
 all_goals(
  try rw [e]
  refine⟨_,by simp [hq,AW.af,aB];rfl,by simp [aW.v,aW.zero,h],?_⟩;apply ah.bO
  (·exact sA)
  (·repeat' (first|apply aP.z|apply aP.s|apply ay.z|(apply ay.HI;simp [gF,jx,nf,gK,il,h];done)|apply ay.s)))
theorem mI (A:AW):ax Tryz.prog 182 [] A (λv A'=>v=.pointer (some ⟨A.next,0,none⟩)/\A'=A.alloc (jx ⟨false,0,false⟩)):=by
 refine aF Tryz.func182 λ_=>?_;refine W cd cd ?_<;>intros;exact⟨_,rfl,rfl,rfl⟩
theorem D7 (b:Nat) (s:kK) (A:AW) (hg:A.bg b=some (jx s)):eQ 184 [.pointer (some ⟨b,0,none⟩)] A (.bool s.done):=by
 refine aF Tryz.func184 λ_=>?_;dsimp only [jx] at hg;refine W cd (J2 hg @AW.af) ?_<;>intros;exact⟨_,rfl,rfl,rfl⟩
theorem Bd (b:Nat) (s:kK) (A:AW) (hg:A.bg b=some (jx s)):eQ 126 [.pointer (some ⟨b,0,none⟩)] A (.int .i64 s.gf):=by
 refine aF Tryz.func126 λ_=>?_;dsimp only [jx] at hg;refine W cd (J2 hg @AW.af) (J2 ?_ ?_)<;>intros
 all_goals exact⟨_,rfl,by simp_all [kK.gf],rfl⟩
theorem J0 (s:kK) (M:Mm):(s.done=true/\ja s M=(aW.zero,s,M)) \/
 ((s.done=false/\s.Ao=false)/\ja s M=(XG M 4 0 1,{ s with Ao:=true,kR:=(XG M 4 0 1).fA },adM M 4 0 1)) \/
 ((s.done=false/\s.Ao=true)/\ja s M=(iP M 5 0,{ s with done:=decide ((iP M 5 0).fA=s.kR) },M)):=by
 unfold ja;cases h0:s.done<;>cases h1:s.Ao<;>simp
theorem D6 (b pb:Nat) (s:kK) (M:Mm) :
 bf Tryz.prog 183 [.pointer (some ⟨b,0,none⟩),.pointer (some ⟨pb,0,none⟩)] [.at b (jx s),dG pb M]
  (λv=>v=(ja s M).1.v) (λ_=>[.at b (jx (ja s M).2.1),dG pb (ja s M).2.2]):=by
 intro A F hw hS;refine aF Tryz.func183 λ_=>?_;have hq:=I3 hS hw;rcases J0 s M with ⟨h,e⟩|⟨h,e⟩|⟨h,e⟩
 all_goals(revert hq hS hw;refine Wu (J4 (od P1) (⟨⟩:Os (λA'=>A'.bg (A.next+1)=some (.cells (WT (XG M 4 0 1)) true 1)) [(0,0),(1,0),(2,0),(3,1),(4,0),(5,0),(6,3),(7,0),(8,0),(9,3)]) (adL pb) (Qh pb)) (J4 h bz @be.eq_1 @aW.v.eq_1) ?_<;>unhygienic intros)
 all_goals(
  try rw [e]
  refine⟨_,by simp [hq,AW.af,aB];rfl,by simp [aW.v,aW.zero,h],?_⟩;apply ah.bO
  (·exact sA)
  (·repeat' (first|apply aP.z|apply aP.s|apply ay.z|(apply ay.HI;simp [gF,jx,nf,gK,il,h];done)|apply ay.s)))
theorem IG (c:Int) (A:AW):ax Tryz.prog 216 [.int .i64 c] A (λv A'=>v=.pointer (some ⟨A.next,0,none⟩)/\A'=A.alloc (nf ⟨c,0,0,0,-1⟩)):=by
 refine aF Tryz.func216 λ_=>?_;refine W cd cd ?_<;>intros;exact⟨_,rfl,rfl,rfl⟩
theorem Gy (b:Nat) (s:qB) (A:AW) (hg:A.bg b=some (nf s)):eQ 178 [.pointer (some ⟨b,0,none⟩)] A (.bool (decide (s.bR=3))):=by
 refine aF Tryz.func178 λ_=>?_;dsimp only [nf] at hg;refine W cd (J2 hg @AW.af) ?_<;>intros;exact⟨_,rfl,rfl,rfl⟩
theorem Es (b:Nat) (s:qB) (A:AW) (hg:A.bg b=some (nf s)):eQ 244 [.pointer (some ⟨b,0,none⟩)] A (.int .i64 s.block):=by
 refine aF Tryz.func244 λ_=>?_;dsimp only [nf] at hg;refine W cd (J2 hg @AW.af) ?_<;>intros;exact⟨_,rfl,rfl,rfl⟩
theorem Ft (s:qB) (M:Mm) :
 ((s.bR=0/\iV (iP M 7 s.eH).fA<0)/\gG s M=(iP M 7 s.eH,{ s with head:=(iP M 7 s.eH).fA,bR:=3 },M)) \/
 ((s.bR=0/\¬iV (iP M 7 s.eH).fA<0)/\gG s M=(iP M 7 s.eH,{ s with head:=(iP M 7 s.eH).fA,bR:=1 },M)) \/
 (s.bR=1/\gG s M=(iP M 8 (iV s.head),{ s with next:=(iP M 8 (iV s.head)).fA,bR:=2 },M)) \/
 (∃w,((s.bR=2/\oD s.head (IntKind.i64.wrap (IntKind.i64.wrap s.next-1))=w)/\(Ea M 7 s.eH s.head w).done=true)/\gG s M=(Ea M 7 s.eH s.head w,{ s with bR:=3,block:=iV s.head },Sl M 7 s.eH s.head w)) \/
 (∃w,((s.bR=2/\oD s.head (IntKind.i64.wrap (IntKind.i64.wrap s.next-1))=w)/\(Ea M 7 s.eH s.head w).done=false)/\gG s M=(Ea M 7 s.eH s.head w,{ s with bR:=0 },Sl M 7 s.eH s.head w)) \/
 ((¬s.bR=0/\¬s.bR=1/\¬s.bR=2)/\gG s M=(aW.zero,s,M)):=by
 unfold gG;by_cases h0:s.bR=0;by_cases h1:iV (iP M 7 s.eH).fA<0<;>simp [h0,h1];by_cases h1:s.bR=1;simp [h1];by_cases h2:s.bR=2;cases h3:(Ea M 7 s.eH s.head (oD s.head (IntKind.i64.wrap (IntKind.i64.wrap s.next-1)))).done<;>(simp [h2,h3];exact⟨_,⟨rfl,h3⟩,rfl,rfl⟩);simp [h0,h1,h2]
theorem Gx (b pb:Nat) (s:qB) (M:Mm) :
 bf Tryz.prog 177 [.pointer (some ⟨b,0,none⟩),.pointer (some ⟨pb,0,none⟩)] [.at b (nf s),dG pb M]
  (λv=>v=(gG s M).1.v) (λ_=>[.at b (nf (gG s M).2.1),dG pb (gG s M).2.2]):=by
 intro A F hw hS;refine aF Tryz.func177 λ_=>?_;have hq:=I3 hS hw;rcases Ft s M with ⟨h,e⟩|⟨h,e⟩|⟨h,e⟩|⟨w,h,e⟩|⟨w,h,e⟩|⟨h,e⟩
 all_goals(revert hq hS hw;refine W (J6 (od P0) (od Iz) @Fs @Cr (swL pb) (Qh pb)) (J4 h bz @be.eq_1 @aW.v.eq_1) ?_<;>unhygienic intros)
 all_goals(
  try rw [e]
  refine⟨_,by simp [hq,AW.af,aB];rfl,by simp [aW.v,aW.zero,h],?_⟩;apply ah.bO
  (·exact sA)
  (·repeat' (first|apply aP.z|apply aP.s|apply ay.z|(apply ay.HI;simp [gF,jx,nf,gK,il,h];done)|apply ay.s)))
end
section
abbrev Iw:List (Nat×Nat):=[(0,0),(1,0),(2,0),(4,0),(5,0),(6,0),(7,0),(3,2),(8,0),(9,0),(10,0),(11,3)]
open T2
variable [Gl]
theorem ah.Dd {A:AW} {L K:List It} {x:It} (h:ah A L) (e:ay L x K):ah A (x::K):=by
 unfold ah at *;rw [e.aE] at h;exact h
theorem ah.X5 {A:AW} {L K:List It} {k:IntKind} {v:Value} {x:Int} {l:List Int} (h:ah A L) (hp:ay L (.h (ap k v (x::l))) K) :
 ∃b off c bP,v=.slice (some ⟨b,off,none⟩) (l.length+1) c/\l.length+1<=c/\off+(l.length+1)<=bP.length/\bP[off]? = some (.int k x)/\
  (∀A' K',ah A' (.at b (.cells bP true 1)::K')->ah A' (.h (ap k (.slice (some ⟨b,off+1,none⟩) l.length (c-1)) l)::K'))/\
  (∀A' K',ah A' (.at b (.cells bP true 1)::K')->ah A' (.h (ap k v (x::l))::K'))/\ah A (.at b (.cells bP true 1)::K):=by
 have h1:bk A (ap k v (x::l)*aE K):=by
  have h0:=h;unfold ah at h0;rw [hp.aE] at h0;exact h0
 rcases cY.cases h1 with ⟨_,h0,_⟩|⟨b,off,c,bP,rfl,h2,h3,h4,h5⟩;simp at h0;simp only [List.length_cons,Nat.mul_one] at h2 h3 h4;have h6:=h4;rw [List.drop_eq_getElem_cons (by omega),List.map_cons,List.take_succ_cons] at h6;have h7:=List.cons.inj h6;refine⟨b,off,c,bP,rfl,h2,h3,?_,λA' K' hh=>?_,λA' K' hh=>?_,h5⟩;rw [List.getElem?_eq_getElem (by omega),<-h7.1];exact ap.mk rfl (by omega) (by omega) h7.2 hh;exact ap.mk (by simp) (by simpa using h2) (by simpa using h3) (by simpa using h4) hh
def js (b:Nat) (s:ij):HP:=pG λv:Value=>pt b (.cells [v,.int .i64 s.rv,.bool s.jp] true 1)*ap .i64 v s.ao
theorem js.open {A:AW} {L K:List It} {b:Nat} {s:ij} (h:ah A L) (hp:ay L (.h (js b s)) K) :
 ∃v,ah A (.at b (.cells [v,.int .i64 s.rv,.bool s.jp] true 1)::.h (ap .i64 v s.ao)::K):=by
 unfold ah at h;rw [hp.aE] at h;have h1:bk A (js b s*aE K):=h;unfold js at h1;rw [bk.ex] at h1;obtain⟨v,h2⟩:=h1;exact⟨v,h2.dK (by show _=pt b _*(ap .i64 v s.ao*aE K);rw [HP.cx])⟩
theorem js.dA {A:AW} {L K:List It} {b:Nat} {s:ij} {v:Value} (h:ah A L) (hp:aP L [.at b (.cells [v,.int .i64 s.rv,.bool s.jp] true 1),.h (ap .i64 v s.ao)] K):ah A (.h (js b s)::K):=by
 unfold ah at h;rw [hp.aE] at h;show bk A (js b s*aE K);unfold js;rw [bk.ex];exact⟨v,h.dK (by show pt b _*(ap .i64 v s.ao*eC)*aE K=_;rw [du])⟩
theorem ah.qT {A:AW} {L K:List It} {k:IntKind} {v:Value} {l:List Int} (h:ah A L) (hp:ay L (.h (ap k v l)) K):bx A k v l:=by
 unfold ah at h;rw [hp.aE] at h;exact ap.is h
theorem qm (b:Nat) (o:Option Addr) (n c:Nat) (rv:Int) (f:Bool) (A:AW) (hg:A.bg b=some (.cells [.slice o n c,.int .i64 rv,.bool f] true 1)) :
 eQ 188 [.pointer (some ⟨b,0,none⟩)] A (.bool (f || decide (n=0))):=by
 refine aF Tryz.func188 λ_=>?_;cases f
 all_goals(refine W cd (J2 hg @AW.af) ?_<;>unhygienic intros)
 all_goals exact⟨_,rfl,by simp;try omega,rfl⟩
theorem Dt (b pb:Nat) (s:ij) (M:Mm) :
 bf Tryz.prog 189 [.pointer (some ⟨b,0,none⟩),.pointer (some ⟨pb,0,none⟩)] [.h (js b s),dG pb M]
  (λv=>v=(lq s M).1.v) (λ_=>[.h (js b (lq s M).2.1),dG pb (lq s M).2.2]):=by
 intro A F hw dm;refine aF Tryz.func189 λ_=>?_;obtain⟨vo,hS⟩:=js.open dm .z;obtain⟨oo,co,rfl,_⟩:=(ah.qT hS (.s .z)).bE;obtain⟨os,rv,jp⟩:=s;by_cases hd:(jp || decide (os.length=0))=true
 . have hq:=fk hS hw;have C7:∀A',A'.bg b=some (.cells [.slice oo os.length co,.int .i64 rv,.bool jp] true 1)->eQ 188 [.pointer (some ⟨b,0,none⟩)] A' (.bool true):=λA' h=>by
    have:=qm b oo os.length co rv jp A' h;rwa [hd] at this
   have e:lq ⟨os,rv,jp⟩ M=(aW.zero,⟨os,rv,jp⟩,M):=if_pos hd;revert hq hS hw;refine W (J2 (od Iw) @C7) (J4 hd bz @be.eq_1 @aW.v.eq_1) ?_<;>(unhygienic intros);rw [e];refine⟨_,by simp [hq,AW.af,aB];rfl,by simp [aW.v,aW.zero],?_⟩;apply ah.bO
   . apply js.dA (b:=b) (s:=⟨os,rv,jp⟩) (v:=.slice oo os.length co)
     (·exact sA)
     (·repeat' (first|apply aP.z|apply aP.s|apply ay.z|(apply ay.HI;simp;done)|apply ay.s))
   (·repeat' (first|apply aP.z|apply aP.s|apply ay.z|(apply ay.HI;simp;done)|apply ay.s))
 obtain⟨hf,hn⟩:jp=false/\¬os.length=0:=by simpa using hd
 subst hf;cases os with
 | nil=>simp at hn
 | cons o os=>
 obtain⟨bo,off,c,bP,hv,HQ,yu,bI,htl,hwh,hS⟩:=ah.X5 hS (.s .z);injection hv with MH hv2 VO;subst MH;subst VO;have C7:∀A',A'.bg b=some (.cells [.slice (some ⟨bo,off,none⟩) (os.length+1) co,.int .i64 rv,.bool false] true 1)->eQ 188 [.pointer (some ⟨b,0,none⟩)] A' (.bool false):=λA' h=>qm b _ _ co rv false A' h;have e:lq ⟨o::os,rv,false⟩ M=(iP M 2 o,⟨os,rv,decide (rv<lD (iP M 2 o).fA)⟩,M):=if_neg hd;have hq:=fk hS hw;revert hq hS hw;(repeat first|clear hq|clear hS|clear hw|revert hc|revert R|revert K);refine W (J4 (od Iw) @C7 @vV (Qh pb)) (J5 bI @eu.eq_1 bz @be.eq_1 @aW.v.eq_1) ?_<;>(unhygienic intros);rw [e];refine⟨_,by simp [hq,AW.af,aB];rfl,by simp [aW.v,aW.zero],?_⟩;apply ah.bO
 . apply js.dA (b:=b) (s:=⟨os,rv,decide (rv<lD (iP M 2 o).fA)⟩) (v:=.slice (some ⟨bo,off+1,none⟩) os.length (co-1))
   . apply htl;apply ah.Dd
     (·exact sA)
     (·repeat' (first|apply aP.z|apply aP.s|apply ay.z|(apply ay.HI;simp;done)|apply ay.s))
   (·repeat' (first|apply aP.z|apply aP.s|apply ay.z|(apply ay.HI;simp;done)|apply ay.s))
 (·repeat' (first|apply aP.z|apply aP.s|apply ay.z|(apply ay.HI;simp;done)|apply ay.s))
end
section
namespace TRefO
theorem mr [Gl] {A:AW} {L:List It} {T:Prop} (hS:ah A L) (hw:A.Wf) (h':(aR A L/\bj A L/\bN L)=T:=by first|(dsimp only [aa,ag,aR,bj,bN,eE];done)|exact rfl):T:=h'▸hS.eD hw
end TRefO
open TRefO
variable [Gl]
def RefH (cf:bq) (mb:Nat) (M:Nat->List Int):HP:=
 pG λv:Value×Value×Value×Value×Value=>
  pt mb (.cells (cf.cells++[v.1,v.2.1,.int .u64 ((M 2).getD 0 0),.int .u64 ((M 3).getD 0 0),.int .u64 ((M 4).getD 0 0),v.2.2.1,v.2.2.2.1,v.2.2.2.2]) true 1) *
   (ap .u64 v.1 (M 0)*(ap .u64 v.2.1 (M 1)*(ap .u64 v.2.2.1 (M 5)*(ap .u64 v.2.2.2.1 (M 6)*ap .u64 v.2.2.2.2 (M 7)))))
def Vi (cf:bq) (mb:Nat) (M:Mm):It:=.h (RefH cf mb M)
end
section
open T4
variable [Gl]
def Sr (v:Value) (rv:Int) (k:Nat) (f:Bool):dH:=.cells [v,.int .i64 rv,.int .i64 k,.bool f] true 1
end
end Go.Stx
