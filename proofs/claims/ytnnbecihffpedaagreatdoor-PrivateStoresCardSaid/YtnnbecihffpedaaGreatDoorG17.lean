import Derived.Test.YtnnbecihffpedaaGreatDoorG16
import Derived.Test.YtnnbecihffpedaaGreatDoorG04
set_option linter.all false
set_option maxRecDepth 20000
set_option maxHeartbeats 4000000
open List renaming length->U
open Go.IntKind renaming i64->Zb,u64->Zc
open Go.Proofs.Tryz renaming func126->kb6,func127->kbI,func73->kbr,func82->kaI,mx->Zm,prog->qZ
open Int renaming add_zero->kaU
open List renaming filter_append->kbn,getElem_mem->ZP,length_append->Zh,length_filter_le->kaN,length_map->ZF,map_cons->Z0,take_succ_eq_append_getElem->kaY
open Prod renaming fst->ZB
open Bool renaming false->qn,true->qj
open Go renaming Value->qi
open Go.IntKind renaming i64->qg,u64->qr
open Go.Stx.dt renaming cells->qm
open Go.Value renaming int->qh,pointer->qs,slice->ql
open Option renaming none->qk,some->qf
open Or renaming inr->qB
namespace Go.Stx
open Go Go.Proofs
attribute [local irreducible] TW bK df aW aE aL cY dm
section
abbrev AM:List (Nat×Nat):=[(0,0),(1,0),(2,0),(3,0),(4,0),(5,0),(6,0),(7,0),(8,0),(9,0),(10,0),(12,0),(13,0),(11,2),(14,2),(15,2),(16,3),(17,0),(18,0),(19,3)]
open T26
variable [Gl]
def Gu (c:bu)(l:List (Int×Int))(pX:Int)(bs:List Int)(b:Int):pJ c l pX (bs++[b])=if 0<=eE c b then pJ c l pX bs++[(b,pX)]else pJ c l pX bs:=by unfold pJ;rw[kbn];by_cases h:0<=eE c b;simp[h];simp[h]
def T3 (c:bu)(l:List (Int×Int))(pX:Int)(bs:List Int):U (pJ c l pX bs)<=U l+U bs:=by unfold pJ;have:=kaN (λb=>decide (0<=eE c b)) bs;rw[Zh,ZF];omega
def PW (p:Nat)(c:bu)(sF:dl c)(l:List (Int×Int))(pX:Int)(vb:qi)(bs:List Int)(hb:∀b∈bs,b<2^62)(hl:U l<2^28)(RE:U bs<2^28):
 bz qZ 213 [pv p,qh qg pX,vb] [.h (sV p c l),.h (ay qg vb bs)] (λ_=>True) (λ_=>[.h (sV p c (pJ c l pX bs)),.h (ay qg vb bs)]):=by
 intro A F hw hS;refine aO Tryz.func213 λ_=>?_;obtain⟨v0,hS⟩:=sV.open hS .z;dsimp only[Wd,aa,ah]at hS;have hI:=aj.wu hS (.s (.s .z));obtain⟨ob,cb,rfl,_⟩:=hI.cL;have hq:=DS hS hw;revert hq hS hw;clear hS;refine W db (J1 bL) ?_<;>(unhygienic intros)
 refine dO (λk fr A'=>A'.Wf/\∃(i:Nat),k=U bs-i/\i<=U bs/\fr 0=pv p/\fr 1=qh qg pX/\fr 10=ql ob (U bs) cb/\fr 11=qh qg (U bs)/\fr 12=qh qg i/\
  aj A' [.h (sV p c (pJ c l pX (bs.take i))),.h (ay qg (ql ob (U bs) cb) bs),.h F]) (U bs) ?_ ?_
 refine⟨hw,0,by simp,by simp,by simp,by simp,by simp,by simp,by simp,?_⟩;have e:pJ c l pX (bs.take 0)=l:=by simp[pJ]
 rw[e];exact sV.eB (v:=v0) hS (.s .z (.s .z .z));clear hq hI hS hw;rintro k fr A'⟨hw,i,rfl,hi,h0,h1,Qx,Kh,xm,hS⟩;obtain⟨v,hS⟩:=sV.open hS .z;dsimp only[Wd,aa,ah]at hS;have hI:=aj.wu hS (.s (.s .z));have sh:=T3 c l pX (bs.take i);have UV:U (bs.take i)<=U bs:=by simp;omega
 have hq:=DS hS hw;refine aU ?_;by_cases b9:i<U bs
 . have gf:(i:Int)<U bs:=Ya;have ij:=C0 (i:=i);obtain⟨pp,bO,rfl,bP,hcell⟩:=hI.at b9;have C2:bs.take (i+1)=bs.take i++[bs[i]]:=kaY b9;have jv:=yj c sF bs[i] (hb _ (ZP b9));dsimp only[bu.v]at jv;by_cases h:0<=eE c bs[i]
   . repeat' (first|(with_reducible apply lwEnt;(·(simp;rfl));(·(simp;rfl));(·exact wA);(·exact sA);(·exact kA);(·exact AW.cD _ _);(·omega);(·intro _ _;trivial);rintro _ _ _ hS hw _;have hq:=DS hS hw)|(refine lz λR hR=>?_;simp[h0,h1,Qx,Kh,xm,hq,bP,hcell,h,gf,ij,AW.ab,aI];try simp(disch:=omega)only[az,ar,an,ax])|(refine hR _ _ ?_;clear hR R)|(refine hK _ _ ?_;clear hK K)|refine nx ?_|refine wn λK hK=>?_|simp only[wS]|(refine bT (jv _) ?_;rintro _ _⟨rfl,rfl⟩_ _)|(show df _ _ _ _ _ _;refine nx ?_)|(refine wc rfl (λhc=>?_) (λhc=>?_)<;>(try simp at hc)))
     refine⟨U bs-(i+1),by omega,?_,i+1,rfl,by omega,by simp[h0],by simp[h1],by simp[Qx],by simp[Kh],by simp,?_⟩
     exact hw.set _ (hw.lt (hS.g 2 rfl))
     rw[C2,Gu,az h];apply aj.bZ;apply sV.eB
     (·exact sA)
     (·exact pA)
     (·exact pA)
   revert hq hS hw;(repeat first|clear hS|revert hc);refine W (J1 @jv) (Ay h0 h1 Qx Kh xm bP hcell h b9 gf ij bL) ?_<;>(unhygienic intros);refine⟨U bs-(i+1),by omega,hw,i+1,rfl,by omega,by simp[h0],by simp[h1],by simp[Qx],by simp[Kh],by simp,?_⟩;rw[C2,Gu,ar h];apply aj.bZ;apply sV.eB
   (·exact sA)
   (·exact pA)
   (·exact pA)
 have NE:i=U bs:=Ya
 subst NE;rw[List.take_length]at hS;revert hq hS hw;(repeat first|clear hS|revert hc);refine W db (J6 h0 h1 Qx Kh xm bL) ?_<;>(unhygienic intros);refine⟨_,by rfl,trivial,?_⟩;exact sV.eB (v:=v) hS (.s .z (.s .z .z))
def Di (l:List (Int×Int))(p9:Int)(x:Int×Int):lH (l++[x]) p9=if p9<x.2 then lH l p9++[x]else lH l p9:=by unfold lH;rw[kbn];by_cases h:p9<x.2<;>simp[h]
def Dm (c:bu)(l:List (Int×Int))(p9:Int)(x:Int×Int):nV c (l++[x]) p9=if p9<x.2 then nV c l p9 else nV c l p9++[⟨eE c x.1,x.1,0,0⟩]:=by unfold nV;rw[kbn];by_cases h:p9<x.2<;>simp[h]
def BL (p:Nat)(c:bu)(sF:dl c)(l:List (Int×Int))(p9:Int)(hb:∀x∈l,x.1<2^62)(hl:U l<2^28):
 eL qZ 62 [pv p,qh qg p9] [.h (sV p c l)] (λdp v=>v=pv dp) (λdp=>[.h (sV p c (lH l p9)),.h (EA dp (nV c l p9))]):=by
 intro A F hw hS;refine aO Tryz.func62 λ_=>?_;obtain⟨v0,hS⟩:=sV.open hS .z;dsimp only[Wd,aa,ah]at hS;have hI:=aj.mH hS (.s .z);obtain⟨ob,cb,rfl,_⟩:=hI.cL;have hq:=DS hS hw;revert hq hS hw;clear hS;refine W (J1 (od AM)) (J1 bL) ?_<;>(unhygienic intros)
 refine dO (λk fr A'=>A'.Wf/\∃(i:Nat),k=U l-i/\i<=U l/\fr 0=pv p/\fr 1=qh qg p9/\fr 5=pv A.next/\fr 17=ql ob (U l) cb/\fr 18=qh qg (U l)/\fr 19=qh qg i/\
  aj A' [.h (LmE (fr 6) (lH (l.take i) p9)),.h (EA A.next (nV c (l.take i) p9)),.at p (limO c (ql ob (U l) cb)),.h (LmE (ql ob (U l) cb) l),.h F]) (U l) ?_ ?_
 have h1:=hS.alloc hw (qm [ql qk 0 0] qj 1);have h2:=aj.nilE (EA.nil h1 .z);refine⟨hw.alloc _,0,by simp,by simp,by simp,by simp,by simp,by simp,by simp,by simp,?_⟩;exact h2;clear hq hI hS;rintro k fr A'⟨lC,i,rfl,hi,h0,h1,h5,WI,h18,h19,hS⟩;obtain⟨vl,q,hqm,hS⟩:=EA.open hS (.s .z);dsimp only[drI,aa,ah]at hS;have sh:U (lH (l.take i) p9)<=U l:=by
  have e1:=kaN (λx:Int×Int=>decide (p9<x.2)) (l.take i);have e2:U (l.take i)<=U l:=by simp;omega
  unfold lH;omega
 have hal2:U (q.map ZB)<=U l:=by
  have e0:U q=U (nV c (l.take i) p9):=by rw[<-hqm,ZF]
  have e1:=kaN (λx:Int×Int=>!decide (p9<x.2)) (l.take i);have e2:U (l.take i)<=U l:=by simp;omega
  unfold nV at e0;rw[ZF]at e0 ⊢;omega
 replace hw:=lC;refine aU ?_;by_cases b9:i<U l
 . have gf:(i:Int)<U l:=Ya;have ij:=C0 (i:=i);obtain⟨pp,bO,rfl,bP,gb,hcell⟩:=aj.entAt hS (.s (.s (.s (.s (.s .z))))) b9;have C2:l.take (i+1)=l.take i++[l[i]]:=kaY b9;have jv:=yj c sF l[i].1 (hb _ (ZP b9));dsimp only[bu.v]at jv;have hq:=DS hS hw;by_cases h:p9<l[i].2
   . repeat' (first|(with_reducible apply lwEnt;(·(simp;rfl));(·(simp;rfl));(·exact wA);(·exact sA);(·exact kA);(·(simp;(repeat' (first|rfl|refine⟨rfl,?_⟩));done));(·omega);(·intro _ _;trivial);rintro _ _ _ hS hw _;have hq:=DS hS hw)|(refine lz λR hR=>?_;simp[h1,WI,h18,h19,bP,gb,hcell,h,gf,ij,AW.ab,aI];try simp(disch:=omega)only[az,ar,an,ax])|(refine hR _ _ ?_;clear hR R)|(refine hK _ _ ?_;clear hK K)|refine nx ?_|refine wn λK hK=>?_|simp only[wS]|(show df _ _ _ _ _ _;refine nx ?_)|(refine wc rfl (λhc=>?_) (λhc=>?_)<;>(try simp at hc)))
     refine⟨U l-(i+1),by omega,hw,i+1,rfl,by omega,by simp[h0],by simp[h1],by simp[h5],by simp[WI],by simp[h18],by simp,?_⟩;rw[C2,Di,az h,Dm,az h];simp;apply aj.bZ;apply EA.eB hqm
     (·exact sA)
     (·exact pA)
     (·exact pA)
   . repeat' (first|(with_reducible apply lwPush;(·(simp;rfl));(·(simp;rfl));(·exact wA);(·exact sA);(·exact kA);(·(simp;(repeat' (rfl));done));(·omega);(·intro _ _;trivial);rintro _ _ _ hS hw _;have hq:=DS hS hw)|(refine lz λR hR=>?_;simp[h0,h1,h5,WI,h18,h19,hq,bP,gb,hcell,h,gf,ij,AW.ab,aI];try simp(disch:=omega)only[az,ar,an,ax])|(refine hR _ _ ?_;clear hR R)|(refine hK _ _ ?_;clear hK K)|refine nx ?_|refine wn λK hK=>?_|simp only[wS,AM]|refine wl Zm AM Yc λK hK=>?_|(refine bT (jv _) ?_;rintro _ _⟨rfl,rfl⟩_ _)|(refine bT (DH _ _ _) ?_;rintro _ _⟨rfl,rfl⟩_ _)|(show df _ _ _ _ _ _;refine nx ?_)|(refine wc rfl (λhc=>?_) (λhc=>?_)<;>(try simp at hc)))
     simp only[ZF]at hS;refine⟨U l-(i+1),by omega,?_,i+1,rfl,by omega,by simp[h0],by simp[h1],by simp[h5],by simp[WI],by simp[h18],by simp,?_⟩;exact wA;rw[C2,Di,ar h,Dm,ar h];simp;apply aj.bZ;apply EA.oZ hqm
     (·exact sA)
     (·exact kA)
     (·exact kA)
     (·exact kA)
     (·exact kA)
     (·exact pA)
 have NE:i=U l:=Ya
 subst NE;rw[List.take_length]at hS hqm;obtain⟨o6,c6,h6,_⟩:=(aj.mH hS (.s (.s (.s .z)))).cL;rw[h6]at hS;have hq:=DS hS hw;revert hq hS hw;(repeat first|clear hS|revert hc);refine W (J1 (od AM)) (J8 h0 h1 h5 h6 WI h18 h19 bL) ?_<;>(unhygienic intros);refine⟨_,by rfl,?_⟩;apply BR
 (·rfl)
 apply aj.bZ;apply sV.eB;apply EA.eB hqm
 (·exact sA)
 (·exact pA)
 (·exact pA)
 (·exact pA)
def Vg (p:Nat)(o:Option Addr)(n c:Nat)(A:AW)(hg:A.bk p=qf (qm [ql o n c] qj 1)):fQ 66 [pv p] A (.bool (decide (n=0))):=by refine aO Tryz.func66 λ_=>?_;refine W db (J2 hg @AW.ab) ?_<;>intros;exact⟨_,by rfl,by simp,rfl⟩
def QT (p:Nat)(l:List gy):bz qZ 66 [pv p] [.h (EA p l)] (λv=>v=.bool (decide (U l=0))) (λ_=>[.h (EA p l)]):=by
 intro A F hw hS;obtain⟨vl,q,hqm,hS⟩:=EA.open hS .z;dsimp only[drI,aa,ah]at hS;obtain⟨o,c,rfl,_⟩:=(aj.mH hS (.s .z)).cL;have Qh:U q=U l:=by rw[<-hqm,ZF]
 refine(Vg p o _ c A (hS.g 0 rfl)).mono ?_;rintro _ _⟨rfl,rfl⟩;exact⟨by simp[Qh],EA.eB hqm hS (.s .z (.s .z (.s .z .z)))⟩
def QS (p pb:Nat)(x:gy)(l:List gy)(M:Mm)(hl:U l<2^29):
 bz qZ 64 [pv p,pv pb] [.h (EA p (x::l)),eA pb M] (λv=>v=(CM (x::l) M).1.v) (λ_=>[.h (EA p (CM (x::l) M).2.1),eA pb (CM (x::l) M).2.2]):=by
 intro A F hw dU;refine aO Tryz.func64 λ_=>?_;dsimp only[aa,ah]at dU;obtain⟨vl,q,hqm,hS⟩:=EA.open dU .z;clear dU;dsimp only[drI,aa,ah]at hS;cases q with
 |nil=>cases hqm
 |cons y q=>
   obtain⟨n,x'⟩:=y;obtain⟨h1,hqn⟩:=List.cons.inj hqm;clear hqm;dsimp only at h1;subst h1;rw[Z0]at hS;dsimp only at hS;have jH:=aj.pushH hS (.s (.s .z));clear hS;obtain⟨bb,off,c,bO,rfl,L4,AV,bP,hS,jv⟩:=aj.ptrOpen jH (.s (.s (.s .z)));clear jH;have hd:=λA hg=>Vg p (qf ⟨bb,off,qk⟩) (U (q.map ZB)+1) c A hg;rw[decide_eq_false Ya]at hd;have hlq:U (q.map ZB)=U l:=(by rw[<-hqn,ZF,ZF]);rw[hlq]at hS hd jv L4 AV;have hc3:off<U bO:=Ya;have e1:(1:Int)<=(U l:Int)+1:=Ya;have e0:(0:Int)<(U l:Int)+1:=Ya;have hpd:=λA hg=>BI n (dD x' M).2.1 A hg;have hcl1:=λA' L' K' h1 h2=>(jv A' L' K' h1 h2).1;have hcl2:=λA' L' K' h1 h2=>(jv A' L' K' h1 h2).2;unfold CM;have hq:=DS hS hw;by_cases h:(dD x' M).2.1.bR=3
   . rw[decide_eq_true h]at hpd;revert hq hS hw;refine W (J3 (Tg.mk (n:=10) (λ{A L K k}=>oG (A:=A) (L:=L) (K:=K) (k:=k) hd)) (Tg.mk (n:=10) (λ{A L K k}=>oG (A:=A) (L:=L) (K:=K) (k:=k) hpd)) (vO n pb x' M)) (J9 bP L4 e1 e0 @Ap.eq_1 @fO.eq_1 bL @bx.eq_1 @bj.v.eq_1) ?_<;>(unhygienic intros);refine⟨_,by (simp[AW.ab];rfl),by rfl,?_⟩;rw[az h];apply aj.bZ;apply EA.eB hqn;apply hcl2
     (·exact sA)
     (·exact kA)
     dsimp only[drI]
     (·exact pA)
     (·exact pA)
   rw[decide_eq_false h]at hpd;revert hq hS hw;refine W (J3 (Tg.mk (n:=10) (λ{A L K k}=>oG (A:=A) (L:=L) (K:=K) (k:=k) hd)) (Tg.mk (n:=10) (λ{A L K k}=>oG (A:=A) (L:=L) (K:=K) (k:=k) hpd)) (vO n pb x' M)) (J9 bP L4 e1 e0 @Ap.eq_1 @fO.eq_1 bL @bx.eq_1 @bj.v.eq_1) ?_<;>(unhygienic intros);refine⟨_,by (simp[AW.ab];rfl),by rfl,?_⟩;rw[ar h];apply aj.bZ;apply EA.eB (q:=(n,(dD x' M).2.1)::q) (by rw[Z0,hqn]);apply aj.pushB (n:=n) (p:=(dD x' M).2.1) (q:=q);apply hcl1
   (·exact sA)
   (·exact kA)
   (·exact kA)
   (·exact kA)
   dsimp only[drI,Z0]
   (·exact pA)
   (·exact pA)
end
section
abbrev pm:List (Nat×Nat):=[(0,0),(1,0),(2,0),(3,0),(4,0),(5,0),(6,0),(7,0),(8,3)]
abbrev pj:List (Nat×Nat):=[(0,0),(1,0),(2,0),(3,0),(4,0),(5,0),(6,0),(7,0),(8,0),(9,0),(10,0),(11,3)]
abbrev pi:List (Nat×Nat):=[(0,0),(1,0),(2,0),(3,0),(4,0),(5,0),(6,0),(7,0),(8,0),(9,0),(10,0),(11,0),(12,0),(13,0),(14,0),(15,0),(16,0),(21,0),(17,2),(18,0),(19,0),(20,0),(22,0),(23,3)]
abbrev pg:List (Nat×Nat):=[(0,0),(1,0),(2,0),(3,0),(4,0),(5,0),(6,0)]
open T7
variable [Gl]
def SL {i:bp}(h:cQ i=0)(ho:i.op=4\/i.op=5\/i.op=6):0<=i.cg/\i.cg<=64:=by
 unfold cQ at h;split at h;cases h;split at h;rename_i h1;simp only[Bool.and_eq_true,fV]at h1;obtain⟨_,h5⟩:=h1;rw[ar Ya,ar Ya,az ho]at h5
 simpa using h5
 cases h
class AF where
 ok:Int->Prop
section
variable [AF]
def JG (fn:Int):Prop:=AF.ok fn
def yx (eu:Int->Int->Int->Int):Prop:=∀fn x y:Int,JG fn->∀A,fQ 147 [qh qg fn,qh qr x,qh qr y] A (.tuple #[qh qr (eu fn x y),qh qg 0])
def EC (l:List bp):Prop:=∀i∈l,i.op=3->JG i.cg
def apE {eu:Int->Int->Int->Int}(hA:yx eu)(fn x y:Int)(h:JG fn){A:AW}{k:qi->AW->Prop}(hk:k (.tuple #[qh qr (eu fn x y),qh qg 0]) A):aE qZ 147 [qh qg fn,qh qr x,qh qr y] A k:=by refine bT (hA fn x y h A) ?_;rintro _ _⟨rfl,rfl⟩_ _;exact hk
def Ix {eu:Int->Int->Int->Int}(hA:yx eu)(b:Nat)(t:aV)(va vs vf vd vl vo:qi)(o:Option Addr)(cc:Nat)(i:bp)(lV:(0<=i.op/\i.op<=6)\/i.op=17)(hi:cQ i=0)(sh:i.op=3->JG i.cg)(lj:0<=t.pc/\t.pc<2^40):
 bz qZ 82 [pv b,ll i] [.at b (wo t.d ⟨va,vs,vf,vd,ql o (U t.aD) cc,vl,vo⟩)] (λ_=>True) (λ_=>[.at b (wo (t.iY eu i).d ⟨va,vs,vf,vd,ql o (U t.aD) cc,vl,vo⟩)]):=by
 obtain⟨r1,r2,r3,_⟩:=pd hi;have jt:Zb.wrap (t.d.pc+1)=t.d.pc+1:=an (by show -9223372036854775808<=t.pc+1;omega) (by show t.pc+1<=9223372036854775807;omega);have ho:i.op=0\/i.op=1\/i.op=2\/i.op=3\/i.op=4\/i.op=5\/i.op=6\/i.op=17:=Ya
 have hto:=fun(d:Bh) pc=>Ce b d va vs vf vd vl vo o (U t.aD) cc pc;unfold ll;rcases ho with h|h|h|h|h|h|h|h
 . have e:t.iY eu i=t.to (t.pc+1):=by unfold aV.iY;rw[ar Ya,ar Ya,ar Ya,ar Ya,ar Ya,kaU]
   rw[e];intro A F hw hS;refine aO kaI λ_=>?_;dsimp only[aa,ah]at hS;have hq:=gv hS hw;revert hq hS hw;refine W (J5 (od pm) (od pj) (od pi) (od pg) (hto t.d (t.d.pc+1))) (J3 h jt bL) ?_<;>(unhygienic intros);exact XH
 . have ha:=r1 Yt;have Hb:=λx=>Cf (d:=t.d) (w:=⟨va,vs,vf,vd,ql o (U t.aD) cc,vl,vo⟩) (x:=x) ha;have e:t.iY eu i=(t.io i.a (Zc.wrap i.cg)).to (t.pc+1):=by unfold aV.iY;rw[az h,ar Ya,kaU]
   rw[e];intro A F hw hS;refine aO kaI λ_=>?_;dsimp only[aa,ah]at hS;have hq:=gv hS hw;revert hq hS hw;refine W (J5 (od pm) (od pj) (od pi) (od pg) (hto { t.d with dY:=t.d.dY.set i.a (Zc.wrap i.cg) } (t.d.pc+1))) (J6 h jt Hb ha.1 ha.2 bL) ?_<;>(unhygienic intros);exact XH
 . have ha:=r1 Yt;have hb:=r2 Yt;have Hb:=λx=>Cf (d:=t.d) (w:=⟨va,vs,vf,vd,ql o (U t.aD) cc,vl,vo⟩) (x:=x) ha;have Bq:=tV (d:=t.d) (w:=⟨va,vs,vf,vd,ql o (U t.aD) cc,vl,vo⟩) hb;have e:t.iY eu i=(t.io i.a (t.dY.bk i.b)).to (t.pc+1):=by unfold aV.iY;rw[ar Ya,az h,ar Ya,kaU]
   rw[e];intro A F hw hS;refine aO kaI λ_=>?_;dsimp only[aa,ah]at hS;have hq:=gv hS hw;revert hq hS hw;refine W (J5 (od pm) (od pj) (od pi) (od pg) (hto { t.d with dY:=t.d.dY.set i.a (t.d.dY.bk i.b) } (t.d.pc+1))) (J9 h jt Hb Bq ha.1 ha.2 hb.1 hb.2 bL) ?_<;>(unhygienic intros);exact XH
 . have ha:=r1 Yt;have hb:=r2 Yt;have hcc:=r3 Yt;have Hb:=λx=>Cf (d:=t.d) (w:=⟨va,vs,vf,vd,ql o (U t.aD) cc,vl,vo⟩) (x:=x) ha;have Bq:=tV (d:=t.d) (w:=⟨va,vs,vf,vd,ql o (U t.aD) cc,vl,vo⟩) hb;have hgr2:=tV (d:=t.d) (w:=⟨va,vs,vf,vd,ql o (U t.aD) cc,vl,vo⟩) hcc;have e:t.iY eu i=(t.io i.a (eu i.cg (t.dY.bk i.b) (t.dY.bk i.c))).to (t.pc+1):=by unfold aV.iY;rw[ar Ya,ar Ya,az h,ar Ya,kaU]
   have Tc:=sh h;rw[e];intro A F hw hS;refine aO kaI λ_=>?_;dsimp only[aa,ah]at hS;have hq:=gv hS hw
   repeat' (first|(refine lz λR hR=>?_;simp[hq,h,jt,Hb,Bq,hgr2,ha.1,ha.2,hb.1,hb.2,hcc.1,hcc.2,AW.ab,aI];try simp(disch:=omega)only[az])|(refine hR _ _ ?_;clear hR R)|(refine hK _ _ ?_;clear hK K)|refine nx ?_|refine wn λK hK=>?_|simp only[wS,pi]|refine wl Zm pi Yc λK hK=>?_|(refine apE hA _ _ _ Tc ?_)|(apply bz.gk (hto { t.d with dY:=t.d.dY.set i.a (eu i.cg (t.d.dY.bk i.b) (t.d.dY.bk i.c)) } (t.d.pc+1));(·exact wA);(·exact sA);(·exact pA);rintro _ _ _ hS hw _;have hS:=lA hS;have hq:=gv hS hw)|(show df _ _ _ _ _ _;refine nx ?_)|(refine wc rfl (λhc=>?_) (λhc=>?_)<;>(try simp at hc)))
   exact XH
 . have him:=SL hi (.inl h);have jG:Zb.wrap (t.d.pc+1+i.cg)=t.d.pc+1+i.cg:=an Xm Xn;have e:t.iY eu i=t.to (t.pc+1+i.cg):=by unfold aV.iY;rw[ar Ya,ar Ya,ar Ya,ar Ya,az (.inl h)]
   rw[e];intro A F hw hS;refine aO kaI λ_=>?_;dsimp only[aa,ah]at hS;have hq:=gv hS hw;revert hq hS hw;refine W (J5 (od pm) (od pj) (od pi) (od pg) (hto t.d (t.d.pc+1+i.cg))) (J4 h jt jG bL) ?_<;>(unhygienic intros);exact XH
 . have ha:=r1 Yt;have Bq:=tV (d:=t.d) (w:=⟨va,vs,vf,vd,ql o (U t.aD) cc,vl,vo⟩) ha;have him:=SL hi (qB (.inl h));have jG:Zb.wrap (t.d.pc+1+i.cg)=t.d.pc+1+i.cg:=an Xm Xn;by_cases hz:t.d.dY.bk i.a=0
   . have e:t.iY eu i=t.to (t.pc+1+i.cg):=by unfold aV.iY;rw[ar Ya,ar Ya,ar Ya,ar Ya,az (qB (.inl ⟨h,hz⟩))]
     rw[e];intro A F hw hS;refine aO kaI λ_=>?_;dsimp only[aa,ah]at hS;have hq:=gv hS hw;revert hq hS hw;refine W (J5 (od pm) (od pj) (od pi) (od pg) (hto t.d (t.d.pc+1+i.cg))) (J8 h jt jG Bq hz ha.1 ha.2 bL) ?_<;>(unhygienic intros);exact XH
   have sE:¬t.dY.bk i.a=0:=hz;have e:t.iY eu i=t.to (t.pc+1):=by unfold aV.iY;rw[ar Ya,ar Ya,ar Ya,ar Ya,ar (λhh=>by rcases hh with hh|⟨_,hh⟩|⟨hh,_⟩<;>first|exact sE hh|omega),kaU]
   rw[e];intro A F hw hS;refine aO kaI λ_=>?_;dsimp only[aa,ah]at hS;have hq:=gv hS hw;revert hq hS hw;refine W (J5 (od pm) (od pj) (od pi) (od pg) (hto t.d (t.d.pc+1))) (J7 h jt Bq hz ha.1 ha.2 bL) ?_<;>(unhygienic intros);exact XH
 . have ha:=r1 Yt;have Bq:=tV (d:=t.d) (w:=⟨va,vs,vf,vd,ql o (U t.aD) cc,vl,vo⟩) ha;have him:=SL hi (qB (qB h));have jG:Zb.wrap (t.d.pc+1+i.cg)=t.d.pc+1+i.cg:=an Xm Xn;by_cases hz:t.d.dY.bk i.a=0
   . have sE:t.dY.bk i.a=0:=hz;have e:t.iY eu i=t.to (t.pc+1):=by unfold aV.iY;rw[ar Ya,ar Ya,ar Ya,ar Ya,ar (λhh=>by rcases hh with hh|⟨hh,_⟩|⟨_,hh⟩<;>first|exact hh sE|omega),kaU]
     rw[e];intro A F hw hS;refine aO kaI λ_=>?_;dsimp only[aa,ah]at hS;have hq:=gv hS hw;revert hq hS hw;refine W (J5 (od pm) (od pj) (od pi) (od pg) (hto t.d (t.d.pc+1))) (J7 h jt Bq hz ha.1 ha.2 bL) ?_<;>(unhygienic intros);exact XH
   have sE:t.dY.bk i.a≠0:=hz;have e:t.iY eu i=t.to (t.pc+1+i.cg):=by unfold aV.iY;rw[ar Ya,ar Ya,ar Ya,ar Ya,az (qB (qB ⟨h,sE⟩))]
   rw[e];intro A F hw hS;refine aO kaI λ_=>?_;dsimp only[aa,ah]at hS;have hq:=gv hS hw;revert hq hS hw;refine W (J5 (od pm) (od pj) (od pi) (od pg) (hto t.d (t.d.pc+1+i.cg))) (J8 h jt jG Bq hz ha.1 ha.2 bL) ?_<;>(unhygienic intros);exact XH
 have ha:=r1 Yt;have Hb:=λx=>Cf (d:=t.d) (w:=⟨va,vs,vf,vd,ql o (U t.aD) cc,vl,vo⟩) (x:=x) ha;have e:t.iY eu i=(t.io i.a (Zc.wrap t.mn)).to (t.pc+1):=by unfold aV.iY;rw[ar Ya,ar Ya,ar Ya,az h,ar Ya,kaU]
 rw[e];intro A F hw hS;refine aO kaI λ_=>?_;dsimp only[aa,ah]at hS;have hq:=gv hS hw;revert hq hS hw;refine W (J5 (od pm) (od pj) (od pi) (od pg) (hto { t.d with dY:=t.d.dY.set i.a (Zc.wrap t.d.mn) } (t.d.pc+1))) (J6 h jt Hb ha.1 ha.2 bL) ?_<;>(unhygienic intros);exact XH
end
structure ThF where
 du:Nat
 fj:Nat
 lM:Nat
 fZ:Nat
 vs:Value
 vo:Value
def gT:Option aJ->Nat->qi|none,_=>qs qk|some _,n=>pv n
def gS:Option kB->Nat->qi|none,_=>qs qk|some _,n=>pv n
def na:Option (List gy)->Nat->qi|none,_=>qs qk|some _,n=>pv n
def eI:Option aJ->Nat->HP|none,_=>eY|some s,n=>bq n s
def eH:Option kB->Nat->HP|none,_=>eY|some f,n=>pt n (w6 f)
def gV:Option (List gy)->Nat->HP|none,_=>eY|some l,n=>EA n l
structure rE where
 bb:Nat
 off:Nat
 fg:Nat
 bO:List Value
abbrev rE.o (k:rE):dt:=qm k.bO qj 5
structure CR (k:rE) (l:List bp):Prop where
 len:l.length<=k.fg
 le:k.off+l.length*5<=k.bO.length
 eq:l.flatMap aA=(k.bO.drop k.off).take (l.length*5)
def CR.is {k:rE}{l:List bp}(h:CR k l){A:AW}(hg:A.bk k.bb=qf k.o):lE A (ql (qf ⟨k.bb,k.off,qk⟩) (U l) k.fg) l:=
 qB ⟨⟨k.bb,k.off,qk⟩,k.fg,k.bO,qj,5,rfl,h.len,hg,rfl,h.le,h.eq⟩
def CR.at {k:rE}{l:List bp}(h:CR k l){i:Nat}(hi:i<U l):k.off+i*5+5<=U k.bO/\(k.bO.drop (k.off+i*5)).take 5=aA l[i]:=by have h1:=h.le;refine⟨by omega,?_⟩;rw[<-DP l i hi,h.eq,<-List.drop_drop,List.drop_take,List.take_take];congr 1;omega
def codeOpen {A:AW}{L K:List It}{v:qi}{l:List bp}(h:aj A L)(hp:aF L (.h (Ms v l)) K)(hl:0<U l):
 ∃k,v=ql (qf ⟨k.bb,k.off,qk⟩) (U l) k.fg/\CR k l/\aj A (.at k.bb k.o::K):=by unfold aj at h;rw[hp.aP]at h;rcases dv.cases h with ⟨_,h0,_⟩|⟨b,off,c,bO,rfl,h1,h2,h3,h4⟩;omega;exact⟨⟨b,off,c,bO⟩,rfl,⟨h1,h2,h3⟩,h4⟩
def W0 {k:rE}{l:List bp}(hR:CR k l){A:AW}{L K:List It}(h:aj A L)(hp:aF L (.at k.bb k.o) K):aj A (.h (Ms (ql (qf ⟨k.bb,k.off,qk⟩) (U l) k.fg) l)::K):=by unfold aj at h;rw[hp.aP]at h;exact dv.mk hR.len hR.le hR.eq h
def jP (q:rE)(b:Nat)(t:aV)(f:ThF):List It:=[.at b (wo t.d ⟨gT t.fR f.du,f.vs,gS t.dV f.fj,na t.dP f.lM,ql (qf ⟨q.bb,q.off,qk⟩) (U t.aD) q.fg,pv f.fZ,f.vo⟩),.h (eI t.fR f.du),.h (jD f.vs t.dC),.h (eH t.dV f.fj),.h (gV t.dP f.lM),
 .at q.bb q.o,.h (sV f.fZ t.cf t.iw),.h (jD f.vo t.iA)]
def iz (q:rE)(b:Nat)(t:aV):HP:=ut λf:ThF=>aP (jP q b t f)
def iz.open {A:AW}{L K:List It}{q:rE}{b:Nat}{t:aV}(h:aj A L)(hp:aF L (.h (iz q b t)) K):∃f,aj A (jP q b t f++K):=lb h hp
def iz.eB {A:AW}{L K:List It}{q:rE}{b:Nat}{t:aV}{du fj lM fZ:Nat}{vs vo:qi}(h:aj A L)(e:bd L (jP q b t ⟨du,fj,lM,fZ,vs,vo⟩) K):aj A (.h (iz q b t)::K):=ju ⟨du,fj,lM,fZ,vs,vo⟩ h e
def iz.bZ {A:AW}{L K G K2:List It}{q:rE}{b:Nat}{t:aV}{du fj lM fZ:Nat}{vs vo:qi}(h:aj A L)(e:bd L (jP q b t ⟨du,fj,lM,fZ,vs,vo⟩) K)(e2:bd K G K2):aj A (.h (iz q b t)::G):=aj.bZ (iz.eB h e) (.s .z e2)
def bz.useT {P:Program}{f:FuncId}{args:List qi}{q:rE}{b:Nat}{t:aV}{tN:List It}{φ:qi->Prop}{post:qi->List It}(hc:bz P f args (.h (iz q b t)::tN) φ post){du fj lM fZ:Nat}{vs vo:qi}{A:AW}{L K K0:List It}{k:qi->AW->Prop}(hw:A.Wf)(hS:aj A L)(e:bd L (jP q b t ⟨du,fj,lM,fZ,vs,vo⟩) K0)(e2:bd K0 tN K)(hk:∀v A',φ v->aj A' (post v++K)->A'.Wf->A.next<=A'.next->k v A'):aE P f args A k:=
 bz.gk hc hw (iz.eB hS e) (.s .z e2) hk
def eL.useT {ι:Type}{P:Program}{f:FuncId}{args:List qi}{q:rE}{b:Nat}{t:aV}{tN:List It}{φ:ι->qi->Prop}{post:ι->List It}(hc:eL P f args (.h (iz q b t)::tN) φ post){du fj lM fZ:Nat}{vs vo:qi}{A:AW}{L K K0:List It}{k:qi->AW->Prop}(hw:A.Wf)(hS:aj A L)(e:bd L (jP q b t ⟨du,fj,lM,fZ,vs,vo⟩) K0)(e2:bd K0 tN K)(hk:∀x v A',φ x v->aj A' (post x++K)->A'.Wf->A.next<=A'.next->k v A'):aE P f args A k:=
 eL.gk hc hw (iz.eB hS e) (.s .z e2) hk
def fT {L G K:List It}(h':bd L G K:=by first|(((try simp only[dI,eh,fM]);dsimp only[jP,aV.sX,aV.d,eI,gT,eH,gS,gV,na,aa,ah];(try simp only[dI,eh,fM]);(try dsimp only[eI,gT,eH,gS,gV,na]));(repeat' (first|apply bd.z|apply bd.s|apply aF.z|apply aF.pt|apply aF.s));done)|fail):bd L G K:=h'
end
section
abbrev G6:List (Nat×Nat):=[(0,0),(1,0),(2,0),(3,0),(4,0),(6,0),(7,0),(8,0),(9,0),(10,0),(5,2),(11,2),(12,0),(13,0)]
abbrev G5:List (Nat×Nat):=[(0,0),(1,0),(2,0),(3,0),(4,0),(5,0),(6,0),(7,0),(8,0)]
abbrev rN:List (Nat×Nat):=[(0,0),(1,0),(2,0),(3,0),(4,0),(5,0),(6,0),(7,0),(8,0),(9,0),(10,2),(11,0),(12,0)]
abbrev rM:List (Nat×Nat):=[(0,0),(1,0),(2,0),(3,0),(4,0),(5,0),(6,0),(7,0),(8,0),(9,0),(10,3),(11,0),(12,0),(13,3)]
abbrev rL:List (Nat×Nat):=[(0,0),(1,0),(2,0),(3,0),(4,0),(6,0),(5,2),(7,3)]
abbrev rK:List (Nat×Nat):=[(0,0),(1,0),(2,0),(3,0),(4,0),(5,0),(6,0),(7,0),(8,0),(9,0),(10,0),(11,0),(12,0),(13,0),(14,0),(15,0),(16,0),(17,0)]
abbrev rJ:List (Nat×Nat):=[(0,0),(1,0),(2,0),(3,0),(4,0),(5,0),(6,0),(7,0),(8,0),(9,0),(10,0),(11,0),(12,0),(13,2),(14,3),(15,0),(16,0),(17,3)]
abbrev rI:List (Nat×Nat):=[(0,0),(1,0),(2,0),(3,0),(4,0),(5,0),(6,0),(7,0),(8,0),(9,0),(10,2),(11,0),(12,3)]
open T7
variable [Gl]
def Hm (hF:FOK){q:rE}{l:List bp}(hR:CR q l)(k:Int)(U3:0<=k)(hl:(b7 l).2=0)(h7:d9 l k.toNat=7){A:AW}{L K:List It}{kk:qi->AW->Prop}(hw:A.Wf)(hS:aj A L)(hp:aF L (.at q.bb q.o) K)(hk:kk (qh qg (dH l k.toNat)) A):aE qZ 214 [ql (qf ⟨q.bb,q.off,qk⟩) (U l) q.fg,qh qg k] A kk:=by
 obtain⟨n,rfl⟩:=Int.eq_ofNat_of_zero_le U3;refine bT (QW hF _ l n A (hR.is (aj.gR hS hp)) (um (by rw[Int.toNat_natCast]at h7;omega))) ?_;rintro _ _⟨rfl,rfl⟩_ _;have e:Hl l n=dH l n:=by unfold Hl;rw[az ⟨by simp[EZ,hl],by simpa using h7⟩]
 rw[e]
 simpa using hk
def freesE (n:Nat)(s:aJ)(hl:U s.aB<2^38):eL qZ 212 [pv n] [.h (bq n s)] (λ(x:Option Addr×Nat) v=>v=ql x.1 (U s.aB) x.2) (λx=>[.h (ay qg (ql x.1 (U s.aB) x.2) s.aB),.h (bq n s)]):=by intro A F hw hS;refine bT (Ti n s _ s.aH A hw (bq.toB (aj.bZ hS (.s .z .z)) .z) hl) ?_;rintro u A'⟨h1,h2⟩lC _;obtain⟨o,c,rfl,_⟩:=h1.is.cL;exact⟨(o,c),rfl,ay.jh hS hw h2 h1⟩
structure ThB (t:aV):Prop where
 cf:dl t.cf
 pc:0<=t.pc/\t.pc<2^40
 iA:t.iA.length+t.dC.length<2^29
 p9:t.iw.length<2^27
 y8:0<=t.kz/\t.kz<2^40
 C1:0<=t.jz/\t.jz<2^40
 pG:0<=t.gt/\t.gt<2^40
 uB:(b7 t.aD).2=0
def Ji (q:rE)(b:Nat)(t:aV)(s:aJ)(i:bp)(dI:t.fR=qf s)(eh:t.dV=qk)(fM:t.dP=qk)(hB:ThB t)(lV:i.op=12\/i.op=13)(hi:cQ i=0):
 bz qZ 126 [pv b,ll i] [.h (iz q b t)] (λ_=>True) (λ_=>[.h (iz q b (t.mI i s))]):=by
 have lj:0<=t.pc/\t.pc<2^40:=hB.pc;have AU:U t.iA<2^30:=by have:=hB.iA;omega
 obtain⟨r1,r2,_⟩:=pd hi;obtain⟨op,i1,i2,i3,cg⟩:=i;dsimp only at lV r2;unfold ll;by_cases h1:s.aD=1
 . rcases lV with h2|h2
   . subst h2;have e:t.mI ⟨12,i1,i2,i3,cg⟩ s=((({ t with fR:=qk,aZ:=qn }:aV).io i1 s.value).sY 4 s.value).pQ:=by unfold aV.mI;dsimp only;rw[az h1];rfl
     rw[e];intro A F hw dU;refine aO kb6 λ_=>?_;dsimp only[aa,ah]at dU;obtain⟨⟨du,fj,lM,fZ,vs,vo⟩,hS⟩:=iz.open dU .z;clear dU;dsimp only[jP,aa,ah]at hS;rw[dI,eh,fM]at hS;dsimp only[eI,gT,eH,gS,gV,na]at hS;have hq:=gv hS hw;revert hq hS hw;refine Wu (J5 (Tg.mk (n:=10) (λ{A L K k}=>gg (A:=A) (L:=L) (K:=K) (k:=k) (yI du s))) (Tg.mk (n:=10) (λ{A L K k}=>gg (A:=A) (L:=L) (K:=K) (k:=k) (Hw du s))) (Tg.mk (n:=36) (λx1 x2 x3 x4 x5 x6 x7 x8 x9=>Gx b { t.d with aZ:=qn } x1 x2 x3 x4 x5 x6 x7 x8 x9 i1 i2 i3 cg s.value t.iA hi lj AU)) (od G6) (od G5)) (J2 h1 bL) ?_<;>(unhygienic intros);refine⟨_,by rfl,by trivial,?_⟩;apply iz.bZ;apply aj.oA
     (·exact sA)
     . exact XJ
     (·exact pA)
     all_goals(exact 0)
   subst h2;have hb:=r2 rfl;have Bq:=λw=>tV (d:={ t.d with aZ:=qn }) (w:=w) hb;have e:t.mI ⟨13,i1,i2,i3,cg⟩ s=((({ t with fR:=qk,aZ:=qn }:aV)).sY 5 (t.dY.bk i2)).pQ:=by unfold aV.mI;dsimp only;rw[az h1];rfl
   rw[e];intro A F hw dU;refine aO kb6 λ_=>?_;dsimp only[aa,ah]at dU;obtain⟨⟨du,fj,lM,fZ,vs,vo⟩,hS⟩:=iz.open dU .z;clear dU;dsimp only[jP,aa,ah]at hS;rw[dI,eh,fM]at hS;dsimp only[eI,gT,eH,gS,gV,na]at hS;have hq:=gv hS hw;revert hq hS hw;refine Wu (J5 (Tg.mk (n:=10) (λ{A L K k}=>gg (A:=A) (L:=L) (K:=K) (k:=k) (yI du s))) (Tg.mk (n:=10) (λ{A L K k}=>gg (A:=A) (L:=L) (K:=K) (k:=k) (Hw du s))) (Tg.mk (n:=36) (λx1 x2 x3 x4 x5 x6 x7 x8 x9=>Gw b { t.d with aZ:=qn } x1 x2 x3 x4 x5 x6 x7 x8 x9 i1 i2 i3 cg (t.d.dY.bk i2) t.iA hi lj AU)) (od G6) (od G5)) (J5 h1 Bq hb.1 hb.2 bL) ?_<;>(unhygienic intros);refine⟨_,by rfl,by trivial,?_⟩;apply iz.bZ;apply aj.oA
   (·exact sA)
   . exact XJ
   (·exact pA)
   all_goals(exact 0)
 by_cases h2:s.aD=6
 . have e:t.mI ⟨op,i1,i2,i3,cg⟩ s=((({ t with fR:=qk,aZ:=qn }:aV)).sY 7 6).pQ:=by unfold aV.mI;dsimp only;rw[ar h1,az h2]
   rw[e];intro A F hw dU;refine aO kb6 λ_=>?_;dsimp only[aa,ah]at dU;obtain⟨⟨du,fj,lM,fZ,vs,vo⟩,hS⟩:=iz.open dU .z;clear dU;dsimp only[jP,aa,ah]at hS;rw[dI,eh,fM]at hS;dsimp only[eI,gT,eH,gS,gV,na]at hS;have hq:=gv hS hw;revert hq hS hw;refine Wu (J6 (Tg.mk (n:=10) (λ{A L K k}=>gg (A:=A) (L:=L) (K:=K) (k:=k) (yI du s))) (Tg.mk (n:=10) (λ{A L K k}=>gg (A:=A) (L:=L) (K:=K) (k:=k) (Hw du s))) (Tg.mk (n:=36) (λx1=>ko b { t.d with aZ:=qn } x1 t.iA 7 6 AU)) (Tg.mk (n:=37) (λx1 x2 x3 x4 x5 x6 x7 x8 x9=>mC b { t.d with aZ:=qn } x1 x2 x3 x4 x5 x6 x7 x8 x9 lj)) (od G6) (od G5)) (J3 h1 h2 bL) ?_<;>(unhygienic intros);refine⟨_,by rfl,by trivial,?_⟩;apply iz.bZ;apply aj.oA
   (·exact sA)
   . exact XJ
   (·exact pA)
   all_goals(exact 0)
 have e:t.mI ⟨op,i1,i2,i3,cg⟩ s=({ t with fR:=qk,aZ:=qn }:aV):=by unfold aV.mI;dsimp only;rw[ar h1,ar h2]
 rw[e];intro A F hw dU;refine aO kb6 λ_=>?_;dsimp only[aa,ah]at dU;obtain⟨⟨du,fj,lM,fZ,vs,vo⟩,hS⟩:=iz.open dU .z;clear dU;dsimp only[jP,aa,ah]at hS;rw[dI,eh,fM]at hS;dsimp only[eI,gT,eH,gS,gV,na]at hS;have hq:=gv hS hw;revert hq hS hw;refine W (J4 (Tg.mk (n:=10) (λ{A L K k}=>gg (A:=A) (L:=L) (K:=K) (k:=k) (yI du s))) (Tg.mk (n:=10) (λ{A L K k}=>gg (A:=A) (L:=L) (K:=K) (k:=k) (Hw du s))) (od G6) (od G5)) (J3 h1 h2 bL) ?_<;>(unhygienic intros);refine⟨_,by rfl,by trivial,?_⟩;apply iz.bZ;apply aj.oA
 (·exact sA)
 . exact XJ
 (·exact pA)
 all_goals(exact 0)
def VI (hF:FOK)(q:rE)(b:Nat)(t:aV)(s:aJ)(dI:t.fR=qf s)(eh:t.dV=qk)(fM:t.dP=qk)(hB:ThB t)(h7:d9 t.aD t.bW.toNat=7)(WC:0<=t.bW)(rx:∀x∈s.aB,x<2^62)(Gb:U s.aB<=8)(GP:CR q t.aD):
 bz qZ 127 [pv b] [.h (iz q b t)] (λ_=>True) (λ_=>[.h (iz q b (t.bZ s))]):=by
 have AU:=hB.iA;have hlo1:U t.iA+U t.dC<2^30:=Ya
 have hlo2:U (t.iA++t.dC)<2^30:=by rw[Zh];omega
 have hlo3:U t.iA<2^30:=Ya
 have hll:U t.iw<2^28:=by have:=hB.p9;omega
 have hf1:U s.aB<2^38:=Ya
 have IT:U s.aB<2^28:=Ya
 have sF:=hB.cf;have RE:t.bW.toNat<U t.aD:=um Ya;have Bs:t.bW<U t.aD:=Ya
 have him:t.yD t.bW=t.aD[t.bW.toNat]:=by unfold aV.yD;rw[List.getD_eq_getElem?_getD,List.getElem?_eq_getElem RE];rfl
 have hpe:Zb.wrap ((dH t.aD t.bW.toNat:Int)+1)=(dH t.aD t.bW.toNat:Int)+1:=by have h64:=(gA hB.uB).1;have h65:=(om (p:=t.aD) (k:=t.bW.toNat+1) Ya).2.1;unfold dH;exact an Ya Ya
 by_cases h1:s.aD=1
 . by_cases h2:0<U s.aB
   . have e:t.bZ s=({ t with fR:=qk,iA:=t.iA++t.dC,iw:=pJ t.cf t.iw s.pX s.aB }:aV).lK 1:=by unfold aV.bZ aV.sm;rw[ar Ya,az h1,az h2,h1]
     rw[e];intro A F hw dU;refine aO kbI λ_=>?_;dsimp only[aa,ah]at dU;obtain⟨⟨du,fj,lM,fZ,vs,vo⟩,hS⟩:=iz.open dU .z;clear dU;dsimp only[jP,aa,ah]at hS;rw[dI,eh,fM]at hS;dsimp only[eI,gT,eH,gS,gV,na]at hS;have hq:=gv hS hw
     repeat' (first|(with_reducible apply lwObs2;(·(simp;rfl));(·(simp;rfl));(·exact wA);(·exact sA);(·exact kA);(·((repeat' (first|apply aF.z|apply aF.s));done));(·omega);(·intro _ _;trivial);rintro _ _ _ hS hw _;have hq:=gv hS hw)|(with_reducible apply LU;(·(simp;rfl));(·(simp;rfl));(·exact wA);(·exact sA);(·exact kA);(·(simp;(repeat' (first|rfl|refine⟨rfl,?_⟩));done));(·omega);(·intro _ _;trivial);rintro _ _ _ hS hw _;have hq:=gv hS hw)|(refine lz λR hR=>?_;simp[ax,hq,hpe,h1,h2,AW.ab,aI];try simp(disch:=omega)only[az,ar,an,ax])|(refine hR _ _ ?_;clear hR R)|(refine hK _ _ ?_;clear hK K)|refine nx ?_|refine wn λK hK=>?_|simp only[wS,rN,rM,rL,rJ,rI]|refine wl Zm rN Yc λK hK=>?_|refine wl Zm rM Yc λK hK=>?_|refine wl Zm rL Yc λK hK=>?_|refine wl Zm rJ Yc λK hK=>?_|refine wl Zm rI Yc λK hK=>?_|(apply gg (yI du s);(·exact wA);(·exact sA);(·exact kA);)|(apply gg (OW du s);(·exact wA);(·exact sA);(·exact kA);)|(apply eL.gk (freesE du s hf1);(·exact wA);(·exact sA);(·exact pA);(rintro xw _ _ rfl hS hw _;have hS:=lA hS;(try (have hq:=gv hS hw))))|(apply bz.gk (PW fZ t.cf sF t.iw s.pX _ s.aB rx hll IT);(·exact wA);(·exact sA);(·exact pA);rintro _ _ _ hS hw _;have hS:=lA hS;have hq:=gv hS hw)|(apply Hm hF GP t.bW WC hB.uB h7;(·exact wA);(·exact sA);(·exact kA);)|(apply bz.gk (Ce b _ _ _ _ _ _ _ _ _ _ _);(·exact wA);(·exact sA);(·exact pA);rintro _ _ _ hS hw _;have hS:=lA hS;have hq:=gv hS hw)|(show df _ _ _ _ _ _;refine nx ?_)|(refine wc rfl (λhc=>?_) (λhc=>?_)<;>(try simp at hc)))
     try simp only[Zh]at hS
     refine⟨_,by rfl,by trivial,?_⟩;apply iz.bZ;apply aj.oA
     (·exact sA)
     . exact XJ
     (·exact pA)
     all_goals(exact 0)
   have e:t.bZ s=({ t with fR:=qk,iA:=t.iA++t.dC }:aV).lK 1:=by unfold aV.bZ aV.sm;rw[ar Ya,az h1,ar h2,h1]
   have h3:U s.aB=0:=Ya;rw[e];intro A F hw dU;refine aO kbI λ_=>?_;dsimp only[aa,ah]at dU;obtain⟨⟨du,fj,lM,fZ,vs,vo⟩,hS⟩:=iz.open dU .z;clear dU;dsimp only[jP,aa,ah]at hS;rw[dI,eh,fM]at hS;dsimp only[eI,gT,eH,gS,gV,na]at hS;have hq:=gv hS hw
   repeat' (first|(with_reducible apply lwObs2;(·(simp;rfl));(·(simp;rfl));(·exact wA);(·exact sA);(·exact kA);(·((repeat' (first|apply aF.z|apply aF.s));done));(·omega);(·intro _ _;trivial);rintro _ _ _ hS hw _;have hq:=gv hS hw)|(with_reducible apply LU;(·(simp;rfl));(·(simp;rfl));(·exact wA);(·exact sA);(·exact kA);(·(simp;(repeat' (first|rfl|refine⟨rfl,?_⟩));done));(·omega);(·intro _ _;trivial);rintro _ _ _ hS hw _;have hq:=gv hS hw)|(refine lz λR hR=>?_;simp[ax,hq,hpe,h1,h3,AW.ab,aI];try simp(disch:=omega)only[az,ar,an,ax])|(refine hR _ _ ?_;clear hR R)|(refine hK _ _ ?_;clear hK K)|refine nx ?_|refine wn λK hK=>?_|simp only[wS,rN,rM,rJ,rI]|refine wl Zm rN Yc λK hK=>?_|refine wl Zm rM Yc λK hK=>?_|refine wl Zm rJ Yc λK hK=>?_|refine wl Zm rI Yc λK hK=>?_|(apply gg (yI du s);(·exact wA);(·exact sA);(·exact kA);)|(apply eL.gk (freesE du s hf1);(·exact wA);(·exact sA);(·exact pA);(rintro xw _ _ rfl hS hw _;have hS:=lA hS;(try (have hq:=gv hS hw))))|(apply Hm hF GP t.bW WC hB.uB h7;(·exact wA);(·exact sA);(·exact kA);)|(apply bz.gk (Ce b _ _ _ _ _ _ _ _ _ _ _);(·exact wA);(·exact sA);(·exact pA);rintro _ _ _ hS hw _;have hS:=lA hS;have hq:=gv hS hw)|(show df _ _ _ _ _ _;refine nx ?_)|(refine wc rfl (λhc=>?_) (λhc=>?_)<;>(try simp at hc)))
   try simp only[Zh]at hS
   refine⟨_,by rfl,by trivial,?_⟩;apply iz.bZ;apply aj.oA
   (·exact sA)
   . exact XJ
   (·exact pA)
   all_goals(exact 0)
 by_cases h9:s.aD=9
 . obtain⟨La,RC⟩:=GP.at RE;have hcell:q.bO[q.off+t.d.bW.toNat*5+4]?=qf (qh qg (t.yD t.bW).cg):=by rw[him];exact PZ RC 4 Ya
   have GM:q.off+t.d.bW.toNat*5+5<=U q.bO:=La;have Kf:0<=t.d.bW:=WC;have lW:t.d.bW<(U t.aD:Int):=Bs;by_cases h2:t.d.jz<(t.yD t.bW).cg
   . have e:t.bZ s=({ t with fR:=qk,dY:=t.nh }:aV).to t.bW:=by unfold aV.bZ aV.sm;rw[az h9,az (show t.jz<(t.yD t.bW).cg from h2),ar h1]
     rw[e];intro A F hw dU;refine aO kbI λ_=>?_;dsimp only[aa,ah]at dU;obtain⟨⟨du,fj,lM,fZ,vs,vo⟩,hS⟩:=iz.open dU .z;clear dU;dsimp only[jP,aa,ah]at hS;rw[dI,eh,fM]at hS;dsimp only[eI,gT,eH,gS,gV,na]at hS;have hq:=gv hS hw
     repeat' (first|(refine lz λR hR=>?_;simp[hq,h9,h2,hcell,Kf,lW,AW.ab,aI];try simp(disch:=omega)only[az,ar,an,ax])|(refine hR _ _ ?_;clear hR R)|(refine hK _ _ ?_;clear hK K)|refine nx ?_|refine wn λK hK=>?_|simp only[wS,rN,rK]|refine wl Zm rN Yc λK hK=>?_|refine wl Zm rK Yc λK hK=>?_|(apply gg (yI du s);(·exact wA);(·exact sA);(·exact kA);)|(apply bz.gk (Ce b _ _ _ _ _ _ _ _ _ _ _);(·exact wA);(·exact sA);(·exact pA);rintro _ _ _ hS hw _;have hS:=lA hS;have hq:=gv hS hw)|(show df _ _ _ _ _ _;refine nx ?_)|(refine wc rfl (λhc=>?_) (λhc=>?_)<;>(try simp at hc)))
     try simp only[Zh]at hS
     refine⟨_,by rfl,by trivial,?_⟩;apply iz.bZ;apply aj.oA
     (·exact sA)
     . exact XJ
     (·exact pA)
     all_goals(exact 0)
   have e:t.bZ s=({ t with fR:=qk,dY:=t.nh }:aV).lK 5:=by unfold aV.bZ aV.sm;rw[az h9,ar (show ¬t.jz<(t.yD t.bW).cg from h2),ar h1]
   rw[e];intro A F hw dU;refine aO kbI λ_=>?_;dsimp only[aa,ah]at dU;obtain⟨⟨du,fj,lM,fZ,vs,vo⟩,hS⟩:=iz.open dU .z;clear dU;dsimp only[jP,aa,ah]at hS;rw[dI,eh,fM]at hS;dsimp only[eI,gT,eH,gS,gV,na]at hS;have hq:=gv hS hw
   repeat' (first|(with_reducible apply LU;(·(simp;rfl));(·(simp;rfl));(·exact wA);(·exact sA);(·exact kA);(·(simp;(repeat' (first|rfl|refine⟨rfl,?_⟩));done));(·omega);(·intro _ _;trivial);rintro _ _ _ hS hw _;have hq:=gv hS hw)|(refine lz λR hR=>?_;simp[ax,hq,hpe,h9,h2,hcell,Kf,lW,AW.ab,aI];try simp(disch:=omega)only[az,ar,an,ax])|(refine hR _ _ ?_;clear hR R)|(refine hK _ _ ?_;clear hK K)|refine nx ?_|refine wn λK hK=>?_|simp only[wS,rN,rK,rJ,rI]|refine wl Zm rN Yc λK hK=>?_|refine wl Zm rK Yc λK hK=>?_|refine wl Zm rJ Yc λK hK=>?_|refine wl Zm rI Yc λK hK=>?_|(apply gg (yI du s);(·exact wA);(·exact sA);(·exact kA);)|(apply Hm hF GP t.bW WC hB.uB h7;(·exact wA);(·exact sA);(·exact kA);)|(apply bz.gk (Ce b _ _ _ _ _ _ _ _ _ _ _);(·exact wA);(·exact sA);(·exact pA);rintro _ _ _ hS hw _;have hS:=lA hS;have hq:=gv hS hw)|(show df _ _ _ _ _ _;refine nx ?_)|(refine wc rfl (λhc=>?_) (λhc=>?_)<;>(try simp at hc)))
   try simp only[Zh]at hS
   refine⟨_,by rfl,by trivial,?_⟩;apply iz.bZ;apply aj.oA
   (·exact sA)
   . exact XJ
   (·exact pA)
   all_goals(exact 0)
 have e:t.bZ s=({ t with fR:=qk,dY:=t.nh }:aV).lK s.aD:=by unfold aV.bZ aV.sm;rw[ar h9,ar h1]
 rw[e];intro A F hw dU;refine aO kbI λ_=>?_;dsimp only[aa,ah]at dU;obtain⟨⟨du,fj,lM,fZ,vs,vo⟩,hS⟩:=iz.open dU .z;clear dU;dsimp only[jP,aa,ah]at hS;rw[dI,eh,fM]at hS;dsimp only[eI,gT,eH,gS,gV,na]at hS;have hq:=gv hS hw
 repeat' (first|(with_reducible apply LU;(·(simp;rfl));(·(simp;rfl));(·exact wA);(·exact sA);(·exact kA);(·(simp;(repeat' (first|rfl|refine⟨rfl,?_⟩));done));(·omega);(·intro _ _;trivial);rintro _ _ _ hS hw _;have hq:=gv hS hw)|(refine lz λR hR=>?_;simp[hq,hpe,h1,h9,AW.ab,aI];try simp(disch:=omega)only[az,ar,an,ax])|(refine hR _ _ ?_;clear hR R)|(refine hK _ _ ?_;clear hK K)|refine nx ?_|refine wn λK hK=>?_|simp only[wS,rN,rJ,rI]|refine wl Zm rN Yc λK hK=>?_|refine wl Zm rJ Yc λK hK=>?_|refine wl Zm rI Yc λK hK=>?_|(apply gg (yI du s);(·exact wA);(·exact sA);(·exact kA);)|(apply Hm hF GP t.bW WC hB.uB h7;(·exact wA);(·exact sA);(·exact kA);)|(apply bz.gk (Ce b _ _ _ _ _ _ _ _ _ _ _);(·exact wA);(·exact sA);(·exact pA);rintro _ _ _ hS hw _;have hS:=lA hS;have hq:=gv hS hw)|(show df _ _ _ _ _ _;refine nx ?_)|(refine wc rfl (λhc=>?_) (λhc=>?_)<;>(try simp at hc)))
 try simp only[Zh]at hS
 refine⟨_,by rfl,by trivial,?_⟩;apply iz.bZ;apply aj.oA
 (·exact sA)
 . exact XJ
 (·exact pA)
 all_goals(exact 0)
def Ll (hF:FOK)(q:rE)(b:Nat)(t:aV)(s:aJ)(i:bp)(dI:t.fR=qf s)(eh:t.dV=qk)(fM:t.dP=qk)(hB:ThB t)(hi:cQ i=0)(cJ:t.aZ=qj->i.op=12\/i.op=13)(hwk:t.aZ=qn->d9 t.aD t.bW.toNat=7/\0<=t.bW)(rx:∀x∈s.aB,x<2^62)(Gb:U s.aB<=8)(GP:CR q t.aD):
 bz qZ 73 [pv b,ll i] [.h (iz q b t)] (λ_=>True) (λ_=>[.h (iz q b (t.wi i s))]):=by
 have lj:0<=t.pc/\t.pc<2^40:=hB.pc;have hls:U t.dC<2^30:=by have:=hB.iA;omega
 obtain⟨r1,_⟩:=pd hi;obtain⟨op,i1,i2,i3,cg⟩:=i;dsimp only at cJ r1;unfold ll;by_cases h1:s.aG=2
 . cases hs:t.aZ with
   |true=>
     have tu:t.d.aZ=qj:=hs;have e:t.wi ⟨op,i1,i2,i3,cg⟩ s=t.mI ⟨op,i1,i2,i3,cg⟩ s:=by unfold aV.wi;rw[az h1,az hs]
     have hes:=Ji q b t s ⟨op,i1,i2,i3,cg⟩ dI eh fM hB (cJ hs) hi;rw[e];intro A F hw dU;refine aO kbr λ_=>?_;dsimp only[aa,ah]at dU;obtain⟨⟨du,fj,lM,fZ,vs,vo⟩,hS⟩:=iz.open dU .z;clear dU;dsimp only[jP,aa,ah]at hS;rw[dI,eh,fM]at hS;dsimp only[eI,gT,eH,gS,gV,na]at hS;have hq:=gv hS hw;revert hq hS hw;refine Wu (J2 (Tg.mk (n:=10) (λ{A L K k}=>gg (A:=A) (L:=L) (K:=K) (k:=k) (EK du s))) (Tg.mk (n:=34) @hes)) (J3 h1 tu bL) ?_<;>(unhygienic intros);exact⟨_,by rfl,trivial,aj.bZ hS (.s .z (.s (by repeat' (first|apply aF.z|apply aF.s)) .z))⟩
   |false=>
     have tu:t.d.aZ=qn:=hs;have e:t.wi ⟨op,i1,i2,i3,cg⟩ s=t.bZ s:=by unfold aV.wi;rw[az h1,ar Y5]
     have hes:=VI hF q b t s dI eh fM hB (hwk hs).1 (hwk hs).2 rx Gb GP;rw[e];intro A F hw dU;refine aO kbr λ_=>?_;dsimp only[aa,ah]at dU;obtain⟨⟨du,fj,lM,fZ,vs,vo⟩,hS⟩:=iz.open dU .z;clear dU;dsimp only[jP,aa,ah]at hS;rw[dI,eh,fM]at hS;dsimp only[eI,gT,eH,gS,gV,na]at hS;have hq:=gv hS hw;revert hq hS hw;refine Wu (J2 (Tg.mk (n:=10) (λ{A L K k}=>gg (A:=A) (L:=L) (K:=K) (k:=k) (EK du s))) (Tg.mk (n:=34) @hes)) (J3 h1 tu bL) ?_<;>(unhygienic intros);exact⟨_,by rfl,trivial,aj.bZ hS (.s .z (.s (by repeat' (first|apply aF.z|apply aF.s)) .z))⟩
 cases hs:t.aZ with
 |true=>
   have tu:t.d.aZ=qj:=hs;have e:t.wi ⟨op,i1,i2,i3,cg⟩ s=t:=by unfold aV.wi;rw[ar h1,az hs]
   rw[e];intro A F hw dU;refine aO kbr λ_=>?_;dsimp only[aa,ah]at dU;obtain⟨⟨du,fj,lM,fZ,vs,vo⟩,hS⟩:=iz.open dU .z;clear dU;dsimp only[jP,aa,ah]at hS;rw[dI,eh,fM]at hS;dsimp only[eI,gT,eH,gS,gV,na]at hS;have hq:=gv hS hw;revert hq hS hw;refine W (J1 (Tg.mk (n:=10) (λ{A L K k}=>gg (A:=A) (L:=L) (K:=K) (k:=k) (EK du s)))) (J3 h1 tu bL) ?_<;>(unhygienic intros);refine⟨_,by rfl,by trivial,?_⟩;apply iz.bZ
   (·exact sA)
   . exact XV
   (·exact pA)
   all_goals(exact 0)
 |false=>
   have tu:t.d.aZ=qn:=hs;by_cases h2:op=10
   . subst h2;have ha:=r1 rfl;have e:t.wi ⟨10,i1,i2,i3,cg⟩ s=(t.eV i1 1 s.value).pQ:=by unfold aV.wi;rw[ar h1,ar Y5,az rfl]
     rw[e];intro A F hw dU;refine aO kbr λ_=>?_;dsimp only[aa,ah]at dU;obtain⟨⟨du,fj,lM,fZ,vs,vo⟩,hS⟩:=iz.open dU .z;clear dU;dsimp only[jP,aa,ah]at hS;rw[dI,eh,fM]at hS;dsimp only[eI,gT,eH,gS,gV,na]at hS;have hq:=gv hS hw;revert hq hS hw;refine Wu (J3 (Tg.mk (n:=10) (λ{A L K k}=>gg (A:=A) (L:=L) (K:=K) (k:=k) (EK du s))) (Tg.mk (n:=36) (λx1 x2 x3 x4 x5 x6=>Qz b du t.d x1 x2 x3 x4 x5 x6 s t.dC i1 1 ha hls)) (Tg.mk (n:=37) (λx1 x2 x3 x4 x5 x6 x7 x8 x9=>mC b { t.d with dY:=t.d.dY.set i1 s.value } x1 x2 x3 x4 x5 x6 x7 x8 x9 lj))) (J3 h1 tu bL) ?_<;>(unhygienic intros);refine⟨_,by rfl,by trivial,?_⟩;apply iz.bZ
     (·exact sA)
     . exact XV
     (·exact pA)
     all_goals(exact 0)
   by_cases h3:op=14
   . subst h3;have ha:=r1 rfl;have e:t.wi ⟨14,i1,i2,i3,cg⟩ s=(t.eV i1 2 s.value).pQ:=by unfold aV.wi;rw[ar h1,ar Y5,ar (show ¬(14:Int)=10 by decide),az rfl]
     rw[e];intro A F hw dU;refine aO kbr λ_=>?_;dsimp only[aa,ah]at dU;obtain⟨⟨du,fj,lM,fZ,vs,vo⟩,hS⟩:=iz.open dU .z;clear dU;dsimp only[jP,aa,ah]at hS;rw[dI,eh,fM]at hS;dsimp only[eI,gT,eH,gS,gV,na]at hS;have hq:=gv hS hw;revert hq hS hw;refine Wu (J3 (Tg.mk (n:=10) (λ{A L K k}=>gg (A:=A) (L:=L) (K:=K) (k:=k) (EK du s))) (Tg.mk (n:=36) (λx1 x2 x3 x4 x5 x6=>Qz b du t.d x1 x2 x3 x4 x5 x6 s t.dC i1 2 ha hls)) (Tg.mk (n:=37) (λx1 x2 x3 x4 x5 x6 x7 x8 x9=>mC b { t.d with dY:=t.d.dY.set i1 s.value } x1 x2 x3 x4 x5 x6 x7 x8 x9 lj))) (J3 h1 tu bL) ?_<;>(unhygienic intros);refine⟨_,by rfl,by trivial,?_⟩;apply iz.bZ
     (·exact sA)
     . exact XV
     (·exact pA)
     all_goals(exact 0)
   have e:t.wi ⟨op,i1,i2,i3,cg⟩ s=t.pQ:=by unfold aV.wi;rw[ar h1,ar Y5,ar h2,ar h3]
   rw[e];intro A F hw dU;refine aO kbr λ_=>?_;dsimp only[aa,ah]at dU;obtain⟨⟨du,fj,lM,fZ,vs,vo⟩,hS⟩:=iz.open dU .z;clear dU;dsimp only[jP,aa,ah]at hS;rw[dI,eh,fM]at hS;dsimp only[eI,gT,eH,gS,gV,na]at hS;have hq:=gv hS hw;revert hq hS hw;refine Wu (J2 (Tg.mk (n:=10) (λ{A L K k}=>gg (A:=A) (L:=L) (K:=K) (k:=k) (EK du s))) (Tg.mk (n:=37) (λx1 x2 x3 x4 x5 x6 x7 x8 x9=>mC b t.d x1 x2 x3 x4 x5 x6 x7 x8 x9 lj))) (J5 h1 tu h2 h3 bL) ?_<;>(unhygienic intros);refine⟨_,by rfl,by trivial,?_⟩;apply iz.bZ
   (·exact sA)
   . exact XV
   (·exact pA)
   all_goals(exact 0)
end
section
open Go.Proofs Go
variable [Gl]
def CK (e:JX)(r w:qi):List qi:=[qh qg e.bR,qh qg e.af,qh qg e.fB,qh qg e.word,r,w]
abbrev Ey:=JX×qi×qi
def iq (q:List Ey):List qi:=q.flatMap λy=>CK y.1 y.2.1 y.2.2
def Fg (y:Ey):HP:=ay qg y.2.1 y.1.reads*ay qg y.2.2 y.1.b8
def ff (q:List Ey):HP:=q.foldr (λy P=>Fg y*P) eY
def Gf (q r:List Ey):ff (q++r)=ff q*ff r:=by
 induction q with
 |nil=>show ff r=eY*ff r;rw[iD]
 |cons y q ih=>
   show Fg y*ff (q++r)=(Fg y*ff q)*ff r;rw[ih]
   ac_rfl
def Jb (v:qi)(q:List Ey):List It:=[.h (dv 6 v (U q) (iq q)),.h (ff q)]
def gK (v:qi)(l:List JX):HP:=ut λx:{ q:List Ey // q.map ZB=l }=>aP (Jb v x.1)
section
variable {A:AW} {L K K1 K2:List It} {v:qi}
def gK.open {l:List JX}(h:aj A L)(hp:aF L (.h (gK v l)) K):∃q,q.map ZB=l/\aj A (Jb v q++K):=by obtain⟨⟨q,hq⟩,h⟩:=lb h hp;exact⟨q,hq,h⟩
def gK.eB {l:List JX}{q:List Ey}(hq:q.map ZB=l)(h:aj A L)(e:bd L (Jb v q) K):aj A (.h (gK v l)::K):=ju (g:=λx:{ q:List Ey // q.map ZB=l }=>Jb v x.1) ⟨q,hq⟩ h e
def gK.nil (h:aj A L):aj A (.h (gK (ql qk 0 0) [])::L):=by have h1:aj A (.h eY::L):=aj.oA h;have h2:aj A (.h (dv 6 (ql qk 0 0) 0 [])::.h eY::L):=dv.nil h1;exact gK.eB (q:=[]) rfl h2 (.s .z (.s .z .z))
def gK.aM {n:Nat}{e:JX}{r w:qi}(h:aj A L)(h1:aF L (.at n (qm (CK e r w) qj 6)) K)(h2:aF K (.h (ay qg r e.reads)) K1)(h3:aF K1 (.h (ay qg w e.b8)) K2):aj A (.h (gK (ql (qf ⟨n,0,qk⟩) 1 1) [e])::K2):=by
 unfold aj at h;rw[h1.aP,h2.aP,h3.aP]at h;have h4:bD A (pt n (qm (CK e r w) qj 6)*(ay qg r e.reads*(ay qg w e.b8*aP K2))):=h;have e0:iq [(e,r,w)]=CK e r w:=by simp[iq]
 have h5:aj A (.h (dv 6 (ql (qf ⟨n,0,qk⟩) 1 1) [(e,r,w)].length (iq [(e,r,w)]))::.h (ff [(e,r,w)])::K2):=by
  rw[e0];refine dv.mk (size:=6) (n:=1) (off:=0) (c:=1) (bO:=CK e r w) (Nat.le_refl _) (Nat.le_refl _) rfl ?_;refine h4.dJ ?_;show _=pt n (qm (CK e r w) qj 6)*(((ay qg r e.reads*ay qg w e.b8)*eY)*aP K2);rw[ei]
  ac_rfl
 exact gK.eB (q:=[(e,r,w)]) rfl h5 (.s .z (.s .z .z))
end
def eQ (s:bS):qi:=.agg #[qh qg s.af,qh qg s.eK,qh qg s.tC,qh qg s.jq.fB,qh qg s.jq.cell,qh qg s.jq.cZ,qh qr s.jq.eV,qh qr s.jq.put,.bool s.jq.done]
end
end Go.Stx
