import Derived.Test.YtnnbecihffpedaaGreatDoorG09
set_option linter.all false
set_option maxRecDepth 20000
set_option maxHeartbeats 4000000
open List renaming length->U
open Bool renaming false_eq_true->Zq
open Go.IntKind renaming u64->Zc
open Go.Proofs.Tryz renaming func69->ZS,info45->kaB,prog->qZ,underlying139->ka1,underlying3->kar,underlying59->kav,zero45->kaC
open List renaming filter_append->kbn,replicate->q9
open Nat renaming reduceEqDiff->ZJ
open Bool renaming true->qj
open Go renaming Value->qi
open Go.IntKind renaming i64->qg,u64->qr
open Go.Stx.dt renaming cells->qm
open Go.Value renaming pointer->qs,slice->ql,tuple->qF
open Option renaming none->qk,some->qf
namespace Go.Stx
open Go Go.Proofs
attribute [local irreducible] TW bK df aW aE aL cY dm
section
open T17 T13
variable [Gl]
def VN (b pb:Nat)(s:aJ)(M:Mm)(hd:s.aH=.bC):gN b pb s M:=by
 (unhygienic cases s);dsimp only at hd;subst hd;unfold gN;rw[show aY ⟨cf,af,aG,aD,value,bQ,am,reads,ao,aB,set,bJ,aC,au,aQ,aN,av,.bC⟩ M=(bj.zero,0,⟨cf,af,aG,aD,value,bQ,am,reads,ao,aB,set,bJ,aC,au,aQ,aN,av,.bC⟩,M) from rfl];intro A F hw hS;refine aO ZS λ_=>?_;dsimp only[aa,ah]at hS;obtain⟨x0,hS⟩:=bq.open hS .z;(unhygienic cases x0);dsimp only[de,jo,dw,ft,bM.dZ,aa,ah]at hS;have hq:=gL hS hw;revert hq hS hw;clear hS;refine Wp db (J3 bL @bx.eq_1 @bj.v.eq_1) ?_<;>(unhygienic intros);refine⟨_,by simp[AW.ab];rfl,by simp[bj.v,bj.zero],?_⟩;apply bq.bZ
 (·exact sA)
 exact fP
 (·exact pP)
 all_goals(exact 0)
def MP (b pb:Nat)(s:aJ)(M:Mm)(hd:s.aH=.iY .sD)(hC:iF s):gN b pb s M:=by
 (unhygienic cases s);dsimp only at hd;subst hd;have hC':iF ⟨cf,af,aG,aD,value,bQ,am,reads,ao,aB,set,bJ,aC,au,aQ,aN,av,.bC⟩:=hC.to rfl rfl rfl rfl rfl rfl rfl rfl;unfold gN;rw[show aY ⟨cf,af,aG,aD,value,bQ,am,reads,ao,aB,set,bJ,aC,au,aQ,aN,av,.iY .sD⟩ M=(bj.zero,0,r9 ⟨cf,af,aG,aD,value,bQ,am,reads,ao,aB,set,bJ,aC,au,aQ,aN,av,.bC⟩ .sD,M) from rfl];intro A F hw hS;refine aO ZS λ_=>?_;dsimp only[aa,ah]at hS;obtain⟨x0,hS⟩:=bq.open hS .z;(unhygienic cases x0);dsimp only[de,jo,dw,ft,bM.dZ,aa,ah]at hS;have hq:=gL hS hw;revert hq hS hw;clear hS;refine Wp (J1 (Tg.mk (n:=21) (MB b c0 ⟨cf,af,aG,aD,value,bQ,am,reads,ao,aB,set,bJ,aC,au,aQ,aN,av,.bC⟩ rfl hC'))) (J3 bL @bx.eq_1 @bj.v.eq_1) ?_<;>(unhygienic intros)
 all_goals(
  refine⟨_,by simp[AW.ab];rfl,by simp[bj.v,bj.zero],?_⟩;apply aj.bZ
  (·exact sA)
  (·exact pP))
def MR (b pb:Nat)(s:aJ)(M:Mm)(hd:s.aH=.iY .RG)(hC:iF s):gN b pb s M:=by
 (unhygienic cases s);dsimp only at hd;subst hd;have hC':iF ⟨cf,af,aG,aD,value,bQ,am,reads,ao,aB,set,bJ,aC,au,aQ,aN,av,.bC⟩:=hC.to rfl rfl rfl rfl rfl rfl rfl rfl;unfold gN;rw[show aY ⟨cf,af,aG,aD,value,bQ,am,reads,ao,aB,set,bJ,aC,au,aQ,aN,av,.iY .RG⟩ M=(bj.zero,0,r9 ⟨cf,af,aG,aD,value,bQ,am,reads,ao,aB,set,bJ,aC,au,aQ,aN,av,.bC⟩ .RG,M) from rfl];intro A F hw hS;refine aO ZS λ_=>?_;dsimp only[aa,ah]at hS;obtain⟨x0,hS⟩:=bq.open hS .z;(unhygienic cases x0);dsimp only[de,jo,dw,ft,bM.dZ,aa,ah]at hS;have hq:=gL hS hw;revert hq hS hw;clear hS;refine Wp (J1 (Tg.mk (n:=21) (MD b c0 ⟨cf,af,aG,aD,value,bQ,am,reads,ao,aB,set,bJ,aC,au,aQ,aN,av,.bC⟩ rfl hC'))) (J3 bL @bx.eq_1 @bj.v.eq_1) ?_<;>(unhygienic intros)
 all_goals(
  refine⟨_,by simp[AW.ab];rfl,by simp[bj.v,bj.zero],?_⟩;apply aj.bZ
  (·exact sA)
  (·exact pP))
def MQ (b pb:Nat)(s:aJ)(ec:Int)(M:Mm)(hd:s.aH=.iY (.bZ ec))(hC:iF s):gN b pb s M:=by
 (unhygienic cases s);dsimp only at hd;subst hd;have hC':iF ⟨cf,af,aG,aD,value,bQ,am,reads,ao,aB,set,bJ,aC,au,aQ,aN,av,.bC⟩:=hC.to rfl rfl rfl rfl rfl rfl rfl rfl;unfold gN;rw[show aY ⟨cf,af,aG,aD,value,bQ,am,reads,ao,aB,set,bJ,aC,au,aQ,aN,av,.iY (.bZ ec)⟩ M=(bj.zero,0,r9 ⟨cf,af,aG,aD,value,bQ,am,reads,ao,aB,set,bJ,aC,au,aQ,aN,av,.bC⟩ (.bZ ec),M) from rfl];intro A F hw hS;refine aO ZS λ_=>?_;dsimp only[aa,ah]at hS;obtain⟨x0,hS⟩:=bq.open hS .z;(unhygienic cases x0);dsimp only[de,jo,dw,ft,bM.dZ,aa,ah]at hS;have hq:=gL hS hw;revert hq hS hw;clear hS;refine Wp (J1 (Tg.mk (n:=21) (MC b c0 c1 ⟨cf,af,aG,aD,value,bQ,am,reads,ao,aB,set,bJ,aC,au,aQ,aN,av,.bC⟩ ec rfl hC'))) (J3 bL @bx.eq_1 @bj.v.eq_1) ?_<;>(unhygienic intros)
 all_goals(
  refine⟨_,by simp[AW.ab];rfl,by simp[bj.v,bj.zero],?_⟩;apply aj.bZ
  (·exact sA)
  (·exact pP))
def Ku (b pb:Nat)(s:aJ)(lv:Int)(M:Mm)(hd:s.aH=.iY (.take lv))(hC:iF s):gN b pb s M:=by
 (unhygienic cases s);dsimp only at hd;subst hd;have hC':iF ⟨cf,af,aG,aD,value,bQ,am,reads,ao,aB,set,bJ,aC,au,aQ,aN,av,.bC⟩:=hC.to rfl rfl rfl rfl rfl rfl rfl rfl;unfold gN;rw[show aY ⟨cf,af,aG,aD,value,bQ,am,reads,ao,aB,set,bJ,aC,au,aQ,aN,av,.iY (.take lv)⟩ M=(bj.zero,0,r9 ⟨cf,af,aG,aD,value,bQ,am,reads,ao,aB,set,bJ,aC,au,aQ,aN,av,.bC⟩ (.take lv),M) from rfl];intro A F hw hS;refine aO ZS λ_=>?_;dsimp only[aa,ah]at hS;obtain⟨x0,hS⟩:=bq.open hS .z;(unhygienic cases x0);dsimp only[de,jo,dw,ft,bM.dZ,aa,ah]at hS;have hq:=gL hS hw;revert hq hS hw;clear hS;refine Wp (J1 (Tg.mk (n:=21) (Kq b c0 c1 c2 ⟨cf,af,aG,aD,value,bQ,am,reads,ao,aB,set,bJ,aC,au,aQ,aN,av,.bC⟩ lv rfl))) (J3 bL @bx.eq_1 @bj.v.eq_1) ?_<;>(unhygienic intros)
 all_goals(
  refine⟨_,by simp[AW.ab];rfl,by simp[bj.v,bj.zero],?_⟩;apply aj.bZ
  (·exact sA)
  (·exact pP))
def HH (b pb:Nat)(s:aJ)(la lv:Int)(M:Mm)(hd:s.aH=.iY (.mA la lv))(hC:iF s)(hla:0<=la):gN b pb s M:=by
 (unhygienic cases s);dsimp only at hd;subst hd;have hC':iF ⟨cf,af,aG,aD,value,bQ,am,reads,ao,aB,set,bJ,aC,au,aQ,aN,av,.bC⟩:=hC.to rfl rfl rfl rfl rfl rfl rfl rfl;unfold gN;rw[show aY ⟨cf,af,aG,aD,value,bQ,am,reads,ao,aB,set,bJ,aC,au,aQ,aN,av,.iY (.mA la lv)⟩ M=(bj.zero,0,r9 ⟨cf,af,aG,aD,value,bQ,am,reads,ao,aB,set,bJ,aC,au,aQ,aN,av,.bC⟩ (.mA la lv),M) from rfl];intro A F hw hS;refine aO ZS λ_=>?_;dsimp only[aa,ah]at hS;obtain⟨x0,hS⟩:=bq.open hS .z;(unhygienic cases x0);dsimp only[de,jo,dw,ft,bM.dZ,aa,ah]at hS;have hq:=gL hS hw;revert hq hS hw;clear hS;refine Wp (J1 (Tg.mk (n:=21) (HA b c0 c1 c2 ⟨cf,af,aG,aD,value,bQ,am,reads,ao,aB,set,bJ,aC,au,aQ,aN,av,.bC⟩ la lv rfl hC' hla))) (J3 bL @bx.eq_1 @bj.v.eq_1) ?_<;>(unhygienic intros)
 all_goals(
  refine⟨_,by simp[AW.ab];rfl,by simp[bj.v,bj.zero],?_⟩;apply aj.bZ
  (·exact sA)
  (·exact pP))
def Kv (b pb:Nat)(s:aJ)(M:Mm)(hd:s.aH=.iY .lp)(hC:iF s):gN b pb s M:=by
 (unhygienic cases s);dsimp only at hd;subst hd;have hC':iF ⟨cf,af,aG,aD,value,bQ,am,reads,ao,aB,set,bJ,aC,au,aQ,aN,av,.bC⟩:=hC.to rfl rfl rfl rfl rfl rfl rfl rfl;unfold gN;rw[show aY ⟨cf,af,aG,aD,value,bQ,am,reads,ao,aB,set,bJ,aC,au,aQ,aN,av,.iY .lp⟩ M=(bj.zero,0,r9 ⟨cf,af,aG,aD,value,bQ,am,reads,ao,aB,set,bJ,aC,au,aQ,aN,av,.bC⟩ .lp,M) from rfl];intro A F hw hS;refine aO ZS λ_=>?_;dsimp only[aa,ah]at hS;obtain⟨x0,hS⟩:=bq.open hS .z;(unhygienic cases x0);dsimp only[de,jo,dw,ft,bM.dZ,aa,ah]at hS;have hq:=gL hS hw;revert hq hS hw;clear hS;refine Wp (J1 (Tg.mk (n:=21) (Kr b c0 ⟨cf,af,aG,aD,value,bQ,am,reads,ao,aB,set,bJ,aC,au,aQ,aN,av,.bC⟩ rfl hC'))) (J3 bL @bx.eq_1 @bj.v.eq_1) ?_<;>(unhygienic intros)
 all_goals(
  refine⟨_,by simp[AW.ab];rfl,by simp[bj.v,bj.zero],?_⟩;apply aj.bZ
  (·exact sA)
  (·exact pP))
def HI (b pb:Nat)(s:aJ)(lk lv:Int)(M:Mm)(hd:s.aH=.iY (.dz lk lv))(hC:iF s)(hlk:0<=lk/\lk<s.cf.nb):gN b pb s M:=by
 (unhygienic cases s);dsimp only at hd;subst hd;have hC':iF ⟨cf,af,aG,aD,value,bQ,am,reads,ao,aB,set,bJ,aC,au,aQ,aN,av,.bC⟩:=hC.to rfl rfl rfl rfl rfl rfl rfl rfl;unfold gN;rw[show aY ⟨cf,af,aG,aD,value,bQ,am,reads,ao,aB,set,bJ,aC,au,aQ,aN,av,.iY (.dz lk lv)⟩ M=(bj.zero,0,r9 ⟨cf,af,aG,aD,value,bQ,am,reads,ao,aB,set,bJ,aC,au,aQ,aN,av,.bC⟩ (.dz lk lv),M) from rfl];intro A F hw hS;refine aO ZS λ_=>?_;dsimp only[aa,ah]at hS;obtain⟨x0,hS⟩:=bq.open hS .z;(unhygienic cases x0);dsimp only[de,jo,dw,ft,bM.dZ,aa,ah]at hS;have hq:=gL hS hw;revert hq hS hw;clear hS;refine Wp (J1 (Tg.mk (n:=21) (HB b c0 c1 c2 ⟨cf,af,aG,aD,value,bQ,am,reads,ao,aB,set,bJ,aC,au,aQ,aN,av,.bC⟩ lk lv rfl hC' hlk))) (J3 bL @bx.eq_1 @bj.v.eq_1) ?_<;>(unhygienic intros)
 all_goals(
  refine⟨_,by simp[AW.ab];rfl,by simp[bj.v,bj.zero],?_⟩;apply aj.bZ
  (·exact sA)
  (·exact pP))
def Kt (b pb:Nat)(s:aJ)(M:Mm)(hd:s.aH=.eR):gN b pb s M:=by
 (unhygienic cases s);dsimp only at hd;subst hd;unfold gN;rw[show aY ⟨cf,af,aG,aD,value,bQ,am,reads,ao,aB,set,bJ,aC,au,aQ,aN,av,.eR⟩ M=(FG M 3 0 (Zc.wrap (aC+1)),19,⟨cf,af,aG,aD,value,bQ,am,reads,ao,aB,set,bJ,aC,au,aQ,aN,av,.ey⟩,BC M 3 0 (Zc.wrap (aC+1))) from rfl];intro A F hw hS;refine aO ZS λ_=>?_;dsimp only[aa,ah]at hS;obtain⟨x0,hS⟩:=bq.open hS .z;(unhygienic cases x0);dsimp only[de,jo,dw,ft,bM.dZ,aa,ah]at hS;have hq:=gL hS hw;revert hq hS hw;clear hS;refine Wp (J1 (stL pb)) (J3 bL @bx.eq_1 @bj.v.eq_1) ?_<;>(unhygienic intros);refine⟨_,by simp[AW.ab];rfl,by (simp[bj.v];done),?_⟩;apply bq.bZ
 (·exact sA)
 exact fP
 (·exact pP)
 all_goals(exact 0)
def MN (b pb:Nat)(s:aJ)(t:jk)(M:Mm)(hd:s.aH=.ey)(hC:iF s)(he:s.aN=qf t):gN b pb s M:=by
 (unhygienic cases s);dsimp only at hd;subst hd;dsimp only at he;subst he;unfold gN;rw[show aY ⟨cf,af,aG,aD,value,bQ,am,reads,ao,aB,set,bJ,aC,au,aQ,qf t,av,.ey⟩ M=(FG M 5 0 (s4 t.dZ),20,gn ⟨cf,af,aG,aD,value,bQ,am,reads,ao,aB,set,bJ,aC,au,aQ,qf t,av,.ey⟩,BC M 5 0 (s4 t.dZ)) from rfl];intro A F hw hS;refine aO ZS λ_=>?_;dsimp only[aa,ah]at hS;obtain⟨x0,hS⟩:=bq.open hS .z;(unhygienic cases x0);dsimp only[de,jo,dw,ft,bM.dZ,aa,ah]at hS;have hq:=gL hS hw;have hS:=Aw.op hS (.s (.s (.s .z)));have hq:=gL hS hw;revert hq hS hw;clear hq;clear hS;clear hS;refine Wp (J3 (Tg.mk (n:=10) @Hy) (Tg.mk (n:=20) (zU b ⟨cf,af,aG,aD,value,bQ,am,reads,ao,aB,set,bJ,aC,au,aQ,qf t,av,.ey⟩ 12 .ey hC.cf hC.al hC.push (Nat.lt_of_le_of_lt hC.oQ Yd))) (V5 pb t.dZ M)) (J5 @jy.eq_1 @jy.eq_2 bL @bx.eq_1 @bj.v.eq_1) ?_<;>(unhygienic intros)
 all_goals(
  refine⟨_,by simp[AW.ab];rfl,by simp[bj.v],?_⟩;apply aj.bZ
  (·exact sA)
  (·exact pP))
def MS (b pb:Nat)(s:aJ)(M:Mm)(hd:s.aH=.gC):gN b pb s M:=by
 (unhygienic cases s);dsimp only at hd;subst hd;unfold gN;rw[show aY ⟨cf,af,aG,aD,value,bQ,am,reads,ao,aB,set,bJ,aC,au,aQ,aN,av,.gC⟩ M=(FG M 6 af 0,24,⟨cf,af,2,aD,value,bQ,am,reads,ao,aB,set,bJ,aC,au,aQ,aN,av,.bC⟩,BC M 6 af 0) from rfl];intro A F hw hS;refine aO ZS λ_=>?_;dsimp only[aa,ah]at hS;obtain⟨x0,hS⟩:=bq.open hS .z;(unhygienic cases x0);dsimp only[de,jo,dw,ft,bM.dZ,aa,ah]at hS;have hq:=gL hS hw;revert hq hS hw;clear hS;refine Wp (J1 (SF pb af M)) (J3 bL @bx.eq_1 @bj.v.eq_1) ?_<;>(unhygienic intros);refine⟨_,by simp[AW.ab];rfl,by (simp[bj.v];done),?_⟩;apply bq.bZ
 (·exact sA)
 exact fP
 (·exact pP)
 all_goals(exact 0)
def VP (b pb:Nat)(s:aJ)(M:Mm)(h:Ow s M):gN b pb s M:=by
 obtain⟨hC,hD⟩:=h;have OH:U s.set<2^38:=by have h1:=hC.set;have h2:=hC.cf.reads;omega
 cases hd:s.aH with
 |bC=>exact VN b pb s M hd
 |iY k=>
   rw[hd]at hD;cases k with
   |sD=>exact MP b pb s M hd hC
   |RG=>exact MR b pb s M hd hC
   |bZ c=>exact MQ b pb s c M hd hC
   |take v=>exact Ku b pb s v M hd hC
   |mA a v=>exact HH b pb s a v M hd hC hD
   |lp=>exact Kv b pb s M hd hC
   |dz k v=>exact HI b pb s k v M hd hC hD
 |dA=>rw[hd]at hD;obtain⟨e,he⟩:=hD;exact Kw b pb s e M hd he
 |be c u=>
   rw[hd]at hD;obtain⟨h1,h2,h3,h4⟩:=hD;cases u with
   |take=>exact RQ b pb s c M hd hC h1 h2 h3
   |dz k=>exact RS b pb s c k M hd hC h1 h2 h3 h4
 |eO p=>rw[hd]at hD;exact MM b pb s p M hd hC hD.1 hD.2.1 hD.2.2
 |ef=>rw[hd]at hD;obtain⟨l,h1,h2,h3⟩:=hD;exact MO b pb s l M hd h1 h2 h3
 |c8=>rw[hd]at hD;obtain⟨t,h1⟩:=hD;exact MK b pb s t M hd h1 OH
 |cK c=>rw[hd]at hD;exact Ky b pb s c M hd hD
 |bN=>rw[hd]at hD;exact Kx b pb s M hd hC hD
 |dy w=>rw[hd]at hD;exact MJ b pb s w M hd hD.1 hD.2
 |bG w=>rw[hd]at hD;exact HG b pb s w M hd hD
 |eR=>exact Kt b pb s M hd
 |ey=>rw[hd]at hD;obtain⟨t,h1⟩:=hD;exact MN b pb s t M hd hC h1
 |eG p=>rw[hd]at hD;exact ML b pb s p M hd hC hD
 |gC=>exact MS b pb s M hd
end
section
variable [Gl]
namespace aK
def Ka:qi->Nat
 | .map (qf r)=>r
 |_=>0
def bOf:qi->Nat
 |qs (qf p)=>p.block
 |_=>0
def r25:qi->Nat
 | .agg cs=>Ka (cs.getD 0 undef)
 |_=>0
def pc (b:Bool)(P:HP):HP:=if b=qj then P else eY
def fS (S:Nat->Bool)(val:Nat->qi)(vh vn:qi)(key:Int):Option qi:=
 if key=1 then (if S 6=qj/\S 5=qj then qf (val 5) else qk)
 else if key=2 then (if S 10=qj/\S 9=qj then qf (val 9) else qk)
 else if key=3 then (if S 12=qj/\S 11=qj then qf (val 11) else qk)
 else if key=4 then (if S 14=qj/\S 13=qj then qf (val 13) else qk)
 else if key=5 then (if S 16=qj/\S 15=qj then qf (val 15) else qk)
 else if key=6 then (if S 19=qj/\S 18=qj then qf (val 18) else qk)
 else if key=7 then (if S 21=qj then qf vh else qk)
 else if key=8 then (if S 23=qj then qf vn else qk) else qk
def jW (S:Nat->Bool)(val:Nat->qi)(vh vn:qi):HP:=
 if S 26=qj then ut λr=>pt (bOf (val 26)) (qm [.map (qf r)] qj 1)*gh qg r (fS S val vh vn)
 else if S 25=qj then gh qg (r25 (val 25)) (fS S val vh vn)
 else if S 24=qj then gh qg (Ka (val 24)) (fS S val vh vn)
 else if S 0=qj then gh qg (Ka (val 0)) (fS S val vh vn) else eY
def gM (S:Nat->Bool)(val:Nat->qi)(eX:List Int)(nn:Nat):HP:=
 if S 5=qj then ay qr (val 5) (eX++q9 nn 0) else if S 2=qj then ay qr (val 2) eX else eY
def G (eX:List Int)(nn no nt:Nat)(vh vn:qi)(B:HP)(S:Nat->Bool)(val:Nat->qi):HP:=
 jW S val vh vn*(gM S val eX nn*(pc (S 9) (ay qr (val 9) (q9 no 0))*(pc (S 11) (ay qr (val 11) (q9 1 0))*(pc (S 13) (ay qr (val 13) (q9 1 0)) *
  (pc (S 15) (ay qr (val 15) (q9 1 0))*(pc (S 18) (ay qr (val 18) (q9 nt 0))*B))))))
def KL (vi vh vn:qi)(cb nn no nt:Nat)(j:Nat)(val:Nat->qi):Prop:=
 match j with
 |0=>∃r,val 0=.map (qf r)
 |1=>val 1=vi
 |3=>val 3=vn
 |4=>val 4=.int qg (nn:Int)
 |7=>val 7=qs (qf ⟨cb,1,qk⟩)
 |8=>val 8=.int qg (no:Int)
 |17=>val 17=.int qg (nt:Int)
 |20=>val 20=vh
 |22=>val 22=vn
 |24=>∃r,val 24=.map (qf r)
 |25=>∃r,val 25=.agg #[.map (qf r)]
 |26=>∃b,val 26=qs (qf ⟨b,0,qk⟩)
 |27=>val 27=val 26
 |28=>val 28=.int qg 0
 |_=>True
def G_congr {eX:List Int}{nn no nt:Nat}{vh vn:qi}{B:HP}{S S':Nat->Bool}{val val':Nat->qi}(hm:jW S' val' vh vn=jW S val vh vn)(hd:gM S' val' eX nn=gM S val eX nn)(h:∀k,k=9\/k=11\/k=13\/k=15\/k=18->S' k=S k/\(S k=qj->val' k=val k)):G eX nn no nt vh vn B S' val'=G eX nn no nt vh vn B S val:=by
 have key:∀k n,k=9\/k=11\/k=13\/k=15\/k=18->pc (S' k) (ay qr (val' k) (q9 n 0))=pc (S k) (ay qr (val k) (q9 n 0)):=λk n hk=>by obtain⟨h1,h2⟩:=h k hk;unfold pc;rw[h1];split;rename_i e;rw[h2 e];rfl
 unfold G;rw[hm,hd,key 9 no Yb,key 11 1 Yb,key 13 1 Yb,key 15 1 Yb,key 18 nt Yb]
end aK
set_option maxRecDepth 100000 in
def Lg (nt nn no:Nat)(vi:qi)(eX:List Int)(bm au base n0 n1 n2 n3 reads b8 ao aB aC:Int)(aZ:Bool)(hc:re ⟨bm,au,base,n0,n1,n2,n3,reads,b8,ao,aB,aC,aZ⟩)(A:AW)(F R:HP)(hR:∀(A:AW)(F:HP),bD A (R*F)->b5 A qr vi eX)(hw:A.Wf)(hS:bD A (R*F))(h1:1<=nt)(Kg:nt<=16)(hi:(U eX:Int)=bm)(Bp:au=(no:Int))(SW:U (wP n0 n1)=nn):
 aE qZ 26 [(bu.mk bm au base n0 n1 n2 n3 reads b8 ao aB aC aZ).v,.int qg (nt:Int),vi] A (λv A'=>∃pb,v=qF #[qs (qf ⟨pb,0,qk⟩),.int qg 0]/\
  bD A' (fp pb (λk=>if k=0 then eX++q9 nn 0 else if k=1 then q9 no 0 else if k=5 then q9 nt 0 else if k=6 then vY n0 n1 else if k=7 then wP n0 n1 else [0])*(R*F))):=by
 have CF:=uC _ hc.ok;have hls:=Sz _ hc;have hno1:1<=no/\no<=64:=by have:=hc.ok.au;dsimp only at this;omega
 have hi64:U eX<=64:=by have:=hc.ok.bm;dsimp only at this;omega
 have hnn1:nn<=4:=by have h0:=hc.c0;have h1:=hc.c1;dsimp only at h0 h1;rw[<-SW];rcases h0 with rfl|rfl|rfl<;>rcases h1 with rfl|rfl|rfl<;>decide
 refine aO Tryz.func26 λ_=>?_;obtain⟨oi,ci,rfl,_⟩:=(hR A F hS).cL;have hnt:¬(nt:Int)<1:=Ya
 have hnt2:¬(16:Int)<nt:=Ya
 dsimp only[bu.v]at CF hls ⊢
 repeat' (first|(refine lz λR hR=>?_;simp[AW.ab,hnt,hnt2,hi];try simp(disch:=omega)only[az,ar,an,ax])|(refine hR _ _ ?_;clear hR R)|(refine hK _ _ ?_;clear hK K)|refine nx ?_|refine wn λK hK=>?_|simp only[wS]|(refine bT (CF _) ?_;rintro _ _⟨rfl,rfl⟩_ _)|(show df _ _ _ _ _ _;refine nx ?_)|(refine wc rfl (λhc=>?_) (λhc=>?_)<;>(try simp at hc)))
 obtain⟨CV,hCV⟩:∃CV:List qi,CV=[.int qg bm,.int qg au,.int qg base,.int qg n0,.int qg n1,.int qg n2,.int qg n3,.int qg reads,.int qg b8,.int qg ao,.int qg aB,.int qg aC,.bool aZ]:=⟨_,rfl⟩;have jt:=hw.alloc (qm CV qj 1);have jH:=hS.alloc hw (qm CV qj 1);rw[hCV]at jt jH;refine bT (hls _ _ jt (aj.mk jH)) ?_;rintro v A2⟨vh,vn,rfl,hSL2⟩jG _
 repeat (first|(refine hR _ _ ?_;clear hR R)|(refine lz (λR hR=>?_);simp)|refine lwn ?_|(refine hK _ _ ?_;clear hK K))
 have jK:bD A2 (ay qr vh (vY n0 n1)*(ay qr vn (wP n0 n1)*(pt A.next (qm CV qj 1)*(R*F)))):=by subst hCV;have:=hSL2;simp only[aj,aP,It.hp,ei]at this;exact this
 have hvnf:∃o c,vn=ql o nn c:=by obtain⟨o,c,h,_⟩:=(ay.is jK.right).cL;rw[SW]at h;exact⟨o,c,h⟩
 obtain⟨B,hB⟩:∃B,B=ay qr vh (vY n0 n1)*(ay qr vn (wP n0 n1)*(pt A.next (qm CV qj 1)*(R*F))):=⟨_,rfl⟩;refine aU (awp_mix' Yf Yc (aK.G eX nn no nt vh vn B) (aK.KL (ql oi (U eX) ci) vh vn A.next nn no nt) ?_ ?_ ?_ ?_ ?_);intro S i val v hc hi;have c6:=hc 6 5 Yc;have c10:=hc 10 9 Yc;have c12:=hc 12 11 Yc;have c14:=hc 14 13 Yc;have c16:=hc 16 15 Yc;have c19:=hc 19 18 Yc;have hv:∀k,S k=qj->cX val i v k=val k:=λk hk=>by
  have:k≠i:=λe=>by rw[e,hi]at hk;cases hk
  simp[cX,this]
 have Ga:aK.fS S (cX val i v) vh vn=aK.fS S val vh vn:=by
  funext key;unfold aK.fS;have e:∀p k,(S p=qj->S k=qj)->(if S p=qj/\S k=qj then qf (cX val i v k) else qk)=if S p=qj/\S k=qj then qf (val k) else qk:=λp k _=>by split;rename_i h;rw[hv k h.2];rfl
  rw[e 6 5 c6,e 10 9 c10,e 12 11 c12,e 14 13 c14,e 16 15 c16,e 19 18 c19]
 refine aK.G_congr ?_ ?_ (λk _=>⟨rfl,hv k⟩);unfold aK.jW;rw[Ga];split;rename_i h;rw[hv 26 h];split;rename_i h;rw[hv 25 h];split;rename_i h;rw[hv 24 h];split;rename_i h;rw[hv 0 h];rfl;unfold aK.gM;split;rename_i h;rw[hv 5 h];split;rename_i h;rw[hv 2 h];rfl;intro S i j val v hc hi hj;have c27:=hc 27 26 Yc;have hv:∀k,S k=qj->cX val i v k=val k:=λk hk=>by
  have:k≠i:=λe=>by rw[e,hi]at hk;cases hk
  simp[cX,this]
 have hvj:=hv j hj;unfold aK.KL;split<;>intro h<;>first|(rw[hvj,hv 26 (c27 hj)];exact h)|(simp only[hvj];exact h)|trivial
 intro val;have e:aK.G eX nn no nt vh vn B (λ_=>false) val=B:=by simp[aK.G,aK.jW,aK.gM,aK.pc,iD]
 rw[e,hB];exact jK
 . intro i b9 S val a A3 rz ks cJ E6 hs;have o1:a 1=.int qg (nt:Int):=(by rw[cJ.eD 1 Yc];simp);have o2:a 2=ql oi (U eX) ci:=(by rw[cJ.eD 2 Yc];simp);have o3:a 3=qs (qf ⟨A.next,0,qk⟩):=(by rw[cJ.eD 3 Yc];simp);have o9:a 9=vh:=(by rw[cJ.eD 9 Yc];simp);have pn:a 10=vn:=(by rw[cJ.eD 10 Yc];simp);have fu:∀k j,BX _ k j=qj->S j=false->S k=false:=λk j h hj=>by cases hk:S k;rfl;have:=cJ.N1 k j h hk;rw[hj]at this;cases this
   have hBs:bD A3 (B*(aK.jW S val vh vn*(aK.gM S val eX nn*(aK.pc (S 9) (ay qr (val 9) (q9 no 0))*(aK.pc (S 11) (ay qr (val 11) (q9 1 0))*(aK.pc (S 13) (ay qr (val 13) (q9 1 0)) *
    (aK.pc (S 15) (ay qr (val 15) (q9 1 0))*aK.pc (S 18) (ay qr (val 18) (q9 nt 0))))))))):=hs.dJ (by unfold aK.G;ac_rfl)
   obtain h|h|h|h|h|h|h|h|h|h|h|h|h|h|h|h|h|h|h|h|h|h|h|h|h|h|h|h|h:i=0\/i=1\/i=2\/i=3\/i=4\/i=5\/i=6\/i=7\/i=8\/i=9\/i=10\/i=11\/i=12\/i=13\/i=14\/i=15\/i=16\/i=17\/i=18\/i=19\/i=20\/i=21\/i=22\/i=23\/i=24\/i=25\/i=26\/i=27\/i=28:=by have:i<29:=b9;omega
   all_goals subst h
   .
    have yA:=fu 24 0 Yc rz;have wG:=fu 25 24 Yc yA;have De:=fu 26 25 Yc wG;have s6:=fu 6 0 Yc rz;have s10:=fu 10 0 Yc rz;have s12:=fu 12 0 Yc rz;have s14:=fu 14 0 Yc rz;have s16:=fu 16 0 Yc rz;have s19:=fu 19 0 Yc rz;have s21:=fu 21 0 Yc rz;have s23:=fu 23 0 Yc rz;have hk:aK.G eX nn no nt vh vn B (bF S 0) (cX val 0 (.map (qf A3.next)))=gh qg A3.next (λ_=>qk)*aK.G eX nn no nt vh vn B S val:=by
     have hf:aK.fS (bF S 0) (cX val 0 (.map (qf A3.next))) vh vn=λ_=>qk:=by funext key;simp[aK.fS,bF,s6,s10,s12,s14,s16,s19,s21,s23]
     simp[aK.G,aK.jW,aK.gM,aK.pc,hf];simp[bF,cX,yA,wG,De,rz,aK.Ka,iD]
    simp[nO,hk];exact⟨⟨A3.next,by simp[cX]⟩,gh.nF hs E6⟩
   .
    have hk:∀v,aK.G eX nn no nt vh vn B (bF S 1) (cX val 1 v)=aK.G eX nn no nt vh vn B S val:=λv=>by
     have hf:aK.fS (bF S 1) (cX val 1 v) vh vn=aK.fS S val vh vn:=by funext key;simp[aK.fS,bF,cX]
     simp[aK.G,aK.jW,aK.gM,aK.pc,hf];simp[bF,cX]
    simp[nO,o2,hk]
    exact⟨by simp[aK.KL,cX],hs⟩
   .
    have s5:=fu 5 2 Yc rz;have v1:a 33=ql oi (U eX) ci:=(by rw[cJ.ny 1 33 Yc (ks 1 Yc)];exact cJ.uS 1 (ks 1 Yc));have xj:b5 A3 qr (ql oi (U eX) ci) eX:=by have h':=hBs.left;rw[hB]at h';have:=hR A3 _ h'.right.right.right;exact this
    have hk:∀v,aK.G eX nn no nt vh vn B (bF S 2) (cX val 2 v)=ay qr v eX*aK.G eX nn no nt vh vn B S val:=λv=>by
     have hf:aK.fS (bF S 2) (cX val 2 v) vh vn=aK.fS S val vh vn:=by funext key;simp[aK.fS,bF,cX]
     simp[aK.G,aK.jW,aK.gM,aK.pc,hf];simp[bF,cX,s5,rz,iD]
     ac_rfl
    simp[nO,v1];refine bT (jL _ eX A3 xj Ya) ?_;rintro v A4⟨h1,h2⟩_ _;refine⟨trivial,?_⟩;rw[hk];exact ay.jh hs E6 h2 h1
   .
    have hk:∀v,aK.G eX nn no nt vh vn B (bF S 3) (cX val 3 v)=aK.G eX nn no nt vh vn B S val:=λv=>by
     have hf:aK.fS (bF S 3) (cX val 3 v) vh vn=aK.fS S val vh vn:=by funext key;simp[aK.fS,bF,cX]
     simp[aK.G,aK.jW,aK.gM,aK.pc,hf];simp[bF,cX]
    simp[nO,pn,hk]
    exact⟨by simp[aK.KL,cX],hs⟩
   .
    have hk:∀v,aK.G eX nn no nt vh vn B (bF S 4) (cX val 4 v)=aK.G eX nn no nt vh vn B S val:=λv=>by
     have hf:aK.fS (bF S 4) (cX val 4 v) vh vn=aK.fS S val vh vn:=by funext key;simp[aK.fS,bF,cX]
     simp[aK.G,aK.jW,aK.gM,aK.pc,hf];simp[bF,cX]
    have v4:a 35=vn:=(by rw[cJ.ny 3 35 Yc (ks 3 Yc)];exact cJ.uS 3 (ks 3 Yc));obtain⟨on,cn,hvn⟩:=hvnf;rw[hvn]at v4;simp[nO,v4];exact⟨by simp[aK.KL,cX],by rw[hk];exact hs⟩
   .
    have s6:=fu 6 5 Yc rz;have s2:=ks 2 Yc;have v2:a 34=val 2:=cJ.ny 2 34 Yc s2;have v4:a 36=.int qg ((nn:Nat):Int):=(by rw[cJ.ny 4 36 Yc (ks 4 Yc)];exact cJ.uS 4 (ks 4 Yc));obtain⟨X,hX⟩:∃X,aK.G eX nn no nt vh vn B S val=ay qr (val 2) eX*X/\∀v,aK.G eX nn no nt vh vn B (bF S 5) (cX val 5 v)=ay qr v (eX++q9 nn 0)*X:=by
     refine⟨aK.jW S val vh vn*(aK.pc (S 9) (ay qr (val 9) (q9 no 0))*(aK.pc (S 11) (ay qr (val 11) (q9 1 0))*(aK.pc (S 13) (ay qr (val 13) (q9 1 0)) *
      (aK.pc (S 15) (ay qr (val 15) (q9 1 0))*(aK.pc (S 18) (ay qr (val 18) (q9 nt 0))*B))))),?_,λv=>?_⟩
     simp only[aK.G,aK.gM,rz,s2,if_true,Zq,if_false]
     ac_rfl
     have hf:aK.fS (bF S 5) (cX val 5 v) vh vn=aK.fS S val vh vn:=by funext key;simp[aK.fS,bF,cX,s6]
     simp only[aK.G,aK.jW,aK.gM,aK.pc,hf];simp only[bF,cX,ZJ,if_true,if_false]
     ac_rfl
    rw[hX.1]at hs;obtain⟨v',A4,e1,e2,e3⟩:=ay.appendZ (P:=qZ) (t:=59) (u:=3) (kq:=qg) nn kav kar kaB kaC rfl hs Ya Yb E6;simp[nO,v2,v4]
    try simp at e1
    simp[e1];rw[hX.2];exact⟨trivial,e2⟩
   .
    have yA:=fu 24 6 Yc rz;have wG:=fu 25 24 Yc yA;have De:=fu 26 25 Yc wG;have s0:=ks 0 Yc;have sp:=ks 5 Yc;obtain⟨r,hr⟩:=cJ.uS 0 s0;have v0:a 32=.map (qf r):=(by rw[cJ.ny 0 32 Yc s0];exact hr);have vx:a 37=val 5:=cJ.ny 5 37 Yc sp;obtain⟨X,Qr,Qq⟩:∃X,aK.G eX nn no nt vh vn B S val=gh qg r (aK.fS S val vh vn)*X/\∀v,aK.G eX nn no nt vh vn B (bF S 6) (cX val 6 v)=gh qg r (oh (aK.fS S val vh vn) 1 (val 5))*X:=by
     refine⟨(aK.gM S val eX nn*(aK.pc (S 9) (ay qr (val 9) (q9 no 0))*(aK.pc (S 11) (ay qr (val 11) (q9 1 0))*(aK.pc (S 13) (ay qr (val 13) (q9 1 0)) *
      (aK.pc (S 15) (ay qr (val 15) (q9 1 0))*(aK.pc (S 18) (ay qr (val 18) (q9 nt 0))*B)))))),?_,λv=>?_⟩
     simp only[aK.G,aK.jW,De,wG,yA,s0,hr,aK.Ka,if_true,Zq,if_false];have hf:aK.fS (bF S 6) (cX val 6 v) vh vn=oh (aK.fS S val vh vn) 1 (val 5):=by funext key;simp only[aK.fS,bF,cX,oh,ZJ,if_true,if_false];by_cases hkey:key=1;subst hkey;simp[sp];simp[hkey]
     simp only[aK.G,aK.jW,aK.gM,aK.pc,hf];simp only[bF,cX,De,wG,yA,s0,hr,aK.Ka,ZJ,if_true,if_false,Zq]
    rw[Qr]at hs;obtain⟨A4,e1,e2,_⟩:=gh.xu (P:=qZ) (t:=139) hs ka1 kar 1 (val 5);simp[-fv,nO,v0,vx,e1];rw[Qq];exact⟨trivial,e2⟩
   .
    have hk:∀v,aK.G eX nn no nt vh vn B (bF S 7) (cX val 7 v)=aK.G eX nn no nt vh vn B S val:=λv=>by
     have hf:aK.fS (bF S 7) (cX val 7 v) vh vn=aK.fS S val vh vn:=by funext key;simp[aK.fS,bF,cX]
     simp[aK.G,aK.jW,aK.gM,aK.pc,hf];simp[bF,cX]
    simp[nO,o3,hk]
    exact⟨by simp[aK.KL,cX],hs⟩
   .
    have hk:∀v,aK.G eX nn no nt vh vn B (bF S 8) (cX val 8 v)=aK.G eX nn no nt vh vn B S val:=λv=>by
     have hf:aK.fS (bF S 8) (cX val 8 v) vh vn=aK.fS S val vh vn:=by funext key;simp[aK.fS,bF,cX]
     simp[aK.G,aK.jW,aK.gM,aK.pc,hf];simp[bF,cX]
    have v8:a 38=qs (qf ⟨A.next,1,qk⟩):=(by rw[cJ.ny 7 38 Yc (ks 7 Yc)];exact cJ.uS 7 (ks 7 Yc));have hgc:A3.bk A.next=qf (qm CV qj 1):=by have h':=hBs.left;rw[hB]at h';exact h'.right.right.bk
    simp[nO,v8,hgc,hCV,AW.ab,hk,Bp]
    exact⟨by simp[aK.KL,cX],hs⟩
   .
    have sI:=fu 10 9 Yc rz;have vd:a 39=.int qg ((no:Nat):Int):=(by rw[cJ.ny 8 39 Yc (ks 8 Yc)];exact cJ.uS 8 (ks 8 Yc));have hk:∀v,aK.G eX nn no nt vh vn B (bF S 9) (cX val 9 v)=ay qr v (q9 no 0)*aK.G eX nn no nt vh vn B S val:=λv=>by
     have hf:aK.fS (bF S 9) (cX val 9 v) vh vn=aK.fS S val vh vn:=by funext key;simp[aK.fS,bF,cX,sI]
     simp only[aK.G,aK.jW,aK.gM,aK.pc,hf];simp only[bF,cX,rz,ZJ,if_true,if_false,Zq,iD]
     ac_rfl
    obtain⟨v',A4,e1,e2,e3,_⟩:=ay.make (P:=qZ) (t:=59) (k1:=qg) (k2:=qg) no kav kaB kaC rfl Yb Ya hs E6;have e1':mM qZ A3 59 (.int qg (no:Int)) (.int qg (no:Int))=qf (v',A4):=e1;simp[-mM,nO,vd,e1'];rw[hk];exact⟨trivial,e2⟩
   .
    have yA:=fu 24 10 Yc rz;have wG:=fu 25 24 Yc yA;have De:=fu 26 25 Yc wG;have s0:=ks 0 Yc;have sp:=ks 9 Yc;obtain⟨r,hr⟩:=cJ.uS 0 s0;have v0:a 32=.map (qf r):=(by rw[cJ.ny 0 32 Yc s0];exact hr);have vx:a 40=val 9:=cJ.ny 9 40 Yc sp;obtain⟨X,Qr,Qq⟩:∃X,aK.G eX nn no nt vh vn B S val=gh qg r (aK.fS S val vh vn)*X/\∀v,aK.G eX nn no nt vh vn B (bF S 10) (cX val 10 v)=gh qg r (oh (aK.fS S val vh vn) 2 (val 9))*X:=by
     refine⟨(aK.gM S val eX nn*(aK.pc (S 9) (ay qr (val 9) (q9 no 0))*(aK.pc (S 11) (ay qr (val 11) (q9 1 0))*(aK.pc (S 13) (ay qr (val 13) (q9 1 0)) *
      (aK.pc (S 15) (ay qr (val 15) (q9 1 0))*(aK.pc (S 18) (ay qr (val 18) (q9 nt 0))*B)))))),?_,λv=>?_⟩
     simp only[aK.G,aK.jW,De,wG,yA,s0,hr,aK.Ka,if_true,Zq,if_false];have hf:aK.fS (bF S 10) (cX val 10 v) vh vn=oh (aK.fS S val vh vn) 2 (val 9):=by funext key;simp only[aK.fS,bF,cX,oh,ZJ,if_true,if_false];by_cases hkey:key=2;subst hkey;simp[sp];simp[hkey]
     simp only[aK.G,aK.jW,aK.gM,aK.pc,hf];simp only[bF,cX,De,wG,yA,s0,hr,aK.Ka,ZJ,if_true,if_false,Zq]
    rw[Qr]at hs;obtain⟨A4,e1,e2,_⟩:=gh.xu (P:=qZ) (t:=139) hs ka1 kar 2 (val 9);simp[-fv,nO,v0,vx,e1];rw[Qq];exact⟨trivial,e2⟩
   .
    have sI:=fu 12 11 Yc rz;have hk:∀v,aK.G eX nn no nt vh vn B (bF S 11) (cX val 11 v)=ay qr v (q9 1 0)*aK.G eX nn no nt vh vn B S val:=λv=>by
     have hf:aK.fS (bF S 11) (cX val 11 v) vh vn=aK.fS S val vh vn:=by funext key;simp[aK.fS,bF,cX,sI]
     simp only[aK.G,aK.jW,aK.gM,aK.pc,hf];simp only[bF,cX,rz,ZJ,if_true,if_false,Zq,iD]
     ac_rfl
    obtain⟨v',A4,e1,e2,e3,_⟩:=ay.make (P:=qZ) (t:=59) (k1:=qg) (k2:=qg) 1 kav kaB kaC rfl Yb Ya hs E6;have e1':mM qZ A3 59 (.int qg 1) (.int qg 1)=qf (v',A4):=e1;simp[-mM,nO,e1'];rw[hk];exact⟨trivial,e2⟩
   .
    have yA:=fu 24 12 Yc rz;have wG:=fu 25 24 Yc yA;have De:=fu 26 25 Yc wG;have s0:=ks 0 Yc;have sp:=ks 11 Yc;obtain⟨r,hr⟩:=cJ.uS 0 s0;have v0:a 32=.map (qf r):=(by rw[cJ.ny 0 32 Yc s0];exact hr);have vx:a 41=val 11:=cJ.ny 11 41 Yc sp;obtain⟨X,Qr,Qq⟩:∃X,aK.G eX nn no nt vh vn B S val=gh qg r (aK.fS S val vh vn)*X/\∀v,aK.G eX nn no nt vh vn B (bF S 12) (cX val 12 v)=gh qg r (oh (aK.fS S val vh vn) 3 (val 11))*X:=by
     refine⟨(aK.gM S val eX nn*(aK.pc (S 9) (ay qr (val 9) (q9 no 0))*(aK.pc (S 11) (ay qr (val 11) (q9 1 0))*(aK.pc (S 13) (ay qr (val 13) (q9 1 0)) *
      (aK.pc (S 15) (ay qr (val 15) (q9 1 0))*(aK.pc (S 18) (ay qr (val 18) (q9 nt 0))*B)))))),?_,λv=>?_⟩
     simp only[aK.G,aK.jW,De,wG,yA,s0,hr,aK.Ka,if_true,Zq,if_false];have hf:aK.fS (bF S 12) (cX val 12 v) vh vn=oh (aK.fS S val vh vn) 3 (val 11):=by funext key;simp only[aK.fS,bF,cX,oh,ZJ,if_true,if_false];by_cases hkey:key=3;subst hkey;simp[sp];simp[hkey]
     simp only[aK.G,aK.jW,aK.gM,aK.pc,hf];simp only[bF,cX,De,wG,yA,s0,hr,aK.Ka,ZJ,if_true,if_false,Zq]
    rw[Qr]at hs;obtain⟨A4,e1,e2,_⟩:=gh.xu (P:=qZ) (t:=139) hs ka1 kar 3 (val 11);simp[-fv,nO,v0,vx,e1];rw[Qq];exact⟨trivial,e2⟩
   .
    have sI:=fu 14 13 Yc rz;have hk:∀v,aK.G eX nn no nt vh vn B (bF S 13) (cX val 13 v)=ay qr v (q9 1 0)*aK.G eX nn no nt vh vn B S val:=λv=>by
     have hf:aK.fS (bF S 13) (cX val 13 v) vh vn=aK.fS S val vh vn:=by funext key;simp[aK.fS,bF,cX,sI]
     simp only[aK.G,aK.jW,aK.gM,aK.pc,hf];simp only[bF,cX,rz,ZJ,if_true,if_false,Zq,iD]
     ac_rfl
    obtain⟨v',A4,e1,e2,e3,_⟩:=ay.make (P:=qZ) (t:=59) (k1:=qg) (k2:=qg) 1 kav kaB kaC rfl Yb Ya hs E6;have e1':mM qZ A3 59 (.int qg 1) (.int qg 1)=qf (v',A4):=e1;simp[-mM,nO,e1'];rw[hk];exact⟨trivial,e2⟩
   .
    have yA:=fu 24 14 Yc rz;have wG:=fu 25 24 Yc yA;have De:=fu 26 25 Yc wG;have s0:=ks 0 Yc;have sp:=ks 13 Yc;obtain⟨r,hr⟩:=cJ.uS 0 s0;have v0:a 32=.map (qf r):=(by rw[cJ.ny 0 32 Yc s0];exact hr);have vx:a 42=val 13:=cJ.ny 13 42 Yc sp;obtain⟨X,Qr,Qq⟩:∃X,aK.G eX nn no nt vh vn B S val=gh qg r (aK.fS S val vh vn)*X/\∀v,aK.G eX nn no nt vh vn B (bF S 14) (cX val 14 v)=gh qg r (oh (aK.fS S val vh vn) 4 (val 13))*X:=by
     refine⟨(aK.gM S val eX nn*(aK.pc (S 9) (ay qr (val 9) (q9 no 0))*(aK.pc (S 11) (ay qr (val 11) (q9 1 0))*(aK.pc (S 13) (ay qr (val 13) (q9 1 0)) *
      (aK.pc (S 15) (ay qr (val 15) (q9 1 0))*(aK.pc (S 18) (ay qr (val 18) (q9 nt 0))*B)))))),?_,λv=>?_⟩
     simp only[aK.G,aK.jW,De,wG,yA,s0,hr,aK.Ka,if_true,Zq,if_false];have hf:aK.fS (bF S 14) (cX val 14 v) vh vn=oh (aK.fS S val vh vn) 4 (val 13):=by funext key;simp only[aK.fS,bF,cX,oh,ZJ,if_true,if_false];by_cases hkey:key=4;subst hkey;simp[sp];simp[hkey]
     simp only[aK.G,aK.jW,aK.gM,aK.pc,hf];simp only[bF,cX,De,wG,yA,s0,hr,aK.Ka,ZJ,if_true,if_false,Zq]
    rw[Qr]at hs;obtain⟨A4,e1,e2,_⟩:=gh.xu (P:=qZ) (t:=139) hs ka1 kar 4 (val 13);simp[-fv,nO,v0,vx,e1];rw[Qq];exact⟨trivial,e2⟩
   .
    have sI:=fu 16 15 Yc rz;have hk:∀v,aK.G eX nn no nt vh vn B (bF S 15) (cX val 15 v)=ay qr v (q9 1 0)*aK.G eX nn no nt vh vn B S val:=λv=>by
     have hf:aK.fS (bF S 15) (cX val 15 v) vh vn=aK.fS S val vh vn:=by funext key;simp[aK.fS,bF,cX,sI]
     simp only[aK.G,aK.jW,aK.gM,aK.pc,hf];simp only[bF,cX,rz,ZJ,if_true,if_false,Zq,iD]
     ac_rfl
    obtain⟨v',A4,e1,e2,e3,_⟩:=ay.make (P:=qZ) (t:=59) (k1:=qg) (k2:=qg) 1 kav kaB kaC rfl Yb Ya hs E6;have e1':mM qZ A3 59 (.int qg 1) (.int qg 1)=qf (v',A4):=e1;simp[-mM,nO,e1'];rw[hk];exact⟨trivial,e2⟩
   .
    have yA:=fu 24 16 Yc rz;have wG:=fu 25 24 Yc yA;have De:=fu 26 25 Yc wG;have s0:=ks 0 Yc;have sp:=ks 15 Yc;obtain⟨r,hr⟩:=cJ.uS 0 s0;have v0:a 32=.map (qf r):=(by rw[cJ.ny 0 32 Yc s0];exact hr);have vx:a 43=val 15:=cJ.ny 15 43 Yc sp;obtain⟨X,Qr,Qq⟩:∃X,aK.G eX nn no nt vh vn B S val=gh qg r (aK.fS S val vh vn)*X/\∀v,aK.G eX nn no nt vh vn B (bF S 16) (cX val 16 v)=gh qg r (oh (aK.fS S val vh vn) 5 (val 15))*X:=by
     refine⟨(aK.gM S val eX nn*(aK.pc (S 9) (ay qr (val 9) (q9 no 0))*(aK.pc (S 11) (ay qr (val 11) (q9 1 0))*(aK.pc (S 13) (ay qr (val 13) (q9 1 0)) *
      (aK.pc (S 15) (ay qr (val 15) (q9 1 0))*(aK.pc (S 18) (ay qr (val 18) (q9 nt 0))*B)))))),?_,λv=>?_⟩
     simp only[aK.G,aK.jW,De,wG,yA,s0,hr,aK.Ka,if_true,Zq,if_false];have hf:aK.fS (bF S 16) (cX val 16 v) vh vn=oh (aK.fS S val vh vn) 5 (val 15):=by funext key;simp only[aK.fS,bF,cX,oh,ZJ,if_true,if_false];by_cases hkey:key=5;subst hkey;simp[sp];simp[hkey]
     simp only[aK.G,aK.jW,aK.gM,aK.pc,hf];simp only[bF,cX,De,wG,yA,s0,hr,aK.Ka,ZJ,if_true,if_false,Zq]
    rw[Qr]at hs;obtain⟨A4,e1,e2,_⟩:=gh.xu (P:=qZ) (t:=139) hs ka1 kar 5 (val 15);simp[-fv,nO,v0,vx,e1];rw[Qq];exact⟨trivial,e2⟩
   .
    have hk:∀v,aK.G eX nn no nt vh vn B (bF S 17) (cX val 17 v)=aK.G eX nn no nt vh vn B S val:=λv=>by
     have hf:aK.fS (bF S 17) (cX val 17 v) vh vn=aK.fS S val vh vn:=by funext key;simp[aK.fS,bF,cX]
     simp[aK.G,aK.jW,aK.gM,aK.pc,hf];simp[bF,cX]
    simp[nO,o1,hk]
    exact⟨by simp[aK.KL,cX],hs⟩
   .
    have sI:=fu 19 18 Yc rz;have vd:a 44=.int qg ((nt:Nat):Int):=(by rw[cJ.ny 17 44 Yc (ks 17 Yc)];exact cJ.uS 17 (ks 17 Yc));have hk:∀v,aK.G eX nn no nt vh vn B (bF S 18) (cX val 18 v)=ay qr v (q9 nt 0)*aK.G eX nn no nt vh vn B S val:=λv=>by
     have hf:aK.fS (bF S 18) (cX val 18 v) vh vn=aK.fS S val vh vn:=by funext key;simp[aK.fS,bF,cX,sI]
     simp only[aK.G,aK.jW,aK.gM,aK.pc,hf];simp only[bF,cX,rz,ZJ,if_true,if_false,Zq,iD]
     ac_rfl
    obtain⟨v',A4,e1,e2,e3,_⟩:=ay.make (P:=qZ) (t:=59) (k1:=qg) (k2:=qg) nt kav kaB kaC rfl Yb Ya hs E6;have e1':mM qZ A3 59 (.int qg (nt:Int)) (.int qg (nt:Int))=qf (v',A4):=e1;simp[-mM,nO,vd,e1'];rw[hk];exact⟨trivial,e2⟩
   .
    have yA:=fu 24 19 Yc rz;have wG:=fu 25 24 Yc yA;have De:=fu 26 25 Yc wG;have s0:=ks 0 Yc;have sp:=ks 18 Yc;obtain⟨r,hr⟩:=cJ.uS 0 s0;have v0:a 32=.map (qf r):=(by rw[cJ.ny 0 32 Yc s0];exact hr);have vx:a 45=val 18:=cJ.ny 18 45 Yc sp;obtain⟨X,Qr,Qq⟩:∃X,aK.G eX nn no nt vh vn B S val=gh qg r (aK.fS S val vh vn)*X/\∀v,aK.G eX nn no nt vh vn B (bF S 19) (cX val 19 v)=gh qg r (oh (aK.fS S val vh vn) 6 (val 18))*X:=by
     refine⟨(aK.gM S val eX nn*(aK.pc (S 9) (ay qr (val 9) (q9 no 0))*(aK.pc (S 11) (ay qr (val 11) (q9 1 0))*(aK.pc (S 13) (ay qr (val 13) (q9 1 0)) *
      (aK.pc (S 15) (ay qr (val 15) (q9 1 0))*(aK.pc (S 18) (ay qr (val 18) (q9 nt 0))*B)))))),?_,λv=>?_⟩
     simp only[aK.G,aK.jW,De,wG,yA,s0,hr,aK.Ka,if_true,Zq,if_false];have hf:aK.fS (bF S 19) (cX val 19 v) vh vn=oh (aK.fS S val vh vn) 6 (val 18):=by funext key;simp only[aK.fS,bF,cX,oh,ZJ,if_true,if_false];by_cases hkey:key=6;subst hkey;simp[sp];simp[hkey]
     simp only[aK.G,aK.jW,aK.gM,aK.pc,hf];simp only[bF,cX,De,wG,yA,s0,hr,aK.Ka,ZJ,if_true,if_false,Zq]
    rw[Qr]at hs;obtain⟨A4,e1,e2,_⟩:=gh.xu (P:=qZ) (t:=139) hs ka1 kar 6 (val 18);simp[-fv,nO,v0,vx,e1];rw[Qq];exact⟨trivial,e2⟩
   .
    have hk:∀v,aK.G eX nn no nt vh vn B (bF S 20) (cX val 20 v)=aK.G eX nn no nt vh vn B S val:=λv=>by
     have hf:aK.fS (bF S 20) (cX val 20 v) vh vn=aK.fS S val vh vn:=by funext key;simp[aK.fS,bF,cX]
     simp[aK.G,aK.jW,aK.gM,aK.pc,hf];simp[bF,cX]
    simp[nO,o9,hk]
    exact⟨by simp[aK.KL,cX],hs⟩
   .
    have yA:=fu 24 21 Yc rz;have wG:=fu 25 24 Yc yA;have De:=fu 26 25 Yc wG;have s0:=ks 0 Yc;have sp:=ks 20 Yc;obtain⟨r,hr⟩:=cJ.uS 0 s0;have v0:a 32=.map (qf r):=(by rw[cJ.ny 0 32 Yc s0];exact hr);have vx:a 46=vh:=(by rw[cJ.ny 20 46 Yc sp];exact cJ.uS 20 sp);obtain⟨X,Qr,Qq⟩:∃X,aK.G eX nn no nt vh vn B S val=gh qg r (aK.fS S val vh vn)*X/\∀v,aK.G eX nn no nt vh vn B (bF S 21) (cX val 21 v)=gh qg r (oh (aK.fS S val vh vn) 7 vh)*X:=by
     refine⟨(aK.gM S val eX nn*(aK.pc (S 9) (ay qr (val 9) (q9 no 0))*(aK.pc (S 11) (ay qr (val 11) (q9 1 0))*(aK.pc (S 13) (ay qr (val 13) (q9 1 0)) *
      (aK.pc (S 15) (ay qr (val 15) (q9 1 0))*(aK.pc (S 18) (ay qr (val 18) (q9 nt 0))*B)))))),?_,λv=>?_⟩
     simp only[aK.G,aK.jW,De,wG,yA,s0,hr,aK.Ka,if_true,Zq,if_false];have hf:aK.fS (bF S 21) (cX val 21 v) vh vn=oh (aK.fS S val vh vn) 7 vh:=by funext key;simp only[aK.fS,bF,cX,oh,ZJ,if_true,if_false];by_cases hkey:key=7;subst hkey;simp;simp[hkey]
     simp only[aK.G,aK.jW,aK.gM,aK.pc,hf];simp only[bF,cX,De,wG,yA,s0,hr,aK.Ka,ZJ,if_true,if_false,Zq]
    rw[Qr]at hs;obtain⟨A4,e1,e2,_⟩:=gh.xu (P:=qZ) (t:=139) hs ka1 kar 7 vh;simp[-fv,nO,v0,vx,e1];rw[Qq];exact⟨trivial,e2⟩
   .
    have hk:∀v,aK.G eX nn no nt vh vn B (bF S 22) (cX val 22 v)=aK.G eX nn no nt vh vn B S val:=λv=>by
     have hf:aK.fS (bF S 22) (cX val 22 v) vh vn=aK.fS S val vh vn:=by funext key;simp[aK.fS,bF,cX]
     simp[aK.G,aK.jW,aK.gM,aK.pc,hf];simp[bF,cX]
    simp[nO,pn,hk]
    exact⟨by simp[aK.KL,cX],hs⟩
   .
    have yA:=fu 24 23 Yc rz;have wG:=fu 25 24 Yc yA;have De:=fu 26 25 Yc wG;have s0:=ks 0 Yc;have sp:=ks 22 Yc;obtain⟨r,hr⟩:=cJ.uS 0 s0;have v0:a 32=.map (qf r):=(by rw[cJ.ny 0 32 Yc s0];exact hr);have vx:a 47=vn:=(by rw[cJ.ny 22 47 Yc sp];exact cJ.uS 22 sp);obtain⟨X,Qr,Qq⟩:∃X,aK.G eX nn no nt vh vn B S val=gh qg r (aK.fS S val vh vn)*X/\∀v,aK.G eX nn no nt vh vn B (bF S 23) (cX val 23 v)=gh qg r (oh (aK.fS S val vh vn) 8 vn)*X:=by
     refine⟨(aK.gM S val eX nn*(aK.pc (S 9) (ay qr (val 9) (q9 no 0))*(aK.pc (S 11) (ay qr (val 11) (q9 1 0))*(aK.pc (S 13) (ay qr (val 13) (q9 1 0)) *
      (aK.pc (S 15) (ay qr (val 15) (q9 1 0))*(aK.pc (S 18) (ay qr (val 18) (q9 nt 0))*B)))))),?_,λv=>?_⟩
     simp only[aK.G,aK.jW,De,wG,yA,s0,hr,aK.Ka,if_true,Zq,if_false];have hf:aK.fS (bF S 23) (cX val 23 v) vh vn=oh (aK.fS S val vh vn) 8 vn:=by funext key;simp only[aK.fS,bF,cX,oh,ZJ,if_true,if_false];by_cases hkey:key=8;subst hkey;simp;simp[hkey]
     simp only[aK.G,aK.jW,aK.gM,aK.pc,hf];simp only[bF,cX,De,wG,yA,s0,hr,aK.Ka,ZJ,if_true,if_false,Zq]
    rw[Qr]at hs;obtain⟨A4,e1,e2,_⟩:=gh.xu (P:=qZ) (t:=139) hs ka1 kar 8 vn;simp[-fv,nO,v0,vx,e1];rw[Qq];exact⟨trivial,e2⟩
   .
    have wG:=fu 25 24 Yc rz;have De:=fu 26 25 Yc wG;have s0:=ks 0 Yc;obtain⟨r,hr⟩:=cJ.uS 0 s0;have v0:a 32=.map (qf r):=(by rw[cJ.ny 0 32 Yc s0];exact hr);have hk:aK.G eX nn no nt vh vn B (bF S 24) (cX val 24 (.map (qf r)))=aK.G eX nn no nt vh vn B S val:=by
     have hf:aK.fS (bF S 24) (cX val 24 (.map (qf r))) vh vn=aK.fS S val vh vn:=by funext key;simp[aK.fS,bF,cX]
     simp only[aK.G,aK.jW,aK.gM,aK.pc,hf];simp only[bF,cX,De,wG,rz,s0,hr,aK.Ka,ZJ,if_true,if_false,Zq]
    simp[nO,v0,hk];exact⟨⟨r,by simp[cX]⟩,hs⟩
   .
    have De:=fu 26 25 Yc rz;have yA:=ks 24 Yc;obtain⟨r,hr⟩:=cJ.uS 24 yA;have v0:a 48=.map (qf r):=(by rw[cJ.ny 24 48 Yc yA];exact hr);have hk:aK.G eX nn no nt vh vn B (bF S 25) (cX val 25 (.agg #[.map (qf r)]))=aK.G eX nn no nt vh vn B S val:=by
     have hf:aK.fS (bF S 25) (cX val 25 (.agg #[.map (qf r)])) vh vn=aK.fS S val vh vn:=by funext key;simp[aK.fS,bF,cX]
     simp only[aK.G,aK.jW,aK.gM,aK.pc,hf];simp only[bF,cX,De,rz,yA,hr,aK.Ka,aK.r25,ZJ,if_true,if_false,Zq];rfl
    simp[nO,v0,hk];exact⟨⟨r,by simp[cX]⟩,hs⟩
   .
    have wG:=ks 25 Yc;obtain⟨r,hr⟩:=cJ.uS 25 wG;have v0:a 49=.agg #[.map (qf r)]:=(by rw[cJ.ny 25 49 Yc wG];exact hr)
    obtain⟨X,Qr,Qq⟩:∃X,aK.G eX nn no nt vh vn B S val=gh qg r (aK.fS S val vh vn)*X/\aK.G eX nn no nt vh vn B (bF S 26) (cX val 26 (qs (qf ⟨A3.next,0,qk⟩))) =
     (ut λr=>pt A3.next (qm [.map (qf r)] qj 1)*gh qg r (aK.fS S val vh vn))*X:=by
     refine⟨(aK.gM S val eX nn*(aK.pc (S 9) (ay qr (val 9) (q9 no 0))*(aK.pc (S 11) (ay qr (val 11) (q9 1 0))*(aK.pc (S 13) (ay qr (val 13) (q9 1 0)) *
      (aK.pc (S 15) (ay qr (val 15) (q9 1 0))*(aK.pc (S 18) (ay qr (val 18) (q9 nt 0))*B)))))),?_,?_⟩
     simp only[aK.G,aK.jW,rz,wG,hr,aK.r25,if_true,Zq,if_false];rfl;have hf:aK.fS (bF S 26) (cX val 26 (qs (qf ⟨A3.next,0,qk⟩))) vh vn=aK.fS S val vh vn:=by funext key;simp[aK.fS,bF,cX]
     simp only[aK.G,aK.jW,aK.gM,aK.pc,hf];simp only[bF,cX,aK.bOf,ZJ,if_true,if_false]
    rw[Qr]at hs;simp[nO,v0];rw[Qq];refine⟨⟨A3.next,by simp[cX]⟩,?_⟩;rw[bD.ex];refine⟨r,?_⟩;rw[HP.dq];exact hs.alloc E6 _
   .
    have hk:∀v,aK.G eX nn no nt vh vn B (bF S 27) (cX val 27 v)=aK.G eX nn no nt vh vn B S val:=λv=>by
     have hf:aK.fS (bF S 27) (cX val 27 v) vh vn=aK.fS S val vh vn:=by funext key;simp[aK.fS,bF,cX]
     simp[aK.G,aK.jW,aK.gM,aK.pc,hf];simp[bF,cX]
    have v26:a 50=val 26:=cJ.ny 26 50 Yc (ks 26 Yc);simp[nO,v26,hk]
    exact⟨by simp[aK.KL,cX],hs⟩
   .
    have hk:∀v,aK.G eX nn no nt vh vn B (bF S 28) (cX val 28 v)=aK.G eX nn no nt vh vn B S val:=λv=>by
     have hf:aK.fS (bF S 28) (cX val 28 v) vh vn=aK.fS S val vh vn:=by funext key;simp[aK.fS,bF,cX]
     simp[aK.G,aK.jW,aK.gM,aK.pc,hf];simp[bF,cX]
    simp[nO,hk]
    exact⟨by simp[aK.KL,cX],hs⟩
 intro S val a A3 gQ cJ E6 hs;have sG:∀k,k<29->S k=qj:=λk hk=>gQ k hk;obtain⟨b,hb⟩:=cJ.uS 26 (sG 26 Ya);have h27:=cJ.uS 27 (sG 27 Ya);have a6:a 6=qs (qf ⟨b,0,qk⟩):=by rw[cJ.ny 27 6 Yc (sG 27 Ya),h27,hb]
 have a7:a 7=.int qg 0:=by rw[cJ.ny 28 7 Yc (sG 28 Ya)];exact cJ.uS 28 (sG 28 Ya)
 simp only[OA];refine N7 ?_;refine⟨_,by (simp[a6,a7];done),b,rfl,?_⟩;have hmap:aK.fS S val vh vn=Bk (λk=>if k=0 then val 5 else if k=1 then val 9 else if k=2 then val 11 else if k=3 then val 13 else if k=4 then val 15 else if k=5 then val 18 else if k=6 then vh else vn):=by
  funext key;simp only[aK.fS,Bk,sG 6 Ya,sG 5 Ya,sG 10 Ya,sG 9 Ya,sG 12 Ya,sG 11 Ya,sG 14 Ya,sG 13 Ya,sG 16 Ya,sG 15 Ya,sG 19 Ya,sG 18 Ya,sG 21 Ya,sG 23 Ya,and_self,if_true];by_cases hk:1<=key/\key<=8;have:key=1\/key=2\/key=3\/key=4\/key=5\/key=6\/key=7\/key=8:=Ya
  rcases this with rfl|rfl|rfl|rfl|rfl|rfl|rfl|rfl<;>rfl;rw[ar hk,ar Ya,ar Ya,ar Ya,ar Ya,ar Ya,ar Ya,ar Ya,ar Ya]
 have tu:bD A3 ((ut λr=>pt b (qm [.map (qf r)] qj 1)*gh qg r (aK.fS S val vh vn))*(ay qr (val 5) (eX++q9 nn 0)*(ay qr (val 9) (q9 no 0)*(ay qr (val 11) (q9 1 0) *
  (ay qr (val 13) (q9 1 0)*(ay qr (val 15) (q9 1 0)*(ay qr (val 18) (q9 nt 0)*B))))))):=by refine hs.dJ ?_;simp only[aK.G,aK.jW,aK.gM,aK.pc,sG 26 Ya,sG 5 Ya,sG 9 Ya,sG 11 Ya,sG 13 Ya,sG 15 Ya,sG 18 Ya,if_true,hb,aK.bOf]
 rw[bD.ex]at tu;obtain⟨r,hs3⟩:=tu;rw[hB,hmap]at hs3;refine fp.eB (r:=r) (vs:=λk=>if k=0 then val 5 else if k=1 then val 9 else if k=2 then val 11 else if k=3 then val 13 else if k=4 then val 15 else if k=5 then val 18 else if k=6 then vh else vn) ?_;simp only[fI,iD,ZJ,if_true,if_false];have r1:q9 1 (0:Int)=[0]:=rfl;rw[r1]at hs3;exact bD.right (P:=pt A.next (qm CV qj 1)) (hs3.dJ Ye)
end
section
open T22
variable [Gl]
def EL (c:bu)(nt:Nat)(eX:List Int):Mm:=λk=>if k=0 then eX++q9 c.nb.toNat 0 else if k=1 then q9 c.au.toNat 0 else if k=5 then q9 nt 0 else if k=6 then vY c.c0 c.c1 else if k=7 then wP c.c0 c.c1 else [0]
def cfgO (c:bu):dt:=qm [.int qg c.bm,.int qg c.au,.int qg c.base,.int qg c.c0,.int qg c.c1,.int qg c.c2,.int qg c.c3,.int qg c.reads,.int qg c.b8,.int qg c.ao,.int qg c.aB,.int qg c.aC,.bool c.aZ] qj 1
def refO (c:bu)(v0 v1 v5 v6 v7:qi):dt:=qm [.int qg c.bm,.int qg c.au,.int qg c.base,.int qg c.c0,.int qg c.c1,.int qg c.c2,.int qg c.c3,.int qg c.reads,.int qg c.b8,.int qg c.ao,.int qg c.aB,.int qg c.aC,.bool c.aZ,v0,v1,.int qr 0,.int qr 0,.int qr 0,v5,v6,v7] qj 1
def E4 {c:bu}(hc:re c):(U (wP c.c0 c.c1):Int)=c.nb:=by have e:c.nb=c.c0+c.c1+c.c2+c.c3:=rfl;rw[e,hc.c2,hc.c3];rcases hc.c0 with h0|h0|h0<;>rcases hc.c1 with h1|h1|h1<;>rw[h0,h1]<;>decide
def nextF_at {c:bu}(hc:re c)(b:Nat)(hb:(b:Int)<c.nb):(wP c.c0 c.c1)[b]?=qf (if (b:Int)+1<c.nb/\eE c (b+1)=eE c b then (b:Int)+2 else 0):=by
 have e:c.nb=c.c0+c.c1+c.c2+c.c3:=rfl;rw[e,hc.c2,hc.c3]at hb ⊢;unfold eE GJ;rw[hc.c2,hc.c3];rcases hc.c0 with h0|h0|h0<;>rcases hc.c1 with h1|h1|h1<;>rw[h0,h1]at hb ⊢
 all_goals(have AY:b=0\/b=1\/b=2\/b=3:=Ya)
 all_goals(rcases AY with rfl|rfl|rfl|rfl)
 all_goals(first|omega|(simp[wP];done))
def O7 (c:bu):Nat->Int|0=>0|1=>c.c0|2=>c.c0+c.c1|3=>c.c0+c.c1+c.c2|_=>c.c0+c.c1+c.c2+c.c3
def QX (c:bu):Nat->Int|0=>c.c0|1=>c.c1|2=>c.c2|_=>c.c3
def Wy {c:bu}(hc:re c)(k:Nat)(hk:k<4):(vY c.c0 c.c1)[k]?=qf (if 0<QX c k then O7 c k+1 else 0):=by
 have hk4:k=0\/k=1\/k=2\/k=3:=Ya
 have h2:=hc.c2;have h3:=hc.c3;rcases hk4 with rfl|rfl|rfl|rfl
 all_goals(simp only[QX,O7,vY])
 all_goals(rcases hc.c0 with h0|h0|h0<;>rcases hc.c1 with h1|h1|h1<;>simp[h0,h1,h2,h3,uu])
def cntF_rng {c:bu}(hc:re c)(k:Nat):(0<=QX c k/\QX c k<=2)/\0<=O7 c k/\O7 c k<=4:=by
 have h0:=hc.c0;have h1:=hc.c1;have h2:=hc.c2;have h3:=hc.c3;unfold QX O7
 repeat' split
 all_goals omega
end
section
open T17 T13
variable [Gl]
def nZ (s:aJ):List Int:=s.bJ.bU.filter (λa=>decide (a<s.cf.bm))
def W1 {A:AW}{L K:List It}{k:qi->AW->Prop}{v:qi}{l:List Int}(hw:A.Wf)(hS:aj A L)(hp:aF L (.h (ay qg v l)) K)(hl:U l<2^38)(hk:∀o c A',aj A' (.h (ay qg (ql o (U l) c) l)::L)->A'.Wf->A.le A'->k (ql o (U l) c) A'):aE qZ 90 [v] A k:=by refine bT (kJ v l A (aj.wu hS hp) Ya) ?_;rintro u A'⟨h1,h2⟩lC _;exact XP
def OU (b:Nat)(s:aJ)(bR:Int)(d:bM)(hC:iF s)(f:uV)(A:AW)(F:HP)(hw:A.Wf)(hS:aj A (de b s bR d f++[.h F])):
 aE qZ 71 [pv b] A (λv A'=>∃u w,v=qF #[u,w]/\aj A' (.h (ay qg u s.reads)::.h (ay qg w (nZ s))::(de b s bR d f++[.h F]))):=by
 refine aO Tryz.func71 λ_=>?_;have cy:=hC.len;have AS:=hC.kS;obtain⟨fe,fA,bV,dF,dB,m,c0,c1,c2,dL,bI,cx,cG,fh,dM,fY,cH,cF,br,dN,dQ,iG,fi⟩:=f;dsimp only[de,aa,ah]at hS;have hq:=gL hS hw
 repeat' (first|(refine lz λR hR=>?_;simp[hq,AW.ab];try simp(disch:=omega)only[az,ar,an,ax])|(refine hR _ _ ?_;clear hR R)|(refine hK _ _ ?_;clear hK K)|refine nx ?_|refine wn λK hK=>?_|simp only[wS]|(show df _ _ _ _ _ _;refine nx ?_))
 apply xV (n:=fA) (s:=s.bJ);exact hw;exact hS
 (·exact kP)
 omega;intro o1 c3 A1 hS hw _;generalize hn:s.bJ.bU=ad at *;revert hq hS hw;(repeat first|clear hS|clear hw|revert R|revert K);refine Wp db (J1 bL) ?_<;>(unhygienic intros)
 refine dO (λk fr A'=>A'.Wf/\∃(i:Nat)(v:qi)(q:List Int),q=(ad.take i).filter (λa=>decide (a<s.cf.bm))/\k=U ad-i/\i<=U ad/\fr 0=pv b/\fr 3=v/\fr 11=ql o1 (U ad) c3/\fr 12=.int qg (U ad)/\fr 13=.int qg i/\
  aj A' (.h (ay qg v q)::.h (ay qg (ql o1 (U ad) c3) ad)::(de b s bR d ⟨fe,fA,bV,dF,dB,m,c0,c1,c2,dL,bI,cx,cG,fh,dM,fY,cH,cF,br,dN,dQ,iG,fi⟩++[.h F]))) (U ad) ?_ ?_
 refine⟨hw,0,ql qk 0 0,[],by simp,by simp,by simp,by simp,by simp,by simp,by simp,by simp,?_⟩;exact aj.zE qg hS;rintro k fr A'⟨hw,i,v,q,RA,rfl,hi,h0,h3,Kh,xm,D0,hS⟩;have hI:=aj.wu hS (.s .z);have hIv:=aj.wu hS .z;have hql:U q<=i:=by
  rw[RA];have:=List.length_filter_le (λa=>decide (a<s.cf.bm)) (ad.take i);have h9:U (ad.take i)<=i:=by simp;omega
  omega
 obtain⟨ov,cv,rfl,_⟩:=hIv.cL;dsimp only[de,jo,dw,ft,bM.dZ,aa,ah]at hS;have hq:=UW hS hw;refine aU ?_;by_cases b9:i<U ad
 . have gf:(i:Int)<U ad:=Ya;have ij:=C0 (i:=i);obtain⟨p,bO,rfl,bP,hcell⟩:=hI.at b9;have C2:ad.take (i+1)=ad.take i++[ad[i]]:=List.take_succ_eq_append_getElem b9;by_cases h:ad[i]<s.cf.bm
   . revert hq hS hw;(repeat first|clear hq|clear hS|clear hw);refine Wu db (Ay h0 h3 Kh xm D0 bP hcell h b9 gf ij bL) ?_<;>(unhygienic intros);refine⟨U ad-(i+1),by omega,hw,i+1,_,q++[ad[i]],?_,rfl,by omega,by simp[h0],by simp;rfl,by simp[Kh],by simp[xm],by simp,?_⟩;rw[RA,C2,kbn];simp[h];apply aj.bZ hS;dsimp only[de,jo,dw,ft,bM.dZ,aa,ah]
     (·exact pP)
   revert hq hS hw;(repeat first|clear hq|clear hS|clear hw);refine Wp db (Ay h0 h3 Kh xm D0 bP hcell h b9 gf ij bL) ?_<;>(unhygienic intros);refine⟨U ad-(i+1),by omega,hw,i+1,_,q,?_,rfl,by omega,by simp[h0],by simp[h3];rfl,by simp[Kh],by simp[xm],by simp,?_⟩;rw[RA,C2,kbn];simp[h];apply aj.bZ hS;dsimp only[de,jo,dw,ft,bM.dZ,aa,ah]
   (·exact pP)
 have NE:i=U ad:=Ya
 subst NE;rw[List.take_length]at RA;revert hq hS hw;(repeat first|clear hq|clear hS|clear hw);refine Wp (J1 (Tg.mk (n:=11) @W1)) (J6 h0 h3 Kh xm D0 bL) ?_<;>(unhygienic intros);refine⟨_,by (simp;rfl),?_⟩;refine⟨_,_,rfl,?_⟩;have Rx:nZ s=q:=by unfold nZ;rw[hn,RA]
 rw[Rx];apply aj.bZ hS;dsimp only[de,aa,ah]
 (·exact pP)
def Mv (n:Nat)(s:aJ)(hC:iF s):eL qZ 71 [pv n] [.h (bq n s)] (λ(x:(Option Addr×Nat)×Option Addr×Nat) v=>v=qF #[ql x.1.1 (U s.reads) x.1.2,ql x.2.1 (U (nZ s)) x.2.2]) (λx=>[.h (ay qg (ql x.1.1 (U s.reads) x.1.2) s.reads),.h (ay qg (ql x.2.1 (U (nZ s)) x.2.2) (nZ s)),.h (bq n s)]):=by
 intro A F hw hS;obtain⟨f,hS⟩:=bq.open hS .z;rw[List.append_assoc]at hS;have jK:aj A (de n s s.aH.dZ s.aH f++[.h (aP (jo n s.aH f++[.h F]))]):=by unfold aj at hS ⊢;rw[gO]at hS ⊢;show bD A (aP (de n s s.aH.dZ s.aH f)*(aP (jo n s.aH f++[.h F])*eY));rw[ei];exact hS
 refine(OU n s s.aH.dZ s.aH hC f A _ hw jK).mono ?_;rintro v A'⟨u,w,rfl,h⟩;obtain⟨o1,c1,rfl,_⟩:=(aj.wu h .z).cL;obtain⟨o2,c2,rfl,_⟩:=(aj.wu h (.s .z)).cL;refine⟨((o1,c1),o2,c2),rfl,?_⟩;show aj A' [.h (ay qg (ql o1 (U s.reads) c1) s.reads),.h (ay qg (ql o2 (U (nZ s)) c2) (nZ s)),.h (bq n s),.h F];generalize hu:Value.slice o1 (U s.reads) c1=u at h ⊢;generalize hv:Value.slice o2 (U (nZ s)) c2=w at h ⊢;unfold aj at h ⊢;have h3:bD A' (ay qg u s.reads*(ay qg w (nZ s)*aP (de n s s.aH.dZ s.aH f++[.h (aP (jo n s.aH f++[.h F]))]))):=h;rw[gO,show aP [It.h (aP (jo n s.aH f++[.h F]))]=aP (jo n s.aH f++[.h F]) from ei _,gO]at h3;show bD A' (ay qg u s.reads*(ay qg w (nZ s)*(bq n s*(F*eY))));rw[ei];have h4:bD A' (aP (de n s s.aH.dZ s.aH f++jo n s.aH f)*(ay qg u s.reads*(ay qg w (nZ s)*F))):=by
  rw[gO];refine h3.dJ ?_;rw[show aP [It.h F]=F from ei F]
  ac_rfl
 have h5:bD A' (bq n s*(ay qg u s.reads*(ay qg w (nZ s)*F))):=by show bD A' (ut (λf:uV=>aP (de n s s.aH.dZ s.aH f++jo n s.aH f))*_);rw[bD.ex];exact⟨f,h4⟩
 exact h5.dJ Ye
end
section
namespace TImageA
def oK [Gl]{A:AW}{L:List It}{T:Prop}(hS:aj A L)(hw:A.Wf)(h':(ba A L/\bB A L/\cd L)=T:=by first|(dsimp only[aa,ah,ba,bB,cd,fw];done)|exact rfl):T:=h'▸hS.fm hw
end TImageA
open TImageA
variable [Gl]
def fp.fm {A:AW}{pb:Nat}{M:Nat->List Int}{F:HP}(h:bD A (fp pb M*F)):
 ∃(r:Nat)(gI:List (qi×qi))(vs:Nat->qi),A.bk pb=qf (qm [.map (qf r)] qj 1)/\A.bk r=qf (.map gI qj)/\(∀k:Nat,k<8->∃q,fy (.int qg) (.int qg ((k:Int)+1)) gI 0=qf (qf (q,vs k)))/\∀k:Nat,k<8->b5 A qr (vs k) (M k):=by
 obtain⟨r,vs,hS⟩:=fp.open h;have Kd:=hS.bk;obtain⟨gI,Bq,vC,_⟩:=gh.fm hS.right;refine⟨r,gI,vs,Kd,Bq,λk hk=>vC qg _ _ ?_,λk hk=>?_⟩;have:(1:Int)<=k+1/\(k:Int)+1<=8:=Ya
 simp only[Bk,az this];congr 2;omega;exact ay.is (bD.pick (f:=λk=>ay qr (vs k) (M k)) hS.right.right hk)
def Vu (A:AW)(v:qi)(M:Nat->List Int):Prop:=
 ∃v0 v1 v5 v6 v7,v=.agg #[v0,v1,.int qr ((M 2).getD 0 0),.int qr ((M 3).getD 0 0),.int qr ((M 4).getD 0 0),v5,v6,v7]/\
  b5 A qr v0 (M 0)/\b5 A qr v1 (M 1)/\b5 A qr v5 (M 5)/\b5 A qr v6 (M 6)/\b5 A qr v7 (M 7)
def GK:List qi:=[ql qk 0 0,ql qk 0 0,.int qr 0,.int qr 0,.int qr 0,ql qk 0 0,ql qk 0 0,ql qk 0 0]
end
section
abbrev xQ:List (Nat×Nat):=[(0,0),(1,0),(2,0),(3,0),(4,0),(6,0),(7,0),(8,0),(9,0),(10,0),(12,0),(13,0),(14,0),(15,0),(16,0),(17,0),(18,0),(19,0),(20,0),(21,0),(22,0),(23,0),(24,0),(25,0),(26,0),(27,0),(28,0),(29,0),(30,0),(31,0),(32,0),(33,0),(34,0),(35,0),(36,0),(37,0),(39,0),(40,0),(41,0),(42,0),(43,0),(45,0),(46,0),(47,0),(48,0),(49,0),(5,2),(11,2),(38,2),(44,2),(50,2),(51,0),(52,3)]
open T7
variable [Gl]
def SN (pb:Nat)(M:Nat->List Int)(A:AW)(F:HP)(h:bD A (fp pb M*F))(cy:∀k,k<8->U (M k)<2^39)(h2:0<U (M 2))(h3:0<U (M 3))(h4:0<U (M 4)):
 aE qZ 88 [qs (qf ⟨pb,0,qk⟩)] A (λv A'=>∃o0 c0 o1 c1 o5 c5 o6 c6 o7 c7,v=.agg #[ql o0 (U (M 0)) c0,ql o1 (U (M 1)) c1,.int qr ((M 2).getD 0 0),.int qr ((M 3).getD 0 0),.int qr ((M 4).getD 0 0),ql o5 (U (M 5)) c5,ql o6 (U (M 6)) c6,ql o7 (U (M 7)) c7]/\bD A' (ay qr (ql o0 (U (M 0)) c0) (M 0)*(ay qr (ql o1 (U (M 1)) c1) (M 1)*(ay qr (ql o5 (U (M 5)) c5) (M 5)*(ay qr (ql o6 (U (M 6)) c6) (M 6)*(ay qr (ql o7 (U (M 7)) c7) (M 7)*(fp pb M*F))))))/\A.le A'):=by
 refine aO Tryz.func88 λhw=>?_;obtain⟨r,gI,vs,Kd,Bq,vC,his⟩:=fp.fm h;obtain⟨q0,f0⟩:=vC 0 Ya;have f0:fy (.int qg) (.int qg 1) gI 0=qf (qf (q0,vs 0)):=f0;obtain⟨q1,f1⟩:=vC 1 Ya;have f1:fy (.int qg) (.int qg 2) gI 0=qf (qf (q1,vs 1)):=f1;obtain⟨q2,f2⟩:=vC 2 Ya;have f2:fy (.int qg) (.int qg 3) gI 0=qf (qf (q2,vs 2)):=f2;obtain⟨q3,f3⟩:=vC 3 Ya;have f3:fy (.int qg) (.int qg 4) gI 0=qf (qf (q3,vs 3)):=f3;obtain⟨q4,f4⟩:=vC 4 Ya;have f4:fy (.int qg) (.int qg 5) gI 0=qf (qf (q4,vs 4)):=f4;obtain⟨q5,f5⟩:=vC 5 Ya;have f5:fy (.int qg) (.int qg 6) gI 0=qf (qf (q5,vs 5)):=f5;obtain⟨q6,f6⟩:=vC 6 Ya;have f6:fy (.int qg) (.int qg 7) gI 0=qf (qf (q6,vs 6)):=f6;obtain⟨q7,f7⟩:=vC 7 Ya;have f7:fy (.int qg) (.int qg 8) gI 0=qf (qf (q7,vs 7)):=f7;obtain⟨np,np'⟩:=hw.eD Kd;obtain⟨nr,nr'⟩:=hw.eD Bq
 have i2:=his 2 Ya;have i3:=his 3 Ya;have i4:=his 4 Ya;obtain⟨o2,c2,e2,_⟩:=i2.cL;obtain⟨o3,c3,e3,_⟩:=i3.cL;obtain⟨o4,c4,e4,_⟩:=i4.cL;rw[e2]at i2 f2;rw[e3]at i3 f3;rw[e4]at i4 f4;obtain⟨p2,r2,w2,rfl,g2,d2⟩:=i2.atg h2;obtain⟨n2,n2'⟩:=hw.eD g2;obtain⟨p3,r3,w3,rfl,g3,d3⟩:=i3.atg h3;obtain⟨n3,n3'⟩:=hw.eD g3;obtain⟨p4,r4,w4,rfl,g4,d4⟩:=i4.atg h4;obtain⟨n4,n4'⟩:=hw.eD g4;simp only[Nat.add_zero]at d2 d3 d4
 repeat' (first|(refine lz λR hR=>?_;simp[Kd,Bq,AW.ab,np,nr,f0,f1,f2,f3,f4,f5,f6,f7,g2,g3,g4,d2,d3,d4,n2,n3,n4,h2,h3,h4];try simp(disch:=omega)only[az,ar,an,ax])|(refine hR _ _ ?_;clear hR R)|(refine hK _ _ ?_;clear hK K)|refine nx ?_|refine wn λK hK=>?_|simp only[wS,xQ]|refine wl Tryz.mx xQ Yc λK hK=>?_|(show df _ _ _ _ _ _;refine nx ?_)|(refine wc rfl (λhc=>?_) (λhc=>?_)<;>(try simp at hc)))
 have l00:A.le (A.alloc (qm GK qj 1)):=AW.le.alloc A _;have S00:=h.alloc hw (qm GK qj 1);have OG:=hw.alloc (qm GK qj 1);have hgz:(A.alloc (qm GK qj 1)).bk A.next=qf (qm GK qj 1):=AW.cD _ _;refine bT (jL (vs 0) (M 0) (A.alloc (qm GK qj 1)) ((his 0 Ya).le l00 hw) (cy 0 Ya)) ?_;rintro v0 B0⟨q0',m0⟩w0' _;have S0:=ay.jh S00 OG m0 q0';obtain⟨ov0,cv0,rfl,_⟩:=q0'.is.cL;have l0':=l00.trans m0;have z0:=m0.jp OG hgz;refine⟨m0,?_⟩;revert hw;(repeat first|revert hc|revert R|revert K);refine W (J1 (od xQ)) (J3 z0 bL @GK.eq_1) ?_<;>(unhygienic intros);refine bT (jL (vs 1) (M 1) _ ((his 1 Ya).le l0' hw) (cy 1 Ya)) ?_;rintro v1 B1⟨q1',m1⟩w1' _;have S1:=ay.jh S0 w0' m1 q1';obtain⟨ov1,cv1,rfl,_⟩:=q1'.is.cL;have l1':=l0'.trans m1;have z1:=m1.jp w0' z0;refine⟨m1,?_⟩;revert hw;(repeat first|revert hc|revert R|revert K);refine W (J1 (od xQ)) (J3 z1 bL @GK.eq_1) ?_<;>(unhygienic intros)
 refine bT (jL (vs 5) (M 5) _ ((his 5 Ya).le l1' hw) (cy 5 Ya)) ?_;rintro v5 B2⟨q5',m5⟩w5' _;have S2:=ay.jh S1 w1' m5 q5';obtain⟨ov5,cv5,rfl,_⟩:=q5'.is.cL;have l2':=l1'.trans m5;have z2:=m5.jp w1' z1;refine⟨m5,?_⟩;revert hw;(repeat first|revert hc|revert R|revert K);refine W (J1 (od xQ)) (J3 z2 bL @GK.eq_1) ?_<;>(unhygienic intros);refine bT (jL (vs 6) (M 6) _ ((his 6 Ya).le l2' hw) (cy 6 Ya)) ?_;rintro v6 B3⟨q6',m6⟩w6' _;have S3:=ay.jh S2 w5' m6 q6';obtain⟨ov6,cv6,rfl,_⟩:=q6'.is.cL;have l3':=l2'.trans m6;have z3:=m6.jp w5' z2;refine⟨m6,?_⟩;revert hw;(repeat first|revert hc|revert R|revert K);refine W (J1 (od xQ)) (J3 z3 bL @GK.eq_1) ?_<;>(unhygienic intros);refine bT (jL (vs 7) (M 7) _ ((his 7 Ya).le l3' hw) (cy 7 Ya)) ?_;rintro v7 B4⟨q7',m7⟩w7' _;have S4:=ay.jh S3 w6' m7 q7';obtain⟨ov7,cv7,rfl,_⟩:=q7'.is.cL;have l4':=l3'.trans m7
 have z4:=m7.jp w6' z3;refine⟨m7,?_⟩;refine W (J1 (od xQ)) (J3 z4 bL @GK.eq_1) ?_<;>intros;have gd:∀(l:List Int)(h:0<U l),l[0]=l.getD 0 0:=λl hl=>by rw[List.getD_eq_getElem?_getD,List.getElem?_eq_getElem hl];rfl
 have S5:bD B4 (pt A.next (qm GK qj 1)*(ay qr (ql ov0 (U (M 0)) cv0) (M 0)*(ay qr (ql ov1 (U (M 1)) cv1) (M 1)*(ay qr (ql ov5 (U (M 5)) cv5) (M 5)*(ay qr (ql ov6 (U (M 6)) cv6) (M 6)*(ay qr (ql ov7 (U (M 7)) cv7) (M 7)*(fp pb M*F))))))):=S4.dJ Ye;refine⟨_,by (simp[AW.ab];rfl),ov0,cv0,ov1,cv1,ov5,cv5,ov6,cv6,ov7,cv7,?_,(S5.set _).right,l4'.set (Nat.le_refl _) _⟩;rw[gd _ h2,gd _ h3,gd _ h4]
structure ImgF where
 v0:Option Addr×Nat
 v1:Option Addr×Nat
 v5:Option Addr×Nat
 v6:Option Addr×Nat
 v7:Option Addr×Nat
def kD (x:Option Addr×Nat)(l:List Int):qi:=ql x.1 (U l) x.2
def yw (M:Mm)(f:ImgF):HP:=ay qr (kD f.v0 (M 0)) (M 0)*(ay qr (kD f.v1 (M 1)) (M 1)*(ay qr (kD f.v5 (M 5)) (M 5)*(ay qr (kD f.v6 (M 6)) (M 6)*ay qr (kD f.v7 (M 7)) (M 7))))
def SM (pb:Nat)(M:Mm)(cy:∀k,k<8->U (M k)<2^39)(h2:0<U (M 2))(h3:0<U (M 3))(h4:0<U (M 4)){A:AW}{L K:List It}{k:qi->AW->Prop}(hw:A.Wf)(hS:aj A L)(hp:aF L (eA pb M) K)(hk:∀f A',aj A' (.h (yw M f)::L)->A'.Wf->A.le A'->k (.agg #[kD f.v0 (M 0),kD f.v1 (M 1),.int qr ((M 2).getD 0 0),.int qr ((M 3).getD 0 0),.int qr ((M 4).getD 0 0),kD f.v5 (M 5),kD f.v6 (M 6),kD f.v7 (M 7)]) A'):
 aE qZ 88 [pv pb] A k:=by
 have h:bD A (fp pb M*aP K):=by exact X6
 refine bT (SN pb M A (aP K) h cy h2 h3 h4) ?_;rintro v A'⟨o0,c0,o1,c1,o5,c5,o6,c6,o7,c7,rfl,h1,gb⟩lC _;refine hk ⟨(o0,c0),(o1,c1),(o5,c5),(o6,c6),(o7,c7)⟩ A' ?_ lC gb;unfold aj;refine bD.dJ h1 ?_;show _=yw M _*aP L;rw[hp.aP];show _=(ay qr (ql o0 (U (M 0)) c0) (M 0)*(ay qr (ql o1 (U (M 1)) c1) (M 1)*(ay qr (ql o5 (U (M 5)) c5) (M 5)*(ay qr (ql o6 (U (M 6)) c6) (M 6)*ay qr (ql o7 (U (M 7)) c7) (M 7)))))*(fp pb M*aP K)
 ac_rfl
def xM {A:AW}{k:IntKind}{v:qi}{l:List Int}{R Q:HP}(h:bD A R)(e:R=ay k v l*Q):b5 A k v l:=ay.is (h.dJ e)
def yw.is {A:AW}{L K:List It}{M:Mm}{f:ImgF}(hS:aj A L)(hp:aF L (.h (yw M f)) K):Vu A (.agg #[kD f.v0 (M 0),kD f.v1 (M 1),.int qr ((M 2).getD 0 0),.int qr ((M 3).getD 0 0),.int qr ((M 4).getD 0 0),kD f.v5 (M 5),kD f.v6 (M 6),kD f.v7 (M 7)]) M:=by unfold aj at hS;rw[hp.aP]at hS;have hr:bD A (yw M f*aP K):=hS;unfold yw at hr;refine⟨_,_,_,_,_,rfl,?_,?_,?_,?_,?_⟩;exact xM hr (Q:=ay qr (kD f.v1 (M 1)) (M 1)*(ay qr (kD f.v5 (M 5)) (M 5)*(ay qr (kD f.v6 (M 6)) (M 6)*ay qr (kD f.v7 (M 7)) (M 7)))*aP K) Ye;exact xM hr (Q:=ay qr (kD f.v0 (M 0)) (M 0)*(ay qr (kD f.v5 (M 5)) (M 5)*(ay qr (kD f.v6 (M 6)) (M 6)*ay qr (kD f.v7 (M 7)) (M 7)))*aP K) Ye;exact xM hr (Q:=ay qr (kD f.v1 (M 1)) (M 1)*(ay qr (kD f.v0 (M 0)) (M 0)*(ay qr (kD f.v6 (M 6)) (M 6)*ay qr (kD f.v7 (M 7)) (M 7)))*aP K) Ye;exact xM hr (Q:=ay qr (kD f.v1 (M 1)) (M 1)*(ay qr (kD f.v5 (M 5)) (M 5)*(ay qr (kD f.v0 (M 0)) (M 0)*ay qr (kD f.v7 (M 7)) (M 7)))*aP K) Ye;exact xM hr (Q:=ay qr (kD f.v1 (M 1)) (M 1)*(ay qr (kD f.v5 (M 5)) (M 5)*(ay qr (kD f.v6 (M 6)) (M 6)*ay qr (kD f.v0 (M 0)) (M 0)))*aP K) Ye
end
end Go.Stx
