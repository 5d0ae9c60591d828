/-
 FairCommits, without the program.
-/
import Derived.Test.YtpealkdhmnomhaaGreatDoorG34
set_option linter.unusedVariables false
set_option linter.unusedSimpArgs false
set_option linter.unusedSectionVars false
set_option maxRecDepth 20000
set_option maxHeartbeats 4000000
namespace Go.Stx
open Go Go.Proofs
attribute [local irreducible] cM aV aB aL cU dh
section
variable [Gl]
variable [AF]
theorem yF (s:aI):(fH s).bT=s.bT:=by unfold fH;split<;>rfl
theorem sE (s:aI) (aD:Int):(kE s aD).bT=s.bT:=yF _
theorem yQ (s:aI) (aD:Int):(nE s aD).bT=s.bT:=by unfold nE;split<;>rfl
theorem wv (s:aI):(fO s).bT=s.bT:=by unfold fO;split<;>rfl
theorem p9 (s:aI) (a v:Int):(jS s a v).2.bT=s.bT:=by
 unfold jS;split;rfl;exact sE s 3
theorem Hb (s:aI) (b st:Int):(jF s b st).bT=s.bT:=by
 unfold jF;split;exact yQ s 8;split;exact sE s 3;split;exact p9 s _ 0;exact p9 s _ 0
theorem AJ:∀(n:Nat) (a:Int) (s:aI),(gt n a s).2.bT=s.bT
 | 0,_,_=>rfl
 | n+1,a,s=>by
   unfold gt;split;rw [AJ n];exact p9 s a 0;exact p9 s a 0
theorem HL (s:aI) (eZ jz:Int):(fq s eZ jz).bT=s.bT:=by
 unfold fq;split;exact sE s 4;dsimp only;split;split;show (gt _ _ _).2.bT=_;rw [AJ];exact p9 { s with ar:=s.ar++[jz] } _ _;rw [AJ];exact p9 { s with ar:=s.ar++[jz] } _ _;exact p9 { s with ar:=s.ar++[jz] } _ _
theorem VO (s:aI) (l:E4):(sh s l).bT=s.bT:=by
 cases l with
 | mI a v=>
   unfold sh;dsimp only;split;exact yQ s 7;exact p9 s a v
 | uY=>exact yQ s 7
 | QF=>exact yQ s 8
 | bX aD=>exact yQ s aD
 | take v=>rfl
 | Bl=>exact sE s 3
 | dy b v=>exact Hb s b v
theorem UJ (s:aI) (v:Int) (u:Ac):(AL s v u).bT=s.bT:=by
 cases u with
 | take=>rfl
 | dy b=>exact Hb s b v
theorem Oo (s:aI) (M:Mm) (gZ:s.aH≠.dA):(ba s M).2.2.1.bT=s.bT:=by
 unfold ba;cases hd:s.aH with
 | gq=>rfl
 | bL=>rfl
 | je k=>exact VO _ k
 | dA=>exact absurd hd gZ
 | bj r u=>
   show (dq s M r u).2.2.1.bT=s.bT;unfold dq;dsimp only;split;rfl;split;exact sE _ 9;split;dsimp only;rw [UJ];split<;>rfl;dsimp only;rw [sE];split<;>rfl
 | eP p=>
   show (lD s M p).2.2.1.bT=s.bT;unfold lD;dsimp only;split;rw [HL];rfl
 | eg=>
   dsimp only;cases s.aP with
   | none=>rfl
   | some l=>
     dsimp only [iy];split<;>rfl
 | cY=>
   dsimp only;cases s.aN with
   | none=>rfl
   | some t=>
     dsimp only [ij];split<;>rfl
 | cG ck=>
   show (gr s M ck).2.2.1.bT=s.bT;unfold gr;dsimp only;split;rw [wv];split<;>rfl
 | bM=>
   show (fm s M).2.2.1.bT=s.bT;unfold fm;dsimp only;split;rw [wv];split;rfl;rw [wv]
 | dt w=>
   show (go s M w).2.2.1.bT=s.bT;unfold go;dsimp only;split<;>rfl
 | bE w=>rfl
 | eA=>rfl
 | eb=>exact yF s
 | eC p=>
   show (iD s M p).2.2.1.bT=s.bT;unfold iD;dsimp only;split;rw [yF];rfl
section
variable {c:aY} {nt k:Nat} {s:aI} {M:Mm}
theorem rJ {M':Mm} (h:M' 2=M 2):kI M'=kI M:=by unfold kI;rw [h]
theorem MP (h:nZ c k s) (hp:(ba s M).2.1≠19):kI (ba s M).2.2.2=kI M:=by
 have hd:=h.d;revert hp;unfold ba;cases e:s.aH with
 | bL=>exact λ_=>rfl
 | je l=>exact λ_=>rfl
 | dA=>
   rw [e] at hd;obtain⟨h0,en,h1,_⟩:=hd;dsimp only;rw [h1];exact λ_=>rJ (yK en e).2.2.2.2.1
 | bj r u=>rw [e] at hd;exact λ_=>rJ (BT r u hd.1).2.2.2.2.1
 | eP p=>rw [e] at hd;exact λ_=>rJ (Gc p hd.1).2.2.2.2.1
 | eg=>
   dsimp only;cases s.aP with
   | none=>exact λ_=>rfl
   | some l=>
     intro _;refine rJ ?_;show (dI l M).2.2 2=M 2;unfold dI;split;rfl;split;rfl;exact gz (by decide)
 | cY=>
   dsimp only;cases s.aN with
   | none=>exact λ_=>rfl
   | some t=>
     intro _;refine rJ ?_;show (fX t M).2.2 2=M 2;unfold fX;split;rfl;split;exact gz (by decide);rfl
 | cG ck=>
   intro _;refine rJ ?_;show (eD ck M).2.2 2=M 2;unfold eD;split<;>rfl
 | bM=>exact λ_=>rfl
 | dt w=>
   intro _;refine rJ ?_;show (kr w M).2.2 2=M 2;unfold kr;split;rfl;exact gz (by decide)
 | bE w=>
   intro _;refine rJ ?_;show (fF w M).2.2 2=M 2;unfold fF;split;rfl;exact gz (by decide)
 | eA=>exact λhp=>absurd rfl hp
 | eb=>exact λ_=>rJ (gz (by decide))
 | eC p=>exact λ_=>rJ (BX p).2.2.2.2.1
 | gq=>exact λ_=>rJ (gz (by decide))
def VerP (s:aI) (M:Mm):Prop:=lz s=true\/∀o:Int,iX M o / 64<=kI M
theorem step_vp (hc:da c) (hk:k<2^40) (h:nZ c k s) (hM:lK c nt k M) (hT:sx c s M) (hQ:Md s) (hv:∀o:Int,iX M o / 64<=kI M+1) (hP:VerP s M):VerP (ba s M).2.2.1 (ba s M).2.2.2:=by
 have hd:=h.d;have hU:=(Jn hc hk h hM hT hQ).oX hv;have hN:=MP (M:=M) h;have sT:lz s=false->∀{s':aI} {M':Mm},M' 1=M 1->M' 2=M 2->VerP s' M':=λEY s' M' h1 h2=>by
  rcases hP with h3|h3;rw [EY] at h3;cases h3;right;intro o;have:=h3 o;unfold iX kI at this ⊢;rw [h1,h2];exact this
 have Bg:lz s=false->∀{s':aI} {M':Mm},y8 M M'->VerP s' M':=λEY s' M' hL=>sT EY hL.2.1 hL.2.2.1;revert hU hN;unfold ba;cases e:s.aH with
 | bL=>exact λ_ _=>Bg (by unfold lz;rw [e]) (.refl M)
 | je l=>exact λ_ _=>Bg (by unfold lz;rw [e]) (.refl M)
 | dA=>
   rw [e] at hd;obtain⟨h0,en,h1,_⟩:=hd;dsimp only;rw [h1];exact λ_ _=>Bg (by unfold lz;rw [e]) (yK en e).2.2
 | bj r u=>rw [e] at hd;exact λ_ _=>Bg (by unfold lz;rw [e]) (BT r u hd.1).2.2
 | eP p=>rw [e] at hd;exact λ_ _=>Bg (by unfold lz;rw [e]) (Gc p hd.1).2.2
 | eg=>
   rw [e] at hd;obtain⟨h0,Mu,l,h1,h2,h3,h4,h5⟩:=hd;have NI:=h.b.Mn;dsimp only;rw [h1];intro hU hN;have EY:lz s=false:=(by unfold lz;rw [e]);rcases hP with h6|h6;rw [EY] at h6;cases h6;right;intro o;have hn:=hN (by show (if _ then (12:Int) else 11)≠19;split<;>decide);show iX (dI l M).2.2 o / 64<=_;show _<=kI (dI l M).2.2;have hn:kI (dI l M).2.2=kI M:=hn;rw [hn];have h6o:=h6 o;unfold dI;have Qb:¬l.done=true:=(by simp only [iI.done,decide_eq_true_eq];omega);rw [aw Qb];split;exact h6o;rename_i IT;have GX:l.fZ=true:=by simpa using IT
   have ri:=wU (by omega) h5 GX (by rw [h3];exact NI);have hz:=h5.load GX;dsimp only;rcases wG M 2 (dC l) (jJ l.dM (gx l)) 1 o.toNat with h7|⟨_,_,h8,h9⟩;have:iX (kL M 2 (dC l) (jJ l.dM (gx l))) o=iX M o:=h7;rw [this];exact h6o;by_cases hsw:(jJ l.dM (gx l) ((eQ M 2).getD (dC l).toNat 0)).2=true;have e9:(M 1).getD (dC l).toNat 0=l.dM:=of_decide_eq_true hsw;have Uv:iX M o=l.dM:=(by unfold iX;rw [h8];exact e9);have e11:iX (kL M 2 (dC l) (jJ l.dM (gx l))) o=l.dM+l.am+1:=by
    unfold iX;rw [h9];exact ri
   rw [e11];rw [Uv] at h6o;rw [h3];omega;have:=KV (M:=M) (cell:=2) (cg:=dC l) (g:=jJ l.dM (gx l)) (by simpa using hsw);rw [this];exact h6o
 | cY=>
   rw [e] at hd;obtain⟨h0,hl,t,h1,h2,h3⟩:=hd;dsimp only;rw [h1];intro _ _;have hm:(fX t M).2.2 1=M 1/\(fX t M).2.2 2=M 2:=by
    unfold fX;split;exact⟨rfl,rfl⟩;split;exact⟨gz (by decide),gz (by decide)⟩;exact⟨rfl,rfl⟩
   exact sT (by unfold lz;rw [e]) hm.1 hm.2
 | cG ck=>
   intro _ _;have hm:(eD ck M).2.2=M:=(by unfold eD;split<;>rfl);exact sT (by unfold lz;rw [e]) (by show (eD ck M).2.2 1=_;rw [hm]) (by show (eD ck M).2.2 2=_;rw [hm])
 | bM=>exact λ_ _=>sT (by unfold lz;rw [e]) rfl rfl
 | dt w=>
   rw [e] at hd;intro _ _;left;show lz (go s M w).2.2.1=true;unfold go;dsimp only;split;exact hd.2.1.1;rfl
 | bE w=>
   rw [e] at hd;obtain⟨h0,xB,hl,_⟩:=hd;intro hU hN;by_cases NW:s.ao=true;left;have hver:=sO h.b hk ⟨NW,xB NW⟩;have yw:=h.b.gL;show lz { s with aH:=if (fF w M).2.1.done=true then (if 0<=s.oX then .eA else .eb) else .bE (fF w M).2.1 }=true;rw [ay (show 0<=s.oX by omega)];split;rfl;exact NW;have hdf:s.ao=false:=by simpa using NW
   have EY:lz s=false:=(by unfold lz;rw [e];exact hdf);rcases hP with h6|h6;rw [EY] at h6;cases h6;right;intro o;have hn:kI (fF w M).2.2=kI M:=hN (by show (18:Int)≠19;decide);show iX (fF w M).2.2 o / 64<=kI (fF w M).2.2;rw [hn];have h6o:=h6 o;unfold fF;split;exact h6o;rename_i mo;have tK:0<w.os.length:=by
    have:¬w.os.length=0:=by simpa [jO.done] using mo
    omega
   have EV:=hT.lk 0 (by unfold rU;rw [e];exact tK);unfold rU Dw at EV;rw [e] at EV;have EV:=EV.2 EY;dsimp only at EV ⊢;rcases wG M 2 (w.os.getD 0 0) (ej (w.ws.getD 0 0)) 1 o.toNat with h7|⟨_,_,h8,h9⟩;have:iX (kL M 2 (w.os.getD 0 0) (ej (w.ws.getD 0 0))) o=iX M o:=h7;rw [this];exact h6o;have Uv:iX M o=iX M (w.os.getD 0 0):=(by unfold iX;rw [h8]);have e11:iX (kL M 2 (w.os.getD 0 0) (ej (w.ws.getD 0 0))) o=w.ws.getD 0 0:=(by unfold iX;rw [h9];rfl);have NI:=h.b.Mn;rw [e11];rw [Uv] at h6o;omega
 | eA=>
   intro _ _;right;intro o;have e2:lz s=true:=(by unfold lz;rw [e]);have EY:=hT.cm e2;have yw:=h.b.gL;have hcell:dl M 3 0=true:=jT (by omega) (by omega) (by show (0:Int)<((M 2).length:Int);rw [hM.l2];decide);have f1:u7 M 3 0 (IntKind.u64.wrap (s.aC+1)) 2=(M 2).set 0 (IntKind.u64.wrap (s.aC+1)):=wF hcell rfl;have yx:kI (u7 M 3 0 (IntKind.u64.wrap (s.aC+1)))=kI M+1:=(by unfold kI at *;rw [f1,oK,ay ⟨rfl,by rw [hM.l2];omega⟩,an (by omega) (by omega),EY]);show iX (u7 M 3 0 (IntKind.u64.wrap (s.aC+1))) o / 64<=kI (u7 M 3 0 (IntKind.u64.wrap (s.aC+1)));rw [yx];have h1:iX (u7 M 3 0 (IntKind.u64.wrap (s.aC+1))) o=iX M o:=by
    unfold iX;rw [show u7 M 3 0 (IntKind.u64.wrap (s.aC+1)) 1=M 1 from gz (by decide)]
   rw [h1];exact hv o
 | eb=>exact λ_ _=>sT (by unfold lz;rw [e]) (gz (by decide)) (gz (by decide))
 | eC p=>exact λ_ _=>Bg (by unfold lz;rw [e]) (BX p).2.2
 | gq=>exact λ_ _=>Bg (by unfold lz;rw [e]) (.op M (by omega))
def tg (s:aI):Prop:=∃e,s.bT=some e/\2<=e.cr
def OG (s:aI):Prop:=s.aH=.dA\/tg s
def zL (s:aI):Bool:=match s.aH with
 | .eb | .eC _ | .gq=>false
 | _=>true
theorem vK {s s':aI} (h:s'.bT=s.bT):(tg s'↔tg s)/\s'.rv=s.rv:=by
 unfold tg aI.rv;rw [h];exact⟨Iff.rfl,rfl⟩
theorem Vl (h:nZ c k s):((ba s M).2.1=3->s.aH=.dA)/\((ba s M).2.1=15->∃ck,s.aH=.cG ck)/\((ba s M).2.1=19->s.aH=.eA):=by
 have hpop:∀a:bh,kg a≠3/\kg a≠15/\kg a≠19:=λa=>by unfold kg;split<;>(try split)<;>decide
 have hpush:∀a:bh,gn a≠3/\gn a≠15/\gn a≠19:=λa=>by unfold gn;split<;>(try split)<;>decide
 have hd:=h.d;have oF:∀{x:Int} {P Q R:Prop},(x≠3/\x≠15/\x≠19)->(x=3->P)/\(x=15->Q)/\(x=19->R):=λh=>⟨λe=>absurd e h.1,λe=>absurd e h.2.1,λe=>absurd e h.2.2⟩;unfold ba;cases e:s.aH with
 | dA=>
   rw [e] at hd;obtain⟨h0,en,h1,_⟩:=hd;dsimp only;rw [h1];dsimp only [gK];refine⟨λ_=>rfl,λh=>?_,λh=>?_⟩;exfalso;revert h;split;exact(by show ¬(4:Int)=15;decide);dsimp only;split<;>decide;exfalso;revert h;split;exact(by show ¬(4:Int)=19;decide);dsimp only;split<;>decide
 | bj r u=>
   rw [e] at hd;have:=hd.2.1;refine oF ?_;show (dq s M r u).2.1≠3/\(dq s M r u).2.1≠15/\(dq s M r u).2.1≠19;have e9:(dq s M r u).2.1=5+r.cr:=by
    unfold dq;dsimp only;split;rfl;split;rfl;split<;>rfl
   omega
 | eP p=>exact oF (hpop _)
 | eC p=>exact oF (hpush _)
 | eg=>
   dsimp only;cases s.aP with
   | none=>exact oF (by show (0:Int)≠3/\(0:Int)≠15/\(0:Int)≠19;decide)
   | some l=>exact oF (by dsimp only [iy];split<;>decide)
 | cY=>
   dsimp only;cases s.aN with
   | none=>exact oF (by show (0:Int)≠3/\(0:Int)≠15/\(0:Int)≠19;decide)
   | some t=>exact oF (by dsimp only [ij];split<;>decide)
 | cG ck=>exact⟨λh=>absurd h (by show ¬(15:Int)=3;decide),λ_=>⟨ck,rfl⟩,λh=>absurd h (by show ¬(15:Int)=19;decide)⟩
 | eA=>exact⟨λh=>absurd h (by show ¬(19:Int)=3;decide),λh=>absurd h (by show ¬(19:Int)=15;decide),λ_=>rfl⟩
 | bM=>exact oF (by show (16:Int)≠3/\(16:Int)≠15/\(16:Int)≠19;decide)
 | dt w=>exact oF (by show (17:Int)≠3/\(17:Int)≠15/\(17:Int)≠19;decide)
 | bE w=>exact oF (by show (18:Int)≠3/\(18:Int)≠15/\(18:Int)≠19;decide)
 | bL=>exact oF (by show (0:Int)≠3/\(0:Int)≠15/\(0:Int)≠19;decide)
 | je l=>exact oF (by show (0:Int)≠3/\(0:Int)≠15/\(0:Int)≠19;decide)
 | eb=>exact oF (by show (20:Int)≠3/\(20:Int)≠15/\(20:Int)≠19;decide)
 | gq=>exact oF (by show (24:Int)≠3/\(24:Int)≠15/\(24:Int)≠19;decide)
theorem WT (h:nZ c k s) (hk:k<2^40) (hM:lK c nt k M) (e:s.aH=.dA) :
 (¬tg (ba s M).2.2.1/\(ba s M).2.1≠3/\OG (ba s M).2.2.1)\/((ba s M).2.1=3/\tg (ba s M).2.2.1/\(ba s M).1.eY=(ba s M).2.2.1.rv/\(ba s M).1.eY=kI M) \/
 ((ba s M).2.1≠3/\tg (ba s M).2.2.1/\tg s/\(ba s M).2.2.1.rv=s.rv):=by
 have hd:=h.d;rw [e] at hd;obtain⟨h0,en,h1,h2,h3,h4⟩:=hd;have hx:ba s M=gK s M en:=by unfold ba;rw [e];dsimp only;rw [h1]
 rw [hx];unfold gK gw;have hcell:dl M 3 0=true:=jT (by omega) (by omega) (by show (0:Int)<((M 2).length:Int);rw [hM.l2];decide);have Wm:(iL M 3 0).eY=kI M:=(sH hcell).1;have yw:=hM.gL;have yx:kI M=(M 2).getD 0 0:=rfl;by_cases a0:en.cr=0;left;rw [ay a0];dsimp only;rw [aw (by decide)];have e9:en.xH = -1/\gT.xH { en with cr:=1 } = -1:=by
  unfold gT.xH;rw [ay (by omega),ay (by show (1:Int)<=1;omega)];exact⟨rfl,rfl⟩
 refine⟨?_,?_,.inl e⟩;rintro ⟨e2,h5,h6⟩;have h5:=Option.some.inj h5;rw [<-h5] at h6;exact absurd h6 (by show ¬(2:Int)<=1;decide);dsimp only;rw [e9.1,e9.2,aw (by simp)];decide;rw [aw a0];by_cases a1:en.cr=1;right;left;rw [ay a1];dsimp only;rw [aw (by decide)];have e9:en.xH = -1/\gT.xH { en with cr:=2,aC:=(iL M 3 0).eY }=kI M:=by
  unfold gT.xH;rw [ay (by omega),aw (by show ¬(2:Int)<=1;omega)];dsimp only;rw [Wm];exact⟨rfl,af (by omega) (by omega)⟩
 refine⟨?_,⟨_,rfl,by show (2:Int)<=2;decide⟩,?_,Wm⟩;dsimp only;rw [e9.1,e9.2,ay (by omega)];show (iL M 3 0).eY=gT.xH { en with cr:=2,aC:=(iL M 3 0).eY };rw [e9.2,Wm];have a2:en.cr=2:=by omega
 right;right;rw [aw a1,ay a2];dsimp only;rw [ay rfl];refine⟨by show (4:Int)≠3;decide,⟨_,rfl,by show (2:Int)<=3;decide⟩,⟨en,h1,by omega⟩,?_⟩;unfold aI.rv;rw [h1];dsimp only;unfold gT.xH;rw [aw (by show ¬(3:Int)<=1;omega),aw (by omega)]
theorem Sn (h1:zL (ba s M).2.2.1=true) (h2:(ba s M).2.2.1.aF≠2):zL s=true:=by
 cases e:s.aH with
 | eb=>
   revert h1;unfold ba;rw [e];show zL (fH s)=true->_;unfold fH;split<;>(intro h;cases h)
 | eC p=>
   revert h1;unfold ba;rw [e];show zL (iD s M p).2.2.1=true->_;unfold iD;dsimp only;split;unfold fH;split<;>(intro h;cases h);intro h;cases h
 | gq=>
   exfalso;apply h2;unfold ba;rw [e]
 | _=>unfold zL;rw [e]
theorem TQ (e:∃ck,s.aH=.cG ck) (hM:lK c nt k M) (hv:∀o:Int,iX M o / 64<=kI M):(ba s M).1.eY / 64<=kI M:=by
 obtain⟨ck,e⟩:=e;have h0:=hM.gL;have h1:kI M=(M 2).getD 0 0:=rfl;unfold ba;rw [e];show (eD ck M).1.eY / 64<=_;have z:(0:Int) / 64<=kI M:=by omega
 unfold eD;split;exact z;show (iL M 2 _).eY / 64<=_;unfold iL eR;split;exact hv (ck.av.getD 0 0);exact z
theorem TP (e:∃ck,s.aH=.cG ck) (hM:lK c nt k M):0<=(ba s M).1.eY:=by
 obtain⟨ck,e⟩:=e;unfold ba;rw [e];show 0<=(eD ck M).1.eY;have z:(0:Int)<=0:=by decide
 unfold eD;split;exact z;show 0<=(iL M 2 _).eY;unfold iL eR;split;exact(hM.orc (ck.av.getD 0 0).toNat).1;exact z
theorem O5 (e:s.aH=.eA):zL (ba s M).2.2.1=false:=by
 unfold ba;rw [e];rfl
end
def lB (l:List dm) (th:Int):Nat->Int
 | 0=>-1
 | i+1=>if (l.getD i dm.zero).am=th/\(l.getD i dm.zero).fu=3 then (i:Int) else lB l th i
def jc (l:List dm) (th from_:Int):Nat->Bool
 | 0=>false
 | i+1=>(decide (from_<(i:Int)) && decide ((l.getD i dm.zero).am≠th) && decide ((l.getD i dm.zero).fu=19)) || jc l th from_ i
def KW (l:List dm) (i:Nat):Prop:=
 (l.getD i dm.zero).fu=15->(0<=(l.getD i dm.zero).lU.eY/\(l.getD i dm.zero).lU.eY / 64<=16777216)/\0<=lB l (l.getD i dm.zero).am i/\((l.getD (lB l (l.getD i dm.zero).am i).toNat dm.zero).lU.eY<(l.getD i dm.zero).lU.eY / 64->jc l (l.getD i dm.zero).am (lB l (l.getD i dm.zero).am i) i=true)
theorem rl {α:Type} {l r:List α} {d:α} {i:Nat} (h:i<l.length):(l++r).getD i d=l.getD i d:=by
 simp only [List.getD_eq_getElem?_getD];rw [List.getElem?_append_left h]
theorem vL {α:Type} {l:List α} {x d:α}:(l++[x]).getD l.length d=x:=by simp [List.getD_eq_getElem?_getD]
theorem zh (l r:List dm) (th:Int):∀i,i<=l.length->lB (l++r) th i=lB l th i
 | 0,_=>rfl
 | i+1,h=>by
   unfold lB;rw [rl (by omega),zh l r th i (by omega)]
theorem wg (l r:List dm) (th f:Int):∀i,i<=l.length->jc (l++r) th f i=jc l th f i
 | 0,_=>rfl
 | i+1,h=>by
   unfold jc;rw [rl (by omega),wg l r th f i (by omega)]
theorem FS (l:List dm) (th:Int):∀i,lB l th i<(i:Int)
 | 0=>by show (-1:Int)<0;decide
 | i+1=>by
   have:=FS l th i;unfold lB;split<;>omega
theorem Vs {l r:List dm} {i:Nat} (hi:i<l.length) (h:KW l i):KW (l++r) i:=by
 unfold KW;rw [rl hi,zh l r _ i (by omega),wg l r _ _ i (by omega)];have h1:=FS l (l.getD i dm.zero).am i;intro e;obtain⟨h0,h2,h3⟩:=h e;rw [rl (by omega)];exact⟨h0,h2,h3⟩
structure SnK (m:rW) (i:Nat) (s:aI):Prop where
 has:OG s
 cr:tg s->∃k:Nat,k<m.bu.length/\lB m.bu i m.bu.length=(k:Int)/\(m.bu.getD k dm.zero).lU.eY=s.rv/\s.rv<=kI m.M/\(zL s=true->s.rv<kI m.M->jc m.bu i k m.bu.length=true)
structure OK (m:rW):Prop where
 sn:∀(i:Nat) (t:aU) (s:aI),m.fN[i]? = some t->t.fR=some s->SnK m i s
 vp:(∀(i:Nat) (t:aU) (s:aI),m.fN[i]? = some t->t.fR=some s->lz s=false)->∀o:Int,iX m.M o / 64<=kI m.M
 ok:∀i,i<m.bu.length->KW m.bu i
theorem Gu {l:List dm} {st:dm} {j:Int} (h:st.am≠j\/st.fu≠3):lB (l++[st]) j (l++[st]).length=lB l j l.length:=by
 rw [List.length_append,List.length_singleton];rw [show lB (l++[st]) j (l.length+1)=if ((l++[st]).getD l.length dm.zero).am=j/\((l++[st]).getD l.length dm.zero).fu=3 then (l.length:Int) else lB (l++[st]) j l.length from rfl];rw [vL,aw (λe=>by rcases h with h|h;exact h e.1;exact h e.2),zh l _ _ _ (Nat.le_refl _)]
theorem Dv {l:List dm} {st:dm} {j f:Int} (h:jc l j f l.length=true):jc (l++[st]) j f (l++[st]).length=true:=by
 rw [List.length_append,List.length_singleton];show jc (l++[st]) j f (l.length+1)=_;unfold jc;rw [wg l _ _ _ _ (Nat.le_refl _),h,Bool.or_true]
theorem Py {l:List dm} {st:dm} {j:Int} {f:Nat} (h:st.am≠j) (h2:st.fu=19) (hf:f<l.length):jc (l++[st]) j f (l++[st]).length=true:=by
 rw [List.length_append,List.length_singleton];show jc (l++[st]) j f (l.length+1)=_;unfold jc;rw [vL,decide_eq_true (by omega),decide_eq_true h,decide_eq_true h2];rfl
theorem SnK.iM {m m':rW} {st:dm} {j:Nat} {r:aI} (h:SnK m j r) (dw:m'.bu=m.bu++[st]) (yw:kI m.M<=kI m'.M) (hn:st.fu≠19->kI m'.M=kI m.M) (hj:st.am≠(j:Int)):SnK m' j r:=by
 refine⟨h.has,λe=>?_⟩;obtain⟨k,h1,h2,h3,h4,h5⟩:=h.cr e;rw [dw];refine⟨k,by rw [List.length_append];omega,by rw [Gu (.inl hj)];exact h2,by rw [rl h1];exact h3,by omega,λe1 e2=>?_⟩;by_cases h19:st.fu=19;exact Py hj h19 h1;rw [hn h19] at e2;exact Dv (h5 e1 e2)
theorem SnK.UW {m m':rW} {st:dm} {j:Nat} {r r':aI} (h:SnK m j r) (dw:m'.bu=m.bu++[st]) (hp:st.fu≠3) (yw:kI m.M<=kI m'.M) (hent:r'.bT=r.bT) (hh:OG r') (hu:zL r'=true->zL r=true/\kI m'.M=kI m.M):SnK m' j r':=by
 obtain⟨g1,g2⟩:=vK hent;refine⟨hh,λe=>?_⟩;obtain⟨k,h1,h2,h3,h4,h5⟩:=h.cr (g1.1 e);rw [dw,g2];refine⟨k,by rw [List.length_append];omega,by rw [Gu (.inr hp)];exact h2,by rw [rl h1];exact h3,by omega,λe1 e2=>?_⟩;obtain⟨u1,u2⟩:=hu e1;rw [u2] at e2;exact Dv (h5 u1 e2)
theorem cm_step {c:aY} {nt k:Nat} {m m':rW} {i:Nat} {t t':aU} {st:dm} (hc:da c) (hk:k<2^24) (h:EJ c nt k m) (h':EJ c nt (k+1) m') (hR:OK m) (hi:m.fN[i]? = some t) (Dx:m'.fN=m.fN.set i t') (dw:m'.bu=m.bu++[st]) (hS:Me c k m i t st t' m'.M):OK m':=by
 have bY:i<m.fN.length:=(List.getElem?_eq_some_iff.1 hi).1;have NI:=hS.th;have RS:=hS.ck;have hg:∀(j:Nat) (u:aU),m'.fN[j]? = some u->(j=i/\u=t')\/(j≠i/\m.fN[j]? = some u):=by
  intro j u hu;rw [Dx] at hu;by_cases hj:j=i;subst hj;rw [List.getElem?_set_self bY] at hu;exact .inl ⟨rfl,(Option.some.inj hu).symm⟩;rw [List.getElem?_set_ne (Ne.symm hj)] at hu;exact .inr ⟨hj,hu⟩
 have ri:∀(j:Nat) (u:aU),j≠i->m.fN[j]? = some u->m'.fN[j]? = some u:=λj u hj hu=>by rw [Dx,List.getElem?_set_ne (Ne.symm hj)];exact hu
 have hoks:(st.fu=15->KW (m.bu++[st]) m.bu.length)->∀j,j<m'.bu.length->KW m'.bu j:=by
  intro h1 j hj;rw [dw] at hj ⊢;rw [List.length_append,List.length_singleton] at hj;rcases Nat.lt_or_ge j m.bu.length with h2|h2;exact Vs h2 (hR.ok j h2);have:j=m.bu.length:=by omega
  subst this;by_cases h3:st.fu=15;exact h1 h3;intro e;rw [vL] at e;exact absurd e h3
 have sT:t'.fR=t.fR->st.fu≠3->st.fu≠15->m'.M 1=m.M 1->m'.M 2=m.M 2->OK m':=by
  intro ha h3 h15 e1 e2;have eck:kI m'.M=kI m.M:=rJ e2;have dO:∀(j:Nat) (u:aU) (s:aI),m'.fN[j]? = some u->u.fR=some s->∃u0,m.fN[j]? = some u0/\u0.fR=some s:=by
   intro j u s hu hs;rcases hg j u hu with ⟨rfl,rfl⟩|⟨hj,hu⟩;exact⟨t,hi,ha▸hs⟩;exact⟨u,hu,hs⟩
  refine⟨λj u s hu hs=>?_,λhn o=>?_,hoks λe=>absurd e h15⟩;obtain⟨u0,g1,g2⟩:=dO j u s hu hs;have g3:=hR.sn j u0 s g1 g2;exact g3.UW dw h3 RS rfl g3.has λe=>⟨e,eck⟩;have:∀(j:Nat) (u:aU) (s:aI),m.fN[j]? = some u->u.fR=some s->lz s=false:=by
   intro j u s hu hs;by_cases hj:j=i;subst hj;rw [hi] at hu;have hu:=Option.some.inj hu;subst hu;exact hn j t' s (by rw [Dx,List.getElem?_set_self bY]) (ha.trans hs);exact hn j u s (ri j u hj hu) hs
  have:=hR.vp this o;rw [eck];unfold iX at this ⊢;rw [e1];exact this
 have hC:=hS.cs;revert hC;generalize tM:m'.M=M';intro hC;cases hC with
 | je h1 h2 h3=>exact sT h3 (by omega) (by omega) (by rw [tM]) (by rw [tM])
 | load a h1 h2 h3 h4 h5 h6=>exact sT (h2.trans h1.symm) (by omega) (by omega) (by rw [tM]) (by rw [tM])
 | store a v h1 h2 h3 h4 h5 h6=>exact sT (h2.trans h1.symm) (by omega) (by omega) (by rw [tM];exact gz (by decide)) (by rw [tM];exact gz (by decide))
 | ee h1 h2 h3=>exact sT (h2.trans h1.symm) (by rcases h3 with h3|h3<;>omega) (by rcases h3 with h3|h3<;>omega) (by rw [tM]) (by rw [tM])
 | dY p h1 h2 h3 h4 h5=>
   have hl:=Dp p m.M;have hp:=KR (dR p m.M).1;exact sT (h2.trans h1.symm) (by omega) (by omega) (by rw [tM];exact hl.2.1) (by rw [tM];exact hl.2.2.1)
 | fR s hO hst1 EY RL hac nV=>
   have hk2:k<2^40:=(by omega);have hpre:sx c s m.M/\Md s/\OG s/\(∀s',s'.bT=s.bT->OG s'->st.fu≠3->(zL s'=true->zL s=true/\kI m'.M=kI m.M)->tg s'->SnK m' i s')/\(nR s=true->t.fR=some s)/\((∀s0,t.fR=some s0->lz s0=false)->lz s=false)/\(tg s->∃k:Nat,k<m.bu.length/\lB m.bu i m.bu.length=(k:Int)/\(m.bu.getD k dm.zero).lU.eY=s.rv/\s.rv<=kI m.M/\(zL s=true->s.rv<kI m.M->jc m.bu i k m.bu.length=true)):=by
    rcases EY with e|⟨s0,e,e1,e2,e3⟩|⟨e,e1⟩;obtain⟨a1,a2,a3,a4⟩:=h.ti i t s hi e;have g:=hR.sn i t s hi e;exact⟨a3,a4,g.has,λs' q1 q2 q3 q4 _=>g.UW dw q3 RS q1 q2 q4,λ_=>e,λq=>q s e,g.cr⟩;obtain⟨a1,a2,a3,a4⟩:=h.ti i t s0 hi e;have g:=hR.sn i t s0 hi e;obtain⟨g1,g2⟩:=vK e3.bT;have hu0:zL s0=true:=(by unfold zL;rw [e1]);have Mq:tg s0:=by
     rcases g.has with q|q;rw [e1] at q;cases q;exact q
    refine⟨e3.q.tinv (e3.c2.lg hO.b.cf),.off e3.q.d,.inr (g1.2 Mq),λs' q1 q2 q3 q4 _=>g.UW dw q3 RS (q1.trans e3.bT) q2 λq=>⟨hu0,(q4 q).2⟩,λe4=>(by rw [e3.q.d] at e4;cases e4),λ_=>e3.q.c,λq=>?_⟩;obtain⟨kk,b1,b2,b3,b4,b5⟩:=g.cr Mq;exact⟨kk,b1,b2,by rw [g2];exact b3,by rw [g2];exact b4,λ_ q2=>b5 hu0 (by rw [g2] at q2;exact q2)⟩;obtain⟨b1,b2⟩:=Et t;rw [<-e1] at b1 b2;have b3:s.aH=.dA/\s.bT=some ⟨t.id,0,0⟩:=by
     rw [e1];have hn:(fh t.cf t.id).ga 0=true:=rfl;unfold gv;rw [ay hn];exact⟨rfl,rfl⟩
    have b4:¬tg s:=by
     rintro ⟨q,q1,q2⟩;rw [b3.2] at q1;have q1:=Option.some.inj q1;rw [<-q1] at q2;exact absurd q2 (by show ¬(2:Int)<=0;decide)
    refine⟨b1.tinv (by unfold GD;rw [b3.1];trivial),.off b1.d,.inl b3.1,λs' q1 _ _ _ q5=>absurd ((vK q1).1.1 q5) b4,λe4=>(by rw [b1.d] at e4;cases e4),λ_=>b1.c,λq=>absurd q b4⟩
   obtain⟨p2,p3,p4,p5,p6,p7,p8⟩:=hpre;obtain⟨d1,d2,d3⟩:=Vl (M:=m.M) hO;have hckn:st.fu≠19->kI m'.M=kI m.M:=λe=>by rw [tM];exact MP hO (by rw [<-RL];exact e)
   have V2:∀s':aI,t'.fR=some s'->s'=(ba s m.M).2.2.1/\s'.aF=1:=by
    intro s' e;have e9:m'.fN[i]? = some t':=(by rw [Dx,List.getElem?_set_self bY]);have Uv:s'.aF=1:=by
     obtain⟨g1,_⟩:=(h'.ok.T t' (List.mem_of_getElem? e9)).1.Aj s' e;split at g1;exact g1.st;exact g1.st
    rcases nV with nV|⟨nV,_⟩;rw [nV] at e;exact⟨(Option.some.inj e).symm,Uv⟩;rw [nV] at e;cases e
   have self:∀s':aI,t'.fR=some s'->SnK m' i s':=by
    intro s' e;obtain⟨rfl,Uv⟩:=V2 s' e;by_cases hen:s.aH=.dA;rcases WT hO hk2 h.ok.M hen with ⟨q1,q2,q3⟩|⟨q1,q2,q3,q4⟩|⟨q1,q2,q3,q4⟩;exact⟨q3,λq=>absurd q q1⟩;refine⟨.inr q2,λ_=>⟨m.bu.length,?_⟩⟩;have q5:=hckn (by rw [RL,q1];decide);rw [dw];refine⟨by rw [List.length_append,List.length_singleton];omega,?_,by rw [vL,hac];exact q3,by rw [q5,<-q4,q3];exact Int.le_refl _,λ_ q6=>?_⟩;rw [List.length_append,List.length_singleton];show lB (m.bu++[st]) i (m.bu.length+1)=_;unfold lB;rw [vL,ay ⟨NI,RL.trans q1⟩];rw [q5,<-q4,q3] at q6;omega;refine⟨.inr q2,λ_=>?_⟩;obtain⟨kk,b1,b2,b3,b4,b5⟩:=p8 q3;have q5:=hckn (by rw [RL];intro e9;have:=d3 e9;rw [hen] at this;cases this);rw [dw,q4];refine⟨kk,by rw [List.length_append];omega,by rw [Gu (.inr (by rw [RL];exact q1))];exact b2,by rw [rl b1];exact b3,by omega,λ_ e2=>?_⟩;rw [q5] at e2;exact Dv (b5 (by unfold zL;rw [hen]) e2);have e3:=Oo s m.M hen
    have q3:st.fu≠3:=(by rw [RL];exact λe9=>hen (d1 e9));have q4:tg s:=by
     rcases p4 with q|q;exact absurd q hen;exact q
    refine p5 _ e3 (.inr ((vK e3).1.2 q4)) q3 (λq=>⟨Sn q (by omega),hckn λe9=>?_⟩) ((vK e3).1.2 q4);rw [RL] at e9;rw [O5 (d3 e9)] at q;cases q
   refine⟨λj u r hu hr=>?_,λhn o=>?_,hoks λe15=>?_⟩;rcases hg j u hu with ⟨rfl,rfl⟩|⟨hj,hu⟩;exact self r hr;exact(hR.sn j u r hu hr).iM dw RS hckn (by rw [NI];intro e;exact hj (by omega));have hVP:VerP s m.M:=by
    by_cases hcs:lz s=true;exact .inl hcs;right;refine hR.vp λj u r hu hr=>?_;by_cases hj:j=i
    . subst hj;rw [hi] at hu;have hu:=Option.some.inj hu;subst hu;cases hcr:lz r with
      | false=>rfl
      | true=>
        have e4:t.fR=some s\/s=r\/r.aH=.bL:=by
         rcases EY with e|⟨s0,e,e1,_⟩|⟨e,_⟩;exact .inl e;rw [e] at hr;exact .inr (.inr (Option.some.inj hr▸e1));rw [e] at hr;cases hr
        rcases e4 with e4|e4|e4;rw [e4] at hr;rw [Option.some.inj hr] at hcs;exact absurd hcr hcs;rw [e4] at hcs;exact absurd hcr hcs;unfold lz at hcr;rw [e4] at hcr;cases hcr
    exact hn j u r (ri j u hj hu) hr
   rcases step_vp hc hk2 hO h.ok.M p2 p3 h.oX hVP with e4|e4;exfalso;rcases nV with nV|⟨_,_,nV⟩;rw [hn i t' _ (by rw [Dx,List.getElem?_set_self bY]) nV] at e4;cases e4;unfold lz at e4;rw [nV] at e4;cases e4;rw [tM];exact e4 o;obtain⟨ck,e16⟩:=d2 (RL▸e15);have mo:nR s=true:=(by unfold nR;rw [e16]);have V0:=p6 mo;have hcs:lz s=false:=(by unfold lz;rw [e16]);have kU:∀o:Int,iX m.M o / 64<=kI m.M:=hR.vp λj u r hu hr=>by
    cases hcr:lz r with
    | false=>rfl
    | true=>
      have e5:=h.aM hi hu V0 hr mo (W2 hcr);subst e5;rw [hi] at hu;have hu:=Option.some.inj hu;subst hu;rw [V0] at hr;rw [<-Option.some.inj hr,hcs] at hcr;cases hcr
   have EW:=TQ ⟨ck,e16⟩ h.ok.M kU;have tK:=TP ⟨ck,e16⟩ h.ok.M;have hclk:kI m.M<=k:=h.ok.M.gL.2;rw [<-hac] at EW tK;have hsn:tg s:=by
    rcases p4 with q|q;rw [e16] at q;cases q;exact q
   obtain⟨kk,b1,b2,b3,b4,b5⟩:=p8 hsn;intro _;rw [vL,NI,zh m.bu _ _ _ (Nat.le_refl _),b2,wg m.bu _ _ _ _ (Nat.le_refl _)];refine⟨⟨tK,by omega⟩,by omega,λe6=>b5 (by unfold zL;rw [e16]) ?_⟩;rw [show ((kk:Int)).toNat=kk by omega,rl b1,b3] at e6;omega
theorem cm_law {ez:Int->Int->Int->Int} (hA:xN ez) {c:aY} (tL:nT c) {zs:List Int} {ps:List (List bq)} (hz:(zs.length:Int)=c.bg) (hn:ps.length<=16) (lp:∀i (hi:i<ps.length),(c8 ps[i]).2=0) (rj:∀p∈ps,DY p) (pk:List Int) (hk:pk.length<2^24) :
 ∀i,i<(om ez (ng c zs ps) pk).bu.length->KW (om ez (ng c zs ps) pk).bu i:=by
 have h0:=RC tL hz hn lp rj;have hR0:OK (ng c zs ps):=by
  refine⟨λi t s hi hs=>(by rw [Pz hi] at hs;cases hs),λ_ o=>?_,λi hi=>(by cases hi)⟩;have h1:iX (ng c zs ps).M o=0:=by
   show (List.replicate c.av.toNat (0:Int)).getD o.toNat 0=0;rw [List.getD_eq_getElem?_getD,List.getElem?_replicate];split<;>rfl
  rw [h1];show (0:Int) / 64<=0;decide
 obtain⟨_,s,_,h1⟩:=Rd hA tL.ok (Rel:=λm (_:Unit)=>OK m) (f:=λ_ _=>some ()) (s0:=()) h0 rfl hR0 (λk m m' s i t st t' hk h h' hR hi Dx dw hS=>⟨(),rfl,cm_step tL.ok hk h h' hR hi Dx dw hS⟩) pk hk;exact h1.ok
end
end Go.Stx
