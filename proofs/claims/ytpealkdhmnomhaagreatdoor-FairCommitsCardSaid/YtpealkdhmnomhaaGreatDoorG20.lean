/-
 A step of either attempt, out of what always holds.
-/
import Derived.Test.YtpealkdhmnomhaaGreatDoorG19
import Derived.Test.YtpealkdhmnomhaaGreatDoorG18
set_option linter.unusedVariables false
set_option linter.unusedSimpArgs false
set_option linter.unusedSectionVars false
set_option maxRecDepth 20000
set_option maxHeartbeats 4000000
open Go.IntKind renaming u64->q8
open Int renaming le_refl->Zw
open List renaming eq_nil_of_length_eq_zero->ZP,getD_eq_getElem?_getD->Za,getElem?_append_left->kaf,getElem?_eq_getElem->q9,getElem?_eq_none->Zx,getElem?_replicate_of_lt->kbT,length_append->Zc,length_replicate->kbe,length_singleton->kaw,nodup_nil->kaO,replicate->qX
open Bool renaming false->qk,true->qg
open Option renaming none->qh,some->qc
open Or renaming inl->qq,inr->qt
namespace Go.Stx
open Go Go.Proofs
attribute [local irreducible] cM aV aB aL cU dh
section
variable [Gl]
theorem Gs:∀(n:Nat) (l:List Int),l.Nodup->(∀a∈l,0<=a/\a<(n:Int))->l.length<=n
 | 0,l,_,h=>by
   cases l with
   | nil=>simp
   | cons a t=>have:=h a Yb;omega
 | n+1,l,hn,h=>by
   have h1:=Gs n (l.erase (n:Int)) (hn.erase _) λa ha=>by
    have h2:=(List.Nodup.mem_erase_iff hn).1 ha;have h3:=h a h2.2;have h4:=h2.1;omega
   rw [List.length_erase] at h1;split at h1<;>omega
variable {c:aY} {nt k:Nat} {M:Mm} {s:aI}
theorem jX.attC (hc:da c) (h:jX c k s):iu s:=by
 have rH:=h.cf;have ES:=hc.nb;have hw:=hc.bg;refine⟨rH▸hc,?_,h.bG,?_,h.cg,?_,?_,?_,h.push,rH▸h.set,?_,?_⟩;have:=h.Mn;omega;have:=h.eV;have:=hc.bU;omega;intro a ha;have:=h.Ka a ha;omega;intro a ha;have:=h.Uw a ha;omega;have:=h.oO;have:=hc.ar;omega;have:=Gs c.bg.toNat s.reads h.rnd λa ha=>by have:=h.rrg a ha;omega
 omega;have:=h.E1;have:=hc.aA;omega
theorem jX.iJ (hc:da c) (h:jX c k s):s.reads.length<=64:=by
 have hw:=hc.bg;have:=Gs c.bg.toNat s.reads h.rnd λa ha=>by have:=h.rrg a ha;omega
 omega
theorem xq.orOk (h:xq k s) (ho:s.av.length<=64):OrOk s:=by
 refine⟨by omega,?_⟩;rcases h with h|⟨l,h1,h2,h3,h4,h5⟩;left;rw [h.1];rfl;right;exact⟨l,h1,h3.symm⟩
theorem nZ.stepOk (hc:da c) (h:nZ c k s) (hM:lK c nt k M):Mf s M:=by
 have hb:=h.b;have hC:=hb.attC hc;have rH:=hb.cf;have hd:=h.d;refine⟨hC,?_⟩;have ho:=hb.orl;cases e:s.aH with
 | bL=>trivial
 | je l=>
   rw [e] at hd;cases l with
   | mI a v=>exact hd.2
   | dy b v=>show 0<=b/\b<s.cf.nb;rw [rH];exact hd.2
   | _=>trivial
 | dA=>
   rw [e] at hd;obtain⟨h0,en,h1,h2⟩:=hd;exact⟨en,h1⟩
 | bj r u=>
   rw [e] at hd;obtain⟨h0,h1,h2,h3,h4,h5,h6⟩:=hd;refine⟨by have:=hb.iJ hc;omega,h1,rH▸h2,?_⟩;cases u with
   | take=>trivial
   | dy b=>show 0<=b/\b<s.cf.nb;rw [rH];exact h4
 | eP p=>
   rw [e] at hd;obtain⟨h0,h1,h2,h3,h4,h5,h6,h7⟩:=hd;refine⟨?_,h2,?_⟩;have:=hc.ar;omega;rw [rH];exact SQ p h6 hc h3 h5
 | eg=>
   rw [e] at hd;obtain⟨h0,Mu,l,h1,h2,h3,h4,h5⟩:=hd;exact⟨l,h1,by omega,by rw [h2];omega⟩
 | cY=>
   rw [e] at hd;obtain⟨h0,hl,t,h1,h2,h3⟩:=hd;exact⟨t,h1⟩
 | cG ck=>
   rw [e] at hd;exact hd.2.1.1.orOk ho
 | bM=>
   rw [e] at hd;exact hd.2.1.1.orOk ho
 | dt w=>
   rw [e] at hd;obtain⟨_,_,_,_,q,h1,h2⟩:=hd;have:=hb.bG.PN;refine⟨by rw [h2];simp only [List.length_drop];omega,by omega⟩
 | bE w=>
   rw [e] at hd;obtain⟨_,_,hl,_,q,h1,h2⟩:=hd;show w.os.length=w.ws.length;rw [h2];have:(vy s).length=s.av.length:=by
    unfold vy;split;simp;rcases hl with hl|⟨l,h3,h4,h5,h6,h7⟩;rw [hl.1] at h1;simp at h1;unfold aI.ey;rw [h3];exact h5
   simp only [List.length_drop];omega
 | eA=>trivial
 | eb=>
   rw [e] at hd;exact hd.2
 | eC p=>
   rw [e] at hd;exact hd.2.1
 | gq=>trivial
end
section
variable [Gl]
theorem Jk {n:Int} (h:0<=n/\n<65535):ka (n+1)=n:=by
 rw [Kj Ya];omega
theorem SE {c:aY} (hF:nT c) (nt:Nat) {zs:List Int} (hz:(zs.length:Int)=c.bg):lK c nt 0 (mO c nt zs):=by
 have ES:=ta hF.ok;have ho:=hF.ok.av;have h0:=hF.c0;have h1:=hF.c1;have h2:=hF.c2;have h3:=hF.c3;have hnbe:c.nb=c.c0+c.c1+c.c2+c.c3:=rfl;refine⟨?_,?_,rfl,rfl,rfl,?_,rfl,zD hF,?_,?_,?_,?_,?_⟩;show ((zs++qX c.nb.toNat 0).length:Int)=_;simp only [Zc,kbe];omega;show ((qX c.av.toNat (0:Int)).length:Int)=_;simp only [kbe];omega;show (qX nt (0:Int)).length=nt;simp;intro i;show kY c i ((lq c.c0 c.c1).getD i 0);by_cases hi:i<4;rw [Za,JN hF i hi];show kY c i (if 0<Bs c i then tH c i+1 else 0);split;rename_i hp;have hr:=Om hF i;refine⟨by omega,?_,λ_=>?_⟩;rw [Jk Ya];have:i=0\/i=1\/i=2\/i=3:=Ya
 rcases this with rfl|rfl|rfl|rfl<;>simp only [Bs,tH] at hp ⊢<;>omega;rw [Jk Ya];have:i=0\/i=1\/i=2\/i=3:=Ya
 rcases this with rfl|rfl|rfl|rfl<;>simp only [Bs,tH] at hp ⊢<;>unfold dN Bf;rw [aw Ya,ay Ya];rfl;rw [aw Ya,aw Ya,ay Ya];rfl;omega;omega;exact kY.zero hF.ok _;rw [Za,Zx (by simp [lq];omega)];exact kY.zero hF.ok _;intro b;show pG c (dN c b) ((j8 c.c0 c.c1).getD b 0);by_cases hb:(b:Int)<c.nb;rw [Za,Ni hF b hb];show pG c (dN c b) (if (b:Int)+1<c.nb/\dN c (b+1)=dN c b then (b:Int)+2 else 0);split;rename_i h;refine⟨by omega,by omega,λ_=>?_⟩;rw [show (b:Int)+2-1=b+1 by omega];exact h.2;exact pG.zero hF.ok _;have:=zD hF;rw [Za,Zx Ya];exact pG.zero hF.ok _;show (0:Int)<=0/\(0:Int)<=((0:Nat):Int);omega;show (0:Int)<=0/\(0:Int)<=((0:Nat):Int);omega;intro i;show lx 0 ((qX c.av.toNat (0:Int)).getD i 0);rw [Za];by_cases hi:i<c.av.toNat
 rw [kbT hi];exact lx.zero 0;rw [Zx Yg];exact lx.zero 0
theorem uM (s:aI):(fH s).aF=s.aF:=by unfold fH;split<;>rfl
theorem nI (s:aI) (aD:Int):(kE s aD).aF=s.aF:=uM _
theorem tr (s:aI) (aD:Int):(nE s aD).aF=s.aF:=by unfold nE;split<;>rfl
theorem sV (s:aI):(fO s).aF=s.aF:=by unfold fO;split<;>rfl
theorem mj (s:aI) (a v:Int):(jS s a v).2.aF=s.aF:=by
 unfold jS;split;rfl;exact nI s 3
theorem CC (s:aI) (b st:Int):(jF s b st).aF=s.aF:=by
 unfold jF;split;exact tr s 8;split;exact nI s 3;split;exact mj s _ 0;exact mj s _ 0
theorem wa:∀(n:Nat) (a:Int) (s:aI),(gt n a s).2.aF=s.aF
 | 0,_,_=>rfl
 | n+1,a,s=>by
   unfold gt;split;rw [wa n];exact mj s a 0;exact mj s a 0
theorem DR (s:aI) (eZ jz:Int):(fq s eZ jz).aF=s.aF:=by
 unfold fq;split;exact nI s 4;dsimp only;split;split;show (gt _ _ _).2.aF=_;rw [wa];exact mj { s with ar:=s.ar++[jz] } _ _;rw [wa];exact mj { s with ar:=s.ar++[jz] } _ _;exact mj { s with ar:=s.ar++[jz] } _ _
theorem PI (s:aI) (l:E4):(sh s l).aF=s.aF:=by
 cases l with
 | mI a v=>
   unfold sh;dsimp only;split;exact tr s 7;exact mj s a v
 | uY=>exact tr s 7
 | QF=>exact tr s 8
 | bX aD=>exact tr s aD
 | take v=>rfl
 | Bl=>exact nI s 3
 | dy b v=>exact CC s b v
theorem OW (s:aI) (v:Int) (u:Ac):(AL s v u).aF=s.aF:=by
 cases u with
 | take=>rfl
 | dy b=>exact CC s b v
theorem AD (s:aI) (M:Mm):(ba s M).2.2.1.aF=(match s.aH with | .gq=>2|_=>s.aF):=by
 unfold ba;cases hd:s.aH with
 | gq=>rfl
 | bL=>rfl
 | je k=>exact PI _ k
 | dA=>
   dsimp only;cases s.bT with
   | none=>rfl
   | some e=>
     dsimp only [gK];split<;>rfl
 | bj r u=>
   show (dq s M r u).2.2.1.aF=s.aF;unfold dq;dsimp only;split;rfl;split;exact nI _ 9;split;dsimp only;rw [OW];split<;>rfl;dsimp only;rw [nI];split<;>rfl
 | eP p=>
   show (lD s M p).2.2.1.aF=s.aF;unfold lD;dsimp only;split;rw [DR];rfl
 | eg=>
   dsimp only;cases s.aP with
   | none=>rfl
   | some l=>
     dsimp only [iy];split<;>rfl
 | cY=>
   dsimp only;cases s.aN with
   | none=>rfl
   | some t=>
     dsimp only [ij];split<;>rfl
 | cG ck=>
   show (gr s M ck).2.2.1.aF=s.aF;unfold gr;dsimp only;split;rw [sV];split<;>rfl
 | bM=>
   show (fm s M).2.2.1.aF=s.aF;unfold fm;dsimp only;split;rw [sV];split;rfl;rw [sV]
 | dt w=>
   show (go s M w).2.2.1.aF=s.aF;unfold go;dsimp only;split<;>rfl
 | bE w=>rfl
 | eA=>rfl
 | eb=>exact uM s
 | eC p=>
   show (iD s M p).2.2.1.aF=s.aF;unfold iD;dsimp only;split;rw [uM];rfl
theorem N7 {s:aI} (h:s.ga 1=qg):s.aF=1:=by
 unfold aI.ga at h;simp at h;exact h.2
theorem LH (s:aI) (aD:Int):(E2 s aD).2=s\/(E2 s aD).2.aF=1:=by
 unfold E2;split;rename_i hf;have:=N7 hf;split<;>simp [this];exact qq rfl
theorem Q6 (s:aI) (a v:Int):(H9 s a v).2=s\/(H9 s a v).2.aF=1:=by
 unfold H9;split;rename_i hf;have:=N7 hf;simp [this];exact qq rfl
theorem Rg (s:aI) (a:Int):(Jz s a).2=s\/(Jz s a).2.aF=1:=by
 unfold Jz;split;rename_i hf;have:=N7 hf;split;simp [this];split<;>simp [this,wi];exact qq rfl
theorem alS_req (s:aI) (a:Int):(OC s a).2=s\/(OC s a).2.aF=1:=by
 unfold OC;split;rename_i hf;have:=N7 hf;split;simp;split<;>simp [this];exact qq rfl
theorem frS_req (s:aI) (a:Int):(N8 s a).2=s\/(N8 s a).2.aF=1:=by
 unfold N8;split;rename_i hf;have:=N7 hf;split;simp [this];split<;>simp [this,wi];exact qq rfl
end
section
variable [Gl]
theorem tm (s:aI):(fH s).am=s.am:=by unfold fH;split<;>rfl
theorem mA (s:aI) (aD:Int):(kE s aD).am=s.am:=tm _
theorem rn (s:aI) (aD:Int):(nE s aD).am=s.am:=by unfold nE;split<;>rfl
theorem rE (s:aI):(fO s).am=s.am:=by unfold fO;split<;>rfl
theorem lc (s:aI) (a v:Int):(jS s a v).2.am=s.am:=by
 unfold jS;split;rfl;exact mA s 3
theorem Aw (s:aI) (b st:Int):(jF s b st).am=s.am:=by
 unfold jF;split;exact rn s 8;split;exact mA s 3;split;exact lc s _ 0;exact lc s _ 0
theorem ux:∀(n:Nat) (a:Int) (s:aI),(gt n a s).2.am=s.am
 | 0,_,_=>rfl
 | n+1,a,s=>by
   unfold gt;split;rw [ux n];exact lc s a 0;exact lc s a 0
theorem CU (s:aI) (eZ jz:Int):(fq s eZ jz).am=s.am:=by
 unfold fq;split;exact mA s 4;dsimp only;split;split;show (gt _ _ _).2.am=_;rw [ux];exact lc { s with ar:=s.ar++[jz] } _ _;rw [ux];exact lc { s with ar:=s.ar++[jz] } _ _;exact lc { s with ar:=s.ar++[jz] } _ _
theorem NA (s:aI) (l:E4):(sh s l).am=s.am:=by
 cases l with
 | mI a v=>
   unfold sh;dsimp only;split;exact rn s 7;exact lc s a v
 | uY=>exact rn s 7
 | QF=>exact rn s 8
 | bX aD=>exact rn s aD
 | take v=>rfl
 | Bl=>exact mA s 3
 | dy b v=>exact Aw s b v
theorem ME (s:aI) (v:Int) (u:Ac):(AL s v u).am=s.am:=by
 cases u with
 | take=>rfl
 | dy b=>exact Aw s b v
theorem HB (s:aI) (M:Mm):(ba s M).2.2.1.am=s.am:=by
 unfold ba;cases hd:s.aH with
 | gq=>rfl
 | bL=>rfl
 | je k=>exact NA _ k
 | dA=>
   dsimp only;cases s.bT with
   | none=>rfl
   | some e=>
     dsimp only [gK];split<;>rfl
 | bj r u=>
   show (dq s M r u).2.2.1.am=s.am;unfold dq;dsimp only;split;rfl;split;exact mA _ 9;split;dsimp only;rw [ME];split<;>rfl;dsimp only;rw [mA];split<;>rfl
 | eP p=>
   show (lD s M p).2.2.1.am=s.am;unfold lD;dsimp only;split;rw [CU];rfl
 | eg=>
   dsimp only;cases s.aP with
   | none=>rfl
   | some l=>
     dsimp only [iy];split<;>rfl
 | cY=>
   dsimp only;cases s.aN with
   | none=>rfl
   | some t=>
     dsimp only [ij];split<;>rfl
 | cG ck=>
   show (gr s M ck).2.2.1.am=s.am;unfold gr;dsimp only;split;rw [rE];split<;>rfl
 | bM=>
   show (fm s M).2.2.1.am=s.am;unfold fm;dsimp only;split;rw [rE];split;rfl;rw [rE]
 | dt w=>
   show (go s M w).2.2.1.am=s.am;unfold go;dsimp only;split<;>rfl
 | bE w=>rfl
 | eA=>rfl
 | eb=>exact tm s
 | eC p=>
   show (iD s M p).2.2.1.am=s.am;unfold iD;dsimp only;split;rw [tm];rfl
def xu (M:Mm):Int:=(M 3).getD 0 0
def xO (M:Mm):Int:=(M 4).getD 0 0
theorem gz {M:Mm} {cell cg:Int} {g:Int->Int×Bool} {k:Nat} (h:k≠(cell-1).toNat):kL M cell cg g k=M k:=by
 unfold kL;split;unfold setRow;rw [aw h];rfl
theorem jT {M:Mm} {cell cg:Int} (h:1<=cell/\cell<=8) (h0:0<=cg) (h1:cg<(M (cell-1).toNat).length):dl M cell cg=qg:=by
 unfold dl eQ;rw [ay h];exact decide_eq_true ⟨h0,h1⟩
theorem wF {M:Mm} {cell cg:Int} {g:Int->Int×Bool} (h:dl M cell cg=qg) (hg:(g ((eQ M cell).getD cg.toNat 0)).2=qg):kL M cell cg g (cell-1).toNat=(M (cell-1).toNat).set cg.toNat (g ((eQ M cell).getD cg.toNat 0)).1:=by
 unfold kL;rw [ay ⟨h,hg⟩];unfold setRow;rw [ay rfl]
theorem KV {M:Mm} {cell cg:Int} {g:Int->Int×Bool} (hg:(g ((eQ M cell).getD cg.toNat 0)).2=qk):kL M cell cg g=M:=by
 unfold kL;rw [aw (by rw [hg];simp)]
theorem sH {M:Mm} {fx cell cg:Int} {g:Int->Int×Bool} (h:dl M cell cg=qg):(eR M fx cell cg g).eY=(eQ M cell).getD cg.toNat 0/\(eR M fx cell cg g).done=(g ((eQ M cell).getD cg.toNat 0)).2:=by
 unfold eR;rw [ay h];exact⟨rfl,rfl⟩
theorem Nb (M:Mm) (fx cell cg:Int) (g:Int->Int×Bool):(eR M fx cell cg g).fx=0\/((eR M fx cell cg g).fx=fx/\(eR M fx cell cg g).cell=cell):=by
 unfold eR;split;exact qt ⟨rfl,rfl⟩;exact qq rfl
theorem oK (l:List Int) (i j:Nat) (v:Int):(l.set i v).getD j 0=if i=j/\i<l.length then v else l.getD j 0:=by
 simp only [Za];by_cases h:i=j;subst h;by_cases h2:i<l.length;rw [List.getElem?_set_self h2,ay ⟨rfl,h2⟩];rfl;rw [aw Ya,Zx Yg,Zx Ya];rw [List.getElem?_set_ne h,aw Ya]
def tP (s:aI):Prop:=match s.aH with
 | .eg=>s.av.Nodup/\∃l,s.aP=qc l/\l.ey=[]
 | .cY=>s.av=[]/\∃t,s.aN=qc t/\t.jZ=qk
 | .cG _ | .bM | .bE _ | .eb | .dt _ | .eA=>False
 | _=>True
theorem ut (s:aI):tP (fH s):=by
 unfold fH;split<;>exact trivial
theorem sC (s:aI) (aD:Int):tP (kE s aD):=ut _
theorem yN {s:aI} (h:kG s) (aD:Int):tP (nE s aD):=by
 unfold nE;split;have:=(oh (s.bG.bZ.map (gV s.cf))).1;exact⟨this.imp λh=>by omega,_,rfl,rfl⟩;exact⟨h.av,_,rfl,rfl⟩
def my (s:aI):Prop:=kG s/\s.aH=.bL
theorem my.Bt {s:aI} (h:my s):tP s:=by unfold tP;rw [h.2];trivial
theorem E7 {s:aI} (h:my s) (a v:Int):((jS s a v).1=qg->my (jS s a v).2)/\tP (jS s a v).2:=by
 unfold jS;split;have:my { s with bG:=(gu s.bG a v).2 }:=⟨h.1.to rfl rfl rfl rfl rfl,h.2⟩;exact⟨λ_=>this,this.Bt⟩;exact⟨λe=>Ym,sC s 3⟩
theorem G8 {s:aI} (h:my s) (b st:Int):tP (jF s b st):=by
 unfold jF;split;exact yN h.1 8;split;exact sC s 3;have:=E7 h (s.cf.bg+b) 0;split;rename_i e;have h2:=this.1 e;exact my.Bt ⟨h2.1.to rfl rfl rfl rfl rfl,h2.2⟩;exact this.2
theorem Je:∀(n:Nat) (a:Int) (s:aI),my s->((gt n a s).1=qg->my (gt n a s).2)/\tP (gt n a s).2
 | 0,_,s,h=>⟨λ_=>h,h.Bt⟩
 | n+1,a,s,h=>by
   unfold gt;have:=E7 h a 0;split;rename_i e;exact Je n (a+1) _ (this.1 e);exact⟨λe=>Ym,this.2⟩
theorem QU {s:aI} (h:my s) (eZ jz:Int):tP (fq s eZ jz):=by
 unfold fq;split;exact sC s 4;have h1:my { s with ar:=s.ar++[jz] }:=⟨h.1.to rfl rfl rfl rfl rfl,h.2⟩;have:=E7 h1 (s.cf.bg+jz) (eZ+1);dsimp only;split;rename_i e;have hz:=Je (2 ^ eZ.toNat) (jg s.cf jz) _ (this.1 e);split;rename_i e2;have h2:=hz.1 e2;exact my.Bt ⟨h2.1.to rfl rfl rfl rfl rfl,h2.2⟩;exact hz.2;exact this.2
theorem Nz {s:aI} (h:my s) (l:E4):tP (sh s l):=by
 cases l with
 | mI a v=>
   unfold sh;dsimp only;split;exact yN h.1 7;exact(E7 h a v).2
 | uY=>exact yN h.1 7
 | QF=>exact yN h.1 8
 | bX aD=>exact yN h.1 aD
 | take v=>exact my.Bt ⟨h.1.to rfl rfl rfl rfl rfl,h.2⟩
 | Bl=>exact sC s 3
 | dy b v=>exact G8 h b v
theorem UH {s:aI} (h:my s) (v:Int) (u:Ac):tP (AL s v u):=by
 cases u with
 | take=>exact my.Bt ⟨h.1.to rfl rfl rfl rfl rfl,h.2⟩
 | dy b=>exact G8 h b v
def y8 (M M':Mm):Prop:=M' 0=M 0/\M' 1=M 1/\M' 2=M 2/\M' 3=M 3/\M' 4=M 4
theorem y8.refl (M:Mm):y8 M M:=⟨rfl,rfl,rfl,rfl,rfl⟩
theorem y8.op (M:Mm) {cell cg:Int} {g:Int->Int×Bool} (hc:6<=cell):y8 M (kL M cell cg g):=by
 refine⟨gz ?_,gz ?_,gz ?_,gz ?_,gz ?_⟩<;>omega
def rU (s:aI):List Int:=match s.aH with
 | .eg=>match s.aP with
   | some l=>l.av.take l.ey.length
   | none=>[]
 | .cY | .cG _ | .bM | .dt _=>s.av
 | .bE w=>w.os
 | _=>[]
def Dw (s:aI):List Int:=match s.aH with
 | .eg | .cY | .cG _ | .bM | .dt _=>s.ey
 | .bE w=>w.ws
 | _=>[]
def lz (s:aI):Bool:=match s.aH with
 | .dt _ | .eA=>qg
 | .bE _=>s.ao
 | _=>qk
def mN (s:aI):Option Int:=match s.aH with
 | .cY=>match s.aN with
   | some t=>if t.jZ=qg then qc t.dQ else qh
   | none=>qh
 | .cG _ | .bM | .dt _ | .bE _ | .eA | .eb=>match s.aN with
   | some t=>qc t.dQ
   | none=>qh
 | _=>qh
def nR (s:aI):Bool:=match s.aH with
 | .cG _ | .bM | .dt _ | .bE _ | .eA | .eb=>qg
 | _=>qk
def GD (c:aY) (s:aI):Prop:=match s.aH with
 | .eg | .cY | .cG _ | .bM | .dt _=>s.iO=qg->∀a∈s.bG.bZ,gV c a∈s.av
 | _=>True
def iX (M:Mm) (x:Int):Int:=(M 1).getD x.toNat 0
def kI (M:Mm):Int:=(M 2).getD 0 0
structure sx (c:aY) (s:aI) (M:Mm):Prop where
 nod:(rU s).Nodup
 lk:∀i,i<(rU s).length->iX M ((rU s).getD i 0) % 64=s.am+1/\(lz s=false->iX M ((rU s).getD i 0)=(Dw s).getD i 0+s.am+1/\(Dw s).getD i 0 % 64=0)
 cm:lz s=true->s.aC=kI M
 lg:GD c s
 tk:∀n,mN s=some n->n<xu M/\(nR s=true->n=xO M)
structure Mi (c:aY) (s:aI) (M:Mm) (s':aI) (M':Mm):Prop where
 ti:sx c s' M'
 gL:kI M'=kI M\/(lz s=true/\kI M<=kI M')
 sv:xO M'=xO M\/nR s=true
 tkn:xu M<=xu M'
 tks:mN s'=none\/mN s'=mN s\/mN s'=some (xu M)
 m1:∀j:Nat,(M' 1).getD j 0=(M 1).getD j 0\/(M 1).getD j 0 % 64=0\/(M 1).getD j 0 % 64=s.am+1
 oX:∀o rv:Int,rv<=kI M->(rv<iX M o / 64\/(lz s=true/\o∈rU s))->(rv<iX M' o / 64\/(lz s'=true/\o∈rU s'))
 m0:∀j:Nat,(M' 0).getD j 0=(M 0).getD j 0\/(lz s'=true/\gV c j∈rU s')
def nY (c:aY) (s:aI) (M:Mm) (r:ru):Prop:=Mi c s M r.2.2.1 r.2.2.2
theorem nY.of {c:aY} {s:aI} {M:Mm} {a:bh} {ph:Int} {s':aI} {M':Mm} (h:Mi c s M s' M'):nY c s M (a,ph,s',M'):=h
structure vX (s:aI):Prop where
 l:rU s=[]
 c:lz s=false
 t:mN s=none
 d:nR s=false
theorem tP.quiet {s:aI} (h:tP s):vX s:=by
 unfold tP at h;revert h;cases hd:s.aH<;>intro h<;>first
  | exact h.elim
  | skip
 all_goals first|(refine ⟨?_,?_,?_,?_⟩<;>simp [rU,lz,mN,nR,hd];done)|skip
 obtain⟨_,l,h4,h5⟩:=h;refine⟨?_,?_,?_,?_⟩<;>simp [rU,lz,mN,nR,hd,h4,h5];obtain⟨h3,t,h4,h5⟩:=h;refine⟨?_,?_,?_,?_⟩<;>simp [rU,lz,mN,nR,hd,h3,h4,h5]
def tQ (s:aI):Prop:=match s.aH with
 | .eg=>∀a∈s.bG.bZ,gV s.cf a∈s.av
 | .cY=>s.iO=qk
 | .cG _ | .bM | .dt _=>False
 | _=>True
theorem tQ.lg {c:aY} {s:aI} (h:tQ s) (hc:s.cf=c):GD c s:=by
 unfold tQ at h;unfold GD;subst hc;revert h;cases s.aH<;>intro h<;>first
  | exact h.elim
  | trivial
  | exact λ_=>h
  | exact λe=>by rw [h] at e;cases e
theorem yE (s:aI):tQ (fH s):=by
 unfold fH;split<;>exact trivial
theorem sD (s:aI) (aD:Int):tQ (kE s aD):=yE _
theorem yP {s:aI} (h:kG s) (aD:Int):tQ (nE s aD):=by
 unfold nE;split;intro a ha;exact((oh (s.bG.bZ.map (gV s.cf))).2 _).2 (List.mem_map.2 ⟨a,ha,rfl⟩);rename_i hs;show aI.iO _=qk;have:(decide (aD=1) && decide (0<s.bG.bZ.length))=qk:=by simpa using hs
 exact this
theorem my.TU {s:aI} (h:my s):tQ s:=by unfold tQ;rw [h.2];trivial
theorem BW {s:aI} (h:my s) (a v:Int):((jS s a v).1=qg->my (jS s a v).2)/\tQ (jS s a v).2:=by
 unfold jS;split;have:my { s with bG:=(gu s.bG a v).2 }:=⟨h.1.to rfl rfl rfl rfl rfl,h.2⟩;exact⟨λ_=>this,this.TU⟩;exact⟨λe=>Ym,sD s 3⟩
theorem Ha {s:aI} (h:my s) (b st:Int):tQ (jF s b st):=by
 unfold jF;split;exact yP h.1 8;split;exact sD s 3;have:=BW h (s.cf.bg+b) 0;split;rename_i e;have h2:=this.1 e;exact my.TU ⟨h2.1.to rfl rfl rfl rfl rfl,h2.2⟩;exact this.2
theorem Fx:∀(n:Nat) (a:Int) (s:aI),my s->((gt n a s).1=qg->my (gt n a s).2)/\tQ (gt n a s).2
 | 0,_,s,h=>⟨λ_=>h,h.TU⟩
 | n+1,a,s,h=>by
   unfold gt;have:=BW h a 0;split;rename_i e;exact Fx n (a+1) _ (this.1 e);exact⟨λe=>Ym,this.2⟩
theorem QW {s:aI} (h:my s) (eZ jz:Int):tQ (fq s eZ jz):=by
 unfold fq;split;exact sD s 4;have h1:my { s with ar:=s.ar++[jz] }:=⟨h.1.to rfl rfl rfl rfl rfl,h.2⟩;have:=BW h1 (s.cf.bg+jz) (eZ+1);dsimp only;split;rename_i e;have hz:=Fx (2 ^ eZ.toNat) (jg s.cf jz) _ (this.1 e);split;rename_i e2;have h2:=hz.1 e2;exact my.TU ⟨h2.1.to rfl rfl rfl rfl rfl,h2.2⟩;exact hz.2;exact this.2
theorem VN {s:aI} (h:my s) (l:E4):tQ (sh s l):=by
 cases l with
 | mI a v=>
   unfold sh;dsimp only;split;exact yP h.1 7;exact(BW h a v).2
 | uY=>exact yP h.1 7
 | QF=>exact yP h.1 8
 | bX aD=>exact yP h.1 aD
 | take v=>exact my.TU ⟨h.1.to rfl rfl rfl rfl rfl,h.2⟩
 | Bl=>exact sD s 3
 | dy b v=>exact Ha h b v
theorem UI {s:aI} (h:my s) (v:Int) (u:Ac):tQ (AL s v u):=by
 cases u with
 | take=>exact my.TU ⟨h.1.to rfl rfl rfl rfl rfl,h.2⟩
 | dy b=>exact Ha h b v
section
variable {c:aY} {nt k:Nat} {s:aI} {M:Mm}
theorem Mi.quiet {s':aI} {M':Mm} (h:vX s) (h':vX s') (hl:GD c s') (hM:y8 M M'):Mi c s M s' M':=by
 obtain⟨e0,e1,e2,e3,e4⟩:=hM;refine⟨⟨by rw [h'.l];exact kaO,λi hi=>(by rw [h'.l] at hi;simp at hi),λe=>(by rw [h'.c] at e;cases e),hl,λn e=>(by rw [h'.t] at e;cases e)⟩,qq (by unfold kI;rw [e2]),qq (by unfold xO;rw [e4]),by unfold xu;rw [e3];exact Zw _,qq h'.t,λj=>qq (by rw [e1]),λo rv _ h1=>?_,λj=>qq (by rw [e0])⟩;rcases h1 with h1|⟨h1,_⟩;exact qq (by unfold iX at *;rw [e1];exact h1);rw [h.c] at h1;cases h1
theorem Mi.Bt {s':aI} {M':Mm} (h:vX s) (h1:tP s') (h2:tQ s') (hc:s'.cf=c) (hM:y8 M M'):Mi c s M s' M':=Mi.quiet h h1.quiet (h2.lg hc) hM
theorem Qt (e:gT) (M:Mm):y8 M (gw e M).2.2:=by
 unfold gw;split;exact .op M Ya;split;exact .refl M;split;exact .op M Ya;exact .refl M
theorem Vh (p:rM) (M:Mm):y8 M (gH p M).2.2:=by
 unfold gH;split;exact .refl M;split;exact .refl M;split;exact .op M Ya;exact .refl M
theorem Dp (p:gs) (M:Mm):y8 M (dR p M).2.2:=by
 unfold dR;split;exact .refl M;split;exact .op M Ya;split;exact .op M Ya;exact .refl M
theorem UM (hM:lK c nt k M) (hk:k<2^40) (h:nZ c k s) (t:jh) (hs:s.aN=qc t) (h1:t.done=qk) (hd:s.aH=.cY) (hT:sx c s M):nY c s M (ij s M t):=by
 have hl:=hT.lk;have hn:=hT.nod;have hg:=hT.lg;have e0:rU s=s.av:=by unfold rU;rw [hd]
 have e1:Dw s=s.ey:=by unfold Dw;rw [hd]
 have e2:lz s=qk:=by unfold lz;rw [hd]
 have e3:nR s=qk:=by unfold nR;rw [hd]
 have e4:mN s=if t.jZ=qg then qc t.dQ else qh:=by unfold mN;rw [hd,hs]
 unfold GD at hg;rw [hd] at hg;rw [e0] at hn;rw [e0,e1,e2] at hl;unfold ij fX;rw [aw Y2];split;rename_i xP;have htk':t.jZ=qk:=xP;have hm:∀kk,kk≠3->adM M 4 0 1 kk=M kk:=λkk j9=>gz Ya;have hcell:dl M 4 0=qg:=jT Ya Ya Xv;have Wm:(H5 M 4 0 1).eY=xu M:=(sH hcell).1;have ht:=hM.tik;have jx:adM M 4 0 1 3=(M 3).set 0 (xu M+1):=by
  have:adM M 4 0 1 3=(M 3).set 0 (q8.wrap (xu M+1)):=wF hcell rfl;rw [this,an (by unfold xu;omega) (by unfold xu;omega)]
 have htk2:xu (adM M 4 0 1)=xu M+1:=by unfold xu;rw [jx,oK,ay ⟨rfl,by rw [hM.l3];omega⟩];rfl
 refine nY.of ?_;rw [aw (by dsimp only;rw [h1];decide)];show Mi c s M { s with aN:=qc { t with jZ:=qg,dQ:=(H5 M 4 0 1).eY } } (adM M 4 0 1);have f0:rU { s with aN:=qc { t with jZ:=qg,dQ:=(H5 M 4 0 1).eY } }=s.av:=by unfold rU;rw [show ({ s with aN:=qc { t with jZ:=qg,dQ:=(H5 M 4 0 1).eY } }:aI).aH=s.aH from rfl,hd]
 have f1:Dw { s with aN:=qc { t with jZ:=qg,dQ:=(H5 M 4 0 1).eY } }=s.ey:=by unfold Dw;rw [show ({ s with aN:=qc { t with jZ:=qg,dQ:=(H5 M 4 0 1).eY } }:aI).aH=s.aH from rfl,hd];rfl
 have f2:lz { s with aN:=qc { t with jZ:=qg,dQ:=(H5 M 4 0 1).eY } }=qk:=by unfold lz;rw [show ({ s with aN:=qc { t with jZ:=qg,dQ:=(H5 M 4 0 1).eY } }:aI).aH=s.aH from rfl,hd]
 have f3:nR { s with aN:=qc { t with jZ:=qg,dQ:=(H5 M 4 0 1).eY } }=qk:=by unfold nR;rw [show ({ s with aN:=qc { t with jZ:=qg,dQ:=(H5 M 4 0 1).eY } }:aI).aH=s.aH from rfl,hd]
 have f4:mN { s with aN:=qc { t with jZ:=qg,dQ:=(H5 M 4 0 1).eY } }=qc (xu M):=by unfold mN;rw [show ({ s with aN:=qc { t with jZ:=qg,dQ:=(H5 M 4 0 1).eY } }:aI).aH=s.aH from rfl,hd,<-Wm];rfl
 have f5:GD c { s with aN:=qc { t with jZ:=qg,dQ:=(H5 M 4 0 1).eY } }:=by unfold GD;rw [show ({ s with aN:=qc { t with jZ:=qg,dQ:=(H5 M 4 0 1).eY } }:aI).aH=s.aH from rfl,hd];exact hg
 refine⟨⟨by rw [f0];exact hn,?_,λe=>(by rw [f2] at e;cases e),f5,?_⟩,qq (by unfold kI;rw [hm 2 Ya]),qq (by unfold xO;rw [hm 4 Ya]),by rw [htk2];omega,qt (qt f4),λj=>qq (by rw [hm 1 Ya]),λo rv _ h2=>?_,λj=>qq (by rw [hm 0 Ya])⟩;rw [f0,f1,f2];unfold iX;rw [hm 1 Ya];exact hl;intro n hn';rw [f4] at hn';injection hn' with hn';rw [htk2,<-hn'];exact⟨by omega,λe=>(by rw [f3] at e;cases e)⟩;rcases h2 with h2|⟨h2,_⟩;left;unfold iX;rw [hm 1 Ya];exact h2;rw [e2] at h2;cases h2;rename_i xP;have htk':t.jZ=qg:=by simpa using xP
 rw [ay htk'] at e4;obtain⟨a1,a2⟩:=hT.tk _ e4;have key:∀s':aI,rU s'=s.av->Dw s'=s.ey->lz s'=qk->GD c s'->mN s'=qc t.dQ->s'.am=s.am->(nR s'=qg->t.dQ=xO M)->Mi c s M s' M:=by
  intro s' g0 g1 g2 g3 g4 g5 g6;refine⟨⟨by rw [g0];exact hn,by rw [g0,g1,g2,g5];exact hl,λe=>Xe,g3,λn e=>?_⟩,qq rfl,qq rfl,Zw _,qt (qq (g4.trans e4.symm)),λj=>qq rfl,λo rv _ h2=>?_,λj=>qq rfl⟩;rw [g4] at e;injection e with e;subst e;exact⟨a1,g6⟩;rcases h2 with h2|⟨h2,_⟩;exact qq h2;rw [e2] at h2;cases h2
 refine nY.of ?_;dsimp only;split;rename_i mo;have V1:t.dQ=xO M:=by
  have hcell:dl M 5 0=qg:=jT Ya Ya Xw;have:(iL M 5 0).eY=xO M:=(sH hcell).1;have h3:decide ((iL M 5 0).eY=t.dQ)=qg:=mo;have h4:=of_decide_eq_true h3;rw [<-h4,this]
 by_cases hz:s.set.length=0;rw [ay hz];exact key _ rfl rfl rfl hg rfl rfl λ_=>V1;rw [aw hz];exact key _ rfl rfl rfl hg rfl rfl λ_=>V1;refine key _ ?_ ?_ ?_ ?_ ?_ rfl ?_;show rU { s with aN:=_ }=_;unfold rU;dsimp only;rw [hd];show Dw { s with aN:=_ }=_;unfold Dw;dsimp only;rw [hd];rfl;show lz { s with aN:=_ }=_;unfold lz;dsimp only;rw [hd];show GD c { s with aN:=_ };unfold GD;dsimp only;rw [hd];exact hg;show mN { s with aN:=_ }=_;unfold mN;dsimp only;rw [hd];dsimp only;rw [ay htk'];intro e;have:nR { s with aN:=qc { t with done:=decide ((iL M 5 0).eY=t.dQ) } }=qk:=by unfold nR;dsimp only;rw [hd]
 rw [this] at e;cases e
theorem yd {s1:aI} (h0:rU s=s1.av) (h1:Dw s=s1.ey) (h2:lz s=qk) (h3:s1.am=s.am) (h4:s1.ao=qg->s1.av=[]) {n:Int} (h5:mN s=qc n) {t:jh} (h6:s1.aN=qc t) (h7:t.dQ=n) (h8:nR s=qg) (hT:sx c s M):Mi c s M (fO s1) M:=by
 have hl:=hT.lk;have hn:=hT.nod;rw [h0] at hn;rw [h0,h1,h2] at hl;have ht:=hT.tk n h5;have hv:∀o rv:Int,rv<=kI M->(rv<iX M o / 64\/(lz s=qg/\o∈rU s))->rv<iX M o / 64:=λo rv _ h=>by
  rcases h with h|⟨h,_⟩;exact h;rw [h2] at h;cases h
 unfold fO;split;refine⟨⟨kaO,λi hi=>(by simp [rU] at hi),λe=>Ym,trivial,λm e=>?_⟩,qq rfl,qq rfl,Zw _,qt (qq ?_),λj=>qq rfl,λo rv h9 Qi=>qq (hv o rv h9 Qi),λj=>qq rfl⟩;have e:mN { s1 with aH:=.eb }=qc m:=e;unfold mN at e;dsimp only at e;rw [h6] at e;injection e with e;rw [<-e,h7];exact⟨ht.1,λ_=>ht.2 h8⟩;rw [h5];unfold mN;dsimp only;rw [h6];exact congrArg qc h7;rename_i gZ;have hdf:s1.ao=qk:=by
  cases e:s1.ao with
  | false=>rfl
  | true=>rw [h4 e] at gZ;exact absurd rfl gZ
 refine⟨⟨hn,λi hi=>?_,λe=>?_,trivial,λm e=>?_⟩,qq rfl,qq rfl,Zw _,qt (qq ?_),λj=>qq rfl,λo rv h9 Qi=>qq (hv o rv h9 Qi),λj=>qq rfl⟩;have:=hl i hi;show iX M (s1.av.getD i 0) % 64=s1.am+1/\(_->iX M (s1.av.getD i 0)=s1.ey.getD i 0+s1.am+1/\s1.ey.getD i 0 % 64=0);rw [h3];exact⟨this.1,λ_=>this.2 rfl⟩;have e:s1.ao=qg:=e;rw [hdf] at e;cases e;have e:mN { s1 with aH:=.bE ⟨s1.av,s1.ey⟩ }=qc m:=e;unfold mN at e;dsimp only at e;rw [h6] at e;injection e with e;rw [<-e,h7];exact⟨ht.1,λ_=>ht.2 h8⟩;rw [h5];unfold mN;dsimp only;rw [h6];exact congrArg qc h7
theorem TR (ck:iU) (NV:s.ao=qk) (t:jh) (ht:s.aN=qc t) (hd:s.aH=.cG ck) (hT:sx c s M):nY c s M (gr s M ck):=by
 have hm:(eD ck M).2.2=M:=by unfold eD;split<;>rfl
 have e0:rU s=s.av:=by unfold rU;rw [hd]
 have e1:Dw s=s.ey:=by unfold Dw;rw [hd]
 have e2:lz s=qk:=by unfold lz;rw [hd]
 have e3:nR s=qg:=by unfold nR;rw [hd]
 have e4:mN s=qc t.dQ:=by unfold mN;rw [hd];dsimp only;rw [ht]
 have hg:=hT.lg;unfold GD at hg;rw [hd] at hg;unfold gr;dsimp only;rw [hm];refine nY.of ?_;split;exact yd e0 e1 e2 rfl (λe=>by rw [show s.ao=qg from e] at NV;cases NV) e4 (t:=t) ht rfl e3 hT;have hl:=hT.lk;have hn:=hT.nod;rw [e0] at hn;rw [e0,e1,e2] at hl;have xP:=hT.tk _ e4;have key:∀s':aI,rU s'=s.av->Dw s'=s.ey->lz s'=qk->GD c s'->mN s'=qc t.dQ->s'.am=s.am->Mi c s M s' M:=by
  intro s' g0 g1 g2 g3 g4 g5;refine⟨⟨by rw [g0];exact hn,by rw [g0,g1,g2,g5];exact hl,λe=>Xe,g3,λn e=>?_⟩,qq rfl,qq rfl,Zw _,qt (qq (g4.trans e4.symm)),λj=>qq rfl,λo rv _ h2=>?_,λj=>qq rfl⟩;rw [g4] at e;injection e with e;subst e;exact⟨xP.1,λ_=>xP.2 e3⟩;rcases h2 with h2|⟨h2,_⟩;exact qq h2;rw [e2] at h2;cases h2
 have e5:∀d,(match d with | .cG _ | .bM=>True|_=>False)->mN { s with aH:=d }=qc t.dQ:=by
  intro d G0;unfold mN;dsimp only;revert G0;cases d<;>intro G0<;>first
   | exact G0.elim
   | (dsimp only;rw [ht])
 split;exact key _ rfl rfl rfl hg (e5 .bM trivial) rfl;exact key _ rfl rfl rfl hg (e5 (.cG _) trivial) rfl
theorem Qy (hM:lK c nt k M) (NV:s.ao=qk) (hls:s.iO=qg↔0<s.av.length) (t:jh) (ht:s.aN=qc t) (hd:s.aH=.bM) (hT:sx c s M):nY c s M (fm s M):=by
 have e0:rU s=s.av:=by unfold rU;rw [hd]
 have e1:Dw s=s.ey:=by unfold Dw;rw [hd]
 have e2:lz s=qk:=by unfold lz;rw [hd]
 have e3:nR s=qg:=by unfold nR;rw [hd]
 have e4:mN s=qc t.dQ:=by unfold mN;rw [hd];dsimp only;rw [ht]
 have hg:=hT.lg;unfold GD at hg;rw [hd] at hg;unfold fm;dsimp only;refine nY.of ?_;split;exact yd e0 e1 e2 rfl (λe=>by rw [show s.ao=qg from e] at NV;cases NV) e4 (t:=t) ht rfl e3 hT;split;rename_i dw;have hl:=hT.lk;have hn:=hT.nod;rw [e0] at hn;rw [e0,e1,e2] at hl;have xP:=hT.tk _ e4;have hcell:dl M 3 0=qg:=jT Ya Ya Xx;have Wm:(iL M 3 0).eY=kI M:=(sH hcell).1;refine⟨⟨hn,λi hi=>⟨(hl i hi).1,λe=>Ym⟩,λ_=>Wm,hg,λn e=>?_⟩,qq rfl,qq rfl,Zw _,qt (qq ?_),λj=>qq rfl,λo rv _ h2=>?_,λj=>qq rfl⟩;have e:(match s.aN with|some t=>qc t.dQ|none=>qh)=qc n:=e;rw [ht] at e;injection e with e;subst e;exact⟨xP.1,λ_=>xP.2 e3⟩;rw [e4];show (match s.aN with|some t=>qc t.dQ|none=>qh)=_;rw [ht];rcases h2 with h2|⟨h2,_⟩;exact qq h2;rw [e2] at h2;cases h2;rename_i dw;refine yd e0 e1 e2 rfl (λe=>?_) e4 (t:=t) ht rfl e3 hT
 have:¬0<s.av.length:=λe=>dw (hls.2 e);exact ZP (by show s.av.length=0;omega)
theorem VK (hM:lK c nt k M) (hk:k<2^40) (hb:jX c k s) (l:iI) (hs:s.aP=qc l) (GR:s.aN=qh) (ho:l.av=s.av) (NI:l.am=s.am) (bY:l.ey.length<l.av.length) (hI:AH k l) (hd:s.aH=.eg) (hT:sx c s M):nY c s M (iy s M l):=by
 have e0:rU s=l.av.take l.ey.length:=by unfold rU;rw [hd];dsimp only;rw [hs]
 have e1:Dw s=l.ey:=by unfold Dw;rw [hd];dsimp only;unfold aI.ey;rw [hs]
 have e2:lz s=qk:=by unfold lz;rw [hd]
 have e3:mN s=qh:=by unfold mN;rw [hd]
 have e4:nR s=qk:=by unfold nR;rw [hd]
 have hg:=hT.lg;unfold GD at hg;rw [hd] at hg;have hl:=hT.lk;have hn:=hT.nod;rw [e0] at hn;rw [e0,e1,e2] at hl;have hx:dC l∈s.av:=by
  unfold dC;rw [<-ho,Za,q9 bY];exact List.getElem_mem bY
 have hxr:=hb.orr _ hx;have hcell:dl M 2 (dC l)=qg:=jT Ya hxr.1 (by show _<((M 1).length:Int);rw [hM.l1];exact hxr.2);have Qb:¬l.done=qg:=by simp only [iI.done,decide_eq_true_eq];omega
 have sl:∀(l2:iI) (M':Mm),l2.av=l.av->M' 0=M 0->M' 2=M 2->M' 3=M 3->M' 4=M 4->(l2.av.take l2.ey.length).Nodup->
  (∀i,i<(l2.av.take l2.ey.length).length->iX M' ((l2.av.take l2.ey.length).getD i 0) % 64=s.am+1/\(iX M' ((l2.av.take l2.ey.length).getD i 0)=l2.ey.getD i 0+s.am+1/\l2.ey.getD i 0 % 64=0))->
  (∀j:Nat,(M' 1).getD j 0=(M 1).getD j 0\/(M 1).getD j 0 % 64=0\/(M 1).getD j 0 % 64=s.am+1)->(∀o:Int,iX M' o / 64=iX M o / 64)->
  Mi c s M (if l2.done=qg then { { s with aP:=qc l2 } with aN:=qc ⟨qk,0,qk⟩,aH:=.cY } else { s with aP:=qc l2 }) M':=by
  intro l2 M' f1 f2 f3 f4 f5 f6 f7 f8 f9;have key:∀s':aI,rU s'=l2.av.take l2.ey.length->Dw s'=l2.ey->lz s'=qk->GD c s'->mN s'=qh->s'.am=s.am->Mi c s M s' M':=by
   intro s' g0 g1 g2 g3 g4 g5;refine⟨⟨by rw [g0];exact f6,λi hi=>?_,λe=>Xe,g3,λn e=>(by rw [g4] at e;cases e)⟩,qq (by unfold kI;rw [f3]),qq (by unfold xO;rw [f5]),by unfold xu;rw [f4];exact Zw _,qq g4,f8,λo rv _ h2=>?_,λj=>qq (by rw [f2])⟩;rw [g0] at hi ⊢;rw [g1,g5];exact⟨(f7 i hi).1,λ_=>(f7 i hi).2⟩;rcases h2 with h2|⟨h2,_⟩;left;rw [f9];exact h2;rw [e2] at h2;cases h2
  split;rename_i mo;simp only [iI.done,decide_eq_true_eq] at mo;refine key _ ?_ rfl rfl hg rfl rfl;show s.av=_;rw [mo,List.take_length,<-ho,f1];refine key _ ?_ ?_ ?_ ?_ ?_ rfl;unfold rU;dsimp only;rw [hd];unfold Dw;dsimp only;rw [hd];rfl;unfold lz;dsimp only;rw [hd];unfold GD;dsimp only;rw [hd];exact hg;unfold mN;dsimp only;rw [hd]
 unfold iy dI;rw [aw Qb];have hl':∀i,i<(l.av.take l.ey.length).length->iX M ((l.av.take l.ey.length).getD i 0) % 64=s.am+1/\(iX M ((l.av.take l.ey.length).getD i 0)=l.ey.getD i 0+s.am+1/\l.ey.getD i 0 % 64=0):=λi hi=>⟨(hl i hi).1,(hl i hi).2 rfl⟩;split;exact nY.of (sl { l with dM:=_,fZ:=_ } M rfl rfl rfl rfl rfl hn hl' (λj=>qq rfl) λo=>rfl);rename_i IT;have GX:l.fZ=qg:=by simpa using IT
 refine nY.of ?_;have hm:∀kk,kk≠1->kL M 2 (dC l) (jJ l.dM (gx l)) kk=M kk:=λkk j9=>gz Ya;obtain⟨EW,mL⟩:=sH (fx:=3) (g:=jJ l.dM (gx l)) hcell;by_cases hsw:(eR M 3 2 (dC l) (jJ l.dM (gx l))).done=qg;have V3:iX M (dC l)=l.dM:=by
  rw [mL] at hsw;exact of_decide_eq_true hsw
 have hz:=hI.load GX;have ht:=hb.Mn;have ri:=wU Ya hI GX (by rw [NI];exact ht);rw [NI] at ri;have h64:=hI.dM.1;simp only [hsw,if_true];have f1:kL M 2 (dC l) (jJ l.dM (gx l)) 1=(M 1).set (dC l).toNat (gx l):=wF hcell (by rw [<-mL];exact hsw);have bW:(dC l).toNat<(M 1).length:=by have:=hM.l1;omega
 have wY:∀o:Int,iX (kL M 2 (dC l) (jJ l.dM (gx l))) o=if (dC l).toNat=o.toNat then l.dM+s.am+1 else iX M o:=by
  intro o;unfold iX;rw [f1,oK];by_cases h:(dC l).toNat=o.toNat;rw [ay ⟨h,bW⟩,ay h,ri];rw [aw Ya,aw h]
 have f2:l.av.take (l.ey++[l.dM]).length=l.av.take l.ey.length++[dC l]:=by
  rw [Zc,kaw,List.take_add_one,q9 bY];unfold dC;rw [Za,q9 bY];rfl
 have pe:(l.av.take l.ey.length).length=l.ey.length:=by simp;omega
 have gZ:∀i,i<l.ey.length->(dC l).toNat≠((l.av.take l.ey.length).getD i 0).toNat:=by
  intro i hi e;have h1:=(hl' i Ya).1;have h2:iX M ((l.av.take l.ey.length).getD i 0)=iX M (dC l):=by unfold iX;rw [e]
  rw [h2,V3] at h1;omega
 refine sl { l with fZ:=qk,ey:=l.ey++[l.dM] } _ rfl (hm 0 Ya) (hm 2 Ya) (hm 3 Ya) (hm 4 Ya) ?_ ?_ ?_ ?_;show (l.av.take (l.ey++[l.dM]).length).Nodup;rw [f2];refine JF hn λP7=>?_;obtain⟨i,hi,Lu⟩:=List.getElem_of_mem P7;refine gZ i Ya ?_;rw [Za,q9 hi];show _=(_:Int).toNat;rw [show (qc (l.av.take l.ey.length)[i]).getD 0=(l.av.take l.ey.length)[i] from rfl,Lu];intro i hi;dsimp only at hi ⊢;rw [f2] at hi ⊢;simp only [Zc,kaw,pe] at hi;by_cases OQ:i<l.ey.length;have g1:(l.av.take l.ey.length++[dC l]).getD i 0=(l.av.take l.ey.length).getD i 0:=by simp only [Za];rw [kaf Ya]
 have g2:(l.ey++[l.dM]).getD i 0=l.ey.getD i 0:=by simp only [Za];rw [kaf OQ]
 rw [g1,g2,wY,aw (gZ i OQ)];exact hl' i Ya;have Lu:i=l.ey.length:=Ya
 subst Lu;have g1:(l.av.take l.ey.length++[dC l]).getD l.ey.length 0=dC l:=by
  rw [Za,List.getElem?_append_right Ya];simp [pe]
 have g2:(l.ey++[l.dM]).getD l.ey.length 0=l.dM:=by simp [Za]
 rw [g1,g2,wY,ay rfl];exact⟨by omega,rfl,hz⟩;intro j;by_cases h:(dC l).toNat=j;right;left;have:(M 1).getD j 0=l.dM:=by rw [<-h];exact V3
 rw [this];exact hz;left;rw [f1,oK,aw Ya];intro o;rw [wY];split;rename_i h;have:iX M o=l.dM:=by rw [<-V3];unfold iX;rw [h]
 rw [this];omega;rfl;simp only [hsw];have f1:kL M 2 (dC l) (jJ l.dM (gx l))=M:=KV (by rw [<-mL];simpa using hsw);rw [f1];exact sl { l with fZ:=qk } M rfl rfl rfl rfl rfl hn hl' (λj=>qq rfl) λo=>rfl
theorem Sl (hM:lK c nt k M) (hb:jX c k s) (w:jO) (xB:s.ao=qg/\s.iO=qg) (t:jh) (ht:s.aN=qc t) (q:Nat) (hq:q<s.bG.bZ.length) (hw:w=⟨s.bG.bZ.drop q,s.bG.fU.drop q⟩) (hd:s.aH=.dt w) (hT:sx c s M):nY c s M (go s M w):=by
 have e0:rU s=s.av:=by unfold rU;rw [hd]
 have e2:lz s=qg:=by unfold lz;rw [hd]
 have e3:nR s=qg:=by unfold nR;rw [hd]
 have e4:mN s=qc t.dQ:=by unfold mN;rw [hd];dsimp only;rw [ht]
 have hg:=hT.lg;unfold GD at hg;rw [hd] at hg;have hl:=hT.lk;have hn:=hT.nod;rw [e0] at hn;rw [e0,e2] at hl;have xP:=hT.tk _ e4;have tK:0<w.os.length:=by rw [hw];simp;omega
 have zX:w.os.getD 0 0∈s.bG.bZ:=by
  have:w.os.getD 0 0∈w.os:=yC tK;rw [hw] at this ⊢;exact List.mem_of_mem_drop this
 have har:=hb.Ka _ zX;unfold go kr;rw [aw Xf];dsimp only;refine nY.of ?_;have hm:∀kk,kk≠0->kL M 1 (w.os.getD 0 0) (ej (w.ws.getD 0 0)) kk=M kk:=λkk j9=>gz Ya;have key:∀s':aI,rU s'=s.av->lz s'=qg->GD c s'->mN s'=qc t.dQ->s'.am=s.am->s'.aC=s.aC->Mi c s M s' (kL M 1 (w.os.getD 0 0) (ej (w.ws.getD 0 0))):=by
  intro s' g0 g1 g2 g3 g4 g5;have wY:∀o,iX (kL M 1 (w.os.getD 0 0) (ej (w.ws.getD 0 0))) o=iX M o:=λo=>by unfold iX;rw [hm 1 Ya]
  have yw:kI (kL M 1 (w.os.getD 0 0) (ej (w.ws.getD 0 0)))=kI M:=by unfold kI;rw [hm 2 Ya]
  have htf:xu (kL M 1 (w.os.getD 0 0) (ej (w.ws.getD 0 0)))=xu M:=by unfold xu;rw [hm 3 Ya]
  have Ti:xO (kL M 1 (w.os.getD 0 0) (ej (w.ws.getD 0 0)))=xO M:=by unfold xO;rw [hm 4 Ya]
  refine⟨⟨by rw [g0];exact hn,λi hi=>?_,λ_=>?_,g2,λn e=>?_⟩,qq yw,qq Ti,by rw [htf];exact Zw _,qt (qq (g3.trans e4.symm)),λj=>qq (by rw [hm 1 Ya]),λo rv _ h2=>?_,λj=>?_⟩;rw [g0] at hi ⊢;rw [wY,g4];exact⟨(hl i hi).1,λe=>by rw [g1] at e;cases e⟩;rw [g5,yw];exact hT.cm e2;rw [g3] at e;injection e with e;subst e;rw [htf,Ti];exact⟨xP.1,λ_=>xP.2 e3⟩;rw [wY];rcases h2 with h2|⟨_,h2⟩;exact qq h2;rw [e0] at h2;exact qt ⟨g1,by rw [g0];exact h2⟩;rcases wG M 1 (w.os.getD 0 0) (ej (w.ws.getD 0 0)) 0 j with h|⟨_,_,h,_⟩;exact qq h;right;refine⟨g1,?_⟩;rw [g0];have:(j:Int)=w.os.getD 0 0:=Ya
  rw [this];exact hg xB.2 _ zX
 have e5:∀d,(match d with | .dt _ | .bE _=>True|_=>False)->mN { s with aH:=d }=qc t.dQ:=by
  intro d G0;unfold mN;dsimp only;revert G0;cases d<;>intro G0<;>first
   | exact G0.elim
   | (dsimp only;rw [ht])
 split;exact key _ rfl xB.1 trivial (e5 (.bE _) trivial) rfl rfl;exact key _ rfl rfl hg (e5 (.dt _) trivial) rfl rfl
theorem rel_eff (hM:lK c nt k M) (hk:k<2^40) (hb:jX c k s) (w:jO) (xB:s.ao=qg->s.iO=qg) (t:jh) (ht:s.aN=qc t) (q:Nat) (hq1:q<s.av.length) (hw:w=⟨s.av.drop q,(vy s).drop q⟩) (hd:s.aH=.bE w) (hT:sx c s M):nY c s M (nK s M w):=by
 have e0:rU s=w.os:=by unfold rU;rw [hd]
 have e1:Dw s=w.ws:=by unfold Dw;rw [hd]
 have e2:lz s=s.ao:=by unfold lz;rw [hd]
 have e3:nR s=qg:=by unfold nR;rw [hd]
 have e4:mN s=qc t.dQ:=by unfold mN;rw [hd];dsimp only;rw [ht]
 have hl:=hT.lk;have hn:=hT.nod;rw [e0] at hn;rw [e0,e1,e2] at hl;have xP:=hT.tk _ e4;have EY:=hT.cm;rw [e2] at EY;have tK:0<w.os.length:=by rw [hw];simp;omega
 have kU:∀x∈w.os,0<=x/\x<c.av:=λx hx=>hb.orr x (by rw [hw] at hx;exact List.mem_of_mem_drop hx);have hxr:=kU _ (yC tK);have hl1:=hM.l1;have hcell:dl M 2 (w.os.getD 0 0)=qg:=jT Ya hxr.1 Xy;have hv0:s.ao=qg->w.ws.getD 0 0=(kI M+1)*64:=by
  intro e;have h1:=sO hb hk ⟨e,xB e⟩;have h2:=EY e;have h3:=hb.gL;have e5:(vy s).drop q=qX (s.av.length-q) (lH s.oX):=by unfold vy;rw [ay e,List.drop_replicate]
  rw [hw];show ((vy s).drop q).getD 0 0=_;rw [e5,Za,kbT Ya];show lH s.oX=_;rw [h1,<-h2];unfold lH;rw [ay Ya]
 have hver:0<=s.oX↔s.ao=qg:=by
  constructor
  . intro h;cases e:s.ao with
    | true=>rfl
    | false=>unfold aI.oX at h;rw [aw (by rw [e];simp)] at h;omega
  intro e;rw [sO hb hk ⟨e,xB e⟩];have:=hb.gL;omega
 obtain⟨x,xs,RM⟩:∃x xs,w.os=x::xs:=by
  cases h:w.os with
  | nil=>rw [h] at tK;simp at tK
  | cons x xs=>exact⟨x,xs,rfl⟩
 have NH:w.os.getD 0 0=x:=by rw [RM];rfl
 have EV:=hl 0 tK;rw [NH] at EV hxr hcell;have bW:x.toNat<(M 1).length:=Ya
 unfold nK fF;rw [aw Xf];dsimp only;rw [NH];refine nY.of ?_;have hm:∀kk,kk≠1->kL M 2 x (ej (w.ws.getD 0 0)) kk=M kk:=λkk j9=>gz Ya;have f1:kL M 2 x (ej (w.ws.getD 0 0)) 1=(M 1).set x.toNat (w.ws.getD 0 0):=wF hcell rfl;have wY:∀o:Int,iX (kL M 2 x (ej (w.ws.getD 0 0))) o=if x.toNat=o.toNat then w.ws.getD 0 0 else iX M o:=by
  intro o;unfold iX;rw [f1,oK];by_cases h:x.toNat=o.toNat;rw [ay ⟨h,bW⟩,ay h];rw [aw Ya,aw h]
 have yw:kI (kL M 2 x (ej (w.ws.getD 0 0)))=kI M:=by unfold kI;rw [hm 2 Ya]
 have htf:xu (kL M 2 x (ej (w.ws.getD 0 0)))=xu M:=by unfold xu;rw [hm 3 Ya]
 have Ti:xO (kL M 2 x (ej (w.ws.getD 0 0)))=xO M:=by unfold xO;rw [hm 4 Ya]
 rw [RM] at hn hl kU;have hnx:=List.nodup_cons.1 hn;have key:∀s':aI,rU s'=xs->Dw s'=w.ws.tail\/xs=[]->(s.ao=qg/\xs≠[]->lz s'=qg)->(lz s'=qg->s.ao=qg)->GD c s'->mN s'=qc t.dQ->s'.am=s.am->s'.aC=s.aC->Mi c s M s' (kL M 2 x (ej (w.ws.getD 0 0))):=by
  intro s' g0 g1 g2 g3 g4 g5 g6 g7;refine⟨⟨by rw [g0];exact hnx.2,λi hi=>?_,λe=>?_,g4,λn e=>?_⟩,qq yw,qq Ti,by rw [htf];exact Zw _,qt (qq (g5.trans e4.symm)),λj=>?_,λo rv hrv h2=>?_,λj=>qq (by rw [hm 0 Ya])⟩;rw [g0] at hi ⊢;have h1:=hl (i+1) Yg;rw [List.getD_cons_succ] at h1;have zX:xs.getD i 0∈xs:=yC hi;have gZ:¬x.toNat=(xs.getD i 0).toNat:=by
   intro e;have h3:=(kU (xs.getD i 0) (List.mem_cons_of_mem _ zX)).1;have:x=xs.getD i 0:=Ya
   rw [<-this] at zX;exact hnx.1 zX
  rw [wY,aw gZ,g6];refine⟨h1.1,λe=>?_⟩;rcases g1 with g1|g1;have hdf:s.ao=qk:=by
   cases h:s.ao with
   | false=>rfl
   | true=>
     have:=g2 ⟨h,λe=>by rw [e] at hi;simp at hi⟩;rw [this] at e;cases e
  have h4:=h1.2 hdf;rw [g1];have h5:w.ws.tail.getD i 0=w.ws.getD (i+1) 0:=by cases w.ws<;>simp
  rw [h5];exact h4;rw [g1] at hi;simp at hi;rw [g7,yw];exact EY (g3 e);rw [g5] at e;injection e with e;subst e;rw [htf,Ti];exact⟨xP.1,λ_=>xP.2 e3⟩;by_cases h:x.toNat=j;right;right;have:(M 1).getD j 0=iX M x:=by unfold iX;rw [h]
  rw [this];exact EV.1;left;rw [f1,oK,aw Ya];rw [e2,e0,RM] at h2;by_cases h:x.toNat=o.toNat
  . left;rw [wY,ay h];cases Un:s.ao with
    | true=>rw [hv0 Un];omega
    | false=>
      rcases h2 with h2|⟨h2,_⟩;have h3:=EV.2 Un;have h4:iX M o=iX M x:=(by unfold iX;rw [h]);have h5:=hb.Mn;rw [h4] at h2;omega;rw [Un] at h2;cases h2
  rw [wY,aw h];rcases h2 with h2|⟨h2,h3⟩;exact qq h2;right;rcases List.mem_cons.1 h3 with h3|h3;exact absurd (by rw [h3]) h;exact⟨g2 ⟨h2,λe=>by rw [e] at h3;simp at h3⟩,by rw [g0];exact h3⟩
 have e5:∀d,(match d with | .bE _ | .eA | .eb=>True|_=>False)->mN { s with aH:=d }=qc t.dQ:=by
  intro d G0;unfold mN;dsimp only;revert G0;cases d<;>intro G0<;>first
   | exact G0.elim
   | (dsimp only;rw [ht])
 have htl:w.os.tail=xs:=by rw [RM];rfl
 rw [htl];by_cases mo:jO.done ⟨xs,w.ws.tail⟩=qg;have hxs:xs=[]:=ZP (by simpa [jO.done] using mo);rw [ay mo];by_cases hv:0<=s.oX;rw [ay hv];exact key _ hxs.symm (qt hxs) (λh=>absurd hxs h.2) (λ_=>hver.1 hv) trivial (e5 .eA trivial) rfl rfl;rw [aw hv];exact key _ hxs.symm (qt hxs) (λh=>absurd hxs h.2) (λe=>by cases e) trivial (e5 .eb trivial) rfl rfl;rw [aw mo];exact key _ rfl (qq rfl) (λh=>h.1) (λe=>e) trivial (e5 (.bE _) trivial) rfl rfl
theorem SF (hM:lK c nt k M) (hk:k<2^40) (hb:jX c k s) (t:jh) (ht:s.aN=qc t) (hd:s.aH=.eA) (hT:sx c s M) (a:bh) (ph:Int):nY c s M (a,ph,{ s with aH:=.eb },u7 M 3 0 (q8.wrap (s.aC+1))):=by
 refine nY.of ?_;have e2:lz s=qg:=by unfold lz;rw [hd]
 have e3:nR s=qg:=by unfold nR;rw [hd]
 have e4:mN s=qc t.dQ:=by unfold mN;rw [hd];dsimp only;rw [ht]
 have e0:rU s=[]:=by unfold rU;rw [hd]
 have xP:=hT.tk _ e4;have EY:=hT.cm e2;have yw:=hb.gL;have hm:∀kk,kk≠2->u7 M 3 0 (q8.wrap (s.aC+1)) kk=M kk:=λkk j9=>gz Ya;have hcell:dl M 3 0=qg:=jT Ya Ya Xx;have f1:u7 M 3 0 (q8.wrap (s.aC+1)) 2=(M 2).set 0 (q8.wrap (s.aC+1)):=wF hcell rfl;have yx:kI (u7 M 3 0 (q8.wrap (s.aC+1)))=kI M+1:=by unfold kI at *;rw [f1,oK,ay ⟨rfl,by rw [hM.l2];omega⟩,an Ya Ya,EY]
 have f4:mN { s with aH:=.eb }=qc t.dQ:=by unfold mN;dsimp only;rw [ht]
 refine⟨⟨kaO,λi hi=>(by simp [rU] at hi),λe=>Ym,trivial,λn e=>?_⟩,qt ⟨e2,by rw [yx];omega⟩,qq (by unfold xO;rw [hm 4 Ya]),by unfold xu;rw [hm 3 Ya];exact Zw _,qt (qq (f4.trans e4.symm)),λj=>qq (by rw [hm 1 Ya]),λo rv _ h2=>?_,λj=>qq (by rw [hm 0 Ya])⟩;rw [f4] at e;injection e with e;subst e;unfold xu xO at *;rw [hm 3 Ya,hm 4 Ya];exact⟨xP.1,λ_=>xP.2 e3⟩;rcases h2 with h2|⟨_,h2⟩;left;unfold iX at *;rw [hm 1 Ya];exact h2;rw [e0] at h2;simp at h2
theorem Vm (hb:jX c k s) (t:jh) (ht:s.aN=qc t) (hd:s.aH=.eb) (rH:(fH s).cf=c) (a:bh) (ph v:Int):nY c s M (a,ph,fH s,u7 M 5 0 v):=by
 refine nY.of ?_;have e2:lz s=qk:=by unfold lz;rw [hd]
 have e3:nR s=qg:=by unfold nR;rw [hd]
 have hq:=(ut s).quiet;have hm:∀kk,kk≠4->u7 M 5 0 v kk=M kk:=λkk j9=>gz Ya;refine⟨⟨by rw [hq.l];exact kaO,λi hi=>(by rw [hq.l] at hi;simp at hi),λe=>(by rw [hq.c] at e;cases e),(yE s).lg rH,λn e=>(by rw [hq.t] at e;cases e)⟩,qq (by unfold kI;rw [hm 2 Ya]),qt e3,by unfold xu;rw [hm 3 Ya];exact Zw _,qq hq.t,λj=>qq (by rw [hm 1 Ya]),λo rv _ h1=>?_,λj=>qq (by rw [hm 0 Ya])⟩;rcases h1 with h1|⟨h1,_⟩;left;unfold iX at *;rw [hm 1 Ya];exact h1;rw [e2] at h1;cases h1
end
theorem W2 {s:aI} (h:lz s=qg):nR s=qg:=by
 unfold lz at h;unfold nR;revert h;cases s.aH<;>intro h<;>first
  | rfl
  | cases h
theorem WY {c:aY} {k:Nat} {s:aI} (h:nZ c k s) (hd:nR s=qg):∃n,mN s=qc n:=by
 have hD:=h.d;unfold nR at hd;unfold mN;revert hd hD;cases s.aH<;>intro hd hD<;>first
  | (cases hd;done)
  | skip
 obtain⟨_,_,⟨t,ht⟩,_⟩:=hD;dsimp only;rw [ht];exact⟨_,rfl⟩;obtain⟨_,_,t,ht⟩:=hD;dsimp only;rw [ht];exact⟨_,rfl⟩;obtain⟨_,_,_,⟨t,ht⟩,_⟩:=hD;dsimp only;rw [ht];exact⟨_,rfl⟩;obtain⟨_,_,_,⟨t,ht⟩,_⟩:=hD;dsimp only;rw [ht];exact⟨_,rfl⟩;obtain⟨_,_,t,ht⟩:=hD;dsimp only;rw [ht];exact⟨_,rfl⟩;obtain⟨_,t,ht⟩:=hD;dsimp only;rw [ht];exact⟨_,rfl⟩
section
variable {c:aY} {nt k:Nat} {s:aI} {M:Mm}
theorem iC {s:aI} (h:match s.aH with | .bL | .je _ | .dA | .bj _ _ | .eP _ | .eC _ | .gq=>True|_=>False):vX s:=by
 revert h;cases hd:s.aH<;>intro h<;>first
  | exact h.elim
  | (refine ⟨?_,?_,?_,?_⟩<;>simp [rU,lz,mN,nR,hd])
theorem nY.Bt {r:ru} (h:vX s) (h1:tP r.2.2.1/\tQ r.2.2.1/\y8 M r.2.2.2) (hc:r.2.2.1.cf=c):nY c s M r:=Mi.Bt h h1.1 h1.2.1 hc h1.2.2
theorem BT (r:jj) (u:Ac) (he:kG s):tP (dq s M r u).2.2.1/\tQ (dq s M r u).2.2.1/\y8 M (dq s M r u).2.2.2:=by
 have hm:y8 M (dW r M).2.2:=by rw [(D9 r M).2.2.2];exact .refl M
 unfold dq;dsimp only;split;exact⟨trivial,trivial,hm⟩;split;exact⟨sC _ _,sD _ _,hm⟩;split;have hp:my { (if r.d8<s.cf.bg/\¬r.d8∈s.reads then { { s with aH:=.bj (dW r M).2.1 u } with reads:=s.reads++[r.d8] } else { s with aH:=.bj (dW r M).2.1 u }) with set:=(eO s.cf.reads.toNat s.set r.iK).2,aH:=.bL }:=by
  refine⟨?_,rfl⟩;split<;>exact he.to rfl rfl rfl rfl rfl
 exact⟨UH hp _ _,UI hp _ _,hm⟩;exact⟨sC _ _,sD _ _,hm⟩
theorem Gc (p:rM) (he:kG s):tP (lD s M p).2.2.1/\tQ (lD s M p).2.2.1/\y8 M (lD s M p).2.2.2:=by
 have hm:=Vh p M;unfold lD;dsimp only;split;have hp:my { s with aH:=.bL }:=⟨he.to rfl rfl rfl rfl rfl,rfl⟩;exact⟨QU hp _ _,QW hp _ _,hm⟩;exact⟨trivial,trivial,hm⟩
theorem BX (p:gs):tP (iD s M p).2.2.1/\tQ (iD s M p).2.2.1/\y8 M (iD s M p).2.2.2:=by
 have hm:=Dp p M;unfold iD;dsimp only;split;exact⟨ut _,yE _,hm⟩;exact⟨trivial,trivial,hm⟩
theorem yK (e:gT) (hd:s.aH=.dA):tP (gK s M e).2.2.1/\tQ (gK s M e).2.2.1/\y8 M (gK s M e).2.2.2:=by
 have hm:=Qt e M;unfold gK;dsimp only;split;exact⟨trivial,trivial,hm⟩;refine⟨?_,?_,hm⟩;unfold tP;dsimp only;rw [hd];trivial;unfold tQ;dsimp only;rw [hd];trivial
theorem UY (hc:da c) (hk:k<2^40) (h:nZ c k s) (hM:lK c nt k M) (hT:sx c s M):nY c s M (ba s M):=by
 have hb:=h.b;have hd:=h.d;have rH:(ba s M).2.2.1.cf=c:=(zg hc hk h hM).1.b.cf;revert rH;unfold ba;cases e:s.aH with
 | bL=>
   intro rH;exact nY.of (Mi.quiet (iC Yn) (iC Yn) (by unfold GD;rw [e];trivial) (.refl M))
 | je l=>
   intro rH;rw [e] at hd;have hp:my { s with aH:=.bL }:=⟨hd.1.to rfl rfl rfl rfl rfl,rfl⟩;exact nY.Bt (iC Yn) ⟨Nz hp l,VN hp l,.refl M⟩ rH
 | dA=>
   rw [e] at hd;obtain⟨h0,en,h1,_⟩:=hd;dsimp only;rw [h1];intro rH;exact nY.Bt (iC Yn) (yK en e) rH
 | bj r u=>
   intro rH;rw [e] at hd;exact nY.Bt (iC Yn) (BT r u hd.1) rH
 | eP p=>
   intro rH;rw [e] at hd;exact nY.Bt (iC Yn) (Gc p hd.1) rH
 | eg=>
   rw [e] at hd;obtain⟨h0,Mu,l,h1,h2,h3,h4,h5⟩:=hd;dsimp only;rw [h1];intro _;exact VK hM hk hb l h1 h0.1 h2 h3 h4 h5 e hT
 | cY=>
   rw [e] at hd;obtain⟨h0,hl,t,h1,h2,h3⟩:=hd;dsimp only;rw [h1];intro _;exact UM hM hk h t h1 h2 e hT
 | cG ck=>
   intro _;rw [e] at hd;obtain⟨h0,hl,⟨t,ht⟩,_⟩:=hd;exact TR ck h0.2 t ht e hT
 | bM=>
   intro _;rw [e] at hd;obtain⟨h0,hl,t,ht⟩:=hd;exact Qy hM h0.2 hl.2 t ht e hT
 | dt w=>
   intro _;rw [e] at hd;obtain⟨h0,xB,hl,⟨t,ht⟩,q,h1,h2⟩:=hd;exact Sl hM hb w xB t ht q h1 h2 e hT
 | bE w=>
   intro _;rw [e] at hd;obtain⟨h0,xB,hl,⟨t,ht⟩,q,h1,h2⟩:=hd;exact rel_eff hM hk hb w xB t ht q h1 h2 e hT
 | eA=>
   intro _;rw [e] at hd;obtain⟨h0,xB,t,ht⟩:=hd;exact SF hM hk hb t ht e hT _ _
 | eb=>
   intro rH;rw [e] at hd;obtain⟨h0,t,ht⟩:=hd;exact Vm hb t ht e rH _ _ _
 | eC p=>
   intro rH;exact nY.Bt (iC Yn) (BX p) rH
 | gq=>
   intro rH;exact nY.Bt (iC Yn) ⟨trivial,trivial,.op M Ya⟩ rH
end
end
end Go.Stx
