/-
 The reference's small functions around its machines.
-/
import Derived.Test.YtncmjklabcoeaaaGreatD23
import Derived.Test.YtncmjklabcoeaaaGreatD26
set_option linter.unusedVariables false
set_option linter.unusedSimpArgs false
set_option maxRecDepth 20000
set_option maxHeartbeats 4000000
namespace Go.Stx
open Go Go.Proofs
attribute [local irreducible] fj cm aH bB dK ei
section
open T11
theorem yC (cf:bG) (mb:Nat) (t:Int) (M:Mm) (hM:fE M) :
 aP Tryz.prog 104 [.pointer (some ⟨mb,0,none⟩),.int .i64 t] [fw cf mb M] (fun v=>v=(wx M 5 0 (pg t)).v) (fun _=>[fw cf mb (ww M 5 0 (pg t))]):=by
 intro A F hw hS
 refine ab Tryz.func104 rfl (by kernel_rfl) fun _=>?_
 dsimp only [na,zo] at hS
 have hq:=Z2 hS hw
 have e:pg t=IntKind.u64.wrap (IntKind.u64.wrap t+1):=rfl
 rw [e]
 revert hq hS hw;refine W (J1 (E7 cf mb _ hM)) (J4 @AW.aa @af.eq_1 @aS.eq_1 @bq.v.eq_1) (J1 ?_)<;>unhygienic intros
 all_goals(
  refine⟨_,by simp [hq,AW.aa,af];rfl,by simp [bq.v,bq.zero,pg],?_⟩
  apply an.cC
  (·exact sA)
  (·first|exact pA|exact kA))
end
section
open T20 T16
theorem ar.K8 {A:AW} {F:HP} (kk:IntKind) (n:Nat) (h:bK A F) (hw:A.Wf):bK (A.alloc (.cells (fh [.int kk 0] n) true 1)) (ar kk (.slice (some ⟨A.next,0,none⟩) n n) (List.replicate n 0)*F):=by
 have cU:(fh [Value.int kk 0] n).length=n:=by simp [iT]
 have pO:(List.replicate n (0:Int)).map (Value.int kk)=fh [Value.int kk 0] n:=by
  clear cU
  induction n with
  | zero=>rfl
  | succ n ih=>rw [List.replicate_succ,List.map_cons,ih];rfl
 refine ar.mk (by simp) (by simp) (by simp [cU]) ?_ (h.alloc hw _)
 rw [pO,List.drop_zero,List.take_of_length_le (by simp [cU])]
theorem an.K8 {A:AW} {L:List It} (kk:IntKind) (n:Nat) (h:an A L) (hw:A.Wf):an (A.alloc (.cells (fh [.int kk 0] n) true 1)) (.h (ar kk (.slice (some ⟨A.next,0,none⟩) n n) (List.replicate n 0))::L):=ar.K8 kk n h hw
theorem yf (b pb:Nat) (s:aD) (w:gL) (M:Mm) (hd:s.aA=.et w) (cU:w.os.length=w.ws.length) (Lz:s.aj.length<2^20) :
 aP Tryz.prog 50 [pv b,pv pb] [.h (bI b s),eb pb M] (fun v=>v=.tuple #[(iZ s M w).1.v,.int .i64 (iZ s M w).2.1])
  (fun _=>[.h (bI b (iZ s M w).2.2.1),eb pb (iZ s M w).2.2.2]):=by
 obtain⟨cf,ag,av,ax,value,br,ai,ah,ac,ap,set,aM,ao,aj,aG,aE,am,aA⟩:=s
 dsimp only at hd
 subst hd
 dsimp only at Lz
 obtain⟨x,w',M',hr⟩:∃x e' M',lq w M=(x,e',M'):=⟨_,_,_,rfl⟩
 have dz:=fun n=>Ky n pb w M cU
 rw [hr] at dz
 obtain⟨vr,Qx⟩:∃vr,aD.sy ⟨cf,ag,av,ax,value,br,ai,ah,ac,ap,set,aM,ao,aj,aG,aE,am,.et w⟩=vr:=⟨_,rfl⟩
 have Rq:aD.sy ⟨cf,ag,av,ax,value,br,ai,ah,ac,ap,set,aM,ao,aj,aG,aE,am,.et w'⟩=vr:=Qx
 cases h2:w'.done
 · have e:iZ ⟨cf,ag,av,ax,value,br,ai,ah,ac,ap,set,aM,ao,aj,aG,aE,am,.et w⟩ M w=(x,17,⟨cf,ag,av,ax,value,br,ai,ah,ac,ap,set,aM,ao,aj,aG,aE,am,.et w'⟩,M'):=by
    unfold iZ;rw [hr];dsimp only;rw [h2];simp
   rw [e]
   intro A F hw hS
   refine ab Tryz.func50 rfl (by kernel_rfl) fun _=>?_
   dsimp only [na,zo] at hS
   obtain⟨⟨bh,aY,az,aJ,aK,m,c0,c1,c2,bx,aw,aB,aV,bQ,bg,cE,aW,aU,aC,bA,bC,cP,bR⟩,hS⟩:=bI.open hS .z
   dsimp only [cg,fq,bW,da,ba.eo,na,zo] at hS
   have hq:=ZO hS hw
   revert hq hS hw;clear hS;refine Wp (J2 (Tg.mk (n:=10) @xR) (dz m)) (J5 h2 @AW.aa @af.eq_1 @aS.eq_1 @bq.v.eq_1) (J1 ?_)<;>unhygienic intros
   refine⟨_,by simp [hq,AW.aa,af];rfl,by first|(simp [bq.v];done)|(simp [bq.v,h];done),?_⟩
   apply bI.cC
   (·exact sA)
   (dsimp only [cg,fi,fq,bW,da,ba.eo,bJ,aT,aQ,dT,cY,dV,fC,cZ,cW,bV,dU,dR,fB,dS,na,zo])
   try simp only [h]
   (·first|exact pP|exact kP)
   (·first|exact pP|exact kP)
   all_goals(first|exact 0|exact undef)
 · have e:iZ ⟨cf,ag,av,ax,value,br,ai,ah,ac,ap,set,aM,ao,aj,aG,aE,am,.et w⟩ M w=(x,17,⟨cf,ag,av,ax,value,br,ai,ah,ac,ap,set,aM,ao,aj,aG,aE,am,.cK ⟨aj,List.replicate aj.length (gN vr)⟩⟩,M'):=by
    unfold iZ;rw [hr];dsimp only;rw [h2,if_pos rfl,Qx]
   rw [e]
   intro A F hw hS
   refine ab Tryz.func50 rfl (by kernel_rfl) fun _=>?_
   dsimp only [na,zo] at hS
   obtain⟨⟨bh,aY,az,aJ,aK,m,c0,c1,c2,bx,aw,aB,aV,bQ,bg,cE,aW,aU,aC,bA,bC,cP,bR⟩,hS⟩:=bI.open hS .z
   dsimp only [cg,fq,bW,da,ba.eo,na,zo] at hS
   obtain⟨oo,co,rfl,_⟩:=(an.gM hS (.s (.s (.s (.s (.s (.s (.s (.s (.s .z)))))))))).cL
   have hq:=ZO hS hw
   revert hq hS hw;(repeat first|clear hq|clear hS|clear hw|revert hc|revert zn|revert zA|revert R|revert K);refine Wp trivial (J4 @AW.aa @af.eq_1 @aS.eq_1 @bq.v.eq_1) (J1 ?_)<;>unhygienic intros
   apply aP.el (dz m)
   (·exact wA)
   (·exact sA)
   (·first|exact pP|exact kP)
   rintro _ A1 rfl hS hw _
   have hS:=lA hS
   have hq:=ZO hS hw
   revert hq hS hw;(repeat first|clear hq|clear hS|clear hw|revert hc|revert zn|revert zA|revert R|revert K);refine Wp (J1 (Tg.mk (n:=10) @xR)) (J5 h2 @AW.aa @af.eq_1 @aS.eq_1 @bq.v.eq_1) (J1 ?_)<;>unhygienic intros
   obtain⟨n,hn⟩:∃n,aj.length=n:=⟨_,rfl⟩
   have X2:∀i,i≤n→List.replicate i (gN vr)++List.replicate (n-i) 0=(List.replicate i (gN vr)++List.replicate (n-i) (0:Int)):=fun _ _=>rfl
   refine ed (fun k fr A'=>A'.Wf∧∃i:Nat,k=n-i∧i≤n∧fr 0=pv b∧fr 4=.pointer (some ⟨A.next,0,none⟩)∧fr 6=.pointer (some ⟨A1.next,0,none⟩)∧fr 7=.slice (some ⟨A1.next+1,0,none⟩) n n∧fr 29=.int .i64 n∧fr 30=.int .i64 i∧
    an A' (.h (ar .u64 (.slice (some ⟨A1.next+1,0,none⟩) n n) (List.replicate i (gN vr)++List.replicate (n-i) 0))::.at A1.next (.cells [.int .i64 x.eV,.int .i64 x.cell,.int .i64 x.cc,.int .u64 x.fI,.int .u64 x.put,.bool x.done] true 1)::.at A.next (.cells aS true 1)::.h (gV m w')::eb pb M'::(cg b ⟨cf,ag,av,ax,value,br,ai,ah,ac,ap,set,aM,ao,aj,aG,aE,am,.et w'⟩ 9 (.et w') ⟨bh,aY,az,aJ,aK,m,c0,c1,c2,bx,aw,aB,.slice oo aj.length co,bQ,bg,cE,aW,aU,aC,bA,bC,cP,bR⟩++[.h F]))) n ?_ ?_
   · refine⟨?_,0,by simp,by simp,by simp,by simp,by simp,by simp [hn],by simp [hn],by simp,?_⟩
     (·exact wA)
     · simp only [List.replicate_zero,zo,Nat.sub_zero]
       rw [←hn]
       apply an.cC
       · apply an.K8
         (·exact sA)
         (·exact wA)
       (dsimp only [cg,fq,bW,da,ba.eo,dT,cY,dV,fC,cZ,cW,bV,dU,dR,fB,dS,na,zo])
       (·first|exact pP|exact kP)
   · rintro k fr A' ⟨hw,i,rfl,hi,h0,Ta,h6,h7,QN,Wk,hS⟩
     dsimp only [cg,fq,bW,da,ba.eo,dT,cY,dV,fC,cZ,cW,bV,dU,dR,fB,dS,na,zo] at hS
     refine eW ?_
     by_cases dQ:i<n
     · have ey:(i:Int)<n:=by omega
       have mc:IntKind.i64.wrap ((i:Int)+1)=((i+1:Nat):Int):=ak (by omega) (by omega)
       have Nz:(List.replicate i (gN vr)++List.replicate (n-i) (0:Int)).length=n:=by simp;omega
       obtain⟨bv,Jz,cv,MV,hv,UG,eH,fz,mg⟩:=an.Cf hS .z (j:=i) (by omega)
       rw [Nz] at hv UG
       injection hv with vN Kl EJ
       injection vN with vN
       injection vN with vN Xt _
       subst vN;subst Xt
       have oG:=hS
       have hS:=mg
       have hq:=ZO hS hw
       have IP:i<MV.length:=by omega
       simp only [Nat.zero_add] at eH fz
       revert hq hS hw;(repeat first|clear hq|clear hS|clear hw|revert hc|revert zn|revert zA|revert R|revert K);refine Wp (J2 (Tg.mk (n:=30) (fun A' h1 h2=>lu b ⟨cf,ag,av,ax,value,br,ai,ah,ac,ap,set,aM,ao,aj,aG,aE,am,.et w'⟩ 9 (.et w') A' h1 h2)) @Hs) (pw h0 Ta h6 h7 QN Wk Rq dQ ey mc eH IP @AW.aa @af.eq_1) (J1 ?_)<;>unhygienic intros
       refine⟨n-(i+1),by omega,hw.set _ (an.uP hS hw .z (Nat.le_refl _)),i+1,rfl,by omega,by simp [h0],by simp [Ta],by simp [h6],by simp [h7],by simp [QN],by simp,?_⟩
       have h9:=fz (gN vr) _ _ (an.jd hS .z)
       have e9:(List.replicate i (gN vr)++List.replicate (n-i) (0:Int)).set i (gN vr)=List.replicate (i+1) (gN vr)++List.replicate (n-(i+1)) 0:=by
        rw [List.set_append_right _ _ (by simp)]
        simp only [List.length_replicate,Nat.sub_self]
        rw [show n-i=(n-(i+1))+1 by omega,List.replicate_succ,List.set_cons_zero,List.replicate_succ',List.append_assoc];rfl
       rw [e9] at h9
       exact h9
     · have zG:i=n:=by omega
       subst zG
       simp only [Nat.sub_self,List.replicate_zero,List.append_nil] at hS
       have hq:=ZO hS hw
       revert hq hS hw;(repeat first|clear hq|clear hS|clear hw|revert hc|revert zn|revert zA|revert R|revert K);refine Wp (J1 (Tg.mk (n:=12) @rW)) (J8 h0 Ta h6 h7 QN Wk @AW.aa @af.eq_1) (J1 ?_)<;>unhygienic intros
       rw [show List.replicate aj.length (gN vr)=List.replicate i (gN vr) by rw [hn]]
       refine⟨_,by simp [hq,Ta,AW.aa,af];rfl,by simp [bq.v,aS],?_⟩
       apply bI.cC
       (·exact sA)
       (dsimp only [cg,fi,fq,bW,da,ba.eo,bJ,aT,aQ,dT,cY,dV,fC,cZ,cW,bV,dU,dR,fB,dS,na,zo])
       try simp only [h]
       (·first|exact pP|exact kP)
       (·first|exact pP|exact kP)
       all_goals(first|exact 0|exact undef)
end
section
section
variable {A:AW} {L K:List It} {k:Value→AW→Prop} {b:Nat} {x0 x1 x2 x3 x4 x5 x6 x7 x8 x9 CE ER GV Av BU EE ED MM EC EB EA Ez Ey Ex ML Kg Ew Ev Eu Et Es GN GM GL Er GK Ep Eo En Em El Ek Ej Ei:Value}
theorem vH (dh:List Value) (hl:dh.length=44) (ax:Int) (u:Bool) (hw:A.Wf) (hS:an A L) (hp:ay L (.at b (.cells dh true 1)) K)
 (hk:∀v A',an A' (.at b (.cells (if ax=0 then dh.set 25 (.int .i64 2) else (((dh.set 25 (.int .i64 2)).set 31 (.int .i64 ax)).set 32 (.bool (!u))).set 33 (.bool u)) true 1)::K)→A'.Wf→k v A'):aH Tryz.prog 83 [pv b,.int .i64 ax,.bool u] A k:=
 aP.el (KM b dh hl ax u) hw hS (.s hp .z) fun v A' _ h gY _=>hk v A' h gY
theorem yM (hw:A.Wf) (hS:an A L) (hp:ay L (.at b (.cells [x0,x1,x2,x3,x4,x5,x6,x7,x8,x9,CE,ER,GV,Av,BU,EE,ED,MM,EC,EB,EA,Ez,Ey,Ex,ML,Kg,Ew,Ev,Eu,Et,Es,GN,GM,GL,Er,GK,Ep,Eo,En,Em,El,Ek,Ej,Ei] true 1)) K)
 (hk:∀v A',an A' (.at b (.cells [x0,x1,x2,x3,x4,x5,x6,x7,x8,x9,CE,ER,GV,Av,BU,EE,ED,MM,EC,EB,EA,Ez,Ey,Ex,ML,.int .i64 2,Ew,Ev,Eu,Et,Es,GN,GM,GL,Er,GK,Ep,Eo,En,Em,El,Ek,Ej,Ei] true 1)::K)→A'.Wf→k v A'):aH Tryz.prog 83 [pv b,.int .i64 0,.bool false] A k:=
 vH [x0,x1,x2,x3,x4,x5,x6,x7,x8,x9,CE,ER,GV,Av,BU,EE,ED,MM,EC,EB,EA,Ez,Ey,Ex,ML,Kg,Ew,Ev,Eu,Et,Es,GN,GM,GL,Er,GK,Ep,Eo,En,Em,El,Ek,Ej,Ei] rfl 0 false hw hS hp fun v A' h gY=>hk v A' (by exact h) gY
theorem oe {ax:Int} (hc:ax≠0) (hw:A.Wf) (hS:an A L) (hp:ay L (.at b (.cells [x0,x1,x2,x3,x4,x5,x6,x7,x8,x9,CE,ER,GV,Av,BU,EE,ED,MM,EC,EB,EA,Ez,Ey,Ex,ML,Kg,Ew,Ev,Eu,Et,Es,GN,GM,GL,Er,GK,Ep,Eo,En,Em,El,Ek,Ej,Ei] true 1)) K)
 (hk:∀v A',an A' (.at b (.cells [x0,x1,x2,x3,x4,x5,x6,x7,x8,x9,CE,ER,GV,Av,BU,EE,ED,MM,EC,EB,EA,Ez,Ey,Ex,ML,.int .i64 2,Ew,Ev,Eu,Et,Es,.int .i64 ax,.bool true,.bool false,Er,GK,Ep,Eo,En,Em,El,Ek,Ej,Ei] true 1)::K)→A'.Wf→k v A'):aH Tryz.prog 83 [pv b,.int .i64 ax,.bool false] A k:=
 vH [x0,x1,x2,x3,x4,x5,x6,x7,x8,x9,CE,ER,GV,Av,BU,EE,ED,MM,EC,EB,EA,Ez,Ey,Ex,ML,Kg,Ew,Ev,Eu,Et,Es,GN,GM,GL,Er,GK,Ep,Eo,En,Em,El,Ek,Ej,Ei] rfl ax false hw hS hp fun v A' h gY=>hk v A' (by rw [if_neg hc] at h;exact h) gY
end
end
section
abbrev sG:List (Nat×Nat):=[(0,0),(1,0),(2,0),(3,0),(4,0),(5,0),(6,0),(8,0),(9,0),(10,0),(11,0),(7,2),(12,2),(13,0),(14,0),(15,3)]
section
variable {A:AW} {L K:List It} {k:Value→AW→Prop}
theorem mC {n:Nat} {s:ln} {a:Int} (iK:jq s) (hl:s.bl.length≤32) (hw:A.Wf) (hS:an A L) (hp:ay L (.h (fY n s)) K) (hk:k (.tuple #[.int .u64 (eC s a).1,.bool (eC s a).2]) A):aH Tryz.prog 189 [pv n,.int .i64 a] A k:=by
 obtain⟨va,vv,vi,h⟩:=fY.open hS hp
 refine bD (Dc n va vv vi s a A iK h.mZ.1 (an.gM h (.s .z)) (an.gM h (.s (.s .z))) (by omega)) ?_
 rintro _ _ ⟨rfl,rfl⟩ _ _
 exact hk
end
variable {c:bG} {b aY:Nat} {rv:Int} {aM:ln} {Av BU EE ED EC EB EA Ez Ey Ex Kg Ew Ev Eu Et Es GN GM GL Er GK Ep Eo En Em El Ek Ej Ei:Value}
theorem yR (a:Int) (iK:jq aM) (hl:aM.bl.length≤32) (hg:(eC aM a).2=true):aP Tryz.prog 175 [pv b,.int .i64 a] [.at b (.cells [.int .i64 c.aF,.int .i64 c.aj,.int .i64 c.base,.int .i64 c.c0,.int .i64 c.c1,.int .i64 c.c2,.int .i64 c.c3,.int .i64 c.ah,.int .i64 c.bX,.int .i64 c.ac,.int .i64 c.ap,.int .i64 c.ao,.bool c.cT,Av,BU,EE,ED,.int .i64 rv,EC,EB,EA,Ez,Ey,Ex,pv aY,Kg,Ew,Ev,Eu,Et,Es,GN,GM,GL,Er,GK,Ep,Eo,En,Em,El,Ek,Ej,Ei] true 1),.h (fY aY aM)] (fun _=>True)
 (fun _=>[.at b (.cells [.int .i64 c.aF,.int .i64 c.aj,.int .i64 c.base,.int .i64 c.c0,.int .i64 c.c1,.int .i64 c.c2,.int .i64 c.c3,.int .i64 c.ah,.int .i64 c.bX,.int .i64 c.ac,.int .i64 c.ap,.int .i64 c.ao,.bool c.cT,Av,BU,EE,ED,.int .i64 rv,EC,EB,EA,Ez,Ey,Ex,pv aY,.int .i64 2,Ew,Ev,Eu,Et,Es,GN,GM,GL,Er,GK,Ep,Eo,En,Em,El,Ek,Ej,Ei] true 1),.h (fY aY aM)]):=by
 intro A F hw hS
 refine ab Tryz.func175 rfl (by kernel_rfl) fun _=>?_
 dsimp only [na,zo] at hS
 have hq:=ZQ hS hw
 have uU:∀(k:Value→AW→Prop),k (.tuple #[.int .u64 (eC aM a).1,.bool (eC aM a).2]) A→aH Tryz.prog 189 [pv aY,.int .i64 a] A k:=fun k hk=>mC iK hl hw hS (.s .z) hk
 simp only [hg] at uU
 repeat' (first
 | (refine il fun R hR=>?_;simp [ak,au,hq,AW.aa,af];try simp (disch:=omega) only [if_pos,if_neg,ak,au])
 | (refine hR _ _ ?_;clear hR R)|(refine hK _ _ ?_;clear hK K)|refine nx ?_
 | refine wn fun K hK=>?_
 | simp only [wS,sG]
 | refine wl Tryz.mx sG (by decide +kernel) fun K hK=>?_
 | (refine uU _ ?_)
 | (apply yM;(·exact wA);(·exact sA);(·first|exact pR|exact kR);((first|rintro _ _ _ hS hw eG|rintro _ _ hS hw eG|rintro _ _ hS hw);(try refine⟨eG,?_⟩);(try dsimp only [AW.aZ] at hS);have hq:=ZM hS hw))
 | refine wb ?_|refine wr ?_|refine wk ?_|refine we ?_|refine ws ?_|refine wq ?_
 | (refine wc rfl (fun hc=>?_) (fun hc=>?_)<;>(try simp at hc)<;>(try omega)<;>(try (simp [h2] at hc;done))<;>(try (simp [h3] at hc;done))<;>(try (simp [h4] at hc;done)))
 | (refine ib (fun hc=>?_) (fun hc=>?_)<;>(try omega)<;>(try simp (disch:=omega) only [if_pos,if_neg])))
 refine⟨_,by first|rfl|(simp;rfl),trivial,?_⟩
 apply an.cC
 (·exact sA)
 (·first|exact pR|exact kR)
theorem wC (a:Int) (hc:dt c) (iK:jq aM) (hl:aM.bl.length≤32) (hg:¬(eC aM a).2=true) (A:AW) (L K:List It) (k:Value→AW→Prop) (hw:A.Wf) (hS:an A L) (hp:aX L [.at b (.cells [.int .i64 c.aF,.int .i64 c.aj,.int .i64 c.base,.int .i64 c.c0,.int .i64 c.c1,.int .i64 c.c2,.int .i64 c.c3,.int .i64 c.ah,.int .i64 c.bX,.int .i64 c.ac,.int .i64 c.ap,.int .i64 c.ao,.bool c.cT,Av,BU,EE,ED,.int .i64 rv,EC,EB,EA,Ez,Ey,Ex,pv aY,Kg,Ew,Ev,Eu,Et,Es,GN,GM,GL,Er,GK,Ep,Eo,En,Em,El,Ek,Ej,Ei] true 1),.h (fY aY aM)] K)
 (hk:∀v m A',an A' (.at m (gA ⟨a,fJ c a,rv,0,0,0,false⟩)::.at b (.cells [.int .i64 c.aF,.int .i64 c.aj,.int .i64 c.base,.int .i64 c.c0,.int .i64 c.c1,.int .i64 c.c2,.int .i64 c.c3,.int .i64 c.ah,.int .i64 c.bX,.int .i64 c.ac,.int .i64 c.ap,.int .i64 c.ao,.bool c.cT,Av,BU,EE,ED,.int .i64 rv,EC,EB,EA,Ez,Ey,Ex,pv aY,.int .i64 3,Ew,Ev,Eu,Et,Es,GN,GM,GL,Er,pv m,Ep,Eo,En,Em,El,Ek,Ej,Ei] true 1)::.h (fY aY aM)::K)→A'.Wf→k v A'):aH Tryz.prog 175 [pv b,.int .i64 a] A k:=by
 have hF:an A [.at b (.cells [.int .i64 c.aF,.int .i64 c.aj,.int .i64 c.base,.int .i64 c.c0,.int .i64 c.c1,.int .i64 c.c2,.int .i64 c.c3,.int .i64 c.ah,.int .i64 c.bX,.int .i64 c.ac,.int .i64 c.ap,.int .i64 c.ao,.bool c.cT,Av,BU,EE,ED,.int .i64 rv,EC,EB,EA,Ez,Ey,Ex,pv aY,Kg,Ew,Ev,Eu,Et,Es,GN,GM,GL,Er,GK,Ep,Eo,En,Em,El,Ek,Ej,Ei] true 1),.h (fY aY aM),.h (bn K)]:=by
  unfold an at hS ⊢
  rw [hp.bn] at hS
  exact hS.dp (by show bn [It.at b _,It.h (fY aY aM)]*bn K=pt b _*(fY aY aM*(bn K*fa));simp only [bn,It.hp,dx];ac_rfl)
 refine bD (?_:aH Tryz.prog 175 [pv b,.int .i64 a] A (fun v A'=>∃m,an A' [.at m (gA ⟨a,fJ c a,rv,0,0,0,false⟩),.at b (.cells [.int .i64 c.aF,.int .i64 c.aj,.int .i64 c.base,.int .i64 c.c0,.int .i64 c.c1,.int .i64 c.c2,.int .i64 c.c3,.int .i64 c.ah,.int .i64 c.bX,.int .i64 c.ac,.int .i64 c.ap,.int .i64 c.ao,.bool c.cT,Av,BU,EE,ED,.int .i64 rv,EC,EB,EA,Ez,Ey,Ex,pv aY,.int .i64 3,Ew,Ev,Eu,Et,Es,GN,GM,GL,Er,pv m,Ep,Eo,En,Em,El,Ek,Ej,Ei] true 1),.h (fY aY aM),.h (bn K)])) ?_
 · clear hk hS hp
   have hS:=hF
   refine ab Tryz.func175 rfl (by kernel_rfl) fun _=>?_
   have uc:=yF c hc a
   dsimp only [bG.v] at uc
   have hq:=ZQ hS hw
   have X7:(eC aM a).2=false:=by simpa using hg
   have uU:∀(k:Value→AW→Prop),k (.tuple #[.int .u64 (eC aM a).1,.bool (eC aM a).2]) A→aH Tryz.prog 189 [pv aY,.int .i64 a] A k:=fun k hk=>mC iK hl hw hS (.s .z) hk
   simp only [X7] at uU
   repeat' (first
   | (refine il fun R hR=>?_;simp [ak,au,hq,AW.aa,af];try simp (disch:=omega) only [if_pos,if_neg,ak,au])
   | (refine hR _ _ ?_;clear hR R)|(refine hK _ _ ?_;clear hK K)|refine nx ?_
   | refine wn fun K hK=>?_
   | simp only [wS,sG]
   | refine wl Tryz.mx sG (by decide +kernel) fun K hK=>?_
   | (refine bD (uc _) ?_;rintro _ _ ⟨rfl,rfl⟩ _ _)
   | (refine bD (Be _ _ _ _) ?_;rintro _ _ ⟨rfl,rfl⟩ _ _)
   | (refine uU _ ?_)
   | refine wb ?_|refine wr ?_|refine wk ?_|refine we ?_|refine ws ?_|refine wq ?_
   | (refine wc rfl (fun hc=>?_) (fun hc=>?_)<;>(try simp at hc)<;>(try omega)<;>(try (simp [h2] at hc;done))<;>(try (simp [h3] at hc;done))<;>(try (simp [h4] at hc;done)))
   | (refine ib (fun hc=>?_) (fun hc=>?_)<;>(try omega)<;>(try simp (disch:=omega) only [if_pos,if_neg])))
   refine⟨_,by first|rfl|(simp;rfl),A.next,?_⟩
   apply an.cC
   (·exact sA)
   (·first|exact pR|exact kR)
 · rintro v A' ⟨m,h⟩ gY _
   refine hk v m A' ?_ gY
   unfold an at h ⊢
   exact h.dp (by simp only [bn,It.hp,dx])
end
section
open T28 T16
theorem ur (d:ba):eQ d=0↔d.eo=0:=by cases d<;>simp [eQ,ba.eo]
theorem rD (b:Nat) (s:aD) (h:¬s.jY 1=true) (A:AW) (L K:List It) (hw:A.Wf) (hS:an A L) (hp:ay L (.h (bF b s)) K):eF 82 [pv b] A (.bool false):=by
 obtain⟨f,hS⟩:=bF.open hS hp
 have hg:=hS.mZ.1
 have hi:=iP b _ (eQ s.aA) s.av rfl rfl A hg
 have e:(decide (eQ s.aA=0) && decide (s.av=1))=false:=by
  have:s.jY 1=false:=by simpa using h
  unfold aD.jY at this
  rw [←this]
  simp [ur]
 rwa [e] at hi
end
end Go.Stx
