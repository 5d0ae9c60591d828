/-
 The program's attempt: how it lies in memory.
-/
import Derived.Test.YtncmjklabcoeaaaGreatD14
import Derived.Test.YtncmjklabcoeaaaGreatD13
set_option linter.unusedVariables false
set_option linter.unusedSimpArgs false
set_option maxRecDepth 20000
set_option maxHeartbeats 4000000
namespace Go.Stx
open Go Go.Proofs
attribute [local irreducible] fj cm aH bB dK ei
section
abbrev pv (n:Nat):Value:=.pointer (some ⟨n,0,none⟩)
abbrev bu (v:Value):ef:=.cells [v] true 1
structure pL where
 bh:Nat
 aY:Nat
 az:Nat
 aJ:Nat
 aK:Nat
 m:Nat
 c0:Nat
 c1:Nat
 c2:Nat
 bx:Value
 aw:Value
 aB:Value
 aV:Value
 bQ:Value
 bg:Value
 cE:Value
 aW:Value
 aU:Value
 aC:Value
 bA:Value
 bC:Value
 cP:Value
 bR:Value
def bJ:Option dC→Nat→Value|none,_=>.pointer none|some _,n=>pv n
def aT:Option eM→Nat→Value|none,_=>.pointer none|some _,n=>pv n
def aQ:Option fL→Nat→Value|none,_=>.pointer none|some _,n=>pv n
def dT:ba→pL→Value | .bz _ _,f=>pv f.m|_,f=>f.bQ
def cY:ba→pL→Value | .bz r _,_=>.int .i64 r.cj|_,f=>f.bg
def dV:ba→pL→Value | .bz r _,_=>.int .i64 r.cA|_,f=>f.bR
def fC:ba→pL→Value | .eE _,f=>pv f.m|_,f=>f.cE
def cZ:ba→pL→Value | .dG _,f=>pv f.m|_,f=>f.aW
def cW:ba→pL→Value | .et _,f=>pv f.m|_,f=>f.aU
def bV:ba→pL→Value | .cK _,f=>pv f.m|_,f=>f.aC
def dU:ba→pL→Value | .eZ _,f=>pv f.m|_,f=>f.bA
def dS:vu→pL→Value
 | .fy,f=>.func (.func 170) #[] #[pv f.c0]
 | .Gw,f=>.func (.func 178) #[] #[pv f.c0]
 | .cC _,f=>.func (.func 64) #[] #[pv f.c0,pv f.c1]
 | .take _,f=>.func (.func 173) #[] #[pv f.c0,pv f.c1]
 | .fu _ _,f=>.func (.func 59) #[] #[pv f.c0,pv f.c1,pv f.c2]
 | .r9,f=>.func (.func 77) #[] #[pv f.c0]
 | .cM _ _,f=>.func (.func 179) #[] #[pv f.c0,pv f.c1,pv f.c2]
def dR:ba→pL→Value
 | .jV k,f=>dS k f
 | .eE _,f=>.func (.func 80) #[] #[pv f.c0,pv f.c1]
 | _,f=>f.bC
def fB:ba→pL→Value
 | .bz _ .take,f=>.func (.func 171) #[] #[pv f.c0]
 | .bz _ (.cM _),f=>.func (.func 181) #[] #[pv f.c0,pv f.c1]
 | _,f=>f.cP
def fi (s:aD) (cj:Int) (d:ba) (f:pL):ef:=.cells [pv f.bh,pv f.aY,f.bx,f.aw,f.aB,
 bJ s.br f.az,dT d f,cY d f,fC d f,aT s.aG f.aJ,aQ s.aE f.aK,cZ d f,cW d f,bV d f,dU d f,
 .int .i64 s.cf.aF,.int .i64 s.cf.aj,.int .i64 s.cf.base,.int .i64 s.cf.c0,.int .i64 s.cf.c1,.int .i64 s.cf.c2,.int .i64 s.cf.c3,.int .i64 s.cf.ah,.int .i64 s.cf.bX,.int .i64 s.cf.ac,.int .i64 s.cf.ap,.int .i64 s.cf.ao,.bool s.cf.cT,
 .int .i64 s.ag,.int .i64 s.av,.int .i64 s.ax,.int .i64 cj,dR d f,fB d f,dV d f,.int .u64 s.value,f.aV,.int .u64 s.ao,.bool s.ai,.int .i64 s.am] true 1
def BS:Option dC→Nat→HP|none,_=>fa|some e,n=>pt n (gk e)
def oO:Option eM→Nat→HP|none,_=>fa|some l,n=>gG n l
def qq:Option fL→Nat→HP|none,_=>fa|some t,n=>pt n (iL t)
def bW (b:Nat):vu→pL→List It
 | .fy,f | .Gw,f | .r9,f=>[.at f.c0 (bu (pv b))]
 | .cC ax,f=>[.at f.c0 (bu (pv b)),.at f.c1 (bu (.int .i64 ax))]
 | .take v,f=>[.at f.c0 (bu (.func (.func 171) #[] #[pv f.c2])),.at f.c1 (bu (.int .u64 v)),.at f.c2 (bu (pv b))]
 | .fu a v,f=>[.at f.c0 (bu (pv b)),.at f.c1 (bu (.int .u64 a)),.at f.c2 (bu (.int .u64 v))]
 | .cM k v,f=>[.at f.c0 (bu (pv b)),.at f.c1 (bu (.int .i64 k)),.at f.c2 (bu (.int .u64 v))]
def da (b:Nat):qX→pL→List It
 | .take,f=>[.at f.c0 (bu (pv b))]
 | .cM k,f=>[.at f.c0 (bu (pv b)),.at f.c1 (bu (.int .i64 k))]
def fq (b:Nat):ba→pL→List It
 | .jV k,f=>bW b k f
 | .bz r u,f=>.at f.m (gS r)::da b u f
 | .eE p,f=>[.at f.m (ll p),.at f.c0 (bu (pv b)),.at f.c1 (bu (.int .i64 p.dB))]
 | .dG c,f=>[.h (iV f.m c)]
 | .et w,f=>[.h (gV f.m w)]
 | .cK w,f=>[.h (gV f.m w)]
 | .eZ p,f=>[.at f.m (j4 p)]
 | _,_=>[]
def cg (b:Nat) (s:aD) (cj:Int) (d:ba) (f:pL):List It:=[.at b (fi s cj d f),.h (BS s.br f.az),.h (oO s.aG f.aJ),.h (qq s.aE f.aK),
 .h (oV f.bh s.cf.ah.toNat s.set),.h (fY f.aY s.aM),.h (ar .i64 f.bx s.ah),.h (ar .i64 f.aw s.ac),.h (ar .i64 f.aB s.ap),.h (ar .i64 f.aV s.aj)]
def gW (b:Nat) (s:aD) (cj:Int) (d:ba):HP:=rt fun f:pL=>bn (cg b s cj d f)
def bI (b:Nat) (s:aD):HP:=rt fun f:pL=>bn (cg b s s.aA.eo s.aA f++fq b s.aA f)
theorem ay.aE {n:Nat} {t:fL} {L:List It}:ay (.at n (iL t)::L) (.h (qq (some t) n)) L:=.e rfl
theorem ay.br {n:Nat} {t:dC} {L:List It}:ay (.at n (gk t)::L) (.h (BS (some t) n)) L:=.e rfl
theorem ay.KT {n:Nat} {t:eM} {L:List It}:ay (.h (gG n t)::L) (.h (oO (some t) n)) L:=.e rfl
section
variable {A:AW} {L K:List It} {b:Nat} {s:aD} {cj:Int} {d:ba}
theorem gW.open (h:an A L) (hp:ay L (.h (gW b s cj d)) K):∃f,an A (cg b s cj d f++K):=mo h hp
theorem bI.open (h:an A L) (hp:ay L (.h (bI b s)) K):∃f,an A (cg b s s.aA.eo s.aA f++fq b s.aA f++K):=mo h hp
theorem gW.eh {bh aY az aJ aK m c0 c1 c2:Nat} {bx aw aB aV bQ bg cE aW aU aC bA bC cP bR:Value} (h:an A L)
 (e:aX L (cg b s cj d ⟨bh,aY,az,aJ,aK,m,c0,c1,c2,bx,aw,aB,aV,bQ,bg,cE,aW,aU,aC,bA,bC,cP,bR⟩) K):an A (.h (gW b s cj d)::K):=k4 ⟨bh,aY,az,aJ,aK,m,c0,c1,c2,bx,aw,aB,aV,bQ,bg,cE,aW,aU,aC,bA,bC,cP,bR⟩ h e
theorem bI.eh {bh aY az aJ aK m c0 c1 c2:Nat} {bx aw aB aV bQ bg cE aW aU aC bA bC cP bR:Value} (h:an A L)
 (e:aX L (cg b s s.aA.eo s.aA ⟨bh,aY,az,aJ,aK,m,c0,c1,c2,bx,aw,aB,aV,bQ,bg,cE,aW,aU,aC,bA,bC,cP,bR⟩++fq b s.aA ⟨bh,aY,az,aJ,aK,m,c0,c1,c2,bx,aw,aB,aV,bQ,bg,cE,aW,aU,aC,bA,bC,cP,bR⟩) K):an A (.h (bI b s)::K):=k4 ⟨bh,aY,az,aJ,aK,m,c0,c1,c2,bx,aw,aB,aV,bQ,bg,cE,aW,aU,aC,bA,bC,cP,bR⟩ h e
theorem bI.cC {bh aY az aJ aK m c0 c1 c2:Nat} {bx aw aB aV bQ bg cE aW aU aC bA bC cP bR:Value} {G K2:List It} (h:an A L)
 (e:aX L (cg b s s.aA.eo s.aA ⟨bh,aY,az,aJ,aK,m,c0,c1,c2,bx,aw,aB,aV,bQ,bg,cE,aW,aU,aC,bA,bC,cP,bR⟩++fq b s.aA ⟨bh,aY,az,aJ,aK,m,c0,c1,c2,bx,aw,aB,aV,bQ,bg,cE,aW,aU,aC,bA,bC,cP,bR⟩) K) (e2:aX K G K2):an A (.h (bI b s)::G):=
 an.cC (bI.eh h e) (.s .z e2)
theorem gW.cC {bh aY az aJ aK m c0 c1 c2:Nat} {bx aw aB aV bQ bg cE aW aU aC bA bC cP bR:Value} {G K2:List It} (h:an A L)
 (e:aX L (cg b s cj d ⟨bh,aY,az,aJ,aK,m,c0,c1,c2,bx,aw,aB,aV,bQ,bg,cE,aW,aU,aC,bA,bC,cP,bR⟩) K) (e2:aX K G K2):an A (.h (gW b s cj d)::G):=
 an.cC (gW.eh h e) (.s .z e2)
theorem gW.QW {bh aY az aJ aK m c0 c1 c2:Nat} {bx aw aB aV bQ bg cE aW aU aC bA bC cP bR:Value} (h:an A L)
 (e:aX L (cg b s cj d ⟨bh,aY,az,aJ,aK,m,c0,c1,c2,bx,aw,aB,aV,bQ,bg,cE,aW,aU,aC,bA,bC,cP,bR⟩) K):an A [.h (gW b s cj d)]:=an.cC (gW.eh h e) (.s .z .z)
theorem bI.Tk (h:an A L) (hp:ay L (.h (bI b s)) K):an A (.h (gW b s s.aA.eo s.aA)::K):=by
 obtain⟨f,h⟩:=bI.open h hp
 have h1:an A (cg b s s.aA.eo s.aA f++(fq b s.aA f++K)):=by rw [←List.append_assoc];exact h
 have h2:an A (.h (gW b s s.aA.eo s.aA)::(fq b s.aA f++K)):=k4 (g:=cg b s s.aA.eo s.aA) f h1 (by
  repeat' (first|apply aX.z|apply aX.s|apply ay.z))
 unfold an at h2 ⊢
 have h3:bK A (gW b s s.aA.eo s.aA*bn (fq b s.aA f++K)):=h2
 rw [fN] at h3
 have h4:bK A (bn (fq b s.aA f)*(gW b s s.aA.eo s.aA*bn K)):=h3.dp (by ac_rfl)
 exact bK.right h4
theorem aP.Jb {P:Program} {f:FuncId} {args:List Value} {pd:List It} {φ:Value→Prop} {post:Value→List It} (hc:aP P f args (.h (gW b s cj d)::pd) φ post) {bh aY az aJ aK m c0 c1 c2:Nat} {bx aw aB aV bQ bg cE aW aU aC bA bC cP bR:Value} {K0:List It} {k:Value→AW→Prop} (hw:A.Wf) (hS:an A L)
 (e:aX L (cg b s cj d ⟨bh,aY,az,aJ,aK,m,c0,c1,c2,bx,aw,aB,aV,bQ,bg,cE,aW,aU,aC,bA,bC,cP,bR⟩) K0) (e2:aX K0 pd K) (hk:∀v A',φ v→an A' (post v++K)→A'.Wf→A.next≤A'.next→k v A'):aH P f args A k:=
 aP.el hc hw (gW.eh hS e) (.s .z e2) hk
theorem aP.xU {P:Program} {f:FuncId} {args:List Value} {pd:List It} {φ:Value→Prop} {post:Value→List It} (hc:aP P f args (.h (bI b s)::pd) φ post) {bh aY az aJ aK m c0 c1 c2:Nat} {bx aw aB aV bQ bg cE aW aU aC bA bC cP bR:Value} {K0:List It} {k:Value→AW→Prop} (hw:A.Wf) (hS:an A L)
 (e:aX L (cg b s s.aA.eo s.aA ⟨bh,aY,az,aJ,aK,m,c0,c1,c2,bx,aw,aB,aV,bQ,bg,cE,aW,aU,aC,bA,bC,cP,bR⟩++fq b s.aA ⟨bh,aY,az,aJ,aK,m,c0,c1,c2,bx,aw,aB,aV,bQ,bg,cE,aW,aU,aC,bA,bC,cP,bR⟩) K0) (e2:aX K0 pd K) (hk:∀v A',φ v→an A' (post v++K)→A'.Wf→A.next≤A'.next→k v A'):aH P f args A k:=
 aP.el hc hw (bI.eh hS e) (.s .z e2) hk
theorem BS.op {n:Nat} {e:dC} (h:an A L) (hp:ay L (.h (BS (some e) n)) K):an A (.at n (gk e)::K):=by
 unfold an at h ⊢
 rw [hp.bn] at h
 exact h
theorem qq.op {n:Nat} {e:fL} (h:an A L) (hp:ay L (.h (qq (some e) n)) K):an A (.at n (iL e)::K):=by
 unfold an at h ⊢
 rw [hp.bn] at h
 exact h
theorem oO.op {n:Nat} {e:eM} (h:an A L) (hp:ay L (.h (oO (some e) n)) K):an A (.h (gG n e)::K):=by
 unfold an at h ⊢
 rw [hp.bn] at h
 exact h
theorem BS.cl {n:Nat} {e:dC} (h:an A L) (hp:ay L (.at n (gk e)) K):an A (.h (BS (some e) n)::K):=by
 unfold an at h ⊢
 rw [hp.bn] at h
 exact h
theorem qq.cl {n:Nat} {e:fL} (h:an A L) (hp:ay L (.at n (iL e)) K):an A (.h (qq (some e) n)::K):=by
 unfold an at h ⊢
 rw [hp.bn] at h
 exact h
theorem oO.cl {n:Nat} {e:eM} (h:an A L) (hp:ay L (.h (gG n e)) K):an A (.h (oO (some e) n)::K):=by
 unfold an at h ⊢
 rw [hp.bn] at h
 exact h
theorem wW {f:FuncId} {args:List Value} {V:Value} {b:Nat} {s:aD} {cj:Int} {d:ba} (hC:∀A':AW,A'.Wf→an A' [.h (gW b s cj d)]→eF f args A' V)
 {A:AW} {L K0:List It} {bh aY az aJ aK m c0 c1 c2:Nat} {bx aw aB aV bQ bg cE aW aU aC bA bC cP bR:Value} {k:Value→AW→Prop} (hw:A.Wf) (hS:an A L) (e:aX L (cg b s cj d ⟨bh,aY,az,aJ,aK,m,c0,c1,c2,bx,aw,aB,aV,bQ,bg,cE,aW,aU,aC,bA,bC,cP,bR⟩) K0) (hk:k V A):aH Tryz.prog f args A k:=by
 refine bD (hC A hw (gW.QW hS e)) ?_
 rintro _ _ ⟨rfl,rfl⟩ _ _
 exact hk
end
theorem pP {L G K:List It} (h':aX L G K:=by first|((repeat' (first|apply aX.z|apply aX.s|apply ay.z|apply ay.aE|apply ay.br|apply ay.KT|apply ay.s));done)|fail):aX L G K:=h'
theorem kP {L K:List It} {x:It} (h':ay L x K:=by first|((repeat' (first|apply aX.z|apply aX.s|apply ay.z|apply ay.aE|apply ay.br|apply ay.KT|apply ay.s));done)|fail):ay L x K:=h'
theorem fP {L G K:List It} (h':aX L G K:=by first|((dsimp only [cg,fi,dT,cY,dV,fC,cZ,cW,bV,dU,dR,fB,dS,bJ,aT,aQ,fq,bW,da,ba.eo,na,zo]);(try simp only [h]);(repeat' (first|apply aX.z|apply aX.s|apply ay.z|apply ay.aE|apply ay.br|apply ay.KT|apply ay.s));done)|fail):aX L G K:=h'
end
section
open T15 T16
theorem Cx (b:Nat) (s:aD) (d:ba) (A:AW) (hw:A.Wf) (hS:an A [.h (gW b s s.aA.eo d)]):eF 14 [pv b] A (.bool s.Gu):=by
 refine ab Tryz.func14 rfl (by kernel_rfl) fun _=>?_
 obtain⟨⟨bh,aY,az,aJ,aK,m,c0,c1,c2,bx,aw,aB,aV,bQ,bg,cE,aW,aU,aC,bA,bC,cP,bR⟩,hS⟩:=gW.open hS .z
 dsimp only [cg,na,zo] at hS
 have hq:=ZN hS hw
 revert hq hS hw;clear hS;refine Wp trivial (J1 @AW.aa) (J1 ?_)<;>unhygienic intros
 exact⟨_,rfl,by simp [aD.Gu],rfl⟩
theorem yV (b:Nat) (s:aD) (st:Int) (d:ba) (A:AW) (hw:A.Wf) (hS:an A [.h (gW b s s.aA.eo d)]):eF 41 [pv b,.int .i64 st] A (.int .i64 (if s.jY st=true then 0 else 1)):=by
 refine ab Tryz.func41 rfl (by kernel_rfl) fun _=>?_
 have hb:=Cx b s d A hw hS
 obtain⟨⟨bh,aY,az,aJ,aK,m,c0,c1,c2,bx,aw,aB,aV,bQ,bg,cE,aW,aU,aC,bA,bC,cP,bR⟩,hS⟩:=gW.open hS .z
 dsimp only [cg,na,zo] at hS
 have hq:=ZN hS hw
 by_cases h1:s.aA.eo=0
 · have h2:s.Gu=false:=by simp [aD.Gu,h1]
   rw [h2] at hb
   by_cases h3:s.av=st
   · revert hq hS hw;clear hS;refine Wp (J1 @hb) (J3 h1 h3 @AW.aa) (J1 ?_)<;>unhygienic intros
     exact⟨_,rfl,by simp [aD.jY,h1,h3],rfl⟩
   · revert hq hS hw;(repeat first|clear hq|clear hS|clear hw|revert hc|revert zn|revert zA|revert R|revert K);refine Wp (J1 @hb) (J3 h1 h3 @AW.aa) (J1 ?_)<;>unhygienic intros
     exact⟨_,rfl,by simp [aD.jY,h1,h3],rfl⟩
 · have h2:s.Gu=true:=by simp [aD.Gu,h1]
   rw [h2] at hb
   repeat' (first
   | (refine il fun R hR=>?_;simp [ak,au,hq,h1,AW.aa];try simp (disch:=omega) only [if_pos,if_neg,ak,au])
   | (refine hR _ _ ?_;clear hR R)|(refine hK _ _ ?_;clear hK K)|refine nx ?_
   | refine wn fun K hK=>?_
   | simp only [wS]
   | (refine bD (hb) ?_;rintro _ _ ⟨rfl,rfl⟩ _ _)
   | refine wb ?_|refine wr ?_|refine wk ?_|refine we ?_|refine ws ?_|refine wq ?_
   | (refine wc rfl (fun hc=>?_) (fun hc=>?_)<;>(try simp at hc)<;>(try omega)<;>(try (simp [h2] at hc;done))<;>(try (simp [h3] at hc;done))<;>(try (simp [h4] at hc;done)))
   | (refine ib (fun hc=>?_) (fun hc=>?_)<;>(try omega)<;>(try simp (disch:=omega) only [if_pos,if_neg])))
   exact⟨_,rfl,by simp [aD.jY,h1],rfl⟩
theorem nF (b:Nat) (s:aD) (cj a:Int) (d:ba) (hc:dt s.cf) (A:AW) (hw:A.Wf) (hS:an A [.h (gW b s cj d)]):eF 60 [pv b,.int .u64 a] A (.bool (decide (s.cf.aF≤a))):=by
 refine ab Tryz.func60 rfl (by kernel_rfl) fun _=>?_
 obtain⟨⟨bh,aY,az,aJ,aK,m,c0,c1,c2,bx,aw,aB,aV,bQ,bg,cE,aW,aU,aC,bA,bC,cP,bR⟩,hS⟩:=gW.open hS .z
 dsimp only [cg,na,zo] at hS
 have hq:=ZN hS hw
 obtain⟨w0,w1⟩:=hc.aF
 have DF:IntKind.u64.wrap s.cf.aF=s.cf.aF:=au (by omega) (by omega)
 revert hq hS hw hc;clear hS;refine Wp trivial (J2 DF @AW.aa) (J1 ?_)<;>unhygienic intros
 exact⟨_,rfl,by simp,rfl⟩
theorem yk (b:Nat) (s:aD) (cj:Int) (d:ba) (A:AW) (hw:A.Wf) (hS:an A [.h (gW b s cj d)]):eF 24 [pv b] A (.int .i64 s.av):=by
 refine ab Tryz.func24 rfl (by kernel_rfl) fun _=>?_
 obtain⟨⟨bh,aY,az,aJ,aK,m,c0,c1,c2,bx,aw,aB,aV,bQ,bg,cE,aW,aU,aC,bA,bC,cP,bR⟩,hS⟩:=gW.open hS .z
 dsimp only [cg,na,zo] at hS
 have hq:=ZN hS hw
 revert hq hS hw;clear hS;refine Wp trivial (J1 @AW.aa) (J1 ?_)<;>unhygienic intros
 exact⟨_,rfl,rfl,rfl⟩
theorem Cw (b:Nat) (s:aD) (cj:Int) (d:ba) (A:AW) (hw:A.Wf) (hS:an A [.h (gW b s cj d)]):eF 21 [pv b] A (.int .i64 s.ax):=by
 refine ab Tryz.func21 rfl (by kernel_rfl) fun _=>?_
 obtain⟨⟨bh,aY,az,aJ,aK,m,c0,c1,c2,bx,aw,aB,aV,bQ,bg,cE,aW,aU,aC,bA,bC,cP,bR⟩,hS⟩:=gW.open hS .z
 dsimp only [cg,na,zo] at hS
 have hq:=ZN hS hw
 revert hq hS hw;clear hS;refine Wp trivial (J1 @AW.aa) (J1 ?_)<;>unhygienic intros
 exact⟨_,rfl,rfl,rfl⟩
theorem DW (b:Nat) (s:aD) (cj:Int) (d:ba) (A:AW) (hw:A.Wf) (hS:an A [.h (gW b s cj d)]):eF 22 [pv b] A (.bool s.ai):=by
 refine ab Tryz.func22 rfl (by kernel_rfl) fun _=>?_
 obtain⟨⟨bh,aY,az,aJ,aK,m,c0,c1,c2,bx,aw,aB,aV,bQ,bg,cE,aW,aU,aC,bA,bC,cP,bR⟩,hS⟩:=gW.open hS .z
 dsimp only [cg,na,zo] at hS
 have hq:=ZN hS hw
 revert hq hS hw;clear hS;refine Wp trivial (J1 @AW.aa) (J1 ?_)<;>unhygienic intros
 exact⟨_,rfl,rfl,rfl⟩
theorem kj (b:Nat) (s:aD) (cj:Int) (d:ba) (A:AW) (hw:A.Wf) (hS:an A [.h (gW b s cj d)]):eF 119 [pv b] A (.bool s.iv):=by
 refine ab Tryz.func119 rfl (by kernel_rfl) fun _=>?_
 obtain⟨⟨bh,aY,az,aJ,aK,m,c0,c1,c2,bx,aw,aB,aV,bQ,bg,cE,aW,aU,aC,bA,bC,cP,bR⟩,hS⟩:=gW.open hS .z
 dsimp only [cg,na,zo] at hS
 obtain⟨va,vv,vi,hS⟩:=fY.open hS (.s (.s (.s (.s (.s .z)))))
 obtain⟨oa,ca,rfl,_⟩:=(an.gM hS (.s .z)).cL
 have Nz:=FS aY _ oa _ ca vv vi A (hS.g 0 rfl)
 have hq:=ZN hS hw
 by_cases h:s.ax=1
 · revert hq hS hw;clear hS;clear hS;refine Wp (J1 @Nz) (J2 h @AW.aa) (J1 ?_)<;>unhygienic intros
   exact⟨_,rfl,by simp [aD.iv,h],rfl⟩
 · revert hq hS hw;(repeat first|clear hq|clear hS|clear hw|revert hc|revert zn|revert zA|revert R|revert K);refine Wp (J1 @Nz) (J2 h @AW.aa) (J1 ?_)<;>unhygienic intros
   exact⟨_,rfl,by simp [aD.iv,h],rfl⟩
theorem lu (b:Nat) (s:aD) (cj:Int) (d:ba) (A:AW) (hw:A.Wf) (hS:an A [.h (gW b s cj d)]):eF 38 [pv b] A (.int .i64 s.sy):=by
 refine ab Tryz.func38 rfl (by kernel_rfl) fun _=>?_
 have dn:=kj b s cj d A hw hS
 obtain⟨⟨bh,aY,az,aJ,aK,m,c0,c1,c2,bx,aw,aB,aV,bQ,bg,cE,aW,aU,aC,bA,bC,cP,bR⟩,hS⟩:=gW.open hS .z
 dsimp only [cg,na,zo] at hS
 have hq:=ZN hS hw
 cases h:s.ai<;>cases h2:s.iv
 all_goals(rw [h2] at dn)
 all_goals(revert hq hS hw;clear hS;refine Wp (J1 @dn) (J2 h @AW.aa) (J1 ?_)<;>unhygienic intros)
 all_goals exact⟨_,rfl,by simp [aD.sy,h,h2],rfl⟩
theorem nS (b:Nat) (s:aD) (cj:Int) (d:ba) (A:AW) (hw:A.Wf) (hS:an A [.h (gW b s cj d)]):eF 112 [pv b] A (.int .i64 s.rv):=by
 refine ab Tryz.func112 rfl (by kernel_rfl) fun _=>?_
 obtain⟨⟨bh,aY,az,aJ,aK,m,c0,c1,c2,bx,aw,aB,aV,bQ,bg,cE,aW,aU,aC,bA,bC,cP,bR⟩,hS⟩:=gW.open hS .z
 dsimp only [cg,na,zo] at hS
 cases he:s.br with
 | none=>
   have hq:=ZN hS hw
   rw [he] at hq
   dsimp only [bJ] at hq
   revert hq hS hw;clear hS;refine Wp trivial (J1 @AW.aa) (J1 ?_)<;>unhygienic intros
   exact⟨_,rfl,by simp [aD.rv,he],rfl⟩
 | some en=>
   rw [he] at hS
   have r5:A.cy az=some (gk en):=(BS.op hS (.s .z)).g 0 rfl
   have Xy:=sj az en A r5
   have hq:=ZN hS hw
   rw [he] at hq
   dsimp only [bJ] at hq
   revert hq hS hw;(repeat first|clear hq|clear hS|clear hw|revert hc|revert zn|revert zA|revert R|revert K);refine Wp (J1 @Xy) (J1 @AW.aa) (J1 ?_)<;>unhygienic intros
   exact⟨_,rfl,by simp [aD.rv,he],rfl⟩
end
section
open T23 T16
theorem an.JS {A:AW} {L:List It} (h:an A L):an A (.h fa::L):=by
 unfold an at h ⊢
 show bK A (fa*bn L)
 rw [iS]
 exact h
theorem Hv {A:AW} {L:List It} {k:Value→AW→Prop} {w:Nat} (DF:w≤32) (hw:A.Wf) (hS:an A L) (hk:∀n A',an A' (.h (fY n (gv w))::L)→A'.Wf→k (pv n) A'):aH Tryz.prog 118 [.int .i64 w] A k:=by
 refine bD (FL w DF A L hw hS) ?_
 rintro _ A' ⟨n,rfl,h1⟩ gY _
 exact hk n A' h1 gY
theorem FH (c:bG) (hc:dt c) (t:Int) (A:AW) (F:HP) (hw:A.Wf) (hS:an A [.h F]) :
 aH Tryz.prog 36 [c.v,.int .i64 t] A (fun v A'=>∃b,v=pv b∧an A' [.h (bI b (iD c t)),.h F]):=by
 refine ab Tryz.func36 rfl (by kernel_rfl) fun _=>?_
 obtain⟨r0,r1⟩:=hc.ah
 obtain⟨w0,w1⟩:=hc.bX
 obtain⟨w,Mq⟩:∃w:Nat,c.bX=w:=⟨c.bX.toNat,by omega⟩
 dsimp only [bG.v]
 rw [Mq]
 repeat' (first
 | (refine il fun R hR=>?_;simp [ak,au,AW.aa,af];try simp (disch:=omega) only [if_pos,if_neg,ak,au])
 | (refine hR _ _ ?_;clear hR R)|(refine hK _ _ ?_;clear hK K)|refine nx ?_
 | refine wn fun K hK=>?_
 | simp only [wS]
 | (refine bD (FJ c.ah _ ⟨by omega,r1⟩) ?_;rintro _ _ ⟨rfl,rfl⟩ _ _)
 | (refine ⟨fun A' kL=>by simp [AW.aa,kL],?_⟩)
 | (refine ⟨by simp [hq],?_⟩)
 | (refine AC (fun A'=>A'.cy A.next=some (.cells [.int .i64 c.aF,.int .i64 c.aj,.int .i64 c.base,.int .i64 c.c0,.int .i64 c.c1,.int .i64 c.c2,.int .i64 c.c3,.int .i64 c.ah,.int .i64 w,.int .i64 c.ac,.int .i64 c.ap,.int .i64 c.ao,.bool c.cT] true 1)) Tryz.mx [(0,0),(1,0),(3,0),(4,0),(7,1),(8,0),(2,2),(5,3),(6,0),(9,0),(10,2),(11,0)] (by decide +kernel) fun K hK=>?_)
 | (apply Hv (by omega);(·exact wA);(·exact sA);((first|rintro _ _ _ hS hw eG|rintro _ _ hS hw eG|rintro _ _ hS hw);(try refine⟨eG,?_⟩);(try dsimp only [AW.aZ] at hS);have hq:=ZP hS hw))
 | refine wb ?_|refine wr ?_|refine wk ?_|refine we ?_|refine ws ?_|refine wq ?_
 | (refine wc rfl (fun hc=>?_) (fun hc=>?_)<;>(try simp at hc)<;>(try omega)<;>(try (simp [h2] at hc;done))<;>(try (simp [h3] at hc;done))<;>(try (simp [h4] at hc;done)))
 | (refine ib (fun hc=>?_) (fun hc=>?_)<;>(try omega)<;>(try simp (disch:=omega) only [if_pos,if_neg])))
 have e:iD c t=⟨c,t,0,0,0,none,false,[],[],[],[],gv w,0,[],none,none,0,.bm⟩:=by unfold iD;rw [Mq]
 have h:=Mq
 refine⟨_,by first|rfl|(simp;rfl),_,rfl,?_⟩
 rw [e]
 apply bI.cC
 · apply an.rV .i64
   apply an.rV .i64
   apply an.rV .i64
   apply an.rV .i64
   apply an.JS
   apply an.JS
   apply an.JS
   apply oV.eh (dA:=c.ah.toNat) (l:=[]) (v:=.slice none 0 0)
   · apply an.rV .i64
     (·exact sA)
   (·first|exact pP|exact kP)
 (dsimp only [cg,fi,fq,bW,da,ba.eo,bJ,aT,aQ,dT,cY,dV,fC,cZ,cW,bV,dU,dR,fB,dS,na,zo])
 simp only [h]
 (·first|exact pP|exact kP)
 (·first|exact pP|exact kP)
 all_goals(first|exact 0|exact undef)
end
end Go.Stx
