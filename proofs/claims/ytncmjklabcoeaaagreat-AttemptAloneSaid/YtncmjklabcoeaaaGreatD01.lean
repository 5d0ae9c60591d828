/-
 Items found by search: calls and endings of walks.
-/
import Derived.Test.YtncmjklabcoeaaaGreatF3
import Derived.Test.YtncmjklabcoeaaaGreatF0
set_option linter.unusedVariables false
set_option linter.unusedSimpArgs false
set_option maxRecDepth 20000
set_option maxHeartbeats 4000000
namespace Go.Stx
open Go
inductive ay:List It→It→List It→Prop where
 | z {x:It} {L:List It}:ay (x::L) x L
 | s {x y:It} {L K:List It}:ay L x K→ay (y::L) x (y::K)
 | e {x y:It} {L:List It}:x.hp=y.hp→ay (x::L) y L
inductive aX:List It→List It→List It→Prop where
 | z {L:List It}:aX L [] L
 | s {x:It} {L M J K:List It}:ay L x M→aX M J K→aX L (x::J) K
theorem ay.bn {L K:List It} {x:It} (h:ay L x K):bn L=x.hp*bn K:=by
 induction h with
 | z=>rfl
 | e h=>
   rename_i x y L
   show x.hp*Stx.bn L=y.hp*Stx.bn L
   rw [h]
 | s h ih=>
   rename_i x y L K
   show y.hp*Stx.bn L=x.hp*(y.hp*Stx.bn K)
   rw [ih];ac_rfl
theorem aX.bn {L J K:List It} (h:aX L J K):bn L=bn J*bn K:=by
 induction h with
 | z=>rename_i L;show Stx.bn L=fa*Stx.bn L;rw [iS]
 | s h1 h2 ih=>
   rename_i x L M J K
   rw [h1.bn,ih]
   show x.hp*(Stx.bn J*Stx.bn K)=x.hp*Stx.bn J*Stx.bn K
   ac_rfl
theorem ay.Au {b:Nat} {o o':ef} {L:List It} (h:o=o'):ay (.at b o::L) (.at b o') L:=by rw [h];exact .z
theorem aP.el {P:Program} {f:FuncId} {args:List Value} {pd:List It} {φ:Value→Prop} {post:Value→List It} (h:aP P f args pd φ post) {A:AW} {L K:List It} {k:Value→AW→Prop} (hw:A.Wf) (hS:an A L) (e:aX L pd K)
 (hk:∀v A',φ v→an A' (post v++K)→A'.Wf→A.next≤A'.next→k v A'):aH P f args A k:=by
 have oG:an A (pd++[.h (Stx.bn K)]):=by
  unfold an at *
  rw [e.bn] at hS
  rw [fN]
  show bK A (Stx.bn pd*(Stx.bn K*fa))
  rw [dx]
  exact hS
 refine bD (h A (Stx.bn K) hw oG) ?_
 rintro v A' ⟨h1,h2⟩ gY hn
 refine hk v A' h1 ?_ gY hn
 unfold an at *
 rw [fN] at h2 ⊢
 have h3:bK A' (Stx.bn (post v)*(Stx.bn K*fa)):=h2
 rwa [dx] at h3
theorem an.cC {A:AW} {L G K:List It} (h:an A L) (e:aX L G K):an A G:=by
 unfold an at *
 rw [e.bn] at h
 exact h.left
theorem an.jd {A:AW} {L K:List It} {i:Nat} {o o':ef} (h:an A L) (e:ay L (.at i o) K):an (A.set i (some o')) (.at i o'::K):=by
 unfold an at *
 rw [e.bn] at h
 exact bK.set h o'
theorem an.jn {A:AW} {L:List It} {o:ef} (h:an A L) (hw:A.Wf):an (A.alloc o) (.at A.next o::L):=h.alloc hw o
theorem an.uP {A X:AW} {L K:List It} {i:Nat} {o:ef} (h:an A L) (hw:A.Wf) (e:ay L (.at i o) K) (hl:A.next≤X.next):i<X.next:=by
 unfold an at h
 rw [e.bn] at h
 exact Nat.lt_of_lt_of_le (hw.lt (bK.cy h)) hl
theorem wA {A:AW} (h':A.Wf:=by first|((repeat' (first|assumption|apply AW.Wf.alloc|apply AW.Wf.set|exact Nat.le_refl _|(simp only [AW.aZ,AW.dq];omega)|apply an.uP hS hw|apply ay.z|apply ay.s));done)|fail):A.Wf:=h'
theorem sA {A:AW} {L:List It} (h':an A L:=by first|((repeat' (first|exact hS|exact Nat.le_refl _|with_reducible apply an.jd|with_reducible apply an.jZ|with_reducible apply AW.gE|with_reducible apply AW.jU|with_reducible apply an.jn|with_reducible apply ay.z|with_reducible apply ay.s|assumption|apply AW.Wf.alloc|apply AW.Wf.set|(simp only [AW.aZ,AW.dq];omega)|apply an.uP hS hw|exact rfl));done)|fail):an A L:=h'
theorem pA {L G K:List It} (h':aX L G K:=by first|((repeat' (first|apply aX.z|apply aX.s|apply ay.z|apply ay.s));done)|fail):aX L G K:=h'
theorem kA {L K:List It} {x:It} (h':ay L x K:=by first|((repeat' (first|apply aX.z|apply aX.s|apply ay.z|apply ay.s));done)|fail):ay L x K:=h'
theorem lA {A:AW} {L L':List It} (h:an A L) (h':L=L':=by first|(dsimp only [AW.aZ,na,zo];done)|exact rfl):an A L':=h'▸h
namespace T0
theorem iE {A:AW} {L:List It} {T:Prop} (hS:an A L) (hw:A.Wf) (h':(bp A L∧bY A L∧cS L)=T:=by first|(dsimp only [na,zo,bp,bY,cS,eN];done)|exact rfl):T:=h'▸hS.eA hw
end T0
namespace T1
theorem iE {A:AW} {L:List It} {T:Prop} (hS:an A L) (hw:A.Wf) (h':(bp A L∧bY A L∧cS L)=T:=by first|(dsimp only [na,zo,bp,bY,cS,eN,eb,gk,iL,ll,j4,gS];done)|exact rfl):T:=h'▸hS.eA hw
end T1
theorem ZV {A:AW} {L:List It} {T:Prop} (hS:an A L) (hw:A.Wf) (h':(bp A L∧bY A L∧cS L)=T:=by first|(dsimp only [na,zo,eb,bp,bY,cS,eN,gk,iL,ll,j4,gS];done)|exact rfl):T:=h'▸hS.eA hw
namespace T3
theorem iE {A:AW} {L:List It} {T:Prop} (hS:an A L) (hw:A.Wf) (h':(bp A L∧bY A L∧cS L)=T:=by first|(dsimp only [na,zo,bp,bY,cS,eN,eb];done)|exact rfl):T:=h'▸hS.eA hw
end T3
theorem Z4 {A:AW} {L:List It} {T:Prop} (hS:an A L) (hw:A.Wf) (h':(bp A L∧bY A L∧cS L)=T:=by first|(dsimp only [na,zo,eb,bp,bY,cS,eN];done)|exact rfl):T:=h'▸hS.eA hw
namespace T5
theorem iE {A:AW} {L:List It} {T:Prop} (hS:an A L) (hw:A.Wf) (h':(bp A L∧bY A L∧cS L)=T:=by first|(dsimp only [na,zo,bp,bY,cS,eN,fw,eY,iy,kQ,gj,gA];done)|exact rfl):T:=h'▸hS.eA hw
end T5
namespace T7
theorem iE {A:AW} {L:List It} {T:Prop} (hS:an A L) (hw:A.Wf) (h':(bp A L∧bY A L∧cS L)=T:=by first|(dsimp only [na,zo,bp,bY,cS,eN,fw,jC];done)|exact rfl):T:=h'▸hS.eA hw
end T7
namespace T9
theorem iE {A:AW} {L:List It} {T:Prop} (hS:an A L) (hw:A.Wf) (h':(bp A L∧bY A L∧cS L)=T:=by first|(dsimp only [na,zo,bp,bY,cS,eN,ko];done)|exact rfl):T:=h'▸hS.eA hw
end T9
namespace T10
theorem iE {A:AW} {L:List It} {T:Prop} (hS:an A L) (hw:A.Wf) (h':(bp A L∧bY A L∧cS L)=T:=by first|(dsimp only [na,zo,bp,bY,cS,eN,gw];done)|exact rfl):T:=h'▸hS.eA hw
end T10
namespace T11
theorem iE {A:AW} {L:List It} {T:Prop} (hS:an A L) (hw:A.Wf) (h':(bp A L∧bY A L∧cS L)=T:=by first|(dsimp only [na,zo,bp,bY,cS,eN,fw];done)|exact rfl):T:=h'▸hS.eA hw
end T11
theorem Z2 {A:AW} {L:List It} {T:Prop} (hS:an A L) (hw:A.Wf) (h':(bp A L∧bY A L∧cS L)=T:=by first|(dsimp only [na,zo,fw,bp,bY,cS,eN];done)|exact rfl):T:=h'▸hS.eA hw
theorem ZX {A:AW} {L:List It} {T:Prop} (hS:an A L) (hw:A.Wf) (h':(bp A L∧bY A L∧cS L)=T:=by first|(dsimp only [na,zo,bp,bY,cS,eN,gw];done)|exact rfl):T:=h'▸hS.eA hw
theorem ZQ {A:AW} {L:List It} {T:Prop} (hS:an A L) (hw:A.Wf) (h':(bp A L∧bY A L∧cS L)=T:=by first|(dsimp only [na,zo,bp,bY,cS,eN];done)|exact rfl):T:=h'▸hS.eA hw
namespace T15
theorem iE {A:AW} {L:List It} {T:Prop} (hS:an A L) (hw:A.Wf) (h':(bp A L∧bY A L∧cS L)=T:=by first|(dsimp only [na,zo,bp,bY,cS,eN,fi,gk,iL,ll,j4,gS];done)|exact rfl):T:=h'▸hS.eA hw
end T15
namespace T16
theorem VI {A:AW} {L:List It} {T:Prop} (hS:an A L) (hw:A.Wf) (h':(bp A L∧bY A L∧cS L)=T:=by first|(dsimp only [na,zo,bp,bY,cS,eN,fi,dT,cY,dV,fC,cZ,cW,bV,dU,dR,fB,dS];done)|exact rfl):T:=h'▸hS.eA hw
end T16
theorem Z0 {A:AW} {L:List It} {T:Prop} (hS:an A L) (hw:A.Wf) (h':(bp A L∧bY A L∧cS L)=T:=by first|(dsimp only [na,zo,bp,bY,cS,eN,fi];done)|exact rfl):T:=h'▸hS.eA hw
theorem ZT {A:AW} {L:List It} {T:Prop} (hS:an A L) (hw:A.Wf) (h':(bp A L∧bY A L∧cS L)=T:=by first|(dsimp only [na,zo,bp,bY,cS,eN,fi,gk,iL,ll,j4,gS];done)|exact rfl):T:=h'▸hS.eA hw
theorem ZN {A:AW} {L:List It} {T:Prop} (hS:an A L) (hw:A.Wf) (h':(bp A L∧bY A L∧cS L)=T:=by first|(dsimp only [na,zo,bp,bY,cS,eN,fi,dT,cY,dV,fC,cZ,cW,bV,dU,dR,fB,dS];done)|exact rfl):T:=h'▸hS.eA hw
namespace T20
theorem iE {A:AW} {L:List It} {T:Prop} (hS:an A L) (hw:A.Wf) (h':(bp A L∧bY A L∧cS L)=T:=by first|(dsimp only [na,zo,bp,bY,cS,eN,fi,gk,iL,ll,j4,gS,eb];done)|exact rfl):T:=h'▸hS.eA hw
end T20
theorem ZR {A:AW} {L:List It} {T:Prop} (hS:an A L) (hw:A.Wf) (h':(bp A L∧bY A L∧cS L)=T:=by first|(dsimp only [na,zo,bp,bY,cS,eN,fi,gk,iL,ll,j4,gS,eb];done)|exact rfl):T:=h'▸hS.eA hw
theorem ZO {A:AW} {L:List It} {T:Prop} (hS:an A L) (hw:A.Wf) (h':(bp A L∧bY A L∧cS L)=T:=by first|(dsimp only [na,zo,eb,bp,bY,cS,eN,fi,dT,cY,dV,fC,cZ,cW,bV,dU,dR,fB,dS];done)|exact rfl):T:=h'▸hS.eA hw
namespace T23
theorem iE {A:AW} {L:List It} {T:Prop} (hS:an A L) (hw:A.Wf) (h':(bp A L∧bY A L∧cS L)=T:=by first|(dsimp only [na,zo,bp,bY,cS,eN,fi,gk,iL,ll,j4,gS,eb,dT,cY,dV,fC,cZ,cW,bV,dU,dR,fB,dS];done)|exact rfl):T:=h'▸hS.eA hw
end T23
theorem ZP {A:AW} {L:List It} {T:Prop} (hS:an A L) (hw:A.Wf) (h':(bp A L∧bY A L∧cS L)=T:=by first|(dsimp only [na,zo,bp,bY,cS,eN,fi,gk,iL,ll,j4,gS,eb,dT,cY,dV,fC,cZ,cW,bV,dU,dR,fB,dS];done)|exact rfl):T:=h'▸hS.eA hw
namespace T25
theorem iE {A:AW} {L:List It} {T:Prop} (hS:an A L) (hw:A.Wf) (h':(bp A L∧bY A L∧cS L)=T:=by first|(dsimp only [na,zo,bp,bY,cS,eN,up,oK];done)|exact rfl):T:=h'▸hS.eA hw
end T25
theorem ZZ {A:AW} {L:List It} {T:Prop} (hS:an A L) (hw:A.Wf) (h':(bp A L∧bY A L∧cS L)=T:=by first|(dsimp only [na,zo,bp,bY,cS,eN,up,oK];done)|exact rfl):T:=h'▸hS.eA hw
theorem ZY {A:AW} {L:List It} {T:Prop} (hS:an A L) (hw:A.Wf) (h':(bp A L∧bY A L∧cS L)=T:=by first|(dsimp only [na,zo,eb,fw,bp,bY,cS,eN,up,oK];done)|exact rfl):T:=h'▸hS.eA hw
namespace T28
theorem iE {A:AW} {L:List It} {T:Prop} (hS:an A L) (hw:A.Wf) (h':(bp A L∧bY A L∧cS L)=T:=by first|(dsimp only [na,zo,bp,bY,cS,eN,bH,gA,kQ,gj,eY,iy,jA,jC,gp,iA,ko,fw,eb,eQ,cO,bf,ff,bO,bP,bd,be,bL,bc,bN,aO,aI,bM,aN,bJ,aT,aQ,aD.rv];done)|exact rfl):T:=h'▸hS.eA hw
end T28
theorem ZL {A:AW} {L:List It} {T:Prop} (hS:an A L) (hw:A.Wf) (h':(bp A L∧bY A L∧cS L)=T:=by first|(dsimp only [na,zo,fw,eb,bp,bY,cS,eN,gA,kQ,gj,eY,iy,jA,jC,gp,iA,ko,bE,bH,cJ,bj,cR,eQ,cO,bf,ff,bO,bP,bd,be,bL,bc,bN,aO,aI,bM,aN,bJ,aT,aQ,aD.rv,na,zo];done)|exact rfl):T:=h'▸hS.eA hw
theorem ZM {A:AW} {L:List It} {T:Prop} (hS:an A L) (hw:A.Wf) (h':(bp A L∧bY A L∧cS L)=T:=by first|(dsimp only [na,zo,bp,bY,cS,eN,bH,gA,kQ,gj,eY,iy,jA,jC,gp,iA,ko,fw,eb,eQ,cO,bf,ff,bO,bP,bd,be,bL,bc,bN,aO,aI,bM,aN,bJ,aT,aQ,aD.rv];done)|exact rfl):T:=h'▸hS.eA hw
theorem Z1 {A:AW} {L:List It} {T:Prop} (hS:an A L) (hw:A.Wf) (h':(bp A L∧bY A L∧cS L)=T:=by first|(dsimp only [na,zo,fw,bp,bY,cS,eN,jA];done)|exact rfl):T:=h'▸hS.eA hw
end Go.Stx
