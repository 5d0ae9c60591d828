/-
 The library's Clone at lists of integers.
-/
import Derived.Test.YtncmjklabcoeaaaGreatD01
set_option linter.unusedVariables false
set_option linter.unusedSimpArgs false
set_option maxRecDepth 20000
set_option maxHeartbeats 4000000
namespace Go.Stx
open Go Go.Proofs
attribute [local irreducible] fj cm aH bB dK ei TW hN mP
section
open T0
theorem cF.wM {A:AW} {k:IntKind} {l:List Int} {n c:Nat} (h:cF A k (.slice none n c) l):l=[]:=by
 rcases h with ⟨_,h,_⟩|⟨p,c,dh,own,u,h,_⟩
 · exact List.eq_nil_of_length_eq_zero h
 · cases h
theorem jF (v:Value) (l:List Int) (A:AW) (h:cF A .i64 v l) (hl:l.length<2^39) :
 aH Tryz.prog 210 [v] A (fun v' A'=>dk A.next A' .i64 v' l∧A.le A'):=by
 refine ab Tryz.func210 rfl (by kernel_rfl) fun hw=>?_
 obtain⟨o,c,rfl,_⟩:=h.cL
 cases o with
 | none=>
   have:=h.wM
   subst this
   revert hw;refine W trivial trivial (J1 ?_)<;>unhygienic intros
   simpa using ⟨dk.nil _ _ _,AW.le.refl A⟩
 | some p=>
   have l0:=AW.le.alloc A (.cells [] true 1)
   have w0:=hw.alloc (.cells [] true 1)
   have h1:=h.le l0 hw
   have kD:dk A.next (A.alloc (.cells [] true 1)) .i64 (.slice (some ⟨A.next,0,none⟩) 0 0) []:=
    .inr ⟨⟨A.next,0,none⟩,0,[],rfl,Nat.le_refl _,rfl,Nat.le_refl _,AW.gO _ _,by simp,by simp⟩
   obtain⟨v',A',h2,h3,h4,h5,h6⟩:=w6 (P:=Tryz.prog) (t:=72) Tryz.underlying72 Tryz.info3 Tryz.zero3 rfl rfl kD h1 (by simp;omega) (by simp) (by simp) w0
   revert hw;(repeat first|clear hw|revert hc|revert zn|revert zA|revert R|revert K);refine W trivial (J1 h2) (J1 ?_)<;>unhygienic intros
   simp
   exact⟨by simpa using h3,h4 A (Nat.le_refl _) l0⟩
theorem ir (v:Value) (l:List Int) (A:AW) (h:cF A .u64 v l) (hl:l.length<2^39) :
 aH Tryz.prog 65 [v] A (fun v' A'=>dk A.next A' .u64 v' l∧A.le A'):=by
 refine ab Tryz.func65 rfl (by kernel_rfl) fun hw=>?_
 obtain⟨o,c,rfl,_⟩:=h.cL
 cases o with
 | none=>
   have:=h.wM
   subst this
   revert hw;refine W trivial trivial (J1 ?_)<;>unhygienic intros
   simpa using ⟨dk.nil _ _ _,AW.le.refl A⟩
 | some p=>
   have l0:=AW.le.alloc A (.cells [] true 1)
   have w0:=hw.alloc (.cells [] true 1)
   have h1:=h.le l0 hw
   have kD:dk A.next (A.alloc (.cells [] true 1)) .u64 (.slice (some ⟨A.next,0,none⟩) 0 0) []:=
    .inr ⟨⟨A.next,0,none⟩,0,[],rfl,Nat.le_refl _,rfl,Nat.le_refl _,AW.gO _ _,by simp,by simp⟩
   obtain⟨v',A',h2,h3,h4,h5,h6⟩:=w6 (P:=Tryz.prog) (t:=43) Tryz.underlying43 Tryz.info45 Tryz.zero45 rfl rfl kD h1 (by simp;omega) (by simp) (by simp) w0
   revert hw;(repeat first|clear hw|revert hc|revert zn|revert zA|revert R|revert K);refine W trivial (J1 h2) (J1 ?_)<;>unhygienic intros
   simp
   exact⟨by simpa using h3,h4 A (Nat.le_refl _) l0⟩
end
section
open Go.Proofs Go
theorem JW {P:Program} {r:Operand→Value} {A:AW} {k':Value→AW→Prop} {x y:Operand} {t:TypeId} {s u v':Value} {A':AW}
 (e1:r x=s) (e2:r y=u) (h:iH P A t t s u=some (v',A')) (hk:k' v' A'):iC P (.call ⟨.builtin .append,#[x,y],#[t,t]⟩) r A k':=by
 have h1:aq P A r (.call ⟨.builtin .append,#[x,y],#[t,t]⟩)=none:=by simp [aq]
 have h2:ae P A r (.call ⟨.builtin .append,#[x,y],#[t,t]⟩)=some (v',A'):=by
  show (if t=t then iH P A t t (r x) (r y) else _)=_
  rw [if_pos rfl,e1,e2,h]
 unfold iC
 rw [h1,h2]
 exact hk
section
variable {P:Program} {S:AW→Prop} {K:Fr→AW→Prop} {jB:List xP} {a:Fr} {A:AW} {d:Option Tmp} {m:Nat} {x y:Operand} {t e:TypeId} {i:TypeInfo} {z:Value} {k:IntKind} {l:List Int} {n:Nat} {yv:Int} {v:Value} {L K':List It}
theorem Ag {k':Value→AW→Prop} (hu:P.underlying t=some (.slice e)) (hi:P.info? e=some i) (hz:i.zero=some z) (iq:i.size=1) (rb:z.cells.size=1) (BH:i.bytes≤8)
 (e1:ki a x=v) (e2:ki a y=.slice (some ⟨n,0,none⟩) 1 1) (hw:A.Wf) (hS:an A L) (hp:ay L (.h (ar k v l)) K') (hn:A.cy n=some (.cells [.int k yv] true 1)) (cU:l.length<2 ^ 40)
 (hk:∀o c A',an A' (.h (ar k (.slice o (l.length+1) c) (l++[yv]))::K')→A'.Wf→A.next≤A'.next→k' (.slice o (l.length+1) c) A') :
 iC P (.call ⟨.builtin .append,#[x,y],#[t,t]⟩) (ki a) A k':=by
 have h1:bK A (ar k v l*bn K'):=by
  unfold an at hS
  rw [hp.bn] at hS
  exact hS
 obtain⟨v',A',e3,h2,h3,h4⟩:=ar.N5 (P:=P) (t:=t) yv n hu hi hz iq rb hn h1 cU BH hw
 obtain⟨o,c,h5,_⟩:=(ar.is h2).cL
 have h6:v'=.slice o (l.length+1) c:=by simpa using h5
 subst h6
 exact JW e1 e2 e3 (hk o c A' h2 h3 h4)
theorem Oo (hu:P.underlying t=some (.slice e)) (hi:P.info? e=some i) (hz:i.zero=some z) (iq:i.size=1) (rb:z.cells.size=1) (BH:i.bytes≤8)
 (e1:ki a x=v) (e2:ki a y=.slice (some ⟨n,0,none⟩) 1 1) (hw:A.Wf) (hS:an A L) (hp:ay L (.h (ar k v l)) K') (hn:A.cy n=some (.cells [.int k yv] true 1)) (cU:l.length<2 ^ 40)
 (hs:∀A',an A' K'→S A')
 (hk:∀o c A',an A' (.h (ar k (.slice o (l.length+1) c) (l++[yv]))::K')→A'.Wf→A.next≤A'.next→cm P S K jB (fl a d (.slice o (l.length+1) c)) A') :
 cm P S K (⟨d,.call ⟨.builtin .append,#[x,y],#[t,t]⟩,none,3⟩::jB) a A:=by
 unfold cm
 rw [if_pos (by simp)]
 exact Ag hu hi hz iq rb BH e1 e2 hw hS hp hn cU fun o c A' h1 h2 h3=>⟨hs A' h1.tail,hk o c A' h1 h2 h3⟩
theorem Oe {r:vy} (hu:P.underlying t=some (.slice e)) (hi:P.info? e=some i) (hz:i.zero=some z) (iq:i.size=1) (rb:z.cells.size=1) (BH:i.bytes≤8)
 (e1:ki a x=v) (e2:ki a y=.slice (some ⟨n,0,none⟩) 1 1) (hw:A.Wf) (hS:an A L) (hp:ay L (.h (ar k v l)) K') (hn:A.cy n=some (.cells [.int k yv] true 1)) (cU:l.length<2 ^ 40)
 (hs:∀A',an A' K'→S A')
 (hk:∀o c A',an A' (.h (ar k (.slice o (l.length+1) c) (l++[yv]))::K')→A'.Wf→A.next≤A'.next→TW P S K r (fl a d (.slice o (l.length+1) c)) A') :
 TW P S K (.bu ⟨d,.call ⟨.builtin .append,#[x,y],#[t,t]⟩,none,3⟩ r) a A:=by
 unfold TW mP
 rw [if_pos (by simp)]
 exact Ag hu hi hz iq rb BH e1 e2 hw hS hp hn cU fun o c A' h1 h2 h3=>⟨hs A' h1.tail,hk o c A' h1 h2 h3⟩
theorem Oq {R:Fr→AW→Prop} (hu:P.underlying t=some (.slice e)) (hi:P.info? e=some i) (hz:i.zero=some z) (iq:i.size=1) (rb:z.cells.size=1) (BH:i.bytes≤8)
 (e1:ki a x=v) (e2:ki a y=.slice (some ⟨n,0,none⟩) 1 1) (hw:A.Wf) (hS:an A L) (hp:ay L (.h (ar k v l)) K') (hn:A.cy n=some (.cells [.int k yv] true 1)) (cU:l.length<2 ^ 40)
 (hs:∀A',an A' K'→S A')
 (hk:∀o c A',an A' (.h (ar k (.slice o (l.length+1) c) (l++[yv]))::K')→A'.Wf→A.next≤A'.next→R (fl a d (.slice o (l.length+1) c)) A') :
 mP P S ⟨d,.call ⟨.builtin .append,#[x,y],#[t,t]⟩,none,3⟩ a A R:=by
 unfold mP
 rw [if_pos (by simp)]
 exact Ag hu hi hz iq rb BH e1 e2 hw hS hp hn cU fun o c A' h1 h2 h3=>⟨hs A' h1.tail,hk o c A' h1 h2 h3⟩
end
section
variable {S:AW→Prop} {K:Fr→AW→Prop} {jB:List xP} {r:vy} {a:Fr} {A:AW} {d:Option Tmp} {x y:Operand} {l:List Int} {n:Nat} {yv:Int} {v:Value} {L K':List It}
theorem Kj (e1:ki a x=v) (e2:ki a y=.slice (some ⟨n,0,none⟩) 1 1) (hw:A.Wf) (hS:an A L) (hp:ay L (.h (ar .i64 v l)) K') (hn:A.cy n=some (.cells [.int .i64 yv] true 1)) (cU:l.length<2 ^ 40)
 (hs:∀A',an A' K'→S A')
 (hk:∀o c A',an A' (.h (ar .i64 (.slice o (l.length+1) c) (l++[yv]))::K')→A'.Wf→A.next≤A'.next→cm Tryz.prog S K jB (fl a d (.slice o (l.length+1) c)) A') :
 cm Tryz.prog S K (⟨d,.call ⟨.builtin .append,#[x,y],#[72,72]⟩,none,3⟩::jB) a A:=
 Oo (P:=Tryz.prog) Tryz.underlying72 Tryz.info3 Tryz.zero3 rfl rfl (by simp) e1 e2 hw hS hp hn cU hs hk
theorem SL (e1:ki a x=v) (e2:ki a y=.slice (some ⟨n,0,none⟩) 1 1) (hw:A.Wf) (hS:an A L) (hp:ay L (.h (ar .u64 v l)) K') (hn:A.cy n=some (.cells [.int .u64 yv] true 1)) (cU:l.length<2 ^ 40)
 (hs:∀A',an A' K'→S A')
 (hk:∀o c A',an A' (.h (ar .u64 (.slice o (l.length+1) c) (l++[yv]))::K')→A'.Wf→A.next≤A'.next→cm Tryz.prog S K jB (fl a d (.slice o (l.length+1) c)) A') :
 cm Tryz.prog S K (⟨d,.call ⟨.builtin .append,#[x,y],#[43,43]⟩,none,3⟩::jB) a A:=
 Oo (P:=Tryz.prog) Tryz.underlying43 Tryz.info45 Tryz.zero45 rfl rfl (by simp) e1 e2 hw hS hp hn cU hs hk
theorem Sz (e1:ki a x=v) (e2:ki a y=.slice (some ⟨n,0,none⟩) 1 1) (hw:A.Wf) (hS:an A L) (hp:ay L (.h (ar .i64 v l)) K') (hn:A.cy n=some (.cells [.int .i64 yv] true 1)) (cU:l.length<2 ^ 40)
 (hs:∀A',an A' K'→S A')
 (hk:∀o c A',an A' (.h (ar .i64 (.slice o (l.length+1) c) (l++[yv]))::K')→A'.Wf→A.next≤A'.next→TW Tryz.prog S K r (fl a d (.slice o (l.length+1) c)) A') :
 TW Tryz.prog S K (.bu ⟨d,.call ⟨.builtin .append,#[x,y],#[72,72]⟩,none,3⟩ r) a A:=
 Oe (P:=Tryz.prog) Tryz.underlying72 Tryz.info3 Tryz.zero3 rfl rfl (by simp) e1 e2 hw hS hp hn cU hs hk
theorem Sy (e1:ki a x=v) (e2:ki a y=.slice (some ⟨n,0,none⟩) 1 1) (hw:A.Wf) (hS:an A L) (hp:ay L (.h (ar .u64 v l)) K') (hn:A.cy n=some (.cells [.int .u64 yv] true 1)) (cU:l.length<2 ^ 40)
 (hs:∀A',an A' K'→S A')
 (hk:∀o c A',an A' (.h (ar .u64 (.slice o (l.length+1) c) (l++[yv]))::K')→A'.Wf→A.next≤A'.next→TW Tryz.prog S K r (fl a d (.slice o (l.length+1) c)) A') :
 TW Tryz.prog S K (.bu ⟨d,.call ⟨.builtin .append,#[x,y],#[43,43]⟩,none,3⟩ r) a A:=
 Oe (P:=Tryz.prog) Tryz.underlying43 Tryz.info45 Tryz.zero45 rfl rfl (by simp) e1 e2 hw hS hp hn cU hs hk
theorem SO {R:Fr→AW→Prop} (e1:ki a x=v) (e2:ki a y=.slice (some ⟨n,0,none⟩) 1 1) (hw:A.Wf) (hS:an A L) (hp:ay L (.h (ar .i64 v l)) K') (hn:A.cy n=some (.cells [.int .i64 yv] true 1)) (cU:l.length<2 ^ 40)
 (hs:∀A',an A' K'→S A')
 (hk:∀o c A',an A' (.h (ar .i64 (.slice o (l.length+1) c) (l++[yv]))::K')→A'.Wf→A.next≤A'.next→R (fl a d (.slice o (l.length+1) c)) A') :
 mP Tryz.prog S ⟨d,.call ⟨.builtin .append,#[x,y],#[72,72]⟩,none,3⟩ a A R:=
 Oq (P:=Tryz.prog) Tryz.underlying72 Tryz.info3 Tryz.zero3 rfl rfl (by simp) e1 e2 hw hS hp hn cU hs hk
theorem SN {R:Fr→AW→Prop} (e1:ki a x=v) (e2:ki a y=.slice (some ⟨n,0,none⟩) 1 1) (hw:A.Wf) (hS:an A L) (hp:ay L (.h (ar .u64 v l)) K') (hn:A.cy n=some (.cells [.int .u64 yv] true 1)) (cU:l.length<2 ^ 40)
 (hs:∀A',an A' K'→S A')
 (hk:∀o c A',an A' (.h (ar .u64 (.slice o (l.length+1) c) (l++[yv]))::K')→A'.Wf→A.next≤A'.next→R (fl a d (.slice o (l.length+1) c)) A') :
 mP Tryz.prog S ⟨d,.call ⟨.builtin .append,#[x,y],#[43,43]⟩,none,3⟩ a A R:=
 Oq (P:=Tryz.prog) Tryz.underlying43 Tryz.info45 Tryz.zero45 rfl rfl (by simp) e1 e2 hw hS hp hn cU hs hk
end
theorem AW.gE {A:AW} {n:Nat} {o:ef} (h:A.next=n):(A.alloc o).next=n+1:=by rw [AW.aZ,h]
theorem AW.jU {A:AW} {n i:Nat} {o:Option ef} (h:A.next=n):(A.set i o).next=n:=by rw [AW.dq,h]
theorem an.jZ {A:AW} {L:List It} {o:ef} {n:Nat} (h:an A L) (hw:A.Wf) (hn:A.next=n):an (A.alloc o) (.at n o::L):=by
 subst hn
 exact h.alloc hw o
theorem an.rV {A:AW} {L:List It} (k:IntKind) (h:an A L):an A (.h (ar k (.slice none 0 0) [])::L):=ar.nil h
theorem mo {ι:Type} {g:ι→List It} {A:AW} {L K:List It} (h:an A L) (hp:ay L (.h (rt fun x=>bn (g x))) K):∃x,an A (g x++K):=by
 unfold an at h
 rw [hp.bn] at h
 have h1:bK A (rt (fun x=>bn (g x))*bn K):=h
 rw [bK.ex] at h1
 obtain⟨x,h1⟩:=h1
 refine⟨x,?_⟩
 unfold an
 rw [fN]
 exact h1
theorem k4 {ι:Type} {g:ι→List It} {A:AW} {L K:List It} (x:ι) (h:an A L) (hp:aX L (g x) K):an A (.h (rt fun x=>bn (g x))::K):=by
 unfold an at h ⊢
 rw [hp.bn] at h
 show bK A (rt (fun x=>bn (g x))*bn K)
 rw [bK.ex]
 exact⟨x,h⟩
end
end Go.Stx
