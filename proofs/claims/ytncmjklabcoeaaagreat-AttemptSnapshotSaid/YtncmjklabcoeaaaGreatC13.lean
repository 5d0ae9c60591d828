/-
 The reference's machine that locks.
-/
import Derived.Test.YtncmjklabcoeaaaGreatC10
import Derived.Test.YtncmjklabcoeaaaGreatC12
set_option linter.unusedVariables false
set_option linter.unusedSimpArgs false
set_option maxRecDepth 20000
set_option maxHeartbeats 4000000
namespace Go.Stx
open Go Go.Proofs
attribute [local irreducible] fj cm aH bB dK ei TW hN
section
open T0
def gC (b:Nat) (s:eM):HP:=rt fun vo:Value=>rt fun vw:Value=>
 pt b (.cells [.int .i64 s.ag,vo,vw,.bool s.fg,.int .u64 s.d8] true 1)*(ar .i64 vo s.aj*ar .u64 vw s.dH)
theorem gC.open {A:AW} {b:Nat} {s:eM} {F:HP} (h:bK A (gC b s*F)) :
 ∃vo vw,bK A (pt b (.cells [.int .i64 s.ag,vo,vw,.bool s.fg,.int .u64 s.d8] true 1)*(ar .i64 vo s.aj*(ar .u64 vw s.dH*F))):=by
 unfold gC at h
 rw [bK.ex] at h
 obtain⟨vo,h⟩:=h
 rw [bK.ex] at h
 obtain⟨vw,h⟩:=h
 exact⟨vo,vw,h.dp (by ac_rfl)⟩
theorem gC.eh {A:AW} {b:Nat} {s:eM} {F:HP} {vo vw:Value} (h:bK A (pt b (.cells [.int .i64 s.ag,vo,vw,.bool s.fg,.int .u64 s.d8] true 1)*(ar .i64 vo s.aj*(ar .u64 vw s.dH*F)))) :
 bK A (gC b s*F):=by
 unfold gC
 rw [bK.ex]
 refine⟨vo,?_⟩
 rw [bK.ex]
 exact⟨vw,h.dp (by ac_rfl)⟩
end
section
open T7
def jC (v:Value) (rv:Int) (k:Nat) (f:Bool):ef:=.cells [v,.int .i64 rv,.int .i64 k,.bool f] true 1
end
section
abbrev qc:List (Nat×Nat):=[(0,0),(1,0),(2,0),(4,0),(5,0),(6,0),(3,2),(7,2),(8,0),(9,2),(10,0)]
open T0
theorem Bu (vi vw:Value) (l ws:List Int) (A:AW) (F:HP) (h:cF A .i64 vi l) (h':cF A .u64 vw ws) (he:l.length=ws.length) (hl:l.length<2^38) (hw:A.Wf) (hS:bK A F) :
 aH Tryz.prog 155 [vi,vw] A (fun v A'=>∃b,v=.pointer (some ⟨b,0,none⟩)∧bK A' (gV b ⟨l,ws⟩*F)∧A.le A'):=by
 refine ab Tryz.func155 rfl (by kernel_rfl) fun _=>?_
 obtain⟨o,c,rfl,hc⟩:=h.cL
 obtain⟨o',c',rfl,LL⟩:=h'.cL
 rw [←he] at h' LL ⊢
 rcases o with _|p<;>rcases o' with _|q
 all_goals
  all_goals(revert hS hw hc;refine W (J1 (od qc)) (J1 @eB.eq_1) (J1 ?_)<;>unhygienic intros)
  refine bD (jF _ l A h (by omega)) ?_
  rintro u A1 ⟨h1,h2⟩ gJ _
  refine⟨h2,?_⟩
  obtain⟨o1,c1,rfl,_⟩:=h1.is.cL
  all_goals(revert hS hw;(repeat first|clear hS|clear hw|revert hc|revert zn|revert zA|revert R|revert K);refine W (J1 (od qc)) (J1 @eB.eq_1) (J1 ?_)<;>unhygienic intros)
  refine bD (ir _ ws A1 (cF.le h2 hw h') (by omega)) ?_
  rintro u2 A2 ⟨h3,h4⟩ it _
  refine⟨h4,?_⟩
  obtain⟨o2,c2,rfl,_⟩:=h3.is.cL
  all_goals(revert hS hw;(repeat first|clear hS|clear hw|revert hc|revert zn|revert zA|revert R|revert K);refine W (J1 (od qc)) (J1 @eB.eq_1) (J1 ?_)<;>unhygienic intros)
  refine⟨_,by first|(simp;done)|(simp;rfl),A2.next,rfl,?_,(h2.trans h4).trans (AW.le.alloc _ _)⟩
  have mg:=(ar.kZ (ar.kZ hS hw h2 h1) gJ h4 h3).alloc it (.cells [.slice o1 l.length c1,.slice o2 ws.length c2] true 1)
  refine gV.eh (vo:=.slice o1 l.length c1) (vw:=.slice o2 ws.length c2) ?_
  exact mg.dp (by show _=pt A2.next (.cells [.slice o1 l.length c1,.slice o2 ws.length c2] true 1)*(ar .i64 (.slice o1 l.length c1) l*(ar .u64 (.slice o2 ws.length c2) ws*F));ac_rfl)
theorem FI (vi vw:Value) (l ws:List Int) (A:AW) (F:HP) (h:cF A .i64 vi l) (h':cF A .u64 vw ws) (he:l.length=ws.length) (hl:l.length<2^38) (hw:A.Wf) (hS:bK A F) :
 aH Tryz.prog 149 [vi,vw] A (fun v A'=>∃b,v=.pointer (some ⟨b,0,none⟩)∧bK A' (gV b ⟨l,ws⟩*F)∧A.le A'):=by
 refine ab Tryz.func149 rfl (by kernel_rfl) fun _=>?_
 obtain⟨o,c,rfl,hc⟩:=h.cL
 obtain⟨o',c',rfl,LL⟩:=h'.cL
 rw [←he] at h' LL ⊢
 rcases o with _|p<;>rcases o' with _|q
 all_goals
  all_goals(revert hS hw hc;refine W (J1 (od qc)) (J1 @eB.eq_1) (J1 ?_)<;>unhygienic intros)
  refine bD (jF _ l A h (by omega)) ?_
  rintro u A1 ⟨h1,h2⟩ gJ _
  refine⟨h2,?_⟩
  obtain⟨o1,c1,rfl,_⟩:=h1.is.cL
  all_goals(revert hS hw;(repeat first|clear hS|clear hw|revert hc|revert zn|revert zA|revert R|revert K);refine W (J1 (od qc)) (J1 @eB.eq_1) (J1 ?_)<;>unhygienic intros)
  refine bD (ir _ ws A1 (cF.le h2 hw h') (by omega)) ?_
  rintro u2 A2 ⟨h3,h4⟩ it _
  refine⟨h4,?_⟩
  obtain⟨o2,c2,rfl,_⟩:=h3.is.cL
  all_goals(revert hS hw;(repeat first|clear hS|clear hw|revert hc|revert zn|revert zA|revert R|revert K);refine W (J1 (od qc)) (J1 @eB.eq_1) (J1 ?_)<;>unhygienic intros)
  refine⟨_,by first|(simp;done)|(simp;rfl),A2.next,rfl,?_,(h2.trans h4).trans (AW.le.alloc _ _)⟩
  have mg:=(ar.kZ (ar.kZ hS hw h2 h1) gJ h4 h3).alloc it (.cells [.slice o1 l.length c1,.slice o2 ws.length c2] true 1)
  refine gV.eh (vo:=.slice o1 l.length c1) (vw:=.slice o2 ws.length c2) ?_
  exact mg.dp (by show _=pt A2.next (.cells [.slice o1 l.length c1,.slice o2 ws.length c2] true 1)*(ar .i64 (.slice o1 l.length c1) l*(ar .u64 (.slice o2 ws.length c2) ws*F));ac_rfl)
end
section
open T0
theorem Dy (t:Int) (vi:Value) (l:List Int) (A:AW) (F:HP) (h:cF A .i64 vi l) (hl:l.length<2^38) (hw:A.Wf) (hS:bK A F) :
 aH Tryz.prog 166 [.int .i64 t,vi] A (fun v A'=>∃b,v=.pointer (some ⟨b,0,none⟩)∧bK A' (gG b ⟨t,dX l,[],0,false⟩*F)):=by
 refine ab Tryz.func166 rfl (by kernel_rfl) fun _=>?_
 revert hS hw;refine W trivial trivial (J1 ?_)<;>unhygienic intros
 refine bD (wy vi l A h (by omega)) ?_
 rintro u A1 ⟨h1,h2⟩ gJ _
 obtain⟨o,c,rfl,_⟩:=h1.is.cL
 revert hS hw;(repeat first|clear hS|clear hw|revert hc|revert zn|revert zA|revert R|revert K);refine W trivial trivial (J1 ?_)<;>unhygienic intros
 refine⟨_,by first|(simp;done)|(simp;rfl),A1.next,rfl,?_⟩
 have mg:=(ar.kZ hS hw h2 h1).alloc gJ (.cells [.int .i64 t,.slice o (dX l).length c,.slice none 0 0,.int .u64 0,.bool false] true 1)
 refine gG.eh (vo:=.slice o (dX l).length c) (vw:=.slice none 0 0) ?_
 have h0:=ar.nil (k:=.u64) mg
 exact h0.dp (by show _=pt A1.next (.cells [.int .i64 t,.slice o (dX l).length c,.slice none 0 0,.int .u64 0,.bool false] true 1)*(ar .i64 (.slice o (dX l).length c) (dX l)*(ar .u64 (.slice none 0 0) []*F));ac_rfl)
end
section
open T0
theorem C2 (b dA:Nat) (v:Value) (l:List Int) (A:AW) (hg:A.cy b=some (ko dA v)) (h:cF A .i64 v l) (hl:l.length<2^39) :
 aH Tryz.prog 143 [.pointer (some ⟨b,0,none⟩)] A (fun u A'=>dk A.next A' .i64 u l∧A.le A'):=by
 refine ab Tryz.func143 rfl (by kernel_rfl) fun _=>?_
 dsimp only [ko] at hg
 refine W trivial (J2 hg @AW.aa) (J1 ?_)<;>unhygienic intros
 refine bD (jF v l A h hl) ?_
 rintro u A1 ⟨h1,h2⟩ gJ _
 (repeat first|revert hc|revert zn|revert zA|revert R|revert K);refine W trivial trivial (J1 ?_)<;>unhygienic intros
 exact⟨_,rfl,h1,h2⟩
theorem tk (b dA:Nat) (va vv vi:Value) (l:List Int) (A:AW) (hg:A.cy b=some (gw dA va vv vi)) (h:cF A .i64 va l) (hl:l.length<2^39) :
 aH Tryz.prog 150 [.pointer (some ⟨b,0,none⟩)] A (fun u A'=>dk A.next A' .i64 u l∧A.le A'):=by
 refine ab Tryz.func150 rfl (by kernel_rfl) fun _=>?_
 dsimp only [gw] at hg
 refine W trivial (J2 hg @AW.aa) (J1 ?_)<;>unhygienic intros
 refine bD (jF va l A h hl) ?_
 rintro u A1 ⟨h1,h2⟩ gJ _
 (repeat first|revert hc|revert zn|revert zA|revert R|revert K);refine W trivial trivial (J1 ?_)<;>unhygienic intros
 exact⟨_,rfl,h1,h2⟩
theorem zr (b dA:Nat) (va vv vi:Value) (l:List Int) (A:AW) (hg:A.cy b=some (gw dA va vv vi)) (h:cF A .u64 vv l) (hl:l.length<2^39) :
 aH Tryz.prog 151 [.pointer (some ⟨b,0,none⟩)] A (fun u A'=>dk A.next A' .u64 u l∧A.le A'):=by
 refine ab Tryz.func151 rfl (by kernel_rfl) fun _=>?_
 dsimp only [gw] at hg
 refine W trivial (J2 hg @AW.aa) (J1 ?_)<;>unhygienic intros
 refine bD (ir vv l A h hl) ?_
 rintro u A1 ⟨h1,h2⟩ gJ _
 (repeat first|revert hc|revert zn|revert zA|revert R|revert K);refine W trivial trivial (J1 ?_)<;>unhygienic intros
 exact⟨_,rfl,h1,h2⟩
theorem FS (b dA:Nat) (o:Option Addr) (n c:Nat) (vv vi:Value) (A:AW) (hg:A.cy b=some (gw dA (.slice o n c) vv vi)) :
 eF 213 [.pointer (some ⟨b,0,none⟩)] A (.int .i64 n):=by
 refine ab Tryz.func213 rfl (by kernel_rfl) fun _=>?_
 dsimp only [gw] at hg
 refine W trivial (J2 hg @AW.aa) (J1 ?_)<;>unhygienic intros
 exact⟨_,rfl,rfl,rfl⟩
theorem FN (v:Value) (l:List Int) (rv:Int) (A:AW) (F:HP) (h:cF A .i64 v l) (hl:l.length<2^38) (hw:A.Wf) (hS:bK A F) :
 aH Tryz.prog 142 [v,.int .i64 rv] A (fun u A'=>∃b,u=.pointer (some ⟨b,0,none⟩)∧bK A' (iV b ⟨l,rv,false⟩*F)∧A.le A'):=by
 refine ab Tryz.func142 rfl (by kernel_rfl) fun _=>?_
 revert hS hw;refine W trivial trivial (J1 ?_)<;>unhygienic intros
 refine bD (jF v l A h (by omega)) ?_
 rintro u A1 ⟨h1,h2⟩ gJ _
 obtain⟨o1,c1,rfl,_⟩:=h1.is.cL
 revert hS hw;(repeat first|clear hS|clear hw|revert hc|revert zn|revert zA|revert R|revert K);refine W trivial trivial (J1 ?_)<;>unhygienic intros
 refine⟨_,by first|(simp;done)|(simp;rfl),A1.next,rfl,?_,h2.trans (AW.le.alloc _ _)⟩
 have mg:=(ar.kZ hS hw h2 h1).alloc gJ (.cells [.slice o1 l.length c1,.int .i64 rv,.bool false] true 1)
 unfold iV
 rw [bK.ex]
 exact⟨.slice o1 l.length c1,mg.dp (by show _=pt A1.next (.cells [.slice o1 l.length c1,.int .i64 rv,.bool false] true 1)*ar .i64 (.slice o1 l.length c1) l*F;rw [HP.cq])⟩
end
end Go.Stx
