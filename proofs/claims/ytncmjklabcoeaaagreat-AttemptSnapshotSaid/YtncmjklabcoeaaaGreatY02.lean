/-
  What the statements on one and on three threads share.
-/
import Derived.Test.YtncmjklabcoeaaaGreatY01
import Derived.Test.YtncmjklabcoeaaaGreatYImgO
namespace Go.Stx
open Go Go.Proofs
set_option linter.unusedVariables false
set_option linter.unusedSimpArgs false
/-- One thread: its pair of attempts,in one state. -/
abbrev PlS:=Option (Nat×Nat×aD)
def plA:PlS→Value|none=>.pointer none|some x=>pv x.1
def plR:PlS→Value|none=>.pointer none|some x=>pv x.2.1
def tRow (t:Nat) (v w o0 o1 o2 o3:Value):List Value:=match t with
 | 0=>[v,w,o0,o1,o2,o3]
 | 1=>[o0,o1,v,w,o2,o3]
 | _=>[o0,o1,o2,o3,v,w]
def updP (f:Nat→PlS) (t:Nat) (x:PlS):Nat→PlS:=fun j=>if j=t then x else f j
theorem an.toL {A : AW} {L K : List It} (G : List It) (h : an A L) (e : aX L G K) : an A G := an.cC h e
theorem awp_joinB {P : Program} {n : Nat} {id : Nat} {Q : Exit → Fr → AW → Prop} {a : Fr} {A : AW} {x : Code} {K : Fr → AW → Prop} (J : Fr → AW → Prop) (h1 : fj P n x (At id (sx J Q)) a A) (h2 : ∀ a A, J a A → K a A) : fj P n x (At id (sx K Q)) a A :=
  Gx h1 fun e a A h => by
    cases e with
    | normal => exact h2 a A h
    | exit k =>
      simp only [At] at h ⊢
      split at h
      · rename_i e; rw [if_pos e]; exact h2 a A h
      · rename_i e; rw [if_neg e]; exact h
    | _ => exact h
theorem image_use {pb : Nat} {M : Mm} {A : AW} {L K : List It} {k : Value → AW → Prop} (hS : an A L) (hp : ay L (eb pb M) K) (cU : ∀ k, k < 8 → (M k).length < 2^39) (h2 : 0 < (M 2).length) (h3 : 0 < (M 3).length) (h4 : 0 < (M 4).length)
    (hk : ∀ o0 c0 o1 c1 o5 c5 o6 c6 o7 c7 A', an A' (.h (ar .u64 (.slice o0 (M 0).length c0) (M 0)) :: .h (ar .u64 (.slice o1 (M 1).length c1) (M 1)) :: .h (ar .u64 (.slice o5 (M 5).length c5) (M 5)) :: eb pb M :: K) → A'.Wf → k (.agg #[.slice o0 (M 0).length c0, .slice o1 (M 1).length c1, .int .u64 ((M 2).getD 0 0), .int .u64 ((M 3).getD 0 0), .int .u64 ((M 4).getD 0 0), .slice o5 (M 5).length c5, .slice o6 (M 6).length c6, .slice o7 (M 7).length c7]) A') :
    aH Tryz.prog 20 [pv pb] A k := by
  refine bD (image_own pb M A (bn K) (an.IW hS hp) cU h2 h3 h4) ?_
  rintro _ A' ⟨o0, c0, o1, c1, o5, c5, o6, c6, o7, c7, rfl, h⟩ hw _
  exact hk o0 c0 o1 c1 o5 c5 o6 c6 o7 c7 A' h hw


end Go.Stx
