/-
  What the loop of Longest keeps.
-/
import Derived.Test.YtkcicllfpdcecaaDoorFbRh
namespace Go.Stx
open Go
open Go.RowKit
set_option linter.unusedVariables false
set_option linter.unusedSimpArgs false
set_option linter.unusedSectionVars false
variable [Gl]

theorem Evo.keptRo {m m' : Mp} {A A' : AW} {w w' : World} (ev : Evo m A.ro w m' A' w') : Kept w w' := by
  refine ⟨fun b hb => ev.out b hb ?_, ev.os, ev.tape, ev.output, ev.size⟩
  rintro ⟨i, o, p, hi, how, _⟩
  obtain ⟨o', _, rfl⟩ := AW.ro_inv hi
  rw [AObj.ro_own] at how
  cases how

theorem Sim.keepB {m : Mp} {A : AW} {W W' : World} {B : Nat} (hs : Sim m A W) (hB : ∀ i o p, A.get i = some o → m i = some p → p.block < B) (hl : ∀ b x, Gl.B b = some x → b < B) (he : ∀ b, b < B → W'.heap[b]? = W.heap[b]?) : Sim m A W' := by
  refine ⟨fun i o hi => ?_, hs.inj, hs.fresh, hs.low, fun b x hb => ?_, hs.lown, hs.glob⟩
  · obtain ⟨p, h1, h2⟩ := hs.obj i o hi
    exact ⟨p, h1, h2.heap (he _ (hB i o p hi h1))⟩
  · rw [he b (hl b x hb)]
    exact hs.laid b x hb

/-- The memory of the loop: all to be read, but for the table. -/
def LM (A : AW) (b1 : Nat) (R : List Int) : AW := A.ro.set b1 (some (.cells (R.map (Value.int .i64)) true 1))
theorem LM_b1 (A : AW) (b1 : Nat) (R : List Int) : (LM A b1 R).get b1 = some (.cells (R.map (Value.int .i64)) true 1) := AW.set_get_same
theorem LM_ne {A : AW} {b1 i : Nat} (R : List Int) (h : i ≠ b1) : (LM A b1 R).get i = A.ro.get i := AW.set_get_ne h
theorem LM_own {A : AW} {b1 i : Nat} {R : List Int} {o : AObj} (h : (LM A b1 R).get i = some o) (ho : o.own = true) : i = b1 := by
  by_cases e : i = b1
  · exact e
  · rw [LM_ne R e] at h
    obtain ⟨o', _, rfl⟩ := AW.ro_inv h
    rw [AObj.ro_own] at ho
    cases ho

theorem LM.start {m : Mp} {A : AW} {W : World} {b1 : Nat} {R : List Int} (hs : Sim m A W) (hb : A.get b1 = some (.cells (R.map (Value.int .i64)) true 1)) : Sim m (LM A b1 R) W := by
  have hro := hs.ro
  have hlt := AW.Wf.lt hs.low hb
  refine ⟨fun i o hi => ?_, fun i j o o' p p' hi ho hj hne h1 h2 => ?_, hs.fresh, fun i hi => ?_, hs.laid, fun i o p hi ho hm => ?_, hs.glob⟩
  · by_cases e : i = b1
    · subst e
      rw [LM_b1] at hi
      injection hi with hi
      subst hi
      exact hs.obj i _ hb
    · rw [LM_ne R e] at hi
      exact hro.obj i o hi
  · have e := LM_own hi ho
    subst e
    have ej : j ≠ i := fun e => hne e.symm
    rw [LM_ne R ej] at hj
    obtain ⟨o2, hj2, rfl⟩ := AW.ro_inv hj
    exact hs.inj i j _ _ p p' hb rfl hj2 hne h1 h2
  · have hi' : A.next ≤ i := hi
    rw [LM_ne R (by omega)]
    exact hro.low i hi'
  · have e := LM_own hi ho
    subst e
    exact hs.lown i _ p hb rfl hm

theorem LM.next {m m' : Mp} {A A' : AW} {W w' : World} {b1 : Nat} {R R' : List Int} (hs : Sim m (LM A b1 R) W) (ev : Evo m (LM A b1 R) W m' A' w') (hb : A'.get b1 = some (.cells (R'.map (Value.int .i64)) true 1)) : Sim m (LM A b1 R') w' := by
  obtain ⟨p1, hm1, _⟩ := hs.obj b1 _ (LM_b1 A b1 R)
  have hblk : ∀ i o p, i ≠ b1 → (LM A b1 R).get i = some o → m i = some p → p.block ≠ p1.block := fun i o p hne hi hp e =>
    hs.inj b1 i _ o p1 p (LM_b1 A b1 R) rfl hi (fun e => hne e.symm) hm1 hp e.symm
  refine ⟨fun i o hi => ?_, fun i j o o' p p' hi ho hj hne h1 h2 => ?_, hs.fresh, fun i hi => ?_, ev.sim.laid, fun i o p hi ho hm => ?_, hs.glob⟩
  · by_cases e : i = b1
    · subst e
      rw [LM_b1] at hi
      injection hi with hi
      subst hi
      obtain ⟨p2, hm2, h3⟩ := ev.sim.obj i _ hb
      have e2 := ev.ext i p1 hm1
      rw [hm2] at e2
      injection e2 with e2
      subst e2
      refine ⟨p2, hm1, ?_⟩
      obtain ⟨cur, e', fr, h4, h5, h6, h7, h8⟩ := h3
      refine ⟨cur, e', fr, h4, h5, h6, h7, fun k v hv => ?_⟩
      obtain ⟨v', h9, h10⟩ := h8 k v hv
      have hsc : scalarV v = true := by
        rw [List.getElem?_map, Option.map_eq_some_iff] at hv
        obtain ⟨x, _, rfl⟩ := hv
        rfl
      rw [h10.eq_of_scalar hsc] at h9
      exact ⟨v, h9, .of_scalar hsc m⟩
    · rw [LM_ne R' e] at hi
      have hi' : (LM A b1 R).get i = some o := by rw [LM_ne R e]; exact hi
      obtain ⟨p, h1, h2⟩ := hs.obj i o hi'
      refine ⟨p, h1, h2.heap (ev.out _ (h2.lt) ?_)⟩
      rintro ⟨j, oj, pj, hj, hown, hmj, hbj⟩
      have ej := LM_own hj hown
      subst ej
      rw [hm1] at hmj
      injection hmj with hmj
      subst hmj
      exact hblk i o p e hi' h1 hbj.symm
  · have e := LM_own hi ho
    subst e
    have ej : j ≠ i := fun e => hne e.symm
    rw [LM_ne R' ej] at hj
    exact hs.inj i j _ o' p p' (LM_b1 A i R) rfl (by rw [LM_ne R ej]; exact hj) hne h1 h2
  · have := hs.low i hi
    have hne : i ≠ b1 := fun e => by subst e; rw [LM_b1] at this; cases this
    rw [LM_ne R' hne]
    rwa [LM_ne R hne] at this
  · have e := LM_own hi ho
    subst e
    exact hs.lown i _ p (LM_b1 A i R) rfl hm

/-- Blocks below B, but one, are as they were. -/
theorem LM.quiet {m : Mp} {A : AW} {w W : World} {b1 : Nat} {o1 : AObj} {p1 : Pl} (hs : Sim m A w) (hb : A.get b1 = some o1) (ho : o1.own = true) (hm : m b1 = some p1) (hW : BB w.heap.size p1.block w W) (hl : ∀ b x, Gl.B b = some x → b ≠ p1.block) : Sim m (A.ro.set b1 none) W := by
  have hro := hs.ro
  have hlt := AW.Wf.lt hs.low hb
  have key : ∀ {i o}, (A.ro.set b1 none).get i = some o → i ≠ b1 ∧ A.ro.get i = some o := fun {i o} hi => by
    by_cases e : i = b1
    · subst e; rw [AW.set_get_same] at hi; cases hi
    · rw [AW.set_get_ne e] at hi; exact ⟨e, hi⟩
  have noown : ∀ {i o}, (A.ro.set b1 none).get i = some o → o.own = true → False := fun {i o} hi how => by
    obtain ⟨o', _, rfl⟩ := AW.ro_inv (key hi).2
    rw [AObj.ro_own] at how
    cases how
  refine ⟨fun i o hi => ?_, fun i j o o' p p' hi ho => (noown hi ho).elim, hs.fresh, fun i hi => ?_, fun b x hb => ?_, fun i o p hi ho => (noown hi ho).elim, hs.glob⟩
  · obtain ⟨e, hi⟩ := key hi
    obtain ⟨o', hi2, rfl⟩ := AW.ro_inv hi
    obtain ⟨p, h1, h2⟩ := hro.obj i _ hi
    exact ⟨p, h1, h2.heap (hW.same _ h2.lt fun e2 => hs.inj b1 i _ _ p1 p hb ho hi2 (fun e3 => e e3.symm) hm h1 e2.symm)⟩
  · have hi' : A.next ≤ i := hi
    rw [AW.set_get_ne (by omega)]
    exact hro.low i hi'
  · have h1 := hs.laid b x hb
    rw [hW.same b (Array.getElem?_eq_some_iff.1 h1).1 (hl b x hb)]
    exact h1
end Go.Stx
