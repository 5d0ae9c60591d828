/-
  A made program of which one number is replaced is a program still.
-/
import Derived.Test.YtcffnkgjmneaeaaGreatDoorFbZa
namespace Go.Stx
open Go Go.Proofs
attribute [local irreducible] AWP LWalk ACall ARounds lops nops
set_option linter.unusedVariables false
set_option linter.unusedSimpArgs false
set_option linter.unusedSectionVars false
variable [Gl]

theorem ins_of_ints : ∀ (n : Nat) (l : List Value), l.length = n * 5 → (∀ v ∈ l, ∃ k : Int, v = .int .i64 k) → ∃ p : List InsV, p.length = n ∧ l = p.flatMap insCells
  | 0, l, hl, _ => ⟨[], rfl, by have : l = [] := List.eq_nil_of_length_eq_zero (by omega); rw [this]; rfl⟩
  | n + 1, a :: b :: c :: d :: e :: l, hl, h => by
    obtain ⟨p, h1, h2⟩ := ins_of_ints n l (by simp at hl; omega) fun v hv => h v (by simp [hv])
    obtain ⟨ka, rfl⟩ := h a (by simp)
    obtain ⟨kb, rfl⟩ := h b (by simp)
    obtain ⟨kc, rfl⟩ := h c (by simp)
    obtain ⟨kd, rfl⟩ := h d (by simp)
    obtain ⟨ke, rfl⟩ := h e (by simp)
    exact ⟨⟨ka, kb, kc, kd, ke⟩ :: p, by simp [h1], by simp [insCells, h2]⟩
  | n + 1, [], hl, _ => by simp at hl
  | n + 1, [_], hl, _ => by simp at hl; omega
  | n + 1, [_, _], hl, _ => by simp at hl; omega
  | n + 1, [_, _, _], hl, _ => by simp at hl; omega
  | n + 1, [_, _, _, _], hl, _ => by simp at hl; omega

theorem insCells_int {p : List InsV} : ∀ v ∈ p.flatMap insCells, ∃ k : Int, v = .int .i64 k := by
  intro v hv
  obtain ⟨x, _, hx⟩ := List.mem_flatMap.1 hv
  simp only [insCells, List.mem_cons, List.not_mem_nil, or_false] at hx
  rcases hx with rfl | rfl | rfl | rfl | rfl <;> exact ⟨_, rfl⟩

theorem OwnSl.poke {B : Nat} {A : AW} {u : Value} {p : List InsV} (h : OwnSl B A 5 u p.length (p.flatMap insCells)) {b off : Nat} {row : List Value} (hg : A.get b = some (.cells row true 5)) (y : Int) :
    ∃ p' : List InsV, p'.length = p.length ∧ OwnSl B (A.set b (some (.cells (row.set off (.int .i64 y)) true 5))) 5 u p'.length (p'.flatMap insCells) := by
  rcases h with ⟨h1, h2, h3⟩ | ⟨q, c, r0, h1, h2, hs, h3, h4, h5, h6⟩
  · have hp : p = [] := List.eq_nil_of_length_eq_zero h2
    subst hp
    exact ⟨[], rfl, .inl ⟨h1, rfl, rfl⟩⟩
  · by_cases e : q.block = b
    · subst e
      rw [h4] at hg
      injection hg with hg
      injection hg with hg
      subst hg
      obtain ⟨p', g1, g2⟩ := ins_of_ints p.length (((r0.set off (.int .i64 y)).drop q.off).take (p.length * 5)) (by simp; omega) (by
        intro v hv
        obtain ⟨k, hk, rfl⟩ := List.getElem_of_mem hv
        simp only [List.length_take, List.length_drop, List.length_set] at hk
        rw [List.getElem_take, List.getElem_drop, List.getElem_set]
        split
        · exact ⟨y, rfl⟩
        · have h7 : r0[q.off + k]? = (p.flatMap insCells)[k]? := by rw [h6, List.getElem?_take_of_lt (by omega), List.getElem?_drop]
          rw [List.getElem?_eq_getElem (by omega)] at h7
          exact insCells_int _ (List.mem_of_getElem? h7.symm))
      exact ⟨p', g1, .inr ⟨q, c, _, by rw [g1]; exact h1, by omega, hs, h3, AW.set_get_same, by rw [g1]; simpa using h5, by rw [g1]; exact g2.symm⟩⟩
    · exact ⟨p, rfl, .inr ⟨q, c, r0, h1, h2, hs, h3, by rw [AW.set_get_ne e]; exact h4, h5, h6⟩⟩

theorem PS.poke {B : Nat} {A : AW} {vp : Value} {us : List Value} {ps : List (List InsV)} (h : PS B A vp us ps) {b off : Nat} {row : List Value} (hg : A.get b = some (.cells row true 5)) (y : Int) (hb : slBlock vp ≠ some b) :
    ∃ ps' : List (List InsV), ps'.length = ps.length ∧ PS B (A.set b (some (.cells (row.set off (.int .i64 y)) true 5))) vp us ps' := by
  have key : ∀ i : Fin ps.length, ∃ p' : List InsV, ∃ u, us[i.1]? = some u ∧ OwnSl B (A.set b (some (.cells (row.set off (.int .i64 y)) true 5))) 5 u p'.length (p'.flatMap insCells) ∧ ∀ j, slBlock vp = some j → slBlock u ≠ some j := fun i => by
    obtain ⟨u, h1, h2, h3⟩ := h.el i.1 i.2
    obtain ⟨p', g1, g2⟩ := h2.poke (off := off) hg y
    exact ⟨p', u, h1, g2, h3⟩
  refine ⟨List.ofFn fun i => Classical.choose (key i), by simp, ⟨h.own.other fun j hj => AW.set_get_ne (fun e => hb (by rw [← e]; exact hj)), by simpa using h.len, fun i hi => ?_⟩⟩
  simp only [List.length_ofFn] at hi
  rw [List.getElem_ofFn]
  exact Classical.choose_spec (key ⟨i, hi⟩)
end Go.Stx
