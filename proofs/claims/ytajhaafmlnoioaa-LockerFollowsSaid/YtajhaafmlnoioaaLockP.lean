/-
  The two Sorted return the same list.
-/
import Derived.Test.YtajhaafmlnoioaaLockB
namespace Go.Stx
open Go Go.Proofs
attribute [local irreducible] AWP LWalk ACall ARounds lops nops
set_option linter.unusedVariables false
set_option linter.unusedSimpArgs false

theorem ext_lt : ∀ (a b : List Int), a.Pairwise (· < ·) → b.Pairwise (· < ·) → (∀ x, x ∈ a ↔ x ∈ b) → a = b
  | [], [], _, _, _ => rfl
  | [], y :: b, _, _, h => by have := (h y).2 (by simp); simp at this
  | x :: a, [], _, _, h => by have := (h x).1 (by simp); simp at this
  | x :: a, y :: b, ha, hb, h => by
    rw [List.pairwise_cons] at ha hb
    have hxy : x = y := by
      have h1 := (h x).1 (by simp)
      have h2 := (h y).2 (by simp)
      rw [List.mem_cons] at h1 h2
      rcases h1 with h1 | h1
      · exact h1
      · rcases h2 with h2 | h2
        · exact h2.symm
        · have := hb.1 x h1
          have := ha.1 y h2
          omega
    subst hxy
    congr 1
    refine ext_lt a b ha.2 hb.2 fun z => ⟨fun hz => ?_, fun hz => ?_⟩
    · have := ha.1 z hz
      have h1 := (h z).1 (by simp [hz])
      rw [List.mem_cons] at h1
      rcases h1 with h1 | h1
      · omega
      · exact h1
    · have := hb.1 z hz
      have h1 := (h z).2 (by simp [hz])
      rw [List.mem_cons] at h1
      rcases h1 with h1 | h1
      · omega
      · exact h1

theorem insS_mem (out : List Int) (x z : Int) : z ∈ insS out x ↔ z = x ∨ z ∈ out := by
  induction out with
  | nil => simp [insS]
  | cons y r ih =>
    simp only [insS]
    split
    · simp only [List.mem_cons, ih]
      constructor
      · rintro (h | h | h)
        · exact .inr (.inl h)
        · exact .inl h
        · exact .inr (.inr h)
      · rintro (h | h | h)
        · exact .inr (.inl h)
        · exact .inl h
        · exact .inr (.inr h)
    · split
      · rename_i h1 h2
        subst h2
        simp
      · simp

theorem insS_lt (out : List Int) (x : Int) (h : out.Pairwise (· < ·)) : (insS out x).Pairwise (· < ·) := by
  induction out with
  | nil => simp [insS]
  | cons y r ih =>
    have h0 := List.pairwise_cons.1 h
    simp only [insS]
    split
    · rename_i h1
      refine List.pairwise_cons.2 ⟨fun z hz => ?_, ih h0.2⟩
      rcases (insS_mem r x z).1 hz with e | e
      · omega
      · exact h0.1 z e
    · split
      · exact h
      · rename_i h1 h2
        refine List.pairwise_cons.2 ⟨fun z hz => ?_, h⟩
        rw [List.mem_cons] at hz
        rcases hz with e | e
        · omega
        · have := h0.1 z e
          omega

theorem refSortedF_spec (l : List Int) : (refSortedF l).Pairwise (· < ·) ∧ ∀ z, z ∈ refSortedF l ↔ z ∈ l := by
  have : ∀ (l out : List Int), out.Pairwise (· < ·) → (l.foldl insS out).Pairwise (· < ·) ∧ ∀ z, z ∈ l.foldl insS out ↔ z ∈ out ∨ z ∈ l := by
    intro l
    induction l with
    | nil => intro out h; exact ⟨h, by simp⟩
    | cons x r ih =>
      intro out h
      obtain ⟨h1, h2⟩ := ih (insS out x) (insS_lt out x h)
      refine ⟨h1, fun z => ?_⟩
      rw [List.foldl_cons, h2, insS_mem, List.mem_cons]
      constructor
      · rintro ((h | h) | h)
        · exact .inr (.inl h)
        · exact .inl h
        · exact .inr (.inr h)
      · rintro (h | h | h)
        · exact .inl (.inr h)
        · exact .inl (.inl h)
        · exact .inr h
  have h := this l [] List.Pairwise.nil
  exact ⟨h.1, fun z => by rw [refSortedF, h.2]; simp⟩

theorem compact_spec (l : List Int) (h : l.Pairwise (· ≤ ·)) : (Lib.compact l).Pairwise (· < ·) ∧ ∀ z, z ∈ Lib.compact l ↔ z ∈ l := by
  have hle : ∀ i j, i ≤ j → j < l.length → l.toArray[i]! ≤ l.toArray[j]! := by
    intro i j hij hj
    rw [getElem!_pos l.toArray i (by simp; omega), getElem!_pos l.toArray j (by simpa using hj)]
    simp only [List.getElem_toArray]
    by_cases e : i = j
    · subst e; exact Int.le_refl _
    · exact List.pairwise_iff_getElem.1 h i j (by omega) hj (by omega)
  constructor
  · rw [Lib.compact, Lib.compactUpTo, List.pairwise_map]
    have hr : ((List.range l.length).filter (Lib.keeps l.toArray)).Pairwise (· < ·) := List.Pairwise.filter _ List.pairwise_lt_range
    refine List.Pairwise.imp_of_mem ?_ hr
    intro i j hi hj hij
    rw [List.mem_filter, List.mem_range] at hi hj
    have hk := hj.2
    simp only [Lib.keeps, decide_eq_true_eq] at hk
    rcases hk with hk | hk
    · omega
    · have h1 := hle i (j - 1) (by omega) (by omega)
      have h2 := hle (j - 1) j (by omega) hj.1
      omega
  · intro z
    rw [Lib.compact, Lib.compactUpTo, List.mem_map]
    constructor
    · rintro ⟨i, hi, rfl⟩
      rw [List.mem_filter, List.mem_range] at hi
      rw [getElem!_pos l.toArray i (by simpa using hi.1)]
      simp
    · intro hz
      obtain ⟨i, hi, rfl⟩ := List.getElem_of_mem hz
      have key : ∀ n i (hi : i < l.length), i ≤ n → ∃ a, a ∈ (List.range l.length).filter (Lib.keeps l.toArray) ∧ l.toArray[a]! = l[i] := by
        intro n
        induction n with
        | zero =>
          intro i hi hin
          have : i = 0 := by omega
          subst this
          exact ⟨0, by simp [List.mem_filter, Lib.keeps, hi], by rw [getElem!_pos l.toArray 0 (by simpa using hi)]; simp⟩
        | succ n ih =>
          intro i hi hin
          by_cases hk : Lib.keeps l.toArray i = true
          · exact ⟨i, by simp [List.mem_filter, hk, hi], by rw [getElem!_pos l.toArray i (by simpa using hi)]; simp⟩
          · simp only [Lib.keeps, decide_eq_true_eq, not_or, Decidable.not_not] at hk
            obtain ⟨a, ha, hb⟩ := ih (i - 1) (by omega) (by omega)
            refine ⟨a, ha, ?_⟩
            rw [hb]
            have h3 := hk.2
            rw [getElem!_pos l.toArray i (by simpa using hi), getElem!_pos l.toArray (i - 1) (by simp; omega)] at h3
            simpa using h3.symm
      exact key i i hi (Nat.le_refl _)

theorem sortedF_eq (l : List Int) : sortedF l = refSortedF l := by
  have hs : (sortI l).Pairwise (· ≤ ·) := by
    have := List.pairwise_mergeSort (le := fun x y : Int => decide (x ≤ y)) (by simp; omega) (by simp; omega) l
    exact this.imp (by simp)
  obtain ⟨h1, h2⟩ := compact_spec (sortI l) hs
  obtain ⟨h3, h4⟩ := refSortedF_spec l
  refine ext_lt _ _ h1 h3 fun z => ?_
  rw [sortedF, h2, h4, sortI, List.mem_mergeSort]

end Go.Stx
