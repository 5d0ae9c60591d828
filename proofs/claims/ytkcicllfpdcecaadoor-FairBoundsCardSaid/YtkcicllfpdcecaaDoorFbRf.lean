/-
  The table that the program fills (plain law).
-/
import Derived.Test.YtkcicllfpdcecaaDoorFbRe
namespace Go.Stx
open Go
set_option linter.unusedVariables false
set_option linter.unusedSimpArgs false
set_option linter.unusedSectionVars false
variable [Gl]

def runRow (p : List InsV) (ks : List Nat) : List Int := ks.foldl (stepRow p) (List.replicate (p.length + 1) 0)
theorem runRow_snoc (p : List InsV) (ks : List Nat) (k : Nat) : runRow p (ks ++ [k]) = stepRow p (runRow p ks) k := by simp [runRow, List.foldl_append]
theorem runRow_length (p : List InsV) : ∀ ks, (runRow p ks).length = p.length + 1 := by
  intro ks
  unfold runRow
  have : ∀ (ks : List Nat) (r : List Int), (ks.foldl (stepRow p) r).length = r.length := by
    intro ks
    induction ks with
    | nil => intro r; rfl
    | cons k l ih => intro r; rw [List.foldl_cons, ih, stepRow_length]
  rw [this]; simp

theorem getD_range {r : List Int} {n : Int} (h0 : 0 ≤ n) (h : ∀ x ∈ r, 0 ≤ x ∧ x ≤ n) (t : Nat) : 0 ≤ r.getD t 0 ∧ r.getD t 0 ≤ n := by
  rw [List.getD_eq_getElem?_getD]
  cases he : r[t]? with
  | none => simp; exact h0
  | some x => exact h x (List.mem_of_getElem? he)
theorem stepRow_range {p : List InsV} {r : List Int} {n : Int} (h0 : 0 ≤ n) (h : ∀ x ∈ r, 0 ≤ x ∧ x ≤ n) (k : Nat) : ∀ x ∈ stepRow p r k, 0 ≤ x ∧ x ≤ n + 1 := by
  intro x hx
  have fold : ∀ (l : List Nat) (a : Int), 0 ≤ a → a ≤ n + 1 → 0 ≤ l.foldl (fun m t => max m (r.getD t 0 + 1)) a ∧ l.foldl (fun m t => max m (r.getD t 0 + 1)) a ≤ n + 1 := by
    intro l
    induction l with
    | nil => intro a h1 h2; exact ⟨h1, h2⟩
    | cons t l ih =>
      intro a h1 h2
      rw [List.foldl_cons]
      have := getD_range h0 h t
      exact ih _ (by omega) (by omega)
  unfold stepRow at hx
  rcases List.mem_or_eq_of_mem_set hx with h1 | rfl
  · have := h x h1; omega
  · have := getD_range h0 h k
    exact fold _ _ (by omega) (by omega)
theorem runRow_range (p : List InsV) (ks : List Nat) : ∀ x ∈ runRow p ks, 0 ≤ x ∧ x ≤ (ks.length : Int) := by
  induction hn : ks.length generalizing ks with
  | zero =>
    have : ks = [] := List.eq_nil_of_length_eq_zero hn
    subst this
    intro x hx
    unfold runRow at hx
    have := List.eq_of_mem_replicate hx
    omega
  | succ n ih =>
    obtain ⟨l, k, rfl⟩ : ∃ l k, ks = l ++ [k] := ⟨ks.dropLast, ks.getLast (by intro e; subst e; cases hn), (List.dropLast_concat_getLast _).symm⟩
    have h1 := ih l (by simpa using hn)
    intro x hx
    rw [runRow_snoc] at hx
    have := stepRow_range (by omega) h1 k x hx
    omega

theorem mostT_low {p : List InsV} : ∀ {d j : Nat}, d ≤ p.length → j < p.length - d → mostT p d j = 0
  | 0, _, _, _ => rfl
  | d + 1, j, hd, h => by
    unfold mostT
    rw [if_neg (by omega)]
    exact mostT_low (by omega) (by omega)

/-- The positions as the loop takes them. -/
def downTo (n : Nat) : Nat → List Nat
  | 0 => []
  | d + 1 => downTo n d ++ [n - (d + 1)]
theorem downTo_length (n : Nat) : ∀ d, (downTo n d).length = d
  | 0 => rfl
  | d + 1 => by simp [downTo, downTo_length n d]

theorem runRow_most {p : List InsV} (hv : progOk p = true) : ∀ d, d ≤ p.length → ∀ j, j ≤ p.length → (runRow p (downTo p.length d)).getD j 0 = mostT p d j
  | 0, _, j, hj => by
    show (List.replicate (p.length + 1) (0 : Int)).getD j 0 = 0
    rw [List.getD_eq_getElem?_getD, List.getElem?_replicate_of_lt (by omega)]
    rfl
  | d + 1, hd, j, hj => by
    have ih := fun j hj => runRow_most hv d (by omega) j hj
    have hlen := runRow_length p (downTo p.length d)
    rw [downTo, runRow_snoc]
    unfold stepRow mostT
    rw [List.getD_eq_getElem?_getD, List.getElem?_set]
    by_cases e : j = p.length - (d + 1)
    · subst e
      rw [if_pos rfl, if_pos (by omega), if_pos rfl]
      simp only [Option.getD_some]
      rw [ih _ (by omega), mostT_low (by omega) (by omega)]
      have fold : ∀ (l : List Nat) (a : Int), (∀ t ∈ l, t ≤ p.length) → l.foldl (fun m t => max m ((runRow p (downTo p.length d)).getD t 0 + 1)) a = l.foldl (fun m t => max m (mostT p d t + 1)) a := by
        intro l
        induction l with
        | nil => intro a _; rfl
        | cons t l ihl =>
          intro a hl
          rw [List.foldl_cons, List.foldl_cons, ih t (hl t (by simp))]
          exact ihl _ fun x hx => hl x (by simp [hx])
      exact fold _ _ fun t ht => (after_lt (by simpa [progOk] using hv) ht).2
    · rw [if_neg (fun h => e h.symm), if_neg e, ← List.getD_eq_getElem?_getD]
      exact ih j hj
theorem runRow_longest {p : List InsV} (hv : progOk p = true) : (runRow p (downTo p.length p.length)).getD 0 0 = longest p := runRow_most hv _ (Nat.le_refl _) 0 (Nat.zero_le _)
end Go.Stx
