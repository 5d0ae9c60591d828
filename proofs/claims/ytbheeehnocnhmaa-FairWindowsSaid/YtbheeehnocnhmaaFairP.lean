/-
  What makeF makes is fair for twice its window.
-/
import Derived.Test.YtbheeehnocnhmaaFairE
namespace Go.Stx
open Go Go.Proofs
set_option linter.unusedVariables false
set_option linter.unusedSimpArgs false

theorem pickF_valid {t w k : Int} (free : List Int) (h1 : 1 ≤ t) (h2 : t ≤ 16) (h3 : t ≤ w) (h4 : w ≤ 1000) (h5 : 0 ≤ k) :
    0 ≤ pickF t w free k ∧ pickF t w free k < t ∧ (w - t ≤ k % w → pickF t w free k = k % w - (w - t)) := by
  have hp : permittedF t w = 0 := by unfold permittedF; rw [if_neg (by omega), if_neg (by omega)]
  have hr0 : 0 ≤ k % w := Int.emod_nonneg _ (by omega)
  have hr1 : k % w < w := Int.emod_lt_of_pos _ (by omega)
  unfold pickF
  rw [if_neg (by omega)]
  split
  · refine ⟨by omega, by omega, fun _ => rfl⟩
  · rename_i hat
    split
    · exact ⟨by omega, by omega, fun h => absurd h hat⟩
    · simp only
      generalize free.getD ((k / w * (w - t) + k % w) % free.length).toNat 0 = y
      have hx1 := Int.lt_tmod_of_pos y (show 0 < t by omega)
      have hx2 := Int.tmod_lt_of_pos y (show 0 < t by omega)
      split
      · exact ⟨by omega, by omega, fun h => absurd h hat⟩
      · exact ⟨by omega, by omega, fun h => absurd h hat⟩

/-- What the table of last picks says. -/
def LastInv (n w : Int) (free : List Int) (j : Nat) (last : List Int) : Prop :=
  (last.length : Int) = n ∧ ∀ (x : Nat) (hx : x < last.length) (i : Nat), i < j → pickF n w free i = x → (i : Int) + 1 ≤ last[x]

theorem LastInv.step {n w : Int} {free : List Int} {j : Nat} {last : List Int} (h : LastInv n w free j last) {t : Int} (ht : pickF n w free j = t) (h0 : 0 ≤ t) :
    LastInv n w free (j + 1) (last.set t.toNat ((j : Int) + 1)) := by
  obtain ⟨hl, hi⟩ := h
  refine ⟨by simpa using hl, fun x hx i hij hp => ?_⟩
  have hx' : x < last.length := by simpa using hx
  rw [List.getElem_set]
  by_cases e : t.toNat = x
  · rw [if_pos e]; omega
  · rw [if_neg e]
    by_cases hij' : i = j
    · subst hij'
      rw [ht] at hp
      omega
    · exact hi x hx' i (by omega) hp

theorem fairGo_makeF {n w : Int} (free : List Int) (h1 : 1 ≤ n) (h2 : n ≤ 16) (h3 : n ≤ w) (h4 : w ≤ 1000) : ∀ (m j : Nat) (last : List Int), LastInv n w free j last →
    fairGo n (2 * w) j last ((List.range' j m).map fun (k : Nat) => pickF n w free k) = true
  | 0, j, last, _ => rfl
  | m + 1, j, last, h => by
    simp only [List.range'_succ, List.map_cons, fairGo]
    obtain ⟨p1, p2, p3⟩ := pickF_valid free h1 h2 h3 h4 (show 0 ≤ (j : Int) by omega)
    have hs := h.step rfl p1
    have hstep : fairStep n (2 * w) last j (pickF n w free j) = some (last.set (pickF n w free j).toNat ((j : Int) + 1)) := by
      unfold fairStep
      rw [if_neg (by omega), if_neg]
      rintro ⟨c1, c2⟩
      rw [List.any_eq_true] at c2
      obtain ⟨y, hy, hyd⟩ := c2
      obtain ⟨x, hx, rfl⟩ := List.getElem_of_mem hy
      have hyd' := of_decide_eq_true hyd
      have hxn : (x : Int) < n := by have := hs.1; omega
      -- the last index of the window at which x is picked
      have hw0 : (0 : Int) < w := by omega
      have hq0 : 0 ≤ ((j : Int) - (w - n + x)) / w := Int.ediv_nonneg (by omega) (by omega)
      have hd1 := Int.ediv_mul_add_emod ((j : Int) - (w - n + x)) w
      have hd2 := Int.emod_lt_of_pos ((j : Int) - (w - n + x)) hw0
      have hd3 := Int.emod_nonneg ((j : Int) - (w - n + x)) (show w ≠ 0 by omega)
      generalize hq : ((j : Int) - (w - n + x)) / w = q at *
      generalize hr : ((j : Int) - (w - n + x)) % w = r at *
      have hqw : 0 ≤ q * w := Int.mul_nonneg hq0 (by omega)
      have hi0 : 0 ≤ q * w + (w - n + x) := by omega
      obtain ⟨i, hi⟩ := Int.eq_ofNat_of_zero_le hi0
      have himod : (i : Int) % w = w - n + x := by
        rw [← hi, Int.add_comm, Int.add_mul_emod_self_right]
        exact Int.emod_eq_of_lt (by omega) (by omega)
      have hpi := (pickF_valid free h1 h2 h3 h4 (show 0 ≤ (i : Int) by omega)).2.2 (by omega)
      have := hs.2 x hx i (by omega) (by rw [hpi, himod]; omega)
      omega
    rw [hstep]
    exact fairGo_makeF free h1 h2 h3 h4 m (j + 1) _ hs

theorem fairF_makeF {n w : Int} (free : List Int) (h1 : 1 ≤ n) (h2 : n ≤ 16) (h3 : n ≤ w) (h4 : w ≤ 1000) (L : Nat) : fairF n (2 * w) (makeF n w free L) = true := by
  unfold fairF makeF
  rw [if_neg (by omega), List.range_eq_range']
  refine fairGo_makeF free h1 h2 h3 h4 L 0 _ ⟨?_, fun x hx i hi => by omega⟩
  simp
  omega

theorem makeF_get {n w : Int} {free : List Int} {L k : Nat} (h : k < L) (h' : k < (makeF n w free L).length) : (makeF n w free L)[k] = pickF n w free k := by
  simp [makeF]

end Go.Stx
