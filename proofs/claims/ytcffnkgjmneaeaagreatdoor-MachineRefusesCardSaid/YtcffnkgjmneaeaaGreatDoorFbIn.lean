/-
  Parameters: slices of slices of integers with their bounds; slices of programs.
-/
import Derived.Test.YtcffnkgjmneaeaaGreatDoorFbR
namespace Go.Stx
open Go Go.Proofs
attribute [local irreducible] AWP LWalk ACall ARounds lops nops
set_option linter.unusedVariables false
set_option linter.unusedSimpArgs false
set_option linter.unusedSectionVars false
variable [Gl]

theorem intro_rows2 {m : Mp} {A : AW} {w : World} (hs : Sim m A w) (hno : A.NoOwn) {a : Option Addr} {len cap : Nat} (h : RowsIn w a len cap) :
    ∃ m' A' v ls, Mp.le m m' ∧ A.le A' ∧ Sim m' A' w ∧ A'.NoOwn ∧ VRel m' v (.slice a len cap) ∧ IsRows A' v ls ∧ ls.length ≤ maxLen ∧ ∀ x ∈ ls, x.length ≤ maxLen := by
  rcases h with ⟨rfl, rfl, rfl⟩ | ⟨x, rfl, hlc, hcm, R, L, C, Z, hr⟩
  · exact ⟨m, A, .slice none 0 0, [], Mp.le_refl m, AW.le.refl A, hs, hno, .sliceNone, ⟨[], .inl ⟨⟨none, rfl⟩, rfl, rfl⟩, fun i hi => by simp at hi⟩, Nat.zero_le _, by simp⟩
  · by_cases hc0 : cap = 0
    · subst hc0
      have : len = 0 := by omega
      subst this
      exact ⟨m, A, .slice (some ⟨0, 0, some 0⟩) 0 0, [], Mp.le_refl m, AW.le.refl A, hs, hno, .slice (.inr ⟨rfl, rfl, .inl rfl⟩) (Nat.le_refl _) (Nat.le_refl _), ⟨[], .inl ⟨⟨_, rfl⟩, rfl, rfl⟩, fun i hi => by simp at hi⟩, Nat.zero_le _, by simp⟩
    · have rows : ∀ n, n ≤ cap → ∃ (m' : Mp) (A' : AW) (us : List Value) (ls : List (List Int)), Mp.le m m' ∧ A.le A' ∧ Sim m' A' w ∧ A'.NoOwn ∧ us.length = n ∧ ls.length = n ∧ (∀ x ∈ ls, x.length ≤ maxLen) ∧ (∀ i v, us[i]? = some v → VRel m' v (.slice (R i) (L i) (C i))) ∧
          ∀ i (hi : i < ls.length), ∃ u, us[i]? = some u ∧ IsInts A' .i64 u ls[i] := by
        intro n
        induction n with
        | zero => intro _; exact ⟨m, A, [], [], Mp.le_refl m, AW.le.refl A, hs, hno, rfl, rfl, by simp, fun i v h => by simp at h, fun i hi => by simp at hi⟩
        | succ n ih =>
          intro hn
          obtain ⟨m1, A1, us, ls, h1, h2, h3, h4, h5, h6, hB, h7, h8⟩ := ih (by omega)
          obtain ⟨_, hrow⟩ := hr n (by omega)
          obtain ⟨m2, A2, u, g1, g2, g3, g4, g5, g6, _⟩ := intro_ints h3 h4 (k := .i64) hrow
          have hk := Keeps.of_le g2 h3.low
          refine ⟨m2, A2, us ++ [u], ls ++ [(Z n).take (L n)], Mp.le_trans h1 g1, h2.trans g2, g3, g4, by simp [h5], by simp [h6], fun x hx => ?_, fun i v hv => ?_, fun i hi => ?_⟩
          · rcases List.mem_append.1 hx with hx | hx
            · exact hB x hx
            · simp only [List.mem_singleton] at hx
              subst hx
              rw [List.length_take]
              rcases hrow with ⟨e1, e2, e3, e4⟩ | ⟨y, e1, e2, e3, e4, _⟩
              · rw [e2]; simp
              · omega
          · rw [List.getElem?_append] at hv
            split at hv
            · exact (h7 i v hv).mono g1
            · rename_i hi
              have : i = n := by
                have := (List.getElem?_eq_some_iff.1 hv).1
                simp at this
                omega
              subst this
              rw [h5] at hv
              simp at hv
              subst hv
              exact g5
          · by_cases e : i < ls.length
            · obtain ⟨v, q1, q2⟩ := h8 i e
              refine ⟨v, by rw [List.getElem?_append_left (by omega)]; exact q1, ?_⟩
              rw [List.getElem_append_left e]
              exact q2.keeps hk
            · have : i = n := by simp at hi; omega
              subst this
              refine ⟨u, by rw [List.getElem?_append_right (by omega), h5]; simp, ?_⟩
              rw [List.getElem_append_right (by omega)]
              simpa using g6
      obtain ⟨m1, A1, us, ls, h1, h2, h3, h4, h5, h6, hB, h7, h8⟩ := rows cap (Nat.le_refl _)
      have h0 := (hr 0 (by omega)).1
      rw [show x.add 0 = x by unfold Addr.add; simp] at h0
      have hsp : x.spot = none := by
        unfold World.cell? at h0
        split at h0
        · split at h0
          · cases h0
          · rename_i hsp; simpa using hsp
        · cases h0
      have hblk : ∃ cur e fr, w.heap[x.block]? = some (.cells cur e fr) := by
        unfold World.cell? at h0
        split at h0
        · rename_i c e fr hh; exact ⟨c, e, fr, hh⟩
        · cases h0
      obtain ⟨cur, e, fr, hblk⟩ := hblk
      have hcur : ∀ i, i < cap → cur[x.off + i]? = some (.slice (R i) (L i) (C i)) := fun i hi => by
        have h1 := (hr i hi).1
        rw [addr_add _ _ hsp] at h1
        simpa [World.cell?, hblk] using h1
      obtain ⟨hs', hno'⟩ := Sim.foreign h3 h4 us ⟨x.block, x.off, 1, cur.size⟩ hblk rfl (fun j v hv => by
        have hj := (List.getElem?_eq_some_iff.1 hv).1
        exact ⟨_, hcur j (by omega), h7 j v hv⟩)
      have hlast := (Array.getElem?_eq_some_iff.1 (hcur (cap - 1) (by omega))).1
      have hk := Keeps.of_le (AW.le.alloc A1 (.cells us false 1)) h3.low
      refine ⟨_, _, .slice (some ⟨A1.next, 0, none⟩) len len, ls.take len, Mp.le_trans h1 (h3.le_ext _), h2.trans (AW.le.alloc A1 _), hs', hno', ?_, ⟨us.take len, ?_, fun i hi => ?_⟩, by rw [List.length_take]; omega, fun x hx => hB x (List.mem_of_mem_take hx)⟩
      · refine .slice (.inl ⟨rfl, hsp, ⟨x.block, x.off, 1, cur.size⟩, by simp [Mp.ext], rfl, rfl, ?_⟩) (Nat.le_refl _) hlc
        show x.off + cap * 1 ≤ cur.size
        omega
      · refine .inr ⟨⟨A1.next, 0, none⟩, len, us, false, 1, ?_, ?_, AW.alloc_get_new _ _, rfl, ?_, ?_⟩
        · rw [List.length_take, Nat.min_eq_left (by omega)]
        · simp; omega
        · simp; omega
        · rw [List.drop_zero, List.length_take, Nat.min_eq_left (by omega), Nat.mul_one]
      · rw [List.length_take] at hi
        obtain ⟨u, q1, q2⟩ := h8 i (by omega)
        refine ⟨u, by rw [List.getElem?_take_of_lt (by omega)]; exact q1, ?_⟩
        rw [List.getElem_take]
        exact q2.keeps hk

end Go.Stx
