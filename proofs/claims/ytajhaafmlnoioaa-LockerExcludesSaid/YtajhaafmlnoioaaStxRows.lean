/-
  What a later memory keeps; slices of slices of integers, and how they come in.
-/
import Derived.Test.YtajhaafmlnoioaaStxSep
import Derived.Test.YtajhaafmlnoioaaStxArgs
namespace Go.Stx
open Go
set_option linter.unusedVariables false

/-- All that A has, B has. -/
def Keeps (A B : AW) : Prop := ∀ i o, A.get i = some o → B.get i = some o
theorem Keeps.refl (A : AW) : Keeps A A := fun _ _ h => h
theorem Keeps.trans {A B C : AW} (h : Keeps A B) (k : Keeps B C) : Keeps A C := fun i o hi => k i o (h i o hi)
theorem Keeps.of_le {A B : AW} (h : A.le B) (hw : A.Wf) : Keeps A B := fun i o hi => h.keep hw hi
theorem Keeps.of_fix {A B : AW} {F : HP} (h : Sat B (hfix A.get * F)) : Keeps A B := by
  obtain ⟨_, ⟨a, b, d, rfl, rfl, q⟩, hs⟩ := h
  intro i o hi
  exact hs i o (by simp [Hp.un, hi])
theorem IsSl.keeps {A B : AW} (hk : Keeps A B) {size : Nat} {v : Value} {n : Nat} {cs : List Value} (h : IsSl A size v n cs) : IsSl B size v n cs := by
  rcases h with h | ⟨p, c, row, own, u, h1, h2, h3, h4⟩
  · exact .inl h
  · exact .inr ⟨p, c, row, own, u, h1, h2, hk _ _ h3, h4⟩
theorem IsInts.keeps {A B : AW} (hk : Keeps A B) {k : IntKind} {v : Value} {l : List Int} (h : IsInts A k v l) : IsInts B k v l := IsSl.keeps hk h

/-- A slice of slices of integers. -/
def IsRows (A : AW) (v : Value) (ls : List (List Int)) : Prop := ∃ us : List Value, IsSl A 1 v ls.length us ∧ ∀ i (hi : i < ls.length), ∃ u, us[i]? = some u ∧ IsInts A .i64 u ls[i]

theorem IsRows.keeps {A B : AW} (hk : Keeps A B) {v : Value} {ls : List (List Int)} (h : IsRows A v ls) : IsRows B v ls := by
  obtain ⟨us, h1, h2⟩ := h
  exact ⟨us, h1.keeps hk, fun i hi => let ⟨u, h3, h4⟩ := h2 i hi; ⟨u, h3, h4.keeps hk⟩⟩
theorem IsRows.form {A : AW} {v : Value} {ls : List (List Int)} (h : IsRows A v ls) : ∃ o c, v = .slice o ls.length c ∧ ls.length ≤ c := by
  obtain ⟨us, h1, _⟩ := h
  exact h1.form
theorem IsRows.at {A : AW} {o : Option Addr} {n c : Nat} {ls : List (List Int)} (h : IsRows A (.slice o n c) ls) {i : Nat} (hi : i < ls.length) :
    ∃ p row own u, o = some p ∧ A.get p.block = some (.cells row own 1) ∧ row[p.off + i]? = some u ∧ IsInts A .i64 u ls[i] := by
  obtain ⟨us, h1, h2⟩ := h
  obtain ⟨u, h3, h4⟩ := h2 i hi
  rcases h1 with ⟨_, e, _⟩ | ⟨p, c', row, own, q, e1, e2, e3, e4, e5, e6⟩
  · omega
  · injection e1 with e1 e7 e8
    subst e4
    refine ⟨p, row, own, u, e1, e3, ?_, h4⟩
    rw [e6, Nat.mul_one, List.getElem?_take_of_lt hi, List.getElem?_drop] at h3
    exact h3

/-- What a reading of a slice of slices of integers says of the world. -/
def RowsIn (w : World) (a : Option Addr) (len cap : Nat) : Prop :=
  (a = none ∧ len = 0 ∧ cap = 0) ∨ ∃ x, a = some x ∧ len ≤ cap ∧ cap ≤ maxLen ∧ ∃ (R : Nat → Option Addr) (L C : Nat → Nat) (Z : Nat → List Int), ∀ r, r < cap → w.cell? (x.add r) = some (.slice (R r) (L r) (C r)) ∧
    ((R r = none ∧ L r = 0 ∧ C r = 0 ∧ Z r = []) ∨ ∃ y, R r = some y ∧ L r ≤ C r ∧ C r ≤ maxLen ∧ (Z r).length = C r ∧ (∀ i, i < (Z r).length → w.cell? (y.add i) = some (.int .i64 ((Z r).getD i 0))) ∧ ∀ n ∈ Z r, (Lit.int .i64 n).wf = true)

theorem intro_rows {m : Mp} {A : AW} {w : World} (hs : Sim m A w) (hno : A.NoOwn) {a : Option Addr} {len cap : Nat} (h : RowsIn w a len cap) :
    ∃ m' A' v ls, Mp.le m m' ∧ A.le A' ∧ Sim m' A' w ∧ A'.NoOwn ∧ VRel m' v (.slice a len cap) ∧ IsRows A' v ls := by
  rcases h with ⟨rfl, rfl, rfl⟩ | ⟨x, rfl, hlc, hcm, R, L, C, Z, hr⟩
  · exact ⟨m, A, .slice none 0 0, [], Mp.le_refl m, AW.le.refl A, hs, hno, .sliceNone, [], .inl ⟨⟨none, rfl⟩, rfl, rfl⟩, fun i hi => by simp at hi⟩
  · by_cases hc0 : cap = 0
    · subst hc0
      have : len = 0 := by omega
      subst this
      exact ⟨m, A, .slice (some ⟨0, 0, some 0⟩) 0 0, [], Mp.le_refl m, AW.le.refl A, hs, hno, .slice (.inr ⟨rfl, rfl, .inl rfl⟩) (Nat.le_refl _) (Nat.le_refl _), [], .inl ⟨⟨_, rfl⟩, rfl, rfl⟩, fun i hi => by simp at hi⟩
    · have rows : ∀ n, n ≤ cap → ∃ (m' : Mp) (A' : AW) (us : List Value) (ls : List (List Int)), Mp.le m m' ∧ A.le A' ∧ Sim m' A' w ∧ A'.NoOwn ∧ us.length = n ∧ ls.length = n ∧ (∀ i v, us[i]? = some v → VRel m' v (.slice (R i) (L i) (C i))) ∧
          ∀ i (hi : i < ls.length), ∃ u, us[i]? = some u ∧ IsInts A' .i64 u ls[i] := by
        intro n
        induction n with
        | zero => intro _; exact ⟨m, A, [], [], Mp.le_refl m, AW.le.refl A, hs, hno, rfl, rfl, fun i v h => by simp at h, fun i hi => by simp at hi⟩
        | succ n ih =>
          intro hn
          obtain ⟨m1, A1, us, ls, h1, h2, h3, h4, h5, h6, h7, h8⟩ := ih (by omega)
          obtain ⟨_, hrow⟩ := hr n (by omega)
          obtain ⟨m2, A2, u, g1, g2, g3, g4, g5, g6, _⟩ := intro_ints h3 h4 (k := .i64) hrow
          have hk := Keeps.of_le g2 h3.low
          refine ⟨m2, A2, us ++ [u], ls ++ [(Z n).take (L n)], Mp.le_trans h1 g1, h2.trans g2, g3, g4, by simp [h5], by simp [h6], fun i v hv => ?_, fun i hi => ?_⟩
          · rw [List.getElem?_append] at hv
            split at hv
            · exact (h7 i v hv).mono g1
            · rename_i hi
              have : i = n := by
                have := (List.getElem?_eq_some_iff.1 hv).1
                simp at this
                omega
              subst this
              rw [h5] at hv
              simp at hv
              subst hv
              exact g5
          · by_cases e : i < ls.length
            · obtain ⟨v, q1, q2⟩ := h8 i e
              refine ⟨v, by rw [List.getElem?_append_left (by omega)]; exact q1, ?_⟩
              rw [List.getElem_append_left e]
              exact q2.keeps hk
            · have : i = n := by simp at hi; omega
              subst this
              refine ⟨u, by rw [List.getElem?_append_right (by omega), h5]; simp, ?_⟩
              rw [List.getElem_append_right (by omega)]
              simpa using g6
      obtain ⟨m1, A1, us, ls, h1, h2, h3, h4, h5, h6, h7, h8⟩ := rows cap (Nat.le_refl _)
      have h0 := (hr 0 (by omega)).1
      rw [show x.add 0 = x by unfold Addr.add; simp] at h0
      have hsp : x.spot = none := by
        unfold World.cell? at h0
        split at h0
        · split at h0
          · cases h0
          · rename_i hsp; simpa using hsp
        · cases h0
      have hblk : ∃ cur e fr, w.heap[x.block]? = some (.cells cur e fr) := by
        unfold World.cell? at h0
        split at h0
        · rename_i c e fr hh; exact ⟨c, e, fr, hh⟩
        · cases h0
      obtain ⟨cur, e, fr, hblk⟩ := hblk
      have hcur : ∀ i, i < cap → cur[x.off + i]? = some (.slice (R i) (L i) (C i)) := fun i hi => by
        have h1 := (hr i hi).1
        rw [addr_add _ _ hsp] at h1
        simpa [World.cell?, hblk] using h1
      obtain ⟨hs', hno'⟩ := Sim.foreign h3 h4 us ⟨x.block, x.off, 1, cur.size⟩ hblk rfl (fun j v hv => by
        have hj := (List.getElem?_eq_some_iff.1 hv).1
        exact ⟨_, hcur j (by omega), h7 j v hv⟩)
      have hlast := (Array.getElem?_eq_some_iff.1 (hcur (cap - 1) (by omega))).1
      have hk := Keeps.of_le (AW.le.alloc A1 (.cells us false 1)) h3.low
      refine ⟨_, _, .slice (some ⟨A1.next, 0, none⟩) len len, ls.take len, Mp.le_trans h1 (h3.le_ext _), h2.trans (AW.le.alloc A1 _), hs', hno', ?_, us.take len, ?_, fun i hi => ?_⟩
      · refine .slice (.inl ⟨rfl, hsp, ⟨x.block, x.off, 1, cur.size⟩, by simp [Mp.ext], rfl, rfl, ?_⟩) (Nat.le_refl _) hlc
        show x.off + cap * 1 ≤ cur.size
        omega
      · refine .inr ⟨⟨A1.next, 0, none⟩, len, us, false, 1, ?_, ?_, AW.alloc_get_new _ _, rfl, ?_, ?_⟩
        · rw [List.length_take, Nat.min_eq_left (by omega)]
        · simp; omega
        · simp; omega
        · rw [List.drop_zero, List.length_take, Nat.min_eq_left (by omega), Nat.mul_one]
      · rw [List.length_take] at hi
        obtain ⟨u, q1, q2⟩ := h8 i (by omega)
        refine ⟨u, by rw [List.getElem?_take_of_lt (by omega)]; exact q1, ?_⟩
        rw [List.getElem_take]
        exact q2.keeps hk

end Go.Stx
