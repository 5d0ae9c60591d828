/-
  The reference's read and ParseSteps.
-/
import Derived.Test.YtbacpfealpblkaaDoorRepE
namespace Go.Stx
open Go Go.Proofs
def oRepF_0 : List (Nat × Nat) := [(0, 0), (1, 0), (2, 0), (3, 0), (4, 0), (5, 0), (6, 0), (7, 0), (8, 0), (9, 0), (10, 0), (11, 0), (12, 0), (13, 0), (14, 3)]
def oRepF_1 : List (Nat × Nat) := [(0, 0), (1, 0), (3, 0), (2, 2), (4, 0), (5, 3), (6, 0)]
attribute [local irreducible] AWP LWalk ACall ARounds lops nops
set_option linter.unusedVariables false
set_option linter.unusedSimpArgs false
set_option linter.unusedSectionVars false
set_option maxRecDepth 20000

def zeroS : StepV := ⟨0, 0, 0, 0, 0, 0, 0, 0, false⟩
def nWords (s : BS) : Prop := (pieces 32 s).length = 3 ∨ (pieces 32 s).length = 9
instance (s : BS) : Decidable (nWords s) := by unfold nWords; exact inferInstance
def readX (s : BS) : StepV := if nWords s then stepOf (pieces 32 s) else zeroS
def readB (s : BS) : Bool := (readF s).isSome

theorem readF_def (s : BS) : readF s = if nWords s then (if lineF (stepOf (pieces 32 s)) = s then some (stepOf (pieces 32 s)) else none) else none := rfl

theorem readB_eq (s : BS) (h : nWords s) : readB s = decide (lineF (stepOf (pieces 32 s)) = s) := by
  unfold readB
  rw [readF_def, if_pos h]
  split <;> simp_all
theorem readB_no (s : BS) (h : ¬ nWords s) : readB s = false := by
  unfold readB
  rw [readF_def, if_neg h]; rfl
theorem readF_eq (s : BS) : readF s = if readB s = true then some (readX s) else none := by
  by_cases h : nWords s
  · rw [readB_eq s h]
    unfold readX
    rw [readF_def, if_pos h, if_pos h]
    simp
  · rw [readB_no s h]
    rw [readF_def, if_neg h]; rfl

theorem split_words (s : BS) : ∃ h t, pieces 32 s = h :: t := by
  have := split_len 32 s
  rw [split_eq] at this
  cases h : pieces 32 s with
  | nil => rw [h] at this; simp at this
  | cons x t => exact ⟨x, t, rfl⟩

theorem pieces_len : ∀ (s : BS) (y : BS), y ∈ pieces 32 s → y.length ≤ s.length
  | [], y, h => by simp [pieces] at h; simp [h]
  | b :: s, y, h => by
    have ih := pieces_len s
    unfold pieces at h
    split at h
    · simp at h
      rcases h with rfl | h
      · simp
      · have := ih y h; simp; omega
    · split at h
      · rename_i x t he
        simp at h
        rcases h with rfl | h
        · have := ih x (by rw [he]; simp); simp; omega
        · have := ih y (by rw [he]; simp [h]); simp; omega
      · simp at h
        subst h; simp

variable [Gl]

theorem strs_get {w : List BS} {j : Nat} (h : j < w.length) : (strs w)[j]? = some (.string (bs w[j])) := by
  simp [strs, List.getElem?_eq_getElem h]

/-- Reading a word. -/
theorem IsSl.word {A : AW} {o : Option Addr} {n c : Nat} {w : List BS} (h : IsSl A 1 (.slice o n c) w.length (strs w)) {i : Nat} (hi : i < w.length) :
    ∃ p row, o = some p ∧ A.row p.block = some row ∧ row[p.off + i]? = some (.string (bs w[i])) := by
  rcases h with ⟨_, h2, _⟩ | ⟨p, c, row, own, u, h1, h2, h3, h4, h5, h6⟩
  · omega
  · injection h1 with h1 _ _
    refine ⟨p, row, h1, AW.row_of h3, ?_⟩
    have h7 := strs_get hi
    rw [h6, Nat.mul_one, List.getElem?_take_of_lt hi, List.getElem?_drop] at h7
    exact h7

theorem IsSl.wordg {A : AW} {o : Option Addr} {n c : Nat} {w : List BS} (h : IsSl A 1 (.slice o n c) w.length (strs w)) (h0 : 0 < w.length) :
    ∃ p row own u, o = some p ∧ A.get p.block = some (.cells row own u) ∧ ∀ i (hi : i < w.length), row[p.off + i]? = some (.string (bs w[i])) := by
  rcases h with ⟨_, h2, _⟩ | ⟨p, c, row, own, u, h1, h2, h3, h4, h5, h6⟩
  · omega
  · injection h1 with h1 _ _
    refine ⟨p, row, own, u, h1, h3, fun i hi => ?_⟩
    have h7 := strs_get hi
    rw [h6, Nat.mul_one, List.getElem?_take_of_lt hi, List.getElem?_drop] at h7
    exact h7

def numsAt (w : List BS) (i j : Nat) : Int := if j < i ∧ j ≠ 6 ∧ j ≠ 7 then atoiV (w.getD j []) else 0
def numsL (w : List BS) (i : Nat) : List Value := (List.range 9).map fun j => .int .i64 (numsAt w i j)

theorem numsL_skip (w : List BS) {i : Nat} (h : i = 6 ∨ i = 7) : numsL w (i + 1) = numsL w i := by
  unfold numsL
  refine List.map_congr_left fun j _ => ?_
  unfold numsAt
  congr 1
  by_cases e : j < i ∧ j ≠ 6 ∧ j ≠ 7
  · rw [if_pos e, if_pos ⟨by omega, e.2⟩]
  · rw [if_neg e, if_neg (by omega)]
theorem numsL_set (w : List BS) {i : Nat} (hi : i < 9) (h : ¬ (i = 6 ∨ i = 7)) : (numsL w i).set i (.int .i64 (atoiV (w.getD i []))) = numsL w (i + 1) := by
  unfold numsL
  apply List.ext_getElem?
  intro j
  by_cases e : j = i
  · subst e
    rw [List.getElem?_set_self (by simpa using hi)]
    simp [List.getElem?_map, hi, numsAt]
    omega
  · rw [List.getElem?_set_ne (Ne.symm e)]
    simp only [List.getElem?_map]
    by_cases hj : j < 9
    · simp [hj, numsAt]
      by_cases e2 : j < i ∧ j ≠ 6 ∧ j ≠ 7
      · rw [if_pos e2, if_pos ⟨by omega, e2.2⟩]
      · rw [if_neg e2, if_neg (by omega)]
    · simp [hj]
theorem numsL_length (w : List BS) (i : Nat) : (numsL w i).length = 9 := by simp [numsL]

theorem numsL3 (w : List BS) : numsL w 3 = [.int .i64 (atoiV (w.getD 0 [])), .int .i64 (atoiV (w.getD 1 [])), .int .i64 (atoiV (w.getD 2 [])), .int .i64 0, .int .i64 0, .int .i64 0, .int .i64 0, .int .i64 0, .int .i64 0] := by
  simp [numsL, numsAt, List.range_succ]
theorem numsL9 (w : List BS) : numsL w 9 = [.int .i64 (atoiV (w.getD 0 [])), .int .i64 (atoiV (w.getD 1 [])), .int .i64 (atoiV (w.getD 2 [])), .int .i64 (atoiV (w.getD 3 [])), .int .i64 (atoiV (w.getD 4 [])), .int .i64 (atoiV (w.getD 5 [])), .int .i64 0, .int .i64 0, .int .i64 (atoiV (w.getD 8 []))] := by
  simp [numsL, numsAt, List.range_succ]
theorem stepOf3 {w : List BS} (h : ¬ w.length = 9) : stepOf w = ⟨atoiV (w.getD 0 []), atoiV (w.getD 1 []), atoiV (w.getD 2 []), 0, 0, 0, 0, 0, false⟩ := by unfold stepOf; rw [if_neg h]
theorem stepOf9 {w : List BS} (h : w.length = 9) : stepOf w = ⟨atoiV (w.getD 0 []), atoiV (w.getD 1 []), atoiV (w.getD 2 []), atoiV (w.getD 3 []), atoiV (w.getD 4 []), atoiV (w.getD 5 []), uintV (w.getD 6 []), uintV (w.getD 7 []), w.getD 8 [] == [49]⟩ := by
  unfold stepOf
  rw [if_pos h, show decide (w.getD 8 [] = [49]) = (w.getD 8 [] == [49]) by rw [Bool.eq_iff_iff]; simp]

set_option maxHeartbeats 4000000 in
theorem read_call0 (hG : GOK) (s : BS) (A : AW) (hl : s.length < 2^38) :
    ACall Tryd.prog 22 [.string (bs s)] A (fun v A' => v = .tuple #[stepVal (readX s), .bool (readB s)] ∧ A.le A') := by
  refine acall_intro Tryd.func22 rfl (by kernel_rfl) fun hw => ?_
  refine wq ?_
  repeat' (first
  | (refine lwc fun R hR => ?_; simp [wrap_i64, wrap_u64, AW.row_get]; try simp (disch := omega) only [if_pos, if_neg, wrap_i64, wrap_u64])
  | (refine hR _ _ ?_; clear hR R) | (refine hK _ _ ?_; clear hK K) | refine lwn ?_ | refine lr ?_ | refine la ?_
  | refine wn fun K hK => ?_
  | simp only [wS, oRepF_0, oRepF_1]
  | refine wl Tryd.mx oRepF_0 (by decide +kernel) fun K hK => ?_
  | refine wl Tryd.mx oRepF_1 (by decide +kernel) fun K hK => ?_
  | refine wb ?_ | refine wr ?_ | refine wk ?_ | refine we ?_ | refine ws ?_ | refine wq ?_
  | (refine wc rfl (fun hc => ?_) (fun hc => ?_) <;> (try simp at hc) <;> (try omega))
  | (refine ib (fun hc => ?_) (fun hc => ?_) <;> (try omega) <;> (try simp (disch := omega) only [if_pos, if_neg])))
  refine callK (words_call s _ hl) ?_
  rintro u A1 ⟨h1, l1⟩ w1 n1
  have hz : A1.get A.next = some (.cells (stepCells zeroS) true 1) := by
    rw [l1.get _ (by simp)]
    simp [AW.alloc, stepCells, zeroS]
  have l1' : A.le A1 := (AW.le.alloc A _).trans l1
  obtain ⟨o, c, rfl, hc⟩ := h1.shape
  simp only [stepCells, zeroS] at hz
  by_cases hn : nWords s
  case neg =>
    have hn3 : ¬ ((pieces 32 s).length : Int) = 3 := fun e => hn (.inl (by omega))
    have hn9 : ¬ ((pieces 32 s).length : Int) = 9 := fun e => hn (.inr (by omega))
    repeat' (first
    | (refine lwc fun R hR => ?_; simp [wrap_i64, wrap_u64, AW.row_get, hz, hn3, hn9, astore]; try simp (disch := omega) only [if_pos, if_neg, wrap_i64, wrap_u64])
    | (refine hR _ _ ?_; clear hR R) | (refine hK _ _ ?_; clear hK K) | refine lwn ?_ | refine lr ?_ | refine la ?_
    | refine wn fun K hK => ?_
    | simp only [wS, oRepF_0, oRepF_1]
    | refine wl Tryd.mx oRepF_0 (by decide +kernel) fun K hK => ?_
    | refine wl Tryd.mx oRepF_1 (by decide +kernel) fun K hK => ?_
    | refine wb ?_ | refine wr ?_ | refine wk ?_ | refine we ?_ | refine ws ?_ | refine wq ?_
    | (refine wc rfl (fun hc => ?_) (fun hc => ?_) <;> (try simp at hc) <;> (try omega))
    | (refine ib (fun hc => ?_) (fun hc => ?_) <;> (try omega) <;> (try simp (disch := omega) only [if_pos, if_neg])))
    simp [AThen, AW.row_get, stepVal, stepCells, readX, hn, zeroS, readB_no s hn]
    exact l1'.set (Nat.le_refl _) _
  have hn0 : ¬ A.next = A1.next := by have := n1; simp at this; omega
  have hlen9 : (pieces 32 s).length ≤ 9 := by rcases hn with h | h <;> omega
  have hpl := pieces_len s
  have hcase : (((pieces 32 s).length : Int) = 3 ∧ ¬ ((pieces 32 s).length : Int) = 9) ∨ (¬ ((pieces 32 s).length : Int) = 3 ∧ ((pieces 32 s).length : Int) = 9) := by rcases hn with h | h <;> omega
  have hnw : nWords s := hn
  clear hn
  rcases hcase with ⟨hA, hB⟩ | ⟨hA, hB⟩
  all_goals (
    repeat' (first
    | (refine lwc fun R hR => ?_; simp [wrap_i64, wrap_u64, AW.row_get, hz, hA, hB, hn0, astore]; try simp (disch := omega) only [if_pos, if_neg, wrap_i64, wrap_u64])
    | (refine hR _ _ ?_; clear hR R) | (refine hK _ _ ?_; clear hK K) | refine lwn ?_ | refine lr ?_ | refine la ?_
    | refine wn fun K hK => ?_
    | simp only [wS, oRepF_0, oRepF_1]
    | refine wl Tryd.mx oRepF_0 (by decide +kernel) fun K hK => ?_
    | refine wl Tryd.mx oRepF_1 (by decide +kernel) fun K hK => ?_
    | refine wb ?_ | refine wr ?_ | refine wk ?_ | refine we ?_ | refine ws ?_ | refine wq ?_
    | (refine wc rfl (fun hc => ?_) (fun hc => ?_) <;> (try simp at hc) <;> (try omega))
    | (refine ib (fun hc => ?_) (fun hc => ?_) <;> (try omega) <;> (try simp (disch := omega) only [if_pos, if_neg])))
    refine awp_loop (fun k fr A' => ∃ i : Nat, k = (pieces 32 s).length - i ∧ i ≤ (pieces 32 s).length ∧ fr 0 = .string (bs s) ∧ fr 2 = .pointer (some ⟨A.next, 0, none⟩) ∧ fr 4 = .slice o (pieces 32 s).length c ∧
      fr 5 = .pointer (some ⟨A1.next, 0, none⟩) ∧ fr 6 = .int .i64 i ∧ A1.le A' ∧ A'.Wf ∧ A'.get A1.next = some (.cells (numsL (pieces 32 s) i) true 1)) (pieces 32 s).length ?_ ?_
    · exact ⟨0, by simp, by simp, rfl, rfl, rfl, rfl, rfl, AW.le.alloc A1 _, w1.alloc _, by simp [numsL, numsAt, List.range_succ]⟩
    rintro k fr A' ⟨i, rfl, hi, g0, g2, g4, g5, g6, hle, hw', hg⟩
    by_cases hlt : i < (pieces 32 s).length
    · have hj1 : IntKind.i64.wrap ((i : Int) + 1) = ((i + 1 : Nat) : Int) := wrap_i64 (by omega) (by omega)
      by_cases h67 : i = 6 ∨ i = 7
      · have e67 := numsL_skip (pieces 32 s) h67
        have h67' : ¬ (i : Int) = 6 → (i : Int) = 7 := by omega
        repeat' (first
        | (refine lwc fun R hR => ?_; simp [wrap_i64, wrap_u64, g0, g2, g4, g5, g6, hlt, hj1]; try simp (disch := omega) only [if_pos, if_neg, wrap_i64, wrap_u64])
        | (refine hR _ _ ?_; clear hR R) | (refine hK _ _ ?_; clear hK K) | refine lwn ?_ | refine lr ?_ | refine la ?_
        | refine wn fun K hK => ?_
        | simp only [wS, oRepF_0, oRepF_1]
        | refine wl Tryd.mx oRepF_0 (by decide +kernel) fun K hK => ?_
        | refine wl Tryd.mx oRepF_1 (by decide +kernel) fun K hK => ?_
        | refine wb ?_ | refine wr ?_ | refine wk ?_ | refine we ?_ | refine ws ?_ | refine wq ?_
        | (refine wc rfl (fun hc => ?_) (fun hc => ?_) <;> (try simp at hc) <;> (try omega))
        | (refine ib (fun hc => ?_) (fun hc => ?_) <;> (try omega) <;> (try simp (disch := omega) only [if_pos, if_neg])))
        all_goals (
          refine ⟨(pieces 32 s).length - (i + 1), by omega, i + 1, rfl, by omega, ?_, ?_, ?_, ?_, ?_, hle, hw', by rw [e67]; exact hg⟩
          · simp [g0]
          · simp [g2]
          · simp [g4]
          · simp [g5]
          · simp)
      · have e6 : ¬ (i : Int) = 6 := by omega
        have e7 : ¬ (i : Int) = 7 := by omega
        have e67 := numsL_set (pieces 32 s) (by omega) h67
        obtain ⟨p, row, rfl, hrow, hcell⟩ := (IsSl.le hle w1 h1.is).word hlt
        have hwl : ((pieces 32 s)[i]).length ≤ 281474976710656 := by
          have := hpl _ (List.getElem_mem hlt)
          omega
        repeat' (first
        | (refine lwc fun R hR => ?_; simp [wrap_i64, wrap_u64, g0, g2, g4, g5, g6, hlt, hj1, e6, e7, hrow, hcell]; try simp (disch := omega) only [if_pos, if_neg, wrap_i64, wrap_u64])
        | (refine hR _ _ ?_; clear hR R) | (refine hK _ _ ?_; clear hK K) | refine lwn ?_ | refine lr ?_ | refine la ?_
        | refine wn fun K hK => ?_
        | simp only [wS, oRepF_0, oRepF_1]
        | refine wl Tryd.mx oRepF_0 (by decide +kernel) fun K hK => ?_
        | refine wl Tryd.mx oRepF_1 (by decide +kernel) fun K hK => ?_
        | refine wb ?_ | refine wr ?_ | refine wk ?_ | refine we ?_ | refine ws ?_ | refine wq ?_
        | (refine wc rfl (fun hc => ?_) (fun hc => ?_) <;> (try simp at hc) <;> (try omega))
        | (refine ib (fun hc => ?_) (fun hc => ?_) <;> (try omega) <;> (try simp (disch := omega) only [if_pos, if_neg])))
        refine callK (atoi_call hG (pieces 32 s)[i] A' hwl) ?_
        rintro _ A2 ⟨e, rfl, he, hle2⟩ w2 n2
        have hg2 := hle2.keep hw' hg
        rw [List.getD_eq_getElem?_getD, List.getElem?_eq_getElem hlt, Option.getD_some] at e67
        repeat' (first
        | (refine lwc fun R hR => ?_; simp [wrap_i64, wrap_u64, g0, g2, g4, g5, g6, hlt, hj1, hg2, astore, numsL_length, setCells, e67]; try simp (disch := omega) only [if_pos, if_neg, wrap_i64, wrap_u64])
        | (refine hR _ _ ?_; clear hR R) | (refine hK _ _ ?_; clear hK K) | refine lwn ?_ | refine lr ?_ | refine la ?_
        | refine wn fun K hK => ?_
        | simp only [wS, oRepF_0, oRepF_1]
        | refine wl Tryd.mx oRepF_0 (by decide +kernel) fun K hK => ?_
        | refine wl Tryd.mx oRepF_1 (by decide +kernel) fun K hK => ?_
        | refine wb ?_ | refine wr ?_ | refine wk ?_ | refine we ?_ | refine ws ?_ | refine wq ?_
        | (refine wc rfl (fun hc => ?_) (fun hc => ?_) <;> (try simp at hc) <;> (try omega))
        | (refine ib (fun hc => ?_) (fun hc => ?_) <;> (try omega) <;> (try simp (disch := omega) only [if_pos, if_neg])))
        refine ⟨(pieces 32 s).length - (i + 1), by omega, i + 1, rfl, by omega, ?_, ?_, ?_, ?_, ?_, (hle.trans hle2).set (Nat.le_refl _) _, w2.set _ (w2.lt hg2), by simp⟩
        · simp [g0]
        · simp [g2]
        · simp [g4]
        · simp [g5]
        · simp
    · have hil : i = (pieces 32 s).length := by omega
      have hz' : A'.get A.next = some (.cells (stepCells zeroS) true 1) := by
        rw [hle.get _ (w1.lt hz)]
        exact hz
      have hb7 : A1.next < A'.next := hw'.lt hg
      have hb8 : ¬ A.next = A'.next := by have := w1.lt hz; omega
      have hb9 : ¬ A1.next = A'.next := by omega
      simp only [stepCells, zeroS] at hz'
      first
      | (have hn3 : (pieces 32 s).length = 3 := by omega
         have hX := stepOf3 (w := pieces 32 s) (by omega)
         have hline := fun A => refLine_call hG _ (stepOf_ok (pieces 32 s)) A
         simp only [hX, stepVal, stepCells] at hline
         rw [hil, hn3, numsL3] at hg
         have hq := readB_eq s hnw
         rw [hX] at hq
         repeat' (first
         | (refine lwc fun R hR => ?_; simp [wrap_i64, wrap_u64, g0, g2, g4, g5, g6, hlt, hB, hg, hz', hb8, hb9, astore, AW.row_get, setCells, bs_toList]; try simp (disch := omega) only [if_pos, if_neg, wrap_i64, wrap_u64])
         | (refine hR _ _ ?_; clear hR R) | (refine hK _ _ ?_; clear hK K) | refine lwn ?_ | refine lr ?_ | refine la ?_
         | refine wn fun K hK => ?_
         | simp only [wS, oRepF_0, oRepF_1]
         | refine wl Tryd.mx oRepF_0 (by decide +kernel) fun K hK => ?_
         | refine wl Tryd.mx oRepF_1 (by decide +kernel) fun K hK => ?_
         | (refine callK (hline _) ?_; rintro _ _ ⟨rfl, rfl⟩ _ _)
         | (refine ⟨AW.le.refl _, ?_⟩)
         | refine wb ?_ | refine wr ?_ | refine wk ?_ | refine we ?_ | refine ws ?_ | refine wq ?_
         | (refine wc rfl (fun hc => ?_) (fun hc => ?_) <;> (try simp at hc) <;> (try omega))
         | (refine ib (fun hc => ?_) (fun hc => ?_) <;> (try omega) <;> (try simp (disch := omega) only [if_pos, if_neg])))
         simp [g2, hb8, hb9, AW.row_get, stepVal, stepCells, readX, hnw, hX, hq]
         refine ⟨by rw [Bool.eq_iff_iff]; simp, ?_⟩
         have hnn := (l1'.trans hle).next
         exact (((l1'.trans hle).trans (AW.le.alloc _ _)).set hnn _).set (Nat.le_refl _) _)
      | (have hn9 : (pieces 32 s).length = 9 := by omega
         have hX := stepOf9 hn9
         have hline := fun A => refLine_call hG _ (stepOf_ok (pieces 32 s)) A
         simp only [hX, stepVal, stepCells] at hline
         rw [hil, hn9, numsL9] at hg
         have hq := readB_eq s hnw
         rw [hX] at hq
         obtain ⟨p, row, own, uu, rfl, hrow, hcell⟩ := (IsSl.le hle w1 h1.is).wordg (by omega)
         have hp7 : ¬ p.block = A'.next := by have := hw'.lt hrow; omega
         have hc6 := hcell 6 (by omega)
         have hc7 := hcell 7 (by omega)
         have hc8 := hcell 8 (by omega)
         have hd : ∀ j (hj : j < (pieces 32 s).length), (pieces 32 s).getD j [] = (pieces 32 s)[j] := fun j hj => by rw [List.getD_eq_getElem?_getD, List.getElem?_eq_getElem hj]; rfl
         rw [← hd 6 (by omega)] at hc6
         rw [← hd 7 (by omega)] at hc7
         rw [← hd 8 (by omega)] at hc8
         have hlw : ∀ j (hj : j < (pieces 32 s).length), ((pieces 32 s).getD j []).length ≤ 281474976710656 := fun j hj => by
           rw [hd j hj]
           have := hpl _ (List.getElem_mem hj)
           omega
         have hlw6 := hlw 6 (by omega)
         have hlw7 := hlw 7 (by omega)
         clear hd hcell hlw
         generalize ew : pieces 32 s = ws at *
         repeat' (first
         | (refine lwc fun R hR => ?_; simp [wrap_i64, wrap_u64, g0, g2, g4, g5, g6, hlt, hB, hg, hz', hb8, hb9, hp7, hrow, hc6, astore, AW.row_get, setCells, bs_toList]; try simp (disch := omega) only [if_pos, if_neg, wrap_i64, wrap_u64])
         | (refine hR _ _ ?_; clear hR R) | (refine hK _ _ ?_; clear hK K) | refine lwn ?_ | refine lr ?_ | refine la ?_
         | refine wn fun K hK => ?_
         | simp only [wS, oRepF_0, oRepF_1]
         | refine wl Tryd.mx oRepF_0 (by decide +kernel) fun K hK => ?_
         | refine wl Tryd.mx oRepF_1 (by decide +kernel) fun K hK => ?_
         | refine wb ?_ | refine wr ?_ | refine wk ?_ | refine we ?_ | refine ws ?_ | refine wq ?_
         | (refine wc rfl (fun hc => ?_) (fun hc => ?_) <;> (try simp at hc) <;> (try omega))
         | (refine ib (fun hc => ?_) (fun hc => ?_) <;> (try omega) <;> (try simp (disch := omega) only [if_pos, if_neg])))
         simp only [List.getD_eq_getElem?_getD] at hlw6 hlw7 hc7 hc8 hline hq hX
         refine callK (uint_call hG (ws[6]?.getD []) _ hlw6) ?_
         rintro _ A2 ⟨e6, rfl, he6, l2⟩ w2 n2
         have q : ∀ j, j < A'.next → A2.get j = A'.get j := fun j hj => by
           rw [l2.get j (by simp; omega)]
           simp [AW.alloc, AW.set, show ¬ j = A'.next by omega]
         have m0 := (q _ (by have := w1.lt hz; omega)).trans hz'
         have m1 := (q _ hb7).trans hg
         have mp := (q _ (hw'.lt hrow)).trans hrow
         have m7 := l2.get A'.next (by simp)
         rw [AW.set_get_eq] at m7
         repeat' (first
         | (refine lwc fun R hR => ?_; simp [wrap_i64, wrap_u64, g0, g2, g4, g5, g6, hlt, hB, mp, m0, m1, m7, hc7, astore, AW.row_get, setCells, bs_toList]; try simp (disch := omega) only [if_pos, if_neg, wrap_i64, wrap_u64])
         | (refine hR _ _ ?_; clear hR R) | (refine hK _ _ ?_; clear hK K) | refine lwn ?_ | refine lr ?_ | refine la ?_
         | refine wn fun K hK => ?_
         | simp only [wS, oRepF_0, oRepF_1]
         | refine wl Tryd.mx oRepF_0 (by decide +kernel) fun K hK => ?_
         | refine wl Tryd.mx oRepF_1 (by decide +kernel) fun K hK => ?_
         | refine wb ?_ | refine wr ?_ | refine wk ?_ | refine we ?_ | refine ws ?_ | refine wq ?_
         | (refine wc rfl (fun hc => ?_) (fun hc => ?_) <;> (try simp at hc) <;> (try omega))
         | (refine ib (fun hc => ?_) (fun hc => ?_) <;> (try omega) <;> (try simp (disch := omega) only [if_pos, if_neg])))
         refine callK (uint_call hG (ws[7]?.getD []) _ hlw7) ?_
         rintro _ A3 ⟨e7, rfl, he7, l3⟩ w3 n3
         have m0 := l3.keep w2 m0
         have m1 := l3.keep w2 m1
         have mp := l3.keep w2 mp
         have m7 := l3.keep w2 m7
         have hb10 : ¬ A1.next = A.next := by omega
         repeat' (first
         | (refine lwc fun R hR => ?_; simp [wrap_i64, wrap_u64, g0, g2, g4, g5, g6, hlt, hB, mp, m0, m1, m7, hc8, hb8, hb9, hp7, astore, AW.row_get, setCells, bs_toList, mk_bs]; try simp (disch := omega) only [if_pos, if_neg, wrap_i64, wrap_u64])
         | (refine hR _ _ ?_; clear hR R) | (refine hK _ _ ?_; clear hK K) | refine lwn ?_ | refine lr ?_ | refine la ?_
         | refine wn fun K hK => ?_
         | simp only [wS, oRepF_0, oRepF_1]
         | refine wl Tryd.mx oRepF_0 (by decide +kernel) fun K hK => ?_
         | refine wl Tryd.mx oRepF_1 (by decide +kernel) fun K hK => ?_
         | (refine callK (hline _) ?_; rintro _ _ ⟨rfl, rfl⟩ _ _)
         | (refine ⟨AW.le.refl _, ?_⟩)
         | refine wb ?_ | refine wr ?_ | refine wk ?_ | refine we ?_ | refine ws ?_ | refine wq ?_
         | (refine wc rfl (fun hc => ?_) (fun hc => ?_) <;> (try simp at hc) <;> (try omega))
         | (refine ib (fun hc => ?_) (fun hc => ?_) <;> (try omega) <;> (try simp (disch := omega) only [if_pos, if_neg])))
         simp [g2, m0, m1, m7, hb8, hb9, AW.row_get, stepVal, stepCells, readX, hnw, hX, hq, ew]
         refine ⟨by rw [Bool.eq_iff_iff]; simp, ?_⟩
         have hnn := (l1'.trans hle).next
         exact ((((((l1'.trans hle).trans (AW.le.alloc _ _)).set hnn _).trans l2).trans l3).set hnn _).set (Nat.le_refl _) _))

theorem VBelow.step {n : Nat} (x : StepV) : VBelow n (stepVal x) := by
  refine VBelow.agg fun v hv => ?_
  simp only [stepCells, List.mem_cons, List.not_mem_nil, or_false] at hv
  rcases hv with rfl | rfl | rfl | rfl | rfl | rfl | rfl | rfl | rfl <;> exact VBelow.of_scalar rfl
theorem VBelow.parsed {n : Nat} (x : StepV) (b : Bool) : VBelow n (.tuple #[stepVal x, .bool b]) := by
  refine VBelow.tuple fun v hv => ?_
  simp only [List.mem_cons, List.not_mem_nil, or_false] at hv
  rcases hv with rfl | rfl
  · exact VBelow.step x
  · exact VBelow.of_scalar rfl

theorem read_call (hG : GOK) (s : BS) (A : AW) (hl : s.length < 2^38) :
    ACall Tryd.prog 22 [.string (bs s)] A (fun v A' => v = .tuple #[stepVal (readX s), .bool (readB s)] ∧ A = A') :=
  ACall.gc0 (VBelow.parsed _ _) (fun _ => read_call0 hG s A hl) (by kernel_rfl)

end Go.Stx
