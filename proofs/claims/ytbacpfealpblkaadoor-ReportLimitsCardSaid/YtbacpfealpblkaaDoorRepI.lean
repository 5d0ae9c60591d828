/-
  report.parse and report.ParseSteps.
-/
import Derived.Test.YtbacpfealpblkaaDoorRepH
namespace Go.Stx
open Go Go.Proofs
def oRepI_0 : List (Nat × Nat) := [(0, 0), (1, 0), (4, 0), (2, 2), (3, 2), (5, 0), (6, 3), (7, 0)]
attribute [local irreducible] AWP LWalk ACall ARounds lops nops
set_option linter.unusedVariables false
set_option linter.unusedSimpArgs false
set_option linter.unusedSectionVars false
set_option maxRecDepth 20000

/-- All its numbers are read without an error. -/
def okW (s : BS) : Prop := (∀ j, j < min (pieces 32 s).length 6 → atoiOk ((pieces 32 s).getD j []) = true) ∧ ((pieces 32 s).length = 9 → uintOk ((pieces 32 s).getD 6 []) = true ∧ uintOk ((pieces 32 s).getD 7 []) = true)
def goodW (s : BS) : Prop := nWords s ∧ okW s
open Classical in
noncomputable def parseX (s : BS) : StepV := if goodW s then stepOf (pieces 32 s) else zeroS

theorem bad_read {s : BS} (h : ¬ goodW s) : readB s = false := by
  unfold readB
  cases hr : readF s with
  | none => rfl
  | some x =>
    exfalso
    refine h ⟨?_, readF_words hr⟩
    rw [readF_def] at hr
    split at hr
    · assumption
    · cases hr
theorem parseX_good {s : BS} (h : readB s = true) : parseX s = readX s := by
  have hg : goodW s := Classical.byContradiction fun hn => by rw [bad_read hn] at h; cases h
  unfold parseX readX
  rw [if_pos hg, if_pos hg.1]

def numsP (w : List BS) (i j : Nat) : Int := if j < i then atoiV (w.getD j []) else 0
/-- The cells of a step of which i numbers are read. -/
def stepAt (w : List BS) (i : Nat) : List Value := ((List.range 6).map fun j => .int .i64 (numsP w i j)) ++ [.int .u64 0, .int .u64 0, .bool false]

theorem stepAt_length (w : List BS) (i : Nat) : (stepAt w i).length = 9 := by simp [stepAt]
theorem stepAt_set (w : List BS) {i : Nat} (hi : i < 6) : (stepAt w i).set i (.int .i64 (atoiV (w.getD i []))) = stepAt w (i + 1) := by
  unfold stepAt
  rw [List.set_append_left _ _ (by simpa using hi)]
  congr 1
  apply List.ext_getElem?
  intro j
  by_cases e : j = i
  · subst e
    rw [List.getElem?_set_self (by simpa using hi)]
    simp [List.getElem?_map, hi, numsP]
  · rw [List.getElem?_set_ne (Ne.symm e)]
    simp only [List.getElem?_map]
    by_cases hj : j < 6
    · simp [hj, numsP]
      by_cases e2 : j < i
      · rw [if_pos e2, if_pos (by omega)]
      · rw [if_neg e2, if_neg (by omega)]
    · simp [hj]
theorem stepAt3 (w : List BS) : stepAt w 3 = [.int .i64 (atoiV (w.getD 0 [])), .int .i64 (atoiV (w.getD 1 [])), .int .i64 (atoiV (w.getD 2 [])), .int .i64 0, .int .i64 0, .int .i64 0, .int .u64 0, .int .u64 0, .bool false] := by
  simp [stepAt, numsP, List.range_succ]
theorem stepAt6 (w : List BS) : stepAt w 6 = [.int .i64 (atoiV (w.getD 0 [])), .int .i64 (atoiV (w.getD 1 [])), .int .i64 (atoiV (w.getD 2 [])), .int .i64 (atoiV (w.getD 3 [])), .int .i64 (atoiV (w.getD 4 [])), .int .i64 (atoiV (w.getD 5 [])), .int .u64 0, .int .u64 0, .bool false] := by
  simp [stepAt, numsP, List.range_succ]
theorem stepAt0 (w : List BS) : stepAt w 0 = [.int .i64 0, .int .i64 0, .int .i64 0, .int .i64 0, .int .i64 0, .int .i64 0, .int .u64 0, .int .u64 0, .bool false] := by
  simp [stepAt, numsP, List.range_succ]

variable [Gl]

theorem split_call' (hG : GOK) (s : BS) (A : AW) (hl : s.length < 2^30) :
    ACall Tryd.prog 29 [.string (bs s), .string (bs [32])] A fun v A' => v = .slice (some ⟨A.next, 0, none⟩) (pieces 32 s).length (pieces 32 s).length ∧ A' = A.alloc (.cells (strs (pieces 32 s)) true 1) := by
  have := split_call hG s [32] A (by omega) (by simp) (split_len 32 s)
  rw [split_eq] at this
  exact this

theorem join_call (v : Value) (xs : List BS) (A : AW) (h : IsSl A 1 v xs.length (strs xs)) (hn : xs.length ≤ 1000) (hlen : (Lib.join xs [32]).length ≤ 1000) :
    ACall Tryd.prog 23 [v, .string (bs [32])] A fun v A' => v = .string (bs (Lib.join xs [32])) ∧ A = A' := (join_pure v xs [32] A h (by omega) (by omega)).call ⟨rfl, rfl⟩

set_option maxHeartbeats 4000000 in
theorem parse_call0 (hG : GOK) (s : BS) (A : AW) (hl : s.length < 2^30) :
    ACall Tryd.prog 20 [.string (bs s)] A (fun v A' => v = .tuple #[stepVal (parseX s), .bool (readB s)] ∧ A.le A') := by
  refine acall_intro Tryd.func20 rfl (by kernel_rfl) fun hw => ?_
  refine wq ?_
  have hpl := pieces_len s
  by_cases hn : nWords s
  case neg =>
    have hn3 : ¬ ((pieces 32 s).length : Int) = 3 := fun e => hn (.inl (by omega))
    have hn9 : ¬ ((pieces 32 s).length : Int) = 9 := fun e => hn (.inr (by omega))
    have hbad : ¬ goodW s := fun h => hn h.1
    repeat' (first
    | (refine lwc fun R hR => ?_; simp [wrap_i64, wrap_u64, AW.row_get, mk_bs]; try simp (disch := omega) only [if_pos, if_neg, wrap_i64, wrap_u64])
    | (refine hR _ _ ?_; clear hR R) | (refine hK _ _ ?_; clear hK K) | refine lwn ?_ | refine lr ?_ | refine la ?_
    | refine wn fun K hK => ?_
    | simp only [wS, oRepI_0]
    | refine wl Tryd.mx oRepI_0 (by decide +kernel) fun K hK => ?_
    | refine wb ?_ | refine wr ?_ | refine wk ?_ | refine we ?_ | refine ws ?_ | refine wq ?_
    | (refine wc rfl (fun hc => ?_) (fun hc => ?_) <;> (try simp at hc) <;> (try omega))
    | (refine ib (fun hc => ?_) (fun hc => ?_) <;> (try omega) <;> (try simp (disch := omega) only [if_pos, if_neg])))
    refine callK (split_call' hG s _ hl) ?_
    rintro _ _ ⟨rfl, rfl⟩ _ _
    repeat' (first
    | (refine lwc fun R hR => ?_; simp [wrap_i64, wrap_u64, AW.row_get, hn3, hn9, astore]; try simp (disch := omega) only [if_pos, if_neg, wrap_i64, wrap_u64])
    | (refine hR _ _ ?_; clear hR R) | (refine hK _ _ ?_; clear hK K) | refine lwn ?_ | refine lr ?_ | refine la ?_
    | refine wn fun K hK => ?_
    | simp only [wS, oRepI_0]
    | refine wl Tryd.mx oRepI_0 (by decide +kernel) fun K hK => ?_
    | refine wb ?_ | refine wr ?_ | refine wk ?_ | refine we ?_ | refine ws ?_ | refine wq ?_
    | (refine wc rfl (fun hc => ?_) (fun hc => ?_) <;> (try simp at hc) <;> (try omega))
    | (refine ib (fun hc => ?_) (fun hc => ?_) <;> (try omega) <;> (try simp (disch := omega) only [if_pos, if_neg])))
    simp [AThen, AW.row_get, stepVal, stepCells, parseX, hbad, zeroS, bad_read hbad]
    exact (((AW.le.alloc A _).trans (AW.le.alloc _ _)).set (Nat.le_refl _) _)
  have hcase : (((pieces 32 s).length : Int) = 3 ∧ ¬ ((pieces 32 s).length : Int) = 9) ∨ (¬ ((pieces 32 s).length : Int) = 3 ∧ ((pieces 32 s).length : Int) = 9) := by rcases hn with h | h <;> omega
  have hnw : nWords s := hn
  clear hn
  have hd : ∀ j (hj : j < (pieces 32 s).length), (pieces 32 s).getD j [] = (pieces 32 s)[j] := fun j hj => by rw [List.getD_eq_getElem?_getD, List.getElem?_eq_getElem hj]; rfl
  have hlw : ∀ j (hj : j < (pieces 32 s).length), ((pieces 32 s)[j]).length ≤ 281474976710656 := fun j hj => by
    have := hpl _ (List.getElem_mem hj)
    omega
  obtain ⟨M, hM6, hMl, hMs, hM⟩ : ∃ M : Nat, M ≤ 6 ∧ M ≤ (pieces 32 s).length ∧ (∀ j, j < min (pieces 32 s).length 6 → j < M) ∧ (M = 3 ∧ (pieces 32 s).length = 3 ∨ M = 6 ∧ (pieces 32 s).length = 9) := by
    rcases hnw with h | h
    · exact ⟨3, by omega, by omega, fun j hj => by omega, .inl ⟨rfl, h⟩⟩
    · exact ⟨6, by omega, by omega, fun j hj => by omega, .inr ⟨rfl, h⟩⟩
  obtain ⟨PL, hPL⟩ : ∃ PL : List Value, PL = [.pointer (some ⟨A.next + 1 + 1, 0, none⟩), .pointer (some ⟨A.next + 1 + 1, 1, none⟩), .pointer (some ⟨A.next + 1 + 1, 2, none⟩), .pointer (some ⟨A.next + 1 + 1, 3, none⟩), .pointer (some ⟨A.next + 1 + 1, 4, none⟩), .pointer (some ⟨A.next + 1 + 1, 5, none⟩)] := ⟨_, rfl⟩
  have hPg : ∀ i, i < 6 → PL[i]? = some (.pointer (some ⟨A.next + 1 + 1, i, none⟩)) := fun i hi => by
    have : i = 0 ∨ i = 1 ∨ i = 2 ∨ i = 3 ∨ i = 4 ∨ i = 5 := by omega
    rcases this with rfl | rfl | rfl | rfl | rfl | rfl <;> rw [hPL] <;> rfl
  rcases hcase with ⟨hA, hB⟩ | ⟨hA, hB⟩
  all_goals (
    repeat' (first
    | (refine lwc fun R hR => ?_; simp [wrap_i64, wrap_u64, AW.row_get, mk_bs]; try simp (disch := omega) only [if_pos, if_neg, wrap_i64, wrap_u64])
    | (refine hR _ _ ?_; clear hR R) | (refine hK _ _ ?_; clear hK K) | refine lwn ?_ | refine lr ?_ | refine la ?_
    | refine wn fun K hK => ?_
    | simp only [wS, oRepI_0]
    | refine wl Tryd.mx oRepI_0 (by decide +kernel) fun K hK => ?_
    | refine wb ?_ | refine wr ?_ | refine wk ?_ | refine we ?_ | refine ws ?_ | refine wq ?_
    | (refine wc rfl (fun hc => ?_) (fun hc => ?_) <;> (try simp at hc) <;> (try omega))
    | (refine ib (fun hc => ?_) (fun hc => ?_) <;> (try omega) <;> (try simp (disch := omega) only [if_pos, if_neg])))
    refine callK (split_call' hG s _ hl) ?_
    rintro _ _ ⟨rfl, rfl⟩ _ _
    repeat' (first
    | (refine lwc fun R hR => ?_; simp [wrap_i64, wrap_u64, AW.row_get, hA, hB, astore]; try simp (disch := omega) only [if_pos, if_neg, wrap_i64, wrap_u64])
    | (refine hR _ _ ?_; clear hR R) | (refine hK _ _ ?_; clear hK K) | refine lwn ?_ | refine lr ?_ | refine la ?_
    | refine wn fun K hK => ?_
    | simp only [wS, oRepI_0]
    | refine wl Tryd.mx oRepI_0 (by decide +kernel) fun K hK => ?_
    | refine wb ?_ | refine wr ?_ | refine wk ?_ | refine we ?_ | refine ws ?_ | refine wq ?_
    | (refine wc rfl (fun hc => ?_) (fun hc => ?_) <;> (try simp at hc) <;> (try omega))
    | (refine ib (fun hc => ?_) (fun hc => ?_) <;> (try omega) <;> (try simp (disch := omega) only [if_pos, if_neg])))
    generalize ew : pieces 32 s = ws at *
    refine awp_loop (fun k fr A' => ∃ i : Nat, k = M - i ∧ i ≤ M ∧ fr 0 = .string (bs s) ∧ fr 2 = .pointer (some ⟨A.next, 0, none⟩) ∧ fr 4 = .slice (some ⟨A.next + 1, 0, none⟩) ws.length ws.length ∧
      fr 5 = .pointer (some ⟨A.next + 1 + 1, 0, none⟩) ∧ fr 40 = .slice (some ⟨A.next + 1 + 1 + 1, 0, none⟩) M 6 ∧ fr 41 = .int .i64 M ∧ fr 42 = .int .i64 i ∧ A.le A' ∧ A'.Wf ∧
      A'.get A.next = some (.cells [.int .i64 0, .int .i64 0, .int .i64 0, .int .i64 0, .int .i64 0, .int .i64 0, .int .u64 0, .int .u64 0, .bool false] true 1) ∧ A'.get (A.next + 1) = some (.cells (strs ws) true 1) ∧
      A'.get (A.next + 1 + 1) = some (.cells (stepAt ws i) true 1) ∧ A'.get (A.next + 1 + 1 + 1) = some (.cells PL true 1) ∧ (∀ j, j < i → atoiOk (ws.getD j []) = true)) M ?_ ?_
    · have hM' : M = 3 ∨ M = 6 := by omega
      refine ⟨0, by simp, by simp, rfl, rfl, rfl, rfl, ?_, ?_, rfl, (((AW.le.alloc A _).trans (AW.le.alloc _ _)).trans (AW.le.alloc _ _)).trans (AW.le.alloc _ _), (((hw.alloc _).alloc _).alloc _).alloc _, ?_, ?_, ?_, ?_, fun j hj => by omega⟩
      · rcases hM' with rfl | rfl
        · first | rfl | (exfalso; omega)
        · first | rfl | (exfalso; omega)
      · rcases hM' with rfl | rfl
        · first | rfl | (exfalso; omega)
        · first | rfl | (exfalso; omega)
      · simp [AW.alloc]
        omega
      · simp [AW.alloc]
      · simp [AW.alloc, stepAt0]
      · simp [AW.alloc, hPL]
    rintro k fr A' ⟨i, rfl, hi, g0, g2, g4, g5, g40, g41, g42, hle, hw', m2, m4, m5, m6, hoks⟩
    by_cases hlt : i < M
    · have hj1 : IntKind.i64.wrap ((i : Int) + 1) = ((i + 1 : Nat) : Int) := wrap_i64 (by omega) (by omega)
      have hlw' : i < ws.length := by omega
      have hwd := strs_get hlw'
      have hpp := hPg i (by omega)
      have h0i : (0 : Int) ≤ i := by omega
      repeat' (first
      | (refine lwc fun R hR => ?_; simp [wrap_i64, wrap_u64, g0, g2, g4, g5, g40, g41, g42, hlt, hj1, hlw', hwd, hpp, m2, m4, m5, m6, AW.row_get]; try simp (disch := omega) only [if_pos, if_neg, wrap_i64, wrap_u64])
      | (refine hR _ _ ?_; clear hR R) | (refine hK _ _ ?_; clear hK K) | refine lwn ?_ | refine lr ?_ | refine la ?_
      | refine wn fun K hK => ?_
      | simp only [wS, oRepI_0]
      | refine wl Tryd.mx oRepI_0 (by decide +kernel) fun K hK => ?_
      | refine wb ?_ | refine wr ?_ | refine wk ?_ | refine we ?_ | refine ws ?_ | refine wq ?_
      | (refine wc rfl (fun hc => ?_) (fun hc => ?_) <;> (try simp at hc) <;> (try omega))
      | (refine ib (fun hc => ?_) (fun hc => ?_) <;> (try omega) <;> (try simp (disch := omega) only [if_pos, if_neg])))
      refine callK (atoi_call hG ws[i] A' (hlw i hlw')) ?_
      rintro _ A2 ⟨e, rfl, he, l2⟩ w2 n2
      have m2 := l2.keep hw' m2
      have m4 := l2.keep hw' m4
      have m5 := l2.keep hw' m5
      have m6 := l2.keep hw' m6
      have hset := stepAt_set ws (i := i) (by omega)
      rw [hd i hlw'] at hset
      rcases he with ⟨hok, rfl⟩ | ⟨hok, t, v, rfl⟩
      · repeat' (first
      | (refine lwc fun R hR => ?_; simp [wrap_i64, wrap_u64, g0, g2, g4, g5, g40, g41, g42, hlt, hj1, m2, m4, m5, m6, astore, stepAt_length, setCells, hset, AW.row_get]; try simp (disch := omega) only [if_pos, if_neg, wrap_i64, wrap_u64])
      | (refine hR _ _ ?_; clear hR R) | (refine hK _ _ ?_; clear hK K) | refine lwn ?_ | refine lr ?_ | refine la ?_
      | refine wn fun K hK => ?_
      | simp only [wS, oRepI_0]
      | refine wl Tryd.mx oRepI_0 (by decide +kernel) fun K hK => ?_
      | refine wb ?_ | refine wr ?_ | refine wk ?_ | refine we ?_ | refine ws ?_ | refine wq ?_
      | (refine wc rfl (fun hc => ?_) (fun hc => ?_) <;> (try simp at hc) <;> (try omega))
      | (refine ib (fun hc => ?_) (fun hc => ?_) <;> (try omega) <;> (try simp (disch := omega) only [if_pos, if_neg])))
        refine ⟨M - (i + 1), by omega, i + 1, rfl, by omega, ?_, ?_, ?_, ?_, ?_, ?_, ?_, (hle.trans l2).set (by omega) _, w2.set _ (w2.lt m5), ?_, ?_, ?_, ?_, ?_⟩
        · simp [g0]
        · simp [g2]
        · simp [g4]
        · simp [g5]
        · simp [g40]
        · simp [g41]
        · simp
        · rw [AW.set_get_ne (by omega)]; exact m2
        · rw [AW.set_get_ne (by omega)]; exact m4
        · simp
        · rw [AW.set_get_ne (by omega)]; exact m6
        · intro j hj
          by_cases e : j = i
          · subst e; rw [hd j hlw']; exact hok
          · exact hoks j (by omega)
      · repeat' (first
      | (refine lwc fun R hR => ?_; simp [wrap_i64, wrap_u64, g0, g2, g4, g5, g40, g41, g42, hlt, hj1, m2, m4, m5, m6, astore, stepAt_length, setCells, hset, AW.row_get]; try simp (disch := omega) only [if_pos, if_neg, wrap_i64, wrap_u64])
      | (refine hR _ _ ?_; clear hR R) | (refine hK _ _ ?_; clear hK K) | refine lwn ?_ | refine lr ?_ | refine la ?_
      | refine wn fun K hK => ?_
      | simp only [wS, oRepI_0]
      | refine wl Tryd.mx oRepI_0 (by decide +kernel) fun K hK => ?_
      | refine wb ?_ | refine wr ?_ | refine wk ?_ | refine we ?_ | refine ws ?_ | refine wq ?_
      | (refine wc rfl (fun hc => ?_) (fun hc => ?_) <;> (try simp at hc) <;> (try omega))
      | (refine ib (fun hc => ?_) (fun hc => ?_) <;> (try omega) <;> (try simp (disch := omega) only [if_pos, if_neg])))
        have hbad : ¬ goodW s := fun h => by
          have := h.2.1 i (by rw [ew]; omega)
          rw [ew, hd i hlw', hok] at this
          cases this
        simp [AThen, ABlock, g2, AW.row_get, stepVal, stepCells, parseX, hbad, zeroS, bad_read hbad]
        exact (hle.trans l2).set (Nat.le_refl _) _
    · have hiM : i = M := by omega
      subst hiM
      have hb2 : A.next + 1 + 1 + 1 < A'.next := hw'.lt m6
      first
      | (have hM3 : i = 3 := by omega
         have hws : ¬ ws.length = 9 := by omega
         have hgood : goodW s := ⟨hnw, fun j hj => by rw [ew] at hj ⊢; exact hoks j (hMs j hj), fun h => by rw [ew] at h; omega⟩
         obtain ⟨X, hXe⟩ : ∃ X, X = stepOf ws := ⟨_, rfl⟩
         have hX := hXe.trans (stepOf3 hws)
         have hXok : X.Ok := hXe ▸ stepOf_ok ws
         have hargs : stepVal X = .agg #[.int .i64 (atoiV (ws.getD 0 [])), .int .i64 (atoiV (ws.getD 1 [])), .int .i64 (atoiV (ws.getD 2 [])), .int .i64 0, .int .i64 0, .int .i64 0, .int .u64 0, .int .u64 0, .bool false] := by rw [hX]; rfl
         have hstep := step_call hG X hXok A'
         rw [hargs] at hstep
         rw [hM3, stepAt3] at m5
         have hq := readB_eq s hnw
         rw [ew, ← hXe] at hq
         have hwl : (stepW X).length ≤ 1000 := by rw [stepW_length]; split <;> omega
         have hjl : (Lib.join (stepW X) [32]).length ≤ 1000 := by have : (Lib.join (stepW X) [32]).length ≤ 198 := line_len X hXok; omega
         repeat' (first
         | (refine lwc fun R hR => ?_; simp [wrap_i64, wrap_u64, g0, g2, g4, g5, g40, g41, g42, hlt, hB, m2, m4, m5, m6, AW.row_get, astore, setCells, mk_bs]; try simp (disch := omega) only [if_pos, if_neg, wrap_i64, wrap_u64])
         | (refine hR _ _ ?_; clear hR R) | (refine hK _ _ ?_; clear hK K) | refine lwn ?_ | refine lr ?_ | refine la ?_
         | refine wn fun K hK => ?_
         | simp only [wS, oRepI_0]
         | refine wl Tryd.mx oRepI_0 (by decide +kernel) fun K hK => ?_
         | refine wb ?_ | refine wr ?_ | refine wk ?_ | refine we ?_ | refine ws ?_ | refine wq ?_
         | (refine wc rfl (fun hc => ?_) (fun hc => ?_) <;> (try simp at hc) <;> (try omega))
         | (refine ib (fun hc => ?_) (fun hc => ?_) <;> (try omega) <;> (try simp (disch := omega) only [if_pos, if_neg])))
         refine callK hstep ?_
         rintro u A2 ⟨hu, l2⟩ w2 n2
         refine ⟨l2, ?_⟩
         have m2 := l2.keep hw' m2
         repeat' (first
         | (refine lwc fun R hR => ?_; simp [wrap_i64, wrap_u64, g0, g2, m2, AW.row_get, astore, setCells, mk_bs, bs_toList]; try simp (disch := omega) only [if_pos, if_neg, wrap_i64, wrap_u64])
         | (refine hR _ _ ?_; clear hR R) | (refine hK _ _ ?_; clear hK K) | refine lwn ?_ | refine lr ?_ | refine la ?_
         | refine wn fun K hK => ?_
         | simp only [wS, oRepI_0]
         | refine wl Tryd.mx oRepI_0 (by decide +kernel) fun K hK => ?_
         | (refine callK (join_call u (stepW X) A2 hu.is hwl hjl) ?_; rintro _ _ ⟨rfl, rfl⟩ _ _)
         | (refine ⟨AW.le.refl _, ?_⟩)
         | refine wb ?_ | refine wr ?_ | refine wk ?_ | refine we ?_ | refine ws ?_ | refine wq ?_
         | (refine wc rfl (fun hc => ?_) (fun hc => ?_) <;> (try simp at hc) <;> (try omega))
         | (refine ib (fun hc => ?_) (fun hc => ?_) <;> (try omega) <;> (try simp (disch := omega) only [if_pos, if_neg])))
         have hfin : stepVal (parseX s) = stepVal X := by unfold parseX; rw [if_pos hgood, ew, hXe]
         rw [hfin, hargs, hq]
         simp [g2, AW.row_get, lineF]
         refine ⟨by by_cases h : Lib.join (stepW X) [32] = s <;> simp [h], ?_⟩
         exact (hle.trans l2).set (Nat.le_refl _) _)
      | (have hM6' : i = 6 := by omega
         have hws : ws.length = 9 := by omega
         obtain ⟨X, hXe⟩ : ∃ X, X = stepOf ws := ⟨_, rfl⟩
         have hX := hXe.trans (stepOf9 hws)
         have hXok : X.Ok := hXe ▸ stepOf_ok ws
         have hargs : stepVal X = .agg #[.int .i64 (atoiV (ws.getD 0 [])), .int .i64 (atoiV (ws.getD 1 [])), .int .i64 (atoiV (ws.getD 2 [])), .int .i64 (atoiV (ws.getD 3 [])), .int .i64 (atoiV (ws.getD 4 [])), .int .i64 (atoiV (ws.getD 5 [])),
           .int .u64 (uintV (ws.getD 6 [])), .int .u64 (uintV (ws.getD 7 [])), .bool (ws.getD 8 [] == [49])] := by rw [hX]; rfl
         have hstep := fun A => step_call hG X hXok A
         rw [hargs] at hstep
         rw [hM6', stepAt6] at m5
         have hq := readB_eq s hnw
         rw [ew, ← hXe] at hq
         have hwl : (stepW X).length ≤ 1000 := by rw [stepW_length]; split <;> omega
         have hjl : (Lib.join (stepW X) [32]).length ≤ 1000 := by have : (Lib.join (stepW X) [32]).length ≤ 198 := line_len X hXok; omega
         have hc6 := strs_get (w := ws) (j := 6) (by omega)
         have hc7 := strs_get (w := ws) (j := 7) (by omega)
         have hc8 := strs_get (w := ws) (j := 8) (by omega)
         rw [← hd 6 (by omega)] at hc6
         rw [← hd 7 (by omega)] at hc7
         rw [← hd 8 (by omega)] at hc8
         have hl6 := hlw 6 (by omega)
         have hl7 := hlw 7 (by omega)
         rw [← hd 6 (by omega)] at hl6
         rw [← hd 7 (by omega)] at hl7
         have hokw : uintOk (ws.getD 6 []) = true → uintOk (ws.getD 7 []) = true → goodW s := fun h6 h7 => ⟨hnw, fun j hj => by rw [ew] at hj ⊢; exact hoks j (hMs j hj), fun _ => by rw [ew]; exact ⟨h6, h7⟩⟩
         have hbadw : ¬ (uintOk (ws.getD 6 []) = true ∧ uintOk (ws.getD 7 []) = true) → ¬ goodW s := fun h hg => h (by have := hg.2.2 (by rw [ew]; exact hws); rwa [ew] at this)
         simp only [List.getD_eq_getElem?_getD] at hc6 hc7 hc8 hl6 hl7 hokw hbadw m5 hargs
         repeat' (first
         | (refine lwc fun R hR => ?_; simp [wrap_i64, wrap_u64, g0, g2, g4, g5, g40, g41, g42, hlt, hB, hc6, m2, m4, m5, m6, AW.row_get, astore, setCells, mk_bs]; try simp (disch := omega) only [if_pos, if_neg, wrap_i64, wrap_u64])
         | (refine hR _ _ ?_; clear hR R) | (refine hK _ _ ?_; clear hK K) | refine lwn ?_ | refine lr ?_ | refine la ?_
         | refine wn fun K hK => ?_
         | simp only [wS, oRepI_0]
         | refine wl Tryd.mx oRepI_0 (by decide +kernel) fun K hK => ?_
         | refine wb ?_ | refine wr ?_ | refine wk ?_ | refine we ?_ | refine ws ?_ | refine wq ?_
         | (refine wc rfl (fun hc => ?_) (fun hc => ?_) <;> (try simp at hc) <;> (try omega))
         | (refine ib (fun hc => ?_) (fun hc => ?_) <;> (try omega) <;> (try simp (disch := omega) only [if_pos, if_neg])))
         refine callK (uint_call hG (ws[6]?.getD []) _ hl6) ?_
         rintro _ A2 ⟨e6, rfl, he6, l2⟩ w2 n2
         have m2 := l2.keep hw' m2
         have m4 := l2.keep hw' m4
         have m5 := l2.keep hw' m5
         repeat' (first
         | (refine lwc fun R hR => ?_; simp [wrap_i64, wrap_u64, g0, g2, g4, g5, g40, g41, g42, hc7, m2, m4, m5, AW.row_get, astore, setCells, mk_bs]; try simp (disch := omega) only [if_pos, if_neg, wrap_i64, wrap_u64])
         | (refine hR _ _ ?_; clear hR R) | (refine hK _ _ ?_; clear hK K) | refine lwn ?_ | refine lr ?_ | refine la ?_
         | refine wn fun K hK => ?_
         | simp only [wS, oRepI_0]
         | refine wl Tryd.mx oRepI_0 (by decide +kernel) fun K hK => ?_
         | refine wb ?_ | refine wr ?_ | refine wk ?_ | refine we ?_ | refine ws ?_ | refine wq ?_
         | (refine wc rfl (fun hc => ?_) (fun hc => ?_) <;> (try simp at hc) <;> (try omega))
         | (refine ib (fun hc => ?_) (fun hc => ?_) <;> (try omega) <;> (try simp (disch := omega) only [if_pos, if_neg])))
         refine callK (uint_call hG (ws[7]?.getD []) _ hl7) ?_
         rintro _ A3 ⟨e7, rfl, he7, l3⟩ w3 n3
         have lA3 := ((hle.trans l2).set (show A.next ≤ A.next + 1 + 1 by omega) (some (.cells [.int .i64 (atoiV (ws[0]?.getD [])), .int .i64 (atoiV (ws[1]?.getD [])), .int .i64 (atoiV (ws[2]?.getD [])), .int .i64 (atoiV (ws[3]?.getD [])), .int .i64 (atoiV (ws[4]?.getD [])), .int .i64 (atoiV (ws[5]?.getD [])), .int .u64 (uintV (ws[6]?.getD [])), .int .u64 0, .bool false] true 1))).trans l3
         have wX := w2.set (some (.cells [.int .i64 (atoiV (ws[0]?.getD [])), .int .i64 (atoiV (ws[1]?.getD [])), .int .i64 (atoiV (ws[2]?.getD [])), .int .i64 (atoiV (ws[3]?.getD [])), .int .i64 (atoiV (ws[4]?.getD [])), .int .i64 (atoiV (ws[5]?.getD [])), .int .u64 (uintV (ws[6]?.getD [])), .int .u64 0, .bool false] true 1)) (w2.lt m5)
         have m2 := l3.keep wX ((AW.set_get_ne (show A.next ≠ A.next + 1 + 1 by omega)).trans m2)
         have m4 := l3.keep wX ((AW.set_get_ne (show A.next + 1 ≠ A.next + 1 + 1 by omega)).trans m4)
         have m5 := l3.keep wX (AW.set_get_eq _ _ _)
         by_cases hoo : uintOk (ws[6]?.getD []) = true ∧ uintOk (ws[7]?.getD []) = true
         · rcases he6 with ⟨_, rfl⟩ | ⟨h, _⟩
           case inr => rw [hoo.1] at h; cases h
           rcases he7 with ⟨_, rfl⟩ | ⟨h, _⟩
           case inr => rw [hoo.2] at h; cases h
           have hgood := hokw hoo.1 hoo.2
           repeat' (first
           | (refine lwc fun R hR => ?_; simp [wrap_i64, wrap_u64, g0, g2, g4, g5, g40, g41, g42, hB, hc8, m2, m4, m5, AW.row_get, astore, setCells, mk_bs, bs_toList]; try simp (disch := omega) only [if_pos, if_neg, wrap_i64, wrap_u64])
           | (refine hR _ _ ?_; clear hR R) | (refine hK _ _ ?_; clear hK K) | refine lwn ?_ | refine lr ?_ | refine la ?_
           | refine wn fun K hK => ?_
           | simp only [wS, oRepI_0]
           | refine wl Tryd.mx oRepI_0 (by decide +kernel) fun K hK => ?_
           | refine wb ?_ | refine wr ?_ | refine wk ?_ | refine we ?_ | refine ws ?_ | refine wq ?_
           | (refine wc rfl (fun hc => ?_) (fun hc => ?_) <;> (try simp at hc) <;> (try omega))
           | (refine ib (fun hc => ?_) (fun hc => ?_) <;> (try omega) <;> (try simp (disch := omega) only [if_pos, if_neg])))
           refine callK (hstep _) ?_
           rintro u A5 ⟨hu, l5⟩ w5 n5
           refine ⟨l5, ?_⟩
           have lA5 := (((lA3).set (show A.next ≤ A.next + 1 + 1 by omega) _).set (show A.next ≤ A.next + 1 + 1 by omega) _).trans l5
           have hlt5 : A.next < A3.next := w3.lt m2
           have m2 := (l5.get A.next hlt5).trans ((AW.set_get_ne (show A.next ≠ A.next + 1 + 1 by omega)).trans ((AW.set_get_ne (show A.next ≠ A.next + 1 + 1 by omega)).trans m2))
           repeat' (first
           | (refine lwc fun R hR => ?_; simp [wrap_i64, wrap_u64, g0, g2, m2, AW.row_get, astore, setCells, mk_bs, bs_toList]; try simp (disch := omega) only [if_pos, if_neg, wrap_i64, wrap_u64])
           | (refine hR _ _ ?_; clear hR R) | (refine hK _ _ ?_; clear hK K) | refine lwn ?_ | refine lr ?_ | refine la ?_
           | refine wn fun K hK => ?_
           | simp only [wS, oRepI_0]
           | refine wl Tryd.mx oRepI_0 (by decide +kernel) fun K hK => ?_
           | (refine callK (join_call u (stepW X) A5 hu.is hwl hjl) ?_; rintro _ _ ⟨rfl, rfl⟩ _ _)
           | (refine ⟨AW.le.refl _, ?_⟩)
           | refine wb ?_ | refine wr ?_ | refine wk ?_ | refine we ?_ | refine ws ?_ | refine wq ?_
           | (refine wc rfl (fun hc => ?_) (fun hc => ?_) <;> (try simp at hc) <;> (try omega))
           | (refine ib (fun hc => ?_) (fun hc => ?_) <;> (try omega) <;> (try simp (disch := omega) only [if_pos, if_neg])))
           have hfin : stepVal (parseX s) = stepVal X := by unfold parseX; rw [if_pos hgood, ew, hXe]
           rw [hfin, hargs, hq]
           simp [AThen, g2, AW.row_get, lineF]
           refine ⟨by by_cases h : Lib.join (stepW X) [32] = s <;> simp [h], ?_⟩
           exact lA5.set (Nat.le_refl _) _
         · have hbad := hbadw hoo
           have hcomb : (e6 = .nilIface ∧ ∃ t v, e7 = .iface t v) ∨ (∃ t v, e6 = .iface t v) := by
             rcases he6 with ⟨h6, rfl⟩ | ⟨_, t, v, rfl⟩
             · rcases he7 with ⟨h7, rfl⟩ | ⟨_, t, v, rfl⟩
               · exact absurd ⟨h6, h7⟩ hoo
               · exact .inl ⟨rfl, t, v, rfl⟩
             · exact .inr ⟨t, v, rfl⟩
           rcases hcomb with ⟨rfl, t, v, rfl⟩ | ⟨t, v, rfl⟩
           all_goals (
             repeat' (first
             | (refine lwc fun R hR => ?_; simp [wrap_i64, wrap_u64, g0, g2, g4, g5, g40, g41, g42, hB, hc8, m2, m4, m5, AW.row_get, astore, setCells, mk_bs, bs_toList]; try simp (disch := omega) only [if_pos, if_neg, wrap_i64, wrap_u64])
             | (refine hR _ _ ?_; clear hR R) | (refine hK _ _ ?_; clear hK K) | refine lwn ?_ | refine lr ?_ | refine la ?_
             | refine wn fun K hK => ?_
             | simp only [wS, oRepI_0]
             | refine wl Tryd.mx oRepI_0 (by decide +kernel) fun K hK => ?_
             | refine wb ?_ | refine wr ?_ | refine wk ?_ | refine we ?_ | refine ws ?_ | refine wq ?_
             | (refine wc rfl (fun hc => ?_) (fun hc => ?_) <;> (try simp at hc) <;> (try omega))
             | (refine ib (fun hc => ?_) (fun hc => ?_) <;> (try omega) <;> (try simp (disch := omega) only [if_pos, if_neg])))
             simp [AThen, ABlock, g2, AW.row_get, stepVal, stepCells, parseX, hbad, zeroS, bad_read hbad]
             exact (lA3.set (show A.next ≤ A.next + 1 + 1 by omega) _).set (Nat.le_refl _) _)))

theorem parse_call (hG : GOK) (s : BS) (A : AW) (hl : s.length < 2^30) :
    ACall Tryd.prog 20 [.string (bs s)] A (fun v A' => v = .tuple #[stepVal (parseX s), .bool (readB s)] ∧ A = A') :=
  ACall.gc0 (VBelow.parsed _ _) (fun _ => parse_call0 hG s A hl) (by kernel_rfl)

end Go.Stx
