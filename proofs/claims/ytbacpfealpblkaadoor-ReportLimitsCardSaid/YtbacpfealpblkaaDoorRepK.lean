/-
  The statements about the report, over the abstract memory.
-/
import Derived.Test.YtbacpfealpblkaaDoorRepJ
namespace Go.Stx
open Go Go.Proofs
attribute [local irreducible] AWP LWalk ACall ARounds lops nops
set_option linter.unusedVariables false
set_option linter.unusedSimpArgs false
set_option linter.unusedSectionVars false
set_option maxRecDepth 20000

theorem goL_len (e : Bool) : ∀ (ls : List BS) (n : Nat) (acc : List StepV), (goL e ls n acc).1.length ≤ acc.length + ls.length
  | [], n, acc => by simp [goL]
  | x :: r, n, acc => by
    rw [goL]
    split
    · simp
    · split
      · simp
      · rename_i y _ _
        have := goL_len e r (n + 1) (acc ++ [y])
        simp at this ⊢
        omega
theorem parseF_len (s : BS) : (parseF s).1.length ≤ s.length := by
  unfold parseF
  split
  · simp
  · have := goL_len (endsNl s) (linesOf s) 1 []
    have h2 := lines_len s
    simp at this
    omega

def awA : StepV := ⟨1, 2, 3, 2, 6, 1, 7, 1, true⟩
theorem dig1 (u : Nat) (h : u < 10) : Lib.decDigits u = [UInt8.ofNat (48 + u)] := by rw [Lib.decDigits, dif_pos h]
theorem awText : textF [zeroS, awA] = [48, 32, 48, 32, 48, 10, 49, 32, 50, 32, 51, 32, 50, 32, 54, 32, 49, 32, 55, 32, 49, 32, 49, 10] := by
  simp [textF, lineF, stepW, zeroS, awA, StepV.idle, headW, tailW, doneW, Lib.itoa, Lib.join_cons, Lib.joinTail, dig1]
theorem okZ : zeroS.Ok := ⟨by unfold i64R; simp [zeroS], by unfold i64R; simp [zeroS], by unfold i64R; simp [zeroS], by unfold i64R; simp [zeroS], by unfold i64R; simp [zeroS], by unfold i64R; simp [zeroS], by simp [zeroS], by simp [zeroS]⟩
theorem okA : awA.Ok := ⟨by unfold i64R; simp [awA], by unfold i64R; simp [awA], by unfold i64R; simp [awA], by unfold i64R; simp [awA], by unfold i64R; simp [awA], by unfold i64R; simp [awA], by simp [awA], by simp [awA]⟩

variable [Gl]

theorem IsSteps.of_cells {A : AW} {b n : Nat} {l : List StepV} {own : Bool} {row : List Value} (hg : A.get b = some (.cells row own 9)) (hr : row = l.flatMap stepCells) (hn : n = l.length) : IsSteps A (.slice (some ⟨b, 0, none⟩) n n) l := by
  subst hn
  have hlen : (l.flatMap stepCells).length = l.length * 9 := by
    clear hg hr
    induction l with
    | nil => rfl
    | cons s l ih => rw [List.flatMap_cons, List.length_append, ih]; simp [stepCells]; omega
  refine .inr ⟨⟨b, 0, none⟩, l.length, row, own, 9, rfl, Nat.le_refl _, hg, rfl, by rw [hr, hlen]; simp, ?_⟩
  rw [List.drop_zero, hr, List.take_of_length_le (by omega)]

set_option maxHeartbeats 4000000 in
theorem awake_call0 (hG : GOK) (A : AW) : ACall Tryd.prog 8 [] A (fun v A' => v = .bool true ∧ A.le A') := by
  refine acall_intro Tryd.func8 rfl (by kernel_rfl) fun hw => ?_
  have hp := parse_text [zeroS, awA] (by simp [okZ, okA]) (by simp)
  have ht := awText
  repeat' (first
  | (refine lwc fun R hR => ?_; simp [wrap_i64, wrap_u64, AW.row_get, mk_bs]; try simp (disch := omega) only [if_pos, if_neg, wrap_i64, wrap_u64])
  | (refine hR _ _ ?_; clear hR R) | (refine hK _ _ ?_; clear hK K) | refine lwn ?_ | refine lr ?_ | refine la ?_
  | refine wn fun K hK => ?_
  | simp only [wS]
  | refine wb ?_ | refine wr ?_ | refine wk ?_ | refine we ?_ | refine ws ?_ | refine wq ?_
  | (refine wc rfl (fun hc => ?_) (fun hc => ?_) <;> (try simp at hc) <;> (try omega))
  | (refine ib (fun hc => ?_) (fun hc => ?_) <;> (try omega) <;> (try simp (disch := omega) only [if_pos, if_neg])))
  refine callK (steps_call hG (l := [zeroS, awA]) (IsSteps.of_cells (AW.alloc_get_new _ _) (by simp [stepCells, zeroS, awA]) rfl) (by simp) (by simp [okZ, okA])) ?_
  rintro _ _ ⟨rfl, rfl⟩ _ _
  repeat' (first
  | (refine lwc fun R hR => ?_; simp [wrap_i64, wrap_u64, AW.row_get, mk_bs]; try simp (disch := omega) only [if_pos, if_neg, wrap_i64, wrap_u64])
  | (refine hR _ _ ?_; clear hR R) | (refine hK _ _ ?_; clear hK K) | refine lwn ?_ | refine lr ?_ | refine la ?_
  | refine wn fun K hK => ?_
  | simp only [wS]
  | refine wb ?_ | refine wr ?_ | refine wk ?_ | refine we ?_ | refine ws ?_ | refine wq ?_
  | (refine wc rfl (fun hc => ?_) (fun hc => ?_) <;> (try simp at hc) <;> (try omega))
  | (refine ib (fun hc => ?_) (fun hc => ?_) <;> (try omega) <;> (try simp (disch := omega) only [if_pos, if_neg])))
  refine callK (parseSteps_call hG (textF [zeroS, awA]) _ (by rw [ht]; simp)) ?_
  rintro _ A2 ⟨u, rfl, hu, l2⟩ w2 n2
  rw [hp] at hu ⊢
  have hl2 : IsSteps A2 (.slice (some ⟨A.next, 0, none⟩) 2 2) [zeroS, awA] := IsSl.le l2 (hw.alloc _) (IsSteps.of_cells (l := [zeroS, awA]) (AW.alloc_get_new _ _) (by simp [stepCells, zeroS, awA]) rfl)
  repeat' (first
  | (refine lwc fun R hR => ?_; simp [wrap_i64, wrap_u64, AW.row_get, mk_bs, bs_toList, ht]; try simp (disch := omega) only [if_pos, if_neg, wrap_i64, wrap_u64])
  | (refine hR _ _ ?_; clear hR R) | (refine hK _ _ ?_; clear hK K) | refine lwn ?_ | refine lr ?_ | refine la ?_
  | refine wn fun K hK => ?_
  | simp only [wS]
  | (refine callK (ksteps_call u _ [zeroS, awA] [zeroS, awA] A2 hu hl2 (by simp)) ?_; rintro _ _ ⟨rfl, rfl⟩ _ _)
  | refine wb ?_ | refine wr ?_ | refine wk ?_ | refine we ?_ | refine ws ?_ | refine wq ?_
  | (refine wc rfl (fun hc => ?_) (fun hc => ?_) <;> (try simp at hc) <;> (try omega))
  | (refine ib (fun hc => ?_) (fun hc => ?_) <;> (try omega) <;> (try simp (disch := omega) only [if_pos, if_neg])))
  simp
  exact (AW.le.alloc A _).trans l2
theorem awake_call (hG : GOK) (A : AW) : ACall Tryd.prog 8 [] A (fun v A' => v = .bool true ∧ A = A') :=
  ACall.gc0 (VBelow.of_scalar rfl) (fun _ => awake_call0 hG A) (by kernel_rfl)

def Yes (v : Value) (_ : AW) : Prop := v = .bool true

set_option maxHeartbeats 4000000 in
theorem writes_call (hG : GOK) (v : Value) (l : List StepV) (A : AW) (h : IsSteps A v l) (hr : ∀ s ∈ l, s.Ok) : ACall Tryd.prog 3 [v] A Yes := by
  refine acall_intro Tryd.func3 rfl (by kernel_rfl) fun hw => ?_
  obtain ⟨o, c, rfl, _⟩ := h.form
  by_cases hl : 50 < l.length
  · have hl' : (50 : Int) < l.length := by omega
    repeat' (first
    | (refine lwc fun R hR => ?_; simp [wrap_i64, wrap_u64, hl']; try simp (disch := omega) only [if_pos, if_neg, wrap_i64, wrap_u64])
    | (refine hR _ _ ?_; clear hR R) | (refine hK _ _ ?_; clear hK K) | refine lwn ?_ | refine lr ?_ | refine la ?_
    | refine wn fun K hK => ?_
    | simp only [wS]
    | (refine callK (awake_call hG _) ?_; rintro _ _ ⟨rfl, rfl⟩ _ _)
    | refine wb ?_ | refine wr ?_ | refine wk ?_ | refine we ?_ | refine ws ?_ | refine wq ?_
    | (refine wc rfl (fun hc => ?_) (fun hc => ?_) <;> (try simp at hc) <;> (try omega))
    | (refine ib (fun hc => ?_) (fun hc => ?_) <;> (try omega) <;> (try simp (disch := omega) only [if_pos, if_neg])))
    simp [AThen, Yes]
  · have hl' : ¬ (50 : Int) < l.length := by omega
    repeat' (first
    | (refine lwc fun R hR => ?_; simp [wrap_i64, wrap_u64, hl', bs_toList]; try simp (disch := omega) only [if_pos, if_neg, wrap_i64, wrap_u64])
    | (refine hR _ _ ?_; clear hR R) | (refine hK _ _ ?_; clear hK K) | refine lwn ?_ | refine lr ?_ | refine la ?_
    | refine wn fun K hK => ?_
    | simp only [wS]
    | (refine callK (steps_call hG h (by omega) hr) ?_; rintro _ _ ⟨rfl, rfl⟩ _ _)
    | (refine callK (refSteps_call hG _ l A h (by omega) hr) ?_; rintro _ _ ⟨rfl, rfl⟩ _ _)
    | (refine callK (awake_call hG _) ?_; rintro _ _ ⟨rfl, rfl⟩ _ _)
    | refine wb ?_ | refine wr ?_ | refine wk ?_ | refine we ?_ | refine ws ?_ | refine wq ?_
    | (refine wc rfl (fun hc => ?_) (fun hc => ?_) <;> (try simp at hc) <;> (try omega))
    | (refine ib (fun hc => ?_) (fun hc => ?_) <;> (try omega) <;> (try simp (disch := omega) only [if_pos, if_neg])))
    all_goals simp [AThen, Yes]

set_option maxHeartbeats 4000000 in
theorem round_call (hG : GOK) (v : Value) (l : List StepV) (A : AW) (h : IsSteps A v l) (hr : ∀ s ∈ l, s.Ok) : ACall Tryd.prog 4 [v] A Yes := by
  refine acall_intro Tryd.func4 rfl (by kernel_rfl) fun hw => ?_
  obtain ⟨o, c, rfl, _⟩ := h.form
  by_cases hl : 50 < l.length
  · have hl' : (50 : Int) < l.length := by omega
    repeat' (first
    | (refine lwc fun R hR => ?_; simp [wrap_i64, wrap_u64, hl']; try simp (disch := omega) only [if_pos, if_neg, wrap_i64, wrap_u64])
    | (refine hR _ _ ?_; clear hR R) | (refine hK _ _ ?_; clear hK K) | refine lwn ?_ | refine lr ?_ | refine la ?_
    | refine wn fun K hK => ?_
    | simp only [wS]
    | (refine callK (awake_call hG _) ?_; rintro _ _ ⟨rfl, rfl⟩ _ _)
    | refine wb ?_ | refine wr ?_ | refine wk ?_ | refine we ?_ | refine ws ?_ | refine wq ?_
    | (refine wc rfl (fun hc => ?_) (fun hc => ?_) <;> (try simp at hc) <;> (try omega))
    | (refine ib (fun hc => ?_) (fun hc => ?_) <;> (try omega) <;> (try simp (disch := omega) only [if_pos, if_neg])))
    simp [AThen, Yes]
  · have hl' : ¬ (50 : Int) < l.length := by omega
    have hp := parse_text l hr (by omega)
    have hlen := text_len l hr
    repeat' (first
    | (refine lwc fun R hR => ?_; simp [wrap_i64, wrap_u64, hl', bs_toList]; try simp (disch := omega) only [if_pos, if_neg, wrap_i64, wrap_u64])
    | (refine hR _ _ ?_; clear hR R) | (refine hK _ _ ?_; clear hK K) | refine lwn ?_ | refine lr ?_ | refine la ?_
    | refine wn fun K hK => ?_
    | simp only [wS]
    | (refine callK (steps_call hG h (by omega) hr) ?_; rintro _ _ ⟨rfl, rfl⟩ _ _)
    | refine wb ?_ | refine wr ?_ | refine wk ?_ | refine we ?_ | refine ws ?_ | refine wq ?_
    | (refine wc rfl (fun hc => ?_) (fun hc => ?_) <;> (try simp at hc) <;> (try omega))
    | (refine ib (fun hc => ?_) (fun hc => ?_) <;> (try omega) <;> (try simp (disch := omega) only [if_pos, if_neg])))
    refine callK (parseSteps_call hG (textF l) _ (by omega)) ?_
    rintro _ A2 ⟨u, rfl, hu, l2⟩ w2 n2
    rw [hp] at hu ⊢
    repeat' (first
    | (refine lwc fun R hR => ?_; simp [wrap_i64, wrap_u64, hl']; try simp (disch := omega) only [if_pos, if_neg, wrap_i64, wrap_u64])
    | (refine hR _ _ ?_; clear hR R) | (refine hK _ _ ?_; clear hK K) | refine lwn ?_ | refine lr ?_ | refine la ?_
    | refine wn fun K hK => ?_
    | simp only [wS]
    | (refine callK (ksteps_call u _ l l A2 hu (h.le l2 hw) (by omega)) ?_; rintro _ _ ⟨rfl, rfl⟩ _ _)
    | (refine callK (awake_call hG _) ?_; rintro _ _ ⟨rfl, rfl⟩ _ _)
    | refine wb ?_ | refine wr ?_ | refine wk ?_ | refine we ?_ | refine ws ?_ | refine wq ?_
    | (refine wc rfl (fun hc => ?_) (fun hc => ?_) <;> (try simp at hc) <;> (try omega))
    | (refine ib (fun hc => ?_) (fun hc => ?_) <;> (try omega) <;> (try simp (disch := omega) only [if_pos, if_neg])))
    all_goals simp [AThen, Yes]

set_option maxHeartbeats 4000000 in
theorem any_call (hG : GOK) (s : BS) (A : AW) : ACall Tryd.prog 5 [.string (bs s)] A Yes := by
  refine acall_intro Tryd.func5 rfl (by kernel_rfl) fun hw => ?_
  by_cases hl : 1000 < s.length
  · have hl' : (1000 : Int) < s.length := by omega
    repeat' (first
    | (refine lwc fun R hR => ?_; simp [wrap_i64, wrap_u64, hl', bs_size]; try simp (disch := omega) only [if_pos, if_neg, wrap_i64, wrap_u64])
    | (refine hR _ _ ?_; clear hR R) | (refine hK _ _ ?_; clear hK K) | refine lwn ?_ | refine lr ?_ | refine la ?_
    | refine wn fun K hK => ?_
    | simp only [wS]
    | (refine callK (awake_call hG _) ?_; rintro _ _ ⟨rfl, rfl⟩ _ _)
    | refine wb ?_ | refine wr ?_ | refine wk ?_ | refine we ?_ | refine ws ?_ | refine wq ?_
    | (refine wc rfl (fun hc => ?_) (fun hc => ?_) <;> (try simp at hc) <;> (try omega))
    | (refine ib (fun hc => ?_) (fun hc => ?_) <;> (try omega) <;> (try simp (disch := omega) only [if_pos, if_neg])))
    simp [AThen, Yes]
  · have hl' : ¬ (1000 : Int) < s.length := by omega
    have hpl := parseF_len s
    repeat' (first
    | (refine lwc fun R hR => ?_; simp [wrap_i64, wrap_u64, hl', bs_size]; try simp (disch := omega) only [if_pos, if_neg, wrap_i64, wrap_u64])
    | (refine hR _ _ ?_; clear hR R) | (refine hK _ _ ?_; clear hK K) | refine lwn ?_ | refine lr ?_ | refine la ?_
    | refine wn fun K hK => ?_
    | simp only [wS]
    | refine wb ?_ | refine wr ?_ | refine wk ?_ | refine we ?_ | refine ws ?_ | refine wq ?_
    | (refine wc rfl (fun hc => ?_) (fun hc => ?_) <;> (try simp at hc) <;> (try omega))
    | (refine ib (fun hc => ?_) (fun hc => ?_) <;> (try omega) <;> (try simp (disch := omega) only [if_pos, if_neg])))
    refine callK (parseSteps_call hG s _ (by omega)) ?_
    rintro _ A2 ⟨u, rfl, hu, l2⟩ w2 n2
    repeat' (first
    | (refine lwc fun R hR => ?_; simp [wrap_i64, wrap_u64, hl', bs_size]; try simp (disch := omega) only [if_pos, if_neg, wrap_i64, wrap_u64])
    | (refine hR _ _ ?_; clear hR R) | (refine hK _ _ ?_; clear hK K) | refine lwn ?_ | refine lr ?_ | refine la ?_
    | refine wn fun K hK => ?_
    | simp only [wS]
    | refine wb ?_ | refine wr ?_ | refine wk ?_ | refine we ?_ | refine ws ?_ | refine wq ?_
    | (refine wc rfl (fun hc => ?_) (fun hc => ?_) <;> (try simp at hc) <;> (try omega))
    | (refine ib (fun hc => ?_) (fun hc => ?_) <;> (try omega) <;> (try simp (disch := omega) only [if_pos, if_neg])))
    refine callK (refParse_call hG s _ (by omega)) ?_
    rintro _ A3 ⟨u', rfl, hu', l3⟩ w3 n3
    repeat' (first
    | (refine lwc fun R hR => ?_; simp [wrap_i64, wrap_u64, hl']; try simp (disch := omega) only [if_pos, if_neg, wrap_i64, wrap_u64])
    | (refine hR _ _ ?_; clear hR R) | (refine hK _ _ ?_; clear hK K) | refine lwn ?_ | refine lr ?_ | refine la ?_
    | refine wn fun K hK => ?_
    | simp only [wS]
    | (refine callK (ksteps_call u u' _ _ A3 (hu.le l3 w2) hu' (by omega)) ?_; rintro _ _ ⟨rfl, rfl⟩ _ _)
    | (refine callK (awake_call hG _) ?_; rintro _ _ ⟨rfl, rfl⟩ _ _)
    | refine wb ?_ | refine wr ?_ | refine wk ?_ | refine we ?_ | refine ws ?_ | refine wq ?_
    | (refine wc rfl (fun hc => ?_) (fun hc => ?_) <;> (try simp at hc) <;> (try omega))
    | (refine ib (fun hc => ?_) (fun hc => ?_) <;> (try omega) <;> (try simp (disch := omega) only [if_pos, if_neg])))
    all_goals simp [AThen, Yes]

end Go.Stx
