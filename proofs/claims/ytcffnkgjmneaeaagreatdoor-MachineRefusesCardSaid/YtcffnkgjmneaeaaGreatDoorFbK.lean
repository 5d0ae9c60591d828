/-
  The program's places and jumps of an instruction; where a jump may go; the check at a position.
-/
import Derived.Test.YtcffnkgjmneaeaaGreatDoorFbJ
namespace Go.Stx
open Go Go.Proofs
attribute [local irreducible] AWP LWalk ACall ARounds lops nops
set_option linter.unusedVariables false
set_option linter.unusedSimpArgs false
set_option linter.unusedSectionVars false
set_option maxRecDepth 20000
variable [Gl]

theorem isaCheck_call (hF : FOK) (x : InsV) (A : AW) : ACall Tryz.prog 83 [.agg (insCells x).toArray] A (fun u A' => u = .int .i64 (insErr x) ∧ A = A') := (isaCheck_pure hF x A).call ⟨rfl, rfl⟩

set_option maxHeartbeats 4000000 in
theorem isaPlace_call (hF : FOK) (x : InsV) (A : AW) : ACall Tryz.prog 84 [.agg (insCells x).toArray] A (fun u A' => u = .int .i64 (insPlace x) ∧ A = A') := by
  refine ACall.gc0 (V := .int .i64 (insPlace x)) (by simp) (fun hw => ?_) (by kernel_rfl)
  refine acall_intro Tryz.func84 rfl (by kernel_rfl) fun _ => ?_
  obtain ⟨op, a, b, c, imm⟩ := x
  have hc := fun A => isaCheck_call hF ⟨op, a, b, c, imm⟩ A
  simp only [insCells] at hc
  by_cases h0 : insErr ⟨op, a, b, c, imm⟩ = 0
  · rw [h0] at hc
    by_cases o8 : op = 8
    · subst o8
      have he : insPlace ⟨8, a, b, c, imm⟩ = 1 := by unfold insPlace; rw [if_pos h0]; rfl
      rw [he]
      repeat' (first
      | (refine lwc fun R hR => ?_; simp [wrap_i64, wrap_u64, AW.row_get, insCells]; try simp (disch := omega) only [if_pos, if_neg, wrap_i64, wrap_u64])
      | (refine hR _ _ ?_; clear hR R) | (refine hK _ _ ?_; clear hK K) | refine lwn ?_ | refine lr ?_ | refine la ?_
      | refine wn fun K hK => ?_
      | simp only [wS]
      | (refine callK (hc _) ?_; rintro _ _ ⟨rfl, rfl⟩ _ _)
      | refine wb ?_ | refine wr ?_ | refine wk ?_ | refine we ?_ | refine ws ?_ | refine wq ?_
      | (refine wc rfl (fun hc => ?_) (fun hc => ?_) <;> (try simp at hc) <;> (try omega))
      | (refine ib (fun hc => ?_) (fun hc => ?_) <;> (try omega) <;> (try simp (disch := omega) only [if_pos, if_neg])))
      all_goals first | exact AW.le.alloc A _ | (simp [AThen, APost, ares, aresL, ares1] <;> exact AW.le.alloc A _)
    by_cases o9 : op = 9
    · subst o9
      have he : insPlace ⟨9, a, b, c, imm⟩ = 1 := by unfold insPlace; rw [if_pos h0]; rfl
      rw [he]
      repeat' (first
      | (refine lwc fun R hR => ?_; simp [wrap_i64, wrap_u64, AW.row_get, insCells, o8]; try simp (disch := omega) only [if_pos, if_neg, wrap_i64, wrap_u64])
      | (refine hR _ _ ?_; clear hR R) | (refine hK _ _ ?_; clear hK K) | refine lwn ?_ | refine lr ?_ | refine la ?_
      | refine wn fun K hK => ?_
      | simp only [wS]
      | (refine callK (hc _) ?_; rintro _ _ ⟨rfl, rfl⟩ _ _)
      | refine wb ?_ | refine wr ?_ | refine wk ?_ | refine we ?_ | refine ws ?_ | refine wq ?_
      | (refine wc rfl (fun hc => ?_) (fun hc => ?_) <;> (try simp at hc) <;> (try omega))
      | (refine ib (fun hc => ?_) (fun hc => ?_) <;> (try omega) <;> (try simp (disch := omega) only [if_pos, if_neg])))
      all_goals first | exact AW.le.alloc A _ | (simp [AThen, APost, ares, aresL, ares1] <;> exact AW.le.alloc A _)
    by_cases o10 : op = 10
    · subst o10
      have he : insPlace ⟨10, a, b, c, imm⟩ = 1 := by unfold insPlace; rw [if_pos h0]; rfl
      rw [he]
      repeat' (first
      | (refine lwc fun R hR => ?_; simp [wrap_i64, wrap_u64, AW.row_get, insCells, o8, o9]; try simp (disch := omega) only [if_pos, if_neg, wrap_i64, wrap_u64])
      | (refine hR _ _ ?_; clear hR R) | (refine hK _ _ ?_; clear hK K) | refine lwn ?_ | refine lr ?_ | refine la ?_
      | refine wn fun K hK => ?_
      | simp only [wS]
      | (refine callK (hc _) ?_; rintro _ _ ⟨rfl, rfl⟩ _ _)
      | refine wb ?_ | refine wr ?_ | refine wk ?_ | refine we ?_ | refine ws ?_ | refine wq ?_
      | (refine wc rfl (fun hc => ?_) (fun hc => ?_) <;> (try simp at hc) <;> (try omega))
      | (refine ib (fun hc => ?_) (fun hc => ?_) <;> (try omega) <;> (try simp (disch := omega) only [if_pos, if_neg])))
      all_goals first | exact AW.le.alloc A _ | (simp [AThen, APost, ares, aresL, ares1] <;> exact AW.le.alloc A _)
    by_cases o11 : op = 11
    · subst o11
      have he : insPlace ⟨11, a, b, c, imm⟩ = 1 := by unfold insPlace; rw [if_pos h0]; rfl
      rw [he]
      repeat' (first
      | (refine lwc fun R hR => ?_; simp [wrap_i64, wrap_u64, AW.row_get, insCells, o8, o9, o10]; try simp (disch := omega) only [if_pos, if_neg, wrap_i64, wrap_u64])
      | (refine hR _ _ ?_; clear hR R) | (refine hK _ _ ?_; clear hK K) | refine lwn ?_ | refine lr ?_ | refine la ?_
      | refine wn fun K hK => ?_
      | simp only [wS]
      | (refine callK (hc _) ?_; rintro _ _ ⟨rfl, rfl⟩ _ _)
      | refine wb ?_ | refine wr ?_ | refine wk ?_ | refine we ?_ | refine ws ?_ | refine wq ?_
      | (refine wc rfl (fun hc => ?_) (fun hc => ?_) <;> (try simp at hc) <;> (try omega))
      | (refine ib (fun hc => ?_) (fun hc => ?_) <;> (try omega) <;> (try simp (disch := omega) only [if_pos, if_neg])))
      all_goals first | exact AW.le.alloc A _ | (simp [AThen, APost, ares, aresL, ares1] <;> exact AW.le.alloc A _)
    by_cases o14 : op = 14
    · subst o14
      have he : insPlace ⟨14, a, b, c, imm⟩ = 1 := by unfold insPlace; rw [if_pos h0]; rfl
      rw [he]
      repeat' (first
      | (refine lwc fun R hR => ?_; simp [wrap_i64, wrap_u64, AW.row_get, insCells, o8, o9, o10, o11]; try simp (disch := omega) only [if_pos, if_neg, wrap_i64, wrap_u64])
      | (refine hR _ _ ?_; clear hR R) | (refine hK _ _ ?_; clear hK K) | refine lwn ?_ | refine lr ?_ | refine la ?_
      | refine wn fun K hK => ?_
      | simp only [wS]
      | (refine callK (hc _) ?_; rintro _ _ ⟨rfl, rfl⟩ _ _)
      | refine wb ?_ | refine wr ?_ | refine wk ?_ | refine we ?_ | refine ws ?_ | refine wq ?_
      | (refine wc rfl (fun hc => ?_) (fun hc => ?_) <;> (try simp at hc) <;> (try omega))
      | (refine ib (fun hc => ?_) (fun hc => ?_) <;> (try omega) <;> (try simp (disch := omega) only [if_pos, if_neg])))
      all_goals first | exact AW.le.alloc A _ | (simp [AThen, APost, ares, aresL, ares1] <;> exact AW.le.alloc A _)
    by_cases o15 : op = 15
    · subst o15
      have he : insPlace ⟨15, a, b, c, imm⟩ = 1 := by unfold insPlace; rw [if_pos h0]; rfl
      rw [he]
      repeat' (first
      | (refine lwc fun R hR => ?_; simp [wrap_i64, wrap_u64, AW.row_get, insCells, o8, o9, o10, o11, o14]; try simp (disch := omega) only [if_pos, if_neg, wrap_i64, wrap_u64])
      | (refine hR _ _ ?_; clear hR R) | (refine hK _ _ ?_; clear hK K) | refine lwn ?_ | refine lr ?_ | refine la ?_
      | refine wn fun K hK => ?_
      | simp only [wS]
      | (refine callK (hc _) ?_; rintro _ _ ⟨rfl, rfl⟩ _ _)
      | refine wb ?_ | refine wr ?_ | refine wk ?_ | refine we ?_ | refine ws ?_ | refine wq ?_
      | (refine wc rfl (fun hc => ?_) (fun hc => ?_) <;> (try simp at hc) <;> (try omega))
      | (refine ib (fun hc => ?_) (fun hc => ?_) <;> (try omega) <;> (try simp (disch := omega) only [if_pos, if_neg])))
      all_goals first | exact AW.le.alloc A _ | (simp [AThen, APost, ares, aresL, ares1] <;> exact AW.le.alloc A _)
    by_cases o7 : op = 7
    · subst o7
      have he : insPlace ⟨7, a, b, c, imm⟩ = 2 := by unfold insPlace; rw [if_pos h0]; rfl
      rw [he]
      repeat' (first
      | (refine lwc fun R hR => ?_; simp [wrap_i64, wrap_u64, AW.row_get, insCells, o8, o9, o10, o11, o14, o15]; try simp (disch := omega) only [if_pos, if_neg, wrap_i64, wrap_u64])
      | (refine hR _ _ ?_; clear hR R) | (refine hK _ _ ?_; clear hK K) | refine lwn ?_ | refine lr ?_ | refine la ?_
      | refine wn fun K hK => ?_
      | simp only [wS]
      | (refine callK (hc _) ?_; rintro _ _ ⟨rfl, rfl⟩ _ _)
      | refine wb ?_ | refine wr ?_ | refine wk ?_ | refine we ?_ | refine ws ?_ | refine wq ?_
      | (refine wc rfl (fun hc => ?_) (fun hc => ?_) <;> (try simp at hc) <;> (try omega))
      | (refine ib (fun hc => ?_) (fun hc => ?_) <;> (try omega) <;> (try simp (disch := omega) only [if_pos, if_neg])))
      all_goals first | exact AW.le.alloc A _ | (simp [AThen, APost, ares, aresL, ares1] <;> exact AW.le.alloc A _)
    by_cases o12 : op = 12
    · subst o12
      have he : insPlace ⟨12, a, b, c, imm⟩ = 2 := by unfold insPlace; rw [if_pos h0]; rfl
      rw [he]
      repeat' (first
      | (refine lwc fun R hR => ?_; simp [wrap_i64, wrap_u64, AW.row_get, insCells, o8, o9, o10, o11, o14, o15, o7]; try simp (disch := omega) only [if_pos, if_neg, wrap_i64, wrap_u64])
      | (refine hR _ _ ?_; clear hR R) | (refine hK _ _ ?_; clear hK K) | refine lwn ?_ | refine lr ?_ | refine la ?_
      | refine wn fun K hK => ?_
      | simp only [wS]
      | (refine callK (hc _) ?_; rintro _ _ ⟨rfl, rfl⟩ _ _)
      | refine wb ?_ | refine wr ?_ | refine wk ?_ | refine we ?_ | refine ws ?_ | refine wq ?_
      | (refine wc rfl (fun hc => ?_) (fun hc => ?_) <;> (try simp at hc) <;> (try omega))
      | (refine ib (fun hc => ?_) (fun hc => ?_) <;> (try omega) <;> (try simp (disch := omega) only [if_pos, if_neg])))
      all_goals first | exact AW.le.alloc A _ | (simp [AThen, APost, ares, aresL, ares1] <;> exact AW.le.alloc A _)
    by_cases o13 : op = 13
    · subst o13
      have he : insPlace ⟨13, a, b, c, imm⟩ = 2 := by unfold insPlace; rw [if_pos h0]; rfl
      rw [he]
      repeat' (first
      | (refine lwc fun R hR => ?_; simp [wrap_i64, wrap_u64, AW.row_get, insCells, o8, o9, o10, o11, o14, o15, o7, o12]; try simp (disch := omega) only [if_pos, if_neg, wrap_i64, wrap_u64])
      | (refine hR _ _ ?_; clear hR R) | (refine hK _ _ ?_; clear hK K) | refine lwn ?_ | refine lr ?_ | refine la ?_
      | refine wn fun K hK => ?_
      | simp only [wS]
      | (refine callK (hc _) ?_; rintro _ _ ⟨rfl, rfl⟩ _ _)
      | refine wb ?_ | refine wr ?_ | refine wk ?_ | refine we ?_ | refine ws ?_ | refine wq ?_
      | (refine wc rfl (fun hc => ?_) (fun hc => ?_) <;> (try simp at hc) <;> (try omega))
      | (refine ib (fun hc => ?_) (fun hc => ?_) <;> (try omega) <;> (try simp (disch := omega) only [if_pos, if_neg])))
      all_goals first | exact AW.le.alloc A _ | (simp [AThen, APost, ares, aresL, ares1] <;> exact AW.le.alloc A _)
    by_cases o16 : op = 16
    · subst o16
      have he : insPlace ⟨16, a, b, c, imm⟩ = 2 := by unfold insPlace; rw [if_pos h0]; rfl
      rw [he]
      repeat' (first
      | (refine lwc fun R hR => ?_; simp [wrap_i64, wrap_u64, AW.row_get, insCells, o8, o9, o10, o11, o14, o15, o7, o12, o13]; try simp (disch := omega) only [if_pos, if_neg, wrap_i64, wrap_u64])
      | (refine hR _ _ ?_; clear hR R) | (refine hK _ _ ?_; clear hK K) | refine lwn ?_ | refine lr ?_ | refine la ?_
      | refine wn fun K hK => ?_
      | simp only [wS]
      | (refine callK (hc _) ?_; rintro _ _ ⟨rfl, rfl⟩ _ _)
      | refine wb ?_ | refine wr ?_ | refine wk ?_ | refine we ?_ | refine ws ?_ | refine wq ?_
      | (refine wc rfl (fun hc => ?_) (fun hc => ?_) <;> (try simp at hc) <;> (try omega))
      | (refine ib (fun hc => ?_) (fun hc => ?_) <;> (try omega) <;> (try simp (disch := omega) only [if_pos, if_neg])))
      all_goals first | exact AW.le.alloc A _ | (simp [AThen, APost, ares, aresL, ares1] <;> exact AW.le.alloc A _)
    by_cases o17 : op = 17
    · subst o17
      have he : insPlace ⟨17, a, b, c, imm⟩ = 2 := by unfold insPlace; rw [if_pos h0]; rfl
      rw [he]
      repeat' (first
      | (refine lwc fun R hR => ?_; simp [wrap_i64, wrap_u64, AW.row_get, insCells, o8, o9, o10, o11, o14, o15, o7, o12, o13, o16]; try simp (disch := omega) only [if_pos, if_neg, wrap_i64, wrap_u64])
      | (refine hR _ _ ?_; clear hR R) | (refine hK _ _ ?_; clear hK K) | refine lwn ?_ | refine lr ?_ | refine la ?_
      | refine wn fun K hK => ?_
      | simp only [wS]
      | (refine callK (hc _) ?_; rintro _ _ ⟨rfl, rfl⟩ _ _)
      | refine wb ?_ | refine wr ?_ | refine wk ?_ | refine we ?_ | refine ws ?_ | refine wq ?_
      | (refine wc rfl (fun hc => ?_) (fun hc => ?_) <;> (try simp at hc) <;> (try omega))
      | (refine ib (fun hc => ?_) (fun hc => ?_) <;> (try omega) <;> (try simp (disch := omega) only [if_pos, if_neg])))
      all_goals first | exact AW.le.alloc A _ | (simp [AThen, APost, ares, aresL, ares1] <;> exact AW.le.alloc A _)
    have he : insPlace ⟨op, a, b, c, imm⟩ = 0 := by unfold insPlace; rw [if_pos h0]; dsimp only; rw [if_neg (by omega), if_neg (by omega)]
    rw [he]
    repeat' (first
    | (refine lwc fun R hR => ?_; simp [wrap_i64, wrap_u64, AW.row_get, insCells, o8, o9, o10, o11, o14, o15, o7, o12, o13, o16, o17]; try simp (disch := omega) only [if_pos, if_neg, wrap_i64, wrap_u64])
    | (refine hR _ _ ?_; clear hR R) | (refine hK _ _ ?_; clear hK K) | refine lwn ?_ | refine lr ?_ | refine la ?_
    | refine wn fun K hK => ?_
    | simp only [wS]
    | (refine callK (hc _) ?_; rintro _ _ ⟨rfl, rfl⟩ _ _)
    | refine wb ?_ | refine wr ?_ | refine wk ?_ | refine we ?_ | refine ws ?_ | refine wq ?_
    | (refine wc rfl (fun hc => ?_) (fun hc => ?_) <;> (try simp at hc) <;> (try omega))
    | (refine ib (fun hc => ?_) (fun hc => ?_) <;> (try omega) <;> (try simp (disch := omega) only [if_pos, if_neg])))
    all_goals first | exact AW.le.alloc A _ | (simp [AThen, APost, ares, aresL, ares1] <;> exact AW.le.alloc A _)
  · have he : insPlace ⟨op, a, b, c, imm⟩ = 0 := by unfold insPlace; rw [if_neg h0]
    rw [he]
    repeat' (first
    | (refine lwc fun R hR => ?_; simp [wrap_i64, wrap_u64, AW.row_get, insCells, h0]; try simp (disch := omega) only [if_pos, if_neg, wrap_i64, wrap_u64])
    | (refine hR _ _ ?_; clear hR R) | (refine hK _ _ ?_; clear hK K) | refine lwn ?_ | refine lr ?_ | refine la ?_
    | refine wn fun K hK => ?_
    | simp only [wS]
    | (refine callK (hc _) ?_; rintro _ _ ⟨rfl, rfl⟩ _ _)
    | refine wb ?_ | refine wr ?_ | refine wk ?_ | refine we ?_ | refine ws ?_ | refine wq ?_
    | (refine wc rfl (fun hc => ?_) (fun hc => ?_) <;> (try simp at hc) <;> (try omega))
    | (refine ib (fun hc => ?_) (fun hc => ?_) <;> (try omega) <;> (try simp (disch := omega) only [if_pos, if_neg])))
    all_goals first | exact AW.le.alloc A _ | (simp [AThen, APost, ares, aresL, ares1] <;> exact AW.le.alloc A _)

set_option maxHeartbeats 4000000 in
theorem isaSkips_call (hF : FOK) (x : InsV) (A : AW) : ACall Tryz.prog 144 [.agg (insCells x).toArray] A (fun u A' => u = .tuple #[.int .i64 ((insSkips x).getD 0), .bool (insSkips x).isSome] ∧ A = A') := by
  refine ACall.gc0 (V := .tuple #[.int .i64 ((insSkips x).getD 0), .bool (insSkips x).isSome]) (VBelow.tuple (by simp)) (fun hw => ?_) (by kernel_rfl)
  refine acall_intro Tryz.func144 rfl (by kernel_rfl) fun _ => ?_
  obtain ⟨op, a, b, c, imm⟩ := x
  have hc := fun A => isaCheck_call hF ⟨op, a, b, c, imm⟩ A
  simp only [insCells] at hc
  by_cases h0 : insErr ⟨op, a, b, c, imm⟩ = 0
  · rw [h0] at hc
    by_cases o4 : op = 4
    · subst o4
      have he : insSkips ⟨4, a, b, c, imm⟩ = some imm := by unfold insSkips; rw [if_pos ⟨h0, by dsimp only; omega⟩]
      rw [he]
      repeat' (first
      | (refine lwc fun R hR => ?_; simp [wrap_i64, wrap_u64, AW.row_get, insCells]; try simp (disch := omega) only [if_pos, if_neg, wrap_i64, wrap_u64])
      | (refine hR _ _ ?_; clear hR R) | (refine hK _ _ ?_; clear hK K) | refine lwn ?_ | refine lr ?_ | refine la ?_
      | refine wn fun K hK => ?_
      | simp only [wS]
      | (refine callK (hc _) ?_; rintro _ _ ⟨rfl, rfl⟩ _ _)
      | refine wb ?_ | refine wr ?_ | refine wk ?_ | refine we ?_ | refine ws ?_ | refine wq ?_
      | (refine wc rfl (fun hc => ?_) (fun hc => ?_) <;> (try simp at hc) <;> (try omega))
      | (refine ib (fun hc => ?_) (fun hc => ?_) <;> (try omega) <;> (try simp (disch := omega) only [if_pos, if_neg])))
      all_goals first | exact AW.le.alloc A _ | (simp [AThen, APost, ares, aresL, ares1] <;> exact AW.le.alloc A _)
    by_cases o5 : op = 5
    · subst o5
      have he : insSkips ⟨5, a, b, c, imm⟩ = some imm := by unfold insSkips; rw [if_pos ⟨h0, by dsimp only; omega⟩]
      rw [he]
      repeat' (first
      | (refine lwc fun R hR => ?_; simp [wrap_i64, wrap_u64, AW.row_get, insCells, o4]; try simp (disch := omega) only [if_pos, if_neg, wrap_i64, wrap_u64])
      | (refine hR _ _ ?_; clear hR R) | (refine hK _ _ ?_; clear hK K) | refine lwn ?_ | refine lr ?_ | refine la ?_
      | refine wn fun K hK => ?_
      | simp only [wS]
      | (refine callK (hc _) ?_; rintro _ _ ⟨rfl, rfl⟩ _ _)
      | refine wb ?_ | refine wr ?_ | refine wk ?_ | refine we ?_ | refine ws ?_ | refine wq ?_
      | (refine wc rfl (fun hc => ?_) (fun hc => ?_) <;> (try simp at hc) <;> (try omega))
      | (refine ib (fun hc => ?_) (fun hc => ?_) <;> (try omega) <;> (try simp (disch := omega) only [if_pos, if_neg])))
      all_goals first | exact AW.le.alloc A _ | (simp [AThen, APost, ares, aresL, ares1] <;> exact AW.le.alloc A _)
    by_cases o6 : op = 6
    · subst o6
      have he : insSkips ⟨6, a, b, c, imm⟩ = some imm := by unfold insSkips; rw [if_pos ⟨h0, by dsimp only; omega⟩]
      rw [he]
      repeat' (first
      | (refine lwc fun R hR => ?_; simp [wrap_i64, wrap_u64, AW.row_get, insCells, o4, o5]; try simp (disch := omega) only [if_pos, if_neg, wrap_i64, wrap_u64])
      | (refine hR _ _ ?_; clear hR R) | (refine hK _ _ ?_; clear hK K) | refine lwn ?_ | refine lr ?_ | refine la ?_
      | refine wn fun K hK => ?_
      | simp only [wS]
      | (refine callK (hc _) ?_; rintro _ _ ⟨rfl, rfl⟩ _ _)
      | refine wb ?_ | refine wr ?_ | refine wk ?_ | refine we ?_ | refine ws ?_ | refine wq ?_
      | (refine wc rfl (fun hc => ?_) (fun hc => ?_) <;> (try simp at hc) <;> (try omega))
      | (refine ib (fun hc => ?_) (fun hc => ?_) <;> (try omega) <;> (try simp (disch := omega) only [if_pos, if_neg])))
      all_goals first | exact AW.le.alloc A _ | (simp [AThen, APost, ares, aresL, ares1] <;> exact AW.le.alloc A _)
    have he : insSkips ⟨op, a, b, c, imm⟩ = none := by unfold insSkips; rw [if_neg (fun h => by have := h.2; dsimp only at this; omega)]
    rw [he]
    repeat' (first
    | (refine lwc fun R hR => ?_; simp [wrap_i64, wrap_u64, AW.row_get, insCells, o4, o5, o6]; try simp (disch := omega) only [if_pos, if_neg, wrap_i64, wrap_u64])
    | (refine hR _ _ ?_; clear hR R) | (refine hK _ _ ?_; clear hK K) | refine lwn ?_ | refine lr ?_ | refine la ?_
    | refine wn fun K hK => ?_
    | simp only [wS]
    | (refine callK (hc _) ?_; rintro _ _ ⟨rfl, rfl⟩ _ _)
    | refine wb ?_ | refine wr ?_ | refine wk ?_ | refine we ?_ | refine ws ?_ | refine wq ?_
    | (refine wc rfl (fun hc => ?_) (fun hc => ?_) <;> (try simp at hc) <;> (try omega))
    | (refine ib (fun hc => ?_) (fun hc => ?_) <;> (try omega) <;> (try simp (disch := omega) only [if_pos, if_neg])))
    all_goals first | exact AW.le.alloc A _ | (simp [AThen, APost, ares, aresL, ares1] <;> exact AW.le.alloc A _)
  · have he : insSkips ⟨op, a, b, c, imm⟩ = none := by unfold insSkips; rw [if_neg (fun h => h0 h.1)]
    rw [he]
    repeat' (first
    | (refine lwc fun R hR => ?_; simp [wrap_i64, wrap_u64, AW.row_get, insCells, h0]; try simp (disch := omega) only [if_pos, if_neg, wrap_i64, wrap_u64])
    | (refine hR _ _ ?_; clear hR R) | (refine hK _ _ ?_; clear hK K) | refine lwn ?_ | refine lr ?_ | refine la ?_
    | refine wn fun K hK => ?_
    | simp only [wS]
    | (refine callK (hc _) ?_; rintro _ _ ⟨rfl, rfl⟩ _ _)
    | refine wb ?_ | refine wr ?_ | refine wk ?_ | refine we ?_ | refine ws ?_ | refine wq ?_
    | (refine wc rfl (fun hc => ?_) (fun hc => ?_) <;> (try simp at hc) <;> (try omega))
    | (refine ib (fun hc => ?_) (fun hc => ?_) <;> (try omega) <;> (try simp (disch := omega) only [if_pos, if_neg])))
    all_goals first | exact AW.le.alloc A _ | (simp [AThen, APost, ares, aresL, ares1] <;> exact AW.le.alloc A _)

def tgtE (p : List InsV) (k : Nat) (b : Option Nat) (x : InsV) : Int := match insSkips x with
  | some n => if progTarget p k b n = true then 0 else 42
  | none => 0

set_option maxHeartbeats 4000000 in
theorem target_call (hF : FOK) (v : Value) (p : List InsV) (k : Nat) (b : Option Nat) (A : AW) (h : IsIns A v p) (hl : p.length ≤ 64) (hk : k < p.length) (hb : ∀ d, b = some d → d < p.length) :
    ACall Tryz.prog 85 [v, .int .i64 k, .int .i64 (optI b)] A (fun u A' => u = .int .i64 (tgtE p k b p[k]) ∧ A = A') := by
  refine acall_intro Tryz.func85 rfl (by kernel_rfl) fun hw => ?_
  obtain ⟨o, c, rfl, _⟩ := h.form
  obtain ⟨q, row, hq', hrow, hle, hcell⟩ := h.at hk
  subst hq'
  have hwi : IntKind.i64.wrap ((k : Int) + 1) = ((k + 1 : Nat) : Int) := wrap_i64 (by omega) (by omega)
  generalize p[k] = x at hcell
  have hcell0 := ins_op hcell
  have cS := fun B => isaSkips_call hF x B
  have himm := @insErr_imm x
  have hsk := @skips_some x
  unfold tgtE
  obtain ⟨op, a, b', c', imm⟩ := x
  simp only at hsk himm hcell0
  simp only [insCells] at hcell cS
  generalize insSkips ⟨op, a, b', c', imm⟩ = sk at cS hsk
  cases sk with
  | none =>
    repeat' (first
    | (refine lwc fun R hR => ?_; simp [wrap_i64, wrap_u64, hrow, hcell0, hcell, hle, hk, hwi]; try simp (disch := omega) only [if_pos, if_neg, wrap_i64, wrap_u64])
    | (refine hR _ _ ?_; clear hR R) | (refine hK _ _ ?_; clear hK K) | refine lwn ?_ | refine lr ?_ | refine la ?_
    | refine wn fun K hK => ?_
    | simp only [wS]
    | (refine callK (cS _) ?_; rintro _ _ ⟨rfl, rfl⟩ _ _)
    | refine wb ?_ | refine wr ?_ | refine wk ?_ | refine we ?_ | refine ws ?_ | refine wq ?_
    | (refine wc rfl (fun hc => ?_) (fun hc => ?_) <;> (try simp at hc) <;> (try omega))
    | (refine ib (fun hc => ?_) (fun hc => ?_) <;> (try omega) <;> (try simp (disch := omega) only [if_pos, if_neg])))
    all_goals simp [AThen, APost, ares, aresL, ares1]
  | some n =>
    obtain ⟨rfl, g1, g2⟩ := hsk rfl
    obtain ⟨g3, g4⟩ := himm g1 g2
    obtain ⟨m, hm⟩ : ∃ m : Nat, n = m := ⟨n.toNat, by omega⟩
    subst hm
    have hwt : IntKind.i64.wrap (((k + 1 : Nat) : Int) + m) = ((k + 1 + m : Nat) : Int) := wrap_i64 (by omega) (by omega)
    have hwt2 : IntKind.i64.wrap ((k : Int) + 1 + m) = ((k + 1 + m : Nat) : Int) := wrap_i64 (by omega) (by omega)
    have hT : progTarget p k b (m : Int) = if p.length < k + 1 + m then false else match (generalizing := false) b with
      | some b => decide (k + 1 + m ≤ progEnd p b)
      | none => !progInto p k (k + 1 + m) := by unfold progTarget; simp only [Int.toNat_natCast]; cases b <;> rfl
    simp only [hT]
    generalize ht : k + 1 + m = t at hwt hwt2 hT
    by_cases q1 : p.length < t
    · rw [if_pos q1, if_neg (by simp)]
      repeat' (first
      | (refine lwc fun R hR => ?_; simp [wrap_i64, wrap_u64, hrow, hcell0, hcell, hle, hk, hwi, hwt, hwt2, q1]; try simp (disch := omega) only [if_pos, if_neg, wrap_i64, wrap_u64])
      | (refine hR _ _ ?_; clear hR R) | (refine hK _ _ ?_; clear hK K) | refine lwn ?_ | refine lr ?_ | refine la ?_
      | refine wn fun K hK => ?_
      | simp only [wS]
      | (refine callK (cS _) ?_; rintro _ _ ⟨rfl, rfl⟩ _ _)
      | refine wb ?_ | refine wr ?_ | refine wk ?_ | refine we ?_ | refine ws ?_ | refine wq ?_
      | (refine wc rfl (fun hc => ?_) (fun hc => ?_) <;> (try simp at hc) <;> (try omega))
      | (refine ib (fun hc => ?_) (fun hc => ?_) <;> (try omega) <;> (try simp (disch := omega) only [if_pos, if_neg])))
      all_goals simp [AThen, APost, ares, aresL, ares1]
    · rw [if_neg q1]
      cases b with
      | some d =>
        have hd := hb d rfl
        have hd0 : ¬ ((d : Int) < 0) := by omega
        have hd1 : (0 : Int) ≤ d := by omega
        have cE := end_call _ p d A h (by omega) hd
        simp only [optI]
        by_cases q2 : t ≤ progEnd p d
        · have q3 : ¬ progEnd p d < t := by omega
          rw [if_pos (by simp [q2])]
          repeat' (first
          | (refine lwc fun R hR => ?_; simp [wrap_i64, wrap_u64, hrow, hcell0, hcell, hle, hk, hwi, hwt, hwt2, q1, q2, q3, hd0, hd1]; try simp (disch := omega) only [if_pos, if_neg, wrap_i64, wrap_u64])
          | (refine hR _ _ ?_; clear hR R) | (refine hK _ _ ?_; clear hK K) | refine lwn ?_ | refine lr ?_ | refine la ?_
          | refine wn fun K hK => ?_
          | simp only [wS]
          | (refine callK (cS _) ?_; rintro _ _ ⟨rfl, rfl⟩ _ _)
          | (refine callK (cE) ?_; rintro _ _ ⟨rfl, rfl⟩ _ _)
          | refine wb ?_ | refine wr ?_ | refine wk ?_ | refine we ?_ | refine ws ?_ | refine wq ?_
          | (refine wc rfl (fun hc => ?_) (fun hc => ?_) <;> (try simp at hc) <;> (try omega))
          | (refine ib (fun hc => ?_) (fun hc => ?_) <;> (try omega) <;> (try simp (disch := omega) only [if_pos, if_neg])))
          all_goals simp [AThen, APost, ares, aresL, ares1]
        · have q3 : progEnd p d < t := by omega
          rw [if_neg (by simp [q3])]
          repeat' (first
          | (refine lwc fun R hR => ?_; simp [wrap_i64, wrap_u64, hrow, hcell0, hcell, hle, hk, hwi, hwt, hwt2, q1, q2, q3, hd0, hd1]; try simp (disch := omega) only [if_pos, if_neg, wrap_i64, wrap_u64])
          | (refine hR _ _ ?_; clear hR R) | (refine hK _ _ ?_; clear hK K) | refine lwn ?_ | refine lr ?_ | refine la ?_
          | refine wn fun K hK => ?_
          | simp only [wS]
          | (refine callK (cS _) ?_; rintro _ _ ⟨rfl, rfl⟩ _ _)
          | (refine callK (cE) ?_; rintro _ _ ⟨rfl, rfl⟩ _ _)
          | refine wb ?_ | refine wr ?_ | refine wk ?_ | refine we ?_ | refine ws ?_ | refine wq ?_
          | (refine wc rfl (fun hc => ?_) (fun hc => ?_) <;> (try simp at hc) <;> (try omega))
          | (refine ib (fun hc => ?_) (fun hc => ?_) <;> (try omega) <;> (try simp (disch := omega) only [if_pos, if_neg])))
          all_goals simp [AThen, APost, ares, aresL, ares1]
      | none =>
        have cI := into_call _ p k t A h (by omega) hk (by omega)
        simp only [optI]
        generalize progInto p k t = it at cI
        cases it with
        | true =>
          rw [if_neg (by simp)]
          repeat' (first
          | (refine lwc fun R hR => ?_; simp [wrap_i64, wrap_u64, hrow, hcell0, hcell, hle, hk, hwi, hwt, hwt2, q1]; try simp (disch := omega) only [if_pos, if_neg, wrap_i64, wrap_u64])
          | (refine hR _ _ ?_; clear hR R) | (refine hK _ _ ?_; clear hK K) | refine lwn ?_ | refine lr ?_ | refine la ?_
          | refine wn fun K hK => ?_
          | simp only [wS]
          | (refine callK (cS _) ?_; rintro _ _ ⟨rfl, rfl⟩ _ _)
          | (refine callK (cI) ?_; rintro _ _ ⟨rfl, rfl⟩ _ _)
          | refine wb ?_ | refine wr ?_ | refine wk ?_ | refine we ?_ | refine ws ?_ | refine wq ?_
          | (refine wc rfl (fun hc => ?_) (fun hc => ?_) <;> (try simp at hc) <;> (try omega))
          | (refine ib (fun hc => ?_) (fun hc => ?_) <;> (try omega) <;> (try simp (disch := omega) only [if_pos, if_neg])))
          all_goals simp [AThen, APost, ares, aresL, ares1]
        | false =>
          rw [if_pos (by simp)]
          repeat' (first
          | (refine lwc fun R hR => ?_; simp [wrap_i64, wrap_u64, hrow, hcell0, hcell, hle, hk, hwi, hwt, hwt2, q1]; try simp (disch := omega) only [if_pos, if_neg, wrap_i64, wrap_u64])
          | (refine hR _ _ ?_; clear hR R) | (refine hK _ _ ?_; clear hK K) | refine lwn ?_ | refine lr ?_ | refine la ?_
          | refine wn fun K hK => ?_
          | simp only [wS]
          | (refine callK (cS _) ?_; rintro _ _ ⟨rfl, rfl⟩ _ _)
          | (refine callK (cI) ?_; rintro _ _ ⟨rfl, rfl⟩ _ _)
          | refine wb ?_ | refine wr ?_ | refine wk ?_ | refine we ?_ | refine ws ?_ | refine wq ?_
          | (refine wc rfl (fun hc => ?_) (fun hc => ?_) <;> (try simp at hc) <;> (try omega))
          | (refine ib (fun hc => ?_) (fun hc => ?_) <;> (try omega) <;> (try simp (disch := omega) only [if_pos, if_neg])))
          all_goals simp [AThen, APost, ares, aresL, ares1]

set_option maxHeartbeats 8000000 in
theorem one_call (hF : FOK) (v : Value) (p : List InsV) (k : Nat) (b : Option Nat) (A : AW) (h : IsIns A v p) (hl : p.length ≤ 64) (hk : k < p.length) (hb : ∀ d, b = some d → d < p.length) :
    ACall Tryz.prog 48 [v, .int .i64 k, .int .i64 (optI b)] A (fun u A' => u = .int .i64 (oneE (progTarget p) k b p[k]) ∧ A = A') := by
  refine acall_intro Tryz.func48 rfl (by kernel_rfl) fun hw => ?_
  have cT := target_call hF v p k b A h hl hk hb
  obtain ⟨o, c, rfl, _⟩ := h.form
  obtain ⟨q, row, hq', hrow, hle, hcell⟩ := h.at hk
  subst hq'
  generalize p[k] = x at hcell cT
  have hcell0 := ins_op hcell
  have cI := fun B => isaCheck_call hF x B
  have cP := fun B => isaPlace_call hF x B
  have hE : oneE (progTarget p) k b x = if insErr x = 0 then
    if (x.op = 7 ∧ b.isSome = true) ∨ (x.op = 8 ∧ b.isSome = false) then 40
    else if (insPlace x = 1 ∧ b.isSome = false) ∨ (insPlace x = 2 ∧ b.isSome = true) then 41
    else tgtE p k b x else insErr x := by unfold oneE tgtE; rfl
  rw [hE]
  clear hE
  generalize tgtE p k b x = te at cT
  obtain ⟨op, a, b', c', imm⟩ := x
  simp only at hcell0
  simp only [insCells] at hcell cI cP
  generalize insPlace ⟨op, a, b', c', imm⟩ = pl at cP
  generalize insErr ⟨op, a, b', c', imm⟩ = e at cI
  by_cases e0 : e = 0
  rotate_left
  · rw [if_neg e0]
    repeat' (first
    | (refine lwc fun R hR => ?_; simp [wrap_i64, wrap_u64, hrow, hcell0, hcell, hle, hk, e0]; try simp (disch := omega) only [if_pos, if_neg, wrap_i64, wrap_u64])
    | (refine hR _ _ ?_; clear hR R) | (refine hK _ _ ?_; clear hK K) | refine lwn ?_ | refine lr ?_ | refine la ?_
    | refine wn fun K hK => ?_
    | simp only [wS]
    | (refine callK (cI _) ?_; rintro _ _ ⟨rfl, rfl⟩ _ _)
    | refine wb ?_ | refine wr ?_ | refine wk ?_ | refine we ?_ | refine ws ?_ | refine wq ?_
    | (refine wc rfl (fun hc => ?_) (fun hc => ?_) <;> (try simp at hc) <;> (try omega))
    | (refine ib (fun hc => ?_) (fun hc => ?_) <;> (try omega) <;> (try simp (disch := omega) only [if_pos, if_neg])))
    all_goals simp [AThen, APost, ares, aresL, ares1]
  subst e0
  rw [if_pos rfl]
  cases b with
  | none =>
    simp only [optI] at cT ⊢
    by_cases ob : op = 8
    · subst ob
      rw [if_pos (by simp)]
      repeat' (first
      | (refine lwc fun R hR => ?_; simp [wrap_i64, wrap_u64, hrow, hcell0, hcell, hle, hk]; try simp (disch := omega) only [if_pos, if_neg, wrap_i64, wrap_u64])
      | (refine hR _ _ ?_; clear hR R) | (refine hK _ _ ?_; clear hK K) | refine lwn ?_ | refine lr ?_ | refine la ?_
      | refine wn fun K hK => ?_
      | simp only [wS]
      | (refine callK (cI _) ?_; rintro _ _ ⟨rfl, rfl⟩ _ _)
      | (refine callK (cP _) ?_; rintro _ _ ⟨rfl, rfl⟩ _ _)
      | (refine callK (cT) ?_; rintro _ _ ⟨rfl, rfl⟩ _ _)
      | refine wb ?_ | refine wr ?_ | refine wk ?_ | refine we ?_ | refine ws ?_ | refine wq ?_
      | (refine wc rfl (fun hc => ?_) (fun hc => ?_) <;> (try simp at hc) <;> (try omega))
      | (refine ib (fun hc => ?_) (fun hc => ?_) <;> (try omega) <;> (try simp (disch := omega) only [if_pos, if_neg])))
      all_goals simp [AThen, APost, ares, aresL, ares1]
    rw [if_neg (by simp [ob])]
    by_cases oo : op = 7
    · subst oo
      by_cases pb : pl = 1
      · subst pb
        rw [if_pos (by simp)]
        repeat' (first
        | (refine lwc fun R hR => ?_; simp [wrap_i64, wrap_u64, hrow, hcell0, hcell, hle, hk, ob]; try simp (disch := omega) only [if_pos, if_neg, wrap_i64, wrap_u64])
        | (refine hR _ _ ?_; clear hR R) | (refine hK _ _ ?_; clear hK K) | refine lwn ?_ | refine lr ?_ | refine la ?_
        | refine wn fun K hK => ?_
        | simp only [wS]
        | (refine callK (cI _) ?_; rintro _ _ ⟨rfl, rfl⟩ _ _)
        | (refine callK (cP _) ?_; rintro _ _ ⟨rfl, rfl⟩ _ _)
        | (refine callK (cT) ?_; rintro _ _ ⟨rfl, rfl⟩ _ _)
        | refine wb ?_ | refine wr ?_ | refine wk ?_ | refine we ?_ | refine ws ?_ | refine wq ?_
        | (refine wc rfl (fun hc => ?_) (fun hc => ?_) <;> (try simp at hc) <;> (try omega))
        | (refine ib (fun hc => ?_) (fun hc => ?_) <;> (try omega) <;> (try simp (disch := omega) only [if_pos, if_neg])))
        all_goals simp [AThen, APost, ares, aresL, ares1]
      rw [if_neg (by simp [pb])]
      by_cases po : pl = 2
      · subst po
        repeat' (first
        | (refine lwc fun R hR => ?_; simp [wrap_i64, wrap_u64, hrow, hcell0, hcell, hle, hk, ob]; try simp (disch := omega) only [if_pos, if_neg, wrap_i64, wrap_u64])
        | (refine hR _ _ ?_; clear hR R) | (refine hK _ _ ?_; clear hK K) | refine lwn ?_ | refine lr ?_ | refine la ?_
        | refine wn fun K hK => ?_
        | simp only [wS]
        | (refine callK (cI _) ?_; rintro _ _ ⟨rfl, rfl⟩ _ _)
        | (refine callK (cP _) ?_; rintro _ _ ⟨rfl, rfl⟩ _ _)
        | (refine callK (cT) ?_; rintro _ _ ⟨rfl, rfl⟩ _ _)
        | refine wb ?_ | refine wr ?_ | refine wk ?_ | refine we ?_ | refine ws ?_ | refine wq ?_
        | (refine wc rfl (fun hc => ?_) (fun hc => ?_) <;> (try simp at hc) <;> (try omega))
        | (refine ib (fun hc => ?_) (fun hc => ?_) <;> (try omega) <;> (try simp (disch := omega) only [if_pos, if_neg])))
        all_goals simp [AThen, APost, ares, aresL, ares1]
      · skip
        repeat' (first
        | (refine lwc fun R hR => ?_; simp [wrap_i64, wrap_u64, hrow, hcell0, hcell, hle, hk, ob, pb, po]; try simp (disch := omega) only [if_pos, if_neg, wrap_i64, wrap_u64])
        | (refine hR _ _ ?_; clear hR R) | (refine hK _ _ ?_; clear hK K) | refine lwn ?_ | refine lr ?_ | refine la ?_
        | refine wn fun K hK => ?_
        | simp only [wS]
        | (refine callK (cI _) ?_; rintro _ _ ⟨rfl, rfl⟩ _ _)
        | (refine callK (cP _) ?_; rintro _ _ ⟨rfl, rfl⟩ _ _)
        | (refine callK (cT) ?_; rintro _ _ ⟨rfl, rfl⟩ _ _)
        | refine wb ?_ | refine wr ?_ | refine wk ?_ | refine we ?_ | refine ws ?_ | refine wq ?_
        | (refine wc rfl (fun hc => ?_) (fun hc => ?_) <;> (try simp at hc) <;> (try omega))
        | (refine ib (fun hc => ?_) (fun hc => ?_) <;> (try omega) <;> (try simp (disch := omega) only [if_pos, if_neg])))
        all_goals simp [AThen, APost, ares, aresL, ares1]
    · skip
      by_cases pb : pl = 1
      · subst pb
        rw [if_pos (by simp)]
        repeat' (first
        | (refine lwc fun R hR => ?_; simp [wrap_i64, wrap_u64, hrow, hcell0, hcell, hle, hk, ob, oo]; try simp (disch := omega) only [if_pos, if_neg, wrap_i64, wrap_u64])
        | (refine hR _ _ ?_; clear hR R) | (refine hK _ _ ?_; clear hK K) | refine lwn ?_ | refine lr ?_ | refine la ?_
        | refine wn fun K hK => ?_
        | simp only [wS]
        | (refine callK (cI _) ?_; rintro _ _ ⟨rfl, rfl⟩ _ _)
        | (refine callK (cP _) ?_; rintro _ _ ⟨rfl, rfl⟩ _ _)
        | (refine callK (cT) ?_; rintro _ _ ⟨rfl, rfl⟩ _ _)
        | refine wb ?_ | refine wr ?_ | refine wk ?_ | refine we ?_ | refine ws ?_ | refine wq ?_
        | (refine wc rfl (fun hc => ?_) (fun hc => ?_) <;> (try simp at hc) <;> (try omega))
        | (refine ib (fun hc => ?_) (fun hc => ?_) <;> (try omega) <;> (try simp (disch := omega) only [if_pos, if_neg])))
        all_goals simp [AThen, APost, ares, aresL, ares1]
      rw [if_neg (by simp [pb])]
      by_cases po : pl = 2
      · subst po
        repeat' (first
        | (refine lwc fun R hR => ?_; simp [wrap_i64, wrap_u64, hrow, hcell0, hcell, hle, hk, ob, oo]; try simp (disch := omega) only [if_pos, if_neg, wrap_i64, wrap_u64])
        | (refine hR _ _ ?_; clear hR R) | (refine hK _ _ ?_; clear hK K) | refine lwn ?_ | refine lr ?_ | refine la ?_
        | refine wn fun K hK => ?_
        | simp only [wS]
        | (refine callK (cI _) ?_; rintro _ _ ⟨rfl, rfl⟩ _ _)
        | (refine callK (cP _) ?_; rintro _ _ ⟨rfl, rfl⟩ _ _)
        | (refine callK (cT) ?_; rintro _ _ ⟨rfl, rfl⟩ _ _)
        | refine wb ?_ | refine wr ?_ | refine wk ?_ | refine we ?_ | refine ws ?_ | refine wq ?_
        | (refine wc rfl (fun hc => ?_) (fun hc => ?_) <;> (try simp at hc) <;> (try omega))
        | (refine ib (fun hc => ?_) (fun hc => ?_) <;> (try omega) <;> (try simp (disch := omega) only [if_pos, if_neg])))
        all_goals simp [AThen, APost, ares, aresL, ares1]
      · skip
        repeat' (first
        | (refine lwc fun R hR => ?_; simp [wrap_i64, wrap_u64, hrow, hcell0, hcell, hle, hk, ob, oo, pb, po]; try simp (disch := omega) only [if_pos, if_neg, wrap_i64, wrap_u64])
        | (refine hR _ _ ?_; clear hR R) | (refine hK _ _ ?_; clear hK K) | refine lwn ?_ | refine lr ?_ | refine la ?_
        | refine wn fun K hK => ?_
        | simp only [wS]
        | (refine callK (cI _) ?_; rintro _ _ ⟨rfl, rfl⟩ _ _)
        | (refine callK (cP _) ?_; rintro _ _ ⟨rfl, rfl⟩ _ _)
        | (refine callK (cT) ?_; rintro _ _ ⟨rfl, rfl⟩ _ _)
        | refine wb ?_ | refine wr ?_ | refine wk ?_ | refine we ?_ | refine ws ?_ | refine wq ?_
        | (refine wc rfl (fun hc => ?_) (fun hc => ?_) <;> (try simp at hc) <;> (try omega))
        | (refine ib (fun hc => ?_) (fun hc => ?_) <;> (try omega) <;> (try simp (disch := omega) only [if_pos, if_neg])))
        all_goals simp [AThen, APost, ares, aresL, ares1]
  | some d =>
    simp only [optI] at cT ⊢
    have hd0 : ¬ ((d : Int) < 0) := by omega
    have hd1 : (0 : Int) ≤ d := by omega
    by_cases ob : op = 7
    · subst ob
      rw [if_pos (by simp)]
      repeat' (first
      | (refine lwc fun R hR => ?_; simp [wrap_i64, wrap_u64, hrow, hcell0, hcell, hle, hk, hd0, hd1]; try simp (disch := omega) only [if_pos, if_neg, wrap_i64, wrap_u64])
      | (refine hR _ _ ?_; clear hR R) | (refine hK _ _ ?_; clear hK K) | refine lwn ?_ | refine lr ?_ | refine la ?_
      | refine wn fun K hK => ?_
      | simp only [wS]
      | (refine callK (cI _) ?_; rintro _ _ ⟨rfl, rfl⟩ _ _)
      | (refine callK (cP _) ?_; rintro _ _ ⟨rfl, rfl⟩ _ _)
      | (refine callK (cT) ?_; rintro _ _ ⟨rfl, rfl⟩ _ _)
      | refine wb ?_ | refine wr ?_ | refine wk ?_ | refine we ?_ | refine ws ?_ | refine wq ?_
      | (refine wc rfl (fun hc => ?_) (fun hc => ?_) <;> (try simp at hc) <;> (try omega))
      | (refine ib (fun hc => ?_) (fun hc => ?_) <;> (try omega) <;> (try simp (disch := omega) only [if_pos, if_neg])))
      all_goals simp [AThen, APost, ares, aresL, ares1]
    rw [if_neg (by simp [ob])]
    by_cases oo : op = 8
    · subst oo
      by_cases pb : pl = 2
      · subst pb
        rw [if_pos (by simp)]
        repeat' (first
        | (refine lwc fun R hR => ?_; simp [wrap_i64, wrap_u64, hrow, hcell0, hcell, hle, hk, hd0, hd1, ob]; try simp (disch := omega) only [if_pos, if_neg, wrap_i64, wrap_u64])
        | (refine hR _ _ ?_; clear hR R) | (refine hK _ _ ?_; clear hK K) | refine lwn ?_ | refine lr ?_ | refine la ?_
        | refine wn fun K hK => ?_
        | simp only [wS]
        | (refine callK (cI _) ?_; rintro _ _ ⟨rfl, rfl⟩ _ _)
        | (refine callK (cP _) ?_; rintro _ _ ⟨rfl, rfl⟩ _ _)
        | (refine callK (cT) ?_; rintro _ _ ⟨rfl, rfl⟩ _ _)
        | refine wb ?_ | refine wr ?_ | refine wk ?_ | refine we ?_ | refine ws ?_ | refine wq ?_
        | (refine wc rfl (fun hc => ?_) (fun hc => ?_) <;> (try simp at hc) <;> (try omega))
        | (refine ib (fun hc => ?_) (fun hc => ?_) <;> (try omega) <;> (try simp (disch := omega) only [if_pos, if_neg])))
        all_goals simp [AThen, APost, ares, aresL, ares1]
      rw [if_neg (by simp [pb])]
      by_cases po : pl = 1
      · subst po
        repeat' (first
        | (refine lwc fun R hR => ?_; simp [wrap_i64, wrap_u64, hrow, hcell0, hcell, hle, hk, hd0, hd1, ob]; try simp (disch := omega) only [if_pos, if_neg, wrap_i64, wrap_u64])
        | (refine hR _ _ ?_; clear hR R) | (refine hK _ _ ?_; clear hK K) | refine lwn ?_ | refine lr ?_ | refine la ?_
        | refine wn fun K hK => ?_
        | simp only [wS]
        | (refine callK (cI _) ?_; rintro _ _ ⟨rfl, rfl⟩ _ _)
        | (refine callK (cP _) ?_; rintro _ _ ⟨rfl, rfl⟩ _ _)
        | (refine callK (cT) ?_; rintro _ _ ⟨rfl, rfl⟩ _ _)
        | refine wb ?_ | refine wr ?_ | refine wk ?_ | refine we ?_ | refine ws ?_ | refine wq ?_
        | (refine wc rfl (fun hc => ?_) (fun hc => ?_) <;> (try simp at hc) <;> (try omega))
        | (refine ib (fun hc => ?_) (fun hc => ?_) <;> (try omega) <;> (try simp (disch := omega) only [if_pos, if_neg])))
        all_goals simp [AThen, APost, ares, aresL, ares1]
      · skip
        repeat' (first
        | (refine lwc fun R hR => ?_; simp [wrap_i64, wrap_u64, hrow, hcell0, hcell, hle, hk, hd0, hd1, ob, pb, po]; try simp (disch := omega) only [if_pos, if_neg, wrap_i64, wrap_u64])
        | (refine hR _ _ ?_; clear hR R) | (refine hK _ _ ?_; clear hK K) | refine lwn ?_ | refine lr ?_ | refine la ?_
        | refine wn fun K hK => ?_
        | simp only [wS]
        | (refine callK (cI _) ?_; rintro _ _ ⟨rfl, rfl⟩ _ _)
        | (refine callK (cP _) ?_; rintro _ _ ⟨rfl, rfl⟩ _ _)
        | (refine callK (cT) ?_; rintro _ _ ⟨rfl, rfl⟩ _ _)
        | refine wb ?_ | refine wr ?_ | refine wk ?_ | refine we ?_ | refine ws ?_ | refine wq ?_
        | (refine wc rfl (fun hc => ?_) (fun hc => ?_) <;> (try simp at hc) <;> (try omega))
        | (refine ib (fun hc => ?_) (fun hc => ?_) <;> (try omega) <;> (try simp (disch := omega) only [if_pos, if_neg])))
        all_goals simp [AThen, APost, ares, aresL, ares1]
    · skip
      by_cases pb : pl = 2
      · subst pb
        rw [if_pos (by simp)]
        repeat' (first
        | (refine lwc fun R hR => ?_; simp [wrap_i64, wrap_u64, hrow, hcell0, hcell, hle, hk, hd0, hd1, ob, oo]; try simp (disch := omega) only [if_pos, if_neg, wrap_i64, wrap_u64])
        | (refine hR _ _ ?_; clear hR R) | (refine hK _ _ ?_; clear hK K) | refine lwn ?_ | refine lr ?_ | refine la ?_
        | refine wn fun K hK => ?_
        | simp only [wS]
        | (refine callK (cI _) ?_; rintro _ _ ⟨rfl, rfl⟩ _ _)
        | (refine callK (cP _) ?_; rintro _ _ ⟨rfl, rfl⟩ _ _)
        | (refine callK (cT) ?_; rintro _ _ ⟨rfl, rfl⟩ _ _)
        | refine wb ?_ | refine wr ?_ | refine wk ?_ | refine we ?_ | refine ws ?_ | refine wq ?_
        | (refine wc rfl (fun hc => ?_) (fun hc => ?_) <;> (try simp at hc) <;> (try omega))
        | (refine ib (fun hc => ?_) (fun hc => ?_) <;> (try omega) <;> (try simp (disch := omega) only [if_pos, if_neg])))
        all_goals simp [AThen, APost, ares, aresL, ares1]
      rw [if_neg (by simp [pb])]
      by_cases po : pl = 1
      · subst po
        repeat' (first
        | (refine lwc fun R hR => ?_; simp [wrap_i64, wrap_u64, hrow, hcell0, hcell, hle, hk, hd0, hd1, ob, oo]; try simp (disch := omega) only [if_pos, if_neg, wrap_i64, wrap_u64])
        | (refine hR _ _ ?_; clear hR R) | (refine hK _ _ ?_; clear hK K) | refine lwn ?_ | refine lr ?_ | refine la ?_
        | refine wn fun K hK => ?_
        | simp only [wS]
        | (refine callK (cI _) ?_; rintro _ _ ⟨rfl, rfl⟩ _ _)
        | (refine callK (cP _) ?_; rintro _ _ ⟨rfl, rfl⟩ _ _)
        | (refine callK (cT) ?_; rintro _ _ ⟨rfl, rfl⟩ _ _)
        | refine wb ?_ | refine wr ?_ | refine wk ?_ | refine we ?_ | refine ws ?_ | refine wq ?_
        | (refine wc rfl (fun hc => ?_) (fun hc => ?_) <;> (try simp at hc) <;> (try omega))
        | (refine ib (fun hc => ?_) (fun hc => ?_) <;> (try omega) <;> (try simp (disch := omega) only [if_pos, if_neg])))
        all_goals simp [AThen, APost, ares, aresL, ares1]
      · skip
        repeat' (first
        | (refine lwc fun R hR => ?_; simp [wrap_i64, wrap_u64, hrow, hcell0, hcell, hle, hk, hd0, hd1, ob, oo, pb, po]; try simp (disch := omega) only [if_pos, if_neg, wrap_i64, wrap_u64])
        | (refine hR _ _ ?_; clear hR R) | (refine hK _ _ ?_; clear hK K) | refine lwn ?_ | refine lr ?_ | refine la ?_
        | refine wn fun K hK => ?_
        | simp only [wS]
        | (refine callK (cI _) ?_; rintro _ _ ⟨rfl, rfl⟩ _ _)
        | (refine callK (cP _) ?_; rintro _ _ ⟨rfl, rfl⟩ _ _)
        | (refine callK (cT) ?_; rintro _ _ ⟨rfl, rfl⟩ _ _)
        | refine wb ?_ | refine wr ?_ | refine wk ?_ | refine we ?_ | refine ws ?_ | refine wq ?_
        | (refine wc rfl (fun hc => ?_) (fun hc => ?_) <;> (try simp at hc) <;> (try omega))
        | (refine ib (fun hc => ?_) (fun hc => ?_) <;> (try omega) <;> (try simp (disch := omega) only [if_pos, if_neg])))
        all_goals simp [AThen, APost, ares, aresL, ares1]
end Go.Stx
