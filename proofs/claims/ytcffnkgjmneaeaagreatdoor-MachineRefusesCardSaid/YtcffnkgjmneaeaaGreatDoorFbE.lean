/-
  The document's places and jumps of an instruction.
-/
import Derived.Test.YtcffnkgjmneaeaaGreatDoorFbD
namespace Go.Stx
open Go Go.Proofs
attribute [local irreducible] AWP LWalk ACall ARounds lops nops
set_option linter.unusedVariables false
set_option linter.unusedSimpArgs false
set_option linter.unusedSectionVars false
set_option maxRecDepth 20000
variable [Gl]

set_option maxHeartbeats 4000000 in
theorem refPlace_call (hn : Gl.N = 4) (x : InsV) (A : AW) : ACall Tryz.prog 50 [.agg (insCells x).toArray] A (fun u A' => u = .int .i64 (insPlace x) ∧ A = A') := by
  refine ACall.gc0 (V := .int .i64 (insPlace x)) (by simp) (fun hw => ?_) (by kernel_rfl)
  refine acall_intro Tryz.func50 rfl (by kernel_rfl) fun _ => ?_
  obtain ⟨op, a, b, c, imm⟩ := x
  have hc := fun A => refIns_call hn ⟨op, a, b, c, imm⟩ A
  simp only [insCells] at hc
  by_cases h0 : insErr ⟨op, a, b, c, imm⟩ = 0
  · rw [h0] at hc
    by_cases o8 : op = 8
    · subst o8
      have he : insPlace ⟨8, a, b, c, imm⟩ = 1 := by unfold insPlace; rw [if_pos h0]; rfl
      rw [he]
      repeat' (first
      | (refine lwc fun R hR => ?_; simp [wrap_i64, wrap_u64, AW.row_get, insCells]; try simp (disch := omega) only [if_pos, if_neg, wrap_i64, wrap_u64])
      | (refine hR _ _ ?_; clear hR R) | (refine hK _ _ ?_; clear hK K) | refine lwn ?_ | refine lr ?_ | refine la ?_
      | refine wn fun K hK => ?_
      | simp only [wS]
      | (refine callK (hc _) ?_; rintro _ _ ⟨rfl, rfl⟩ _ _)
      | refine wb ?_ | refine wr ?_ | refine wk ?_ | refine we ?_ | refine ws ?_ | refine wq ?_
      | (refine wc rfl (fun hc => ?_) (fun hc => ?_) <;> (try simp at hc) <;> (try omega))
      | (refine ib (fun hc => ?_) (fun hc => ?_) <;> (try omega) <;> (try simp (disch := omega) only [if_pos, if_neg])))
      all_goals first | exact AW.le.alloc A _ | (simp [AThen, APost, ares, aresL, ares1] <;> exact AW.le.alloc A _)
    by_cases o9 : op = 9
    · subst o9
      have he : insPlace ⟨9, a, b, c, imm⟩ = 1 := by unfold insPlace; rw [if_pos h0]; rfl
      rw [he]
      repeat' (first
      | (refine lwc fun R hR => ?_; simp [wrap_i64, wrap_u64, AW.row_get, insCells, o8]; try simp (disch := omega) only [if_pos, if_neg, wrap_i64, wrap_u64])
      | (refine hR _ _ ?_; clear hR R) | (refine hK _ _ ?_; clear hK K) | refine lwn ?_ | refine lr ?_ | refine la ?_
      | refine wn fun K hK => ?_
      | simp only [wS]
      | (refine callK (hc _) ?_; rintro _ _ ⟨rfl, rfl⟩ _ _)
      | refine wb ?_ | refine wr ?_ | refine wk ?_ | refine we ?_ | refine ws ?_ | refine wq ?_
      | (refine wc rfl (fun hc => ?_) (fun hc => ?_) <;> (try simp at hc) <;> (try omega))
      | (refine ib (fun hc => ?_) (fun hc => ?_) <;> (try omega) <;> (try simp (disch := omega) only [if_pos, if_neg])))
      all_goals first | exact AW.le.alloc A _ | (simp [AThen, APost, ares, aresL, ares1] <;> exact AW.le.alloc A _)
    by_cases o10 : op = 10
    · subst o10
      have he : insPlace ⟨10, a, b, c, imm⟩ = 1 := by unfold insPlace; rw [if_pos h0]; rfl
      rw [he]
      repeat' (first
      | (refine lwc fun R hR => ?_; simp [wrap_i64, wrap_u64, AW.row_get, insCells, o8, o9]; try simp (disch := omega) only [if_pos, if_neg, wrap_i64, wrap_u64])
      | (refine hR _ _ ?_; clear hR R) | (refine hK _ _ ?_; clear hK K) | refine lwn ?_ | refine lr ?_ | refine la ?_
      | refine wn fun K hK => ?_
      | simp only [wS]
      | (refine callK (hc _) ?_; rintro _ _ ⟨rfl, rfl⟩ _ _)
      | refine wb ?_ | refine wr ?_ | refine wk ?_ | refine we ?_ | refine ws ?_ | refine wq ?_
      | (refine wc rfl (fun hc => ?_) (fun hc => ?_) <;> (try simp at hc) <;> (try omega))
      | (refine ib (fun hc => ?_) (fun hc => ?_) <;> (try omega) <;> (try simp (disch := omega) only [if_pos, if_neg])))
      all_goals first | exact AW.le.alloc A _ | (simp [AThen, APost, ares, aresL, ares1] <;> exact AW.le.alloc A _)
    by_cases o11 : op = 11
    · subst o11
      have he : insPlace ⟨11, a, b, c, imm⟩ = 1 := by unfold insPlace; rw [if_pos h0]; rfl
      rw [he]
      repeat' (first
      | (refine lwc fun R hR => ?_; simp [wrap_i64, wrap_u64, AW.row_get, insCells, o8, o9, o10]; try simp (disch := omega) only [if_pos, if_neg, wrap_i64, wrap_u64])
      | (refine hR _ _ ?_; clear hR R) | (refine hK _ _ ?_; clear hK K) | refine lwn ?_ | refine lr ?_ | refine la ?_
      | refine wn fun K hK => ?_
      | simp only [wS]
      | (refine callK (hc _) ?_; rintro _ _ ⟨rfl, rfl⟩ _ _)
      | refine wb ?_ | refine wr ?_ | refine wk ?_ | refine we ?_ | refine ws ?_ | refine wq ?_
      | (refine wc rfl (fun hc => ?_) (fun hc => ?_) <;> (try simp at hc) <;> (try omega))
      | (refine ib (fun hc => ?_) (fun hc => ?_) <;> (try omega) <;> (try simp (disch := omega) only [if_pos, if_neg])))
      all_goals first | exact AW.le.alloc A _ | (simp [AThen, APost, ares, aresL, ares1] <;> exact AW.le.alloc A _)
    by_cases o14 : op = 14
    · subst o14
      have he : insPlace ⟨14, a, b, c, imm⟩ = 1 := by unfold insPlace; rw [if_pos h0]; rfl
      rw [he]
      repeat' (first
      | (refine lwc fun R hR => ?_; simp [wrap_i64, wrap_u64, AW.row_get, insCells, o8, o9, o10, o11]; try simp (disch := omega) only [if_pos, if_neg, wrap_i64, wrap_u64])
      | (refine hR _ _ ?_; clear hR R) | (refine hK _ _ ?_; clear hK K) | refine lwn ?_ | refine lr ?_ | refine la ?_
      | refine wn fun K hK => ?_
      | simp only [wS]
      | (refine callK (hc _) ?_; rintro _ _ ⟨rfl, rfl⟩ _ _)
      | refine wb ?_ | refine wr ?_ | refine wk ?_ | refine we ?_ | refine ws ?_ | refine wq ?_
      | (refine wc rfl (fun hc => ?_) (fun hc => ?_) <;> (try simp at hc) <;> (try omega))
      | (refine ib (fun hc => ?_) (fun hc => ?_) <;> (try omega) <;> (try simp (disch := omega) only [if_pos, if_neg])))
      all_goals first | exact AW.le.alloc A _ | (simp [AThen, APost, ares, aresL, ares1] <;> exact AW.le.alloc A _)
    by_cases o15 : op = 15
    · subst o15
      have he : insPlace ⟨15, a, b, c, imm⟩ = 1 := by unfold insPlace; rw [if_pos h0]; rfl
      rw [he]
      repeat' (first
      | (refine lwc fun R hR => ?_; simp [wrap_i64, wrap_u64, AW.row_get, insCells, o8, o9, o10, o11, o14]; try simp (disch := omega) only [if_pos, if_neg, wrap_i64, wrap_u64])
      | (refine hR _ _ ?_; clear hR R) | (refine hK _ _ ?_; clear hK K) | refine lwn ?_ | refine lr ?_ | refine la ?_
      | refine wn fun K hK => ?_
      | simp only [wS]
      | (refine callK (hc _) ?_; rintro _ _ ⟨rfl, rfl⟩ _ _)
      | refine wb ?_ | refine wr ?_ | refine wk ?_ | refine we ?_ | refine ws ?_ | refine wq ?_
      | (refine wc rfl (fun hc => ?_) (fun hc => ?_) <;> (try simp at hc) <;> (try omega))
      | (refine ib (fun hc => ?_) (fun hc => ?_) <;> (try omega) <;> (try simp (disch := omega) only [if_pos, if_neg])))
      all_goals first | exact AW.le.alloc A _ | (simp [AThen, APost, ares, aresL, ares1] <;> exact AW.le.alloc A _)
    by_cases o7 : op = 7
    · subst o7
      have he : insPlace ⟨7, a, b, c, imm⟩ = 2 := by unfold insPlace; rw [if_pos h0]; rfl
      rw [he]
      repeat' (first
      | (refine lwc fun R hR => ?_; simp [wrap_i64, wrap_u64, AW.row_get, insCells, o8, o9, o10, o11, o14, o15]; try simp (disch := omega) only [if_pos, if_neg, wrap_i64, wrap_u64])
      | (refine hR _ _ ?_; clear hR R) | (refine hK _ _ ?_; clear hK K) | refine lwn ?_ | refine lr ?_ | refine la ?_
      | refine wn fun K hK => ?_
      | simp only [wS]
      | (refine callK (hc _) ?_; rintro _ _ ⟨rfl, rfl⟩ _ _)
      | refine wb ?_ | refine wr ?_ | refine wk ?_ | refine we ?_ | refine ws ?_ | refine wq ?_
      | (refine wc rfl (fun hc => ?_) (fun hc => ?_) <;> (try simp at hc) <;> (try omega))
      | (refine ib (fun hc => ?_) (fun hc => ?_) <;> (try omega) <;> (try simp (disch := omega) only [if_pos, if_neg])))
      all_goals first | exact AW.le.alloc A _ | (simp [AThen, APost, ares, aresL, ares1] <;> exact AW.le.alloc A _)
    by_cases o12 : op = 12
    · subst o12
      have he : insPlace ⟨12, a, b, c, imm⟩ = 2 := by unfold insPlace; rw [if_pos h0]; rfl
      rw [he]
      repeat' (first
      | (refine lwc fun R hR => ?_; simp [wrap_i64, wrap_u64, AW.row_get, insCells, o8, o9, o10, o11, o14, o15, o7]; try simp (disch := omega) only [if_pos, if_neg, wrap_i64, wrap_u64])
      | (refine hR _ _ ?_; clear hR R) | (refine hK _ _ ?_; clear hK K) | refine lwn ?_ | refine lr ?_ | refine la ?_
      | refine wn fun K hK => ?_
      | simp only [wS]
      | (refine callK (hc _) ?_; rintro _ _ ⟨rfl, rfl⟩ _ _)
      | refine wb ?_ | refine wr ?_ | refine wk ?_ | refine we ?_ | refine ws ?_ | refine wq ?_
      | (refine wc rfl (fun hc => ?_) (fun hc => ?_) <;> (try simp at hc) <;> (try omega))
      | (refine ib (fun hc => ?_) (fun hc => ?_) <;> (try omega) <;> (try simp (disch := omega) only [if_pos, if_neg])))
      all_goals first | exact AW.le.alloc A _ | (simp [AThen, APost, ares, aresL, ares1] <;> exact AW.le.alloc A _)
    by_cases o13 : op = 13
    · subst o13
      have he : insPlace ⟨13, a, b, c, imm⟩ = 2 := by unfold insPlace; rw [if_pos h0]; rfl
      rw [he]
      repeat' (first
      | (refine lwc fun R hR => ?_; simp [wrap_i64, wrap_u64, AW.row_get, insCells, o8, o9, o10, o11, o14, o15, o7, o12]; try simp (disch := omega) only [if_pos, if_neg, wrap_i64, wrap_u64])
      | (refine hR _ _ ?_; clear hR R) | (refine hK _ _ ?_; clear hK K) | refine lwn ?_ | refine lr ?_ | refine la ?_
      | refine wn fun K hK => ?_
      | simp only [wS]
      | (refine callK (hc _) ?_; rintro _ _ ⟨rfl, rfl⟩ _ _)
      | refine wb ?_ | refine wr ?_ | refine wk ?_ | refine we ?_ | refine ws ?_ | refine wq ?_
      | (refine wc rfl (fun hc => ?_) (fun hc => ?_) <;> (try simp at hc) <;> (try omega))
      | (refine ib (fun hc => ?_) (fun hc => ?_) <;> (try omega) <;> (try simp (disch := omega) only [if_pos, if_neg])))
      all_goals first | exact AW.le.alloc A _ | (simp [AThen, APost, ares, aresL, ares1] <;> exact AW.le.alloc A _)
    by_cases o16 : op = 16
    · subst o16
      have he : insPlace ⟨16, a, b, c, imm⟩ = 2 := by unfold insPlace; rw [if_pos h0]; rfl
      rw [he]
      repeat' (first
      | (refine lwc fun R hR => ?_; simp [wrap_i64, wrap_u64, AW.row_get, insCells, o8, o9, o10, o11, o14, o15, o7, o12, o13]; try simp (disch := omega) only [if_pos, if_neg, wrap_i64, wrap_u64])
      | (refine hR _ _ ?_; clear hR R) | (refine hK _ _ ?_; clear hK K) | refine lwn ?_ | refine lr ?_ | refine la ?_
      | refine wn fun K hK => ?_
      | simp only [wS]
      | (refine callK (hc _) ?_; rintro _ _ ⟨rfl, rfl⟩ _ _)
      | refine wb ?_ | refine wr ?_ | refine wk ?_ | refine we ?_ | refine ws ?_ | refine wq ?_
      | (refine wc rfl (fun hc => ?_) (fun hc => ?_) <;> (try simp at hc) <;> (try omega))
      | (refine ib (fun hc => ?_) (fun hc => ?_) <;> (try omega) <;> (try simp (disch := omega) only [if_pos, if_neg])))
      all_goals first | exact AW.le.alloc A _ | (simp [AThen, APost, ares, aresL, ares1] <;> exact AW.le.alloc A _)
    by_cases o17 : op = 17
    · subst o17
      have he : insPlace ⟨17, a, b, c, imm⟩ = 2 := by unfold insPlace; rw [if_pos h0]; rfl
      rw [he]
      repeat' (first
      | (refine lwc fun R hR => ?_; simp [wrap_i64, wrap_u64, AW.row_get, insCells, o8, o9, o10, o11, o14, o15, o7, o12, o13, o16]; try simp (disch := omega) only [if_pos, if_neg, wrap_i64, wrap_u64])
      | (refine hR _ _ ?_; clear hR R) | (refine hK _ _ ?_; clear hK K) | refine lwn ?_ | refine lr ?_ | refine la ?_
      | refine wn fun K hK => ?_
      | simp only [wS]
      | (refine callK (hc _) ?_; rintro _ _ ⟨rfl, rfl⟩ _ _)
      | refine wb ?_ | refine wr ?_ | refine wk ?_ | refine we ?_ | refine ws ?_ | refine wq ?_
      | (refine wc rfl (fun hc => ?_) (fun hc => ?_) <;> (try simp at hc) <;> (try omega))
      | (refine ib (fun hc => ?_) (fun hc => ?_) <;> (try omega) <;> (try simp (disch := omega) only [if_pos, if_neg])))
      all_goals first | exact AW.le.alloc A _ | (simp [AThen, APost, ares, aresL, ares1] <;> exact AW.le.alloc A _)
    have he : insPlace ⟨op, a, b, c, imm⟩ = 0 := by unfold insPlace; rw [if_pos h0]; dsimp only; rw [if_neg (by omega), if_neg (by omega)]
    rw [he]
    repeat' (first
    | (refine lwc fun R hR => ?_; simp [wrap_i64, wrap_u64, AW.row_get, insCells, o8, o9, o10, o11, o14, o15, o7, o12, o13, o16, o17]; try simp (disch := omega) only [if_pos, if_neg, wrap_i64, wrap_u64])
    | (refine hR _ _ ?_; clear hR R) | (refine hK _ _ ?_; clear hK K) | refine lwn ?_ | refine lr ?_ | refine la ?_
    | refine wn fun K hK => ?_
    | simp only [wS]
    | (refine callK (hc _) ?_; rintro _ _ ⟨rfl, rfl⟩ _ _)
    | refine wb ?_ | refine wr ?_ | refine wk ?_ | refine we ?_ | refine ws ?_ | refine wq ?_
    | (refine wc rfl (fun hc => ?_) (fun hc => ?_) <;> (try simp at hc) <;> (try omega))
    | (refine ib (fun hc => ?_) (fun hc => ?_) <;> (try omega) <;> (try simp (disch := omega) only [if_pos, if_neg])))
    all_goals first | exact AW.le.alloc A _ | (simp [AThen, APost, ares, aresL, ares1] <;> exact AW.le.alloc A _)
  · have he : insPlace ⟨op, a, b, c, imm⟩ = 0 := by unfold insPlace; rw [if_neg h0]
    rw [he]
    repeat' (first
    | (refine lwc fun R hR => ?_; simp [wrap_i64, wrap_u64, AW.row_get, insCells, h0]; try simp (disch := omega) only [if_pos, if_neg, wrap_i64, wrap_u64])
    | (refine hR _ _ ?_; clear hR R) | (refine hK _ _ ?_; clear hK K) | refine lwn ?_ | refine lr ?_ | refine la ?_
    | refine wn fun K hK => ?_
    | simp only [wS]
    | (refine callK (hc _) ?_; rintro _ _ ⟨rfl, rfl⟩ _ _)
    | refine wb ?_ | refine wr ?_ | refine wk ?_ | refine we ?_ | refine ws ?_ | refine wq ?_
    | (refine wc rfl (fun hc => ?_) (fun hc => ?_) <;> (try simp at hc) <;> (try omega))
    | (refine ib (fun hc => ?_) (fun hc => ?_) <;> (try omega) <;> (try simp (disch := omega) only [if_pos, if_neg])))
    all_goals first | exact AW.le.alloc A _ | (simp [AThen, APost, ares, aresL, ares1] <;> exact AW.le.alloc A _)

set_option maxHeartbeats 4000000 in
theorem refSkips_call (hn : Gl.N = 4) (x : InsV) (A : AW) : ACall Tryz.prog 51 [.agg (insCells x).toArray] A (fun u A' => u = .tuple #[.int .i64 ((insSkips x).getD 0), .bool (insSkips x).isSome] ∧ A = A') := by
  refine ACall.gc0 (V := .tuple #[.int .i64 ((insSkips x).getD 0), .bool (insSkips x).isSome]) (VBelow.tuple (by simp)) (fun hw => ?_) (by kernel_rfl)
  refine acall_intro Tryz.func51 rfl (by kernel_rfl) fun _ => ?_
  obtain ⟨op, a, b, c, imm⟩ := x
  have hc := fun A => refIns_call hn ⟨op, a, b, c, imm⟩ A
  simp only [insCells] at hc
  by_cases h0 : insErr ⟨op, a, b, c, imm⟩ = 0
  · rw [h0] at hc
    have hr : 0 ≤ op ∧ op < 18 := by
      unfold insErr at h0
      dsimp only at h0
      split at h0
      · cases h0
      · omega
    obtain ⟨k, hk⟩ : ∃ k : Nat, op = k := ⟨op.toNat, by omega⟩
    subst hk
    have hk18 : k < 18 := by omega
    have hs : (refForm k).length < 2^30 := by unfold refForm; split <;> simp
    have hj : decide ((106 : UInt8) ∈ refForm k) = decide (k = 4 ∨ k = 5 ∨ k = 6) := by
      have h : ((List.range 18).all fun k => decide ((106 : UInt8) ∈ refForm k) == decide (k = 4 ∨ k = 5 ∨ k = 6)) = true := by kernel_rfl
      simpa using List.all_eq_true.1 h k (List.mem_range.2 hk18)
    have c1 : ∀ A, ACall Tryz.prog 88 [.string (bs (refForm k)), .int .u8 106] A (fun u A' => u = .bool (decide (k = 4 ∨ k = 5 ∨ k = 6)) ∧ A = A') := fun A => by rw [← hj]; exact has_call (refForm k) 106 A hs
    by_cases h4 : k = 4 ∨ k = 5 ∨ k = 6
    · have he : insSkips ⟨(k : Int), a, b, c, imm⟩ = some imm := by unfold insSkips; rw [if_pos ⟨h0, by dsimp only; omega⟩]
      rw [he]
      rw [decide_eq_true h4] at c1
      repeat' (first
      | (refine lwc fun R hR => ?_; simp [wrap_i64, wrap_u64, AW.row_get, insCells]; try simp (disch := omega) only [if_pos, if_neg, wrap_i64, wrap_u64])
      | (refine hR _ _ ?_; clear hR R) | (refine hK _ _ ?_; clear hK K) | refine lwn ?_ | refine lr ?_ | refine la ?_
      | refine wn fun K hK => ?_
      | simp only [wS]
      | (refine callK (hc _) ?_; rintro _ _ ⟨rfl, rfl⟩ _ _)
      | (refine callK (form_call hn hk18 _) ?_; rintro _ _ ⟨rfl, rfl⟩ _ _)
      | (refine callK (c1 _) ?_; rintro _ _ ⟨rfl, rfl⟩ _ _)
      | refine wb ?_ | refine wr ?_ | refine wk ?_ | refine we ?_ | refine ws ?_ | refine wq ?_
      | (refine wc rfl (fun hc => ?_) (fun hc => ?_) <;> (try simp at hc) <;> (try omega))
      | (refine ib (fun hc => ?_) (fun hc => ?_) <;> (try omega) <;> (try simp (disch := omega) only [if_pos, if_neg])))
      all_goals first | exact AW.le.alloc A _ | (simp [AThen, APost, ares, aresL, ares1] <;> exact AW.le.alloc A _)
    · have he : insSkips ⟨(k : Int), a, b, c, imm⟩ = none := by unfold insSkips; rw [if_neg (fun h => by have := h.2; dsimp only at this; omega)]
      rw [he]
      rw [decide_eq_false h4] at c1
      repeat' (first
      | (refine lwc fun R hR => ?_; simp [wrap_i64, wrap_u64, AW.row_get, insCells]; try simp (disch := omega) only [if_pos, if_neg, wrap_i64, wrap_u64])
      | (refine hR _ _ ?_; clear hR R) | (refine hK _ _ ?_; clear hK K) | refine lwn ?_ | refine lr ?_ | refine la ?_
      | refine wn fun K hK => ?_
      | simp only [wS]
      | (refine callK (hc _) ?_; rintro _ _ ⟨rfl, rfl⟩ _ _)
      | (refine callK (form_call hn hk18 _) ?_; rintro _ _ ⟨rfl, rfl⟩ _ _)
      | (refine callK (c1 _) ?_; rintro _ _ ⟨rfl, rfl⟩ _ _)
      | refine wb ?_ | refine wr ?_ | refine wk ?_ | refine we ?_ | refine ws ?_ | refine wq ?_
      | (refine wc rfl (fun hc => ?_) (fun hc => ?_) <;> (try simp at hc) <;> (try omega))
      | (refine ib (fun hc => ?_) (fun hc => ?_) <;> (try omega) <;> (try simp (disch := omega) only [if_pos, if_neg])))
      all_goals first | exact AW.le.alloc A _ | (simp [AThen, APost, ares, aresL, ares1] <;> exact AW.le.alloc A _)
  · have he : insSkips ⟨op, a, b, c, imm⟩ = none := by unfold insSkips; rw [if_neg (fun h => h0 h.1)]
    rw [he]
    repeat' (first
    | (refine lwc fun R hR => ?_; simp [wrap_i64, wrap_u64, AW.row_get, insCells, h0]; try simp (disch := omega) only [if_pos, if_neg, wrap_i64, wrap_u64])
    | (refine hR _ _ ?_; clear hR R) | (refine hK _ _ ?_; clear hK K) | refine lwn ?_ | refine lr ?_ | refine la ?_
    | refine wn fun K hK => ?_
    | simp only [wS]
    | (refine callK (hc _) ?_; rintro _ _ ⟨rfl, rfl⟩ _ _)
    | refine wb ?_ | refine wr ?_ | refine wk ?_ | refine we ?_ | refine ws ?_ | refine wq ?_
    | (refine wc rfl (fun hc => ?_) (fun hc => ?_) <;> (try simp at hc) <;> (try omega))
    | (refine ib (fun hc => ?_) (fun hc => ?_) <;> (try omega) <;> (try simp (disch := omega) only [if_pos, if_neg])))
    all_goals first | exact AW.le.alloc A _ | (simp [AThen, APost, ares, aresL, ares1] <;> exact AW.le.alloc A _)
end Go.Stx
