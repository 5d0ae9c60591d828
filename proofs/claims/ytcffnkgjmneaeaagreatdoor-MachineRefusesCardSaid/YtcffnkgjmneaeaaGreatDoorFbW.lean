/-
  Made instructions.
-/
import Derived.Test.YtcffnkgjmneaeaaGreatDoorFbA
namespace Go.Stx
open Go Go.Proofs
attribute [local irreducible] AWP LWalk ACall ARounds lops nops
set_option linter.unusedVariables false
set_option linter.unusedSimpArgs false
set_option linter.unusedSectionVars false
set_option maxRecDepth 20000
variable [Gl]

set_option maxHeartbeats 4000000 in
theorem instruction_call (op : Int) (n : Nat) (hn : (n : Int) < 18446744073709551616) : ∃ x : InsV, x.op = op ∧ ∀ A, ACall Tryz.prog 90 [.int .i64 op, .int .u64 n] A (fun u A' => u = .agg (insCells x).toArray ∧ A = A') := by
  obtain ⟨va, ha⟩ : ∃ va, IntKind.i64.wrap ((n : Int).tmod 4) = va := ⟨_, rfl⟩
  obtain ⟨vb, hb⟩ : ∃ vb, IntKind.i64.wrap (((n : Int) / 4).tmod 4) = vb := ⟨_, rfl⟩
  obtain ⟨vc, hc⟩ : ∃ vc, IntKind.i64.wrap (((n : Int) / 16).tmod 4) = vc := ⟨_, rfl⟩
  obtain ⟨kk, hk⟩ : ∃ kk, IntKind.i64.wrap (((n : Int) / 64).tmod 1024) = kk := ⟨_, rfl⟩
  have hk0 : 0 ≤ kk ∧ kk < 1024 := by
    rw [← hk, Int.tmod_eq_emod_of_nonneg (by omega), wrap_i64 (by omega) (by omega)]
    omega
  obtain ⟨r7, h7⟩ : ∃ r7, kk.tmod 7 = r7 := ⟨_, rfl⟩
  obtain ⟨r6, h6⟩ : ∃ r6, kk.tmod 6 = r6 := ⟨_, rfl⟩
  obtain ⟨r5, h5⟩ : ∃ r5, kk.tmod 5 = r5 := ⟨_, rfl⟩
  obtain ⟨r3, h3⟩ : ∃ r3, kk.tmod 3 = r3 := ⟨_, rfl⟩
  obtain ⟨r2, h2⟩ : ∃ r2, r3.tmod 2 = r2 := ⟨_, rfl⟩
  have h60 : 0 ≤ r6 ∧ r6 < 6 := by rw [← h6, Int.tmod_eq_emod_of_nonneg hk0.1]; omega
  have h30 : 0 ≤ r3 ∧ r3 < 3 := by rw [← h3, Int.tmod_eq_emod_of_nonneg hk0.1]; omega
  obtain ⟨r1, h1⟩ : ∃ r1, IntKind.i64.wrap (1 + r3) = r1 := ⟨_, rfl⟩
  have fin : ∀ (A : AW) (v : Value) (o o' : AObj), v = v → A.le ((A.alloc o).set A.next (some o')) := fun A v o o' _ => by
    refine ⟨by simp, fun i hi => ?_⟩
    have e1 : ¬ i = A.next := by omega
    have e2 : ¬ A.next = i := by omega
    simp [AW.get_set, AW.get_alloc, e1, e2]
  by_cases o1 : op = 1
  · subst o1
    refine ⟨⟨1, va, 0, 0, r7⟩, rfl, fun A => ACall.gc0 (VBelow.agg (by simp [insCells])) (fun hw => ?_) (by kernel_rfl)⟩
    refine acall_intro Tryz.func90 rfl (by kernel_rfl) fun _ => ?_
    repeat' (first
    | (refine lwc fun R hR => ?_; simp [wrap_i64, wrap_u64, ha, hb, hc, hk, h7, h5, h3, h2, h1, AW.row_get, astore]; try simp (disch := omega) only [if_pos, if_neg, wrap_i64, wrap_u64])
    | (refine hR _ _ ?_; clear hR R) | (refine hK _ _ ?_; clear hK K) | refine lwn ?_ | refine lr ?_ | refine la ?_
    | refine wn fun K hK => ?_
    | simp only [wS]
    | refine wb ?_ | refine wr ?_ | refine wk ?_ | refine we ?_ | refine ws ?_ | refine wq ?_
    | (refine wc rfl (fun hc => ?_) (fun hc => ?_) <;> (try simp at hc) <;> (try omega))
    | (refine ib (fun hc => ?_) (fun hc => ?_) <;> (try omega) <;> (try simp (disch := omega) only [if_pos, if_neg])))
    all_goals (refine ⟨_, by simp [aload, AW.row_get]; rfl, by simp [insCells], ?_⟩; repeat' (first | exact AW.le.refl _ | refine AW.le.set ?_ (by simp <;> omega) _ | refine AW.le.trans ?_ (AW.le.alloc _ _)))
  by_cases o2 : op = 2
  · subst o2
    refine ⟨⟨2, va, vb, 0, 0⟩, rfl, fun A => ACall.gc0 (VBelow.agg (by simp [insCells])) (fun hw => ?_) (by kernel_rfl)⟩
    refine acall_intro Tryz.func90 rfl (by kernel_rfl) fun _ => ?_
    repeat' (first
    | (refine lwc fun R hR => ?_; simp [wrap_i64, wrap_u64, ha, hb, hc, hk, h7, h5, h3, h2, h1, AW.row_get, astore, o1]; try simp (disch := omega) only [if_pos, if_neg, wrap_i64, wrap_u64])
    | (refine hR _ _ ?_; clear hR R) | (refine hK _ _ ?_; clear hK K) | refine lwn ?_ | refine lr ?_ | refine la ?_
    | refine wn fun K hK => ?_
    | simp only [wS]
    | refine wb ?_ | refine wr ?_ | refine wk ?_ | refine we ?_ | refine ws ?_ | refine wq ?_
    | (refine wc rfl (fun hc => ?_) (fun hc => ?_) <;> (try simp at hc) <;> (try omega))
    | (refine ib (fun hc => ?_) (fun hc => ?_) <;> (try omega) <;> (try simp (disch := omega) only [if_pos, if_neg])))
    all_goals (refine ⟨_, by simp [aload, AW.row_get]; rfl, by simp [insCells], ?_⟩; repeat' (first | exact AW.le.refl _ | refine AW.le.set ?_ (by simp <;> omega) _ | refine AW.le.trans ?_ (AW.le.alloc _ _)))
  by_cases o3 : op = 3
  · subst o3
    have hr : r6 = 0 ∨ r6 = 1 ∨ r6 = 2 ∨ r6 = 3 ∨ r6 = 4 ∨ r6 = 5 := by omega
    rcases hr with rfl | rfl | rfl | rfl | rfl | rfl
    · skip
      refine ⟨⟨3, va, vb, vc, 0⟩, rfl, fun A => ACall.gc0 (VBelow.agg (by simp [insCells])) (fun hw => ?_) (by kernel_rfl)⟩
      refine acall_intro Tryz.func90 rfl (by kernel_rfl) fun _ => ?_
      repeat' (first
      | (refine lwc fun R hR => ?_; simp [wrap_i64, wrap_u64, ha, hb, hc, hk, h7, h5, h3, h2, h1, AW.row_get, astore, h6, o1, o2]; try simp (disch := omega) only [if_pos, if_neg, wrap_i64, wrap_u64])
      | (refine hR _ _ ?_; clear hR R) | (refine hK _ _ ?_; clear hK K) | refine lwn ?_ | refine lr ?_ | refine la ?_
      | refine wn fun K hK => ?_
      | simp only [wS]
      | refine wb ?_ | refine wr ?_ | refine wk ?_ | refine we ?_ | refine ws ?_ | refine wq ?_
      | (refine wc rfl (fun hc => ?_) (fun hc => ?_) <;> (try simp at hc) <;> (try omega))
      | (refine ib (fun hc => ?_) (fun hc => ?_) <;> (try omega) <;> (try simp (disch := omega) only [if_pos, if_neg])))
      all_goals (refine ⟨_, by simp [aload, AW.row_get]; rfl, by simp [insCells], ?_⟩; repeat' (first | exact AW.le.refl _ | refine AW.le.set ?_ (by simp <;> omega) _ | refine AW.le.trans ?_ (AW.le.alloc _ _)))
    · skip
      refine ⟨⟨3, va, vb, vc, 1⟩, rfl, fun A => ACall.gc0 (VBelow.agg (by simp [insCells])) (fun hw => ?_) (by kernel_rfl)⟩
      refine acall_intro Tryz.func90 rfl (by kernel_rfl) fun _ => ?_
      repeat' (first
      | (refine lwc fun R hR => ?_; simp [wrap_i64, wrap_u64, ha, hb, hc, hk, h7, h5, h3, h2, h1, AW.row_get, astore, h6, o1, o2]; try simp (disch := omega) only [if_pos, if_neg, wrap_i64, wrap_u64])
      | (refine hR _ _ ?_; clear hR R) | (refine hK _ _ ?_; clear hK K) | refine lwn ?_ | refine lr ?_ | refine la ?_
      | refine wn fun K hK => ?_
      | simp only [wS]
      | refine wb ?_ | refine wr ?_ | refine wk ?_ | refine we ?_ | refine ws ?_ | refine wq ?_
      | (refine wc rfl (fun hc => ?_) (fun hc => ?_) <;> (try simp at hc) <;> (try omega))
      | (refine ib (fun hc => ?_) (fun hc => ?_) <;> (try omega) <;> (try simp (disch := omega) only [if_pos, if_neg])))
      all_goals (refine ⟨_, by simp [aload, AW.row_get]; rfl, by simp [insCells], ?_⟩; repeat' (first | exact AW.le.refl _ | refine AW.le.set ?_ (by simp <;> omega) _ | refine AW.le.trans ?_ (AW.le.alloc _ _)))
    · skip
      refine ⟨⟨3, va, vb, vc, 5⟩, rfl, fun A => ACall.gc0 (VBelow.agg (by simp [insCells])) (fun hw => ?_) (by kernel_rfl)⟩
      refine acall_intro Tryz.func90 rfl (by kernel_rfl) fun _ => ?_
      repeat' (first
      | (refine lwc fun R hR => ?_; simp [wrap_i64, wrap_u64, ha, hb, hc, hk, h7, h5, h3, h2, h1, AW.row_get, astore, h6, o1, o2]; try simp (disch := omega) only [if_pos, if_neg, wrap_i64, wrap_u64])
      | (refine hR _ _ ?_; clear hR R) | (refine hK _ _ ?_; clear hK K) | refine lwn ?_ | refine lr ?_ | refine la ?_
      | refine wn fun K hK => ?_
      | simp only [wS]
      | refine wb ?_ | refine wr ?_ | refine wk ?_ | refine we ?_ | refine ws ?_ | refine wq ?_
      | (refine wc rfl (fun hc => ?_) (fun hc => ?_) <;> (try simp at hc) <;> (try omega))
      | (refine ib (fun hc => ?_) (fun hc => ?_) <;> (try omega) <;> (try simp (disch := omega) only [if_pos, if_neg])))
      all_goals (refine ⟨_, by simp [aload, AW.row_get]; rfl, by simp [insCells], ?_⟩; repeat' (first | exact AW.le.refl _ | refine AW.le.set ?_ (by simp <;> omega) _ | refine AW.le.trans ?_ (AW.le.alloc _ _)))
    · skip
      refine ⟨⟨3, va, vb, vc, 8⟩, rfl, fun A => ACall.gc0 (VBelow.agg (by simp [insCells])) (fun hw => ?_) (by kernel_rfl)⟩
      refine acall_intro Tryz.func90 rfl (by kernel_rfl) fun _ => ?_
      repeat' (first
      | (refine lwc fun R hR => ?_; simp [wrap_i64, wrap_u64, ha, hb, hc, hk, h7, h5, h3, h2, h1, AW.row_get, astore, h6, o1, o2]; try simp (disch := omega) only [if_pos, if_neg, wrap_i64, wrap_u64])
      | (refine hR _ _ ?_; clear hR R) | (refine hK _ _ ?_; clear hK K) | refine lwn ?_ | refine lr ?_ | refine la ?_
      | refine wn fun K hK => ?_
      | simp only [wS]
      | refine wb ?_ | refine wr ?_ | refine wk ?_ | refine we ?_ | refine ws ?_ | refine wq ?_
      | (refine wc rfl (fun hc => ?_) (fun hc => ?_) <;> (try simp at hc) <;> (try omega))
      | (refine ib (fun hc => ?_) (fun hc => ?_) <;> (try omega) <;> (try simp (disch := omega) only [if_pos, if_neg])))
      all_goals (refine ⟨_, by simp [aload, AW.row_get]; rfl, by simp [insCells], ?_⟩; repeat' (first | exact AW.le.refl _ | refine AW.le.set ?_ (by simp <;> omega) _ | refine AW.le.trans ?_ (AW.le.alloc _ _)))
    · skip
      refine ⟨⟨3, va, vb, vc, 11⟩, rfl, fun A => ACall.gc0 (VBelow.agg (by simp [insCells])) (fun hw => ?_) (by kernel_rfl)⟩
      refine acall_intro Tryz.func90 rfl (by kernel_rfl) fun _ => ?_
      repeat' (first
      | (refine lwc fun R hR => ?_; simp [wrap_i64, wrap_u64, ha, hb, hc, hk, h7, h5, h3, h2, h1, AW.row_get, astore, h6, o1, o2]; try simp (disch := omega) only [if_pos, if_neg, wrap_i64, wrap_u64])
      | (refine hR _ _ ?_; clear hR R) | (refine hK _ _ ?_; clear hK K) | refine lwn ?_ | refine lr ?_ | refine la ?_
      | refine wn fun K hK => ?_
      | simp only [wS]
      | refine wb ?_ | refine wr ?_ | refine wk ?_ | refine we ?_ | refine ws ?_ | refine wq ?_
      | (refine wc rfl (fun hc => ?_) (fun hc => ?_) <;> (try simp at hc) <;> (try omega))
      | (refine ib (fun hc => ?_) (fun hc => ?_) <;> (try omega) <;> (try simp (disch := omega) only [if_pos, if_neg])))
      all_goals (refine ⟨_, by simp [aload, AW.row_get]; rfl, by simp [insCells], ?_⟩; repeat' (first | exact AW.le.refl _ | refine AW.le.set ?_ (by simp <;> omega) _ | refine AW.le.trans ?_ (AW.le.alloc _ _)))
    · skip
      refine ⟨⟨3, va, vb, vc, 12⟩, rfl, fun A => ACall.gc0 (VBelow.agg (by simp [insCells])) (fun hw => ?_) (by kernel_rfl)⟩
      refine acall_intro Tryz.func90 rfl (by kernel_rfl) fun _ => ?_
      repeat' (first
      | (refine lwc fun R hR => ?_; simp [wrap_i64, wrap_u64, ha, hb, hc, hk, h7, h5, h3, h2, h1, AW.row_get, astore, h6, o1, o2]; try simp (disch := omega) only [if_pos, if_neg, wrap_i64, wrap_u64])
      | (refine hR _ _ ?_; clear hR R) | (refine hK _ _ ?_; clear hK K) | refine lwn ?_ | refine lr ?_ | refine la ?_
      | refine wn fun K hK => ?_
      | simp only [wS]
      | refine wb ?_ | refine wr ?_ | refine wk ?_ | refine we ?_ | refine ws ?_ | refine wq ?_
      | (refine wc rfl (fun hc => ?_) (fun hc => ?_) <;> (try simp at hc) <;> (try omega))
      | (refine ib (fun hc => ?_) (fun hc => ?_) <;> (try omega) <;> (try simp (disch := omega) only [if_pos, if_neg])))
      all_goals (refine ⟨_, by simp [aload, AW.row_get]; rfl, by simp [insCells], ?_⟩; repeat' (first | exact AW.le.refl _ | refine AW.le.set ?_ (by simp <;> omega) _ | refine AW.le.trans ?_ (AW.le.alloc _ _)))
  by_cases o10 : op = 10
  · subst o10
    refine ⟨⟨10, va, vb, 0, r5⟩, rfl, fun A => ACall.gc0 (VBelow.agg (by simp [insCells])) (fun hw => ?_) (by kernel_rfl)⟩
    refine acall_intro Tryz.func90 rfl (by kernel_rfl) fun _ => ?_
    repeat' (first
    | (refine lwc fun R hR => ?_; simp [wrap_i64, wrap_u64, ha, hb, hc, hk, h7, h5, h3, h2, h1, AW.row_get, astore, o1, o2, o3]; try simp (disch := omega) only [if_pos, if_neg, wrap_i64, wrap_u64])
    | (refine hR _ _ ?_; clear hR R) | (refine hK _ _ ?_; clear hK K) | refine lwn ?_ | refine lr ?_ | refine la ?_
    | refine wn fun K hK => ?_
    | simp only [wS]
    | refine wb ?_ | refine wr ?_ | refine wk ?_ | refine we ?_ | refine ws ?_ | refine wq ?_
    | (refine wc rfl (fun hc => ?_) (fun hc => ?_) <;> (try simp at hc) <;> (try omega))
    | (refine ib (fun hc => ?_) (fun hc => ?_) <;> (try omega) <;> (try simp (disch := omega) only [if_pos, if_neg])))
    all_goals (refine ⟨_, by simp [aload, AW.row_get]; rfl, by simp [insCells], ?_⟩; repeat' (first | exact AW.le.refl _ | refine AW.le.set ?_ (by simp <;> omega) _ | refine AW.le.trans ?_ (AW.le.alloc _ _)))
  by_cases o11 : op = 11
  · subst o11
    refine ⟨⟨11, va, vb, 0, r5⟩, rfl, fun A => ACall.gc0 (VBelow.agg (by simp [insCells])) (fun hw => ?_) (by kernel_rfl)⟩
    refine acall_intro Tryz.func90 rfl (by kernel_rfl) fun _ => ?_
    repeat' (first
    | (refine lwc fun R hR => ?_; simp [wrap_i64, wrap_u64, ha, hb, hc, hk, h7, h5, h3, h2, h1, AW.row_get, astore, o1, o2, o3, o10]; try simp (disch := omega) only [if_pos, if_neg, wrap_i64, wrap_u64])
    | (refine hR _ _ ?_; clear hR R) | (refine hK _ _ ?_; clear hK K) | refine lwn ?_ | refine lr ?_ | refine la ?_
    | refine wn fun K hK => ?_
    | simp only [wS]
    | refine wb ?_ | refine wr ?_ | refine wk ?_ | refine we ?_ | refine ws ?_ | refine wq ?_
    | (refine wc rfl (fun hc => ?_) (fun hc => ?_) <;> (try simp at hc) <;> (try omega))
    | (refine ib (fun hc => ?_) (fun hc => ?_) <;> (try omega) <;> (try simp (disch := omega) only [if_pos, if_neg])))
    all_goals (refine ⟨_, by simp [aload, AW.row_get]; rfl, by simp [insCells], ?_⟩; repeat' (first | exact AW.le.refl _ | refine AW.le.set ?_ (by simp <;> omega) _ | refine AW.le.trans ?_ (AW.le.alloc _ _)))
  by_cases o12 : op = 12
  · subst o12
    refine ⟨⟨12, va, vb, 0, r5⟩, rfl, fun A => ACall.gc0 (VBelow.agg (by simp [insCells])) (fun hw => ?_) (by kernel_rfl)⟩
    refine acall_intro Tryz.func90 rfl (by kernel_rfl) fun _ => ?_
    repeat' (first
    | (refine lwc fun R hR => ?_; simp [wrap_i64, wrap_u64, ha, hb, hc, hk, h7, h5, h3, h2, h1, AW.row_get, astore, o1, o2, o3, o10, o11]; try simp (disch := omega) only [if_pos, if_neg, wrap_i64, wrap_u64])
    | (refine hR _ _ ?_; clear hR R) | (refine hK _ _ ?_; clear hK K) | refine lwn ?_ | refine lr ?_ | refine la ?_
    | refine wn fun K hK => ?_
    | simp only [wS]
    | refine wb ?_ | refine wr ?_ | refine wk ?_ | refine we ?_ | refine ws ?_ | refine wq ?_
    | (refine wc rfl (fun hc => ?_) (fun hc => ?_) <;> (try simp at hc) <;> (try omega))
    | (refine ib (fun hc => ?_) (fun hc => ?_) <;> (try omega) <;> (try simp (disch := omega) only [if_pos, if_neg])))
    all_goals (refine ⟨_, by simp [aload, AW.row_get]; rfl, by simp [insCells], ?_⟩; repeat' (first | exact AW.le.refl _ | refine AW.le.set ?_ (by simp <;> omega) _ | refine AW.le.trans ?_ (AW.le.alloc _ _)))
  by_cases o13 : op = 13
  · subst o13
    refine ⟨⟨13, va, vb, 0, r5⟩, rfl, fun A => ACall.gc0 (VBelow.agg (by simp [insCells])) (fun hw => ?_) (by kernel_rfl)⟩
    refine acall_intro Tryz.func90 rfl (by kernel_rfl) fun _ => ?_
    repeat' (first
    | (refine lwc fun R hR => ?_; simp [wrap_i64, wrap_u64, ha, hb, hc, hk, h7, h5, h3, h2, h1, AW.row_get, astore, o1, o2, o3, o10, o11, o12]; try simp (disch := omega) only [if_pos, if_neg, wrap_i64, wrap_u64])
    | (refine hR _ _ ?_; clear hR R) | (refine hK _ _ ?_; clear hK K) | refine lwn ?_ | refine lr ?_ | refine la ?_
    | refine wn fun K hK => ?_
    | simp only [wS]
    | refine wb ?_ | refine wr ?_ | refine wk ?_ | refine we ?_ | refine ws ?_ | refine wq ?_
    | (refine wc rfl (fun hc => ?_) (fun hc => ?_) <;> (try simp at hc) <;> (try omega))
    | (refine ib (fun hc => ?_) (fun hc => ?_) <;> (try omega) <;> (try simp (disch := omega) only [if_pos, if_neg])))
    all_goals (refine ⟨_, by simp [aload, AW.row_get]; rfl, by simp [insCells], ?_⟩; repeat' (first | exact AW.le.refl _ | refine AW.le.set ?_ (by simp <;> omega) _ | refine AW.le.trans ?_ (AW.le.alloc _ _)))
  by_cases o14 : op = 14
  · subst o14
    refine ⟨⟨14, va, 0, 0, r2⟩, rfl, fun A => ACall.gc0 (VBelow.agg (by simp [insCells])) (fun hw => ?_) (by kernel_rfl)⟩
    refine acall_intro Tryz.func90 rfl (by kernel_rfl) fun _ => ?_
    repeat' (first
    | (refine lwc fun R hR => ?_; simp [wrap_i64, wrap_u64, ha, hb, hc, hk, h7, h5, h3, h2, h1, AW.row_get, astore, o1, o2, o3, o10, o11, o12, o13]; try simp (disch := omega) only [if_pos, if_neg, wrap_i64, wrap_u64])
    | (refine hR _ _ ?_; clear hR R) | (refine hK _ _ ?_; clear hK K) | refine lwn ?_ | refine lr ?_ | refine la ?_
    | refine wn fun K hK => ?_
    | simp only [wS]
    | refine wb ?_ | refine wr ?_ | refine wk ?_ | refine we ?_ | refine ws ?_ | refine wq ?_
    | (refine wc rfl (fun hc => ?_) (fun hc => ?_) <;> (try simp at hc) <;> (try omega))
    | (refine ib (fun hc => ?_) (fun hc => ?_) <;> (try omega) <;> (try simp (disch := omega) only [if_pos, if_neg])))
    all_goals (refine ⟨_, by simp [aload, AW.row_get]; rfl, by simp [insCells], ?_⟩; repeat' (first | exact AW.le.refl _ | refine AW.le.set ?_ (by simp <;> omega) _ | refine AW.le.trans ?_ (AW.le.alloc _ _)))
  by_cases o15 : op = 15
  · subst o15
    refine ⟨⟨15, va, 0, 0, 0⟩, rfl, fun A => ACall.gc0 (VBelow.agg (by simp [insCells])) (fun hw => ?_) (by kernel_rfl)⟩
    refine acall_intro Tryz.func90 rfl (by kernel_rfl) fun _ => ?_
    repeat' (first
    | (refine lwc fun R hR => ?_; simp [wrap_i64, wrap_u64, ha, hb, hc, hk, h7, h5, h3, h2, h1, AW.row_get, astore, o1, o2, o3, o10, o11, o12, o13, o14]; try simp (disch := omega) only [if_pos, if_neg, wrap_i64, wrap_u64])
    | (refine hR _ _ ?_; clear hR R) | (refine hK _ _ ?_; clear hK K) | refine lwn ?_ | refine lr ?_ | refine la ?_
    | refine wn fun K hK => ?_
    | simp only [wS]
    | refine wb ?_ | refine wr ?_ | refine wk ?_ | refine we ?_ | refine ws ?_ | refine wq ?_
    | (refine wc rfl (fun hc => ?_) (fun hc => ?_) <;> (try simp at hc) <;> (try omega))
    | (refine ib (fun hc => ?_) (fun hc => ?_) <;> (try omega) <;> (try simp (disch := omega) only [if_pos, if_neg])))
    all_goals (refine ⟨_, by simp [aload, AW.row_get]; rfl, by simp [insCells], ?_⟩; repeat' (first | exact AW.le.refl _ | refine AW.le.set ?_ (by simp <;> omega) _ | refine AW.le.trans ?_ (AW.le.alloc _ _)))
  by_cases o17 : op = 17
  · subst o17
    refine ⟨⟨17, va, 0, 0, 0⟩, rfl, fun A => ACall.gc0 (VBelow.agg (by simp [insCells])) (fun hw => ?_) (by kernel_rfl)⟩
    refine acall_intro Tryz.func90 rfl (by kernel_rfl) fun _ => ?_
    repeat' (first
    | (refine lwc fun R hR => ?_; simp [wrap_i64, wrap_u64, ha, hb, hc, hk, h7, h5, h3, h2, h1, AW.row_get, astore, o1, o2, o3, o10, o11, o12, o13, o14, o15]; try simp (disch := omega) only [if_pos, if_neg, wrap_i64, wrap_u64])
    | (refine hR _ _ ?_; clear hR R) | (refine hK _ _ ?_; clear hK K) | refine lwn ?_ | refine lr ?_ | refine la ?_
    | refine wn fun K hK => ?_
    | simp only [wS]
    | refine wb ?_ | refine wr ?_ | refine wk ?_ | refine we ?_ | refine ws ?_ | refine wq ?_
    | (refine wc rfl (fun hc => ?_) (fun hc => ?_) <;> (try simp at hc) <;> (try omega))
    | (refine ib (fun hc => ?_) (fun hc => ?_) <;> (try omega) <;> (try simp (disch := omega) only [if_pos, if_neg])))
    all_goals (refine ⟨_, by simp [aload, AW.row_get]; rfl, by simp [insCells], ?_⟩; repeat' (first | exact AW.le.refl _ | refine AW.le.set ?_ (by simp <;> omega) _ | refine AW.le.trans ?_ (AW.le.alloc _ _)))
  by_cases o7 : op = 7
  · subst o7
    refine ⟨⟨7, 0, 0, 0, r1⟩, rfl, fun A => ACall.gc0 (VBelow.agg (by simp [insCells])) (fun hw => ?_) (by kernel_rfl)⟩
    refine acall_intro Tryz.func90 rfl (by kernel_rfl) fun _ => ?_
    repeat' (first
    | (refine lwc fun R hR => ?_; simp [wrap_i64, wrap_u64, ha, hb, hc, hk, h7, h5, h3, h2, h1, AW.row_get, astore, o1, o2, o3, o10, o11, o12, o13, o14, o15, o17]; try simp (disch := omega) only [if_pos, if_neg, wrap_i64, wrap_u64])
    | (refine hR _ _ ?_; clear hR R) | (refine hK _ _ ?_; clear hK K) | refine lwn ?_ | refine lr ?_ | refine la ?_
    | refine wn fun K hK => ?_
    | simp only [wS]
    | refine wb ?_ | refine wr ?_ | refine wk ?_ | refine we ?_ | refine ws ?_ | refine wq ?_
    | (refine wc rfl (fun hc => ?_) (fun hc => ?_) <;> (try simp at hc) <;> (try omega))
    | (refine ib (fun hc => ?_) (fun hc => ?_) <;> (try omega) <;> (try simp (disch := omega) only [if_pos, if_neg])))
    all_goals (refine ⟨_, by simp [aload, AW.row_get]; rfl, by simp [insCells], ?_⟩; repeat' (first | exact AW.le.refl _ | refine AW.le.set ?_ (by simp <;> omega) _ | refine AW.le.trans ?_ (AW.le.alloc _ _)))
  refine ⟨⟨op, 0, 0, 0, 0⟩, rfl, fun A => ACall.gc0 (VBelow.agg (by simp [insCells])) (fun hw => ?_) (by kernel_rfl)⟩
  refine acall_intro Tryz.func90 rfl (by kernel_rfl) fun _ => ?_
  repeat' (first
  | (refine lwc fun R hR => ?_; simp [wrap_i64, wrap_u64, ha, hb, hc, hk, h7, h5, h3, h2, h1, AW.row_get, astore, o1, o2, o3, o10, o11, o12, o13, o14, o15, o17, o7]; try simp (disch := omega) only [if_pos, if_neg, wrap_i64, wrap_u64])
  | (refine hR _ _ ?_; clear hR R) | (refine hK _ _ ?_; clear hK K) | refine lwn ?_ | refine lr ?_ | refine la ?_
  | refine wn fun K hK => ?_
  | simp only [wS]
  | refine wb ?_ | refine wr ?_ | refine wk ?_ | refine we ?_ | refine ws ?_ | refine wq ?_
  | (refine wc rfl (fun hc => ?_) (fun hc => ?_) <;> (try simp at hc) <;> (try omega))
  | (refine ib (fun hc => ?_) (fun hc => ?_) <;> (try omega) <;> (try simp (disch := omega) only [if_pos, if_neg])))
  all_goals (refine ⟨_, by simp [aload, AW.row_get]; rfl, by simp [insCells], ?_⟩; repeat' (first | exact AW.le.refl _ | refine AW.le.set ?_ (by simp <;> omega) _ | refine AW.le.trans ?_ (AW.le.alloc _ _)))
end Go.Stx
