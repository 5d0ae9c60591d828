/-
  Configurations, the document's side; the number of blocks, by both.
-/
import Derived.Test.YtcffnkgjmneaeaaGreatDoorFbP
namespace Go.Stx
open Go Go.Proofs
attribute [local irreducible] AWP LWalk ACall ARounds lops nops
set_option linter.unusedVariables false
set_option linter.unusedSimpArgs false
set_option linter.unusedSectionVars false
set_option maxRecDepth 20000
variable [Gl]

set_option maxHeartbeats 8000000 in
theorem refCfgCheck_call (c : CfgS) (A : AW) : ACall Tryz.prog 8 [c.v] A (fun v A' => v = .int .i64 (cfgErr c) ∧ A = A') := by
  refine ACall.gc0 (V := .int .i64 (cfgErr c)) (by simp) (fun hw => ?_) (by kernel_rfl)
  refine acall_intro Tryz.func8 rfl (by kernel_rfl) fun _ => ?_
  obtain ⟨V, hV⟩ : ∃ V, cfgErr c = V := ⟨_, rfl⟩
  rw [hV]
  unfold cfgErr cntOk CfgS.nb CfgS.hw at hV
  obtain ⟨wds, ords, bas, c0, c1, c2, c3, rds, wrs, als, fre, clk, stg⟩ := c
  dsimp only [CfgS.v, CfgS.cells] at hV ⊢
  by_cases hw1 : (1 ≤ wds ∧ wds ≤ 64) ∧ (1 ≤ ords ∧ ords ≤ 64)
  rotate_left
  · rw [if_pos hw1] at hV
    subst hV
    repeat' (first
    | (refine lwc fun R hR => ?_; simp [wrap_i64, wrap_u64, AW.row_get, astore]; try simp (disch := omega) only [if_pos, if_neg, wrap_i64, wrap_u64])
    | (refine hR _ _ ?_; clear hR R) | (refine hK _ _ ?_; clear hK K) | refine lwn ?_ | refine lr ?_ | refine la ?_
    | refine wn fun K hK => ?_
    | simp only [wS]
    | (refine callK (rwithin_call _ _ _ _) ?_; rintro _ _ ⟨rfl, rfl⟩ _ _)
    | refine wb ?_ | refine wr ?_ | refine wk ?_ | refine we ?_ | refine ws ?_ | refine wq ?_
    | (refine wc rfl (fun hc => ?_) (fun hc => ?_) <;> (try simp at hc) <;> (try omega))
    | (refine ib (fun hc => ?_) (fun hc => ?_) <;> (try omega) <;> (try simp (disch := omega) only [if_pos, if_neg])))
    all_goals first | exact ⟨_, by first | (simp; done) | (simp; rfl), rfl, AW.le.alloc _ _⟩ | (exfalso; omega)
  rw [if_neg (by omega)] at hV
  obtain ⟨⟨w1, w2⟩, w3, w4⟩ := hw1
  repeat' (first
  | (refine lwc fun R hR => ?_; simp [wrap_i64, wrap_u64, AW.row_get, astore, w1, w2, w3, w4]; try simp (disch := omega) only [if_pos, if_neg, wrap_i64, wrap_u64])
  | (refine hR _ _ ?_; clear hR R) | (refine hK _ _ ?_; clear hK K) | refine lwn ?_ | refine lr ?_ | refine la ?_
  | refine wn fun K hK => ?_
  | simp only [wS]
  | (refine callK (rwithin_call _ _ _ _) ?_; rintro _ _ ⟨rfl, rfl⟩ _ _)
  | refine wb ?_ | refine wr ?_ | refine wk ?_ | refine we ?_ | refine ws ?_ | refine wq ?_
  | (refine wc rfl (fun hc => ?_) (fun hc => ?_) <;> (try simp at hc) <;> (try omega))
  | (refine ib (fun hc => ?_) (fun hc => ?_) <;> (try omega) <;> (try simp (disch := omega) only [if_pos, if_neg])))
  refine awp_rounds 5 ?_
  by_cases h0 : 0 ≤ c0 ∧ c0 ≤ 64
  rotate_left
  · rw [if_pos (by omega)] at hV
    subst hV
    repeat' (first
    | (refine lwc fun R hR => ?_; simp [wrap_i64, wrap_u64, AW.row_get, astore, h0]; try simp (disch := omega) only [if_pos, if_neg, wrap_i64, wrap_u64])
    | (refine hR _ _ ?_; clear hR R) | (refine hK _ _ ?_; clear hK K) | refine lwn ?_ | refine lr ?_ | refine la ?_
    | refine wn fun K hK => ?_
    | simp only [wS]
    | (refine callK (rwithin_call _ _ _ _) ?_; rintro _ _ ⟨rfl, rfl⟩ _ _)
    | refine wb ?_ | refine wr ?_ | refine wk ?_ | refine we ?_ | refine ws ?_ | refine wq ?_
    | (refine wc rfl (fun hc => ?_) (fun hc => ?_) <;> (try simp at hc) <;> (try omega))
    | (refine ib (fun hc => ?_) (fun hc => ?_) <;> (try omega) <;> (try simp (disch := omega) only [if_pos, if_neg])))
    all_goals first | exact ⟨_, by first | (simp; done) | (simp; rfl), rfl, AW.le.alloc _ _⟩ | (exfalso; omega)
  obtain ⟨k0, k0'⟩ := h0
  by_cases h1 : 0 ≤ c1 ∧ c1 ≤ 64
  rotate_left
  · rw [if_pos (by omega)] at hV
    subst hV
    repeat' (first
    | (refine lwc fun R hR => ?_; simp [wrap_i64, wrap_u64, AW.row_get, astore, k0, k0', h1]; try simp (disch := omega) only [if_pos, if_neg, wrap_i64, wrap_u64])
    | (refine hR _ _ ?_; clear hR R) | (refine hK _ _ ?_; clear hK K) | refine lwn ?_ | refine lr ?_ | refine la ?_
    | refine wn fun K hK => ?_
    | simp only [wS]
    | (refine callK (rwithin_call _ _ _ _) ?_; rintro _ _ ⟨rfl, rfl⟩ _ _)
    | refine wb ?_ | refine wr ?_ | refine wk ?_ | refine we ?_ | refine ws ?_ | refine wq ?_
    | (refine wc rfl (fun hc => ?_) (fun hc => ?_) <;> (try simp at hc) <;> (try omega))
    | (refine ib (fun hc => ?_) (fun hc => ?_) <;> (try omega) <;> (try simp (disch := omega) only [if_pos, if_neg])))
    all_goals first | exact ⟨_, by first | (simp; done) | (simp; rfl), rfl, AW.le.alloc _ _⟩ | (exfalso; omega)
  obtain ⟨k1, k1'⟩ := h1
  by_cases h2 : 0 ≤ c2 ∧ c2 ≤ 64
  rotate_left
  · rw [if_pos (by omega)] at hV
    subst hV
    repeat' (first
    | (refine lwc fun R hR => ?_; simp [wrap_i64, wrap_u64, AW.row_get, astore, k0, k0', k1, k1', h2]; try simp (disch := omega) only [if_pos, if_neg, wrap_i64, wrap_u64])
    | (refine hR _ _ ?_; clear hR R) | (refine hK _ _ ?_; clear hK K) | refine lwn ?_ | refine lr ?_ | refine la ?_
    | refine wn fun K hK => ?_
    | simp only [wS]
    | (refine callK (rwithin_call _ _ _ _) ?_; rintro _ _ ⟨rfl, rfl⟩ _ _)
    | refine wb ?_ | refine wr ?_ | refine wk ?_ | refine we ?_ | refine ws ?_ | refine wq ?_
    | (refine wc rfl (fun hc => ?_) (fun hc => ?_) <;> (try simp at hc) <;> (try omega))
    | (refine ib (fun hc => ?_) (fun hc => ?_) <;> (try omega) <;> (try simp (disch := omega) only [if_pos, if_neg])))
    all_goals first | exact ⟨_, by first | (simp; done) | (simp; rfl), rfl, AW.le.alloc _ _⟩ | (exfalso; omega)
  obtain ⟨k2, k2'⟩ := h2
  by_cases h3 : 0 ≤ c3 ∧ c3 ≤ 64
  rotate_left
  · rw [if_pos (by omega)] at hV
    subst hV
    repeat' (first
    | (refine lwc fun R hR => ?_; simp [wrap_i64, wrap_u64, AW.row_get, astore, k0, k0', k1, k1', k2, k2', h3]; try simp (disch := omega) only [if_pos, if_neg, wrap_i64, wrap_u64])
    | (refine hR _ _ ?_; clear hR R) | (refine hK _ _ ?_; clear hK K) | refine lwn ?_ | refine lr ?_ | refine la ?_
    | refine wn fun K hK => ?_
    | simp only [wS]
    | (refine callK (rwithin_call _ _ _ _) ?_; rintro _ _ ⟨rfl, rfl⟩ _ _)
    | refine wb ?_ | refine wr ?_ | refine wk ?_ | refine we ?_ | refine ws ?_ | refine wq ?_
    | (refine wc rfl (fun hc => ?_) (fun hc => ?_) <;> (try simp at hc) <;> (try omega))
    | (refine ib (fun hc => ?_) (fun hc => ?_) <;> (try omega) <;> (try simp (disch := omega) only [if_pos, if_neg])))
    all_goals first | exact ⟨_, by first | (simp; done) | (simp; rfl), rfl, AW.le.alloc _ _⟩ | (exfalso; omega)
  obtain ⟨k3, k3'⟩ := h3
  repeat' (first
  | (refine lwc fun R hR => ?_; simp [wrap_i64, wrap_u64, AW.row_get, astore, w1, w2, w3, w4, k0, k0', k1, k1', k2, k2', k3, k3', pw1, pw2, pw3, pw0]; try simp (disch := omega) only [if_pos, if_neg, wrap_i64, wrap_u64])
  | (refine hR _ _ ?_; clear hR R) | (refine hK _ _ ?_; clear hK K) | refine lwn ?_ | refine lr ?_ | refine la ?_
  | refine wn fun K hK => ?_
  | simp only [wS]
  | (refine callK (rwithin_call _ _ _ _) ?_; rintro _ _ ⟨rfl, rfl⟩ _ _)
  | refine wb ?_ | refine wr ?_ | refine wk ?_ | refine we ?_ | refine ws ?_ | refine wq ?_
  | (refine wc rfl (fun hc => ?_) (fun hc => ?_) <;> (try simp at hc) <;> (try omega))
  | (refine ib (fun hc => ?_) (fun hc => ?_) <;> (try omega) <;> (try simp (disch := omega) only [if_pos, if_neg])))
  all_goals (
    refine ⟨_, by first | (simp; done) | (simp; rfl), ?_, AW.le.alloc _ _⟩
    rw [← hV]
    congr 1
    repeat (first | rw [if_pos (by omega)] | rw [if_neg (by omega)])
    first | done | skip)

def blocksF (c : CfgS) : Int := if cfgErr c = 0 then c.nb else 0
theorem cfgErr_cnt {c : CfgS} (h : cfgErr c = 0) : cntOk c ∧ c.nb ≤ 64 := by
  unfold cfgErr at h
  split at h
  · cases h
  · split at h
    · cases h
    · rename_i h1
      rw [Decidable.not_not] at h1
      exact ⟨h1.1, h1.2.1⟩

set_option maxHeartbeats 1000000 in
theorem blocks_call (c : CfgS) (A : AW) : ACall Tryz.prog 94 [c.v] A (fun v A' => v = .int .i64 (blocksF c) ∧ A = A') := by
  refine ACall.gc0 (V := .int .i64 (blocksF c)) (by simp) (fun hw => ?_) (by kernel_rfl)
  refine acall_intro Tryz.func94 rfl (by kernel_rfl) fun _ => ?_
  have hh := heap_call c
  have hh2 := cfgCheck_call c
  have hz : cfgErr c = 0 → heapV c = .tuple #[.int .i64 c.nb, .int .i64 c.hw, .bool (decide (c.nb ≤ 64))] := fun h => if_pos (cfgErr_cnt h).1
  unfold blocksF
  dsimp only [CfgS.v, CfgS.cells] at hh hh2 ⊢
  by_cases h0 : cfgErr c = 0
  · rw [h0] at hh2
    rw [hz h0] at hh
    rw [if_pos h0]
    repeat' (first
    | (refine lwc fun R hR => ?_; simp [wrap_i64, wrap_u64, AW.row_get, astore]; try simp (disch := omega) only [if_pos, if_neg, wrap_i64, wrap_u64])
    | (refine hR _ _ ?_; clear hR R) | (refine hK _ _ ?_; clear hK K) | refine lwn ?_ | refine lr ?_ | refine la ?_
    | refine wn fun K hK => ?_
    | simp only [wS]
    | (refine callK (hh _) ?_; rintro _ _ ⟨rfl, rfl⟩ _ _)
    | (refine callK (hh2 _) ?_; rintro _ _ ⟨rfl, rfl⟩ _ _)
    | refine wb ?_ | refine wr ?_ | refine wk ?_ | refine we ?_ | refine ws ?_ | refine wq ?_
    | (refine wc rfl (fun hc => ?_) (fun hc => ?_) <;> (try simp at hc) <;> (try omega))
    | (refine ib (fun hc => ?_) (fun hc => ?_) <;> (try omega) <;> (try simp (disch := omega) only [if_pos, if_neg])))
    all_goals exact ⟨_, by first | (simp; done) | (simp; rfl), rfl, AW.le.alloc _ _⟩
  · rw [if_neg h0]
    repeat' (first
    | (refine lwc fun R hR => ?_; simp [wrap_i64, wrap_u64, AW.row_get, astore, h0]; try simp (disch := omega) only [if_pos, if_neg, wrap_i64, wrap_u64])
    | (refine hR _ _ ?_; clear hR R) | (refine hK _ _ ?_; clear hK K) | refine lwn ?_ | refine lr ?_ | refine la ?_
    | refine wn fun K hK => ?_
    | simp only [wS]
    | (refine callK (hh _) ?_; rintro _ _ ⟨rfl, rfl⟩ _ _)
    | (refine callK (hh2 _) ?_; rintro _ _ ⟨rfl, rfl⟩ _ _)
    | refine wb ?_ | refine wr ?_ | refine wk ?_ | refine we ?_ | refine ws ?_ | refine wq ?_
    | (refine wc rfl (fun hc => ?_) (fun hc => ?_) <;> (try simp at hc) <;> (try omega))
    | (refine ib (fun hc => ?_) (fun hc => ?_) <;> (try omega) <;> (try simp (disch := omega) only [if_pos, if_neg])))
    all_goals exact ⟨_, by first | (simp; done) | (simp; rfl), rfl, AW.le.alloc _ _⟩
set_option maxHeartbeats 1000000 in
theorem refBlocks_call (c : CfgS) (A : AW) : ACall Tryz.prog 55 [c.v] A (fun v A' => v = .int .i64 (blocksF c) ∧ A = A') := by
  refine ACall.gc0 (V := .int .i64 (blocksF c)) (by simp) (fun hw => ?_) (by kernel_rfl)
  refine acall_intro Tryz.func55 rfl (by kernel_rfl) fun _ => ?_
  have hh2 := refCfgCheck_call c
  unfold blocksF
  by_cases h0 : cfgErr c = 0
  · rw [h0] at hh2
    rw [if_pos h0]
    have hc := (cfgErr_cnt h0).1
    unfold cntOk at hc
    unfold CfgS.nb
    obtain ⟨wds, ords, bas, c0, c1, c2, c3, rds, wrs, als, fre, clk, stg⟩ := c
    dsimp only [CfgS.v, CfgS.cells] at hh2 hc ⊢
    obtain ⟨⟨k0, k0'⟩, ⟨k1, k1'⟩, ⟨k2, k2'⟩, k3, k3'⟩ := hc
    repeat' (first
    | (refine lwc fun R hR => ?_; simp [wrap_i64, wrap_u64, AW.row_get, astore]; try simp (disch := omega) only [if_pos, if_neg, wrap_i64, wrap_u64])
    | (refine hR _ _ ?_; clear hR R) | (refine hK _ _ ?_; clear hK K) | refine lwn ?_ | refine lr ?_ | refine la ?_
    | refine wn fun K hK => ?_
    | simp only [wS]
    | (refine callK (hh2 _) ?_; rintro _ _ ⟨rfl, rfl⟩ _ _)
    | refine wb ?_ | refine wr ?_ | refine wk ?_ | refine we ?_ | refine ws ?_ | refine wq ?_
    | (refine wc rfl (fun hc => ?_) (fun hc => ?_) <;> (try simp at hc) <;> (try omega))
    | (refine ib (fun hc => ?_) (fun hc => ?_) <;> (try omega) <;> (try simp (disch := omega) only [if_pos, if_neg])))
    all_goals exact ⟨_, by first | (simp; done) | (simp; rfl), by first | rfl | (simp (disch := omega) only [wrap_i64]), AW.le.alloc _ _⟩
  · rw [if_neg h0]
    dsimp only [CfgS.v, CfgS.cells] at hh2 ⊢
    repeat' (first
    | (refine lwc fun R hR => ?_; simp [wrap_i64, wrap_u64, AW.row_get, astore, h0]; try simp (disch := omega) only [if_pos, if_neg, wrap_i64, wrap_u64])
    | (refine hR _ _ ?_; clear hR R) | (refine hK _ _ ?_; clear hK K) | refine lwn ?_ | refine lr ?_ | refine la ?_
    | refine wn fun K hK => ?_
    | simp only [wS]
    | (refine callK (hh2 _) ?_; rintro _ _ ⟨rfl, rfl⟩ _ _)
    | refine wb ?_ | refine wr ?_ | refine wk ?_ | refine we ?_ | refine ws ?_ | refine wq ?_
    | (refine wc rfl (fun hc => ?_) (fun hc => ?_) <;> (try simp at hc) <;> (try omega))
    | (refine ib (fun hc => ?_) (fun hc => ?_) <;> (try omega) <;> (try simp (disch := omega) only [if_pos, if_neg])))
    all_goals exact ⟨_, by first | (simp; done) | (simp; rfl), rfl, AW.le.alloc _ _⟩
end Go.Stx
