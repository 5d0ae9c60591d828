/-
  Configurations: the checks of both sides, at any configuration.
-/
import Derived.Test.YtcffnkgjmneaeaaGreatDoorFbA
namespace Go.Stx
open Go Go.Proofs
attribute [local irreducible] AWP LWalk ACall ARounds lops nops
set_option linter.unusedVariables false
set_option linter.unusedSimpArgs false
set_option linter.unusedSectionVars false
set_option maxRecDepth 20000

structure CfgS where
  words : Int
  orecs : Int
  base : Int
  c0 : Int
  c1 : Int
  c2 : Int
  c3 : Int
  reads : Int
  writes : Int
  allocs : Int
  frees : Int
  clock : Int
  strong : Bool

def CfgS.cells (c : CfgS) : List Value := [.int .i64 c.words, .int .i64 c.orecs, .int .i64 c.base, .int .i64 c.c0, .int .i64 c.c1, .int .i64 c.c2, .int .i64 c.c3, .int .i64 c.reads, .int .i64 c.writes, .int .i64 c.allocs, .int .i64 c.frees, .int .i64 c.clock, .bool c.strong]
def CfgS.v (c : CfgS) : Value := .agg c.cells.toArray
def CfgS.nb (c : CfgS) : Int := c.c0 + c.c1 + c.c2 + c.c3
def CfgS.hw (c : CfgS) : Int := c.c0 + c.c1 * 2 + c.c2 * 4 + c.c3 * 8

abbrev cntOk (c : CfgS) : Prop := (0 ≤ c.c0 ∧ c.c0 ≤ 64) ∧ (0 ≤ c.c1 ∧ c.c1 ≤ 64) ∧ (0 ≤ c.c2 ∧ c.c2 ≤ 64) ∧ (0 ≤ c.c3 ∧ c.c3 ≤ 64)
def cfgErr (c : CfgS) : Int :=
  if ¬ ((1 ≤ c.words ∧ c.words ≤ 64) ∧ (1 ≤ c.orecs ∧ c.orecs ≤ 64)) then 50
  else if ¬ (cntOk c ∧ c.nb ≤ 64 ∧ (0 ≤ c.base ∧ c.base ≤ c.words) ∧ c.hw ≤ c.words - c.base) then 51
  else if ¬ ((1 ≤ c.reads ∧ c.reads ≤ 32) ∧ (1 ≤ c.writes ∧ c.writes ≤ 32) ∧ (0 ≤ c.allocs ∧ c.allocs ≤ 8) ∧ (0 ≤ c.frees ∧ c.frees ≤ 8)) then 52
  else if ¬ (0 ≤ c.clock ∧ c.clock ≤ 1099511627776) then 53 else 0
def heapV (c : CfgS) : Value := if cntOk c then .tuple #[.int .i64 c.nb, .int .i64 c.hw, .bool (decide (c.nb ≤ 64))] else .tuple #[.int .i64 0, .int .i64 0, .bool false]

theorem pw1 : (2 : Int) ^ min 1 IntKind.i64.bits = 2 := by decide
theorem pw2 : (2 : Int) ^ min 2 IntKind.i64.bits = 4 := by decide
theorem pw3 : (2 : Int) ^ min 3 IntKind.i64.bits = 8 := by decide
theorem pw0 : (2 : Int) ^ min 0 IntKind.i64.bits = 1 := by decide
variable [Gl]

theorem within_call (n lo hi : Int) (A : AW) : ACall Tryz.prog 47 [.int .i64 n, .int .i64 lo, .int .i64 hi] A (fun v A' => v = .bool (decide (lo ≤ n ∧ n ≤ hi)) ∧ A = A') := by
  refine acall_intro Tryz.func47 rfl (by kernel_rfl) fun _ => ?_
  repeat' (first
  | (refine lwc fun R hR => ?_; simp [wrap_i64, wrap_u64]; try simp (disch := omega) only [if_pos, if_neg, wrap_i64, wrap_u64])
  | (refine hR _ _ ?_; clear hR R) | (refine hK _ _ ?_; clear hK K) | refine lwn ?_ | refine lr ?_ | refine la ?_
  | refine wn fun K hK => ?_
  | simp only [wS]
  | refine wb ?_ | refine wr ?_ | refine wk ?_ | refine we ?_ | refine ws ?_ | refine wq ?_
  | (refine wc rfl (fun hc => ?_) (fun hc => ?_) <;> (try simp at hc) <;> (try omega))
  | (refine ib (fun hc => ?_) (fun hc => ?_) <;> (try omega) <;> (try simp (disch := omega) only [if_pos, if_neg])))
  all_goals (simp_all <;> omega)
theorem rwithin_call (n lo hi : Int) (A : AW) : ACall Tryz.prog 29 [.int .i64 n, .int .i64 lo, .int .i64 hi] A (fun v A' => v = .bool (decide (lo ≤ n ∧ n ≤ hi)) ∧ A = A') := by
  refine acall_intro Tryz.func29 rfl (by kernel_rfl) fun _ => ?_
  repeat' (first
  | (refine lwc fun R hR => ?_; simp [wrap_i64, wrap_u64]; try simp (disch := omega) only [if_pos, if_neg, wrap_i64, wrap_u64])
  | (refine hR _ _ ?_; clear hR R) | (refine hK _ _ ?_; clear hK K) | refine lwn ?_ | refine lr ?_ | refine la ?_
  | refine wn fun K hK => ?_
  | simp only [wS]
  | refine wb ?_ | refine wr ?_ | refine wk ?_ | refine we ?_ | refine ws ?_ | refine wq ?_
  | (refine wc rfl (fun hc => ?_) (fun hc => ?_) <;> (try simp at hc) <;> (try omega))
  | (refine ib (fun hc => ?_) (fun hc => ?_) <;> (try omega) <;> (try simp (disch := omega) only [if_pos, if_neg])))
  all_goals (simp_all <;> omega)

set_option maxHeartbeats 4000000 in
theorem heap_call (c : CfgS) (A : AW) : ACall Tryz.prog 46 [c.v] A (fun v A' => v = heapV c ∧ A = A') := by
  refine ACall.gc0 (V := heapV c) (by unfold heapV; split <;> exact VBelow.tuple (by simp)) (fun hw => ?_) (by kernel_rfl)
  refine acall_intro Tryz.func46 rfl (by kernel_rfl) fun _ => ?_
  obtain ⟨V, hV⟩ : ∃ V, heapV c = V := ⟨_, rfl⟩
  rw [hV]
  unfold heapV cntOk CfgS.nb CfgS.hw at hV
  obtain ⟨wds, ords, bas, c0, c1, c2, c3, rds, wrs, als, fre, clk, stg⟩ := c
  dsimp only [CfgS.v, CfgS.cells] at hV ⊢
  repeat' (first
  | (refine lwc fun R hR => ?_; simp [wrap_i64, wrap_u64, AW.row_get, astore]; try simp (disch := omega) only [if_pos, if_neg, wrap_i64, wrap_u64])
  | (refine hR _ _ ?_; clear hR R) | (refine hK _ _ ?_; clear hK K) | refine lwn ?_ | refine lr ?_ | refine la ?_
  | refine wn fun K hK => ?_
  | simp only [wS]
  | refine wb ?_ | refine wr ?_ | refine wk ?_ | refine we ?_ | refine ws ?_ | refine wq ?_
  | (refine wc rfl (fun hc => ?_) (fun hc => ?_) <;> (try simp at hc) <;> (try omega))
  | (refine ib (fun hc => ?_) (fun hc => ?_) <;> (try omega) <;> (try simp (disch := omega) only [if_pos, if_neg])))
  refine awp_rounds 5 ?_
  by_cases h0 : 0 ≤ c0 ∧ c0 ≤ 64
  · obtain ⟨k0, k0'⟩ := h0
    by_cases h1 : 0 ≤ c1 ∧ c1 ≤ 64
    · obtain ⟨k1, k1'⟩ := h1
      by_cases h2 : 0 ≤ c2 ∧ c2 ≤ 64
      · obtain ⟨k2, k2'⟩ := h2
        by_cases h3 : 0 ≤ c3 ∧ c3 ≤ 64
        · obtain ⟨k3, k3'⟩ := h3
          rw [if_pos (by omega)] at hV; subst hV
          repeat' (first
          | (refine lwc fun R hR => ?_; simp [wrap_i64, wrap_u64, AW.row_get, astore, k0, k0', k1, k1', k2, k2', k3, k3']; try simp (disch := omega) only [if_pos, if_neg, wrap_i64, wrap_u64])
          | (refine hR _ _ ?_; clear hR R) | (refine hK _ _ ?_; clear hK K) | refine lwn ?_ | refine lr ?_ | refine la ?_
          | refine wn fun K hK => ?_
          | simp only [wS]
          | refine wb ?_ | refine wr ?_ | refine wk ?_ | refine we ?_ | refine ws ?_ | refine wq ?_
          | (refine wc rfl (fun hc => ?_) (fun hc => ?_) <;> (try simp at hc) <;> (try omega))
          | (refine ib (fun hc => ?_) (fun hc => ?_) <;> (try omega) <;> (try simp (disch := omega) only [if_pos, if_neg])))
          all_goals (
            refine ⟨_, by first | (simp; done) | (simp; rfl), ?_, AW.le.alloc _ _⟩
            simp only [Value.tuple.injEq, Array.mk.injEq, List.cons.injEq, Value.int.injEq, Value.bool.injEq, true_and, and_true]
            rw [pw1, pw2, pw3]
            simp (disch := omega) only [wrap_i64]
            try simp)
        · rw [if_neg (by omega)] at hV; subst hV
          by_cases h3' : c3 < 0
          · repeat' (first
          | (refine lwc fun R hR => ?_; simp [wrap_i64, wrap_u64, AW.row_get, astore, k0, k0', k1, k1', k2, k2', h3']; try simp (disch := omega) only [if_pos, if_neg, wrap_i64, wrap_u64])
          | (refine hR _ _ ?_; clear hR R) | (refine hK _ _ ?_; clear hK K) | refine lwn ?_ | refine lr ?_ | refine la ?_
          | refine wn fun K hK => ?_
          | simp only [wS]
          | refine wb ?_ | refine wr ?_ | refine wk ?_ | refine we ?_ | refine ws ?_ | refine wq ?_
          | (refine wc rfl (fun hc => ?_) (fun hc => ?_) <;> (try simp at hc) <;> (try omega))
          | (refine ib (fun hc => ?_) (fun hc => ?_) <;> (try omega) <;> (try simp (disch := omega) only [if_pos, if_neg])))
            all_goals exact ⟨_, by first | (simp; done) | (simp; rfl), rfl, AW.le.alloc _ _⟩
          · have h3'' : 64 < c3 := by omega
            repeat' (first
            | (refine lwc fun R hR => ?_; simp [wrap_i64, wrap_u64, AW.row_get, astore, k0, k0', k1, k1', k2, k2', h3', h3'']; try simp (disch := omega) only [if_pos, if_neg, wrap_i64, wrap_u64])
            | (refine hR _ _ ?_; clear hR R) | (refine hK _ _ ?_; clear hK K) | refine lwn ?_ | refine lr ?_ | refine la ?_
            | refine wn fun K hK => ?_
            | simp only [wS]
            | refine wb ?_ | refine wr ?_ | refine wk ?_ | refine we ?_ | refine ws ?_ | refine wq ?_
            | (refine wc rfl (fun hc => ?_) (fun hc => ?_) <;> (try simp at hc) <;> (try omega))
            | (refine ib (fun hc => ?_) (fun hc => ?_) <;> (try omega) <;> (try simp (disch := omega) only [if_pos, if_neg])))
            all_goals exact ⟨_, by first | (simp; done) | (simp; rfl), rfl, AW.le.alloc _ _⟩
      · rw [if_neg (by omega)] at hV; subst hV
        by_cases h3' : c2 < 0
        · repeat' (first
        | (refine lwc fun R hR => ?_; simp [wrap_i64, wrap_u64, AW.row_get, astore, k0, k0', k1, k1', h3']; try simp (disch := omega) only [if_pos, if_neg, wrap_i64, wrap_u64])
        | (refine hR _ _ ?_; clear hR R) | (refine hK _ _ ?_; clear hK K) | refine lwn ?_ | refine lr ?_ | refine la ?_
        | refine wn fun K hK => ?_
        | simp only [wS]
        | refine wb ?_ | refine wr ?_ | refine wk ?_ | refine we ?_ | refine ws ?_ | refine wq ?_
        | (refine wc rfl (fun hc => ?_) (fun hc => ?_) <;> (try simp at hc) <;> (try omega))
        | (refine ib (fun hc => ?_) (fun hc => ?_) <;> (try omega) <;> (try simp (disch := omega) only [if_pos, if_neg])))
          all_goals exact ⟨_, by first | (simp; done) | (simp; rfl), rfl, AW.le.alloc _ _⟩
        · have h3'' : 64 < c2 := by omega
          repeat' (first
          | (refine lwc fun R hR => ?_; simp [wrap_i64, wrap_u64, AW.row_get, astore, k0, k0', k1, k1', h3', h3'']; try simp (disch := omega) only [if_pos, if_neg, wrap_i64, wrap_u64])
          | (refine hR _ _ ?_; clear hR R) | (refine hK _ _ ?_; clear hK K) | refine lwn ?_ | refine lr ?_ | refine la ?_
          | refine wn fun K hK => ?_
          | simp only [wS]
          | refine wb ?_ | refine wr ?_ | refine wk ?_ | refine we ?_ | refine ws ?_ | refine wq ?_
          | (refine wc rfl (fun hc => ?_) (fun hc => ?_) <;> (try simp at hc) <;> (try omega))
          | (refine ib (fun hc => ?_) (fun hc => ?_) <;> (try omega) <;> (try simp (disch := omega) only [if_pos, if_neg])))
          all_goals exact ⟨_, by first | (simp; done) | (simp; rfl), rfl, AW.le.alloc _ _⟩
    · rw [if_neg (by omega)] at hV; subst hV
      by_cases h3' : c1 < 0
      · repeat' (first
      | (refine lwc fun R hR => ?_; simp [wrap_i64, wrap_u64, AW.row_get, astore, k0, k0', h3']; try simp (disch := omega) only [if_pos, if_neg, wrap_i64, wrap_u64])
      | (refine hR _ _ ?_; clear hR R) | (refine hK _ _ ?_; clear hK K) | refine lwn ?_ | refine lr ?_ | refine la ?_
      | refine wn fun K hK => ?_
      | simp only [wS]
      | refine wb ?_ | refine wr ?_ | refine wk ?_ | refine we ?_ | refine ws ?_ | refine wq ?_
      | (refine wc rfl (fun hc => ?_) (fun hc => ?_) <;> (try simp at hc) <;> (try omega))
      | (refine ib (fun hc => ?_) (fun hc => ?_) <;> (try omega) <;> (try simp (disch := omega) only [if_pos, if_neg])))
        all_goals exact ⟨_, by first | (simp; done) | (simp; rfl), rfl, AW.le.alloc _ _⟩
      · have h3'' : 64 < c1 := by omega
        repeat' (first
        | (refine lwc fun R hR => ?_; simp [wrap_i64, wrap_u64, AW.row_get, astore, k0, k0', h3', h3'']; try simp (disch := omega) only [if_pos, if_neg, wrap_i64, wrap_u64])
        | (refine hR _ _ ?_; clear hR R) | (refine hK _ _ ?_; clear hK K) | refine lwn ?_ | refine lr ?_ | refine la ?_
        | refine wn fun K hK => ?_
        | simp only [wS]
        | refine wb ?_ | refine wr ?_ | refine wk ?_ | refine we ?_ | refine ws ?_ | refine wq ?_
        | (refine wc rfl (fun hc => ?_) (fun hc => ?_) <;> (try simp at hc) <;> (try omega))
        | (refine ib (fun hc => ?_) (fun hc => ?_) <;> (try omega) <;> (try simp (disch := omega) only [if_pos, if_neg])))
        all_goals exact ⟨_, by first | (simp; done) | (simp; rfl), rfl, AW.le.alloc _ _⟩
  · rw [if_neg (by omega)] at hV; subst hV
    by_cases h3' : c0 < 0
    · repeat' (first
    | (refine lwc fun R hR => ?_; simp [wrap_i64, wrap_u64, AW.row_get, astore, h3']; try simp (disch := omega) only [if_pos, if_neg, wrap_i64, wrap_u64])
    | (refine hR _ _ ?_; clear hR R) | (refine hK _ _ ?_; clear hK K) | refine lwn ?_ | refine lr ?_ | refine la ?_
    | refine wn fun K hK => ?_
    | simp only [wS]
    | refine wb ?_ | refine wr ?_ | refine wk ?_ | refine we ?_ | refine ws ?_ | refine wq ?_
    | (refine wc rfl (fun hc => ?_) (fun hc => ?_) <;> (try simp at hc) <;> (try omega))
    | (refine ib (fun hc => ?_) (fun hc => ?_) <;> (try omega) <;> (try simp (disch := omega) only [if_pos, if_neg])))
      all_goals exact ⟨_, by first | (simp; done) | (simp; rfl), rfl, AW.le.alloc _ _⟩
    · have h3'' : 64 < c0 := by omega
      repeat' (first
      | (refine lwc fun R hR => ?_; simp [wrap_i64, wrap_u64, AW.row_get, astore, h3', h3'']; try simp (disch := omega) only [if_pos, if_neg, wrap_i64, wrap_u64])
      | (refine hR _ _ ?_; clear hR R) | (refine hK _ _ ?_; clear hK K) | refine lwn ?_ | refine lr ?_ | refine la ?_
      | refine wn fun K hK => ?_
      | simp only [wS]
      | refine wb ?_ | refine wr ?_ | refine wk ?_ | refine we ?_ | refine ws ?_ | refine wq ?_
      | (refine wc rfl (fun hc => ?_) (fun hc => ?_) <;> (try simp at hc) <;> (try omega))
      | (refine ib (fun hc => ?_) (fun hc => ?_) <;> (try omega) <;> (try simp (disch := omega) only [if_pos, if_neg])))
      all_goals exact ⟨_, by first | (simp; done) | (simp; rfl), rfl, AW.le.alloc _ _⟩

set_option maxHeartbeats 4000000 in
theorem cfgCheck_call (c : CfgS) (A : AW) : ACall Tryz.prog 24 [c.v] A (fun v A' => v = .int .i64 (cfgErr c) ∧ A = A') := by
  refine ACall.gc0 (V := .int .i64 (cfgErr c)) (by simp) (fun hw => ?_) (by kernel_rfl)
  refine acall_intro Tryz.func24 rfl (by kernel_rfl) fun _ => ?_
  have hh := heap_call c
  unfold heapV at hh
  have eN : c.nb = c.c0 + c.c1 + c.c2 + c.c3 := rfl
  have eW : c.hw = c.c0 + c.c1 * 2 + c.c2 * 4 + c.c3 * 8 := rfl
  have hW : cntOk c → 0 ≤ c.hw ∧ c.hw ≤ 1000 := fun h => by unfold cntOk at h; omega
  obtain ⟨V, hV⟩ : ∃ V, cfgErr c = V := ⟨_, rfl⟩
  rw [hV]
  unfold cfgErr at hV
  by_cases q0 : cntOk c
  · rw [if_pos q0] at hh
    obtain ⟨q1, q2⟩ := hW q0
    simp only [show cntOk c = True from eq_true q0, true_and] at hV
    generalize c.nb = nb at *
    generalize c.hw = hw' at *
    clear eN eW hW q0
    obtain ⟨wds, ords, bas, c0, c1, c2, c3, rds, wrs, als, fre, clk, stg⟩ := c
    dsimp only [CfgS.v, CfgS.cells] at hV hh ⊢
    repeat' (first
    | (refine lwc fun R hR => ?_; simp [wrap_i64, wrap_u64, AW.row_get, astore]; try simp (disch := omega) only [if_pos, if_neg, wrap_i64, wrap_u64])
    | (refine hR _ _ ?_; clear hR R) | (refine hK _ _ ?_; clear hK K) | refine lwn ?_ | refine lr ?_ | refine la ?_
    | refine wn fun K hK => ?_
    | simp only [wS]
    | (refine callK (hh _) ?_; rintro _ _ ⟨rfl, rfl⟩ _ _)
    | (refine callK (within_call _ _ _ _) ?_; rintro _ _ ⟨rfl, rfl⟩ _ _)
    | refine wb ?_ | refine wr ?_ | refine wk ?_ | refine we ?_ | refine ws ?_ | refine wq ?_
    | (refine wc rfl (fun hc => ?_) (fun hc => ?_) <;> (try simp at hc) <;> (try omega))
    | (refine ib (fun hc => ?_) (fun hc => ?_) <;> (try omega) <;> (try simp (disch := omega) only [if_pos, if_neg])))
    all_goals (
      refine ⟨_, by first | (simp; done) | (simp; rfl), ?_, AW.le.alloc _ _⟩
      rw [← hV]
      congr 1
      repeat (first | rw [if_pos (by omega)] | rw [if_neg (by omega)])
      first | done | skip)
  · rw [if_neg q0] at hh
    simp only [show cntOk c = False from eq_false q0, false_and, not_false_eq_true, if_true] at hV
    clear eN eW hW q0
    obtain ⟨wds, ords, bas, c0, c1, c2, c3, rds, wrs, als, fre, clk, stg⟩ := c
    dsimp only [CfgS.v, CfgS.cells] at hV hh ⊢
    repeat' (first
    | (refine lwc fun R hR => ?_; simp [wrap_i64, wrap_u64, AW.row_get, astore]; try simp (disch := omega) only [if_pos, if_neg, wrap_i64, wrap_u64])
    | (refine hR _ _ ?_; clear hR R) | (refine hK _ _ ?_; clear hK K) | refine lwn ?_ | refine lr ?_ | refine la ?_
    | refine wn fun K hK => ?_
    | simp only [wS]
    | (refine callK (hh _) ?_; rintro _ _ ⟨rfl, rfl⟩ _ _)
    | (refine callK (within_call _ _ _ _) ?_; rintro _ _ ⟨rfl, rfl⟩ _ _)
    | refine wb ?_ | refine wr ?_ | refine wk ?_ | refine we ?_ | refine ws ?_ | refine wq ?_
    | (refine wc rfl (fun hc => ?_) (fun hc => ?_) <;> (try simp at hc) <;> (try omega))
    | (refine ib (fun hc => ?_) (fun hc => ?_) <;> (try omega) <;> (try simp (disch := omega) only [if_pos, if_neg])))
    all_goals (
      refine ⟨_, by first | (simp; done) | (simp; rfl), ?_, AW.le.alloc _ _⟩
      rw [← hV]
      congr 1
      repeat (first | rw [if_pos (by omega)] | rw [if_neg (by omega)])
      first | done | skip)
end Go.Stx
