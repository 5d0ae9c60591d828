/-
  Whether a jump reaches, by the document.
-/
import Derived.Test.YtcffnkgjmneaeaaGreatDoorFbF
namespace Go.Stx
open Go Go.Proofs
attribute [local irreducible] AWP LWalk ACall ARounds lops nops
set_option linter.unusedVariables false
set_option linter.unusedSimpArgs false
set_option linter.unusedSectionVars false
set_option maxRecDepth 20000
variable [Gl]

set_option maxHeartbeats 4000000 in
theorem reaches_call (v : Value) (p : List InsV) (k t : Nat) (A : AW) (h : IsIns A v p) (hl : p.length < 2^30) (hk : k ≤ p.length) :
    ACall Tryz.prog 52 [v, .int .i64 k, .int .i64 t] A (fun u A' => u = .bool (refReach p k t) ∧ A = A') := by
  refine acall_intro Tryz.func52 rfl (by kernel_rfl) fun hw => ?_
  obtain ⟨o, c, rfl, _⟩ := h.form
  by_cases h1 : p.length < t
  · have he : refReach p k t = false := by unfold refReach; rw [if_pos h1]
    rw [he]
    repeat' (first
    | (refine lwc fun R hR => ?_; simp [wrap_i64, wrap_u64, h1]; try simp (disch := omega) only [if_pos, if_neg, wrap_i64, wrap_u64])
    | (refine hR _ _ ?_; clear hR R) | (refine hK _ _ ?_; clear hK K) | refine lwn ?_ | refine lr ?_ | refine la ?_
    | refine wn fun K hK => ?_
    | simp only [wS]
    | refine wb ?_ | refine wr ?_ | refine wk ?_ | refine we ?_ | refine ws ?_ | refine wq ?_
    | (refine wc rfl (fun hc => ?_) (fun hc => ?_) <;> (try simp at hc) <;> (try omega))
    | (refine ib (fun hc => ?_) (fun hc => ?_) <;> (try omega) <;> (try simp (disch := omega) only [if_pos, if_neg])))
    all_goals simp [AThen, APost, ares, aresL, ares1]
  · have ht : t ≤ p.length := by omega
    have c1 := span_call _ p k A h hl hk
    have c2 := span_call _ p t A h hl ht
    cases hs : spanF p k with
    | some bc =>
      obtain ⟨b, d⟩ := bc
      have hb : ¬ ((b : Int) < 0) := by omega
      have hb2 : (0 : Int) ≤ b := by omega
      have he : refReach p k t = decide (t ≤ d) := by unfold refReach; rw [if_neg h1, hs]
      rw [hs] at c1
      simp only [spanV] at c1
      rw [he]
      repeat' (first
      | (refine lwc fun R hR => ?_; simp [wrap_i64, wrap_u64, h1, hb, hb2]; try simp (disch := omega) only [if_pos, if_neg, wrap_i64, wrap_u64])
      | (refine hR _ _ ?_; clear hR R) | (refine hK _ _ ?_; clear hK K) | refine lwn ?_ | refine lr ?_ | refine la ?_
      | refine wn fun K hK => ?_
      | simp only [wS]
      | (refine callK (c1) ?_; rintro _ _ ⟨rfl, rfl⟩ _ _)
      | refine wb ?_ | refine wr ?_ | refine wk ?_ | refine we ?_ | refine ws ?_ | refine wq ?_
      | (refine wc rfl (fun hc => ?_) (fun hc => ?_) <;> (try simp at hc) <;> (try omega))
      | (refine ib (fun hc => ?_) (fun hc => ?_) <;> (try omega) <;> (try simp (disch := omega) only [if_pos, if_neg])))
      all_goals simp [AThen, APost, ares, aresL, ares1]
    | none =>
      rw [hs] at c1
      simp only [spanV] at c1
      cases hs2 : spanF p t with
      | some bc =>
        obtain ⟨b, d⟩ := bc
        have hb : ¬ ((b : Int) < 0) := by omega
        have hb2 : (0 : Int) ≤ b := by omega
        have he : refReach p k t = decide (b = t) := by unfold refReach; rw [if_neg h1, hs, hs2]
        rw [hs2] at c2
        simp only [spanV] at c2
        rw [he]
        repeat' (first
        | (refine lwc fun R hR => ?_; simp [wrap_i64, wrap_u64, h1, hb, hb2]; try simp (disch := omega) only [if_pos, if_neg, wrap_i64, wrap_u64])
        | (refine hR _ _ ?_; clear hR R) | (refine hK _ _ ?_; clear hK K) | refine lwn ?_ | refine lr ?_ | refine la ?_
        | refine wn fun K hK => ?_
        | simp only [wS]
        | (refine callK (c1) ?_; rintro _ _ ⟨rfl, rfl⟩ _ _)
        | (refine callK (c2) ?_; rintro _ _ ⟨rfl, rfl⟩ _ _)
        | refine wb ?_ | refine wr ?_ | refine wk ?_ | refine we ?_ | refine ws ?_ | refine wq ?_
        | (refine wc rfl (fun hc => ?_) (fun hc => ?_) <;> (try simp at hc) <;> (try omega))
        | (refine ib (fun hc => ?_) (fun hc => ?_) <;> (try omega) <;> (try simp (disch := omega) only [if_pos, if_neg])))
        all_goals (simp [AThen, APost, ares, aresL, ares1] <;> omega)
      | none =>
        have he : refReach p k t = true := by unfold refReach; rw [if_neg h1, hs, hs2]
        rw [hs2] at c2
        simp only [spanV] at c2
        rw [he]
        repeat' (first
        | (refine lwc fun R hR => ?_; simp [wrap_i64, wrap_u64, h1]; try simp (disch := omega) only [if_pos, if_neg, wrap_i64, wrap_u64])
        | (refine hR _ _ ?_; clear hR R) | (refine hK _ _ ?_; clear hK K) | refine lwn ?_ | refine lr ?_ | refine la ?_
        | refine wn fun K hK => ?_
        | simp only [wS]
        | (refine callK (c1) ?_; rintro _ _ ⟨rfl, rfl⟩ _ _)
        | (refine callK (c2) ?_; rintro _ _ ⟨rfl, rfl⟩ _ _)
        | refine wb ?_ | refine wr ?_ | refine wk ?_ | refine we ?_ | refine ws ?_ | refine wq ?_
        | (refine wc rfl (fun hc => ?_) (fun hc => ?_) <;> (try simp at hc) <;> (try omega))
        | (refine ib (fun hc => ?_) (fun hc => ?_) <;> (try omega) <;> (try simp (disch := omega) only [if_pos, if_neg])))
        all_goals simp [AThen, APost, ares, aresL, ares1]
end Go.Stx
