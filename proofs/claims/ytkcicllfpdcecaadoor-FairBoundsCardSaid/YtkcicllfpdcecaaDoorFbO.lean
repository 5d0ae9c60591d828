/-
  The document's Longest.
-/
import Derived.Test.YtkcicllfpdcecaaDoorFbN
namespace Go.Stx
open Go Go.Proofs
attribute [local irreducible] AWP LWalk ACall ARounds lops nops
set_option linter.unusedVariables false
set_option linter.unusedSimpArgs false
set_option linter.unusedSectionVars false
set_option maxRecDepth 20000
variable [Gl]

def longF (p : List InsV) : Int := if progOk p = true then longest p else -1

set_option maxHeartbeats 4000000 in
theorem refLongest_call (hn : Gl.N = 4) (v : Value) (p : List InsV) (A : AW) (h : IsIns A v p) :
    ACall Tryd.prog 21 [v] A (fun u A' => u = .int .i64 (longF p) ∧ A = A') := by
  refine ACall.gc0 (V := .int .i64 (longF p)) (by simp) (fun hw => ?_) (by kernel_rfl)
  refine acall_intro Tryd.func21 rfl (by kernel_rfl) fun _ => ?_
  have cV := refCheck_call hn v p A h
  rw [check_eq] at cV
  unfold errV at cV
  unfold longF
  cases hv : progOk p with
  | false =>
    have hv' : ¬ (progCheck p).2 = 0 := by simpa [progOk] using hv
    repeat' (first
    | (refine lwc fun R hR => ?_; simp [wrap_i64, wrap_u64, hv']; try simp (disch := omega) only [if_pos, if_neg, wrap_i64, wrap_u64])
    | (refine hR _ _ ?_; clear hR R) | (refine hK _ _ ?_; clear hK K) | refine lwn ?_ | refine lr ?_ | refine la ?_
    | refine wn fun K hK => ?_
    | simp only [wS]
    | (refine callK (cV) ?_; rintro _ _ ⟨rfl, rfl⟩ _ _)
    | refine wb ?_ | refine wr ?_ | refine wk ?_ | refine we ?_ | refine ws ?_ | refine wq ?_
    | (refine wc rfl (fun hc => ?_) (fun hc => ?_) <;> (try simp at hc) <;> (try omega))
    | (refine ib (fun hc => ?_) (fun hc => ?_) <;> (try omega) <;> (try simp (disch := omega) only [if_pos, if_neg])))
    all_goals first | exact AW.le.refl A | simp [AThen, APost, ares, aresL, ares1, AW.le.refl]
  | true =>
    have hv' : (progCheck p).2 = 0 := by simpa [progOk] using hv
    rw [hv'] at cV
    have hl : p.length ≤ 64 := (progCheck_ok (p := p) hv').1
    obtain ⟨o, c, rfl, _⟩ := h.form
    repeat' (first
    | (refine lwc fun R hR => ?_; simp [wrap_i64, wrap_u64, hv']; try simp (disch := omega) only [if_pos, if_neg, wrap_i64, wrap_u64])
    | (refine hR _ _ ?_; clear hR R) | (refine hK _ _ ?_; clear hK K) | refine lwn ?_ | refine lr ?_ | refine la ?_
    | refine wn fun K hK => ?_
    | simp only [wS]
    | (refine callK (cV) ?_; rintro _ _ ⟨rfl, rfl⟩ _ _)
    | refine wb ?_ | refine wr ?_ | refine wk ?_ | refine we ?_ | refine ws ?_ | refine wq ?_
    | (refine wc rfl (fun hc => ?_) (fun hc => ?_) <;> (try simp at hc) <;> (try omega))
    | (refine ib (fun hc => ?_) (fun hc => ?_) <;> (try omega) <;> (try simp (disch := omega) only [if_pos, if_neg])))
    refine awp_loop (fun k fr A' => ∃ (j : Nat) (sv : Value), k = p.length - j ∧ j ≤ p.length ∧ fr 0 = .slice o p.length c ∧ fr 5 = sv ∧ fr 6 = .int .i64 j ∧
      OwnInts A.next A' .i64 sv (List.replicate j 1) ∧ A.le A' ∧ A'.Wf) p.length ?_ ?_
    · exact ⟨0, _, rfl, Nat.zero_le _, rfl, rfl, rfl, OwnInts.nil _ _ _, AW.le.refl A, hw⟩
    · rintro k fr A' ⟨j, sv, rfl, hj, g0, g5, g6, hown, hle, hw'⟩
      by_cases hlt : j < p.length
      · have hwj : IntKind.i64.wrap ((j : Int) + 1) = ((j + 1 : Nat) : Int) := wrap_i64 (by omega) (by omega)
        obtain ⟨v', A2, e1, hown2, hle2, hw2, hn2⟩ := append_int (P := Tryd.prog) (t := 29) 1 Tryd.underlying29 Tryd.info3 Tryd.zero3 rfl rfl hown (by rw [List.length_replicate]; omega) (by simp) hle.next hw'
        have e2 : List.replicate j (1 : Int) ++ [1] = List.replicate (j + 1) 1 := by rw [List.replicate_succ']
        rw [e2] at hown2
        have hst : p.length - j = (p.length - (j + 1)) + 1 := by omega
        refine awp_seq ?_
        repeat' (first
        | (refine lwc fun R hR => ?_; simp [wrap_i64, wrap_u64, g0, g5, g6, hlt, hwj, e1]; try simp (disch := omega) only [if_pos, if_neg, wrap_i64, wrap_u64])
        | (refine hR _ _ ?_; clear hR R) | (refine hK _ _ ?_; clear hK K) | refine lwn ?_ | refine lr ?_ | refine la ?_
        | refine wn fun K hK => ?_
        | simp only [wS]
        | refine wb ?_ | refine wr ?_ | refine wk ?_ | refine we ?_ | refine ws ?_ | refine wq ?_
        | (refine wc rfl (fun hc => ?_) (fun hc => ?_) <;> (try simp at hc) <;> (try omega))
        | (refine ib (fun hc => ?_) (fun hc => ?_) <;> (try omega) <;> (try simp (disch := omega) only [if_pos, if_neg])))
        refine ⟨p.length - (j + 1), by omega, j + 1, v', rfl, by omega, ?_, ?_, ?_, hown2, hle2 A (Nat.le_refl _) hle, hw2⟩ <;> simp [g0]
      · have hjn : j = p.length := by omega
        subst hjn
        have cG := greatest_call _ sv p A' (h.le hle hw) hv hown.is
        refine awp_seq ?_
        repeat' (first
        | (refine lwc fun R hR => ?_; simp [wrap_i64, wrap_u64, g0, g5, g6, hlt]; try simp (disch := omega) only [if_pos, if_neg, wrap_i64, wrap_u64])
        | (refine hR _ _ ?_; clear hR R) | (refine hK _ _ ?_; clear hK K) | refine lwn ?_ | refine lr ?_ | refine la ?_
        | refine wn fun K hK => ?_
        | simp only [wS]
        | (refine callK (cG) ?_; rintro _ _ ⟨rfl, rfl⟩ _ _)
        | refine wb ?_ | refine wr ?_ | refine wk ?_ | refine we ?_ | refine ws ?_ | refine wq ?_
        | (refine wc rfl (fun hc => ?_) (fun hc => ?_) <;> (try simp at hc) <;> (try omega))
        | (refine ib (fun hc => ?_) (fun hc => ?_) <;> (try omega) <;> (try simp (disch := omega) only [if_pos, if_neg])))
        all_goals first | exact hle | (simp [ABlock, AThen, APost, ares, aresL, ares1] <;> exact hle)
end Go.Stx
