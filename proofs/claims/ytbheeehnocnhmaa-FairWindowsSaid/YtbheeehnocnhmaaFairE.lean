/-
  The sanity check of the laws of the package fair answers true.
-/
import Derived.Test.YtbheeehnocnhmaaFairD
namespace Go.Stx
open Go Go.Proofs
set_option linter.unusedVariables false
set_option linter.unusedSimpArgs false

theorem awake_make : makeE 2 3 6 = 0 ∧ makeF 2 3 [1] 6 = [1, 0, 1, 1, 0, 1] := by decide
theorem awake_fair : fairF 2 3 [1, 0, 1, 1, 0, 1] = true ∧ fairF 2 2 [0, 0] = false := by decide
theorem awake_pick : pickF 2 3 [1] 0 = 1 := by decide

set_option maxHeartbeats 1000000 in
theorem awake_call (A : AW) : ACall Try.prog 5 [] A (fun v A' => v = .bool true ∧ A.le A') := by
  refine acall_intro Try.func5 rfl (by kernel_rfl) fun hw => ?_
  repeat' (first
      | (refine sops_cons (fun R hR => ?_); simp [Nat.add_zero]; try simp (disch := omega) only [if_pos, if_neg])
      | (refine sqops_cons (fun R hR => ?_); simp [Nat.add_zero]; try simp (disch := omega) only [if_pos, if_neg])
      | (refine hR _ _ ?_; clear hR R) | (refine hR _ ?_; clear hR R)
      | (refine hK _ _ ?_; clear hK K) | (refine hK _ ?_; clear hK K)
      | refine sops_nil ?_
      | refine sqops_nil ?_
      | (refine awp_rs (fun K hK => ?_); simp only [slim, slimL, slimG, List.map_cons, List.map_nil, Option.map_none, Option.map_some, List.getElem?_toArray, List.getElem?_cons_zero, List.getElem?_cons_succ, Option.bind_some])
      | (refine awp_r1 (fun K hK => ?_); simp only [slim, slimL, slimG, List.map_cons, List.map_nil, Option.map_none, Option.map_some, List.getElem?_toArray, List.getElem?_cons_zero, List.getElem?_cons_succ, Option.bind_some])
      | (refine awp_ds (by kernel_rfl) (by kernel_rfl) (fun K hK => ?_); simp only [slim, slimL, slimG, List.map_cons, List.map_nil, Option.map_none, Option.map_some, List.getElem?_toArray, List.getElem?_cons_zero, List.getElem?_cons_succ, Option.bind_some])
      | (refine awp_d1 (by kernel_rfl) (by kernel_rfl) (fun K hK => ?_); simp only [slim, slimL, slimG, List.map_cons, List.map_nil, Option.map_none, Option.map_some, List.getElem?_toArray, List.getElem?_cons_zero, List.getElem?_cons_succ, Option.bind_some])
      | refine awp_block ?_
      | refine awp_ret ?_
      | refine awp_skip ?_
      | refine awp_exit ?_
      | ((refine awp_cond rfl (fun hc => ?_) (fun hc => ?_)) <;> (try simp at hc) <;> (try omega))
      | ((refine awp_cond (by simp only [evF_tmp, evF_const, upd_apply, ↓reduceIte, Nat.reduceEqDiff, Nat.add_zero]; rfl) (fun hc => ?_) (fun hc => ?_)) <;> (try simp at hc) <;> (try omega))
      | refine awp_seq ?_
      | ((refine ite_both (fun hc => ?_) (fun hc => ?_)) <;> (try omega) <;> (try simp (disch := omega) only [if_pos, if_neg])))
  have g0 := AW.alloc_get_new A (.cells [.int .i64 1] true 1)
  have l0 := AW.le.alloc A (.cells [.int .i64 1] true 1)
  have w0 := hw.alloc (.cells [.int .i64 1] true 1)
  refine callK (make_call 2 3 6 _ [1] _ (IsInts.of_get g0 rfl (by decide) rfl) (by decide)) ?_
  rintro _ A1 ⟨sv, rfl, h1, l1⟩ w1 n1
  rw [if_pos awake_make.1, show (6 : Int).toNat = 6 from rfl, awake_make.2] at h1
  rw [awake_make.1]
  have l1' := l0.trans l1
  clear g0 l0 w0 l1
  repeat' (first
      | (refine sops_cons (fun R hR => ?_); simp [Nat.add_zero]; try simp (disch := omega) only [if_pos, if_neg])
      | (refine sqops_cons (fun R hR => ?_); simp [Nat.add_zero]; try simp (disch := omega) only [if_pos, if_neg])
      | (refine hR _ _ ?_; clear hR R) | (refine hR _ ?_; clear hR R)
      | (refine hK _ _ ?_; clear hK K) | (refine hK _ ?_; clear hK K)
      | refine sops_nil ?_
      | refine sqops_nil ?_
      | (refine awp_rs (fun K hK => ?_); simp only [slim, slimL, slimG, List.map_cons, List.map_nil, Option.map_none, Option.map_some, List.getElem?_toArray, List.getElem?_cons_zero, List.getElem?_cons_succ, Option.bind_some])
      | (refine awp_r1 (fun K hK => ?_); simp only [slim, slimL, slimG, List.map_cons, List.map_nil, Option.map_none, Option.map_some, List.getElem?_toArray, List.getElem?_cons_zero, List.getElem?_cons_succ, Option.bind_some])
      | (refine awp_ds (by kernel_rfl) (by kernel_rfl) (fun K hK => ?_); simp only [slim, slimL, slimG, List.map_cons, List.map_nil, Option.map_none, Option.map_some, List.getElem?_toArray, List.getElem?_cons_zero, List.getElem?_cons_succ, Option.bind_some])
      | (refine awp_d1 (by kernel_rfl) (by kernel_rfl) (fun K hK => ?_); simp only [slim, slimL, slimG, List.map_cons, List.map_nil, Option.map_none, Option.map_some, List.getElem?_toArray, List.getElem?_cons_zero, List.getElem?_cons_succ, Option.bind_some])
      | refine awp_block ?_
      | refine awp_ret ?_
      | refine awp_skip ?_
      | refine awp_exit ?_
      | ((refine awp_cond rfl (fun hc => ?_) (fun hc => ?_)) <;> (try simp at hc) <;> (try omega))
      | ((refine awp_cond (by simp only [evF_tmp, evF_const, upd_apply, ↓reduceIte, Nat.reduceEqDiff, Nat.add_zero]; rfl) (fun hc => ?_) (fun hc => ?_)) <;> (try simp at hc) <;> (try omega))
      | refine awp_seq ?_
      | ((refine ite_both (fun hc => ?_) (fun hc => ?_)) <;> (try omega) <;> (try simp (disch := omega) only [if_pos, if_neg])))
  have g0 := AW.alloc_get_new A1 (.cells [.int .i64 1, .int .i64 0, .int .i64 1, .int .i64 1, .int .i64 0, .int .i64 1] true 1)
  have l0 := AW.le.alloc A1 (.cells [.int .i64 1, .int .i64 0, .int .i64 1, .int .i64 1, .int .i64 0, .int .i64 1] true 1)
  have w0 := w1.alloc (.cells [.int .i64 1, .int .i64 0, .int .i64 1, .int .i64 1, .int .i64 0, .int .i64 1] true 1)
  refine callK (ints_call _ _ [1, 0, 1, 1, 0, 1] [1, 0, 1, 1, 0, 1] _ (h1.le l0 w1) (IsInts.of_get g0 rfl (by decide) rfl) (by decide)) ?_
  rintro _ _ ⟨rfl, rfl⟩ _ _
  have h2 := h1.le l0 w1
  have l2 := l1'.trans l0
  generalize (A1.alloc (.cells [.int .i64 1, .int .i64 0, .int .i64 1, .int .i64 1, .int .i64 0, .int .i64 1] true 1)) = A2 at *
  clear g0 l0 h1 l1' w1 n1
  repeat' (first
      | (refine sops_cons (fun R hR => ?_); simp [Nat.add_zero]; try simp (disch := omega) only [if_pos, if_neg])
      | (refine sqops_cons (fun R hR => ?_); simp [Nat.add_zero]; try simp (disch := omega) only [if_pos, if_neg])
      | (refine hR _ _ ?_; clear hR R) | (refine hR _ ?_; clear hR R)
      | (refine hK _ _ ?_; clear hK K) | (refine hK _ ?_; clear hK K)
      | refine sops_nil ?_
      | refine sqops_nil ?_
      | (refine awp_rs (fun K hK => ?_); simp only [slim, slimL, slimG, List.map_cons, List.map_nil, Option.map_none, Option.map_some, List.getElem?_toArray, List.getElem?_cons_zero, List.getElem?_cons_succ, Option.bind_some])
      | (refine awp_r1 (fun K hK => ?_); simp only [slim, slimL, slimG, List.map_cons, List.map_nil, Option.map_none, Option.map_some, List.getElem?_toArray, List.getElem?_cons_zero, List.getElem?_cons_succ, Option.bind_some])
      | (refine awp_ds (by kernel_rfl) (by kernel_rfl) (fun K hK => ?_); simp only [slim, slimL, slimG, List.map_cons, List.map_nil, Option.map_none, Option.map_some, List.getElem?_toArray, List.getElem?_cons_zero, List.getElem?_cons_succ, Option.bind_some])
      | (refine awp_d1 (by kernel_rfl) (by kernel_rfl) (fun K hK => ?_); simp only [slim, slimL, slimG, List.map_cons, List.map_nil, Option.map_none, Option.map_some, List.getElem?_toArray, List.getElem?_cons_zero, List.getElem?_cons_succ, Option.bind_some])
      | refine awp_block ?_
      | refine awp_ret ?_
      | refine awp_skip ?_
      | refine awp_exit ?_
      | ((refine awp_cond rfl (fun hc => ?_) (fun hc => ?_)) <;> (try simp at hc) <;> (try omega))
      | ((refine awp_cond (by simp only [evF_tmp, evF_const, upd_apply, ↓reduceIte, Nat.reduceEqDiff, Nat.add_zero]; rfl) (fun hc => ?_) (fun hc => ?_)) <;> (try simp at hc) <;> (try omega))
      | refine awp_seq ?_
      | ((refine ite_both (fun hc => ?_) (fun hc => ?_)) <;> (try omega) <;> (try simp (disch := omega) only [if_pos, if_neg])))
  refine callK (fair_call 2 3 _ [1, 0, 1, 1, 0, 1] _ h2 (by decide) (by decide)) ?_
  rintro _ A3 ⟨rfl, l3⟩ w3 _
  rw [awake_fair.1]
  have l4 := l2.trans l3
  clear l2 l3 h2
  repeat' (first
      | (refine sops_cons (fun R hR => ?_); simp [Nat.add_zero]; try simp (disch := omega) only [if_pos, if_neg])
      | (refine sqops_cons (fun R hR => ?_); simp [Nat.add_zero]; try simp (disch := omega) only [if_pos, if_neg])
      | (refine hR _ _ ?_; clear hR R) | (refine hR _ ?_; clear hR R)
      | (refine hK _ _ ?_; clear hK K) | (refine hK _ ?_; clear hK K)
      | refine sops_nil ?_
      | refine sqops_nil ?_
      | (refine awp_rs (fun K hK => ?_); simp only [slim, slimL, slimG, List.map_cons, List.map_nil, Option.map_none, Option.map_some, List.getElem?_toArray, List.getElem?_cons_zero, List.getElem?_cons_succ, Option.bind_some])
      | (refine awp_r1 (fun K hK => ?_); simp only [slim, slimL, slimG, List.map_cons, List.map_nil, Option.map_none, Option.map_some, List.getElem?_toArray, List.getElem?_cons_zero, List.getElem?_cons_succ, Option.bind_some])
      | (refine awp_ds (by kernel_rfl) (by kernel_rfl) (fun K hK => ?_); simp only [slim, slimL, slimG, List.map_cons, List.map_nil, Option.map_none, Option.map_some, List.getElem?_toArray, List.getElem?_cons_zero, List.getElem?_cons_succ, Option.bind_some])
      | (refine awp_d1 (by kernel_rfl) (by kernel_rfl) (fun K hK => ?_); simp only [slim, slimL, slimG, List.map_cons, List.map_nil, Option.map_none, Option.map_some, List.getElem?_toArray, List.getElem?_cons_zero, List.getElem?_cons_succ, Option.bind_some])
      | refine awp_block ?_
      | refine awp_ret ?_
      | refine awp_skip ?_
      | refine awp_exit ?_
      | ((refine awp_cond rfl (fun hc => ?_) (fun hc => ?_)) <;> (try simp at hc) <;> (try omega))
      | ((refine awp_cond (by simp only [evF_tmp, evF_const, upd_apply, ↓reduceIte, Nat.reduceEqDiff, Nat.add_zero]; rfl) (fun hc => ?_) (fun hc => ?_)) <;> (try simp at hc) <;> (try omega))
      | refine awp_seq ?_
      | ((refine ite_both (fun hc => ?_) (fun hc => ?_)) <;> (try omega) <;> (try simp (disch := omega) only [if_pos, if_neg])))
  have g0 := AW.alloc_get_new A3 (.cells [.int .i64 0, .int .i64 0] true 1)
  have l0 := AW.le.alloc A3 (.cells [.int .i64 0, .int .i64 0] true 1)
  refine callK (fair_call 2 2 _ [0, 0] _ (IsInts.of_get g0 rfl (by decide) rfl) (by decide) (by decide)) ?_
  rintro _ A4 ⟨rfl, l5⟩ w4 _
  rw [awake_fair.2]
  have l6 := (l4.trans l0).trans l5
  clear l4 l0 l5 g0
  repeat' (first
      | (refine sops_cons (fun R hR => ?_); simp [Nat.add_zero]; try simp (disch := omega) only [if_pos, if_neg])
      | (refine sqops_cons (fun R hR => ?_); simp [Nat.add_zero]; try simp (disch := omega) only [if_pos, if_neg])
      | (refine hR _ _ ?_; clear hR R) | (refine hR _ ?_; clear hR R)
      | (refine hK _ _ ?_; clear hK K) | (refine hK _ ?_; clear hK K)
      | refine sops_nil ?_
      | refine sqops_nil ?_
      | (refine awp_rs (fun K hK => ?_); simp only [slim, slimL, slimG, List.map_cons, List.map_nil, Option.map_none, Option.map_some, List.getElem?_toArray, List.getElem?_cons_zero, List.getElem?_cons_succ, Option.bind_some])
      | (refine awp_r1 (fun K hK => ?_); simp only [slim, slimL, slimG, List.map_cons, List.map_nil, Option.map_none, Option.map_some, List.getElem?_toArray, List.getElem?_cons_zero, List.getElem?_cons_succ, Option.bind_some])
      | (refine awp_ds (by kernel_rfl) (by kernel_rfl) (fun K hK => ?_); simp only [slim, slimL, slimG, List.map_cons, List.map_nil, Option.map_none, Option.map_some, List.getElem?_toArray, List.getElem?_cons_zero, List.getElem?_cons_succ, Option.bind_some])
      | (refine awp_d1 (by kernel_rfl) (by kernel_rfl) (fun K hK => ?_); simp only [slim, slimL, slimG, List.map_cons, List.map_nil, Option.map_none, Option.map_some, List.getElem?_toArray, List.getElem?_cons_zero, List.getElem?_cons_succ, Option.bind_some])
      | refine awp_block ?_
      | refine awp_ret ?_
      | refine awp_skip ?_
      | refine awp_exit ?_
      | ((refine awp_cond rfl (fun hc => ?_) (fun hc => ?_)) <;> (try simp at hc) <;> (try omega))
      | ((refine awp_cond (by simp only [evF_tmp, evF_const, upd_apply, ↓reduceIte, Nat.reduceEqDiff, Nat.add_zero]; rfl) (fun hc => ?_) (fun hc => ?_)) <;> (try simp at hc) <;> (try omega))
      | refine awp_seq ?_
      | ((refine ite_both (fun hc => ?_) (fun hc => ?_)) <;> (try omega) <;> (try simp (disch := omega) only [if_pos, if_neg])))
  have g0 := AW.alloc_get_new A4 (.cells [.int .i64 1] true 1)
  have l0 := AW.le.alloc A4 (.cells [.int .i64 1] true 1)
  refine callK (pick_call 2 3 0 _ [1] _ (IsInts.of_get g0 rfl (by decide) rfl) (by decide) (by decide)) ?_
  rintro _ _ ⟨rfl, rfl⟩ _ _
  rw [awake_pick]
  have l7 := l6.trans l0
  clear l6 l0 g0
  repeat' (first
      | (refine sops_cons (fun R hR => ?_); simp [Nat.add_zero]; try simp (disch := omega) only [if_pos, if_neg])
      | (refine sqops_cons (fun R hR => ?_); simp [Nat.add_zero]; try simp (disch := omega) only [if_pos, if_neg])
      | (refine hR _ _ ?_; clear hR R) | (refine hR _ ?_; clear hR R)
      | (refine hK _ _ ?_; clear hK K) | (refine hK _ ?_; clear hK K)
      | refine sops_nil ?_
      | refine sqops_nil ?_
      | (refine awp_rs (fun K hK => ?_); simp only [slim, slimL, slimG, List.map_cons, List.map_nil, Option.map_none, Option.map_some, List.getElem?_toArray, List.getElem?_cons_zero, List.getElem?_cons_succ, Option.bind_some])
      | (refine awp_r1 (fun K hK => ?_); simp only [slim, slimL, slimG, List.map_cons, List.map_nil, Option.map_none, Option.map_some, List.getElem?_toArray, List.getElem?_cons_zero, List.getElem?_cons_succ, Option.bind_some])
      | (refine awp_ds (by kernel_rfl) (by kernel_rfl) (fun K hK => ?_); simp only [slim, slimL, slimG, List.map_cons, List.map_nil, Option.map_none, Option.map_some, List.getElem?_toArray, List.getElem?_cons_zero, List.getElem?_cons_succ, Option.bind_some])
      | (refine awp_d1 (by kernel_rfl) (by kernel_rfl) (fun K hK => ?_); simp only [slim, slimL, slimG, List.map_cons, List.map_nil, Option.map_none, Option.map_some, List.getElem?_toArray, List.getElem?_cons_zero, List.getElem?_cons_succ, Option.bind_some])
      | refine awp_block ?_
      | refine awp_ret ?_
      | refine awp_skip ?_
      | refine awp_exit ?_
      | ((refine awp_cond rfl (fun hc => ?_) (fun hc => ?_)) <;> (try simp at hc) <;> (try omega))
      | ((refine awp_cond (by simp only [evF_tmp, evF_const, upd_apply, ↓reduceIte, Nat.reduceEqDiff, Nat.add_zero]; rfl) (fun hc => ?_) (fun hc => ?_)) <;> (try simp at hc) <;> (try omega))
      | refine awp_seq ?_
      | ((refine ite_both (fun hc => ?_) (fun hc => ?_)) <;> (try omega) <;> (try simp (disch := omega) only [if_pos, if_neg])))
  simpa using l7

end Go.Stx
