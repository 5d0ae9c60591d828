/-
  FairMakes returns true, whatever its arguments are: Pick and Make return the picks and the errors of the reference.
-/
import Derived.Test.YtbheeehnocnhmaaFairE
namespace Go.Stx
open Go Go.Proofs
set_option linter.unusedVariables false
set_option linter.unusedSimpArgs false


theorem lists_short (t w len : Int) (free : List Int) : (if makeE t w len = 0 then makeF t w free len.toNat else []).length < 2 ^ 62 := by
  split
  · rename_i h
    rw [makeF_length]
    unfold makeE at h
    split at h
    · omega
    · split at h <;> omega
  · simp

set_option maxHeartbeats 1000000 in
theorem fairMakes_call (t w k len : Int) (small : Bool) (vf : Value) (free : List Int) (A : AW) (hf : IsInts A .i64 vf free) (hk : k ≤ 9223372036854775807) :
    ACall Try.prog 3 [.int .i64 t, .int .i64 w, vf, .int .i64 k, .int .i64 len, .bool small] A (fun v A' => v = .bool true ∧ A.le A') := by
  refine acall_intro Try.func3 rfl (by kernel_rfl) fun hw => ?_
  obtain ⟨of, cf, rfl, _⟩ := hf.form
  by_cases hl : 30 < free.length
  · repeat' (first
      | (refine sops_cons (fun R hR => ?_); simp [hl]; try simp (disch := omega) only [if_pos, if_neg])
      | (refine sqops_cons (fun R hR => ?_); simp [hl]; try simp (disch := omega) only [if_pos, if_neg])
      | (refine hR _ _ ?_; clear hR R) | (refine hR _ ?_; clear hR R)
      | (refine hK _ _ ?_; clear hK K) | (refine hK _ ?_; clear hK K)
      | refine sops_nil ?_
      | refine sqops_nil ?_
      | (refine awp_rs (fun K hK => ?_); simp only [slim, slimL, slimG, List.map_cons, List.map_nil, Option.map_none, Option.map_some, List.getElem?_toArray, List.getElem?_cons_zero, List.getElem?_cons_succ, Option.bind_some])
      | (refine awp_r1 (fun K hK => ?_); simp only [slim, slimL, slimG, List.map_cons, List.map_nil, Option.map_none, Option.map_some, List.getElem?_toArray, List.getElem?_cons_zero, List.getElem?_cons_succ, Option.bind_some])
      | (refine awp_ds (by kernel_rfl) (by kernel_rfl) (fun K hK => ?_); simp only [slim, slimL, slimG, List.map_cons, List.map_nil, Option.map_none, Option.map_some, List.getElem?_toArray, List.getElem?_cons_zero, List.getElem?_cons_succ, Option.bind_some])
      | (refine awp_d1 (by kernel_rfl) (by kernel_rfl) (fun K hK => ?_); simp only [slim, slimL, slimG, List.map_cons, List.map_nil, Option.map_none, Option.map_some, List.getElem?_toArray, List.getElem?_cons_zero, List.getElem?_cons_succ, Option.bind_some])
      | refine awp_block ?_
      | refine awp_ret ?_
      | refine awp_skip ?_
      | refine awp_exit ?_
      | ((refine awp_cond rfl (fun hc => ?_) (fun hc => ?_)) <;> (try simp at hc) <;> (try omega))
      | ((refine awp_cond (by simp only [evF_tmp, evF_const, upd_apply, ↓reduceIte, Nat.reduceEqDiff, hl]; rfl) (fun hc => ?_) (fun hc => ?_)) <;> (try simp at hc) <;> (try omega))
      | refine awp_seq ?_
      | ((refine ite_both (fun hc => ?_) (fun hc => ?_)) <;> (try omega) <;> (try simp (disch := omega) only [if_pos, if_neg])))
    refine callK (awake_call A) ?_
    rintro _ A1 ⟨rfl, l1⟩ w1 _
    repeat' (first
        | (refine sops_cons (fun R hR => ?_); simp [hl]; try simp (disch := omega) only [if_pos, if_neg])
        | (refine sqops_cons (fun R hR => ?_); simp [hl]; try simp (disch := omega) only [if_pos, if_neg])
        | (refine hR _ _ ?_; clear hR R) | (refine hR _ ?_; clear hR R)
        | (refine hK _ _ ?_; clear hK K) | (refine hK _ ?_; clear hK K)
        | refine sops_nil ?_
        | refine sqops_nil ?_
        | (refine awp_rs (fun K hK => ?_); simp only [slim, slimL, slimG, List.map_cons, List.map_nil, Option.map_none, Option.map_some, List.getElem?_toArray, List.getElem?_cons_zero, List.getElem?_cons_succ, Option.bind_some])
        | (refine awp_r1 (fun K hK => ?_); simp only [slim, slimL, slimG, List.map_cons, List.map_nil, Option.map_none, Option.map_some, List.getElem?_toArray, List.getElem?_cons_zero, List.getElem?_cons_succ, Option.bind_some])
        | (refine awp_ds (by kernel_rfl) (by kernel_rfl) (fun K hK => ?_); simp only [slim, slimL, slimG, List.map_cons, List.map_nil, Option.map_none, Option.map_some, List.getElem?_toArray, List.getElem?_cons_zero, List.getElem?_cons_succ, Option.bind_some])
        | (refine awp_d1 (by kernel_rfl) (by kernel_rfl) (fun K hK => ?_); simp only [slim, slimL, slimG, List.map_cons, List.map_nil, Option.map_none, Option.map_some, List.getElem?_toArray, List.getElem?_cons_zero, List.getElem?_cons_succ, Option.bind_some])
        | refine awp_block ?_
        | refine awp_ret ?_
        | refine awp_skip ?_
        | refine awp_exit ?_
        | ((refine awp_cond rfl (fun hc => ?_) (fun hc => ?_)) <;> (try simp at hc) <;> (try omega))
        | ((refine awp_cond (by simp only [evF_tmp, evF_const, upd_apply, ↓reduceIte, Nat.reduceEqDiff, hl]; rfl) (fun hc => ?_) (fun hc => ?_)) <;> (try simp at hc) <;> (try omega))
        | refine awp_seq ?_
        | ((refine ite_both (fun hc => ?_) (fun hc => ?_)) <;> (try omega) <;> (try simp (disch := omega) only [if_pos, if_neg])))
    simpa using l1
  by_cases h3 : 3000 < len ∧ len ≤ 65536
  · obtain ⟨h31, h32⟩ := h3
    repeat' (first
        | (refine sops_cons (fun R hR => ?_); simp [hl, h31, h32]; try simp (disch := omega) only [if_pos, if_neg])
        | (refine sqops_cons (fun R hR => ?_); simp [hl, h31, h32]; try simp (disch := omega) only [if_pos, if_neg])
        | (refine hR _ _ ?_; clear hR R) | (refine hR _ ?_; clear hR R)
        | (refine hK _ _ ?_; clear hK K) | (refine hK _ ?_; clear hK K)
        | refine sops_nil ?_
        | refine sqops_nil ?_
        | (refine awp_rs (fun K hK => ?_); simp only [slim, slimL, slimG, List.map_cons, List.map_nil, Option.map_none, Option.map_some, List.getElem?_toArray, List.getElem?_cons_zero, List.getElem?_cons_succ, Option.bind_some])
        | (refine awp_r1 (fun K hK => ?_); simp only [slim, slimL, slimG, List.map_cons, List.map_nil, Option.map_none, Option.map_some, List.getElem?_toArray, List.getElem?_cons_zero, List.getElem?_cons_succ, Option.bind_some])
        | (refine awp_ds (by kernel_rfl) (by kernel_rfl) (fun K hK => ?_); simp only [slim, slimL, slimG, List.map_cons, List.map_nil, Option.map_none, Option.map_some, List.getElem?_toArray, List.getElem?_cons_zero, List.getElem?_cons_succ, Option.bind_some])
        | (refine awp_d1 (by kernel_rfl) (by kernel_rfl) (fun K hK => ?_); simp only [slim, slimL, slimG, List.map_cons, List.map_nil, Option.map_none, Option.map_some, List.getElem?_toArray, List.getElem?_cons_zero, List.getElem?_cons_succ, Option.bind_some])
        | refine awp_block ?_
        | refine awp_ret ?_
        | refine awp_skip ?_
        | refine awp_exit ?_
        | ((refine awp_cond rfl (fun hc => ?_) (fun hc => ?_)) <;> (try simp at hc) <;> (try omega))
        | ((refine awp_cond (by simp only [evF_tmp, evF_const, upd_apply, ↓reduceIte, Nat.reduceEqDiff, hl, h31, h32]; rfl) (fun hc => ?_) (fun hc => ?_)) <;> (try simp at hc) <;> (try omega))
        | refine awp_seq ?_
        | ((refine ite_both (fun hc => ?_) (fun hc => ?_)) <;> (try omega) <;> (try simp (disch := omega) only [if_pos, if_neg])))
    refine callK (awake_call A) ?_
    rintro _ A1 ⟨rfl, l1⟩ w1 _
    repeat' (first
        | (refine sops_cons (fun R hR => ?_); simp [hl]; try simp (disch := omega) only [if_pos, if_neg])
        | (refine sqops_cons (fun R hR => ?_); simp [hl]; try simp (disch := omega) only [if_pos, if_neg])
        | (refine hR _ _ ?_; clear hR R) | (refine hR _ ?_; clear hR R)
        | (refine hK _ _ ?_; clear hK K) | (refine hK _ ?_; clear hK K)
        | refine sops_nil ?_
        | refine sqops_nil ?_
        | (refine awp_rs (fun K hK => ?_); simp only [slim, slimL, slimG, List.map_cons, List.map_nil, Option.map_none, Option.map_some, List.getElem?_toArray, List.getElem?_cons_zero, List.getElem?_cons_succ, Option.bind_some])
        | (refine awp_r1 (fun K hK => ?_); simp only [slim, slimL, slimG, List.map_cons, List.map_nil, Option.map_none, Option.map_some, List.getElem?_toArray, List.getElem?_cons_zero, List.getElem?_cons_succ, Option.bind_some])
        | (refine awp_ds (by kernel_rfl) (by kernel_rfl) (fun K hK => ?_); simp only [slim, slimL, slimG, List.map_cons, List.map_nil, Option.map_none, Option.map_some, List.getElem?_toArray, List.getElem?_cons_zero, List.getElem?_cons_succ, Option.bind_some])
        | (refine awp_d1 (by kernel_rfl) (by kernel_rfl) (fun K hK => ?_); simp only [slim, slimL, slimG, List.map_cons, List.map_nil, Option.map_none, Option.map_some, List.getElem?_toArray, List.getElem?_cons_zero, List.getElem?_cons_succ, Option.bind_some])
        | refine awp_block ?_
        | refine awp_ret ?_
        | refine awp_skip ?_
        | refine awp_exit ?_
        | ((refine awp_cond rfl (fun hc => ?_) (fun hc => ?_)) <;> (try simp at hc) <;> (try omega))
        | ((refine awp_cond (by simp only [evF_tmp, evF_const, upd_apply, ↓reduceIte, Nat.reduceEqDiff, hl]; rfl) (fun hc => ?_) (fun hc => ?_)) <;> (try simp at hc) <;> (try omega))
        | refine awp_seq ?_
        | ((refine ite_both (fun hc => ?_) (fun hc => ?_)) <;> (try omega) <;> (try simp (disch := omega) only [if_pos, if_neg])))
    simpa using l1
  have hbd : 3000 < len → ¬ len ≤ 65536 := fun h e => h3 ⟨h, e⟩
  by_cases h31 : 3000 < len
  · have h32 := hbd h31
    cases small
    · repeat' (first
        | (refine sops_cons (fun R hR => ?_); simp [hl, h31, h32]; try simp (disch := omega) only [if_pos, if_neg])
        | (refine sqops_cons (fun R hR => ?_); simp [hl, h31, h32]; try simp (disch := omega) only [if_pos, if_neg])
        | (refine hR _ _ ?_; clear hR R) | (refine hR _ ?_; clear hR R)
        | (refine hK _ _ ?_; clear hK K) | (refine hK _ ?_; clear hK K)
        | refine sops_nil ?_
        | refine sqops_nil ?_
        | (refine awp_rs (fun K hK => ?_); simp only [slim, slimL, slimG, List.map_cons, List.map_nil, Option.map_none, Option.map_some, List.getElem?_toArray, List.getElem?_cons_zero, List.getElem?_cons_succ, Option.bind_some])
        | (refine awp_r1 (fun K hK => ?_); simp only [slim, slimL, slimG, List.map_cons, List.map_nil, Option.map_none, Option.map_some, List.getElem?_toArray, List.getElem?_cons_zero, List.getElem?_cons_succ, Option.bind_some])
        | (refine awp_ds (by kernel_rfl) (by kernel_rfl) (fun K hK => ?_); simp only [slim, slimL, slimG, List.map_cons, List.map_nil, Option.map_none, Option.map_some, List.getElem?_toArray, List.getElem?_cons_zero, List.getElem?_cons_succ, Option.bind_some])
        | (refine awp_d1 (by kernel_rfl) (by kernel_rfl) (fun K hK => ?_); simp only [slim, slimL, slimG, List.map_cons, List.map_nil, Option.map_none, Option.map_some, List.getElem?_toArray, List.getElem?_cons_zero, List.getElem?_cons_succ, Option.bind_some])
        | refine awp_block ?_
        | refine awp_ret ?_
        | refine awp_skip ?_
        | refine awp_exit ?_
        | ((refine awp_cond rfl (fun hc => ?_) (fun hc => ?_)) <;> (try simp at hc) <;> (try omega))
        | ((refine awp_cond (by simp only [evF_tmp, evF_const, upd_apply, ↓reduceIte, Nat.reduceEqDiff, hl, h31, h32]; rfl) (fun hc => ?_) (fun hc => ?_)) <;> (try simp at hc) <;> (try omega))
        | refine awp_seq ?_
        | ((refine ite_both (fun hc => ?_) (fun hc => ?_)) <;> (try omega) <;> (try simp (disch := omega) only [if_pos, if_neg])))
      refine callK (make_call _ _ _ _ free _ hf (by omega)) ?_
      rintro _ A1 ⟨sv, rfl, hI, l1⟩ w1 _
      repeat' (first
          | (refine sops_cons (fun R hR => ?_); simp [hl]; try simp (disch := omega) only [if_pos, if_neg])
          | (refine sqops_cons (fun R hR => ?_); simp [hl]; try simp (disch := omega) only [if_pos, if_neg])
          | (refine hR _ _ ?_; clear hR R) | (refine hR _ ?_; clear hR R)
          | (refine hK _ _ ?_; clear hK K) | (refine hK _ ?_; clear hK K)
          | refine sops_nil ?_
          | refine sqops_nil ?_
          | (refine awp_rs (fun K hK => ?_); simp only [slim, slimL, slimG, List.map_cons, List.map_nil, Option.map_none, Option.map_some, List.getElem?_toArray, List.getElem?_cons_zero, List.getElem?_cons_succ, Option.bind_some])
          | (refine awp_r1 (fun K hK => ?_); simp only [slim, slimL, slimG, List.map_cons, List.map_nil, Option.map_none, Option.map_some, List.getElem?_toArray, List.getElem?_cons_zero, List.getElem?_cons_succ, Option.bind_some])
          | (refine awp_ds (by kernel_rfl) (by kernel_rfl) (fun K hK => ?_); simp only [slim, slimL, slimG, List.map_cons, List.map_nil, Option.map_none, Option.map_some, List.getElem?_toArray, List.getElem?_cons_zero, List.getElem?_cons_succ, Option.bind_some])
          | (refine awp_d1 (by kernel_rfl) (by kernel_rfl) (fun K hK => ?_); simp only [slim, slimL, slimG, List.map_cons, List.map_nil, Option.map_none, Option.map_some, List.getElem?_toArray, List.getElem?_cons_zero, List.getElem?_cons_succ, Option.bind_some])
          | refine awp_block ?_
          | refine awp_ret ?_
          | refine awp_skip ?_
          | refine awp_exit ?_
          | ((refine awp_cond rfl (fun hc => ?_) (fun hc => ?_)) <;> (try simp at hc) <;> (try omega))
          | ((refine awp_cond (by simp only [evF_tmp, evF_const, upd_apply, ↓reduceIte, Nat.reduceEqDiff, hl]; rfl) (fun hc => ?_) (fun hc => ?_)) <;> (try simp at hc) <;> (try omega))
          | refine awp_seq ?_
          | ((refine ite_both (fun hc => ?_) (fun hc => ?_)) <;> (try omega) <;> (try simp (disch := omega) only [if_pos, if_neg])))
      refine callK (refMake_call _ _ _ _ free _ (hf.le l1 hw) (by omega)) ?_
      rintro _ A2 ⟨sv2, rfl, hI2, l2⟩ w2 _
      have hI1 := hI.le l2 w1
      have hf2 := (hf.le l1 hw).le l2 w1
      have l3 := l1.trans l2
      clear hI l1 l2 w1
      repeat' (first
          | (refine sops_cons (fun R hR => ?_); simp [hl]; try simp (disch := omega) only [if_pos, if_neg])
          | (refine sqops_cons (fun R hR => ?_); simp [hl]; try simp (disch := omega) only [if_pos, if_neg])
          | (refine hR _ _ ?_; clear hR R) | (refine hR _ ?_; clear hR R)
          | (refine hK _ _ ?_; clear hK K) | (refine hK _ ?_; clear hK K)
          | refine sops_nil ?_
          | refine sqops_nil ?_
          | (refine awp_rs (fun K hK => ?_); simp only [slim, slimL, slimG, List.map_cons, List.map_nil, Option.map_none, Option.map_some, List.getElem?_toArray, List.getElem?_cons_zero, List.getElem?_cons_succ, Option.bind_some])
          | (refine awp_r1 (fun K hK => ?_); simp only [slim, slimL, slimG, List.map_cons, List.map_nil, Option.map_none, Option.map_some, List.getElem?_toArray, List.getElem?_cons_zero, List.getElem?_cons_succ, Option.bind_some])
          | (refine awp_ds (by kernel_rfl) (by kernel_rfl) (fun K hK => ?_); simp only [slim, slimL, slimG, List.map_cons, List.map_nil, Option.map_none, Option.map_some, List.getElem?_toArray, List.getElem?_cons_zero, List.getElem?_cons_succ, Option.bind_some])
          | (refine awp_d1 (by kernel_rfl) (by kernel_rfl) (fun K hK => ?_); simp only [slim, slimL, slimG, List.map_cons, List.map_nil, Option.map_none, Option.map_some, List.getElem?_toArray, List.getElem?_cons_zero, List.getElem?_cons_succ, Option.bind_some])
          | (refine callK (pick_call _ _ _ _ free _ hf2 (by omega) hk) ?_; rintro _ _ ⟨rfl, rfl⟩ _ _)
          | (refine callK (refPick_call _ _ _ _ free _ hf2 (by omega) hk) ?_; rintro _ _ ⟨rfl, rfl⟩ _ _)
          | (refine callK (ints_call _ _ _ _ _ hI1 hI2 (lists_short _ _ _ free)) ?_; rintro _ _ ⟨rfl, rfl⟩ _ _)
          | refine awp_block ?_
          | refine awp_ret ?_
          | refine awp_skip ?_
          | refine awp_exit ?_
          | ((refine awp_cond rfl (fun hc => ?_) (fun hc => ?_)) <;> (try simp at hc) <;> (try omega))
          | ((refine awp_cond (by simp only [evF_tmp, evF_const, upd_apply, ↓reduceIte, Nat.reduceEqDiff, hl]; rfl) (fun hc => ?_) (fun hc => ?_)) <;> (try simp at hc) <;> (try omega))
          | refine awp_seq ?_
          | ((refine ite_both (fun hc => ?_) (fun hc => ?_)) <;> (try omega) <;> (try simp (disch := omega) only [if_pos, if_neg])))
      refine callK (awake_call A2) ?_
      rintro _ A3 ⟨rfl, l4⟩ w3 _
      have l5 := l3.trans l4
      repeat' (first
          | (refine sops_cons (fun R hR => ?_); simp [hl]; try simp (disch := omega) only [if_pos, if_neg])
          | (refine sqops_cons (fun R hR => ?_); simp [hl]; try simp (disch := omega) only [if_pos, if_neg])
          | (refine hR _ _ ?_; clear hR R) | (refine hR _ ?_; clear hR R)
          | (refine hK _ _ ?_; clear hK K) | (refine hK _ ?_; clear hK K)
          | refine sops_nil ?_
          | refine sqops_nil ?_
          | (refine awp_rs (fun K hK => ?_); simp only [slim, slimL, slimG, List.map_cons, List.map_nil, Option.map_none, Option.map_some, List.getElem?_toArray, List.getElem?_cons_zero, List.getElem?_cons_succ, Option.bind_some])
          | (refine awp_r1 (fun K hK => ?_); simp only [slim, slimL, slimG, List.map_cons, List.map_nil, Option.map_none, Option.map_some, List.getElem?_toArray, List.getElem?_cons_zero, List.getElem?_cons_succ, Option.bind_some])
          | (refine awp_ds (by kernel_rfl) (by kernel_rfl) (fun K hK => ?_); simp only [slim, slimL, slimG, List.map_cons, List.map_nil, Option.map_none, Option.map_some, List.getElem?_toArray, List.getElem?_cons_zero, List.getElem?_cons_succ, Option.bind_some])
          | (refine awp_d1 (by kernel_rfl) (by kernel_rfl) (fun K hK => ?_); simp only [slim, slimL, slimG, List.map_cons, List.map_nil, Option.map_none, Option.map_some, List.getElem?_toArray, List.getElem?_cons_zero, List.getElem?_cons_succ, Option.bind_some])
          | refine awp_block ?_
          | refine awp_ret ?_
          | refine awp_skip ?_
          | refine awp_exit ?_
          | ((refine awp_cond rfl (fun hc => ?_) (fun hc => ?_)) <;> (try simp at hc) <;> (try omega))
          | ((refine awp_cond (by simp only [evF_tmp, evF_const, upd_apply, ↓reduceIte, Nat.reduceEqDiff, hl]; rfl) (fun hc => ?_) (fun hc => ?_)) <;> (try simp at hc) <;> (try omega))
          | refine awp_seq ?_
          | ((refine ite_both (fun hc => ?_) (fun hc => ?_)) <;> (try omega) <;> (try simp (disch := omega) only [if_pos, if_neg])))
      simpa using l5
    · repeat' (first
        | (refine sops_cons (fun R hR => ?_); simp [hl, h31, h32]; try simp (disch := omega) only [if_pos, if_neg])
        | (refine sqops_cons (fun R hR => ?_); simp [hl, h31, h32]; try simp (disch := omega) only [if_pos, if_neg])
        | (refine hR _ _ ?_; clear hR R) | (refine hR _ ?_; clear hR R)
        | (refine hK _ _ ?_; clear hK K) | (refine hK _ ?_; clear hK K)
        | refine sops_nil ?_
        | refine sqops_nil ?_
        | (refine awp_rs (fun K hK => ?_); simp only [slim, slimL, slimG, List.map_cons, List.map_nil, Option.map_none, Option.map_some, List.getElem?_toArray, List.getElem?_cons_zero, List.getElem?_cons_succ, Option.bind_some])
        | (refine awp_r1 (fun K hK => ?_); simp only [slim, slimL, slimG, List.map_cons, List.map_nil, Option.map_none, Option.map_some, List.getElem?_toArray, List.getElem?_cons_zero, List.getElem?_cons_succ, Option.bind_some])
        | (refine awp_ds (by kernel_rfl) (by kernel_rfl) (fun K hK => ?_); simp only [slim, slimL, slimG, List.map_cons, List.map_nil, Option.map_none, Option.map_some, List.getElem?_toArray, List.getElem?_cons_zero, List.getElem?_cons_succ, Option.bind_some])
        | (refine awp_d1 (by kernel_rfl) (by kernel_rfl) (fun K hK => ?_); simp only [slim, slimL, slimG, List.map_cons, List.map_nil, Option.map_none, Option.map_some, List.getElem?_toArray, List.getElem?_cons_zero, List.getElem?_cons_succ, Option.bind_some])
        | (refine callK (place_call _ _ _ (by omega) (by omega)) ?_; rintro _ _ ⟨rfl, rfl⟩ _ _)
        | refine awp_block ?_
        | refine awp_ret ?_
        | refine awp_skip ?_
        | refine awp_exit ?_
        | ((refine awp_cond rfl (fun hc => ?_) (fun hc => ?_)) <;> (try simp at hc) <;> (try omega))
        | ((refine awp_cond (by simp only [evF_tmp, evF_const, upd_apply, ↓reduceIte, Nat.reduceEqDiff, hl, h31, h32]; rfl) (fun hc => ?_) (fun hc => ?_)) <;> (try simp at hc) <;> (try omega))
        | refine awp_seq ?_
        | ((refine ite_both (fun hc => ?_) (fun hc => ?_)) <;> (try omega) <;> (try simp (disch := omega) only [if_pos, if_neg])))
      refine callK (make_call _ _ _ _ free _ hf (by omega)) ?_
      rintro _ A1 ⟨sv, rfl, hI, l1⟩ w1 _
      repeat' (first
          | (refine sops_cons (fun R hR => ?_); simp [hl]; try simp (disch := omega) only [if_pos, if_neg])
          | (refine sqops_cons (fun R hR => ?_); simp [hl]; try simp (disch := omega) only [if_pos, if_neg])
          | (refine hR _ _ ?_; clear hR R) | (refine hR _ ?_; clear hR R)
          | (refine hK _ _ ?_; clear hK K) | (refine hK _ ?_; clear hK K)
          | refine sops_nil ?_
          | refine sqops_nil ?_
          | (refine awp_rs (fun K hK => ?_); simp only [slim, slimL, slimG, List.map_cons, List.map_nil, Option.map_none, Option.map_some, List.getElem?_toArray, List.getElem?_cons_zero, List.getElem?_cons_succ, Option.bind_some])
          | (refine awp_r1 (fun K hK => ?_); simp only [slim, slimL, slimG, List.map_cons, List.map_nil, Option.map_none, Option.map_some, List.getElem?_toArray, List.getElem?_cons_zero, List.getElem?_cons_succ, Option.bind_some])
          | (refine awp_ds (by kernel_rfl) (by kernel_rfl) (fun K hK => ?_); simp only [slim, slimL, slimG, List.map_cons, List.map_nil, Option.map_none, Option.map_some, List.getElem?_toArray, List.getElem?_cons_zero, List.getElem?_cons_succ, Option.bind_some])
          | (refine awp_d1 (by kernel_rfl) (by kernel_rfl) (fun K hK => ?_); simp only [slim, slimL, slimG, List.map_cons, List.map_nil, Option.map_none, Option.map_some, List.getElem?_toArray, List.getElem?_cons_zero, List.getElem?_cons_succ, Option.bind_some])
          | refine awp_block ?_
          | refine awp_ret ?_
          | refine awp_skip ?_
          | refine awp_exit ?_
          | ((refine awp_cond rfl (fun hc => ?_) (fun hc => ?_)) <;> (try simp at hc) <;> (try omega))
          | ((refine awp_cond (by simp only [evF_tmp, evF_const, upd_apply, ↓reduceIte, Nat.reduceEqDiff, hl]; rfl) (fun hc => ?_) (fun hc => ?_)) <;> (try simp at hc) <;> (try omega))
          | refine awp_seq ?_
          | ((refine ite_both (fun hc => ?_) (fun hc => ?_)) <;> (try omega) <;> (try simp (disch := omega) only [if_pos, if_neg])))
      refine callK (refMake_call _ _ _ _ free _ (hf.le l1 hw) (by omega)) ?_
      rintro _ A2 ⟨sv2, rfl, hI2, l2⟩ w2 _
      have hI1 := hI.le l2 w1
      have hf2 := (hf.le l1 hw).le l2 w1
      have l3 := l1.trans l2
      clear hI l1 l2 w1
      repeat' (first
          | (refine sops_cons (fun R hR => ?_); simp [hl]; try simp (disch := omega) only [if_pos, if_neg])
          | (refine sqops_cons (fun R hR => ?_); simp [hl]; try simp (disch := omega) only [if_pos, if_neg])
          | (refine hR _ _ ?_; clear hR R) | (refine hR _ ?_; clear hR R)
          | (refine hK _ _ ?_; clear hK K) | (refine hK _ ?_; clear hK K)
          | refine sops_nil ?_
          | refine sqops_nil ?_
          | (refine awp_rs (fun K hK => ?_); simp only [slim, slimL, slimG, List.map_cons, List.map_nil, Option.map_none, Option.map_some, List.getElem?_toArray, List.getElem?_cons_zero, List.getElem?_cons_succ, Option.bind_some])
          | (refine awp_r1 (fun K hK => ?_); simp only [slim, slimL, slimG, List.map_cons, List.map_nil, Option.map_none, Option.map_some, List.getElem?_toArray, List.getElem?_cons_zero, List.getElem?_cons_succ, Option.bind_some])
          | (refine awp_ds (by kernel_rfl) (by kernel_rfl) (fun K hK => ?_); simp only [slim, slimL, slimG, List.map_cons, List.map_nil, Option.map_none, Option.map_some, List.getElem?_toArray, List.getElem?_cons_zero, List.getElem?_cons_succ, Option.bind_some])
          | (refine awp_d1 (by kernel_rfl) (by kernel_rfl) (fun K hK => ?_); simp only [slim, slimL, slimG, List.map_cons, List.map_nil, Option.map_none, Option.map_some, List.getElem?_toArray, List.getElem?_cons_zero, List.getElem?_cons_succ, Option.bind_some])
          | (refine callK (pick_call _ _ _ _ free _ hf2 (by omega) hk) ?_; rintro _ _ ⟨rfl, rfl⟩ _ _)
          | (refine callK (refPick_call _ _ _ _ free _ hf2 (by omega) hk) ?_; rintro _ _ ⟨rfl, rfl⟩ _ _)
          | (refine callK (ints_call _ _ _ _ _ hI1 hI2 (lists_short _ _ _ free)) ?_; rintro _ _ ⟨rfl, rfl⟩ _ _)
          | refine awp_block ?_
          | refine awp_ret ?_
          | refine awp_skip ?_
          | refine awp_exit ?_
          | ((refine awp_cond rfl (fun hc => ?_) (fun hc => ?_)) <;> (try simp at hc) <;> (try omega))
          | ((refine awp_cond (by simp only [evF_tmp, evF_const, upd_apply, ↓reduceIte, Nat.reduceEqDiff, hl]; rfl) (fun hc => ?_) (fun hc => ?_)) <;> (try simp at hc) <;> (try omega))
          | refine awp_seq ?_
          | ((refine ite_both (fun hc => ?_) (fun hc => ?_)) <;> (try omega) <;> (try simp (disch := omega) only [if_pos, if_neg])))
      refine callK (awake_call A2) ?_
      rintro _ A3 ⟨rfl, l4⟩ w3 _
      have l5 := l3.trans l4
      repeat' (first
          | (refine sops_cons (fun R hR => ?_); simp [hl]; try simp (disch := omega) only [if_pos, if_neg])
          | (refine sqops_cons (fun R hR => ?_); simp [hl]; try simp (disch := omega) only [if_pos, if_neg])
          | (refine hR _ _ ?_; clear hR R) | (refine hR _ ?_; clear hR R)
          | (refine hK _ _ ?_; clear hK K) | (refine hK _ ?_; clear hK K)
          | refine sops_nil ?_
          | refine sqops_nil ?_
          | (refine awp_rs (fun K hK => ?_); simp only [slim, slimL, slimG, List.map_cons, List.map_nil, Option.map_none, Option.map_some, List.getElem?_toArray, List.getElem?_cons_zero, List.getElem?_cons_succ, Option.bind_some])
          | (refine awp_r1 (fun K hK => ?_); simp only [slim, slimL, slimG, List.map_cons, List.map_nil, Option.map_none, Option.map_some, List.getElem?_toArray, List.getElem?_cons_zero, List.getElem?_cons_succ, Option.bind_some])
          | (refine awp_ds (by kernel_rfl) (by kernel_rfl) (fun K hK => ?_); simp only [slim, slimL, slimG, List.map_cons, List.map_nil, Option.map_none, Option.map_some, List.getElem?_toArray, List.getElem?_cons_zero, List.getElem?_cons_succ, Option.bind_some])
          | (refine awp_d1 (by kernel_rfl) (by kernel_rfl) (fun K hK => ?_); simp only [slim, slimL, slimG, List.map_cons, List.map_nil, Option.map_none, Option.map_some, List.getElem?_toArray, List.getElem?_cons_zero, List.getElem?_cons_succ, Option.bind_some])
          | refine awp_block ?_
          | refine awp_ret ?_
          | refine awp_skip ?_
          | refine awp_exit ?_
          | ((refine awp_cond rfl (fun hc => ?_) (fun hc => ?_)) <;> (try simp at hc) <;> (try omega))
          | ((refine awp_cond (by simp only [evF_tmp, evF_const, upd_apply, ↓reduceIte, Nat.reduceEqDiff, hl]; rfl) (fun hc => ?_) (fun hc => ?_)) <;> (try simp at hc) <;> (try omega))
          | refine awp_seq ?_
          | ((refine ite_both (fun hc => ?_) (fun hc => ?_)) <;> (try omega) <;> (try simp (disch := omega) only [if_pos, if_neg])))
      simpa using l5
  · cases small
    · repeat' (first
        | (refine sops_cons (fun R hR => ?_); simp [hl, h31]; try simp (disch := omega) only [if_pos, if_neg])
        | (refine sqops_cons (fun R hR => ?_); simp [hl, h31]; try simp (disch := omega) only [if_pos, if_neg])
        | (refine hR _ _ ?_; clear hR R) | (refine hR _ ?_; clear hR R)
        | (refine hK _ _ ?_; clear hK K) | (refine hK _ ?_; clear hK K)
        | refine sops_nil ?_
        | refine sqops_nil ?_
        | (refine awp_rs (fun K hK => ?_); simp only [slim, slimL, slimG, List.map_cons, List.map_nil, Option.map_none, Option.map_some, List.getElem?_toArray, List.getElem?_cons_zero, List.getElem?_cons_succ, Option.bind_some])
        | (refine awp_r1 (fun K hK => ?_); simp only [slim, slimL, slimG, List.map_cons, List.map_nil, Option.map_none, Option.map_some, List.getElem?_toArray, List.getElem?_cons_zero, List.getElem?_cons_succ, Option.bind_some])
        | (refine awp_ds (by kernel_rfl) (by kernel_rfl) (fun K hK => ?_); simp only [slim, slimL, slimG, List.map_cons, List.map_nil, Option.map_none, Option.map_some, List.getElem?_toArray, List.getElem?_cons_zero, List.getElem?_cons_succ, Option.bind_some])
        | (refine awp_d1 (by kernel_rfl) (by kernel_rfl) (fun K hK => ?_); simp only [slim, slimL, slimG, List.map_cons, List.map_nil, Option.map_none, Option.map_some, List.getElem?_toArray, List.getElem?_cons_zero, List.getElem?_cons_succ, Option.bind_some])
        | refine awp_block ?_
        | refine awp_ret ?_
        | refine awp_skip ?_
        | refine awp_exit ?_
        | ((refine awp_cond rfl (fun hc => ?_) (fun hc => ?_)) <;> (try simp at hc) <;> (try omega))
        | ((refine awp_cond (by simp only [evF_tmp, evF_const, upd_apply, ↓reduceIte, Nat.reduceEqDiff, hl, h31]; rfl) (fun hc => ?_) (fun hc => ?_)) <;> (try simp at hc) <;> (try omega))
        | refine awp_seq ?_
        | ((refine ite_both (fun hc => ?_) (fun hc => ?_)) <;> (try omega) <;> (try simp (disch := omega) only [if_pos, if_neg])))
      refine callK (make_call _ _ _ _ free _ hf (by omega)) ?_
      rintro _ A1 ⟨sv, rfl, hI, l1⟩ w1 _
      repeat' (first
          | (refine sops_cons (fun R hR => ?_); simp [hl]; try simp (disch := omega) only [if_pos, if_neg])
          | (refine sqops_cons (fun R hR => ?_); simp [hl]; try simp (disch := omega) only [if_pos, if_neg])
          | (refine hR _ _ ?_; clear hR R) | (refine hR _ ?_; clear hR R)
          | (refine hK _ _ ?_; clear hK K) | (refine hK _ ?_; clear hK K)
          | refine sops_nil ?_
          | refine sqops_nil ?_
          | (refine awp_rs (fun K hK => ?_); simp only [slim, slimL, slimG, List.map_cons, List.map_nil, Option.map_none, Option.map_some, List.getElem?_toArray, List.getElem?_cons_zero, List.getElem?_cons_succ, Option.bind_some])
          | (refine awp_r1 (fun K hK => ?_); simp only [slim, slimL, slimG, List.map_cons, List.map_nil, Option.map_none, Option.map_some, List.getElem?_toArray, List.getElem?_cons_zero, List.getElem?_cons_succ, Option.bind_some])
          | (refine awp_ds (by kernel_rfl) (by kernel_rfl) (fun K hK => ?_); simp only [slim, slimL, slimG, List.map_cons, List.map_nil, Option.map_none, Option.map_some, List.getElem?_toArray, List.getElem?_cons_zero, List.getElem?_cons_succ, Option.bind_some])
          | (refine awp_d1 (by kernel_rfl) (by kernel_rfl) (fun K hK => ?_); simp only [slim, slimL, slimG, List.map_cons, List.map_nil, Option.map_none, Option.map_some, List.getElem?_toArray, List.getElem?_cons_zero, List.getElem?_cons_succ, Option.bind_some])
          | refine awp_block ?_
          | refine awp_ret ?_
          | refine awp_skip ?_
          | refine awp_exit ?_
          | ((refine awp_cond rfl (fun hc => ?_) (fun hc => ?_)) <;> (try simp at hc) <;> (try omega))
          | ((refine awp_cond (by simp only [evF_tmp, evF_const, upd_apply, ↓reduceIte, Nat.reduceEqDiff, hl]; rfl) (fun hc => ?_) (fun hc => ?_)) <;> (try simp at hc) <;> (try omega))
          | refine awp_seq ?_
          | ((refine ite_both (fun hc => ?_) (fun hc => ?_)) <;> (try omega) <;> (try simp (disch := omega) only [if_pos, if_neg])))
      refine callK (refMake_call _ _ _ _ free _ (hf.le l1 hw) (by omega)) ?_
      rintro _ A2 ⟨sv2, rfl, hI2, l2⟩ w2 _
      have hI1 := hI.le l2 w1
      have hf2 := (hf.le l1 hw).le l2 w1
      have l3 := l1.trans l2
      clear hI l1 l2 w1
      repeat' (first
          | (refine sops_cons (fun R hR => ?_); simp [hl]; try simp (disch := omega) only [if_pos, if_neg])
          | (refine sqops_cons (fun R hR => ?_); simp [hl]; try simp (disch := omega) only [if_pos, if_neg])
          | (refine hR _ _ ?_; clear hR R) | (refine hR _ ?_; clear hR R)
          | (refine hK _ _ ?_; clear hK K) | (refine hK _ ?_; clear hK K)
          | refine sops_nil ?_
          | refine sqops_nil ?_
          | (refine awp_rs (fun K hK => ?_); simp only [slim, slimL, slimG, List.map_cons, List.map_nil, Option.map_none, Option.map_some, List.getElem?_toArray, List.getElem?_cons_zero, List.getElem?_cons_succ, Option.bind_some])
          | (refine awp_r1 (fun K hK => ?_); simp only [slim, slimL, slimG, List.map_cons, List.map_nil, Option.map_none, Option.map_some, List.getElem?_toArray, List.getElem?_cons_zero, List.getElem?_cons_succ, Option.bind_some])
          | (refine awp_ds (by kernel_rfl) (by kernel_rfl) (fun K hK => ?_); simp only [slim, slimL, slimG, List.map_cons, List.map_nil, Option.map_none, Option.map_some, List.getElem?_toArray, List.getElem?_cons_zero, List.getElem?_cons_succ, Option.bind_some])
          | (refine awp_d1 (by kernel_rfl) (by kernel_rfl) (fun K hK => ?_); simp only [slim, slimL, slimG, List.map_cons, List.map_nil, Option.map_none, Option.map_some, List.getElem?_toArray, List.getElem?_cons_zero, List.getElem?_cons_succ, Option.bind_some])
          | (refine callK (pick_call _ _ _ _ free _ hf2 (by omega) hk) ?_; rintro _ _ ⟨rfl, rfl⟩ _ _)
          | (refine callK (refPick_call _ _ _ _ free _ hf2 (by omega) hk) ?_; rintro _ _ ⟨rfl, rfl⟩ _ _)
          | (refine callK (ints_call _ _ _ _ _ hI1 hI2 (lists_short _ _ _ free)) ?_; rintro _ _ ⟨rfl, rfl⟩ _ _)
          | refine awp_block ?_
          | refine awp_ret ?_
          | refine awp_skip ?_
          | refine awp_exit ?_
          | ((refine awp_cond rfl (fun hc => ?_) (fun hc => ?_)) <;> (try simp at hc) <;> (try omega))
          | ((refine awp_cond (by simp only [evF_tmp, evF_const, upd_apply, ↓reduceIte, Nat.reduceEqDiff, hl]; rfl) (fun hc => ?_) (fun hc => ?_)) <;> (try simp at hc) <;> (try omega))
          | refine awp_seq ?_
          | ((refine ite_both (fun hc => ?_) (fun hc => ?_)) <;> (try omega) <;> (try simp (disch := omega) only [if_pos, if_neg])))
      refine callK (awake_call A2) ?_
      rintro _ A3 ⟨rfl, l4⟩ w3 _
      have l5 := l3.trans l4
      repeat' (first
          | (refine sops_cons (fun R hR => ?_); simp [hl]; try simp (disch := omega) only [if_pos, if_neg])
          | (refine sqops_cons (fun R hR => ?_); simp [hl]; try simp (disch := omega) only [if_pos, if_neg])
          | (refine hR _ _ ?_; clear hR R) | (refine hR _ ?_; clear hR R)
          | (refine hK _ _ ?_; clear hK K) | (refine hK _ ?_; clear hK K)
          | refine sops_nil ?_
          | refine sqops_nil ?_
          | (refine awp_rs (fun K hK => ?_); simp only [slim, slimL, slimG, List.map_cons, List.map_nil, Option.map_none, Option.map_some, List.getElem?_toArray, List.getElem?_cons_zero, List.getElem?_cons_succ, Option.bind_some])
          | (refine awp_r1 (fun K hK => ?_); simp only [slim, slimL, slimG, List.map_cons, List.map_nil, Option.map_none, Option.map_some, List.getElem?_toArray, List.getElem?_cons_zero, List.getElem?_cons_succ, Option.bind_some])
          | (refine awp_ds (by kernel_rfl) (by kernel_rfl) (fun K hK => ?_); simp only [slim, slimL, slimG, List.map_cons, List.map_nil, Option.map_none, Option.map_some, List.getElem?_toArray, List.getElem?_cons_zero, List.getElem?_cons_succ, Option.bind_some])
          | (refine awp_d1 (by kernel_rfl) (by kernel_rfl) (fun K hK => ?_); simp only [slim, slimL, slimG, List.map_cons, List.map_nil, Option.map_none, Option.map_some, List.getElem?_toArray, List.getElem?_cons_zero, List.getElem?_cons_succ, Option.bind_some])
          | refine awp_block ?_
          | refine awp_ret ?_
          | refine awp_skip ?_
          | refine awp_exit ?_
          | ((refine awp_cond rfl (fun hc => ?_) (fun hc => ?_)) <;> (try simp at hc) <;> (try omega))
          | ((refine awp_cond (by simp only [evF_tmp, evF_const, upd_apply, ↓reduceIte, Nat.reduceEqDiff, hl]; rfl) (fun hc => ?_) (fun hc => ?_)) <;> (try simp at hc) <;> (try omega))
          | refine awp_seq ?_
          | ((refine ite_both (fun hc => ?_) (fun hc => ?_)) <;> (try omega) <;> (try simp (disch := omega) only [if_pos, if_neg])))
      simpa using l5
    · repeat' (first
        | (refine sops_cons (fun R hR => ?_); simp [hl, h31]; try simp (disch := omega) only [if_pos, if_neg])
        | (refine sqops_cons (fun R hR => ?_); simp [hl, h31]; try simp (disch := omega) only [if_pos, if_neg])
        | (refine hR _ _ ?_; clear hR R) | (refine hR _ ?_; clear hR R)
        | (refine hK _ _ ?_; clear hK K) | (refine hK _ ?_; clear hK K)
        | refine sops_nil ?_
        | refine sqops_nil ?_
        | (refine awp_rs (fun K hK => ?_); simp only [slim, slimL, slimG, List.map_cons, List.map_nil, Option.map_none, Option.map_some, List.getElem?_toArray, List.getElem?_cons_zero, List.getElem?_cons_succ, Option.bind_some])
        | (refine awp_r1 (fun K hK => ?_); simp only [slim, slimL, slimG, List.map_cons, List.map_nil, Option.map_none, Option.map_some, List.getElem?_toArray, List.getElem?_cons_zero, List.getElem?_cons_succ, Option.bind_some])
        | (refine awp_ds (by kernel_rfl) (by kernel_rfl) (fun K hK => ?_); simp only [slim, slimL, slimG, List.map_cons, List.map_nil, Option.map_none, Option.map_some, List.getElem?_toArray, List.getElem?_cons_zero, List.getElem?_cons_succ, Option.bind_some])
        | (refine awp_d1 (by kernel_rfl) (by kernel_rfl) (fun K hK => ?_); simp only [slim, slimL, slimG, List.map_cons, List.map_nil, Option.map_none, Option.map_some, List.getElem?_toArray, List.getElem?_cons_zero, List.getElem?_cons_succ, Option.bind_some])
        | (refine callK (place_call _ _ _ (by omega) (by omega)) ?_; rintro _ _ ⟨rfl, rfl⟩ _ _)
        | refine awp_block ?_
        | refine awp_ret ?_
        | refine awp_skip ?_
        | refine awp_exit ?_
        | ((refine awp_cond rfl (fun hc => ?_) (fun hc => ?_)) <;> (try simp at hc) <;> (try omega))
        | ((refine awp_cond (by simp only [evF_tmp, evF_const, upd_apply, ↓reduceIte, Nat.reduceEqDiff, hl, h31]; rfl) (fun hc => ?_) (fun hc => ?_)) <;> (try simp at hc) <;> (try omega))
        | refine awp_seq ?_
        | ((refine ite_both (fun hc => ?_) (fun hc => ?_)) <;> (try omega) <;> (try simp (disch := omega) only [if_pos, if_neg])))
      refine callK (make_call _ _ _ _ free _ hf (by omega)) ?_
      rintro _ A1 ⟨sv, rfl, hI, l1⟩ w1 _
      repeat' (first
          | (refine sops_cons (fun R hR => ?_); simp [hl]; try simp (disch := omega) only [if_pos, if_neg])
          | (refine sqops_cons (fun R hR => ?_); simp [hl]; try simp (disch := omega) only [if_pos, if_neg])
          | (refine hR _ _ ?_; clear hR R) | (refine hR _ ?_; clear hR R)
          | (refine hK _ _ ?_; clear hK K) | (refine hK _ ?_; clear hK K)
          | refine sops_nil ?_
          | refine sqops_nil ?_
          | (refine awp_rs (fun K hK => ?_); simp only [slim, slimL, slimG, List.map_cons, List.map_nil, Option.map_none, Option.map_some, List.getElem?_toArray, List.getElem?_cons_zero, List.getElem?_cons_succ, Option.bind_some])
          | (refine awp_r1 (fun K hK => ?_); simp only [slim, slimL, slimG, List.map_cons, List.map_nil, Option.map_none, Option.map_some, List.getElem?_toArray, List.getElem?_cons_zero, List.getElem?_cons_succ, Option.bind_some])
          | (refine awp_ds (by kernel_rfl) (by kernel_rfl) (fun K hK => ?_); simp only [slim, slimL, slimG, List.map_cons, List.map_nil, Option.map_none, Option.map_some, List.getElem?_toArray, List.getElem?_cons_zero, List.getElem?_cons_succ, Option.bind_some])
          | (refine awp_d1 (by kernel_rfl) (by kernel_rfl) (fun K hK => ?_); simp only [slim, slimL, slimG, List.map_cons, List.map_nil, Option.map_none, Option.map_some, List.getElem?_toArray, List.getElem?_cons_zero, List.getElem?_cons_succ, Option.bind_some])
          | refine awp_block ?_
          | refine awp_ret ?_
          | refine awp_skip ?_
          | refine awp_exit ?_
          | ((refine awp_cond rfl (fun hc => ?_) (fun hc => ?_)) <;> (try simp at hc) <;> (try omega))
          | ((refine awp_cond (by simp only [evF_tmp, evF_const, upd_apply, ↓reduceIte, Nat.reduceEqDiff, hl]; rfl) (fun hc => ?_) (fun hc => ?_)) <;> (try simp at hc) <;> (try omega))
          | refine awp_seq ?_
          | ((refine ite_both (fun hc => ?_) (fun hc => ?_)) <;> (try omega) <;> (try simp (disch := omega) only [if_pos, if_neg])))
      refine callK (refMake_call _ _ _ _ free _ (hf.le l1 hw) (by omega)) ?_
      rintro _ A2 ⟨sv2, rfl, hI2, l2⟩ w2 _
      have hI1 := hI.le l2 w1
      have hf2 := (hf.le l1 hw).le l2 w1
      have l3 := l1.trans l2
      clear hI l1 l2 w1
      repeat' (first
          | (refine sops_cons (fun R hR => ?_); simp [hl]; try simp (disch := omega) only [if_pos, if_neg])
          | (refine sqops_cons (fun R hR => ?_); simp [hl]; try simp (disch := omega) only [if_pos, if_neg])
          | (refine hR _ _ ?_; clear hR R) | (refine hR _ ?_; clear hR R)
          | (refine hK _ _ ?_; clear hK K) | (refine hK _ ?_; clear hK K)
          | refine sops_nil ?_
          | refine sqops_nil ?_
          | (refine awp_rs (fun K hK => ?_); simp only [slim, slimL, slimG, List.map_cons, List.map_nil, Option.map_none, Option.map_some, List.getElem?_toArray, List.getElem?_cons_zero, List.getElem?_cons_succ, Option.bind_some])
          | (refine awp_r1 (fun K hK => ?_); simp only [slim, slimL, slimG, List.map_cons, List.map_nil, Option.map_none, Option.map_some, List.getElem?_toArray, List.getElem?_cons_zero, List.getElem?_cons_succ, Option.bind_some])
          | (refine awp_ds (by kernel_rfl) (by kernel_rfl) (fun K hK => ?_); simp only [slim, slimL, slimG, List.map_cons, List.map_nil, Option.map_none, Option.map_some, List.getElem?_toArray, List.getElem?_cons_zero, List.getElem?_cons_succ, Option.bind_some])
          | (refine awp_d1 (by kernel_rfl) (by kernel_rfl) (fun K hK => ?_); simp only [slim, slimL, slimG, List.map_cons, List.map_nil, Option.map_none, Option.map_some, List.getElem?_toArray, List.getElem?_cons_zero, List.getElem?_cons_succ, Option.bind_some])
          | (refine callK (pick_call _ _ _ _ free _ hf2 (by omega) hk) ?_; rintro _ _ ⟨rfl, rfl⟩ _ _)
          | (refine callK (refPick_call _ _ _ _ free _ hf2 (by omega) hk) ?_; rintro _ _ ⟨rfl, rfl⟩ _ _)
          | (refine callK (ints_call _ _ _ _ _ hI1 hI2 (lists_short _ _ _ free)) ?_; rintro _ _ ⟨rfl, rfl⟩ _ _)
          | refine awp_block ?_
          | refine awp_ret ?_
          | refine awp_skip ?_
          | refine awp_exit ?_
          | ((refine awp_cond rfl (fun hc => ?_) (fun hc => ?_)) <;> (try simp at hc) <;> (try omega))
          | ((refine awp_cond (by simp only [evF_tmp, evF_const, upd_apply, ↓reduceIte, Nat.reduceEqDiff, hl]; rfl) (fun hc => ?_) (fun hc => ?_)) <;> (try simp at hc) <;> (try omega))
          | refine awp_seq ?_
          | ((refine ite_both (fun hc => ?_) (fun hc => ?_)) <;> (try omega) <;> (try simp (disch := omega) only [if_pos, if_neg])))
      refine callK (awake_call A2) ?_
      rintro _ A3 ⟨rfl, l4⟩ w3 _
      have l5 := l3.trans l4
      repeat' (first
          | (refine sops_cons (fun R hR => ?_); simp [hl]; try simp (disch := omega) only [if_pos, if_neg])
          | (refine sqops_cons (fun R hR => ?_); simp [hl]; try simp (disch := omega) only [if_pos, if_neg])
          | (refine hR _ _ ?_; clear hR R) | (refine hR _ ?_; clear hR R)
          | (refine hK _ _ ?_; clear hK K) | (refine hK _ ?_; clear hK K)
          | refine sops_nil ?_
          | refine sqops_nil ?_
          | (refine awp_rs (fun K hK => ?_); simp only [slim, slimL, slimG, List.map_cons, List.map_nil, Option.map_none, Option.map_some, List.getElem?_toArray, List.getElem?_cons_zero, List.getElem?_cons_succ, Option.bind_some])
          | (refine awp_r1 (fun K hK => ?_); simp only [slim, slimL, slimG, List.map_cons, List.map_nil, Option.map_none, Option.map_some, List.getElem?_toArray, List.getElem?_cons_zero, List.getElem?_cons_succ, Option.bind_some])
          | (refine awp_ds (by kernel_rfl) (by kernel_rfl) (fun K hK => ?_); simp only [slim, slimL, slimG, List.map_cons, List.map_nil, Option.map_none, Option.map_some, List.getElem?_toArray, List.getElem?_cons_zero, List.getElem?_cons_succ, Option.bind_some])
          | (refine awp_d1 (by kernel_rfl) (by kernel_rfl) (fun K hK => ?_); simp only [slim, slimL, slimG, List.map_cons, List.map_nil, Option.map_none, Option.map_some, List.getElem?_toArray, List.getElem?_cons_zero, List.getElem?_cons_succ, Option.bind_some])
          | refine awp_block ?_
          | refine awp_ret ?_
          | refine awp_skip ?_
          | refine awp_exit ?_
          | ((refine awp_cond rfl (fun hc => ?_) (fun hc => ?_)) <;> (try simp at hc) <;> (try omega))
          | ((refine awp_cond (by simp only [evF_tmp, evF_const, upd_apply, ↓reduceIte, Nat.reduceEqDiff, hl]; rfl) (fun hc => ?_) (fun hc => ?_)) <;> (try simp at hc) <;> (try omega))
          | refine awp_seq ?_
          | ((refine ite_both (fun hc => ?_) (fun hc => ?_)) <;> (try omega) <;> (try simp (disch := omega) only [if_pos, if_neg])))
      simpa using l5

end Go.Stx
