/-
  The statement on Sorted.
-/
import Derived.Test.YtajhaafmlnoioaaAwake15
import Derived.Test.YtajhaafmlnoioaaLockB
import Derived.Test.YtajhaafmlnoioaaLockP
import Derived.Test.YtajhaafmlnoioaaStxArgs
namespace Go.Stx
open Go Go.Proofs
attribute [local irreducible] AWP SOps LWalk ACall ARounds
set_option linter.unusedVariables false
set_option linter.unusedSimpArgs false

theorem refSorted_len (l : List Int) : (refSortedF l).length ≤ l.length := refSortedF_length l

set_option maxHeartbeats 1000000 in
theorem lockerSorts_call (v : Value) (l : List Int) (A : AW) (h : IsInts A .i64 v l) :
    ACall Try.prog 3 [v] A (fun v A' => v = .bool true) := by
  refine acall_intro Try.func3 rfl (by kernel_rfl) fun hw => ?_
  obtain ⟨o, c, rfl, _⟩ := h.form
  by_cases hl : 100 < l.length
  · have hli : (100 : Int) < l.length := by omega
    repeat' (first
        | (refine sops_cons (fun R hR => ?_); simp [wrap_i64, wrap_u64, hl, hli]; try simp (disch := omega) only [if_pos, if_neg, wrap_i64, wrap_u64])
        | (refine lwalk_cons (fun R hR => ?_); simp [wrap_i64, wrap_u64, hl, hli]; try simp (disch := omega) only [if_pos, if_neg, wrap_i64, wrap_u64])
        | (refine hR _ _ ?_; clear hR R) | (refine hR _ ?_; clear hR R)
        | (refine hK _ _ ?_; clear hK K) | (refine hK _ ?_; clear hK K)
        | refine sops_nil ?_
        | refine lwalk_nil ?_
        | (refine ⟨AW.le.refl _, ?_⟩)
        | (refine ⟨AW.le.alloc _ _, ?_⟩)
        | (refine awp_rs (fun K hK => ?_); simp only [slim, slimL, slimG, List.map_cons, List.map_nil, Option.map_none, Option.map_some, List.getElem?_toArray, List.getElem?_cons_zero, List.getElem?_cons_succ, Option.bind_some])
        | (refine awp_r1 (fun K hK => ?_); simp only [slim, slimL, slimG, List.map_cons, List.map_nil, Option.map_none, Option.map_some, List.getElem?_toArray, List.getElem?_cons_zero, List.getElem?_cons_succ, Option.bind_some])
        | refine awp_block ?_
        | refine awp_ret ?_
        | refine awp_skip ?_
        | refine awp_exit ?_
        | ((refine awp_cond rfl (fun hc => ?_) (fun hc => ?_)) <;> (try simp at hc) <;> (try omega))
        | ((refine awp_cond (by simp only [evF_tmp, evF_const, upd_apply, ↓reduceIte, Nat.reduceEqDiff, hl, hli]; rfl) (fun hc => ?_) (fun hc => ?_)) <;> (try simp at hc) <;> (try omega))
        | refine arounds_step ?_
        | refine awp_seq ?_
        | ((refine ite_both (fun hc => ?_) (fun hc => ?_)) <;> (try omega) <;> (try simp (disch := omega) only [if_pos, if_neg])))
    refine callK (awake_call A hemp (Sat.emp A)) ?_
    rintro _ A1 ⟨rfl, _⟩ w1 _
    repeat' (first
        | (refine sops_cons (fun R hR => ?_); simp [wrap_i64, wrap_u64, hl]; try simp (disch := omega) only [if_pos, if_neg, wrap_i64, wrap_u64])
        | (refine lwalk_cons (fun R hR => ?_); simp [wrap_i64, wrap_u64, hl]; try simp (disch := omega) only [if_pos, if_neg, wrap_i64, wrap_u64])
        | (refine hR _ _ ?_; clear hR R) | (refine hR _ ?_; clear hR R)
        | (refine hK _ _ ?_; clear hK K) | (refine hK _ ?_; clear hK K)
        | refine sops_nil ?_
        | refine lwalk_nil ?_
        | (refine ⟨AW.le.refl _, ?_⟩)
        | (refine ⟨AW.le.alloc _ _, ?_⟩)
        | (refine awp_rs (fun K hK => ?_); simp only [slim, slimL, slimG, List.map_cons, List.map_nil, Option.map_none, Option.map_some, List.getElem?_toArray, List.getElem?_cons_zero, List.getElem?_cons_succ, Option.bind_some])
        | (refine awp_r1 (fun K hK => ?_); simp only [slim, slimL, slimG, List.map_cons, List.map_nil, Option.map_none, Option.map_some, List.getElem?_toArray, List.getElem?_cons_zero, List.getElem?_cons_succ, Option.bind_some])
        | refine awp_block ?_
        | refine awp_ret ?_
        | refine awp_skip ?_
        | refine awp_exit ?_
        | ((refine awp_cond rfl (fun hc => ?_) (fun hc => ?_)) <;> (try simp at hc) <;> (try omega))
        | ((refine awp_cond (by simp only [evF_tmp, evF_const, upd_apply, ↓reduceIte, Nat.reduceEqDiff, hl]; rfl) (fun hc => ?_) (fun hc => ?_)) <;> (try simp at hc) <;> (try omega))
        | refine arounds_step ?_
        | refine awp_seq ?_
        | ((refine ite_both (fun hc => ?_) (fun hc => ?_)) <;> (try omega) <;> (try simp (disch := omega) only [if_pos, if_neg])))
    simp
  · have hli : ¬ (100 : Int) < l.length := by omega
    repeat' (first
        | (refine sops_cons (fun R hR => ?_); simp [wrap_i64, wrap_u64, hl, hli]; try simp (disch := omega) only [if_pos, if_neg, wrap_i64, wrap_u64])
        | (refine lwalk_cons (fun R hR => ?_); simp [wrap_i64, wrap_u64, hl, hli]; try simp (disch := omega) only [if_pos, if_neg, wrap_i64, wrap_u64])
        | (refine hR _ _ ?_; clear hR R) | (refine hR _ ?_; clear hR R)
        | (refine hK _ _ ?_; clear hK K) | (refine hK _ ?_; clear hK K)
        | refine sops_nil ?_
        | refine lwalk_nil ?_
        | (refine ⟨AW.le.refl _, ?_⟩)
        | (refine ⟨AW.le.alloc _ _, ?_⟩)
        | (refine awp_rs (fun K hK => ?_); simp only [slim, slimL, slimG, List.map_cons, List.map_nil, Option.map_none, Option.map_some, List.getElem?_toArray, List.getElem?_cons_zero, List.getElem?_cons_succ, Option.bind_some])
        | (refine awp_r1 (fun K hK => ?_); simp only [slim, slimL, slimG, List.map_cons, List.map_nil, Option.map_none, Option.map_some, List.getElem?_toArray, List.getElem?_cons_zero, List.getElem?_cons_succ, Option.bind_some])
        | refine awp_block ?_
        | refine awp_ret ?_
        | refine awp_skip ?_
        | refine awp_exit ?_
        | ((refine awp_cond rfl (fun hc => ?_) (fun hc => ?_)) <;> (try simp at hc) <;> (try omega))
        | ((refine awp_cond (by simp only [evF_tmp, evF_const, upd_apply, ↓reduceIte, Nat.reduceEqDiff, hl, hli]; rfl) (fun hc => ?_) (fun hc => ?_)) <;> (try simp at hc) <;> (try omega))
        | refine arounds_step ?_
        | refine awp_seq ?_
        | ((refine ite_both (fun hc => ?_) (fun hc => ?_)) <;> (try omega) <;> (try simp (disch := omega) only [if_pos, if_neg])))
    refine callK (twin_call _ l A h (by omega)) ?_
    rintro v1 A1 ⟨h1, l1⟩ w1 _
    repeat' (first
        | (refine sops_cons (fun R hR => ?_); simp [wrap_i64, wrap_u64, hl]; try simp (disch := omega) only [if_pos, if_neg, wrap_i64, wrap_u64])
        | (refine lwalk_cons (fun R hR => ?_); simp [wrap_i64, wrap_u64, hl]; try simp (disch := omega) only [if_pos, if_neg, wrap_i64, wrap_u64])
        | (refine hR _ _ ?_; clear hR R) | (refine hR _ ?_; clear hR R)
        | (refine hK _ _ ?_; clear hK K) | (refine hK _ ?_; clear hK K)
        | refine sops_nil ?_
        | refine lwalk_nil ?_
        | (refine ⟨AW.le.refl _, ?_⟩)
        | (refine ⟨AW.le.alloc _ _, ?_⟩)
        | (refine awp_rs (fun K hK => ?_); simp only [slim, slimL, slimG, List.map_cons, List.map_nil, Option.map_none, Option.map_some, List.getElem?_toArray, List.getElem?_cons_zero, List.getElem?_cons_succ, Option.bind_some])
        | (refine awp_r1 (fun K hK => ?_); simp only [slim, slimL, slimG, List.map_cons, List.map_nil, Option.map_none, Option.map_some, List.getElem?_toArray, List.getElem?_cons_zero, List.getElem?_cons_succ, Option.bind_some])
        | refine awp_block ?_
        | refine awp_ret ?_
        | refine awp_skip ?_
        | refine awp_exit ?_
        | ((refine awp_cond rfl (fun hc => ?_) (fun hc => ?_)) <;> (try simp at hc) <;> (try omega))
        | ((refine awp_cond (by simp only [evF_tmp, evF_const, upd_apply, ↓reduceIte, Nat.reduceEqDiff, hl]; rfl) (fun hc => ?_) (fun hc => ?_)) <;> (try simp at hc) <;> (try omega))
        | refine arounds_step ?_
        | refine awp_seq ?_
        | ((refine ite_both (fun hc => ?_) (fun hc => ?_)) <;> (try omega) <;> (try simp (disch := omega) only [if_pos, if_neg])))
    have hi1 := h.le l1 hw
    refine callK (sorted_call _ l A1 hi1 (by omega)) ?_
    rintro v2 A2 ⟨h2, l2⟩ w2 _
    repeat' (first
        | (refine sops_cons (fun R hR => ?_); simp [wrap_i64, wrap_u64, hl]; try simp (disch := omega) only [if_pos, if_neg, wrap_i64, wrap_u64])
        | (refine lwalk_cons (fun R hR => ?_); simp [wrap_i64, wrap_u64, hl]; try simp (disch := omega) only [if_pos, if_neg, wrap_i64, wrap_u64])
        | (refine hR _ _ ?_; clear hR R) | (refine hR _ ?_; clear hR R)
        | (refine hK _ _ ?_; clear hK K) | (refine hK _ ?_; clear hK K)
        | refine sops_nil ?_
        | refine lwalk_nil ?_
        | (refine ⟨AW.le.refl _, ?_⟩)
        | (refine ⟨AW.le.alloc _ _, ?_⟩)
        | (refine awp_rs (fun K hK => ?_); simp only [slim, slimL, slimG, List.map_cons, List.map_nil, Option.map_none, Option.map_some, List.getElem?_toArray, List.getElem?_cons_zero, List.getElem?_cons_succ, Option.bind_some])
        | (refine awp_r1 (fun K hK => ?_); simp only [slim, slimL, slimG, List.map_cons, List.map_nil, Option.map_none, Option.map_some, List.getElem?_toArray, List.getElem?_cons_zero, List.getElem?_cons_succ, Option.bind_some])
        | refine awp_block ?_
        | refine awp_ret ?_
        | refine awp_skip ?_
        | refine awp_exit ?_
        | ((refine awp_cond rfl (fun hc => ?_) (fun hc => ?_)) <;> (try simp at hc) <;> (try omega))
        | ((refine awp_cond (by simp only [evF_tmp, evF_const, upd_apply, ↓reduceIte, Nat.reduceEqDiff, hl]; rfl) (fun hc => ?_) (fun hc => ?_)) <;> (try simp at hc) <;> (try omega))
        | refine arounds_step ?_
        | refine awp_seq ?_
        | ((refine ite_both (fun hc => ?_) (fun hc => ?_)) <;> (try omega) <;> (try simp (disch := omega) only [if_pos, if_neg])))
    have hi2 := hi1.le l2 w1
    refine callK (refSorted_call _ l A2 hi2 (by omega)) ?_
    rintro v3 A3 ⟨h3, l3⟩ w3 _
    have hs2 := h2.is.le l3 w2
    have hs3 := h3.is
    rw [sortedF_eq] at hs2
    have hll := refSortedF_length l
    have hi3 := hi2.le l3 w2
    have ht3 := ((h1.is.le l2 w1).le l3 w2)
    repeat' (first
        | (refine sops_cons (fun R hR => ?_); simp [wrap_i64, wrap_u64, hl]; try simp (disch := omega) only [if_pos, if_neg, wrap_i64, wrap_u64])
        | (refine lwalk_cons (fun R hR => ?_); simp [wrap_i64, wrap_u64, hl]; try simp (disch := omega) only [if_pos, if_neg, wrap_i64, wrap_u64])
        | (refine hR _ _ ?_; clear hR R) | (refine hR _ ?_; clear hR R)
        | (refine hK _ _ ?_; clear hK K) | (refine hK _ ?_; clear hK K)
        | refine sops_nil ?_
        | refine lwalk_nil ?_
        | (refine ⟨AW.le.refl _, ?_⟩)
        | (refine ⟨AW.le.alloc _ _, ?_⟩)
        | (refine awp_rs (fun K hK => ?_); simp only [slim, slimL, slimG, List.map_cons, List.map_nil, Option.map_none, Option.map_some, List.getElem?_toArray, List.getElem?_cons_zero, List.getElem?_cons_succ, Option.bind_some])
        | (refine awp_r1 (fun K hK => ?_); simp only [slim, slimL, slimG, List.map_cons, List.map_nil, Option.map_none, Option.map_some, List.getElem?_toArray, List.getElem?_cons_zero, List.getElem?_cons_succ, Option.bind_some])
        | (refine callK (ints_call _ _ (refSortedF l) (refSortedF l) A3 hs2 hs3 (by omega)) ?_; rintro _ _ ⟨rfl, rfl⟩ _ _)
        | (refine callK (ints_call _ _ l l A3 hi3 ht3 (by omega)) ?_; rintro _ _ ⟨rfl, rfl⟩ _ _)
        | refine awp_block ?_
        | refine awp_ret ?_
        | refine awp_skip ?_
        | refine awp_exit ?_
        | ((refine awp_cond rfl (fun hc => ?_) (fun hc => ?_)) <;> (try simp at hc) <;> (try omega))
        | ((refine awp_cond (by simp only [evF_tmp, evF_const, upd_apply, ↓reduceIte, Nat.reduceEqDiff, hl]; rfl) (fun hc => ?_) (fun hc => ?_)) <;> (try simp at hc) <;> (try omega))
        | refine arounds_step ?_
        | refine awp_seq ?_
        | ((refine ite_both (fun hc => ?_) (fun hc => ?_)) <;> (try omega) <;> (try simp (disch := omega) only [if_pos, if_neg])))
    refine callK (awake_call A3 hemp (Sat.emp A3)) ?_
    rintro _ A4 ⟨rfl, _⟩ w4 _
    repeat' (first
        | (refine sops_cons (fun R hR => ?_); simp [wrap_i64, wrap_u64, hl]; try simp (disch := omega) only [if_pos, if_neg, wrap_i64, wrap_u64])
        | (refine lwalk_cons (fun R hR => ?_); simp [wrap_i64, wrap_u64, hl]; try simp (disch := omega) only [if_pos, if_neg, wrap_i64, wrap_u64])
        | (refine hR _ _ ?_; clear hR R) | (refine hR _ ?_; clear hR R)
        | (refine hK _ _ ?_; clear hK K) | (refine hK _ ?_; clear hK K)
        | refine sops_nil ?_
        | refine lwalk_nil ?_
        | (refine ⟨AW.le.refl _, ?_⟩)
        | (refine ⟨AW.le.alloc _ _, ?_⟩)
        | (refine awp_rs (fun K hK => ?_); simp only [slim, slimL, slimG, List.map_cons, List.map_nil, Option.map_none, Option.map_some, List.getElem?_toArray, List.getElem?_cons_zero, List.getElem?_cons_succ, Option.bind_some])
        | (refine awp_r1 (fun K hK => ?_); simp only [slim, slimL, slimG, List.map_cons, List.map_nil, Option.map_none, Option.map_some, List.getElem?_toArray, List.getElem?_cons_zero, List.getElem?_cons_succ, Option.bind_some])
        | refine awp_block ?_
        | refine awp_ret ?_
        | refine awp_skip ?_
        | refine awp_exit ?_
        | ((refine awp_cond rfl (fun hc => ?_) (fun hc => ?_)) <;> (try simp at hc) <;> (try omega))
        | ((refine awp_cond (by simp only [evF_tmp, evF_const, upd_apply, ↓reduceIte, Nat.reduceEqDiff, hl]; rfl) (fun hc => ?_) (fun hc => ?_)) <;> (try simp at hc) <;> (try omega))
        | refine arounds_step ?_
        | refine awp_seq ?_
        | ((refine ite_both (fun hc => ?_) (fun hc => ?_)) <;> (try omega) <;> (try simp (disch := omega) only [if_pos, if_neg])))
    simp

end Go.Stx
