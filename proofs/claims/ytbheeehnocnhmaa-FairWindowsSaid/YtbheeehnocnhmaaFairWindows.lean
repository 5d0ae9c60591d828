/-
  FairWindows returns true, whatever its arguments are: what Make returns is fair for twice its window, and every block ends with all threads in order.
-/
import Derived.Test.YtbheeehnocnhmaaFairP
namespace Go.Stx
open Go Go.Proofs
set_option linter.unusedVariables false
set_option linter.unusedSimpArgs false

theorem pick_pure (t w k : Int) (vf : Value) (free : List Int) (A : AW) (hf : IsInts A .i64 vf free) (hl : free.length < 2^62) (hk : k ≤ 9223372036854775807) :
    APure Try.prog 9 [.int .i64 t, .int .i64 w, vf, .int .i64 k] A (.int .i64 (pickF t w free k)) :=
  APure.of_call rfl ((pick_call t w k vf free A.ro hf.ro hl hk).mono fun _ _ h => h.1)

set_option maxHeartbeats 2000000 in
theorem fairWindows_call (a b c : Int) (vf : Value) (free : List Int) (A : AW) (hf : IsInts A .i64 vf free) :
    ACall Try.prog 4 [.int .i64 a, .int .i64 b, vf, .int .i64 c] A (fun v A' => v = .bool true ∧ A.le A') := by
  refine acall_intro Try.func4 rfl (by kernel_rfl) fun hw => ?_
  obtain ⟨of, cf, rfl, _⟩ := hf.form
  by_cases hl : 40 < free.length
  · repeat' (first
      | (refine sops_cons (fun R hR => ?_); simp [hl]; try simp (disch := omega) only [if_pos, if_neg])
      | (refine sqops_cons (fun R hR => ?_); simp [hl]; try simp (disch := omega) only [if_pos, if_neg])
      | (refine hR _ _ ?_; clear hR R) | (refine hR _ ?_; clear hR R)
      | (refine hK _ _ ?_; clear hK K) | (refine hK _ ?_; clear hK K)
      | refine sops_nil ?_
      | refine sqops_nil ?_
      | (refine awp_rs (fun K hK => ?_); simp only [slim, slimL, slimG, List.map_cons, List.map_nil, Option.map_none, Option.map_some, List.getElem?_toArray, List.getElem?_cons_zero, List.getElem?_cons_succ, Option.bind_some])
      | (refine awp_r1 (fun K hK => ?_); simp only [slim, slimL, slimG, List.map_cons, List.map_nil, Option.map_none, Option.map_some, List.getElem?_toArray, List.getElem?_cons_zero, List.getElem?_cons_succ, Option.bind_some])
      | (refine awp_ds (by kernel_rfl) (by kernel_rfl) (fun K hK => ?_); simp only [slim, slimL, slimG, List.map_cons, List.map_nil, Option.map_none, Option.map_some, List.getElem?_toArray, List.getElem?_cons_zero, List.getElem?_cons_succ, Option.bind_some])
      | (refine awp_d1 (by kernel_rfl) (by kernel_rfl) (fun K hK => ?_); simp only [slim, slimL, slimG, List.map_cons, List.map_nil, Option.map_none, Option.map_some, List.getElem?_toArray, List.getElem?_cons_zero, List.getElem?_cons_succ, Option.bind_some])
      | refine awp_block ?_
      | refine awp_ret ?_
      | refine awp_skip ?_
      | refine awp_exit ?_
      | ((refine awp_cond rfl (fun hc => ?_) (fun hc => ?_)) <;> (try simp at hc) <;> (try omega))
      | ((refine awp_cond (by simp only [evF_tmp, evF_const, upd_apply, ↓reduceIte, Nat.reduceEqDiff, hl]; rfl) (fun hc => ?_) (fun hc => ?_)) <;> (try simp at hc) <;> (try omega))
      | refine awp_seq ?_
      | ((refine ite_both (fun hc => ?_) (fun hc => ?_)) <;> (try omega) <;> (try simp (disch := omega) only [if_pos, if_neg])))
    refine callK (awake_call A) ?_
    rintro _ A1 ⟨rfl, l1⟩ w1 _
    repeat' (first
        | (refine sops_cons (fun R hR => ?_); simp [hl]; try simp (disch := omega) only [if_pos, if_neg])
        | (refine sqops_cons (fun R hR => ?_); simp [hl]; try simp (disch := omega) only [if_pos, if_neg])
        | (refine hR _ _ ?_; clear hR R) | (refine hR _ ?_; clear hR R)
        | (refine hK _ _ ?_; clear hK K) | (refine hK _ ?_; clear hK K)
        | refine sops_nil ?_
        | refine sqops_nil ?_
        | (refine awp_rs (fun K hK => ?_); simp only [slim, slimL, slimG, List.map_cons, List.map_nil, Option.map_none, Option.map_some, List.getElem?_toArray, List.getElem?_cons_zero, List.getElem?_cons_succ, Option.bind_some])
        | (refine awp_r1 (fun K hK => ?_); simp only [slim, slimL, slimG, List.map_cons, List.map_nil, Option.map_none, Option.map_some, List.getElem?_toArray, List.getElem?_cons_zero, List.getElem?_cons_succ, Option.bind_some])
        | (refine awp_ds (by kernel_rfl) (by kernel_rfl) (fun K hK => ?_); simp only [slim, slimL, slimG, List.map_cons, List.map_nil, Option.map_none, Option.map_some, List.getElem?_toArray, List.getElem?_cons_zero, List.getElem?_cons_succ, Option.bind_some])
        | (refine awp_d1 (by kernel_rfl) (by kernel_rfl) (fun K hK => ?_); simp only [slim, slimL, slimG, List.map_cons, List.map_nil, Option.map_none, Option.map_some, List.getElem?_toArray, List.getElem?_cons_zero, List.getElem?_cons_succ, Option.bind_some])
        | refine awp_block ?_
        | refine awp_ret ?_
        | refine awp_skip ?_
        | refine awp_exit ?_
        | ((refine awp_cond rfl (fun hc => ?_) (fun hc => ?_)) <;> (try simp at hc) <;> (try omega))
        | ((refine awp_cond (by simp only [evF_tmp, evF_const, upd_apply, ↓reduceIte, Nat.reduceEqDiff, hl]; rfl) (fun hc => ?_) (fun hc => ?_)) <;> (try simp at hc) <;> (try omega))
        | refine awp_seq ?_
        | ((refine ite_both (fun hc => ?_) (fun hc => ?_)) <;> (try omega) <;> (try simp (disch := omega) only [if_pos, if_neg])))
    simpa using l1
  have hl' : ¬ (40 : Int) < free.length := by omega
  obtain ⟨r1, r2⟩ := placeF_range a 6 (by omega)
  obtain ⟨r3, r4⟩ := placeF_range b 10 (by omega)
  obtain ⟨r5, r6⟩ := placeF_range c 200 (by omega)
  obtain ⟨L, hL⟩ := Int.eq_ofNat_of_zero_le r5
  have hw1 : IntKind.i64.wrap (1 + placeF a 6) = 1 + placeF a 6 := wrap_i64 (by omega) (by omega)
  have hw2 : IntKind.i64.wrap (1 + placeF a 6 + placeF b 10) = 1 + placeF a 6 + placeF b 10 := wrap_i64 (by omega) (by omega)
  generalize hn : 1 + placeF a 6 = n at *
  generalize hwd : n + placeF b 10 = w at *
  have hE : makeE n w L = 0 := by
    have hp : permittedF n w = 0 := by unfold permittedF; rw [if_neg (by omega), if_neg (by omega)]
    rw [makeE, if_neg (by simpa using hp), if_neg (by omega)]
  have hT := fairF_makeF (n := n) (w := w) free (by omega) (by omega) (by omega) (by omega) L
  have hlen := makeF_length n w free L
  have hw3 : IntKind.i64.wrap (2 * w) = 2 * w := wrap_i64 (by omega) (by omega)
  have hw4 : IntKind.i64.wrap (w - n) = w - n := wrap_i64 (by omega) (by omega)
  have hwne : w ≠ 0 := by omega
  repeat' (first
      | (refine sops_cons (fun R hR => ?_); simp [hl, hw1, hw2, hn, hwd, hL]; try simp (disch := omega) only [if_pos, if_neg])
      | (refine sqops_cons (fun R hR => ?_); simp [hl, hw1, hw2, hn, hwd, hL]; try simp (disch := omega) only [if_pos, if_neg])
      | (refine hR _ _ ?_; clear hR R) | (refine hR _ ?_; clear hR R)
      | (refine hK _ _ ?_; clear hK K) | (refine hK _ ?_; clear hK K)
      | refine sops_nil ?_
      | refine sqops_nil ?_
      | (refine awp_rs (fun K hK => ?_); simp only [slim, slimL, slimG, List.map_cons, List.map_nil, Option.map_none, Option.map_some, List.getElem?_toArray, List.getElem?_cons_zero, List.getElem?_cons_succ, Option.bind_some])
      | (refine awp_r1 (fun K hK => ?_); simp only [slim, slimL, slimG, List.map_cons, List.map_nil, Option.map_none, Option.map_some, List.getElem?_toArray, List.getElem?_cons_zero, List.getElem?_cons_succ, Option.bind_some])
      | (refine awp_ds (by kernel_rfl) (by kernel_rfl) (fun K hK => ?_); simp only [slim, slimL, slimG, List.map_cons, List.map_nil, Option.map_none, Option.map_some, List.getElem?_toArray, List.getElem?_cons_zero, List.getElem?_cons_succ, Option.bind_some])
      | (refine awp_d1 (by kernel_rfl) (by kernel_rfl) (fun K hK => ?_); simp only [slim, slimL, slimG, List.map_cons, List.map_nil, Option.map_none, Option.map_some, List.getElem?_toArray, List.getElem?_cons_zero, List.getElem?_cons_succ, Option.bind_some])
      | (refine callK (place_call _ _ _ (by omega) (by omega)) ?_; rintro _ _ ⟨rfl, rfl⟩ _ _)
      | refine awp_block ?_
      | refine awp_ret ?_
      | refine awp_skip ?_
      | refine awp_exit ?_
      | ((refine awp_cond rfl (fun hc => ?_) (fun hc => ?_)) <;> (try simp at hc) <;> (try omega))
      | ((refine awp_cond (by simp only [evF_tmp, evF_const, upd_apply, ↓reduceIte, Nat.reduceEqDiff, hl, hw1, hw2, hn, hwd, hL]; rfl) (fun hc => ?_) (fun hc => ?_)) <;> (try simp at hc) <;> (try omega))
      | refine awp_seq ?_
      | ((refine ite_both (fun hc => ?_) (fun hc => ?_)) <;> (try omega) <;> (try simp (disch := omega) only [if_pos, if_neg])))
  refine callK (make_call n w L _ free _ hf (by omega)) ?_
  rintro _ A1 ⟨sv, rfl, hI, l1⟩ w1 _
  rw [hE, if_pos rfl, Int.toNat_natCast] at hI
  rw [hE]
  obtain ⟨op, cp, rfl, _⟩ := hI.form
  repeat' (first
      | (refine sops_cons (fun R hR => ?_); simp [hl, hw3, hlen, hL]; try simp (disch := omega) only [if_pos, if_neg])
      | (refine sqops_cons (fun R hR => ?_); simp [hl, hw3, hlen, hL]; try simp (disch := omega) only [if_pos, if_neg])
      | (refine hR _ _ ?_; clear hR R) | (refine hR _ ?_; clear hR R)
      | (refine hK _ _ ?_; clear hK K) | (refine hK _ ?_; clear hK K)
      | refine sops_nil ?_
      | refine sqops_nil ?_
      | (refine awp_rs (fun K hK => ?_); simp only [slim, slimL, slimG, List.map_cons, List.map_nil, Option.map_none, Option.map_some, List.getElem?_toArray, List.getElem?_cons_zero, List.getElem?_cons_succ, Option.bind_some])
      | (refine awp_r1 (fun K hK => ?_); simp only [slim, slimL, slimG, List.map_cons, List.map_nil, Option.map_none, Option.map_some, List.getElem?_toArray, List.getElem?_cons_zero, List.getElem?_cons_succ, Option.bind_some])
      | (refine awp_ds (by kernel_rfl) (by kernel_rfl) (fun K hK => ?_); simp only [slim, slimL, slimG, List.map_cons, List.map_nil, Option.map_none, Option.map_some, List.getElem?_toArray, List.getElem?_cons_zero, List.getElem?_cons_succ, Option.bind_some])
      | (refine awp_d1 (by kernel_rfl) (by kernel_rfl) (fun K hK => ?_); simp only [slim, slimL, slimG, List.map_cons, List.map_nil, Option.map_none, Option.map_some, List.getElem?_toArray, List.getElem?_cons_zero, List.getElem?_cons_succ, Option.bind_some])
      | (refine callK (place_call _ _ _ (by omega) (by omega)) ?_; rintro _ _ ⟨rfl, rfl⟩ _ _)
      | refine awp_block ?_
      | refine awp_ret ?_
      | refine awp_skip ?_
      | refine awp_exit ?_
      | ((refine awp_cond rfl (fun hc => ?_) (fun hc => ?_)) <;> (try simp at hc) <;> (try omega))
      | ((refine awp_cond (by simp only [evF_tmp, evF_const, upd_apply, ↓reduceIte, Nat.reduceEqDiff, hl, hw3, hlen, hL]; rfl) (fun hc => ?_) (fun hc => ?_)) <;> (try simp at hc) <;> (try omega))
      | refine awp_seq ?_
      | ((refine ite_both (fun hc => ?_) (fun hc => ?_)) <;> (try omega) <;> (try simp (disch := omega) only [if_pos, if_neg])))
  have hI' := hI
  rw [hlen] at hI'
  refine callK (fair_call n (2 * w) _ (makeF n w free L) _ hI' (by omega) (by omega)) ?_
  rintro _ A2 ⟨rfl, l2⟩ w2 _
  rw [hT]
  have hf2 := (hf.le l1 hw).le l2 w1
  have hI2 := hI'.le l2 w1
  have l3 := l1.trans l2
  clear hI hI' l1 l2 w1
  repeat' (first
      | (refine sops_cons (fun R hR => ?_); simp [hl, hlen]; try simp (disch := omega) only [if_pos, if_neg])
      | (refine sqops_cons (fun R hR => ?_); simp [hl, hlen]; try simp (disch := omega) only [if_pos, if_neg])
      | (refine hR _ _ ?_; clear hR R) | (refine hR _ ?_; clear hR R)
      | (refine hK _ _ ?_; clear hK K) | (refine hK _ ?_; clear hK K)
      | refine sops_nil ?_
      | refine sqops_nil ?_
      | (refine awp_rs (fun K hK => ?_); simp only [slim, slimL, slimG, List.map_cons, List.map_nil, Option.map_none, Option.map_some, List.getElem?_toArray, List.getElem?_cons_zero, List.getElem?_cons_succ, Option.bind_some])
      | (refine awp_r1 (fun K hK => ?_); simp only [slim, slimL, slimG, List.map_cons, List.map_nil, Option.map_none, Option.map_some, List.getElem?_toArray, List.getElem?_cons_zero, List.getElem?_cons_succ, Option.bind_some])
      | (refine awp_ds (by kernel_rfl) (by kernel_rfl) (fun K hK => ?_); simp only [slim, slimL, slimG, List.map_cons, List.map_nil, Option.map_none, Option.map_some, List.getElem?_toArray, List.getElem?_cons_zero, List.getElem?_cons_succ, Option.bind_some])
      | (refine awp_d1 (by kernel_rfl) (by kernel_rfl) (fun K hK => ?_); simp only [slim, slimL, slimG, List.map_cons, List.map_nil, Option.map_none, Option.map_some, List.getElem?_toArray, List.getElem?_cons_zero, List.getElem?_cons_succ, Option.bind_some])
      | refine awp_block ?_
      | refine awp_ret ?_
      | refine awp_skip ?_
      | refine awp_exit ?_
      | ((refine awp_cond rfl (fun hc => ?_) (fun hc => ?_)) <;> (try simp at hc) <;> (try omega))
      | ((refine awp_cond (by simp only [evF_tmp, evF_const, upd_apply, ↓reduceIte, Nat.reduceEqDiff, hl, hlen]; rfl) (fun hc => ?_) (fun hc => ?_)) <;> (try simp at hc) <;> (try omega))
      | refine awp_seq ?_
      | ((refine ite_both (fun hc => ?_) (fun hc => ?_)) <;> (try omega) <;> (try simp (disch := omega) only [if_pos, if_neg])))
  refine awp_loop (fun k fr A' => ∃ j : Nat, A2 = A' ∧ k = L - j ∧ j ≤ L ∧ fr 2 = .slice of free.length cf ∧ fr 9 = .int .i64 n ∧ fr 10 = .int .i64 w ∧ fr 11 = .slice op L cp ∧ fr 13 = .int .i64 j) L ?_ ?_
  · refine ⟨0, rfl, by omega, by omega, ?_, ?_, ?_, ?_, ?_⟩ <;> simp
  · rintro k fr A' ⟨j, rfl, rfl, hj, f2, f9, f10, f11, f13⟩
    by_cases hlt : j < L
    case neg =>
      repeat' (first
          | (refine sops_cons (fun R hR => ?_); simp [f2, f9, f10, f11, f13, hlt]; try simp (disch := omega) only [if_pos, if_neg])
          | (refine sqops_cons (fun R hR => ?_); simp [f2, f9, f10, f11, f13, hlt]; try simp (disch := omega) only [if_pos, if_neg])
          | (refine hR _ _ ?_; clear hR R) | (refine hR _ ?_; clear hR R)
          | (refine hK _ _ ?_; clear hK K) | (refine hK _ ?_; clear hK K)
          | refine sops_nil ?_
          | refine sqops_nil ?_
          | (refine awp_rs (fun K hK => ?_); simp only [slim, slimL, slimG, List.map_cons, List.map_nil, Option.map_none, Option.map_some, List.getElem?_toArray, List.getElem?_cons_zero, List.getElem?_cons_succ, Option.bind_some])
          | (refine awp_r1 (fun K hK => ?_); simp only [slim, slimL, slimG, List.map_cons, List.map_nil, Option.map_none, Option.map_some, List.getElem?_toArray, List.getElem?_cons_zero, List.getElem?_cons_succ, Option.bind_some])
          | (refine awp_ds (by kernel_rfl) (by kernel_rfl) (fun K hK => ?_); simp only [slim, slimL, slimG, List.map_cons, List.map_nil, Option.map_none, Option.map_some, List.getElem?_toArray, List.getElem?_cons_zero, List.getElem?_cons_succ, Option.bind_some])
          | (refine awp_d1 (by kernel_rfl) (by kernel_rfl) (fun K hK => ?_); simp only [slim, slimL, slimG, List.map_cons, List.map_nil, Option.map_none, Option.map_some, List.getElem?_toArray, List.getElem?_cons_zero, List.getElem?_cons_succ, Option.bind_some])
          | refine awp_block ?_
          | refine awp_ret ?_
          | refine awp_skip ?_
          | refine awp_exit ?_
          | ((refine awp_cond rfl (fun hc => ?_) (fun hc => ?_)) <;> (try simp at hc) <;> (try omega))
          | ((refine awp_cond (by simp only [evF_tmp, evF_const, upd_apply, ↓reduceIte, Nat.reduceEqDiff, f2, f9, f10, f11, f13, hlt]; rfl) (fun hc => ?_) (fun hc => ?_)) <;> (try simp at hc) <;> (try omega))
          | refine awp_seq ?_
          | ((refine ite_both (fun hc => ?_) (fun hc => ?_)) <;> (try omega) <;> (try simp (disch := omega) only [if_pos, if_neg])))
      refine callK (awake_call A2) ?_
      rintro _ A3 ⟨rfl, l4⟩ w3 _
      have l5 := l3.trans l4
      repeat' (first
          | (refine sops_cons (fun R hR => ?_); simp [hl]; try simp (disch := omega) only [if_pos, if_neg])
          | (refine sqops_cons (fun R hR => ?_); simp [hl]; try simp (disch := omega) only [if_pos, if_neg])
          | (refine hR _ _ ?_; clear hR R) | (refine hR _ ?_; clear hR R)
          | (refine hK _ _ ?_; clear hK K) | (refine hK _ ?_; clear hK K)
          | refine sops_nil ?_
          | refine sqops_nil ?_
          | (refine awp_rs (fun K hK => ?_); simp only [slim, slimL, slimG, List.map_cons, List.map_nil, Option.map_none, Option.map_some, List.getElem?_toArray, List.getElem?_cons_zero, List.getElem?_cons_succ, Option.bind_some])
          | (refine awp_r1 (fun K hK => ?_); simp only [slim, slimL, slimG, List.map_cons, List.map_nil, Option.map_none, Option.map_some, List.getElem?_toArray, List.getElem?_cons_zero, List.getElem?_cons_succ, Option.bind_some])
          | (refine awp_ds (by kernel_rfl) (by kernel_rfl) (fun K hK => ?_); simp only [slim, slimL, slimG, List.map_cons, List.map_nil, Option.map_none, Option.map_some, List.getElem?_toArray, List.getElem?_cons_zero, List.getElem?_cons_succ, Option.bind_some])
          | (refine awp_d1 (by kernel_rfl) (by kernel_rfl) (fun K hK => ?_); simp only [slim, slimL, slimG, List.map_cons, List.map_nil, Option.map_none, Option.map_some, List.getElem?_toArray, List.getElem?_cons_zero, List.getElem?_cons_succ, Option.bind_some])
          | refine awp_block ?_
          | refine awp_ret ?_
          | refine awp_skip ?_
          | refine awp_exit ?_
          | ((refine awp_cond rfl (fun hc => ?_) (fun hc => ?_)) <;> (try simp at hc) <;> (try omega))
          | ((refine awp_cond (by simp only [evF_tmp, evF_const, upd_apply, ↓reduceIte, Nat.reduceEqDiff, hl]; rfl) (fun hc => ?_) (fun hc => ?_)) <;> (try simp at hc) <;> (try omega))
          | refine awp_seq ?_
          | ((refine ite_both (fun hc => ?_) (fun hc => ?_)) <;> (try omega) <;> (try simp (disch := omega) only [if_pos, if_neg])))
      simpa using l5
    have hjl : j < (makeF n w free L).length := by omega
    obtain ⟨p, row, rfl, hrow, hcell⟩ := hI2.at hjl
    rw [makeF_get hlt hjl] at hcell
    obtain ⟨v1, v2, v3⟩ := pickF_valid (t := n) (w := w) (k := j) free (by omega) (by omega) (by omega) (by omega) (by omega)
    have hj1 : IntKind.i64.wrap ((j : Int) + 1) = ((j + 1 : Nat) : Int) := wrap_i64 (by omega) (by omega)
    have hr0 : 0 ≤ (j : Int) % w := Int.emod_nonneg _ (by omega)
    have hr1 : (j : Int) % w < w := Int.emod_lt_of_pos _ (by omega)
    have hrt : Int.tmod (j : Int) w = (j : Int) % w := Int.tmod_eq_emod_of_nonneg (by omega)
    have hrw : IntKind.i64.wrap ((j : Int) % w) = (j : Int) % w := wrap_i64 (by omega) (by omega)
    have hdw : IntKind.i64.wrap ((j : Int) % w - (w - n)) = (j : Int) % w - (w - n) := wrap_i64 (by omega) (by omega)
    by_cases hwin : w - n ≤ (j : Int) % w
    · have v4 := v3 hwin
      repeat' (first
          | (refine sops_cons (fun R hR => ?_); simp [f2, f9, f10, f11, f13, hlt, hrow, hcell, hj1, hrt, hrw, hdw, hw4, hwne, hwin, v1, v2, v4]; try simp (disch := omega) only [if_pos, if_neg])
          | (refine sqops_cons (fun R hR => ?_); simp [f2, f9, f10, f11, f13, hlt, hrow, hcell, hj1, hrt, hrw, hdw, hw4, hwne, hwin, v1, v2, v4]; try simp (disch := omega) only [if_pos, if_neg])
          | (refine hR _ _ ?_; clear hR R) | (refine hR _ ?_; clear hR R)
          | (refine hK _ _ ?_; clear hK K) | (refine hK _ ?_; clear hK K)
          | refine sops_nil ?_
          | refine sqops_nil ?_
          | (refine awp_rs (fun K hK => ?_); simp only [slim, slimL, slimG, List.map_cons, List.map_nil, Option.map_none, Option.map_some, List.getElem?_toArray, List.getElem?_cons_zero, List.getElem?_cons_succ, Option.bind_some])
          | (refine awp_r1 (fun K hK => ?_); simp only [slim, slimL, slimG, List.map_cons, List.map_nil, Option.map_none, Option.map_some, List.getElem?_toArray, List.getElem?_cons_zero, List.getElem?_cons_succ, Option.bind_some])
          | (refine awp_ds (by kernel_rfl) (by kernel_rfl) (fun K hK => ?_); simp only [slim, slimL, slimG, List.map_cons, List.map_nil, Option.map_none, Option.map_some, List.getElem?_toArray, List.getElem?_cons_zero, List.getElem?_cons_succ, Option.bind_some])
          | (refine awp_d1 (by kernel_rfl) (by kernel_rfl) (fun K hK => ?_); simp only [slim, slimL, slimG, List.map_cons, List.map_nil, Option.map_none, Option.map_some, List.getElem?_toArray, List.getElem?_cons_zero, List.getElem?_cons_succ, Option.bind_some])
          | (refine ⟨_, (pick_pure _ _ _ _ _ _ hf2 (by omega) (by omega)), ?_⟩)
          | refine awp_block ?_
          | refine awp_ret ?_
          | refine awp_skip ?_
          | refine awp_exit ?_
          | ((refine awp_cond rfl (fun hc => ?_) (fun hc => ?_)) <;> (try simp at hc) <;> (try omega))
          | ((refine awp_cond (by simp only [evF_tmp, evF_const, upd_apply, ↓reduceIte, Nat.reduceEqDiff, f2, f9, f10, f11, f13, hlt, hrow, hcell, hj1, hrt, hrw, hdw, hw4, hwne, hwin, v1, v2, v4]; rfl) (fun hc => ?_) (fun hc => ?_)) <;> (try simp at hc) <;> (try omega))
          | refine awp_seq ?_
          | ((refine ite_both (fun hc => ?_) (fun hc => ?_)) <;> (try omega) <;> (try simp (disch := omega) only [if_pos, if_neg])))
      all_goals refine ⟨L - (j + 1), by omega, j + 1, rfl, rfl, by omega, ?_, ?_, ?_, ?_, ?_⟩ <;> simp [f2, f9, f10, f11]
    · repeat' (first
        | (refine sops_cons (fun R hR => ?_); simp [f2, f9, f10, f11, f13, hlt, hrow, hcell, hj1, hrt, hrw, hdw, hw4, hwne, hwin, v1, v2]; try simp (disch := omega) only [if_pos, if_neg])
        | (refine sqops_cons (fun R hR => ?_); simp [f2, f9, f10, f11, f13, hlt, hrow, hcell, hj1, hrt, hrw, hdw, hw4, hwne, hwin, v1, v2]; try simp (disch := omega) only [if_pos, if_neg])
        | (refine hR _ _ ?_; clear hR R) | (refine hR _ ?_; clear hR R)
        | (refine hK _ _ ?_; clear hK K) | (refine hK _ ?_; clear hK K)
        | refine sops_nil ?_
        | refine sqops_nil ?_
        | (refine awp_rs (fun K hK => ?_); simp only [slim, slimL, slimG, List.map_cons, List.map_nil, Option.map_none, Option.map_some, List.getElem?_toArray, List.getElem?_cons_zero, List.getElem?_cons_succ, Option.bind_some])
        | (refine awp_r1 (fun K hK => ?_); simp only [slim, slimL, slimG, List.map_cons, List.map_nil, Option.map_none, Option.map_some, List.getElem?_toArray, List.getElem?_cons_zero, List.getElem?_cons_succ, Option.bind_some])
        | (refine awp_ds (by kernel_rfl) (by kernel_rfl) (fun K hK => ?_); simp only [slim, slimL, slimG, List.map_cons, List.map_nil, Option.map_none, Option.map_some, List.getElem?_toArray, List.getElem?_cons_zero, List.getElem?_cons_succ, Option.bind_some])
        | (refine awp_d1 (by kernel_rfl) (by kernel_rfl) (fun K hK => ?_); simp only [slim, slimL, slimG, List.map_cons, List.map_nil, Option.map_none, Option.map_some, List.getElem?_toArray, List.getElem?_cons_zero, List.getElem?_cons_succ, Option.bind_some])
        | (refine ⟨_, (pick_pure _ _ _ _ _ _ hf2 (by omega) (by omega)), ?_⟩)
        | refine awp_block ?_
        | refine awp_ret ?_
        | refine awp_skip ?_
        | refine awp_exit ?_
        | ((refine awp_cond rfl (fun hc => ?_) (fun hc => ?_)) <;> (try simp at hc) <;> (try omega))
        | ((refine awp_cond (by simp only [evF_tmp, evF_const, upd_apply, ↓reduceIte, Nat.reduceEqDiff, f2, f9, f10, f11, f13, hlt, hrow, hcell, hj1, hrt, hrw, hdw, hw4, hwne, hwin, v1, v2]; rfl) (fun hc => ?_) (fun hc => ?_)) <;> (try simp at hc) <;> (try omega))
        | refine awp_seq ?_
        | ((refine ite_both (fun hc => ?_) (fun hc => ?_)) <;> (try omega) <;> (try simp (disch := omega) only [if_pos, if_neg])))
      all_goals refine ⟨L - (j + 1), by omega, j + 1, rfl, rfl, by omega, ?_, ?_, ?_, ?_, ?_⟩ <;> simp [f2, f9, f10, f11]

end Go.Stx
