/-
  The functions of the package fair and of its reference that make picks: what each returns.
-/
import Derived.Test.YtbheeehnocnhmaaStxSimp
import Derived.Test.YtbheeehnocnhmaaFacts
namespace Go.Stx
open Go Go.Proofs
set_option linter.unusedVariables false
set_option linter.unusedSimpArgs false

def permittedF (t w : Int) : Int := if t < 1 ∨ 16 < t then 54 else if w < t ∨ 1000 < w then 2 else 0

theorem permitted_call (t w : Int) (A : AW) : ACall Try.prog 13 [.int .i64 t, .int .i64 w] A (fun v A' => v = .int .i64 (permittedF t w) ∧ A = A') := by
  refine acall_intro Try.func13 rfl (by kernel_rfl) fun hw => ?_
  repeat' (first
      | (refine sops_cons (fun R hR => ?_); simp [Nat.add_zero]; try simp (disch := omega) only [if_pos, if_neg])
      | (refine sqops_cons (fun R hR => ?_); simp [Nat.add_zero]; try simp (disch := omega) only [if_pos, if_neg])
      | (refine hR _ _ ?_; clear hR R) | (refine hR _ ?_; clear hR R)
      | (refine hK _ _ ?_; clear hK K) | (refine hK _ ?_; clear hK K)
      | refine sops_nil ?_
      | refine sqops_nil ?_
      | (refine awp_rs (fun K hK => ?_); simp only [slim, slimL, slimG, List.map_cons, List.map_nil, Option.map_none, Option.map_some, List.getElem?_toArray, List.getElem?_cons_zero, List.getElem?_cons_succ, Option.bind_some])
      | (refine awp_r1 (fun K hK => ?_); simp only [slim, slimL, slimG, List.map_cons, List.map_nil, Option.map_none, Option.map_some, List.getElem?_toArray, List.getElem?_cons_zero, List.getElem?_cons_succ, Option.bind_some])
      | (refine awp_ds (by kernel_rfl) (by kernel_rfl) (fun K hK => ?_); simp only [slim, slimL, slimG, List.map_cons, List.map_nil, Option.map_none, Option.map_some, List.getElem?_toArray, List.getElem?_cons_zero, List.getElem?_cons_succ, Option.bind_some])
      | (refine awp_d1 (by kernel_rfl) (by kernel_rfl) (fun K hK => ?_); simp only [slim, slimL, slimG, List.map_cons, List.map_nil, Option.map_none, Option.map_some, List.getElem?_toArray, List.getElem?_cons_zero, List.getElem?_cons_succ, Option.bind_some])
      | refine awp_block ?_
      | refine awp_ret ?_
      | refine awp_skip ?_
      | refine awp_exit ?_
      | ((refine awp_cond rfl (fun hc => ?_) (fun hc => ?_)) <;> (try simp at hc) <;> (try omega))
      | ((refine awp_cond (by simp only [evF_tmp, evF_const, upd_apply, ↓reduceIte, Nat.reduceEqDiff, Nat.add_zero]; rfl) (fun hc => ?_) (fun hc => ?_)) <;> (try simp at hc) <;> (try omega))
      | refine awp_seq ?_
      | ((refine ite_both (fun hc => ?_) (fun hc => ?_)) <;> (try omega) <;> (try simp (disch := omega) only [if_pos, if_neg])))
  all_goals (simp [permittedF] <;> (try simp_all) <;> (try omega))

theorem windows_call (t w : Int) (A : AW) : ACall Try.prog 14 [.int .i64 t, .int .i64 w] A (fun v A' => v = .bool (decide (t ≤ w ∧ w ≤ 1000)) ∧ A = A') := by
  refine acall_intro Try.func14 rfl (by kernel_rfl) fun hw => ?_
  repeat' (first
      | (refine sops_cons (fun R hR => ?_); simp [Nat.add_zero]; try simp (disch := omega) only [if_pos, if_neg])
      | (refine sqops_cons (fun R hR => ?_); simp [Nat.add_zero]; try simp (disch := omega) only [if_pos, if_neg])
      | (refine hR _ _ ?_; clear hR R) | (refine hR _ ?_; clear hR R)
      | (refine hK _ _ ?_; clear hK K) | (refine hK _ ?_; clear hK K)
      | refine sops_nil ?_
      | refine sqops_nil ?_
      | (refine awp_rs (fun K hK => ?_); simp only [slim, slimL, slimG, List.map_cons, List.map_nil, Option.map_none, Option.map_some, List.getElem?_toArray, List.getElem?_cons_zero, List.getElem?_cons_succ, Option.bind_some])
      | (refine awp_r1 (fun K hK => ?_); simp only [slim, slimL, slimG, List.map_cons, List.map_nil, Option.map_none, Option.map_some, List.getElem?_toArray, List.getElem?_cons_zero, List.getElem?_cons_succ, Option.bind_some])
      | (refine awp_ds (by kernel_rfl) (by kernel_rfl) (fun K hK => ?_); simp only [slim, slimL, slimG, List.map_cons, List.map_nil, Option.map_none, Option.map_some, List.getElem?_toArray, List.getElem?_cons_zero, List.getElem?_cons_succ, Option.bind_some])
      | (refine awp_d1 (by kernel_rfl) (by kernel_rfl) (fun K hK => ?_); simp only [slim, slimL, slimG, List.map_cons, List.map_nil, Option.map_none, Option.map_some, List.getElem?_toArray, List.getElem?_cons_zero, List.getElem?_cons_succ, Option.bind_some])
      | refine awp_block ?_
      | refine awp_ret ?_
      | refine awp_skip ?_
      | refine awp_exit ?_
      | ((refine awp_cond rfl (fun hc => ?_) (fun hc => ?_)) <;> (try simp at hc) <;> (try omega))
      | ((refine awp_cond (by simp only [evF_tmp, evF_const, upd_apply, ↓reduceIte, Nat.reduceEqDiff, Nat.add_zero]; rfl) (fun hc => ?_) (fun hc => ?_)) <;> (try simp at hc) <;> (try omega))
      | refine awp_seq ?_
      | ((refine ite_both (fun hc => ?_) (fun hc => ?_)) <;> (try omega) <;> (try simp (disch := omega) only [if_pos, if_neg])))
  all_goals (simp_all <;> omega)

set_option maxHeartbeats 1000000 in
theorem ints_call (va vb : Value) (a b : List Int) (A : AW) (ha : IsInts A .i64 va a) (hb : IsInts A .i64 vb b) (hla : a.length < 2^62) :
    ACall Try.prog 11 [va, vb] A (fun v A' => v = .bool (decide (a = b)) ∧ A = A') := by
  refine acall_intro Try.func11 rfl (by kernel_rfl) fun hw => ?_
  obtain ⟨oa, ca, rfl, _⟩ := ha.form
  obtain ⟨ob, cb, rfl, _⟩ := hb.form
  repeat' (first
      | (refine sops_cons (fun R hR => ?_); simp [Nat.add_zero]; try simp (disch := omega) only [if_pos, if_neg])
      | (refine sqops_cons (fun R hR => ?_); simp [Nat.add_zero]; try simp (disch := omega) only [if_pos, if_neg])
      | (refine hR _ _ ?_; clear hR R) | (refine hR _ ?_; clear hR R)
      | (refine hK _ _ ?_; clear hK K) | (refine hK _ ?_; clear hK K)
      | refine sops_nil ?_
      | refine sqops_nil ?_
      | (refine awp_rs (fun K hK => ?_); simp only [slim, slimL, slimG, List.map_cons, List.map_nil, Option.map_none, Option.map_some, List.getElem?_toArray, List.getElem?_cons_zero, List.getElem?_cons_succ, Option.bind_some])
      | (refine awp_r1 (fun K hK => ?_); simp only [slim, slimL, slimG, List.map_cons, List.map_nil, Option.map_none, Option.map_some, List.getElem?_toArray, List.getElem?_cons_zero, List.getElem?_cons_succ, Option.bind_some])
      | (refine awp_ds (by kernel_rfl) (by kernel_rfl) (fun K hK => ?_); simp only [slim, slimL, slimG, List.map_cons, List.map_nil, Option.map_none, Option.map_some, List.getElem?_toArray, List.getElem?_cons_zero, List.getElem?_cons_succ, Option.bind_some])
      | (refine awp_d1 (by kernel_rfl) (by kernel_rfl) (fun K hK => ?_); simp only [slim, slimL, slimG, List.map_cons, List.map_nil, Option.map_none, Option.map_some, List.getElem?_toArray, List.getElem?_cons_zero, List.getElem?_cons_succ, Option.bind_some])
      | refine awp_block ?_
      | refine awp_ret ?_
      | refine awp_skip ?_
      | refine awp_exit ?_
      | ((refine awp_cond rfl (fun hc => ?_) (fun hc => ?_)) <;> (try simp at hc) <;> (try omega))
      | ((refine awp_cond (by simp only [evF_tmp, evF_const, upd_apply, ↓reduceIte, Nat.reduceEqDiff, Nat.add_zero]; rfl) (fun hc => ?_) (fun hc => ?_)) <;> (try simp at hc) <;> (try omega))
      | refine awp_seq ?_
      | ((refine ite_both (fun hc => ?_) (fun hc => ?_)) <;> (try omega) <;> (try simp (disch := omega) only [if_pos, if_neg])))
  · simp
    intro e
    subst e
    simp at hc
  · have hlen : a.length = b.length := by omega
    refine awp_loop (fun k fr A' => A = A' ∧ ∃ i : Nat, k = a.length - i ∧ i ≤ a.length ∧ fr 0 = .slice oa a.length ca ∧ fr 1 = .slice ob b.length cb ∧ fr 5 = .int .i64 i ∧ ∀ j, j < i → a[j]? = b[j]?) a.length ?_ ?_
    · refine ⟨rfl, 0, by simp, by simp, rfl, rfl, rfl, by simp⟩
    · rintro k fr A' ⟨rfl, i, rfl, hi, h0, h1, h5, hj⟩
      by_cases hlt : i < a.length
      · obtain ⟨p, row, rfl, hrow, hcell⟩ := ha.at hlt
        obtain ⟨q, row', rfl, hrow', hcell'⟩ := hb.at (i := i) (by omega)
        have hltb : i < b.length := by omega
        have hwi : IntKind.i64.wrap ((i : Int) + 1) = ((i + 1 : Nat) : Int) := wrap_i64 (by omega) (by omega)
        refine awp_seq ?_
        repeat' (first
            | (refine sops_cons (fun R hR => ?_); simp [h0, h1, h5, hrow, hrow', hcell, hcell', hlt, hltb, hwi]; try simp (disch := omega) only [if_pos, if_neg])
            | (refine sqops_cons (fun R hR => ?_); simp [h0, h1, h5, hrow, hrow', hcell, hcell', hlt, hltb, hwi]; try simp (disch := omega) only [if_pos, if_neg])
            | (refine hR _ _ ?_; clear hR R) | (refine hR _ ?_; clear hR R)
            | (refine hK _ _ ?_; clear hK K) | (refine hK _ ?_; clear hK K)
            | refine sops_nil ?_
            | refine sqops_nil ?_
            | (refine awp_rs (fun K hK => ?_); simp only [slim, slimL, slimG, List.map_cons, List.map_nil, Option.map_none, Option.map_some, List.getElem?_toArray, List.getElem?_cons_zero, List.getElem?_cons_succ, Option.bind_some])
            | (refine awp_r1 (fun K hK => ?_); simp only [slim, slimL, slimG, List.map_cons, List.map_nil, Option.map_none, Option.map_some, List.getElem?_toArray, List.getElem?_cons_zero, List.getElem?_cons_succ, Option.bind_some])
            | (refine awp_ds (by kernel_rfl) (by kernel_rfl) (fun K hK => ?_); simp only [slim, slimL, slimG, List.map_cons, List.map_nil, Option.map_none, Option.map_some, List.getElem?_toArray, List.getElem?_cons_zero, List.getElem?_cons_succ, Option.bind_some])
            | (refine awp_d1 (by kernel_rfl) (by kernel_rfl) (fun K hK => ?_); simp only [slim, slimL, slimG, List.map_cons, List.map_nil, Option.map_none, Option.map_some, List.getElem?_toArray, List.getElem?_cons_zero, List.getElem?_cons_succ, Option.bind_some])
            | refine awp_block ?_
            | refine awp_ret ?_
            | refine awp_skip ?_
            | refine awp_exit ?_
            | ((refine awp_cond rfl (fun hc => ?_) (fun hc => ?_)) <;> (try simp at hc) <;> (try omega))
            | ((refine awp_cond (by simp only [evF_tmp, evF_const, upd_apply, ↓reduceIte, Nat.reduceEqDiff, h0, h1, h5, hrow, hrow', hcell, hcell', hlt, hltb, hwi]; rfl) (fun hc => ?_) (fun hc => ?_)) <;> (try simp at hc) <;> (try omega))
            | refine awp_seq ?_
            | ((refine ite_both (fun hc => ?_) (fun hc => ?_)) <;> (try omega) <;> (try simp (disch := omega) only [if_pos, if_neg])))
        · simp
          intro e
          subst e
          simp at hc
        · refine ⟨a.length - (i + 1), by omega, rfl, i + 1, rfl, by omega, ?_, ?_, ?_, ?_⟩
          · simp [h0]
          · simp [h1]
          · simp
          · intro j hj'
            by_cases e : j = i
            · subst e
              rw [List.getElem?_eq_getElem hlt, List.getElem?_eq_getElem hltb, hc]
            · exact hj j (by omega)
      · refine awp_seq ?_
        repeat' (first
            | (refine sops_cons (fun R hR => ?_); simp [h0, h1, h5, hlt]; try simp (disch := omega) only [if_pos, if_neg])
            | (refine sqops_cons (fun R hR => ?_); simp [h0, h1, h5, hlt]; try simp (disch := omega) only [if_pos, if_neg])
            | (refine hR _ _ ?_; clear hR R) | (refine hR _ ?_; clear hR R)
            | (refine hK _ _ ?_; clear hK K) | (refine hK _ ?_; clear hK K)
            | refine sops_nil ?_
            | refine sqops_nil ?_
            | (refine awp_rs (fun K hK => ?_); simp only [slim, slimL, slimG, List.map_cons, List.map_nil, Option.map_none, Option.map_some, List.getElem?_toArray, List.getElem?_cons_zero, List.getElem?_cons_succ, Option.bind_some])
            | (refine awp_r1 (fun K hK => ?_); simp only [slim, slimL, slimG, List.map_cons, List.map_nil, Option.map_none, Option.map_some, List.getElem?_toArray, List.getElem?_cons_zero, List.getElem?_cons_succ, Option.bind_some])
            | (refine awp_ds (by kernel_rfl) (by kernel_rfl) (fun K hK => ?_); simp only [slim, slimL, slimG, List.map_cons, List.map_nil, Option.map_none, Option.map_some, List.getElem?_toArray, List.getElem?_cons_zero, List.getElem?_cons_succ, Option.bind_some])
            | (refine awp_d1 (by kernel_rfl) (by kernel_rfl) (fun K hK => ?_); simp only [slim, slimL, slimG, List.map_cons, List.map_nil, Option.map_none, Option.map_some, List.getElem?_toArray, List.getElem?_cons_zero, List.getElem?_cons_succ, Option.bind_some])
            | refine awp_block ?_
            | refine awp_ret ?_
            | refine awp_skip ?_
            | refine awp_exit ?_
            | ((refine awp_cond rfl (fun hc => ?_) (fun hc => ?_)) <;> (try simp at hc) <;> (try omega))
            | ((refine awp_cond (by simp only [evF_tmp, evF_const, upd_apply, ↓reduceIte, Nat.reduceEqDiff, h0, h1, h5, hlt]; rfl) (fun hc => ?_) (fun hc => ?_)) <;> (try simp at hc) <;> (try omega))
            | refine awp_seq ?_
            | ((refine ite_both (fun hc => ?_) (fun hc => ?_)) <;> (try omega) <;> (try simp (disch := omega) only [if_pos, if_neg])))
        have e : a = b := by
          apply List.ext_getElem?
          intro j
          by_cases hj' : j < i
          · exact hj j hj'
          · rw [List.getElem?_eq_none (by omega), List.getElem?_eq_none (by omega)]
        simp [e]

/-! ### Pick -/

def pickF (t w : Int) (free : List Int) (k : Int) : Int :=
  if permittedF t w ≠ 0 ∨ k < 0 then -1
  else if w - t ≤ k % w then k % w - (w - t)
  else if free.length = 0 then 0
  else
    let x := (free.getD ((k / w * (w - t) + k % w) % free.length).toNat 0).tmod t
    if x < 0 then x + t else x

theorem permitted_zero {t w : Int} (h : permittedF t w = 0) : 1 ≤ t ∧ t ≤ 16 ∧ t ≤ w ∧ w ≤ 1000 := by
  unfold permittedF at h
  split at h
  · omega
  · split at h <;> omega

theorem pick_prod {w op k : Int} (hw : 1 ≤ w) (h0 : 0 ≤ op) (h1 : op ≤ w) (hk : 0 ≤ k) : 0 ≤ k / w * op ∧ k / w * op + k % w ≤ k := by
  have h2 : 0 ≤ k / w := Int.ediv_nonneg hk (by omega)
  have h3 : k / w * op ≤ k / w * w := Int.mul_le_mul_of_nonneg_left h1 h2
  have h4 := Int.ediv_mul_add_emod k w
  exact ⟨Int.mul_nonneg h2 h0, by omega⟩

set_option maxHeartbeats 1000000 in
theorem pick_call (t w k : Int) (vf : Value) (free : List Int) (A : AW) (hf : IsInts A .i64 vf free) (hl : free.length < 2^62) (hk : k ≤ 9223372036854775807) :
    ACall Try.prog 9 [.int .i64 t, .int .i64 w, vf, .int .i64 k] A (fun v A' => v = .int .i64 (pickF t w free k) ∧ A = A') := by
  refine acall_intro Try.func9 rfl (by kernel_rfl) fun hw => ?_
  obtain ⟨of, cf, rfl, _⟩ := hf.form
  by_cases hp : permittedF t w ≠ 0 ∨ k < 0
  · by_cases hp0 : permittedF t w = 0
    · have hk0 : k < 0 := by omega
      repeat' (first
          | (refine sops_cons (fun R hR => ?_); simp [hp0, hk0]; try simp (disch := omega) only [if_pos, if_neg])
          | (refine sqops_cons (fun R hR => ?_); simp [hp0, hk0]; try simp (disch := omega) only [if_pos, if_neg])
          | (refine hR _ _ ?_; clear hR R) | (refine hR _ ?_; clear hR R)
          | (refine hK _ _ ?_; clear hK K) | (refine hK _ ?_; clear hK K)
          | refine sops_nil ?_
          | refine sqops_nil ?_
          | (refine awp_rs (fun K hK => ?_); simp only [slim, slimL, slimG, List.map_cons, List.map_nil, Option.map_none, Option.map_some, List.getElem?_toArray, List.getElem?_cons_zero, List.getElem?_cons_succ, Option.bind_some])
          | (refine awp_r1 (fun K hK => ?_); simp only [slim, slimL, slimG, List.map_cons, List.map_nil, Option.map_none, Option.map_some, List.getElem?_toArray, List.getElem?_cons_zero, List.getElem?_cons_succ, Option.bind_some])
          | (refine awp_ds (by kernel_rfl) (by kernel_rfl) (fun K hK => ?_); simp only [slim, slimL, slimG, List.map_cons, List.map_nil, Option.map_none, Option.map_some, List.getElem?_toArray, List.getElem?_cons_zero, List.getElem?_cons_succ, Option.bind_some])
          | (refine awp_d1 (by kernel_rfl) (by kernel_rfl) (fun K hK => ?_); simp only [slim, slimL, slimG, List.map_cons, List.map_nil, Option.map_none, Option.map_some, List.getElem?_toArray, List.getElem?_cons_zero, List.getElem?_cons_succ, Option.bind_some])
          | (refine callK (permitted_call _ _ _) ?_; rintro _ _ ⟨rfl, rfl⟩ _ _)
          | refine awp_block ?_
          | refine awp_ret ?_
          | refine awp_skip ?_
          | refine awp_exit ?_
          | ((refine awp_cond rfl (fun hc => ?_) (fun hc => ?_)) <;> (try simp at hc) <;> (try omega))
          | ((refine awp_cond (by simp only [evF_tmp, evF_const, upd_apply, ↓reduceIte, Nat.reduceEqDiff, hp0, hk0]; rfl) (fun hc => ?_) (fun hc => ?_)) <;> (try simp at hc) <;> (try omega))
          | refine awp_seq ?_
          | ((refine ite_both (fun hc => ?_) (fun hc => ?_)) <;> (try omega) <;> (try simp (disch := omega) only [if_pos, if_neg])))
      all_goals simp [pickF, hp]
    · repeat' (first
        | (refine sops_cons (fun R hR => ?_); simp [hp0]; try simp (disch := omega) only [if_pos, if_neg])
        | (refine sqops_cons (fun R hR => ?_); simp [hp0]; try simp (disch := omega) only [if_pos, if_neg])
        | (refine hR _ _ ?_; clear hR R) | (refine hR _ ?_; clear hR R)
        | (refine hK _ _ ?_; clear hK K) | (refine hK _ ?_; clear hK K)
        | refine sops_nil ?_
        | refine sqops_nil ?_
        | (refine awp_rs (fun K hK => ?_); simp only [slim, slimL, slimG, List.map_cons, List.map_nil, Option.map_none, Option.map_some, List.getElem?_toArray, List.getElem?_cons_zero, List.getElem?_cons_succ, Option.bind_some])
        | (refine awp_r1 (fun K hK => ?_); simp only [slim, slimL, slimG, List.map_cons, List.map_nil, Option.map_none, Option.map_some, List.getElem?_toArray, List.getElem?_cons_zero, List.getElem?_cons_succ, Option.bind_some])
        | (refine awp_ds (by kernel_rfl) (by kernel_rfl) (fun K hK => ?_); simp only [slim, slimL, slimG, List.map_cons, List.map_nil, Option.map_none, Option.map_some, List.getElem?_toArray, List.getElem?_cons_zero, List.getElem?_cons_succ, Option.bind_some])
        | (refine awp_d1 (by kernel_rfl) (by kernel_rfl) (fun K hK => ?_); simp only [slim, slimL, slimG, List.map_cons, List.map_nil, Option.map_none, Option.map_some, List.getElem?_toArray, List.getElem?_cons_zero, List.getElem?_cons_succ, Option.bind_some])
        | (refine callK (permitted_call _ _ _) ?_; rintro _ _ ⟨rfl, rfl⟩ _ _)
        | refine awp_block ?_
        | refine awp_ret ?_
        | refine awp_skip ?_
        | refine awp_exit ?_
        | ((refine awp_cond rfl (fun hc => ?_) (fun hc => ?_)) <;> (try simp at hc) <;> (try omega))
        | ((refine awp_cond (by simp only [evF_tmp, evF_const, upd_apply, ↓reduceIte, Nat.reduceEqDiff, hp0]; rfl) (fun hc => ?_) (fun hc => ?_)) <;> (try simp at hc) <;> (try omega))
        | refine awp_seq ?_
        | ((refine ite_both (fun hc => ?_) (fun hc => ?_)) <;> (try omega) <;> (try simp (disch := omega) only [if_pos, if_neg])))
      all_goals simp [pickF, hp]
  · have hp0 : permittedF t w = 0 := by omega
    have hk0 : 0 ≤ k := by omega
    obtain ⟨b1, b2, b3, b4⟩ := permitted_zero hp0
    have hne : w ≠ 0 := by omega
    have hq : k.tdiv w = k / w := Int.tdiv_eq_ediv_of_nonneg hk0
    have hr : k.tmod w = k % w := Int.tmod_eq_emod_of_nonneg hk0
    have hq0 : 0 ≤ k / w := Int.ediv_nonneg hk0 (by omega)
    have hq1 : k / w ≤ k := Int.ediv_le_self _ hk0
    have hr0 : 0 ≤ k % w := Int.emod_nonneg _ hne
    have hr1 : k % w < w := Int.emod_lt_of_pos _ (by omega)
    have hw1 : IntKind.i64.wrap (w - t) = w - t := wrap_i64 (by omega) (by omega)
    have hw2 : IntKind.i64.wrap (k / w) = k / w := wrap_i64 (by omega) (by omega)
    by_cases hat : w - t ≤ k % w
    · have hw3 : IntKind.i64.wrap (k % w - (w - t)) = k % w - (w - t) := wrap_i64 (by omega) (by omega)
      have hnk : ¬ k < 0 := by omega
      repeat' (first
          | (refine sops_cons (fun R hR => ?_); simp [hp0, hne, hq, hr, hw1, hw2, hw3, hat, hnk]; try simp (disch := omega) only [if_pos, if_neg])
          | (refine sqops_cons (fun R hR => ?_); simp [hp0, hne, hq, hr, hw1, hw2, hw3, hat, hnk]; try simp (disch := omega) only [if_pos, if_neg])
          | (refine hR _ _ ?_; clear hR R) | (refine hR _ ?_; clear hR R)
          | (refine hK _ _ ?_; clear hK K) | (refine hK _ ?_; clear hK K)
          | refine sops_nil ?_
          | refine sqops_nil ?_
          | (refine awp_rs (fun K hK => ?_); simp only [slim, slimL, slimG, List.map_cons, List.map_nil, Option.map_none, Option.map_some, List.getElem?_toArray, List.getElem?_cons_zero, List.getElem?_cons_succ, Option.bind_some])
          | (refine awp_r1 (fun K hK => ?_); simp only [slim, slimL, slimG, List.map_cons, List.map_nil, Option.map_none, Option.map_some, List.getElem?_toArray, List.getElem?_cons_zero, List.getElem?_cons_succ, Option.bind_some])
          | (refine awp_ds (by kernel_rfl) (by kernel_rfl) (fun K hK => ?_); simp only [slim, slimL, slimG, List.map_cons, List.map_nil, Option.map_none, Option.map_some, List.getElem?_toArray, List.getElem?_cons_zero, List.getElem?_cons_succ, Option.bind_some])
          | (refine awp_d1 (by kernel_rfl) (by kernel_rfl) (fun K hK => ?_); simp only [slim, slimL, slimG, List.map_cons, List.map_nil, Option.map_none, Option.map_some, List.getElem?_toArray, List.getElem?_cons_zero, List.getElem?_cons_succ, Option.bind_some])
          | (refine callK (permitted_call _ _ _) ?_; rintro _ _ ⟨rfl, rfl⟩ _ _)
          | refine awp_block ?_
          | refine awp_ret ?_
          | refine awp_skip ?_
          | refine awp_exit ?_
          | ((refine awp_cond rfl (fun hc => ?_) (fun hc => ?_)) <;> (try simp at hc) <;> (try omega))
          | ((refine awp_cond (by simp only [evF_tmp, evF_const, upd_apply, ↓reduceIte, Nat.reduceEqDiff, hp0, hne, hq, hr, hw1, hw2, hw3, hat, hnk]; rfl) (fun hc => ?_) (fun hc => ?_)) <;> (try simp at hc) <;> (try omega))
          | refine awp_seq ?_
          | ((refine ite_both (fun hc => ?_) (fun hc => ?_)) <;> (try omega) <;> (try simp (disch := omega) only [if_pos, if_neg])))
      all_goals simp [pickF, hp0, hat, hnk]
    · have hnk : ¬ k < 0 := by omega
      by_cases hfl : free.length = 0
      · have hfl' : free = [] := List.eq_nil_of_length_eq_zero hfl
        repeat' (first
            | (refine sops_cons (fun R hR => ?_); simp [hp0, hne, hq, hr, hw1, hw2, hat, hnk, hfl]; try simp (disch := omega) only [if_pos, if_neg])
            | (refine sqops_cons (fun R hR => ?_); simp [hp0, hne, hq, hr, hw1, hw2, hat, hnk, hfl]; try simp (disch := omega) only [if_pos, if_neg])
            | (refine hR _ _ ?_; clear hR R) | (refine hR _ ?_; clear hR R)
            | (refine hK _ _ ?_; clear hK K) | (refine hK _ ?_; clear hK K)
            | refine sops_nil ?_
            | refine sqops_nil ?_
            | (refine awp_rs (fun K hK => ?_); simp only [slim, slimL, slimG, List.map_cons, List.map_nil, Option.map_none, Option.map_some, List.getElem?_toArray, List.getElem?_cons_zero, List.getElem?_cons_succ, Option.bind_some])
            | (refine awp_r1 (fun K hK => ?_); simp only [slim, slimL, slimG, List.map_cons, List.map_nil, Option.map_none, Option.map_some, List.getElem?_toArray, List.getElem?_cons_zero, List.getElem?_cons_succ, Option.bind_some])
            | (refine awp_ds (by kernel_rfl) (by kernel_rfl) (fun K hK => ?_); simp only [slim, slimL, slimG, List.map_cons, List.map_nil, Option.map_none, Option.map_some, List.getElem?_toArray, List.getElem?_cons_zero, List.getElem?_cons_succ, Option.bind_some])
            | (refine awp_d1 (by kernel_rfl) (by kernel_rfl) (fun K hK => ?_); simp only [slim, slimL, slimG, List.map_cons, List.map_nil, Option.map_none, Option.map_some, List.getElem?_toArray, List.getElem?_cons_zero, List.getElem?_cons_succ, Option.bind_some])
            | (refine callK (permitted_call _ _ _) ?_; rintro _ _ ⟨rfl, rfl⟩ _ _)
            | refine awp_block ?_
            | refine awp_ret ?_
            | refine awp_skip ?_
            | refine awp_exit ?_
            | ((refine awp_cond rfl (fun hc => ?_) (fun hc => ?_)) <;> (try simp at hc) <;> (try omega))
            | ((refine awp_cond (by simp only [evF_tmp, evF_const, upd_apply, ↓reduceIte, Nat.reduceEqDiff, hp0, hne, hq, hr, hw1, hw2, hat, hnk, hfl]; rfl) (fun hc => ?_) (fun hc => ?_)) <;> (try simp at hc) <;> (try omega))
            | refine awp_seq ?_
            | ((refine ite_both (fun hc => ?_) (fun hc => ?_)) <;> (try omega) <;> (try simp (disch := omega) only [if_pos, if_neg])))
        all_goals simp [pickF, hp0, hat, hnk, hfl']
      · obtain ⟨c1, c2⟩ := pick_prod (w := w) (op := w - t) (k := k) (by omega) (by omega) (by omega) hk0
        have hw4 : IntKind.i64.wrap (k / w * (w - t)) = k / w * (w - t) := wrap_i64 (by omega) (by omega)
        have hw5 : IntKind.i64.wrap (k / w * (w - t) + k % w) = k / w * (w - t) + k % w := wrap_i64 (by omega) (by omega)
        have hr2 : (k / w * (w - t) + k % w).tmod free.length = (k / w * (w - t) + k % w) % free.length := Int.tmod_eq_emod_of_nonneg (by omega)
        have hfne : (free.length : Int) ≠ 0 := by omega
        have hr3 : 0 ≤ (k / w * (w - t) + k % w) % free.length := Int.emod_nonneg _ hfne
        have hr4 : (k / w * (w - t) + k % w) % free.length < free.length := Int.emod_lt_of_pos _ (by omega)
        generalize hi : (k / w * (w - t) + k % w) % free.length = i at *
        have hin : i.toNat < free.length := by omega
        obtain ⟨p, row, rfl, hrow, hcell⟩ := hf.at hin
        have htne : t ≠ 0 := by omega
        have hx1 := Int.lt_tmod_of_pos free[i.toNat] (show 0 < t by omega)
        have hx2 := Int.tmod_lt_of_pos free[i.toNat] (show 0 < t by omega)
        have hw6 : free[i.toNat].tmod t < 0 → IntKind.i64.wrap (free[i.toNat].tmod t + t) = free[i.toNat].tmod t + t := fun _ => wrap_i64 (by omega) (by omega)
        have hfin : pickF t w free k = if free[i.toNat].tmod t < 0 then free[i.toNat].tmod t + t else free[i.toNat].tmod t := by
          have e : free.getD i.toNat 0 = free[i.toNat] := by rw [List.getD_eq_getElem?_getD, List.getElem?_eq_getElem hin]; rfl
          unfold pickF
          rw [if_neg hp, if_neg hat, if_neg hfl, hi, e]
        have HF := hfin
        clear hfin
        repeat' (first
            | (refine sops_cons (fun R hR => ?_); simp [hp0, hne, hq, hr, hw1, hw2, hw4, hw5, hat, hnk, hfl, hfne, hr2, hr3, hr4, hrow, hcell, htne]; try simp (disch := omega) only [if_pos, if_neg])
            | (refine sqops_cons (fun R hR => ?_); simp [hp0, hne, hq, hr, hw1, hw2, hw4, hw5, hat, hnk, hfl, hfne, hr2, hr3, hr4, hrow, hcell, htne]; try simp (disch := omega) only [if_pos, if_neg])
            | (refine hR _ _ ?_; clear hR R) | (refine hR _ ?_; clear hR R)
            | (refine hK _ _ ?_; clear hK K) | (refine hK _ ?_; clear hK K)
            | refine sops_nil ?_
            | refine sqops_nil ?_
            | (refine awp_rs (fun K hK => ?_); simp only [slim, slimL, slimG, List.map_cons, List.map_nil, Option.map_none, Option.map_some, List.getElem?_toArray, List.getElem?_cons_zero, List.getElem?_cons_succ, Option.bind_some])
            | (refine awp_r1 (fun K hK => ?_); simp only [slim, slimL, slimG, List.map_cons, List.map_nil, Option.map_none, Option.map_some, List.getElem?_toArray, List.getElem?_cons_zero, List.getElem?_cons_succ, Option.bind_some])
            | (refine awp_ds (by kernel_rfl) (by kernel_rfl) (fun K hK => ?_); simp only [slim, slimL, slimG, List.map_cons, List.map_nil, Option.map_none, Option.map_some, List.getElem?_toArray, List.getElem?_cons_zero, List.getElem?_cons_succ, Option.bind_some])
            | (refine awp_d1 (by kernel_rfl) (by kernel_rfl) (fun K hK => ?_); simp only [slim, slimL, slimG, List.map_cons, List.map_nil, Option.map_none, Option.map_some, List.getElem?_toArray, List.getElem?_cons_zero, List.getElem?_cons_succ, Option.bind_some])
            | (refine callK (permitted_call _ _ _) ?_; rintro _ _ ⟨rfl, rfl⟩ _ _)
            | refine awp_block ?_
            | refine awp_ret ?_
            | refine awp_skip ?_
            | refine awp_exit ?_
            | ((refine awp_cond rfl (fun hc => ?_) (fun hc => ?_)) <;> (try simp at hc) <;> (try omega))
            | ((refine awp_cond (by simp only [evF_tmp, evF_const, upd_apply, ↓reduceIte, Nat.reduceEqDiff, hp0, hne, hq, hr, hw1, hw2, hw4, hw5, hat, hnk, hfl, hfne, hr2, hr3, hr4, hrow, hcell, htne]; rfl) (fun hc => ?_) (fun hc => ?_)) <;> (try simp at hc) <;> (try omega))
            | refine awp_seq ?_
            | ((refine ite_both (fun hc => ?_) (fun hc => ?_)) <;> (try omega) <;> (try simp (disch := omega) only [if_pos, if_neg])))
        · simp [HF, hc, hw6 hc]
        · simp [HF, Int.not_lt.2 hc]

theorem emod_comb (b w a n : Int) : (b % n * (w % n) + a) % n = (b * w + a) % n := by
  rw [Int.add_emod, Int.mul_emod, Int.emod_emod, Int.emod_emod, ← Int.mul_emod, ← Int.add_emod]

set_option maxHeartbeats 1000000 in
theorem refPick_call (t w k : Int) (vf : Value) (free : List Int) (A : AW) (hf : IsInts A .i64 vf free) (hl : free.length < 2^31) (hk : k ≤ 9223372036854775807) :
    ACall Try.prog 10 [.int .i64 t, .int .i64 w, vf, .int .i64 k] A (fun v A' => v = .int .i64 (pickF t w free k) ∧ A = A') := by
  refine acall_intro Try.func10 rfl (by kernel_rfl) fun hw => ?_
  obtain ⟨of, cf, rfl, _⟩ := hf.form
  by_cases ht : t < 1
  · have hp : permittedF t w ≠ 0 := by unfold permittedF; rw [if_pos (by omega)]; omega
    repeat' (first
        | (refine sops_cons (fun R hR => ?_); simp [ht]; try simp (disch := omega) only [if_pos, if_neg])
        | (refine sqops_cons (fun R hR => ?_); simp [ht]; try simp (disch := omega) only [if_pos, if_neg])
        | (refine hR _ _ ?_; clear hR R) | (refine hR _ ?_; clear hR R)
        | (refine hK _ _ ?_; clear hK K) | (refine hK _ ?_; clear hK K)
        | refine sops_nil ?_
        | refine sqops_nil ?_
        | (refine awp_rs (fun K hK => ?_); simp only [slim, slimL, slimG, List.map_cons, List.map_nil, Option.map_none, Option.map_some, List.getElem?_toArray, List.getElem?_cons_zero, List.getElem?_cons_succ, Option.bind_some])
        | (refine awp_r1 (fun K hK => ?_); simp only [slim, slimL, slimG, List.map_cons, List.map_nil, Option.map_none, Option.map_some, List.getElem?_toArray, List.getElem?_cons_zero, List.getElem?_cons_succ, Option.bind_some])
        | (refine awp_ds (by kernel_rfl) (by kernel_rfl) (fun K hK => ?_); simp only [slim, slimL, slimG, List.map_cons, List.map_nil, Option.map_none, Option.map_some, List.getElem?_toArray, List.getElem?_cons_zero, List.getElem?_cons_succ, Option.bind_some])
        | (refine awp_d1 (by kernel_rfl) (by kernel_rfl) (fun K hK => ?_); simp only [slim, slimL, slimG, List.map_cons, List.map_nil, Option.map_none, Option.map_some, List.getElem?_toArray, List.getElem?_cons_zero, List.getElem?_cons_succ, Option.bind_some])
        | (refine callK (windows_call _ _ _) ?_; rintro _ _ ⟨rfl, rfl⟩ _ _)
        | refine awp_block ?_
        | refine awp_ret ?_
        | refine awp_skip ?_
        | refine awp_exit ?_
        | ((refine awp_cond rfl (fun hc => ?_) (fun hc => ?_)) <;> (try simp at hc) <;> (try omega))
        | ((refine awp_cond (by simp only [evF_tmp, evF_const, upd_apply, ↓reduceIte, Nat.reduceEqDiff, ht]; rfl) (fun hc => ?_) (fun hc => ?_)) <;> (try simp at hc) <;> (try omega))
        | refine awp_seq ?_
        | ((refine ite_both (fun hc => ?_) (fun hc => ?_)) <;> (try omega) <;> (try simp (disch := omega) only [if_pos, if_neg])))
    all_goals simp [pickF, hp]
  by_cases ht2 : 16 < t
  · have hp : permittedF t w ≠ 0 := by unfold permittedF; rw [if_pos (by omega)]; omega
    repeat' (first
        | (refine sops_cons (fun R hR => ?_); simp [ht, ht2]; try simp (disch := omega) only [if_pos, if_neg])
        | (refine sqops_cons (fun R hR => ?_); simp [ht, ht2]; try simp (disch := omega) only [if_pos, if_neg])
        | (refine hR _ _ ?_; clear hR R) | (refine hR _ ?_; clear hR R)
        | (refine hK _ _ ?_; clear hK K) | (refine hK _ ?_; clear hK K)
        | refine sops_nil ?_
        | refine sqops_nil ?_
        | (refine awp_rs (fun K hK => ?_); simp only [slim, slimL, slimG, List.map_cons, List.map_nil, Option.map_none, Option.map_some, List.getElem?_toArray, List.getElem?_cons_zero, List.getElem?_cons_succ, Option.bind_some])
        | (refine awp_r1 (fun K hK => ?_); simp only [slim, slimL, slimG, List.map_cons, List.map_nil, Option.map_none, Option.map_some, List.getElem?_toArray, List.getElem?_cons_zero, List.getElem?_cons_succ, Option.bind_some])
        | (refine awp_ds (by kernel_rfl) (by kernel_rfl) (fun K hK => ?_); simp only [slim, slimL, slimG, List.map_cons, List.map_nil, Option.map_none, Option.map_some, List.getElem?_toArray, List.getElem?_cons_zero, List.getElem?_cons_succ, Option.bind_some])
        | (refine awp_d1 (by kernel_rfl) (by kernel_rfl) (fun K hK => ?_); simp only [slim, slimL, slimG, List.map_cons, List.map_nil, Option.map_none, Option.map_some, List.getElem?_toArray, List.getElem?_cons_zero, List.getElem?_cons_succ, Option.bind_some])
        | (refine callK (windows_call _ _ _) ?_; rintro _ _ ⟨rfl, rfl⟩ _ _)
        | refine awp_block ?_
        | refine awp_ret ?_
        | refine awp_skip ?_
        | refine awp_exit ?_
        | ((refine awp_cond rfl (fun hc => ?_) (fun hc => ?_)) <;> (try simp at hc) <;> (try omega))
        | ((refine awp_cond (by simp only [evF_tmp, evF_const, upd_apply, ↓reduceIte, Nat.reduceEqDiff, ht, ht2]; rfl) (fun hc => ?_) (fun hc => ?_)) <;> (try simp at hc) <;> (try omega))
        | refine awp_seq ?_
        | ((refine ite_both (fun hc => ?_) (fun hc => ?_)) <;> (try omega) <;> (try simp (disch := omega) only [if_pos, if_neg])))
    all_goals simp [pickF, hp]
  by_cases hww : t ≤ w ∧ w ≤ 1000
  case neg =>
    have hp : permittedF t w ≠ 0 := by unfold permittedF; rw [if_neg (by omega), if_pos (by omega)]; omega
    repeat' (first
        | (refine sops_cons (fun R hR => ?_); simp [ht, ht2, hww]; try simp (disch := omega) only [if_pos, if_neg])
        | (refine sqops_cons (fun R hR => ?_); simp [ht, ht2, hww]; try simp (disch := omega) only [if_pos, if_neg])
        | (refine hR _ _ ?_; clear hR R) | (refine hR _ ?_; clear hR R)
        | (refine hK _ _ ?_; clear hK K) | (refine hK _ ?_; clear hK K)
        | refine sops_nil ?_
        | refine sqops_nil ?_
        | (refine awp_rs (fun K hK => ?_); simp only [slim, slimL, slimG, List.map_cons, List.map_nil, Option.map_none, Option.map_some, List.getElem?_toArray, List.getElem?_cons_zero, List.getElem?_cons_succ, Option.bind_some])
        | (refine awp_r1 (fun K hK => ?_); simp only [slim, slimL, slimG, List.map_cons, List.map_nil, Option.map_none, Option.map_some, List.getElem?_toArray, List.getElem?_cons_zero, List.getElem?_cons_succ, Option.bind_some])
        | (refine awp_ds (by kernel_rfl) (by kernel_rfl) (fun K hK => ?_); simp only [slim, slimL, slimG, List.map_cons, List.map_nil, Option.map_none, Option.map_some, List.getElem?_toArray, List.getElem?_cons_zero, List.getElem?_cons_succ, Option.bind_some])
        | (refine awp_d1 (by kernel_rfl) (by kernel_rfl) (fun K hK => ?_); simp only [slim, slimL, slimG, List.map_cons, List.map_nil, Option.map_none, Option.map_some, List.getElem?_toArray, List.getElem?_cons_zero, List.getElem?_cons_succ, Option.bind_some])
        | (refine callK (windows_call _ _ _) ?_; rintro _ _ ⟨rfl, rfl⟩ _ _)
        | refine awp_block ?_
        | refine awp_ret ?_
        | refine awp_skip ?_
        | refine awp_exit ?_
        | ((refine awp_cond rfl (fun hc => ?_) (fun hc => ?_)) <;> (try simp at hc) <;> (try omega))
        | ((refine awp_cond (by simp only [evF_tmp, evF_const, upd_apply, ↓reduceIte, Nat.reduceEqDiff, ht, ht2, hww]; rfl) (fun hc => ?_) (fun hc => ?_)) <;> (try simp at hc) <;> (try omega))
        | refine awp_seq ?_
        | ((refine ite_both (fun hc => ?_) (fun hc => ?_)) <;> (try omega) <;> (try simp (disch := omega) only [if_pos, if_neg])))
    all_goals simp [pickF, hp]
  have hp0 : permittedF t w = 0 := by unfold permittedF; rw [if_neg (by omega), if_neg (by omega)]
  by_cases hk0 : k < 0
  · repeat' (first
      | (refine sops_cons (fun R hR => ?_); simp [ht, ht2, hww, hk0]; try simp (disch := omega) only [if_pos, if_neg])
      | (refine sqops_cons (fun R hR => ?_); simp [ht, ht2, hww, hk0]; try simp (disch := omega) only [if_pos, if_neg])
      | (refine hR _ _ ?_; clear hR R) | (refine hR _ ?_; clear hR R)
      | (refine hK _ _ ?_; clear hK K) | (refine hK _ ?_; clear hK K)
      | refine sops_nil ?_
      | refine sqops_nil ?_
      | (refine awp_rs (fun K hK => ?_); simp only [slim, slimL, slimG, List.map_cons, List.map_nil, Option.map_none, Option.map_some, List.getElem?_toArray, List.getElem?_cons_zero, List.getElem?_cons_succ, Option.bind_some])
      | (refine awp_r1 (fun K hK => ?_); simp only [slim, slimL, slimG, List.map_cons, List.map_nil, Option.map_none, Option.map_some, List.getElem?_toArray, List.getElem?_cons_zero, List.getElem?_cons_succ, Option.bind_some])
      | (refine awp_ds (by kernel_rfl) (by kernel_rfl) (fun K hK => ?_); simp only [slim, slimL, slimG, List.map_cons, List.map_nil, Option.map_none, Option.map_some, List.getElem?_toArray, List.getElem?_cons_zero, List.getElem?_cons_succ, Option.bind_some])
      | (refine awp_d1 (by kernel_rfl) (by kernel_rfl) (fun K hK => ?_); simp only [slim, slimL, slimG, List.map_cons, List.map_nil, Option.map_none, Option.map_some, List.getElem?_toArray, List.getElem?_cons_zero, List.getElem?_cons_succ, Option.bind_some])
      | (refine callK (windows_call _ _ _) ?_; rintro _ _ ⟨rfl, rfl⟩ _ _)
      | refine awp_block ?_
      | refine awp_ret ?_
      | refine awp_skip ?_
      | refine awp_exit ?_
      | ((refine awp_cond rfl (fun hc => ?_) (fun hc => ?_)) <;> (try simp at hc) <;> (try omega))
      | ((refine awp_cond (by simp only [evF_tmp, evF_const, upd_apply, ↓reduceIte, Nat.reduceEqDiff, ht, ht2, hww, hk0]; rfl) (fun hc => ?_) (fun hc => ?_)) <;> (try simp at hc) <;> (try omega))
      | refine awp_seq ?_
      | ((refine ite_both (fun hc => ?_) (fun hc => ?_)) <;> (try omega) <;> (try simp (disch := omega) only [if_pos, if_neg])))
    all_goals simp [pickF, hk0]
  have hp : ¬ (permittedF t w ≠ 0 ∨ k < 0) := by omega
  have hne : w ≠ 0 := by omega
  have hq : k.tdiv w = k / w := Int.tdiv_eq_ediv_of_nonneg (by omega)
  have hr : k.tmod w = k % w := Int.tmod_eq_emod_of_nonneg (by omega)
  have hq0 : 0 ≤ k / w := Int.ediv_nonneg (by omega) (by omega)
  have hq1 : k / w ≤ k := Int.ediv_le_self _ (by omega)
  have hr0 : 0 ≤ k % w := Int.emod_nonneg _ hne
  have hr1 : k % w < w := Int.emod_lt_of_pos _ (by omega)
  have hw1 : IntKind.i64.wrap (w - t) = w - t := wrap_i64 (by omega) (by omega)
  have hw2 : IntKind.i64.wrap (k / w) = k / w := wrap_i64 (by omega) (by omega)
  by_cases hat : w - t ≤ k % w
  · have hw3 : IntKind.i64.wrap (k % w - (w - t)) = k % w - (w - t) := wrap_i64 (by omega) (by omega)
    repeat' (first
        | (refine sops_cons (fun R hR => ?_); simp [ht, ht2, hww, hk0, hne, hq, hr, hw1, hw2, hw3, hat]; try simp (disch := omega) only [if_pos, if_neg])
        | (refine sqops_cons (fun R hR => ?_); simp [ht, ht2, hww, hk0, hne, hq, hr, hw1, hw2, hw3, hat]; try simp (disch := omega) only [if_pos, if_neg])
        | (refine hR _ _ ?_; clear hR R) | (refine hR _ ?_; clear hR R)
        | (refine hK _ _ ?_; clear hK K) | (refine hK _ ?_; clear hK K)
        | refine sops_nil ?_
        | refine sqops_nil ?_
        | (refine awp_rs (fun K hK => ?_); simp only [slim, slimL, slimG, List.map_cons, List.map_nil, Option.map_none, Option.map_some, List.getElem?_toArray, List.getElem?_cons_zero, List.getElem?_cons_succ, Option.bind_some])
        | (refine awp_r1 (fun K hK => ?_); simp only [slim, slimL, slimG, List.map_cons, List.map_nil, Option.map_none, Option.map_some, List.getElem?_toArray, List.getElem?_cons_zero, List.getElem?_cons_succ, Option.bind_some])
        | (refine awp_ds (by kernel_rfl) (by kernel_rfl) (fun K hK => ?_); simp only [slim, slimL, slimG, List.map_cons, List.map_nil, Option.map_none, Option.map_some, List.getElem?_toArray, List.getElem?_cons_zero, List.getElem?_cons_succ, Option.bind_some])
        | (refine awp_d1 (by kernel_rfl) (by kernel_rfl) (fun K hK => ?_); simp only [slim, slimL, slimG, List.map_cons, List.map_nil, Option.map_none, Option.map_some, List.getElem?_toArray, List.getElem?_cons_zero, List.getElem?_cons_succ, Option.bind_some])
        | (refine callK (windows_call _ _ _) ?_; rintro _ _ ⟨rfl, rfl⟩ _ _)
        | refine awp_block ?_
        | refine awp_ret ?_
        | refine awp_skip ?_
        | refine awp_exit ?_
        | ((refine awp_cond rfl (fun hc => ?_) (fun hc => ?_)) <;> (try simp at hc) <;> (try omega))
        | ((refine awp_cond (by simp only [evF_tmp, evF_const, upd_apply, ↓reduceIte, Nat.reduceEqDiff, ht, ht2, hww, hk0, hne, hq, hr, hw1, hw2, hw3, hat]; rfl) (fun hc => ?_) (fun hc => ?_)) <;> (try simp at hc) <;> (try omega))
        | refine awp_seq ?_
        | ((refine ite_both (fun hc => ?_) (fun hc => ?_)) <;> (try omega) <;> (try simp (disch := omega) only [if_pos, if_neg])))
    all_goals simp [pickF, hp0, hat, hk0]
  by_cases hfl : free.length = 0
  · have hfl' : free = [] := List.eq_nil_of_length_eq_zero hfl
    repeat' (first
        | (refine sops_cons (fun R hR => ?_); simp [ht, ht2, hww, hk0, hne, hq, hr, hw1, hw2, hat, hfl]; try simp (disch := omega) only [if_pos, if_neg])
        | (refine sqops_cons (fun R hR => ?_); simp [ht, ht2, hww, hk0, hne, hq, hr, hw1, hw2, hat, hfl]; try simp (disch := omega) only [if_pos, if_neg])
        | (refine hR _ _ ?_; clear hR R) | (refine hR _ ?_; clear hR R)
        | (refine hK _ _ ?_; clear hK K) | (refine hK _ ?_; clear hK K)
        | refine sops_nil ?_
        | refine sqops_nil ?_
        | (refine awp_rs (fun K hK => ?_); simp only [slim, slimL, slimG, List.map_cons, List.map_nil, Option.map_none, Option.map_some, List.getElem?_toArray, List.getElem?_cons_zero, List.getElem?_cons_succ, Option.bind_some])
        | (refine awp_r1 (fun K hK => ?_); simp only [slim, slimL, slimG, List.map_cons, List.map_nil, Option.map_none, Option.map_some, List.getElem?_toArray, List.getElem?_cons_zero, List.getElem?_cons_succ, Option.bind_some])
        | (refine awp_ds (by kernel_rfl) (by kernel_rfl) (fun K hK => ?_); simp only [slim, slimL, slimG, List.map_cons, List.map_nil, Option.map_none, Option.map_some, List.getElem?_toArray, List.getElem?_cons_zero, List.getElem?_cons_succ, Option.bind_some])
        | (refine awp_d1 (by kernel_rfl) (by kernel_rfl) (fun K hK => ?_); simp only [slim, slimL, slimG, List.map_cons, List.map_nil, Option.map_none, Option.map_some, List.getElem?_toArray, List.getElem?_cons_zero, List.getElem?_cons_succ, Option.bind_some])
        | (refine callK (windows_call _ _ _) ?_; rintro _ _ ⟨rfl, rfl⟩ _ _)
        | refine awp_block ?_
        | refine awp_ret ?_
        | refine awp_skip ?_
        | refine awp_exit ?_
        | ((refine awp_cond rfl (fun hc => ?_) (fun hc => ?_)) <;> (try simp at hc) <;> (try omega))
        | ((refine awp_cond (by simp only [evF_tmp, evF_const, upd_apply, ↓reduceIte, Nat.reduceEqDiff, ht, ht2, hww, hk0, hne, hq, hr, hw1, hw2, hat, hfl]; rfl) (fun hc => ?_) (fun hc => ?_)) <;> (try simp at hc) <;> (try omega))
        | refine awp_seq ?_
        | ((refine ite_both (fun hc => ?_) (fun hc => ?_)) <;> (try omega) <;> (try simp (disch := omega) only [if_pos, if_neg])))
    all_goals simp [pickF, hp0, hat, hk0, hfl']
  have hn0 : (0 : Int) < free.length := by omega
  have hfne : (free.length : Int) ≠ 0 := by omega
  have hm1 : (k / w).tmod free.length = k / w % free.length := Int.tmod_eq_emod_of_nonneg hq0
  have hm2 : (w - t).tmod free.length = (w - t) % free.length := Int.tmod_eq_emod_of_nonneg (by omega)
  have d1 : 0 ≤ k / w % free.length := Int.emod_nonneg _ hfne
  have d2 : k / w % free.length < free.length := Int.emod_lt_of_pos _ hn0
  have d3 : 0 ≤ (w - t) % free.length := Int.emod_nonneg _ hfne
  have d4 : (w - t) % free.length < free.length := Int.emod_lt_of_pos _ hn0
  have d5 : 0 ≤ k / w % free.length * ((w - t) % free.length) := Int.mul_nonneg d1 d3
  have d6 : k / w % free.length * ((w - t) % free.length) ≤ 2147483648 * 2147483648 := Int.mul_le_mul (by omega) (by omega) d3 (by omega)
  have hw4 : IntKind.i64.wrap (k / w % free.length * ((w - t) % free.length)) = k / w % free.length * ((w - t) % free.length) := wrap_i64 (by omega) (by omega)
  have hw5 : IntKind.i64.wrap (k / w % free.length * ((w - t) % free.length) + k % w) = k / w % free.length * ((w - t) % free.length) + k % w := wrap_i64 (by omega) (by omega)
  have hr2 : (k / w % free.length * ((w - t) % free.length) + k % w).tmod free.length = (k / w % free.length * ((w - t) % free.length) + k % w) % free.length := Int.tmod_eq_emod_of_nonneg (by omega)
  have he := emod_comb (k / w) (w - t) (k % w) free.length
  have hr3 : 0 ≤ (k / w * (w - t) + k % w) % free.length := Int.emod_nonneg _ hfne
  have hr4 : (k / w * (w - t) + k % w) % free.length < free.length := Int.emod_lt_of_pos _ (by omega)
  rw [he] at hr2
  clear he
  generalize hi : (k / w * (w - t) + k % w) % free.length = i at *
  have hin : i.toNat < free.length := by omega
  obtain ⟨p, row, rfl, hrow, hcell⟩ := hf.at hin
  have htne : t ≠ 0 := by omega
  have hx1 := Int.lt_tmod_of_pos free[i.toNat] (show 0 < t by omega)
  have hx2 := Int.tmod_lt_of_pos free[i.toNat] (show 0 < t by omega)
  have hw6 : free[i.toNat].tmod t < 0 → IntKind.i64.wrap (free[i.toNat].tmod t + t) = free[i.toNat].tmod t + t := fun _ => wrap_i64 (by omega) (by omega)
  have hfin : pickF t w free k = if free[i.toNat].tmod t < 0 then free[i.toNat].tmod t + t else free[i.toNat].tmod t := by
    have e : free.getD i.toNat 0 = free[i.toNat] := by rw [List.getD_eq_getElem?_getD, List.getElem?_eq_getElem hin]; rfl
    unfold pickF
    rw [if_neg hp, if_neg hat, if_neg hfl, hi, e]
  have HF := hfin
  clear hfin
  repeat' (first
      | (refine sops_cons (fun R hR => ?_); simp [ht, ht2, hww, hk0, hne, hq, hr, hw1, hw2, hat, hfl, hfne, hm1, hm2, hw4, hw5, hr2, hr3, hr4, hrow, hcell, htne]; try simp (disch := omega) only [if_pos, if_neg])
      | (refine sqops_cons (fun R hR => ?_); simp [ht, ht2, hww, hk0, hne, hq, hr, hw1, hw2, hat, hfl, hfne, hm1, hm2, hw4, hw5, hr2, hr3, hr4, hrow, hcell, htne]; try simp (disch := omega) only [if_pos, if_neg])
      | (refine hR _ _ ?_; clear hR R) | (refine hR _ ?_; clear hR R)
      | (refine hK _ _ ?_; clear hK K) | (refine hK _ ?_; clear hK K)
      | refine sops_nil ?_
      | refine sqops_nil ?_
      | (refine awp_rs (fun K hK => ?_); simp only [slim, slimL, slimG, List.map_cons, List.map_nil, Option.map_none, Option.map_some, List.getElem?_toArray, List.getElem?_cons_zero, List.getElem?_cons_succ, Option.bind_some])
      | (refine awp_r1 (fun K hK => ?_); simp only [slim, slimL, slimG, List.map_cons, List.map_nil, Option.map_none, Option.map_some, List.getElem?_toArray, List.getElem?_cons_zero, List.getElem?_cons_succ, Option.bind_some])
      | (refine awp_ds (by kernel_rfl) (by kernel_rfl) (fun K hK => ?_); simp only [slim, slimL, slimG, List.map_cons, List.map_nil, Option.map_none, Option.map_some, List.getElem?_toArray, List.getElem?_cons_zero, List.getElem?_cons_succ, Option.bind_some])
      | (refine awp_d1 (by kernel_rfl) (by kernel_rfl) (fun K hK => ?_); simp only [slim, slimL, slimG, List.map_cons, List.map_nil, Option.map_none, Option.map_some, List.getElem?_toArray, List.getElem?_cons_zero, List.getElem?_cons_succ, Option.bind_some])
      | (refine callK (windows_call _ _ _) ?_; rintro _ _ ⟨rfl, rfl⟩ _ _)
      | refine awp_block ?_
      | refine awp_ret ?_
      | refine awp_skip ?_
      | refine awp_exit ?_
      | ((refine awp_cond rfl (fun hc => ?_) (fun hc => ?_)) <;> (try simp at hc) <;> (try omega))
      | ((refine awp_cond (by simp only [evF_tmp, evF_const, upd_apply, ↓reduceIte, Nat.reduceEqDiff, ht, ht2, hww, hk0, hne, hq, hr, hw1, hw2, hat, hfl, hfne, hm1, hm2, hw4, hw5, hr2, hr3, hr4, hrow, hcell, htne]; rfl) (fun hc => ?_) (fun hc => ?_)) <;> (try simp at hc) <;> (try omega))
      | refine awp_seq ?_
      | ((refine ite_both (fun hc => ?_) (fun hc => ?_)) <;> (try omega) <;> (try simp (disch := omega) only [if_pos, if_neg])))
  · simp [HF, hc, hw6 hc]
  · simp [HF, Int.not_lt.2 hc]

end Go.Stx
