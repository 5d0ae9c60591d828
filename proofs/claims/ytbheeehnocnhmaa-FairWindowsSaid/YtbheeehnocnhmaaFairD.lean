/-
  The judge Fair: what it returns.
-/
import Derived.Test.YtbheeehnocnhmaaFairC
namespace Go.Stx
open Go Go.Proofs
set_option linter.unusedVariables false
set_option linter.unusedSimpArgs false

/-- One pick, seen by Fair: the table of last picks behind it; none: the verdict is false. -/
def fairStep (n w : Int) (last : List Int) (k : Nat) (t : Int) : Option (List Int) :=
  if t < 0 ∨ n ≤ t then none
  else if w ≤ (k : Int) + 1 ∧ (last.set t.toNat ((k : Int) + 1)).any (fun x => decide (x ≤ (k : Int) + 1 - w)) then none
  else some (last.set t.toNat ((k : Int) + 1))

def fairGo (n w : Int) : Nat → List Int → List Int → Bool
  | _, _, [] => true
  | k, last, t :: r =>
    match fairStep n w last k t with
    | none => false
    | some l => fairGo n w (k + 1) l r

def fairF (n w : Int) (picks : List Int) : Bool :=
  if n < 1 ∨ 16 < n ∨ w < n then false else fairGo n w 0 (List.replicate n.toNat 0) picks

theorem fairStep_length {n w : Int} {last l : List Int} {k : Nat} {t : Int} (h : fairStep n w last k t = some l) : l.length = last.length := by
  unfold fairStep at h
  split at h
  · cases h
  · split at h
    · cases h
    · injection h with h; subst h; simp

theorem azeros_int (n : Nat) : azeros [Value.int .i64 0] n = (List.replicate n (0 : Int)).map (Value.int .i64) := by
  induction n with
  | zero => rfl
  | succ n ih => simp [azeros, ih, List.replicate_succ]

set_option maxHeartbeats 2000000 in
theorem fair_call (n w : Int) (vp : Value) (picks : List Int) (A : AW) (hp : IsInts A .i64 vp picks) (hl : picks.length < 2^40) (hw0 : w < 2^40) :
    ACall Try.prog 12 [.int .i64 n, .int .i64 w, vp] A (fun v A' => v = .bool (fairF n w picks) ∧ A.le A') := by
  refine acall_intro Try.func12 rfl (by kernel_rfl) fun hw => ?_
  obtain ⟨op, cp, rfl, _⟩ := hp.form
  by_cases h1 : n < 1
  · have hF : fairF n w picks = false := if_pos (.inl h1)
    repeat' (first
        | (refine sops_cons (fun R hR => ?_); simp [h1]; try simp (disch := omega) only [if_pos, if_neg])
        | (refine sqops_cons (fun R hR => ?_); simp [h1]; try simp (disch := omega) only [if_pos, if_neg])
        | (refine hR _ _ ?_; clear hR R) | (refine hR _ ?_; clear hR R)
        | (refine hK _ _ ?_; clear hK K) | (refine hK _ ?_; clear hK K)
        | refine sops_nil ?_
        | refine sqops_nil ?_
        | (refine awp_rs (fun K hK => ?_); simp only [slim, slimL, slimG, List.map_cons, List.map_nil, Option.map_none, Option.map_some, List.getElem?_toArray, List.getElem?_cons_zero, List.getElem?_cons_succ, Option.bind_some])
        | (refine awp_r1 (fun K hK => ?_); simp only [slim, slimL, slimG, List.map_cons, List.map_nil, Option.map_none, Option.map_some, List.getElem?_toArray, List.getElem?_cons_zero, List.getElem?_cons_succ, Option.bind_some])
        | (refine awp_ds (by kernel_rfl) (by kernel_rfl) (fun K hK => ?_); simp only [slim, slimL, slimG, List.map_cons, List.map_nil, Option.map_none, Option.map_some, List.getElem?_toArray, List.getElem?_cons_zero, List.getElem?_cons_succ, Option.bind_some])
        | (refine awp_d1 (by kernel_rfl) (by kernel_rfl) (fun K hK => ?_); simp only [slim, slimL, slimG, List.map_cons, List.map_nil, Option.map_none, Option.map_some, List.getElem?_toArray, List.getElem?_cons_zero, List.getElem?_cons_succ, Option.bind_some])
        | refine awp_block ?_
        | refine awp_ret ?_
        | refine awp_skip ?_
        | refine awp_exit ?_
        | ((refine awp_cond rfl (fun hc => ?_) (fun hc => ?_)) <;> (try simp at hc) <;> (try omega))
        | ((refine awp_cond (by simp only [evF_tmp, evF_const, upd_apply, ↓reduceIte, Nat.reduceEqDiff, h1]; rfl) (fun hc => ?_) (fun hc => ?_)) <;> (try simp at hc) <;> (try omega))
        | refine awp_seq ?_
        | ((refine ite_both (fun hc => ?_) (fun hc => ?_)) <;> (try omega) <;> (try simp (disch := omega) only [if_pos, if_neg])))
    simp [hF, AW.le.refl]
  by_cases h2 : 16 < n
  · have hF : fairF n w picks = false := if_pos (.inr (.inl h2))
    repeat' (first
        | (refine sops_cons (fun R hR => ?_); simp [h1, h2]; try simp (disch := omega) only [if_pos, if_neg])
        | (refine sqops_cons (fun R hR => ?_); simp [h1, h2]; try simp (disch := omega) only [if_pos, if_neg])
        | (refine hR _ _ ?_; clear hR R) | (refine hR _ ?_; clear hR R)
        | (refine hK _ _ ?_; clear hK K) | (refine hK _ ?_; clear hK K)
        | refine sops_nil ?_
        | refine sqops_nil ?_
        | (refine awp_rs (fun K hK => ?_); simp only [slim, slimL, slimG, List.map_cons, List.map_nil, Option.map_none, Option.map_some, List.getElem?_toArray, List.getElem?_cons_zero, List.getElem?_cons_succ, Option.bind_some])
        | (refine awp_r1 (fun K hK => ?_); simp only [slim, slimL, slimG, List.map_cons, List.map_nil, Option.map_none, Option.map_some, List.getElem?_toArray, List.getElem?_cons_zero, List.getElem?_cons_succ, Option.bind_some])
        | (refine awp_ds (by kernel_rfl) (by kernel_rfl) (fun K hK => ?_); simp only [slim, slimL, slimG, List.map_cons, List.map_nil, Option.map_none, Option.map_some, List.getElem?_toArray, List.getElem?_cons_zero, List.getElem?_cons_succ, Option.bind_some])
        | (refine awp_d1 (by kernel_rfl) (by kernel_rfl) (fun K hK => ?_); simp only [slim, slimL, slimG, List.map_cons, List.map_nil, Option.map_none, Option.map_some, List.getElem?_toArray, List.getElem?_cons_zero, List.getElem?_cons_succ, Option.bind_some])
        | refine awp_block ?_
        | refine awp_ret ?_
        | refine awp_skip ?_
        | refine awp_exit ?_
        | ((refine awp_cond rfl (fun hc => ?_) (fun hc => ?_)) <;> (try simp at hc) <;> (try omega))
        | ((refine awp_cond (by simp only [evF_tmp, evF_const, upd_apply, ↓reduceIte, Nat.reduceEqDiff, h1, h2]; rfl) (fun hc => ?_) (fun hc => ?_)) <;> (try simp at hc) <;> (try omega))
        | refine awp_seq ?_
        | ((refine ite_both (fun hc => ?_) (fun hc => ?_)) <;> (try omega) <;> (try simp (disch := omega) only [if_pos, if_neg])))
    simp [hF, AW.le.refl]
  by_cases h3 : w < n
  · have hF : fairF n w picks = false := if_pos (.inr (.inr h3))
    repeat' (first
        | (refine sops_cons (fun R hR => ?_); simp [h1, h2, h3]; try simp (disch := omega) only [if_pos, if_neg])
        | (refine sqops_cons (fun R hR => ?_); simp [h1, h2, h3]; try simp (disch := omega) only [if_pos, if_neg])
        | (refine hR _ _ ?_; clear hR R) | (refine hR _ ?_; clear hR R)
        | (refine hK _ _ ?_; clear hK K) | (refine hK _ ?_; clear hK K)
        | refine sops_nil ?_
        | refine sqops_nil ?_
        | (refine awp_rs (fun K hK => ?_); simp only [slim, slimL, slimG, List.map_cons, List.map_nil, Option.map_none, Option.map_some, List.getElem?_toArray, List.getElem?_cons_zero, List.getElem?_cons_succ, Option.bind_some])
        | (refine awp_r1 (fun K hK => ?_); simp only [slim, slimL, slimG, List.map_cons, List.map_nil, Option.map_none, Option.map_some, List.getElem?_toArray, List.getElem?_cons_zero, List.getElem?_cons_succ, Option.bind_some])
        | (refine awp_ds (by kernel_rfl) (by kernel_rfl) (fun K hK => ?_); simp only [slim, slimL, slimG, List.map_cons, List.map_nil, Option.map_none, Option.map_some, List.getElem?_toArray, List.getElem?_cons_zero, List.getElem?_cons_succ, Option.bind_some])
        | (refine awp_d1 (by kernel_rfl) (by kernel_rfl) (fun K hK => ?_); simp only [slim, slimL, slimG, List.map_cons, List.map_nil, Option.map_none, Option.map_some, List.getElem?_toArray, List.getElem?_cons_zero, List.getElem?_cons_succ, Option.bind_some])
        | refine awp_block ?_
        | refine awp_ret ?_
        | refine awp_skip ?_
        | refine awp_exit ?_
        | ((refine awp_cond rfl (fun hc => ?_) (fun hc => ?_)) <;> (try simp at hc) <;> (try omega))
        | ((refine awp_cond (by simp only [evF_tmp, evF_const, upd_apply, ↓reduceIte, Nat.reduceEqDiff, h1, h2, h3]; rfl) (fun hc => ?_) (fun hc => ?_)) <;> (try simp at hc) <;> (try omega))
        | refine awp_seq ?_
        | ((refine ite_both (fun hc => ?_) (fun hc => ?_)) <;> (try omega) <;> (try simp (disch := omega) only [if_pos, if_neg])))
    simp [hF, AW.le.refl]
  have hF : fairF n w picks = fairGo n w 0 (List.replicate n.toNat 0) picks := if_neg (by omega)
  obtain ⟨N, rfl⟩ := Int.eq_ofNat_of_zero_le (show 0 ≤ n by omega)
  rw [Int.toNat_natCast] at hF
  have hN : N ≤ 16 := by omega
  have hb1 : (N : Int) ≤ 140737488355328 := by omega
  have hb2 : (N : Int) * 8 ≤ 140737488355328 := by omega
  repeat' (first
      | (refine sops_cons (fun R hR => ?_); simp [h1, h2, h3, hb1, hb2, azeros_int]; try simp (disch := omega) only [if_pos, if_neg])
      | (refine sqops_cons (fun R hR => ?_); simp [h1, h2, h3, hb1, hb2, azeros_int]; try simp (disch := omega) only [if_pos, if_neg])
      | (refine hR _ _ ?_; clear hR R) | (refine hR _ ?_; clear hR R)
      | (refine hK _ _ ?_; clear hK K) | (refine hK _ ?_; clear hK K)
      | refine sops_nil ?_
      | refine sqops_nil ?_
      | (refine awp_rs (fun K hK => ?_); simp only [slim, slimL, slimG, List.map_cons, List.map_nil, Option.map_none, Option.map_some, List.getElem?_toArray, List.getElem?_cons_zero, List.getElem?_cons_succ, Option.bind_some])
      | (refine awp_r1 (fun K hK => ?_); simp only [slim, slimL, slimG, List.map_cons, List.map_nil, Option.map_none, Option.map_some, List.getElem?_toArray, List.getElem?_cons_zero, List.getElem?_cons_succ, Option.bind_some])
      | (refine awp_ds (by kernel_rfl) (by kernel_rfl) (fun K hK => ?_); simp only [slim, slimL, slimG, List.map_cons, List.map_nil, Option.map_none, Option.map_some, List.getElem?_toArray, List.getElem?_cons_zero, List.getElem?_cons_succ, Option.bind_some])
      | (refine awp_d1 (by kernel_rfl) (by kernel_rfl) (fun K hK => ?_); simp only [slim, slimL, slimG, List.map_cons, List.map_nil, Option.map_none, Option.map_some, List.getElem?_toArray, List.getElem?_cons_zero, List.getElem?_cons_succ, Option.bind_some])
      | refine awp_block ?_
      | refine awp_ret ?_
      | refine awp_skip ?_
      | refine awp_exit ?_
      | ((refine awp_cond rfl (fun hc => ?_) (fun hc => ?_)) <;> (try simp at hc) <;> (try omega))
      | ((refine awp_cond (by simp only [evF_tmp, evF_const, upd_apply, ↓reduceIte, Nat.reduceEqDiff, h1, h2, h3, hb1, hb2, azeros_int]; rfl) (fun hc => ?_) (fun hc => ?_)) <;> (try simp at hc) <;> (try omega))
      | refine awp_seq ?_
      | ((refine ite_both (fun hc => ?_) (fun hc => ?_)) <;> (try omega) <;> (try simp (disch := omega) only [if_pos, if_neg])))
  refine awp_loop (fun k fr A' => ∃ (j : Nat) (last : List Int), k = picks.length - j ∧ j ≤ picks.length ∧ fr 0 = .int .i64 N ∧ fr 1 = .int .i64 w ∧ fr 7 = .slice (some ⟨A.next, 0, none⟩) N N ∧
    fr 25 = .slice op picks.length cp ∧ fr 26 = .int .i64 picks.length ∧ fr 27 = .int .i64 j ∧
    last.length = N ∧ fairGo N w j last (picks.drop j) = fairF N w picks ∧ A'.get A.next = some (.cells (last.map (Value.int .i64)) true 1) ∧ A.le A' ∧ A'.Wf) picks.length ?_ ?_
  · refine ⟨0, List.replicate N 0, by simp, by simp, rfl, rfl, ?_, ?_, ?_, ?_, by simp, by rw [hF]; rfl, ?_, AW.le.alloc A _, hw.alloc _⟩ <;> simp
  · rintro k fr A' ⟨j, last, rfl, hj, g0, g1, g7, g25, g26, g27, hlast, hgo, hget, hle, hw'⟩
    have hp' := hp.le hle hw
    by_cases hlt : j < picks.length
    case neg =>
      have hjn : j = picks.length := by omega
      have hT : fairF N w picks = true := by rw [← hgo, hjn, List.drop_length]; rfl
      repeat' (first
          | (refine sops_cons (fun R hR => ?_); simp [g0, g1, g7, g25, g26, g27, hlt]; try simp (disch := omega) only [if_pos, if_neg])
          | (refine sqops_cons (fun R hR => ?_); simp [g0, g1, g7, g25, g26, g27, hlt]; try simp (disch := omega) only [if_pos, if_neg])
          | (refine hR _ _ ?_; clear hR R) | (refine hR _ ?_; clear hR R)
          | (refine hK _ _ ?_; clear hK K) | (refine hK _ ?_; clear hK K)
          | refine sops_nil ?_
          | refine sqops_nil ?_
          | (refine awp_rs (fun K hK => ?_); simp only [slim, slimL, slimG, List.map_cons, List.map_nil, Option.map_none, Option.map_some, List.getElem?_toArray, List.getElem?_cons_zero, List.getElem?_cons_succ, Option.bind_some])
          | (refine awp_r1 (fun K hK => ?_); simp only [slim, slimL, slimG, List.map_cons, List.map_nil, Option.map_none, Option.map_some, List.getElem?_toArray, List.getElem?_cons_zero, List.getElem?_cons_succ, Option.bind_some])
          | (refine awp_ds (by kernel_rfl) (by kernel_rfl) (fun K hK => ?_); simp only [slim, slimL, slimG, List.map_cons, List.map_nil, Option.map_none, Option.map_some, List.getElem?_toArray, List.getElem?_cons_zero, List.getElem?_cons_succ, Option.bind_some])
          | (refine awp_d1 (by kernel_rfl) (by kernel_rfl) (fun K hK => ?_); simp only [slim, slimL, slimG, List.map_cons, List.map_nil, Option.map_none, Option.map_some, List.getElem?_toArray, List.getElem?_cons_zero, List.getElem?_cons_succ, Option.bind_some])
          | refine awp_block ?_
          | refine awp_ret ?_
          | refine awp_skip ?_
          | refine awp_exit ?_
          | ((refine awp_cond rfl (fun hc => ?_) (fun hc => ?_)) <;> (try simp at hc) <;> (try omega))
          | ((refine awp_cond (by simp only [evF_tmp, evF_const, upd_apply, ↓reduceIte, Nat.reduceEqDiff, g0, g1, g7, g25, g26, g27, hlt]; rfl) (fun hc => ?_) (fun hc => ?_)) <;> (try simp at hc) <;> (try omega))
          | refine awp_seq ?_
          | ((refine ite_both (fun hc => ?_) (fun hc => ?_)) <;> (try omega) <;> (try simp (disch := omega) only [if_pos, if_neg])))
      simp [hT, hle]
    have hwj : IntKind.i64.wrap ((j : Int) + 1) = (j : Int) + 1 := wrap_i64 (by omega) (by omega)
    obtain ⟨p, row, rfl, hrow, hcell⟩ := hp'.at hlt
    rw [List.drop_eq_getElem_cons hlt] at hgo
    generalize ht : picks[j] = t at *
    by_cases ht0 : t < 0
    · have hT : fairF N w picks = false := by rw [← hgo]; simp [fairGo, fairStep, ht0]
      repeat' (first
          | (refine sops_cons (fun R hR => ?_); simp [g0, g1, g7, g25, g26, g27, hlt, hrow, hcell, ht0]; try simp (disch := omega) only [if_pos, if_neg])
          | (refine sqops_cons (fun R hR => ?_); simp [g0, g1, g7, g25, g26, g27, hlt, hrow, hcell, ht0]; try simp (disch := omega) only [if_pos, if_neg])
          | (refine hR _ _ ?_; clear hR R) | (refine hR _ ?_; clear hR R)
          | (refine hK _ _ ?_; clear hK K) | (refine hK _ ?_; clear hK K)
          | refine sops_nil ?_
          | refine sqops_nil ?_
          | (refine awp_rs (fun K hK => ?_); simp only [slim, slimL, slimG, List.map_cons, List.map_nil, Option.map_none, Option.map_some, List.getElem?_toArray, List.getElem?_cons_zero, List.getElem?_cons_succ, Option.bind_some])
          | (refine awp_r1 (fun K hK => ?_); simp only [slim, slimL, slimG, List.map_cons, List.map_nil, Option.map_none, Option.map_some, List.getElem?_toArray, List.getElem?_cons_zero, List.getElem?_cons_succ, Option.bind_some])
          | (refine awp_ds (by kernel_rfl) (by kernel_rfl) (fun K hK => ?_); simp only [slim, slimL, slimG, List.map_cons, List.map_nil, Option.map_none, Option.map_some, List.getElem?_toArray, List.getElem?_cons_zero, List.getElem?_cons_succ, Option.bind_some])
          | (refine awp_d1 (by kernel_rfl) (by kernel_rfl) (fun K hK => ?_); simp only [slim, slimL, slimG, List.map_cons, List.map_nil, Option.map_none, Option.map_some, List.getElem?_toArray, List.getElem?_cons_zero, List.getElem?_cons_succ, Option.bind_some])
          | refine awp_block ?_
          | refine awp_ret ?_
          | refine awp_skip ?_
          | refine awp_exit ?_
          | ((refine awp_cond rfl (fun hc => ?_) (fun hc => ?_)) <;> (try simp at hc) <;> (try omega))
          | ((refine awp_cond (by simp only [evF_tmp, evF_const, upd_apply, ↓reduceIte, Nat.reduceEqDiff, g0, g1, g7, g25, g26, g27, hlt, hrow, hcell, ht0]; rfl) (fun hc => ?_) (fun hc => ?_)) <;> (try simp at hc) <;> (try omega))
          | refine awp_seq ?_
          | ((refine ite_both (fun hc => ?_) (fun hc => ?_)) <;> (try omega) <;> (try simp (disch := omega) only [if_pos, if_neg])))
      simp [hT, hle]
    by_cases ht1 : (N : Int) ≤ t
    · have hT : fairF N w picks = false := by rw [← hgo]; simp [fairGo, fairStep, ht1]
      repeat' (first
          | (refine sops_cons (fun R hR => ?_); simp [g0, g1, g7, g25, g26, g27, hlt, hrow, hcell, ht0, ht1]; try simp (disch := omega) only [if_pos, if_neg])
          | (refine sqops_cons (fun R hR => ?_); simp [g0, g1, g7, g25, g26, g27, hlt, hrow, hcell, ht0, ht1]; try simp (disch := omega) only [if_pos, if_neg])
          | (refine hR _ _ ?_; clear hR R) | (refine hR _ ?_; clear hR R)
          | (refine hK _ _ ?_; clear hK K) | (refine hK _ ?_; clear hK K)
          | refine sops_nil ?_
          | refine sqops_nil ?_
          | (refine awp_rs (fun K hK => ?_); simp only [slim, slimL, slimG, List.map_cons, List.map_nil, Option.map_none, Option.map_some, List.getElem?_toArray, List.getElem?_cons_zero, List.getElem?_cons_succ, Option.bind_some])
          | (refine awp_r1 (fun K hK => ?_); simp only [slim, slimL, slimG, List.map_cons, List.map_nil, Option.map_none, Option.map_some, List.getElem?_toArray, List.getElem?_cons_zero, List.getElem?_cons_succ, Option.bind_some])
          | (refine awp_ds (by kernel_rfl) (by kernel_rfl) (fun K hK => ?_); simp only [slim, slimL, slimG, List.map_cons, List.map_nil, Option.map_none, Option.map_some, List.getElem?_toArray, List.getElem?_cons_zero, List.getElem?_cons_succ, Option.bind_some])
          | (refine awp_d1 (by kernel_rfl) (by kernel_rfl) (fun K hK => ?_); simp only [slim, slimL, slimG, List.map_cons, List.map_nil, Option.map_none, Option.map_some, List.getElem?_toArray, List.getElem?_cons_zero, List.getElem?_cons_succ, Option.bind_some])
          | refine awp_block ?_
          | refine awp_ret ?_
          | refine awp_skip ?_
          | refine awp_exit ?_
          | ((refine awp_cond rfl (fun hc => ?_) (fun hc => ?_)) <;> (try simp at hc) <;> (try omega))
          | ((refine awp_cond (by simp only [evF_tmp, evF_const, upd_apply, ↓reduceIte, Nat.reduceEqDiff, g0, g1, g7, g25, g26, g27, hlt, hrow, hcell, ht0, ht1]; rfl) (fun hc => ?_) (fun hc => ?_)) <;> (try simp at hc) <;> (try omega))
          | refine awp_seq ?_
          | ((refine ite_both (fun hc => ?_) (fun hc => ?_)) <;> (try omega) <;> (try simp (disch := omega) only [if_pos, if_neg])))
      simp [hT, hle]
    obtain ⟨T, rfl⟩ := Int.eq_ofNat_of_zero_le (show 0 ≤ t by omega)
    have hTN : T < last.length := by omega
    have hst := astore_int (P := Try.prog) (t := 3) (b := A.next) (off := T) ((j : Int) + 1) Try.info3 rfl hget hTN
    generalize hl2 : last.set T ((j : Int) + 1) = last2 at hst
    have hlen2 : last2.length = N := by rw [← hl2, List.length_set, hlast]
    have hlt0 : A.next < A'.next := hw'.lt hget
    generalize hA2 : A'.set A.next (some (.cells (last2.map (Value.int .i64)) true 1)) = A2 at hst
    have hget2 : A2.get A.next = some (.cells (last2.map (Value.int .i64)) true 1) := by rw [← hA2]; exact AW.set_get_same
    have hle2 : A.le A2 := by rw [← hA2]; exact hle.set (Nat.le_refl _) _
    have hw2 : A2.Wf := by rw [← hA2]; exact hw'.set _ hlt0
    have hrow2 : A2.row A.next = some (last2.map (Value.int .i64)) := AW.row_of hget2
    have hstep : fairStep N w last j T = if w ≤ (j : Int) + 1 ∧ last2.any (fun x => decide (x ≤ (j : Int) + 1 - w)) then none else some last2 := by
      unfold fairStep
      rw [if_neg (by omega), Int.toNat_natCast, hl2]
    clear hA2 hl2
    repeat' (first
        | (refine sops_cons (fun R hR => ?_); simp [g0, g1, g7, g25, g26, g27, hlt, hrow, hcell, ht0, ht1, hwj, hst, Int.toNat_natCast]; try simp (disch := omega) only [if_pos, if_neg])
        | (refine sqops_cons (fun R hR => ?_); simp [g0, g1, g7, g25, g26, g27, hlt, hrow, hcell, ht0, ht1, hwj, hst, Int.toNat_natCast]; try simp (disch := omega) only [if_pos, if_neg])
        | (refine hR _ _ ?_; clear hR R) | (refine hR _ ?_; clear hR R)
        | (refine hK _ _ ?_; clear hK K) | (refine hK _ ?_; clear hK K)
        | refine sops_nil ?_
        | refine sqops_nil ?_
        | (refine awp_rs (fun K hK => ?_); simp only [slim, slimL, slimG, List.map_cons, List.map_nil, Option.map_none, Option.map_some, List.getElem?_toArray, List.getElem?_cons_zero, List.getElem?_cons_succ, Option.bind_some])
        | (refine awp_r1 (fun K hK => ?_); simp only [slim, slimL, slimG, List.map_cons, List.map_nil, Option.map_none, Option.map_some, List.getElem?_toArray, List.getElem?_cons_zero, List.getElem?_cons_succ, Option.bind_some])
        | (refine awp_ds (by kernel_rfl) (by kernel_rfl) (fun K hK => ?_); simp only [slim, slimL, slimG, List.map_cons, List.map_nil, Option.map_none, Option.map_some, List.getElem?_toArray, List.getElem?_cons_zero, List.getElem?_cons_succ, Option.bind_some])
        | (refine awp_d1 (by kernel_rfl) (by kernel_rfl) (fun K hK => ?_); simp only [slim, slimL, slimG, List.map_cons, List.map_nil, Option.map_none, Option.map_some, List.getElem?_toArray, List.getElem?_cons_zero, List.getElem?_cons_succ, Option.bind_some])
        | refine awp_block ?_
        | refine awp_ret ?_
        | refine awp_skip ?_
        | refine awp_exit ?_
        | ((refine awp_cond rfl (fun hc => ?_) (fun hc => ?_)) <;> (try simp at hc) <;> (try omega))
        | ((refine awp_cond (by simp only [evF_tmp, evF_const, upd_apply, ↓reduceIte, Nat.reduceEqDiff, g0, g1, g7, g25, g26, g27, hlt, hrow, hcell, ht0, ht1, hwj, hst, Int.toNat_natCast]; rfl) (fun hc => ?_) (fun hc => ?_)) <;> (try simp at hc) <;> (try omega))
        | refine awp_seq ?_
        | ((refine ite_both (fun hc => ?_) (fun hc => ?_)) <;> (try omega) <;> (try simp (disch := omega) only [if_pos, if_neg])))
    refine awp_loop (fun k fr' A3 => ∃ i : Nat, A2 = A3 ∧ k = N - i ∧ i ≤ N ∧ fr' 0 = .int .i64 N ∧ fr' 1 = .int .i64 w ∧ fr' 7 = .slice (some ⟨A.next, 0, none⟩) N N ∧
      fr' 25 = .slice (some p) picks.length cp ∧ fr' 26 = .int .i64 picks.length ∧ fr' 27 = .int .i64 j ∧ fr' 8 = .int .i64 j ∧ fr' 44 = .slice (some ⟨A.next, 0, none⟩) N N ∧ fr' 45 = .int .i64 N ∧ fr' 46 = .int .i64 i ∧
      ∀ i' (h : i' < i) (h' : i' < last2.length), ¬ (w ≤ (j : Int) + 1 ∧ last2[i'] ≤ (j : Int) + 1 - w)) N ?_ ?_
    · refine ⟨0, rfl, by simp, by simp, ?_, ?_, ?_, ?_, ?_, ?_, ?_, ?_, ?_, ?_, by simp⟩ <;> simp [g0, g1, g7, g25, g26, g27]
    · rintro k fr' A3 ⟨i, rfl, rfl, hi, f0, f1, f7, f25, f26, f27, f8, f44, f45, f46, hno⟩
      by_cases hiN : i < N
      case neg =>
        have hsome : fairStep N w last j T = some last2 := by
          rw [hstep, if_neg]
          rintro ⟨hc1, hc2⟩
          rw [List.any_eq_true] at hc2
          obtain ⟨x, hx, hxd⟩ := hc2
          obtain ⟨i', hi', rfl⟩ := List.getElem_of_mem hx
          exact hno i' (by omega) hi' ⟨hc1, by simpa using hxd⟩
        have hgo2 : fairGo N w (j + 1) last2 (picks.drop (j + 1)) = fairF N w picks := by rw [← hgo, fairGo, hsome]
        repeat' (first
            | (refine sops_cons (fun R hR => ?_); simp [f0, f1, f7, f25, f26, f27, f8, f44, f45, f46, hiN, hwj]; try simp (disch := omega) only [if_pos, if_neg])
            | (refine sqops_cons (fun R hR => ?_); simp [f0, f1, f7, f25, f26, f27, f8, f44, f45, f46, hiN, hwj]; try simp (disch := omega) only [if_pos, if_neg])
            | (refine hR _ _ ?_; clear hR R) | (refine hR _ ?_; clear hR R)
            | (refine hK _ _ ?_; clear hK K) | (refine hK _ ?_; clear hK K)
            | refine sops_nil ?_
            | refine sqops_nil ?_
            | (refine awp_rs (fun K hK => ?_); simp only [slim, slimL, slimG, List.map_cons, List.map_nil, Option.map_none, Option.map_some, List.getElem?_toArray, List.getElem?_cons_zero, List.getElem?_cons_succ, Option.bind_some])
            | (refine awp_r1 (fun K hK => ?_); simp only [slim, slimL, slimG, List.map_cons, List.map_nil, Option.map_none, Option.map_some, List.getElem?_toArray, List.getElem?_cons_zero, List.getElem?_cons_succ, Option.bind_some])
            | (refine awp_ds (by kernel_rfl) (by kernel_rfl) (fun K hK => ?_); simp only [slim, slimL, slimG, List.map_cons, List.map_nil, Option.map_none, Option.map_some, List.getElem?_toArray, List.getElem?_cons_zero, List.getElem?_cons_succ, Option.bind_some])
            | (refine awp_d1 (by kernel_rfl) (by kernel_rfl) (fun K hK => ?_); simp only [slim, slimL, slimG, List.map_cons, List.map_nil, Option.map_none, Option.map_some, List.getElem?_toArray, List.getElem?_cons_zero, List.getElem?_cons_succ, Option.bind_some])
            | refine awp_block ?_
            | refine awp_ret ?_
            | refine awp_skip ?_
            | refine awp_exit ?_
            | ((refine awp_cond rfl (fun hc => ?_) (fun hc => ?_)) <;> (try simp at hc) <;> (try omega))
            | ((refine awp_cond (by simp only [evF_tmp, evF_const, upd_apply, ↓reduceIte, Nat.reduceEqDiff, f0, f1, f7, f25, f26, f27, f8, f44, f45, f46, hiN, hwj]; rfl) (fun hc => ?_) (fun hc => ?_)) <;> (try simp at hc) <;> (try omega))
            | refine awp_seq ?_
            | ((refine ite_both (fun hc => ?_) (fun hc => ?_)) <;> (try omega) <;> (try simp (disch := omega) only [if_pos, if_neg])))
        refine ⟨picks.length - (j + 1), by omega, j + 1, last2, rfl, by omega, ?_, ?_, ?_, ?_, ?_, ?_, hlen2, hgo2, hget2, hle2, hw2⟩ <;> simp [f0, f1, f7, f25, f26, f27]
      have hwi : IntKind.i64.wrap ((i : Int) + 1) = ((i + 1 : Nat) : Int) := wrap_i64 (by omega) (by omega)
      have hwq : IntKind.i64.wrap ((j : Int) + 1 - w) = (j : Int) + 1 - w := wrap_i64 (by omega) (by omega)
      have hil : i < last2.length := by omega
      have hcell2 : (last2.map (Value.int .i64))[i]? = some (.int .i64 last2[i]) := by rw [List.getElem?_map, List.getElem?_eq_getElem hil]; rfl
      have hcell3 : last2[i]? = some last2[i] := List.getElem?_eq_getElem hil
      by_cases hbad : w ≤ (j : Int) + 1 ∧ last2[i] ≤ (j : Int) + 1 - w
      · have hnone : fairStep N w last j T = none := by
          rw [hstep, if_pos]
          refine ⟨hbad.1, ?_⟩
          rw [List.any_eq_true]
          exact ⟨last2[i], List.getElem_mem hil, by simpa using hbad.2⟩
        have hT : fairF N w picks = false := by rw [← hgo, fairGo, hnone]
        obtain ⟨hbad1, hbad2⟩ := hbad
        repeat' (first
            | (refine sops_cons (fun R hR => ?_); simp [f0, f1, f7, f25, f26, f27, f8, f44, f45, f46, hiN, hwj, hwq, hrow2, hcell2, hcell3, hbad1, hbad2, Nat.zero_add]; try simp (disch := omega) only [if_pos, if_neg])
            | (refine sqops_cons (fun R hR => ?_); simp [f0, f1, f7, f25, f26, f27, f8, f44, f45, f46, hiN, hwj, hwq, hrow2, hcell2, hcell3, hbad1, hbad2, Nat.zero_add]; try simp (disch := omega) only [if_pos, if_neg])
            | (refine hR _ _ ?_; clear hR R) | (refine hR _ ?_; clear hR R)
            | (refine hK _ _ ?_; clear hK K) | (refine hK _ ?_; clear hK K)
            | refine sops_nil ?_
            | refine sqops_nil ?_
            | (refine awp_rs (fun K hK => ?_); simp only [slim, slimL, slimG, List.map_cons, List.map_nil, Option.map_none, Option.map_some, List.getElem?_toArray, List.getElem?_cons_zero, List.getElem?_cons_succ, Option.bind_some])
            | (refine awp_r1 (fun K hK => ?_); simp only [slim, slimL, slimG, List.map_cons, List.map_nil, Option.map_none, Option.map_some, List.getElem?_toArray, List.getElem?_cons_zero, List.getElem?_cons_succ, Option.bind_some])
            | (refine awp_ds (by kernel_rfl) (by kernel_rfl) (fun K hK => ?_); simp only [slim, slimL, slimG, List.map_cons, List.map_nil, Option.map_none, Option.map_some, List.getElem?_toArray, List.getElem?_cons_zero, List.getElem?_cons_succ, Option.bind_some])
            | (refine awp_d1 (by kernel_rfl) (by kernel_rfl) (fun K hK => ?_); simp only [slim, slimL, slimG, List.map_cons, List.map_nil, Option.map_none, Option.map_some, List.getElem?_toArray, List.getElem?_cons_zero, List.getElem?_cons_succ, Option.bind_some])
            | refine awp_block ?_
            | refine awp_ret ?_
            | refine awp_skip ?_
            | refine awp_exit ?_
            | ((refine awp_cond rfl (fun hc => ?_) (fun hc => ?_)) <;> (try simp at hc) <;> (try omega))
            | ((refine awp_cond (by simp only [evF_tmp, evF_const, upd_apply, ↓reduceIte, Nat.reduceEqDiff, f0, f1, f7, f25, f26, f27, f8, f44, f45, f46, hiN, hwj, hwq, hrow2, hcell2, hcell3, hbad1, hbad2, Nat.zero_add]; rfl) (fun hc => ?_) (fun hc => ?_)) <;> (try simp at hc) <;> (try omega))
            | refine awp_seq ?_
            | ((refine ite_both (fun hc => ?_) (fun hc => ?_)) <;> (try omega) <;> (try simp (disch := omega) only [if_pos, if_neg])))
        simp [hT, hle2]
      · have hnext : ∀ i' (h : i' < i + 1) (h' : i' < last2.length), ¬ (w ≤ (j : Int) + 1 ∧ last2[i'] ≤ (j : Int) + 1 - w) := by
          intro i' h h'
          by_cases e : i' = i
          · subst e; exact hbad
          · exact hno i' (by omega) h'
        by_cases hb0 : w ≤ (j : Int) + 1
        · have hb1' : ¬ last2[i] ≤ (j : Int) + 1 - w := fun e => hbad ⟨hb0, e⟩
          repeat' (first
              | (refine sops_cons (fun R hR => ?_); simp [f0, f1, f7, f25, f26, f27, f8, f44, f45, f46, hiN, hwj, hwi, hwq, hrow2, hcell2, hcell3, hb0, hb1', Nat.zero_add]; try simp (disch := omega) only [if_pos, if_neg])
              | (refine sqops_cons (fun R hR => ?_); simp [f0, f1, f7, f25, f26, f27, f8, f44, f45, f46, hiN, hwj, hwi, hwq, hrow2, hcell2, hcell3, hb0, hb1', Nat.zero_add]; try simp (disch := omega) only [if_pos, if_neg])
              | (refine hR _ _ ?_; clear hR R) | (refine hR _ ?_; clear hR R)
              | (refine hK _ _ ?_; clear hK K) | (refine hK _ ?_; clear hK K)
              | refine sops_nil ?_
              | refine sqops_nil ?_
              | (refine awp_rs (fun K hK => ?_); simp only [slim, slimL, slimG, List.map_cons, List.map_nil, Option.map_none, Option.map_some, List.getElem?_toArray, List.getElem?_cons_zero, List.getElem?_cons_succ, Option.bind_some])
              | (refine awp_r1 (fun K hK => ?_); simp only [slim, slimL, slimG, List.map_cons, List.map_nil, Option.map_none, Option.map_some, List.getElem?_toArray, List.getElem?_cons_zero, List.getElem?_cons_succ, Option.bind_some])
              | (refine awp_ds (by kernel_rfl) (by kernel_rfl) (fun K hK => ?_); simp only [slim, slimL, slimG, List.map_cons, List.map_nil, Option.map_none, Option.map_some, List.getElem?_toArray, List.getElem?_cons_zero, List.getElem?_cons_succ, Option.bind_some])
              | (refine awp_d1 (by kernel_rfl) (by kernel_rfl) (fun K hK => ?_); simp only [slim, slimL, slimG, List.map_cons, List.map_nil, Option.map_none, Option.map_some, List.getElem?_toArray, List.getElem?_cons_zero, List.getElem?_cons_succ, Option.bind_some])
              | refine awp_block ?_
              | refine awp_ret ?_
              | refine awp_skip ?_
              | refine awp_exit ?_
              | ((refine awp_cond rfl (fun hc => ?_) (fun hc => ?_)) <;> (try simp at hc) <;> (try omega))
              | ((refine awp_cond (by simp only [evF_tmp, evF_const, upd_apply, ↓reduceIte, Nat.reduceEqDiff, f0, f1, f7, f25, f26, f27, f8, f44, f45, f46, hiN, hwj, hwi, hwq, hrow2, hcell2, hcell3, hb0, hb1', Nat.zero_add]; rfl) (fun hc => ?_) (fun hc => ?_)) <;> (try simp at hc) <;> (try omega))
              | refine awp_seq ?_
              | ((refine ite_both (fun hc => ?_) (fun hc => ?_)) <;> (try omega) <;> (try simp (disch := omega) only [if_pos, if_neg])))
          refine ⟨N - (i + 1), by omega, i + 1, rfl, rfl, by omega, ?_, ?_, ?_, ?_, ?_, ?_, ?_, ?_, ?_, ?_, hnext⟩ <;> simp [f0, f1, f7, f25, f26, f27, f8, f44, f45]
        · repeat' (first
            | (refine sops_cons (fun R hR => ?_); simp [f0, f1, f7, f25, f26, f27, f8, f44, f45, f46, hiN, hwj, hwi, hrow2, hcell2, hcell3, hb0, Nat.zero_add]; try simp (disch := omega) only [if_pos, if_neg])
            | (refine sqops_cons (fun R hR => ?_); simp [f0, f1, f7, f25, f26, f27, f8, f44, f45, f46, hiN, hwj, hwi, hrow2, hcell2, hcell3, hb0, Nat.zero_add]; try simp (disch := omega) only [if_pos, if_neg])
            | (refine hR _ _ ?_; clear hR R) | (refine hR _ ?_; clear hR R)
            | (refine hK _ _ ?_; clear hK K) | (refine hK _ ?_; clear hK K)
            | refine sops_nil ?_
            | refine sqops_nil ?_
            | (refine awp_rs (fun K hK => ?_); simp only [slim, slimL, slimG, List.map_cons, List.map_nil, Option.map_none, Option.map_some, List.getElem?_toArray, List.getElem?_cons_zero, List.getElem?_cons_succ, Option.bind_some])
            | (refine awp_r1 (fun K hK => ?_); simp only [slim, slimL, slimG, List.map_cons, List.map_nil, Option.map_none, Option.map_some, List.getElem?_toArray, List.getElem?_cons_zero, List.getElem?_cons_succ, Option.bind_some])
            | (refine awp_ds (by kernel_rfl) (by kernel_rfl) (fun K hK => ?_); simp only [slim, slimL, slimG, List.map_cons, List.map_nil, Option.map_none, Option.map_some, List.getElem?_toArray, List.getElem?_cons_zero, List.getElem?_cons_succ, Option.bind_some])
            | (refine awp_d1 (by kernel_rfl) (by kernel_rfl) (fun K hK => ?_); simp only [slim, slimL, slimG, List.map_cons, List.map_nil, Option.map_none, Option.map_some, List.getElem?_toArray, List.getElem?_cons_zero, List.getElem?_cons_succ, Option.bind_some])
            | refine awp_block ?_
            | refine awp_ret ?_
            | refine awp_skip ?_
            | refine awp_exit ?_
            | ((refine awp_cond rfl (fun hc => ?_) (fun hc => ?_)) <;> (try simp at hc) <;> (try omega))
            | ((refine awp_cond (by simp only [evF_tmp, evF_const, upd_apply, ↓reduceIte, Nat.reduceEqDiff, f0, f1, f7, f25, f26, f27, f8, f44, f45, f46, hiN, hwj, hwi, hrow2, hcell2, hcell3, hb0, Nat.zero_add]; rfl) (fun hc => ?_) (fun hc => ?_)) <;> (try simp at hc) <;> (try omega))
            | refine awp_seq ?_
            | ((refine ite_both (fun hc => ?_) (fun hc => ?_)) <;> (try omega) <;> (try simp (disch := omega) only [if_pos, if_neg])))
          refine ⟨N - (i + 1), by omega, i + 1, rfl, rfl, by omega, ?_, ?_, ?_, ?_, ?_, ?_, ?_, ?_, ?_, ?_, hnext⟩ <;> simp [f0, f1, f7, f25, f26, f27, f8, f44, f45]

end Go.Stx
