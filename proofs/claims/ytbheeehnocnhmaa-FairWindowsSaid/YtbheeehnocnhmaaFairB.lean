/-
  The functions of the package fair and of its reference that make schedules: what each returns.
-/
import Derived.Test.YtbheeehnocnhmaaStxOwn
import Derived.Test.YtbheeehnocnhmaaFairA
namespace Go.Stx
open Go Go.Proofs
set_option linter.unusedVariables false
set_option linter.unusedSimpArgs false

def makeE (t w len : Int) : Int := if permittedF t w ≠ 0 then permittedF t w else if len < 0 ∨ 65536 < len then 3 else 0
def makeF (t w : Int) (free : List Int) (n : Nat) : List Int := (List.range n).map fun (k : Nat) => pickF t w free k

theorem makeF_succ (t w : Int) (free : List Int) (n : Nat) : makeF t w free (n + 1) = makeF t w free n ++ [pickF t w free n] := by
  simp [makeF, List.range_succ]
theorem makeF_length (t w : Int) (free : List Int) (n : Nat) : (makeF t w free n).length = n := by simp [makeF]

set_option maxHeartbeats 1000000 in
theorem make_call (t w len : Int) (vf : Value) (free : List Int) (A : AW) (hf : IsInts A .i64 vf free) (hl : free.length < 2^62) :
    ACall Try.prog 7 [.int .i64 t, .int .i64 w, vf, .int .i64 len] A (fun v A' => ∃ sv, v = .tuple #[sv, .int .i64 (makeE t w len)] ∧
      IsInts A' .i64 sv (if makeE t w len = 0 then makeF t w free len.toNat else []) ∧ A.le A') := by
  refine acall_intro Try.func7 rfl (by kernel_rfl) fun hw => ?_
  obtain ⟨of, cf, rfl, _⟩ := hf.form
  by_cases hp : permittedF t w = 0
  case neg =>
    have he : makeE t w len = permittedF t w := if_pos hp
    repeat' (first
        | (refine sops_cons (fun R hR => ?_); simp [hp]; try simp (disch := omega) only [if_pos, if_neg])
        | (refine sqops_cons (fun R hR => ?_); simp [hp]; try simp (disch := omega) only [if_pos, if_neg])
        | (refine hR _ _ ?_; clear hR R) | (refine hR _ ?_; clear hR R)
        | (refine hK _ _ ?_; clear hK K) | (refine hK _ ?_; clear hK K)
        | refine sops_nil ?_
        | refine sqops_nil ?_
        | (refine awp_rs (fun K hK => ?_); simp only [slim, slimL, slimG, List.map_cons, List.map_nil, Option.map_none, Option.map_some, List.getElem?_toArray, List.getElem?_cons_zero, List.getElem?_cons_succ, Option.bind_some])
        | (refine awp_r1 (fun K hK => ?_); simp only [slim, slimL, slimG, List.map_cons, List.map_nil, Option.map_none, Option.map_some, List.getElem?_toArray, List.getElem?_cons_zero, List.getElem?_cons_succ, Option.bind_some])
        | (refine awp_ds (by kernel_rfl) (by kernel_rfl) (fun K hK => ?_); simp only [slim, slimL, slimG, List.map_cons, List.map_nil, Option.map_none, Option.map_some, List.getElem?_toArray, List.getElem?_cons_zero, List.getElem?_cons_succ, Option.bind_some])
        | (refine awp_d1 (by kernel_rfl) (by kernel_rfl) (fun K hK => ?_); simp only [slim, slimL, slimG, List.map_cons, List.map_nil, Option.map_none, Option.map_some, List.getElem?_toArray, List.getElem?_cons_zero, List.getElem?_cons_succ, Option.bind_some])
        | (refine callK (permitted_call _ _ _) ?_; rintro _ _ ⟨rfl, rfl⟩ _ _)
        | refine awp_block ?_
        | refine awp_ret ?_
        | refine awp_skip ?_
        | refine awp_exit ?_
        | ((refine awp_cond rfl (fun hc => ?_) (fun hc => ?_)) <;> (try simp at hc) <;> (try omega))
        | ((refine awp_cond (by simp only [evF_tmp, evF_const, upd_apply, ↓reduceIte, Nat.reduceEqDiff, hp]; rfl) (fun hc => ?_) (fun hc => ?_)) <;> (try simp at hc) <;> (try omega))
        | refine awp_seq ?_
        | ((refine ite_both (fun hc => ?_) (fun hc => ?_)) <;> (try omega) <;> (try simp (disch := omega) only [if_pos, if_neg])))
    simp [he, hp, IsInts.nil, AW.le.refl]
  by_cases h0 : len < 0
  · have he : makeE t w len = 3 := by rw [makeE, if_neg (by simpa using hp), if_pos (.inl h0)]
    repeat' (first
        | (refine sops_cons (fun R hR => ?_); simp [hp, h0]; try simp (disch := omega) only [if_pos, if_neg])
        | (refine sqops_cons (fun R hR => ?_); simp [hp, h0]; try simp (disch := omega) only [if_pos, if_neg])
        | (refine hR _ _ ?_; clear hR R) | (refine hR _ ?_; clear hR R)
        | (refine hK _ _ ?_; clear hK K) | (refine hK _ ?_; clear hK K)
        | refine sops_nil ?_
        | refine sqops_nil ?_
        | (refine awp_rs (fun K hK => ?_); simp only [slim, slimL, slimG, List.map_cons, List.map_nil, Option.map_none, Option.map_some, List.getElem?_toArray, List.getElem?_cons_zero, List.getElem?_cons_succ, Option.bind_some])
        | (refine awp_r1 (fun K hK => ?_); simp only [slim, slimL, slimG, List.map_cons, List.map_nil, Option.map_none, Option.map_some, List.getElem?_toArray, List.getElem?_cons_zero, List.getElem?_cons_succ, Option.bind_some])
        | (refine awp_ds (by kernel_rfl) (by kernel_rfl) (fun K hK => ?_); simp only [slim, slimL, slimG, List.map_cons, List.map_nil, Option.map_none, Option.map_some, List.getElem?_toArray, List.getElem?_cons_zero, List.getElem?_cons_succ, Option.bind_some])
        | (refine awp_d1 (by kernel_rfl) (by kernel_rfl) (fun K hK => ?_); simp only [slim, slimL, slimG, List.map_cons, List.map_nil, Option.map_none, Option.map_some, List.getElem?_toArray, List.getElem?_cons_zero, List.getElem?_cons_succ, Option.bind_some])
        | (refine callK (permitted_call _ _ _) ?_; rintro _ _ ⟨rfl, rfl⟩ _ _)
        | refine awp_block ?_
        | refine awp_ret ?_
        | refine awp_skip ?_
        | refine awp_exit ?_
        | ((refine awp_cond rfl (fun hc => ?_) (fun hc => ?_)) <;> (try simp at hc) <;> (try omega))
        | ((refine awp_cond (by simp only [evF_tmp, evF_const, upd_apply, ↓reduceIte, Nat.reduceEqDiff, hp, h0]; rfl) (fun hc => ?_) (fun hc => ?_)) <;> (try simp at hc) <;> (try omega))
        | refine awp_seq ?_
        | ((refine ite_both (fun hc => ?_) (fun hc => ?_)) <;> (try omega) <;> (try simp (disch := omega) only [if_pos, if_neg])))
    simp [he, IsInts.nil, AW.le.refl]
  by_cases h1 : 65536 < len
  · have he : makeE t w len = 3 := by rw [makeE, if_neg (by simpa using hp), if_pos (.inr h1)]
    repeat' (first
        | (refine sops_cons (fun R hR => ?_); simp [hp, h0, h1]; try simp (disch := omega) only [if_pos, if_neg])
        | (refine sqops_cons (fun R hR => ?_); simp [hp, h0, h1]; try simp (disch := omega) only [if_pos, if_neg])
        | (refine hR _ _ ?_; clear hR R) | (refine hR _ ?_; clear hR R)
        | (refine hK _ _ ?_; clear hK K) | (refine hK _ ?_; clear hK K)
        | refine sops_nil ?_
        | refine sqops_nil ?_
        | (refine awp_rs (fun K hK => ?_); simp only [slim, slimL, slimG, List.map_cons, List.map_nil, Option.map_none, Option.map_some, List.getElem?_toArray, List.getElem?_cons_zero, List.getElem?_cons_succ, Option.bind_some])
        | (refine awp_r1 (fun K hK => ?_); simp only [slim, slimL, slimG, List.map_cons, List.map_nil, Option.map_none, Option.map_some, List.getElem?_toArray, List.getElem?_cons_zero, List.getElem?_cons_succ, Option.bind_some])
        | (refine awp_ds (by kernel_rfl) (by kernel_rfl) (fun K hK => ?_); simp only [slim, slimL, slimG, List.map_cons, List.map_nil, Option.map_none, Option.map_some, List.getElem?_toArray, List.getElem?_cons_zero, List.getElem?_cons_succ, Option.bind_some])
        | (refine awp_d1 (by kernel_rfl) (by kernel_rfl) (fun K hK => ?_); simp only [slim, slimL, slimG, List.map_cons, List.map_nil, Option.map_none, Option.map_some, List.getElem?_toArray, List.getElem?_cons_zero, List.getElem?_cons_succ, Option.bind_some])
        | (refine callK (permitted_call _ _ _) ?_; rintro _ _ ⟨rfl, rfl⟩ _ _)
        | refine awp_block ?_
        | refine awp_ret ?_
        | refine awp_skip ?_
        | refine awp_exit ?_
        | ((refine awp_cond rfl (fun hc => ?_) (fun hc => ?_)) <;> (try simp at hc) <;> (try omega))
        | ((refine awp_cond (by simp only [evF_tmp, evF_const, upd_apply, ↓reduceIte, Nat.reduceEqDiff, hp, h0, h1]; rfl) (fun hc => ?_) (fun hc => ?_)) <;> (try simp at hc) <;> (try omega))
        | refine awp_seq ?_
        | ((refine ite_both (fun hc => ?_) (fun hc => ?_)) <;> (try omega) <;> (try simp (disch := omega) only [if_pos, if_neg])))
    simp [he, IsInts.nil, AW.le.refl]
  have he : makeE t w len = 0 := by rw [makeE, if_neg (by simpa using hp), if_neg (by omega)]
  obtain ⟨n, rfl⟩ := Int.eq_ofNat_of_zero_le (show 0 ≤ len by omega)
  rw [Int.toNat_natCast]
  repeat' (first
      | (refine sops_cons (fun R hR => ?_); simp [hp, h0, h1]; try simp (disch := omega) only [if_pos, if_neg])
      | (refine sqops_cons (fun R hR => ?_); simp [hp, h0, h1]; try simp (disch := omega) only [if_pos, if_neg])
      | (refine hR _ _ ?_; clear hR R) | (refine hR _ ?_; clear hR R)
      | (refine hK _ _ ?_; clear hK K) | (refine hK _ ?_; clear hK K)
      | refine sops_nil ?_
      | refine sqops_nil ?_
      | (refine awp_rs (fun K hK => ?_); simp only [slim, slimL, slimG, List.map_cons, List.map_nil, Option.map_none, Option.map_some, List.getElem?_toArray, List.getElem?_cons_zero, List.getElem?_cons_succ, Option.bind_some])
      | (refine awp_r1 (fun K hK => ?_); simp only [slim, slimL, slimG, List.map_cons, List.map_nil, Option.map_none, Option.map_some, List.getElem?_toArray, List.getElem?_cons_zero, List.getElem?_cons_succ, Option.bind_some])
      | (refine awp_ds (by kernel_rfl) (by kernel_rfl) (fun K hK => ?_); simp only [slim, slimL, slimG, List.map_cons, List.map_nil, Option.map_none, Option.map_some, List.getElem?_toArray, List.getElem?_cons_zero, List.getElem?_cons_succ, Option.bind_some])
      | (refine awp_d1 (by kernel_rfl) (by kernel_rfl) (fun K hK => ?_); simp only [slim, slimL, slimG, List.map_cons, List.map_nil, Option.map_none, Option.map_some, List.getElem?_toArray, List.getElem?_cons_zero, List.getElem?_cons_succ, Option.bind_some])
      | (refine callK (permitted_call _ _ _) ?_; rintro _ _ ⟨rfl, rfl⟩ _ _)
      | refine awp_block ?_
      | refine awp_ret ?_
      | refine awp_skip ?_
      | refine awp_exit ?_
      | ((refine awp_cond rfl (fun hc => ?_) (fun hc => ?_)) <;> (try simp at hc) <;> (try omega))
      | ((refine awp_cond (by simp only [evF_tmp, evF_const, upd_apply, ↓reduceIte, Nat.reduceEqDiff, hp, h0, h1]; rfl) (fun hc => ?_) (fun hc => ?_)) <;> (try simp at hc) <;> (try omega))
      | refine awp_seq ?_
      | ((refine ite_both (fun hc => ?_) (fun hc => ?_)) <;> (try omega) <;> (try simp (disch := omega) only [if_pos, if_neg])))
  refine awp_loop (fun k fr A' => ∃ (j : Nat) (sv : Value), k = n - j ∧ j ≤ n ∧ fr 0 = .int .i64 t ∧ fr 1 = .int .i64 w ∧ fr 2 = .slice of free.length cf ∧ fr 11 = sv ∧ fr 25 = .int .i64 n ∧ fr 26 = .int .i64 j ∧
    OwnInts A.next A' .i64 sv (makeF t w free j) ∧ A.le A' ∧ A'.Wf) n ?_ ?_
  · exact ⟨0, _, by simp, by simp, rfl, rfl, rfl, rfl, rfl, rfl, OwnInts.nil _ _ _, AW.le.refl A, hw⟩
  · rintro k fr A' ⟨j, sv, rfl, hj, g0, g1, g2, g11, g25, g26, hown, hle, hw'⟩
    have hf' := hf.le hle hw
    by_cases hlt : j < n
    · have hwj : IntKind.i64.wrap ((j : Int) + 1) = ((j + 1 : Nat) : Int) := wrap_i64 (by omega) (by omega)
      obtain ⟨v', A2, e1, hown2, hle2, hw2, hn2⟩ := append_int (P := Try.prog) (t := 22) (pickF t w free j) Try.underlying22 Try.info3 Try.zero3 rfl rfl hown (by rw [makeF_length]; omega) (by simp) hle.next hw'
      rw [← makeF_succ] at hown2
      repeat' (first
          | (refine sops_cons (fun R hR => ?_); simp [g0, g1, g2, g11, g25, g26, hlt, hwj, e1]; try simp (disch := omega) only [if_pos, if_neg])
          | (refine sqops_cons (fun R hR => ?_); simp [g0, g1, g2, g11, g25, g26, hlt, hwj, e1]; try simp (disch := omega) only [if_pos, if_neg])
          | (refine hR _ _ ?_; clear hR R) | (refine hR _ ?_; clear hR R)
          | (refine hK _ _ ?_; clear hK K) | (refine hK _ ?_; clear hK K)
          | refine sops_nil ?_
          | refine sqops_nil ?_
          | (refine awp_rs (fun K hK => ?_); simp only [slim, slimL, slimG, List.map_cons, List.map_nil, Option.map_none, Option.map_some, List.getElem?_toArray, List.getElem?_cons_zero, List.getElem?_cons_succ, Option.bind_some])
          | (refine awp_r1 (fun K hK => ?_); simp only [slim, slimL, slimG, List.map_cons, List.map_nil, Option.map_none, Option.map_some, List.getElem?_toArray, List.getElem?_cons_zero, List.getElem?_cons_succ, Option.bind_some])
          | (refine awp_ds (by kernel_rfl) (by kernel_rfl) (fun K hK => ?_); simp only [slim, slimL, slimG, List.map_cons, List.map_nil, Option.map_none, Option.map_some, List.getElem?_toArray, List.getElem?_cons_zero, List.getElem?_cons_succ, Option.bind_some])
          | (refine awp_d1 (by kernel_rfl) (by kernel_rfl) (fun K hK => ?_); simp only [slim, slimL, slimG, List.map_cons, List.map_nil, Option.map_none, Option.map_some, List.getElem?_toArray, List.getElem?_cons_zero, List.getElem?_cons_succ, Option.bind_some])
          | (refine callK (pick_call _ _ _ _ _ _ hf' hl (by omega)) ?_; rintro _ _ ⟨rfl, rfl⟩ _ _)
          | refine awp_block ?_
          | refine awp_ret ?_
          | refine awp_skip ?_
          | refine awp_exit ?_
          | ((refine awp_cond rfl (fun hc => ?_) (fun hc => ?_)) <;> (try simp at hc) <;> (try omega))
          | ((refine awp_cond (by simp only [evF_tmp, evF_const, upd_apply, ↓reduceIte, Nat.reduceEqDiff, g0, g1, g2, g11, g25, g26, hlt, hwj, e1]; rfl) (fun hc => ?_) (fun hc => ?_)) <;> (try simp at hc) <;> (try omega))
          | refine awp_seq ?_
          | ((refine ite_both (fun hc => ?_) (fun hc => ?_)) <;> (try omega) <;> (try simp (disch := omega) only [if_pos, if_neg])))
      refine ⟨n - (j + 1), by omega, j + 1, v', rfl, by omega, ?_, ?_, ?_, ?_, ?_, ?_, hown2, hle2 A (Nat.le_refl _) hle, hw2⟩ <;> simp [g0, g1, g2, g25]
    · have hjn : j = n := by omega
      subst hjn
      repeat' (first
          | (refine sops_cons (fun R hR => ?_); simp [g0, g1, g2, g11, g25, g26, hlt]; try simp (disch := omega) only [if_pos, if_neg])
          | (refine sqops_cons (fun R hR => ?_); simp [g0, g1, g2, g11, g25, g26, hlt]; try simp (disch := omega) only [if_pos, if_neg])
          | (refine hR _ _ ?_; clear hR R) | (refine hR _ ?_; clear hR R)
          | (refine hK _ _ ?_; clear hK K) | (refine hK _ ?_; clear hK K)
          | refine sops_nil ?_
          | refine sqops_nil ?_
          | (refine awp_rs (fun K hK => ?_); simp only [slim, slimL, slimG, List.map_cons, List.map_nil, Option.map_none, Option.map_some, List.getElem?_toArray, List.getElem?_cons_zero, List.getElem?_cons_succ, Option.bind_some])
          | (refine awp_r1 (fun K hK => ?_); simp only [slim, slimL, slimG, List.map_cons, List.map_nil, Option.map_none, Option.map_some, List.getElem?_toArray, List.getElem?_cons_zero, List.getElem?_cons_succ, Option.bind_some])
          | (refine awp_ds (by kernel_rfl) (by kernel_rfl) (fun K hK => ?_); simp only [slim, slimL, slimG, List.map_cons, List.map_nil, Option.map_none, Option.map_some, List.getElem?_toArray, List.getElem?_cons_zero, List.getElem?_cons_succ, Option.bind_some])
          | (refine awp_d1 (by kernel_rfl) (by kernel_rfl) (fun K hK => ?_); simp only [slim, slimL, slimG, List.map_cons, List.map_nil, Option.map_none, Option.map_some, List.getElem?_toArray, List.getElem?_cons_zero, List.getElem?_cons_succ, Option.bind_some])
          | refine awp_block ?_
          | refine awp_ret ?_
          | refine awp_skip ?_
          | refine awp_exit ?_
          | ((refine awp_cond rfl (fun hc => ?_) (fun hc => ?_)) <;> (try simp at hc) <;> (try omega))
          | ((refine awp_cond (by simp only [evF_tmp, evF_const, upd_apply, ↓reduceIte, Nat.reduceEqDiff, g0, g1, g2, g11, g25, g26, hlt]; rfl) (fun hc => ?_) (fun hc => ?_)) <;> (try simp at hc) <;> (try omega))
          | refine awp_seq ?_
          | ((refine ite_both (fun hc => ?_) (fun hc => ?_)) <;> (try omega) <;> (try simp (disch := omega) only [if_pos, if_neg])))
      simp only [APost, ares, aresL, ares1, Try.results7, upd_apply]
      refine ⟨_, rfl, sv, ?_, ?_, hle⟩
      · simp [he]
      · rw [if_pos he]; exact hown.is

end Go.Stx
