/-
  The document's instructions: letters, forms, registers, the check.
-/
import Derived.Test.YtcffnkgjmneaeaaGreatDoorFbA
namespace Go.Stx
open Go Go.Proofs
attribute [local irreducible] AWP LWalk ACall ARounds lops nops
set_option linter.unusedVariables false
set_option linter.unusedSimpArgs false
set_option linter.unusedSectionVars false
set_option maxRecDepth 20000
variable [Gl]

def bs (l : List UInt8) : ByteArray := ⟨l.toArray⟩
theorem bs_size (l : List UInt8) : (bs l).size = l.length := by simp [bs, ByteArray.size]
theorem bs_elem (s : List UInt8) (i : Nat) (h : i < (bs s).size) : (bs s)[i]'h = s[i]'(by rw [bs_size] at h; exact h) := rfl
theorem bs_get (s : List UInt8) (i : Nat) : (bs s)[i]? = s[i]? := by
  by_cases h : i < s.length
  · rw [List.getElem?_eq_getElem h, getElem?_pos (bs s) i (by rw [bs_size]; exact h)]; rfl
  · rw [List.getElem?_eq_none (by omega), getElem?_neg (bs s) i (by rw [bs_size]; exact h)]

set_option maxHeartbeats 1000000 in
theorem has_call (s : List UInt8) (x : UInt8) (A : AW) (hl : s.length < 2^30) :
    ACall Tryz.prog 88 [.string (bs s), .int .u8 x.toNat] A (fun u A' => u = .bool (decide (x ∈ s)) ∧ A = A') := by
  refine acall_intro Tryz.func88 rfl (by kernel_rfl) fun hw => ?_
  repeat' (first
  | (refine lwc fun R hR => ?_; simp [wrap_i64, wrap_u64]; try simp (disch := omega) only [if_pos, if_neg, wrap_i64, wrap_u64])
  | (refine hR _ _ ?_; clear hR R) | (refine hK _ _ ?_; clear hK K) | refine lwn ?_ | refine lr ?_ | refine la ?_
  | refine wn fun K hK => ?_
  | simp only [wS]
  | refine wb ?_ | refine wr ?_ | refine wk ?_ | refine we ?_ | refine ws ?_ | refine wq ?_
  | (refine wc rfl (fun hc => ?_) (fun hc => ?_) <;> (try simp at hc) <;> (try omega))
  | (refine ib (fun hc => ?_) (fun hc => ?_) <;> (try omega) <;> (try simp (disch := omega) only [if_pos, if_neg])))
  refine awp_loop (fun k fr A' => A = A' ∧ ∃ i : Nat, k = s.length - i ∧ i ≤ s.length ∧ fr 0 = .string (bs s) ∧ fr 1 = .int .u8 x.toNat ∧ fr 5 = .int .i64 i ∧ (x ∈ s ↔ x ∈ s.drop i)) s.length ?_ ?_
  · exact ⟨rfl, 0, rfl, Nat.zero_le _, rfl, rfl, rfl, by simp⟩
  · rintro k fr A' ⟨rfl, i, rfl, hi, h0, h1, h5, he⟩
    by_cases hlt : i < s.length
    · have hwi : IntKind.i64.wrap ((i : Int) + 1) = ((i + 1 : Nat) : Int) := wrap_i64 (by omega) (by omega)
      have hd : s.drop i = s[i] :: s.drop (i + 1) := List.drop_eq_getElem_cons hlt
      by_cases hx : s[i] = x
      · have hxn : ((s[i].toNat : Int) = x.toNat) := by rw [hx]
        have hin : x ∈ s := he.2 (by rw [hd, hx]; simp)
        refine awp_seq ?_
        repeat' (first
        | (refine lwc fun R hR => ?_; simp [wrap_i64, wrap_u64, h0, h1, h5, bs_size, bs_elem, hlt, hwi, hxn]; try simp (disch := omega) only [if_pos, if_neg, wrap_i64, wrap_u64])
        | (refine hR _ _ ?_; clear hR R) | (refine hK _ _ ?_; clear hK K) | refine lwn ?_ | refine lr ?_ | refine la ?_
        | refine wn fun K hK => ?_
        | simp only [wS]
        | refine wb ?_ | refine wr ?_ | refine wk ?_ | refine we ?_ | refine ws ?_ | refine wq ?_
        | (refine wc rfl (fun hc => ?_) (fun hc => ?_) <;> (try simp at hc) <;> (try omega))
        | (refine ib (fun hc => ?_) (fun hc => ?_) <;> (try omega) <;> (try simp (disch := omega) only [if_pos, if_neg])))
        simp [ABlock, AThen, APost, ares, aresL, ares1, hin]
      · have hxn : ¬ ((s[i].toNat : Int) = x.toNat) := fun e => hx (UInt8.toNat_inj.1 (by omega))
        refine awp_seq ?_
        repeat' (first
        | (refine lwc fun R hR => ?_; simp [wrap_i64, wrap_u64, h0, h1, h5, bs_size, bs_elem, hlt, hwi, hxn]; try simp (disch := omega) only [if_pos, if_neg, wrap_i64, wrap_u64])
        | (refine hR _ _ ?_; clear hR R) | (refine hK _ _ ?_; clear hK K) | refine lwn ?_ | refine lr ?_ | refine la ?_
        | refine wn fun K hK => ?_
        | simp only [wS]
        | refine wb ?_ | refine wr ?_ | refine wk ?_ | refine we ?_ | refine ws ?_ | refine wq ?_
        | (refine wc rfl (fun hc => ?_) (fun hc => ?_) <;> (try simp at hc) <;> (try omega))
        | (refine ib (fun hc => ?_) (fun hc => ?_) <;> (try omega) <;> (try simp (disch := omega) only [if_pos, if_neg])))
        refine ⟨s.length - (i + 1), by omega, rfl, i + 1, rfl, by omega, ?_, ?_, ?_, ?_⟩
        · simp [h0]
        · simp [h1]
        · simp
        · have hne : ¬ x = s[i] := fun e => hx e.symm
          rw [he, hd, List.mem_cons]
          exact ⟨fun h => h.resolve_left hne, .inr⟩
    · have hin : ¬ x ∈ s := fun h => by
        have := he.1 h
        rw [List.drop_eq_nil_of_le (by omega)] at this
        cases this
      refine awp_seq ?_
      repeat' (first
      | (refine lwc fun R hR => ?_; simp [wrap_i64, wrap_u64, h0, h1, h5, bs_size, hlt]; try simp (disch := omega) only [if_pos, if_neg, wrap_i64, wrap_u64])
      | (refine hR _ _ ?_; clear hR R) | (refine hK _ _ ?_; clear hK K) | refine lwn ?_ | refine lr ?_ | refine la ?_
      | refine wn fun K hK => ?_
      | simp only [wS]
      | refine wb ?_ | refine wr ?_ | refine wk ?_ | refine we ?_ | refine ws ?_ | refine wq ?_
      | (refine wc rfl (fun hc => ?_) (fun hc => ?_) <;> (try simp at hc) <;> (try omega))
      | (refine ib (fun hc => ?_) (fun hc => ?_) <;> (try omega) <;> (try simp (disch := omega) only [if_pos, if_neg])))
      simp [ABlock, AThen, APost, ares, aresL, ares1, hin]

set_option maxHeartbeats 1000000 in
theorem register_call (r : Int) (b : Bool) (A : AW) : ACall Tryz.prog 87 [.int .i64 r, .bool b] A (fun u A' => u = .bool (regOk r b) ∧ A = A') := by
  refine acall_intro Tryz.func87 rfl (by kernel_rfl) fun hw => ?_
  cases b with
  | true =>
    by_cases h1 : 0 ≤ r
    · by_cases h2 : r < 8
      · repeat' (first
      | (refine lwc fun R hR => ?_; simp [wrap_i64, wrap_u64, h1, h2]; try simp (disch := omega) only [if_pos, if_neg, wrap_i64, wrap_u64])
      | (refine hR _ _ ?_; clear hR R) | (refine hK _ _ ?_; clear hK K) | refine lwn ?_ | refine lr ?_ | refine la ?_
      | refine wn fun K hK => ?_
      | simp only [wS]
      | refine wb ?_ | refine wr ?_ | refine wk ?_ | refine we ?_ | refine ws ?_ | refine wq ?_
      | (refine wc rfl (fun hc => ?_) (fun hc => ?_) <;> (try simp at hc) <;> (try omega))
      | (refine ib (fun hc => ?_) (fun hc => ?_) <;> (try omega) <;> (try simp (disch := omega) only [if_pos, if_neg])))
        all_goals simp [AThen, APost, ares, aresL, ares1, regOk, h1, h2]
      · repeat' (first
      | (refine lwc fun R hR => ?_; simp [wrap_i64, wrap_u64, h1, h2]; try simp (disch := omega) only [if_pos, if_neg, wrap_i64, wrap_u64])
      | (refine hR _ _ ?_; clear hR R) | (refine hK _ _ ?_; clear hK K) | refine lwn ?_ | refine lr ?_ | refine la ?_
      | refine wn fun K hK => ?_
      | simp only [wS]
      | refine wb ?_ | refine wr ?_ | refine wk ?_ | refine we ?_ | refine ws ?_ | refine wq ?_
      | (refine wc rfl (fun hc => ?_) (fun hc => ?_) <;> (try simp at hc) <;> (try omega))
      | (refine ib (fun hc => ?_) (fun hc => ?_) <;> (try omega) <;> (try simp (disch := omega) only [if_pos, if_neg])))
        all_goals simp [AThen, APost, ares, aresL, ares1, regOk, h1, h2]
    · repeat' (first
    | (refine lwc fun R hR => ?_; simp [wrap_i64, wrap_u64, h1]; try simp (disch := omega) only [if_pos, if_neg, wrap_i64, wrap_u64])
    | (refine hR _ _ ?_; clear hR R) | (refine hK _ _ ?_; clear hK K) | refine lwn ?_ | refine lr ?_ | refine la ?_
    | refine wn fun K hK => ?_
    | simp only [wS]
    | refine wb ?_ | refine wr ?_ | refine wk ?_ | refine we ?_ | refine ws ?_ | refine wq ?_
    | (refine wc rfl (fun hc => ?_) (fun hc => ?_) <;> (try simp at hc) <;> (try omega))
    | (refine ib (fun hc => ?_) (fun hc => ?_) <;> (try omega) <;> (try simp (disch := omega) only [if_pos, if_neg])))
      all_goals simp [AThen, APost, ares, aresL, ares1, regOk, h1]
  | false =>
    by_cases h1 : r = 0
    · repeat' (first
    | (refine lwc fun R hR => ?_; simp [wrap_i64, wrap_u64, h1]; try simp (disch := omega) only [if_pos, if_neg, wrap_i64, wrap_u64])
    | (refine hR _ _ ?_; clear hR R) | (refine hK _ _ ?_; clear hK K) | refine lwn ?_ | refine lr ?_ | refine la ?_
    | refine wn fun K hK => ?_
    | simp only [wS]
    | refine wb ?_ | refine wr ?_ | refine wk ?_ | refine we ?_ | refine ws ?_ | refine wq ?_
    | (refine wc rfl (fun hc => ?_) (fun hc => ?_) <;> (try simp at hc) <;> (try omega))
    | (refine ib (fun hc => ?_) (fun hc => ?_) <;> (try omega) <;> (try simp (disch := omega) only [if_pos, if_neg])))
      all_goals simp [AThen, APost, ares, aresL, ares1, regOk, h1]
    · repeat' (first
    | (refine lwc fun R hR => ?_; simp [wrap_i64, wrap_u64, h1]; try simp (disch := omega) only [if_pos, if_neg, wrap_i64, wrap_u64])
    | (refine hR _ _ ?_; clear hR R) | (refine hK _ _ ?_; clear hK K) | refine lwn ?_ | refine lr ?_ | refine la ?_
    | refine wn fun K hK => ?_
    | simp only [wS]
    | refine wb ?_ | refine wr ?_ | refine wk ?_ | refine we ?_ | refine ws ?_ | refine wq ?_
    | (refine wc rfl (fun hc => ?_) (fun hc => ?_) <;> (try simp at hc) <;> (try omega))
    | (refine ib (fun hc => ?_) (fun hc => ?_) <;> (try omega) <;> (try simp (disch := omega) only [if_pos, if_neg])))
      all_goals simp [AThen, APost, ares, aresL, ares1, regOk, h1]
end Go.Stx
