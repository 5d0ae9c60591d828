/-
  The document's question for the transaction around a position.
-/
import Derived.Test.YtcffnkgjmneaeaaGreatDoorFbE
namespace Go.Stx
open Go Go.Proofs
attribute [local irreducible] AWP LWalk ACall ARounds lops nops
set_option linter.unusedVariables false
set_option linter.unusedSimpArgs false
set_option linter.unusedSectionVars false
set_option maxRecDepth 20000
variable [Gl]

def optI : Option Nat → Int
  | some b => b
  | none => -1
def spanV : Option (Nat × Nat) → Value
  | some (b, c) => .tuple #[.int .i64 b, .int .i64 c]
  | none => .tuple #[.int .i64 (-1), .int .i64 (-1)]

set_option maxHeartbeats 4000000 in
theorem span_call (v : Value) (p : List InsV) (t : Nat) (A : AW) (h : IsIns A v p) (hl : p.length < 2^30) (ht : t ≤ p.length) :
    ACall Tryz.prog 89 [v, .int .i64 t] A (fun u A' => u = spanV (spanF p t) ∧ A = A') := by
  refine acall_intro Tryz.func89 rfl (by kernel_rfl) fun hw => ?_
  obtain ⟨o, c, rfl, _⟩ := h.form
  repeat' (first
  | (refine lwc fun R hR => ?_; simp [wrap_i64, wrap_u64]; try simp (disch := omega) only [if_pos, if_neg, wrap_i64, wrap_u64])
  | (refine hR _ _ ?_; clear hR R) | (refine hK _ _ ?_; clear hK K) | refine lwn ?_ | refine lr ?_ | refine la ?_
  | refine wn fun K hK => ?_
  | simp only [wS]
  | refine wb ?_ | refine wr ?_ | refine wk ?_ | refine we ?_ | refine ws ?_ | refine wq ?_
  | (refine wc rfl (fun hc => ?_) (fun hc => ?_) <;> (try simp at hc) <;> (try omega))
  | (refine ib (fun hc => ?_) (fun hc => ?_) <;> (try omega) <;> (try simp (disch := omega) only [if_pos, if_neg])))
  refine awp_loop (fun k fr A' => A = A' ∧ ∃ (i : Nat) (b : Option Nat), k = p.length - i ∧ i ≤ p.length ∧ fr 0 = .slice o p.length c ∧ fr 1 = .int .i64 t ∧ fr 6 = .int .i64 (optI b) ∧ fr 7 = .int .i64 i ∧
    spanF p t = spanGo p t (p.length - i) i b) p.length ?_ ?_
  · exact ⟨rfl, 0, none, rfl, Nat.zero_le _, rfl, rfl, rfl, rfl, rfl⟩
  · rintro k fr A' ⟨rfl, i, b, rfl, hi, h0, h1, h6, h7, he⟩
    by_cases hlt : i < p.length
    · obtain ⟨q, row, rfl, hrow, hle, hcell⟩ := h.at hlt
      have hop := ins_op hcell
      have hwi : IntKind.i64.wrap ((i : Int) + 1) = ((i + 1 : Nat) : Int) := wrap_i64 (by omega) (by omega)
      have ho : insOp p i = p[i].op := insOp_get (List.getElem?_eq_getElem hlt)
      have hst : p.length - i = (p.length - (i + 1)) + 1 := by omega
      rw [hst] at he
      unfold spanGo at he
      cases b with
      | none =>
        simp only [optI] at h6
        simp only [ho] at he
        by_cases o7 : p[i].op = 7
        · rw [if_pos o7] at he
          refine awp_seq ?_
          repeat' (first
          | (refine lwc fun R hR => ?_; simp [wrap_i64, wrap_u64, h0, h1, h6, h7, hrow, hop, hle, hlt, hwi, o7]; try simp (disch := omega) only [if_pos, if_neg, wrap_i64, wrap_u64])
          | (refine hR _ _ ?_; clear hR R) | (refine hK _ _ ?_; clear hK K) | refine lwn ?_ | refine lr ?_ | refine la ?_
          | refine wn fun K hK => ?_
          | simp only [wS]
          | refine wb ?_ | refine wr ?_ | refine wk ?_ | refine we ?_ | refine ws ?_ | refine wq ?_
          | (refine wc rfl (fun hc => ?_) (fun hc => ?_) <;> (try simp at hc) <;> (try omega))
          | (refine ib (fun hc => ?_) (fun hc => ?_) <;> (try omega) <;> (try simp (disch := omega) only [if_pos, if_neg])))
          refine ⟨p.length - (i + 1), by omega, rfl, i + 1, some i, rfl, by omega, ?_, ?_, ?_, ?_, he⟩ <;> simp [h0, h1, optI]
        · rw [if_neg o7] at he
          refine awp_seq ?_
          repeat' (first
          | (refine lwc fun R hR => ?_; simp [wrap_i64, wrap_u64, h0, h1, h6, h7, hrow, hop, hle, hlt, hwi, o7]; try simp (disch := omega) only [if_pos, if_neg, wrap_i64, wrap_u64])
          | (refine hR _ _ ?_; clear hR R) | (refine hK _ _ ?_; clear hK K) | refine lwn ?_ | refine lr ?_ | refine la ?_
          | refine wn fun K hK => ?_
          | simp only [wS]
          | refine wb ?_ | refine wr ?_ | refine wk ?_ | refine we ?_ | refine ws ?_ | refine wq ?_
          | (refine wc rfl (fun hc => ?_) (fun hc => ?_) <;> (try simp at hc) <;> (try omega))
          | (refine ib (fun hc => ?_) (fun hc => ?_) <;> (try omega) <;> (try simp (disch := omega) only [if_pos, if_neg])))
          refine ⟨p.length - (i + 1), by omega, rfl, i + 1, none, rfl, by omega, ?_, ?_, ?_, ?_, he⟩ <;> simp [h0, h1, h6, optI]
      | some d =>
        simp only [optI] at h6
        simp only [ho] at he
        have hd0 : ¬ ((d : Int) < 0) := by omega
        by_cases o8 : p[i].op = 8
        · rw [if_pos o8] at he
          by_cases hc : d ≤ t ∧ t ≤ i
          · rw [if_pos hc] at he
            have hc1 := hc.1
            have hc2 := hc.2
            refine awp_seq ?_
            repeat' (first
            | (refine lwc fun R hR => ?_; simp [wrap_i64, wrap_u64, h0, h1, h6, h7, hrow, hop, hle, hlt, hwi, o8, hd0, hc1, hc2]; try simp (disch := omega) only [if_pos, if_neg, wrap_i64, wrap_u64])
            | (refine hR _ _ ?_; clear hR R) | (refine hK _ _ ?_; clear hK K) | refine lwn ?_ | refine lr ?_ | refine la ?_
            | refine wn fun K hK => ?_
            | simp only [wS]
            | refine wb ?_ | refine wr ?_ | refine wk ?_ | refine we ?_ | refine ws ?_ | refine wq ?_
            | (refine wc rfl (fun hc => ?_) (fun hc => ?_) <;> (try simp at hc) <;> (try omega))
            | (refine ib (fun hc => ?_) (fun hc => ?_) <;> (try omega) <;> (try simp (disch := omega) only [if_pos, if_neg])))
            all_goals simp [ABlock, AThen, APost, ares, aresL, ares1, he, spanV]
          · rw [if_neg hc] at he
            by_cases hc1 : d ≤ t
            · have hc2 : ¬ t ≤ i := fun x => hc ⟨hc1, x⟩
              refine awp_seq ?_
              repeat' (first
              | (refine lwc fun R hR => ?_; simp [wrap_i64, wrap_u64, h0, h1, h6, h7, hrow, hop, hle, hlt, hwi, o8, hd0, hc1, hc2]; try simp (disch := omega) only [if_pos, if_neg, wrap_i64, wrap_u64])
              | (refine hR _ _ ?_; clear hR R) | (refine hK _ _ ?_; clear hK K) | refine lwn ?_ | refine lr ?_ | refine la ?_
              | refine wn fun K hK => ?_
              | simp only [wS]
              | refine wb ?_ | refine wr ?_ | refine wk ?_ | refine we ?_ | refine ws ?_ | refine wq ?_
              | (refine wc rfl (fun hc => ?_) (fun hc => ?_) <;> (try simp at hc) <;> (try omega))
              | (refine ib (fun hc => ?_) (fun hc => ?_) <;> (try omega) <;> (try simp (disch := omega) only [if_pos, if_neg])))
              refine ⟨p.length - (i + 1), by omega, rfl, i + 1, none, rfl, by omega, ?_, ?_, ?_, ?_, he⟩ <;> simp [h0, h1, optI]
            · refine awp_seq ?_
              repeat' (first
              | (refine lwc fun R hR => ?_; simp [wrap_i64, wrap_u64, h0, h1, h6, h7, hrow, hop, hle, hlt, hwi, o8, hd0, hc1]; try simp (disch := omega) only [if_pos, if_neg, wrap_i64, wrap_u64])
              | (refine hR _ _ ?_; clear hR R) | (refine hK _ _ ?_; clear hK K) | refine lwn ?_ | refine lr ?_ | refine la ?_
              | refine wn fun K hK => ?_
              | simp only [wS]
              | refine wb ?_ | refine wr ?_ | refine wk ?_ | refine we ?_ | refine ws ?_ | refine wq ?_
              | (refine wc rfl (fun hc => ?_) (fun hc => ?_) <;> (try simp at hc) <;> (try omega))
              | (refine ib (fun hc => ?_) (fun hc => ?_) <;> (try omega) <;> (try simp (disch := omega) only [if_pos, if_neg])))
              refine ⟨p.length - (i + 1), by omega, rfl, i + 1, none, rfl, by omega, ?_, ?_, ?_, ?_, he⟩ <;> simp [h0, h1, optI]
        · rw [if_neg o8] at he
          refine awp_seq ?_
          repeat' (first
          | (refine lwc fun R hR => ?_; simp [wrap_i64, wrap_u64, h0, h1, h6, h7, hrow, hop, hle, hlt, hwi, o8, hd0]; try simp (disch := omega) only [if_pos, if_neg, wrap_i64, wrap_u64])
          | (refine hR _ _ ?_; clear hR R) | (refine hK _ _ ?_; clear hK K) | refine lwn ?_ | refine lr ?_ | refine la ?_
          | refine wn fun K hK => ?_
          | simp only [wS]
          | refine wb ?_ | refine wr ?_ | refine wk ?_ | refine we ?_ | refine ws ?_ | refine wq ?_
          | (refine wc rfl (fun hc => ?_) (fun hc => ?_) <;> (try simp at hc) <;> (try omega))
          | (refine ib (fun hc => ?_) (fun hc => ?_) <;> (try omega) <;> (try simp (disch := omega) only [if_pos, if_neg])))
          refine ⟨p.length - (i + 1), by omega, rfl, i + 1, some d, rfl, by omega, ?_, ?_, ?_, ?_, he⟩ <;> simp [h0, h1, h6, optI]
    · have hil : i = p.length := by omega
      subst hil
      rw [Nat.sub_self] at he
      unfold spanGo at he
      cases b with
      | none =>
        simp only [optI] at h6
        refine awp_seq ?_
        repeat' (first
        | (refine lwc fun R hR => ?_; simp [wrap_i64, wrap_u64, h0, h1, h6, h7, hlt]; try simp (disch := omega) only [if_pos, if_neg, wrap_i64, wrap_u64])
        | (refine hR _ _ ?_; clear hR R) | (refine hK _ _ ?_; clear hK K) | refine lwn ?_ | refine lr ?_ | refine la ?_
        | refine wn fun K hK => ?_
        | simp only [wS]
        | refine wb ?_ | refine wr ?_ | refine wk ?_ | refine we ?_ | refine ws ?_ | refine wq ?_
        | (refine wc rfl (fun hc => ?_) (fun hc => ?_) <;> (try simp at hc) <;> (try omega))
        | (refine ib (fun hc => ?_) (fun hc => ?_) <;> (try omega) <;> (try simp (disch := omega) only [if_pos, if_neg])))
        all_goals simp [ABlock, AThen, APost, ares, aresL, ares1, he, spanV]
      | some d =>
        simp only [optI] at h6
        have hd0 : ¬ ((d : Int) < 0) := by omega
        have hd1 : (0 : Int) ≤ d := by omega
        simp only at he
        by_cases hc1 : d ≤ t
        · by_cases hc2 : t < p.length
          · rw [if_pos ⟨hc1, hc2⟩] at he
            refine awp_seq ?_
            repeat' (first
            | (refine lwc fun R hR => ?_; simp [wrap_i64, wrap_u64, h0, h1, h6, h7, hlt, hd0, hd1, hc1, hc2]; try simp (disch := omega) only [if_pos, if_neg, wrap_i64, wrap_u64])
            | (refine hR _ _ ?_; clear hR R) | (refine hK _ _ ?_; clear hK K) | refine lwn ?_ | refine lr ?_ | refine la ?_
            | refine wn fun K hK => ?_
            | simp only [wS]
            | refine wb ?_ | refine wr ?_ | refine wk ?_ | refine we ?_ | refine ws ?_ | refine wq ?_
            | (refine wc rfl (fun hc => ?_) (fun hc => ?_) <;> (try simp at hc) <;> (try omega))
            | (refine ib (fun hc => ?_) (fun hc => ?_) <;> (try omega) <;> (try simp (disch := omega) only [if_pos, if_neg])))
            all_goals simp [ABlock, AThen, APost, ares, aresL, ares1, he, spanV]
          · rw [if_neg (fun x => hc2 x.2)] at he
            refine awp_seq ?_
            repeat' (first
            | (refine lwc fun R hR => ?_; simp [wrap_i64, wrap_u64, h0, h1, h6, h7, hlt, hd0, hd1, hc1, hc2]; try simp (disch := omega) only [if_pos, if_neg, wrap_i64, wrap_u64])
            | (refine hR _ _ ?_; clear hR R) | (refine hK _ _ ?_; clear hK K) | refine lwn ?_ | refine lr ?_ | refine la ?_
            | refine wn fun K hK => ?_
            | simp only [wS]
            | refine wb ?_ | refine wr ?_ | refine wk ?_ | refine we ?_ | refine ws ?_ | refine wq ?_
            | (refine wc rfl (fun hc => ?_) (fun hc => ?_) <;> (try simp at hc) <;> (try omega))
            | (refine ib (fun hc => ?_) (fun hc => ?_) <;> (try omega) <;> (try simp (disch := omega) only [if_pos, if_neg])))
            all_goals simp [ABlock, AThen, APost, ares, aresL, ares1, he, spanV]
        · rw [if_neg (fun x => hc1 x.1)] at he
          refine awp_seq ?_
          repeat' (first
          | (refine lwc fun R hR => ?_; simp [wrap_i64, wrap_u64, h0, h1, h6, h7, hlt, hd0, hd1, hc1]; try simp (disch := omega) only [if_pos, if_neg, wrap_i64, wrap_u64])
          | (refine hR _ _ ?_; clear hR R) | (refine hK _ _ ?_; clear hK K) | refine lwn ?_ | refine lr ?_ | refine la ?_
          | refine wn fun K hK => ?_
          | simp only [wS]
          | refine wb ?_ | refine wr ?_ | refine wk ?_ | refine we ?_ | refine ws ?_ | refine wq ?_
          | (refine wc rfl (fun hc => ?_) (fun hc => ?_) <;> (try simp at hc) <;> (try omega))
          | (refine ib (fun hc => ?_) (fun hc => ?_) <;> (try omega) <;> (try simp (disch := omega) only [if_pos, if_neg])))
          all_goals simp [ABlock, AThen, APost, ares, aresL, ares1, he, spanV]
end Go.Stx
