/-
  The program's check of an instruction.
-/
import Derived.Test.YtcffnkgjmneaeaaGreatDoorFbH
import Derived.Test.YtcffnkgjmneaeaaGreatDoorShelf
namespace Go.Stx
open Go Go.Proofs
attribute [local irreducible] AWP LWalk ACall ARounds lops nops
open Go.RowKit
set_option linter.unusedVariables false
set_option linter.unusedSimpArgs false
set_option linter.unusedSectionVars false
set_option maxRecDepth 20000
variable [Gl]

def formNames : List (List UInt8 × List UInt8) := [([110, 111, 112], []), ([99, 111, 110, 115, 116], [65, 73]), ([109, 111, 118, 101], [65, 66]), ([], [65, 66, 67]), ([106, 117, 109, 112], [73]), ([122, 101, 114, 111], [65, 73]),
  ([110, 111, 110, 122, 101, 114, 111], [65, 73]), ([98, 101, 103, 105, 110], [73]), ([99, 111, 109, 109, 105, 116], []), ([97, 98, 111, 114, 116], []), ([116, 114, 101, 97, 100], [65, 66, 73]), ([116, 119, 114, 105, 116, 101], [65, 66, 73]),
  ([112, 114, 101, 97, 100], [65, 66, 73]), ([112, 119, 114, 105, 116, 101], [65, 66, 73]), ([97, 108, 108, 111, 99], [65, 73]), ([102, 114, 101, 101], [65]), ([102, 101, 110, 99, 101], []), ([111, 117, 116, 99, 111, 109, 101], [65])]
def formCells : List Value := formNames.flatMap fun x => [.string (bs x.1), .string (bs x.2)]
def isaForm (k : Nat) : List UInt8 := (formNames.getD k ([], [])).2

/-- What the package-level variables hold. -/
structure FOK [Gl] : Prop where
  n : Gl.N = 4
  ok : Gl.ok 0 = true
  forms : ∃ e fr, Gl.B 0 = some (.cells formCells.toArray e fr)

theorem form_cell {k : Nat} (hk : k < 18) : formCells[k * 2 + 1]? = some (.string (bs (isaForm k))) := by
  have h : ((List.range 18).all fun k => match formCells[k * 2 + 1]? with | some (.string s) => decide (s.data.toList = isaForm k) | _ => false) = true := by kernel_rfl
  have := List.all_eq_true.1 h k (List.mem_range.2 hk)
  cases hc : formCells[k * 2 + 1]? with
  | none => rw [hc] at this; cases this
  | some v =>
    rw [hc] at this
    cases v with
    | string s =>
      have h2 : s.data.toList = isaForm k := by simpa using this
      rw [← h2]
      rfl
    | _ => cases this

theorem caps {k : Nat} (hk : k < 18) : decide (0 ≤ Lib.indexByte (isaForm k) 65) = useA k ∧ decide (0 ≤ Lib.indexByte (isaForm k) 66) = useB k ∧ decide (0 ≤ Lib.indexByte (isaForm k) 67) = useC k := by
  have h : ((List.range 18).all fun k => (decide (0 ≤ Lib.indexByte (isaForm k) 65) == useA k) && (decide (0 ≤ Lib.indexByte (isaForm k) 66) == useB k) && (decide (0 ≤ Lib.indexByte (isaForm k) 67) == useC k)) = true := by kernel_rfl
  have := List.all_eq_true.1 h k (List.mem_range.2 hk)
  simp only [Bool.and_eq_true, beq_iff_eq] at this
  exact ⟨this.1.1, this.1.2, this.2⟩

theorem contains_pure (s : List UInt8) (c : UInt8) (A : AW) : APure Tryz.prog 142 [.string (bs s), .string ⟨#[c]⟩] A (.bool (decide (0 ≤ Lib.indexByte s c))) := by
  refine ⟨by kernel_rfl, rfl, fun m w cargs hs hl => ?_⟩
  have e2 : cargs = #[.string (bs s), .string ⟨#[c]⟩] := by
    apply Array.ext'
    obtain ⟨v1, l1, h1, h2, h3⟩ := hl.inv_cons
    obtain ⟨v2, l2, rfl, h4, h5⟩ := h3.inv_cons
    rw [h1, h2.eq_of_scalar rfl, h4.eq_of_scalar rfl, h5.inv_nil]
  subst e2
  refine (Tryz.strings_Contains_one (bs s) c w).mono ?_
  rintro e w' ⟨rfl, rfl⟩
  exact ⟨rfl, ⟨fun _ _ => rfl, rfl, rfl, rfl, Nat.le_refl _⟩⟩

set_option maxHeartbeats 4000000 in
theorem number_call (x : InsV) (A : AW) : ACall Tryz.prog 143 [.agg (insCells x).toArray] A (fun u A' => u = .bool (numOk x.op x.imm) ∧ A = A') := by
  refine ACall.gc0 (V := .bool (numOk x.op x.imm)) (by simp) (fun hw => ?_) (by kernel_rfl)
  refine acall_intro Tryz.func143 rfl (by kernel_rfl) fun _ => ?_
  obtain ⟨op, a, b, c, imm⟩ := x
  by_cases o1 : op = 1
  · subst o1
    have he : numOk 1 imm = true := by unfold numOk; rfl
    rw [he]
    repeat' (first
    | (refine lwc fun R hR => ?_; simp [wrap_i64, wrap_u64, AW.row_get, insCells]; try simp (disch := omega) only [if_pos, if_neg, wrap_i64, wrap_u64])
    | (refine hR _ _ ?_; clear hR R) | (refine hK _ _ ?_; clear hK K) | refine lwn ?_ | refine lr ?_ | refine la ?_
    | refine wn fun K hK => ?_
    | simp only [wS]
    | refine wb ?_ | refine wr ?_ | refine wk ?_ | refine we ?_ | refine ws ?_ | refine wq ?_
    | (refine wc rfl (fun hc => ?_) (fun hc => ?_) <;> (try simp at hc) <;> (try omega))
    | (refine ib (fun hc => ?_) (fun hc => ?_) <;> (try omega) <;> (try simp (disch := omega) only [if_pos, if_neg])))
    all_goals first | exact AW.le.alloc A _ | (simp [AThen, APost, ares, aresL, ares1] <;> exact AW.le.alloc A _)
  by_cases o10 : op = 10
  · subst o10
    have he : numOk 10 imm = true := by unfold numOk; rfl
    rw [he]
    repeat' (first
    | (refine lwc fun R hR => ?_; simp [wrap_i64, wrap_u64, AW.row_get, insCells, o1]; try simp (disch := omega) only [if_pos, if_neg, wrap_i64, wrap_u64])
    | (refine hR _ _ ?_; clear hR R) | (refine hK _ _ ?_; clear hK K) | refine lwn ?_ | refine lr ?_ | refine la ?_
    | refine wn fun K hK => ?_
    | simp only [wS]
    | refine wb ?_ | refine wr ?_ | refine wk ?_ | refine we ?_ | refine ws ?_ | refine wq ?_
    | (refine wc rfl (fun hc => ?_) (fun hc => ?_) <;> (try simp at hc) <;> (try omega))
    | (refine ib (fun hc => ?_) (fun hc => ?_) <;> (try omega) <;> (try simp (disch := omega) only [if_pos, if_neg])))
    all_goals first | exact AW.le.alloc A _ | (simp [AThen, APost, ares, aresL, ares1] <;> exact AW.le.alloc A _)
  by_cases o11 : op = 11
  · subst o11
    have he : numOk 11 imm = true := by unfold numOk; rfl
    rw [he]
    repeat' (first
    | (refine lwc fun R hR => ?_; simp [wrap_i64, wrap_u64, AW.row_get, insCells, o1, o10]; try simp (disch := omega) only [if_pos, if_neg, wrap_i64, wrap_u64])
    | (refine hR _ _ ?_; clear hR R) | (refine hK _ _ ?_; clear hK K) | refine lwn ?_ | refine lr ?_ | refine la ?_
    | refine wn fun K hK => ?_
    | simp only [wS]
    | refine wb ?_ | refine wr ?_ | refine wk ?_ | refine we ?_ | refine ws ?_ | refine wq ?_
    | (refine wc rfl (fun hc => ?_) (fun hc => ?_) <;> (try simp at hc) <;> (try omega))
    | (refine ib (fun hc => ?_) (fun hc => ?_) <;> (try omega) <;> (try simp (disch := omega) only [if_pos, if_neg])))
    all_goals first | exact AW.le.alloc A _ | (simp [AThen, APost, ares, aresL, ares1] <;> exact AW.le.alloc A _)
  by_cases o12 : op = 12
  · subst o12
    have he : numOk 12 imm = true := by unfold numOk; rfl
    rw [he]
    repeat' (first
    | (refine lwc fun R hR => ?_; simp [wrap_i64, wrap_u64, AW.row_get, insCells, o1, o10, o11]; try simp (disch := omega) only [if_pos, if_neg, wrap_i64, wrap_u64])
    | (refine hR _ _ ?_; clear hR R) | (refine hK _ _ ?_; clear hK K) | refine lwn ?_ | refine lr ?_ | refine la ?_
    | refine wn fun K hK => ?_
    | simp only [wS]
    | refine wb ?_ | refine wr ?_ | refine wk ?_ | refine we ?_ | refine ws ?_ | refine wq ?_
    | (refine wc rfl (fun hc => ?_) (fun hc => ?_) <;> (try simp at hc) <;> (try omega))
    | (refine ib (fun hc => ?_) (fun hc => ?_) <;> (try omega) <;> (try simp (disch := omega) only [if_pos, if_neg])))
    all_goals first | exact AW.le.alloc A _ | (simp [AThen, APost, ares, aresL, ares1] <;> exact AW.le.alloc A _)
  by_cases o13 : op = 13
  · subst o13
    have he : numOk 13 imm = true := by unfold numOk; rfl
    rw [he]
    repeat' (first
    | (refine lwc fun R hR => ?_; simp [wrap_i64, wrap_u64, AW.row_get, insCells, o1, o10, o11, o12]; try simp (disch := omega) only [if_pos, if_neg, wrap_i64, wrap_u64])
    | (refine hR _ _ ?_; clear hR R) | (refine hK _ _ ?_; clear hK K) | refine lwn ?_ | refine lr ?_ | refine la ?_
    | refine wn fun K hK => ?_
    | simp only [wS]
    | refine wb ?_ | refine wr ?_ | refine wk ?_ | refine we ?_ | refine ws ?_ | refine wq ?_
    | (refine wc rfl (fun hc => ?_) (fun hc => ?_) <;> (try simp at hc) <;> (try omega))
    | (refine ib (fun hc => ?_) (fun hc => ?_) <;> (try omega) <;> (try simp (disch := omega) only [if_pos, if_neg])))
    all_goals first | exact AW.le.alloc A _ | (simp [AThen, APost, ares, aresL, ares1] <;> exact AW.le.alloc A _)
  by_cases o3 : op = 3
  · subst o3
    have he : numOk 3 imm = (decide (0 ≤ imm) && decide (imm < 22)) := by unfold numOk; rfl
    rw [he]
    by_cases q1 : 0 ≤ imm
    · by_cases q2 : imm < 22
      · skip
        repeat' (first
        | (refine lwc fun R hR => ?_; simp [wrap_i64, wrap_u64, AW.row_get, insCells, o1, o10, o11, o12, o13, q1, q2]; try simp (disch := omega) only [if_pos, if_neg, wrap_i64, wrap_u64])
        | (refine hR _ _ ?_; clear hR R) | (refine hK _ _ ?_; clear hK K) | refine lwn ?_ | refine lr ?_ | refine la ?_
        | refine wn fun K hK => ?_
        | simp only [wS]
        | refine wb ?_ | refine wr ?_ | refine wk ?_ | refine we ?_ | refine ws ?_ | refine wq ?_
        | (refine wc rfl (fun hc => ?_) (fun hc => ?_) <;> (try simp at hc) <;> (try omega))
        | (refine ib (fun hc => ?_) (fun hc => ?_) <;> (try omega) <;> (try simp (disch := omega) only [if_pos, if_neg])))
        all_goals first | exact AW.le.alloc A _ | (simp [AThen, APost, ares, aresL, ares1, q1, q2] <;> exact AW.le.alloc A _)
      · skip
        repeat' (first
        | (refine lwc fun R hR => ?_; simp [wrap_i64, wrap_u64, AW.row_get, insCells, o1, o10, o11, o12, o13, q1, q2]; try simp (disch := omega) only [if_pos, if_neg, wrap_i64, wrap_u64])
        | (refine hR _ _ ?_; clear hR R) | (refine hK _ _ ?_; clear hK K) | refine lwn ?_ | refine lr ?_ | refine la ?_
        | refine wn fun K hK => ?_
        | simp only [wS]
        | refine wb ?_ | refine wr ?_ | refine wk ?_ | refine we ?_ | refine ws ?_ | refine wq ?_
        | (refine wc rfl (fun hc => ?_) (fun hc => ?_) <;> (try simp at hc) <;> (try omega))
        | (refine ib (fun hc => ?_) (fun hc => ?_) <;> (try omega) <;> (try simp (disch := omega) only [if_pos, if_neg])))
        all_goals first | exact AW.le.alloc A _ | (simp [AThen, APost, ares, aresL, ares1, q1, q2] <;> exact AW.le.alloc A _)
    · skip
      repeat' (first
      | (refine lwc fun R hR => ?_; simp [wrap_i64, wrap_u64, AW.row_get, insCells, o1, o10, o11, o12, o13, q1]; try simp (disch := omega) only [if_pos, if_neg, wrap_i64, wrap_u64])
      | (refine hR _ _ ?_; clear hR R) | (refine hK _ _ ?_; clear hK K) | refine lwn ?_ | refine lr ?_ | refine la ?_
      | refine wn fun K hK => ?_
      | simp only [wS]
      | refine wb ?_ | refine wr ?_ | refine wk ?_ | refine we ?_ | refine ws ?_ | refine wq ?_
      | (refine wc rfl (fun hc => ?_) (fun hc => ?_) <;> (try simp at hc) <;> (try omega))
      | (refine ib (fun hc => ?_) (fun hc => ?_) <;> (try omega) <;> (try simp (disch := omega) only [if_pos, if_neg])))
      all_goals first | exact AW.le.alloc A _ | (simp [AThen, APost, ares, aresL, ares1, q1] <;> exact AW.le.alloc A _)
  by_cases o4 : op = 4
  · subst o4
    have he : numOk 4 imm = (decide (0 ≤ imm) && decide (imm ≤ 64)) := by unfold numOk; rfl
    rw [he]
    by_cases q1 : 0 ≤ imm
    · by_cases q2 : imm ≤ 64
      · skip
        repeat' (first
        | (refine lwc fun R hR => ?_; simp [wrap_i64, wrap_u64, AW.row_get, insCells, o1, o10, o11, o12, o13, o3, q1, q2]; try simp (disch := omega) only [if_pos, if_neg, wrap_i64, wrap_u64])
        | (refine hR _ _ ?_; clear hR R) | (refine hK _ _ ?_; clear hK K) | refine lwn ?_ | refine lr ?_ | refine la ?_
        | refine wn fun K hK => ?_
        | simp only [wS]
        | refine wb ?_ | refine wr ?_ | refine wk ?_ | refine we ?_ | refine ws ?_ | refine wq ?_
        | (refine wc rfl (fun hc => ?_) (fun hc => ?_) <;> (try simp at hc) <;> (try omega))
        | (refine ib (fun hc => ?_) (fun hc => ?_) <;> (try omega) <;> (try simp (disch := omega) only [if_pos, if_neg])))
        all_goals first | exact AW.le.alloc A _ | (simp [AThen, APost, ares, aresL, ares1, q1, q2] <;> exact AW.le.alloc A _)
      · skip
        repeat' (first
        | (refine lwc fun R hR => ?_; simp [wrap_i64, wrap_u64, AW.row_get, insCells, o1, o10, o11, o12, o13, o3, q1, q2]; try simp (disch := omega) only [if_pos, if_neg, wrap_i64, wrap_u64])
        | (refine hR _ _ ?_; clear hR R) | (refine hK _ _ ?_; clear hK K) | refine lwn ?_ | refine lr ?_ | refine la ?_
        | refine wn fun K hK => ?_
        | simp only [wS]
        | refine wb ?_ | refine wr ?_ | refine wk ?_ | refine we ?_ | refine ws ?_ | refine wq ?_
        | (refine wc rfl (fun hc => ?_) (fun hc => ?_) <;> (try simp at hc) <;> (try omega))
        | (refine ib (fun hc => ?_) (fun hc => ?_) <;> (try omega) <;> (try simp (disch := omega) only [if_pos, if_neg])))
        all_goals first | exact AW.le.alloc A _ | (simp [AThen, APost, ares, aresL, ares1, q1, q2] <;> exact AW.le.alloc A _)
    · skip
      repeat' (first
      | (refine lwc fun R hR => ?_; simp [wrap_i64, wrap_u64, AW.row_get, insCells, o1, o10, o11, o12, o13, o3, q1]; try simp (disch := omega) only [if_pos, if_neg, wrap_i64, wrap_u64])
      | (refine hR _ _ ?_; clear hR R) | (refine hK _ _ ?_; clear hK K) | refine lwn ?_ | refine lr ?_ | refine la ?_
      | refine wn fun K hK => ?_
      | simp only [wS]
      | refine wb ?_ | refine wr ?_ | refine wk ?_ | refine we ?_ | refine ws ?_ | refine wq ?_
      | (refine wc rfl (fun hc => ?_) (fun hc => ?_) <;> (try simp at hc) <;> (try omega))
      | (refine ib (fun hc => ?_) (fun hc => ?_) <;> (try omega) <;> (try simp (disch := omega) only [if_pos, if_neg])))
      all_goals first | exact AW.le.alloc A _ | (simp [AThen, APost, ares, aresL, ares1, q1] <;> exact AW.le.alloc A _)
  by_cases o5 : op = 5
  · subst o5
    have he : numOk 5 imm = (decide (0 ≤ imm) && decide (imm ≤ 64)) := by unfold numOk; rfl
    rw [he]
    by_cases q1 : 0 ≤ imm
    · by_cases q2 : imm ≤ 64
      · skip
        repeat' (first
        | (refine lwc fun R hR => ?_; simp [wrap_i64, wrap_u64, AW.row_get, insCells, o1, o10, o11, o12, o13, o3, o4, q1, q2]; try simp (disch := omega) only [if_pos, if_neg, wrap_i64, wrap_u64])
        | (refine hR _ _ ?_; clear hR R) | (refine hK _ _ ?_; clear hK K) | refine lwn ?_ | refine lr ?_ | refine la ?_
        | refine wn fun K hK => ?_
        | simp only [wS]
        | refine wb ?_ | refine wr ?_ | refine wk ?_ | refine we ?_ | refine ws ?_ | refine wq ?_
        | (refine wc rfl (fun hc => ?_) (fun hc => ?_) <;> (try simp at hc) <;> (try omega))
        | (refine ib (fun hc => ?_) (fun hc => ?_) <;> (try omega) <;> (try simp (disch := omega) only [if_pos, if_neg])))
        all_goals first | exact AW.le.alloc A _ | (simp [AThen, APost, ares, aresL, ares1, q1, q2] <;> exact AW.le.alloc A _)
      · skip
        repeat' (first
        | (refine lwc fun R hR => ?_; simp [wrap_i64, wrap_u64, AW.row_get, insCells, o1, o10, o11, o12, o13, o3, o4, q1, q2]; try simp (disch := omega) only [if_pos, if_neg, wrap_i64, wrap_u64])
        | (refine hR _ _ ?_; clear hR R) | (refine hK _ _ ?_; clear hK K) | refine lwn ?_ | refine lr ?_ | refine la ?_
        | refine wn fun K hK => ?_
        | simp only [wS]
        | refine wb ?_ | refine wr ?_ | refine wk ?_ | refine we ?_ | refine ws ?_ | refine wq ?_
        | (refine wc rfl (fun hc => ?_) (fun hc => ?_) <;> (try simp at hc) <;> (try omega))
        | (refine ib (fun hc => ?_) (fun hc => ?_) <;> (try omega) <;> (try simp (disch := omega) only [if_pos, if_neg])))
        all_goals first | exact AW.le.alloc A _ | (simp [AThen, APost, ares, aresL, ares1, q1, q2] <;> exact AW.le.alloc A _)
    · skip
      repeat' (first
      | (refine lwc fun R hR => ?_; simp [wrap_i64, wrap_u64, AW.row_get, insCells, o1, o10, o11, o12, o13, o3, o4, q1]; try simp (disch := omega) only [if_pos, if_neg, wrap_i64, wrap_u64])
      | (refine hR _ _ ?_; clear hR R) | (refine hK _ _ ?_; clear hK K) | refine lwn ?_ | refine lr ?_ | refine la ?_
      | refine wn fun K hK => ?_
      | simp only [wS]
      | refine wb ?_ | refine wr ?_ | refine wk ?_ | refine we ?_ | refine ws ?_ | refine wq ?_
      | (refine wc rfl (fun hc => ?_) (fun hc => ?_) <;> (try simp at hc) <;> (try omega))
      | (refine ib (fun hc => ?_) (fun hc => ?_) <;> (try omega) <;> (try simp (disch := omega) only [if_pos, if_neg])))
      all_goals first | exact AW.le.alloc A _ | (simp [AThen, APost, ares, aresL, ares1, q1] <;> exact AW.le.alloc A _)
  by_cases o6 : op = 6
  · subst o6
    have he : numOk 6 imm = (decide (0 ≤ imm) && decide (imm ≤ 64)) := by unfold numOk; rfl
    rw [he]
    by_cases q1 : 0 ≤ imm
    · by_cases q2 : imm ≤ 64
      · skip
        repeat' (first
        | (refine lwc fun R hR => ?_; simp [wrap_i64, wrap_u64, AW.row_get, insCells, o1, o10, o11, o12, o13, o3, o4, o5, q1, q2]; try simp (disch := omega) only [if_pos, if_neg, wrap_i64, wrap_u64])
        | (refine hR _ _ ?_; clear hR R) | (refine hK _ _ ?_; clear hK K) | refine lwn ?_ | refine lr ?_ | refine la ?_
        | refine wn fun K hK => ?_
        | simp only [wS]
        | refine wb ?_ | refine wr ?_ | refine wk ?_ | refine we ?_ | refine ws ?_ | refine wq ?_
        | (refine wc rfl (fun hc => ?_) (fun hc => ?_) <;> (try simp at hc) <;> (try omega))
        | (refine ib (fun hc => ?_) (fun hc => ?_) <;> (try omega) <;> (try simp (disch := omega) only [if_pos, if_neg])))
        all_goals first | exact AW.le.alloc A _ | (simp [AThen, APost, ares, aresL, ares1, q1, q2] <;> exact AW.le.alloc A _)
      · skip
        repeat' (first
        | (refine lwc fun R hR => ?_; simp [wrap_i64, wrap_u64, AW.row_get, insCells, o1, o10, o11, o12, o13, o3, o4, o5, q1, q2]; try simp (disch := omega) only [if_pos, if_neg, wrap_i64, wrap_u64])
        | (refine hR _ _ ?_; clear hR R) | (refine hK _ _ ?_; clear hK K) | refine lwn ?_ | refine lr ?_ | refine la ?_
        | refine wn fun K hK => ?_
        | simp only [wS]
        | refine wb ?_ | refine wr ?_ | refine wk ?_ | refine we ?_ | refine ws ?_ | refine wq ?_
        | (refine wc rfl (fun hc => ?_) (fun hc => ?_) <;> (try simp at hc) <;> (try omega))
        | (refine ib (fun hc => ?_) (fun hc => ?_) <;> (try omega) <;> (try simp (disch := omega) only [if_pos, if_neg])))
        all_goals first | exact AW.le.alloc A _ | (simp [AThen, APost, ares, aresL, ares1, q1, q2] <;> exact AW.le.alloc A _)
    · skip
      repeat' (first
      | (refine lwc fun R hR => ?_; simp [wrap_i64, wrap_u64, AW.row_get, insCells, o1, o10, o11, o12, o13, o3, o4, o5, q1]; try simp (disch := omega) only [if_pos, if_neg, wrap_i64, wrap_u64])
      | (refine hR _ _ ?_; clear hR R) | (refine hK _ _ ?_; clear hK K) | refine lwn ?_ | refine lr ?_ | refine la ?_
      | refine wn fun K hK => ?_
      | simp only [wS]
      | refine wb ?_ | refine wr ?_ | refine wk ?_ | refine we ?_ | refine ws ?_ | refine wq ?_
      | (refine wc rfl (fun hc => ?_) (fun hc => ?_) <;> (try simp at hc) <;> (try omega))
      | (refine ib (fun hc => ?_) (fun hc => ?_) <;> (try omega) <;> (try simp (disch := omega) only [if_pos, if_neg])))
      all_goals first | exact AW.le.alloc A _ | (simp [AThen, APost, ares, aresL, ares1, q1] <;> exact AW.le.alloc A _)
  by_cases o7 : op = 7
  · subst o7
    have he : numOk 7 imm = (decide (1 ≤ imm) && decide (imm ≤ 8)) := by unfold numOk; rfl
    rw [he]
    by_cases q1 : 1 ≤ imm
    · by_cases q2 : imm ≤ 8
      · skip
        repeat' (first
        | (refine lwc fun R hR => ?_; simp [wrap_i64, wrap_u64, AW.row_get, insCells, o1, o10, o11, o12, o13, o3, o4, o5, o6, q1, q2]; try simp (disch := omega) only [if_pos, if_neg, wrap_i64, wrap_u64])
        | (refine hR _ _ ?_; clear hR R) | (refine hK _ _ ?_; clear hK K) | refine lwn ?_ | refine lr ?_ | refine la ?_
        | refine wn fun K hK => ?_
        | simp only [wS]
        | refine wb ?_ | refine wr ?_ | refine wk ?_ | refine we ?_ | refine ws ?_ | refine wq ?_
        | (refine wc rfl (fun hc => ?_) (fun hc => ?_) <;> (try simp at hc) <;> (try omega))
        | (refine ib (fun hc => ?_) (fun hc => ?_) <;> (try omega) <;> (try simp (disch := omega) only [if_pos, if_neg])))
        all_goals first | exact AW.le.alloc A _ | (simp [AThen, APost, ares, aresL, ares1, q1, q2] <;> exact AW.le.alloc A _)
      · skip
        repeat' (first
        | (refine lwc fun R hR => ?_; simp [wrap_i64, wrap_u64, AW.row_get, insCells, o1, o10, o11, o12, o13, o3, o4, o5, o6, q1, q2]; try simp (disch := omega) only [if_pos, if_neg, wrap_i64, wrap_u64])
        | (refine hR _ _ ?_; clear hR R) | (refine hK _ _ ?_; clear hK K) | refine lwn ?_ | refine lr ?_ | refine la ?_
        | refine wn fun K hK => ?_
        | simp only [wS]
        | refine wb ?_ | refine wr ?_ | refine wk ?_ | refine we ?_ | refine ws ?_ | refine wq ?_
        | (refine wc rfl (fun hc => ?_) (fun hc => ?_) <;> (try simp at hc) <;> (try omega))
        | (refine ib (fun hc => ?_) (fun hc => ?_) <;> (try omega) <;> (try simp (disch := omega) only [if_pos, if_neg])))
        all_goals first | exact AW.le.alloc A _ | (simp [AThen, APost, ares, aresL, ares1, q1, q2] <;> exact AW.le.alloc A _)
    · skip
      repeat' (first
      | (refine lwc fun R hR => ?_; simp [wrap_i64, wrap_u64, AW.row_get, insCells, o1, o10, o11, o12, o13, o3, o4, o5, o6, q1]; try simp (disch := omega) only [if_pos, if_neg, wrap_i64, wrap_u64])
      | (refine hR _ _ ?_; clear hR R) | (refine hK _ _ ?_; clear hK K) | refine lwn ?_ | refine lr ?_ | refine la ?_
      | refine wn fun K hK => ?_
      | simp only [wS]
      | refine wb ?_ | refine wr ?_ | refine wk ?_ | refine we ?_ | refine ws ?_ | refine wq ?_
      | (refine wc rfl (fun hc => ?_) (fun hc => ?_) <;> (try simp at hc) <;> (try omega))
      | (refine ib (fun hc => ?_) (fun hc => ?_) <;> (try omega) <;> (try simp (disch := omega) only [if_pos, if_neg])))
      all_goals first | exact AW.le.alloc A _ | (simp [AThen, APost, ares, aresL, ares1, q1] <;> exact AW.le.alloc A _)
  by_cases o14 : op = 14
  · subst o14
    have he : numOk 14 imm = (decide (0 ≤ imm) && decide (imm < 4)) := by unfold numOk; rfl
    rw [he]
    by_cases q1 : 0 ≤ imm
    · by_cases q2 : imm < 4
      · skip
        repeat' (first
        | (refine lwc fun R hR => ?_; simp [wrap_i64, wrap_u64, AW.row_get, insCells, o1, o10, o11, o12, o13, o3, o4, o5, o6, o7, q1, q2]; try simp (disch := omega) only [if_pos, if_neg, wrap_i64, wrap_u64])
        | (refine hR _ _ ?_; clear hR R) | (refine hK _ _ ?_; clear hK K) | refine lwn ?_ | refine lr ?_ | refine la ?_
        | refine wn fun K hK => ?_
        | simp only [wS]
        | refine wb ?_ | refine wr ?_ | refine wk ?_ | refine we ?_ | refine ws ?_ | refine wq ?_
        | (refine wc rfl (fun hc => ?_) (fun hc => ?_) <;> (try simp at hc) <;> (try omega))
        | (refine ib (fun hc => ?_) (fun hc => ?_) <;> (try omega) <;> (try simp (disch := omega) only [if_pos, if_neg])))
        all_goals first | exact AW.le.alloc A _ | (simp [AThen, APost, ares, aresL, ares1, q1, q2] <;> exact AW.le.alloc A _)
      · skip
        repeat' (first
        | (refine lwc fun R hR => ?_; simp [wrap_i64, wrap_u64, AW.row_get, insCells, o1, o10, o11, o12, o13, o3, o4, o5, o6, o7, q1, q2]; try simp (disch := omega) only [if_pos, if_neg, wrap_i64, wrap_u64])
        | (refine hR _ _ ?_; clear hR R) | (refine hK _ _ ?_; clear hK K) | refine lwn ?_ | refine lr ?_ | refine la ?_
        | refine wn fun K hK => ?_
        | simp only [wS]
        | refine wb ?_ | refine wr ?_ | refine wk ?_ | refine we ?_ | refine ws ?_ | refine wq ?_
        | (refine wc rfl (fun hc => ?_) (fun hc => ?_) <;> (try simp at hc) <;> (try omega))
        | (refine ib (fun hc => ?_) (fun hc => ?_) <;> (try omega) <;> (try simp (disch := omega) only [if_pos, if_neg])))
        all_goals first | exact AW.le.alloc A _ | (simp [AThen, APost, ares, aresL, ares1, q1, q2] <;> exact AW.le.alloc A _)
    · skip
      repeat' (first
      | (refine lwc fun R hR => ?_; simp [wrap_i64, wrap_u64, AW.row_get, insCells, o1, o10, o11, o12, o13, o3, o4, o5, o6, o7, q1]; try simp (disch := omega) only [if_pos, if_neg, wrap_i64, wrap_u64])
      | (refine hR _ _ ?_; clear hR R) | (refine hK _ _ ?_; clear hK K) | refine lwn ?_ | refine lr ?_ | refine la ?_
      | refine wn fun K hK => ?_
      | simp only [wS]
      | refine wb ?_ | refine wr ?_ | refine wk ?_ | refine we ?_ | refine ws ?_ | refine wq ?_
      | (refine wc rfl (fun hc => ?_) (fun hc => ?_) <;> (try simp at hc) <;> (try omega))
      | (refine ib (fun hc => ?_) (fun hc => ?_) <;> (try omega) <;> (try simp (disch := omega) only [if_pos, if_neg])))
      all_goals first | exact AW.le.alloc A _ | (simp [AThen, APost, ares, aresL, ares1, q1] <;> exact AW.le.alloc A _)
  have he : numOk op imm = decide (imm = 0) := by
    unfold numOk
    rw [if_neg (by omega), if_neg o3, if_neg (by omega), if_neg o7, if_neg o14]
  rw [he]
  by_cases q1 : imm = 0
  · skip
    repeat' (first
    | (refine lwc fun R hR => ?_; simp [wrap_i64, wrap_u64, AW.row_get, insCells, o1, o10, o11, o12, o13, o3, o4, o5, o6, o7, o14, q1]; try simp (disch := omega) only [if_pos, if_neg, wrap_i64, wrap_u64])
    | (refine hR _ _ ?_; clear hR R) | (refine hK _ _ ?_; clear hK K) | refine lwn ?_ | refine lr ?_ | refine la ?_
    | refine wn fun K hK => ?_
    | simp only [wS]
    | refine wb ?_ | refine wr ?_ | refine wk ?_ | refine we ?_ | refine ws ?_ | refine wq ?_
    | (refine wc rfl (fun hc => ?_) (fun hc => ?_) <;> (try simp at hc) <;> (try omega))
    | (refine ib (fun hc => ?_) (fun hc => ?_) <;> (try omega) <;> (try simp (disch := omega) only [if_pos, if_neg])))
    all_goals first | exact AW.le.alloc A _ | (simp [AThen, APost, ares, aresL, ares1, q1] <;> exact AW.le.alloc A _)
  · skip
    repeat' (first
    | (refine lwc fun R hR => ?_; simp [wrap_i64, wrap_u64, AW.row_get, insCells, o1, o10, o11, o12, o13, o3, o4, o5, o6, o7, o14, q1]; try simp (disch := omega) only [if_pos, if_neg, wrap_i64, wrap_u64])
    | (refine hR _ _ ?_; clear hR R) | (refine hK _ _ ?_; clear hK K) | refine lwn ?_ | refine lr ?_ | refine la ?_
    | refine wn fun K hK => ?_
    | simp only [wS]
    | refine wb ?_ | refine wr ?_ | refine wk ?_ | refine we ?_ | refine ws ?_ | refine wq ?_
    | (refine wc rfl (fun hc => ?_) (fun hc => ?_) <;> (try simp at hc) <;> (try omega))
    | (refine ib (fun hc => ?_) (fun hc => ?_) <;> (try omega) <;> (try simp (disch := omega) only [if_pos, if_neg])))
    all_goals first | exact AW.le.alloc A _ | (simp [AThen, APost, ares, aresL, ares1, q1] <;> exact AW.le.alloc A _)
end Go.Stx
