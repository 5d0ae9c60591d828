/-
  The library's Clone at lists of integers.
-/
import Derived.Test.YtajhaafmlnoioaaKit
import Derived.Test.YtajhaafmlnoioaaCoreB
namespace Go.Stx
open Go Go.Proofs
attribute [local irreducible] AWP LWalk ACall ARounds lops nops
set_option linter.unusedVariables false
set_option linter.unusedSimpArgs false

theorem IsInts.nil_of_none {A : AW} {k : IntKind} {l : List Int} {n c : Nat} (h : IsInts A k (.slice none n c) l) : l = [] := by
  rcases h with ⟨_, h, _⟩ | ⟨p, c, row, own, u, h, _⟩
  · exact List.eq_nil_of_length_eq_zero h
  · cases h

set_option maxHeartbeats 1000000 in
theorem clone_call (v : Value) (l : List Int) (A : AW) (h : IsInts A .i64 v l) (hl : l.length < 2^39) :
    ACall Try.prog 37 [v] A (fun v' A' => OwnInts A.next A' .i64 v' l ∧ A.le A') := by
  refine acall_intro Try.func37 rfl (by kernel_rfl) fun hw => ?_
  obtain ⟨o, c, rfl, _⟩ := h.form
  cases o with
  | none =>
    have := h.nil_of_none
    subst this
    repeat' (first
    | (refine lwc fun R hR => ?_; simp [wrap_i64, wrap_u64]; try simp (disch := omega) only [if_pos, if_neg, wrap_i64, wrap_u64])
    | (refine hR _ _ ?_; clear hR R) | (refine hK _ _ ?_; clear hK K) | refine lwn ?_ | refine lr ?_ | refine la ?_
    | refine wn fun K hK => ?_
    | simp only [nops, nop, lops, lop, slimG, List.map_cons, List.map_nil, List.filterMap_cons, List.filterMap_nil, Option.map_none, Option.map_some, List.getElem?_toArray, List.getElem?_cons_zero, List.getElem?_cons_succ, Option.bind_some]
    | refine wb ?_ | refine wr ?_ | refine wk ?_ | refine we ?_ | refine ws ?_ | refine wq ?_
    | ((refine wc rfl (fun hc => ?_) (fun hc => ?_)) <;> (try simp at hc) <;> (try omega))
    | ((refine ib (fun hc => ?_) (fun hc => ?_)) <;> (try omega) <;> (try simp (disch := omega) only [if_pos, if_neg])))
    simpa using ⟨OwnInts.nil _ _ _, AW.le.refl A⟩
  | some p =>
    have l0 := AW.le.alloc A (.cells [] true 1)
    have w0 := hw.alloc (.cells [] true 1)
    have h1 := h.le l0 hw
    have hown : OwnInts A.next (A.alloc (.cells [] true 1)) .i64 (.slice (some ⟨A.next, 0, none⟩) 0 0) [] :=
      .inr ⟨⟨A.next, 0, none⟩, 0, [], rfl, Nat.le_refl _, rfl, Nat.le_refl _, AW.alloc_get_new _ _, by simp, by simp⟩
    obtain ⟨v', A', h2, h3, h4, h5, h6⟩ := append_ints (P := Try.prog) (t := 22) Try.underlying22 Try.info3 Try.zero3 rfl rfl hown h1 (by simp; omega) (by simp) (by simp) w0
    repeat' (first
    | (refine lwc fun R hR => ?_; simp [wrap_i64, wrap_u64, h2]; try simp (disch := omega) only [if_pos, if_neg, wrap_i64, wrap_u64])
    | (refine hR _ _ ?_; clear hR R) | (refine hK _ _ ?_; clear hK K) | refine lwn ?_ | refine lr ?_ | refine la ?_
    | refine wn fun K hK => ?_
    | simp only [nops, nop, lops, lop, slimG, List.map_cons, List.map_nil, List.filterMap_cons, List.filterMap_nil, Option.map_none, Option.map_some, List.getElem?_toArray, List.getElem?_cons_zero, List.getElem?_cons_succ, Option.bind_some]
    | refine wb ?_ | refine wr ?_ | refine wk ?_ | refine we ?_ | refine ws ?_ | refine wq ?_
    | ((refine wc rfl (fun hc => ?_) (fun hc => ?_)) <;> (try simp at hc) <;> (try omega))
    | ((refine ib (fun hc => ?_) (fun hc => ?_)) <;> (try omega) <;> (try simp (disch := omega) only [if_pos, if_neg])))
    simp
    exact ⟨by simpa using h3, h4 A (Nat.le_refl _) l0⟩

set_option maxHeartbeats 1000000 in
theorem cloneU_call (v : Value) (l : List Int) (A : AW) (h : IsInts A .u64 v l) (hl : l.length < 2^39) :
    ACall Try.prog 45 [v] A (fun v' A' => OwnInts A.next A' .u64 v' l ∧ A.le A') := by
  refine acall_intro Try.func45 rfl (by kernel_rfl) fun hw => ?_
  obtain ⟨o, c, rfl, _⟩ := h.form
  cases o with
  | none =>
    have := h.nil_of_none
    subst this
    repeat' (first
    | (refine lwc fun R hR => ?_; simp [wrap_i64, wrap_u64]; try simp (disch := omega) only [if_pos, if_neg, wrap_i64, wrap_u64])
    | (refine hR _ _ ?_; clear hR R) | (refine hK _ _ ?_; clear hK K) | refine lwn ?_ | refine lr ?_ | refine la ?_
    | refine wn fun K hK => ?_
    | simp only [nops, nop, lops, lop, slimG, List.map_cons, List.map_nil, List.filterMap_cons, List.filterMap_nil, Option.map_none, Option.map_some, List.getElem?_toArray, List.getElem?_cons_zero, List.getElem?_cons_succ, Option.bind_some]
    | refine wb ?_ | refine wr ?_ | refine wk ?_ | refine we ?_ | refine ws ?_ | refine wq ?_
    | ((refine wc rfl (fun hc => ?_) (fun hc => ?_)) <;> (try simp at hc) <;> (try omega))
    | ((refine ib (fun hc => ?_) (fun hc => ?_)) <;> (try omega) <;> (try simp (disch := omega) only [if_pos, if_neg])))
    simpa using ⟨OwnInts.nil _ _ _, AW.le.refl A⟩
  | some p =>
    have l0 := AW.le.alloc A (.cells [] true 1)
    have w0 := hw.alloc (.cells [] true 1)
    have h1 := h.le l0 hw
    have hown : OwnInts A.next (A.alloc (.cells [] true 1)) .u64 (.slice (some ⟨A.next, 0, none⟩) 0 0) [] :=
      .inr ⟨⟨A.next, 0, none⟩, 0, [], rfl, Nat.le_refl _, rfl, Nat.le_refl _, AW.alloc_get_new _ _, by simp, by simp⟩
    obtain ⟨v', A', h2, h3, h4, h5, h6⟩ := append_ints (P := Try.prog) (t := 57) Try.underlying57 Try.info38 Try.zero38 rfl rfl hown h1 (by simp; omega) (by simp) (by simp) w0
    repeat' (first
    | (refine lwc fun R hR => ?_; simp [wrap_i64, wrap_u64, h2]; try simp (disch := omega) only [if_pos, if_neg, wrap_i64, wrap_u64])
    | (refine hR _ _ ?_; clear hR R) | (refine hK _ _ ?_; clear hK K) | refine lwn ?_ | refine lr ?_ | refine la ?_
    | refine wn fun K hK => ?_
    | simp only [nops, nop, lops, lop, slimG, List.map_cons, List.map_nil, List.filterMap_cons, List.filterMap_nil, Option.map_none, Option.map_some, List.getElem?_toArray, List.getElem?_cons_zero, List.getElem?_cons_succ, Option.bind_some]
    | refine wb ?_ | refine wr ?_ | refine wk ?_ | refine we ?_ | refine ws ?_ | refine wq ?_
    | ((refine wc rfl (fun hc => ?_) (fun hc => ?_)) <;> (try simp at hc) <;> (try omega))
    | ((refine ib (fun hc => ?_) (fun hc => ?_)) <;> (try omega) <;> (try simp (disch := omega) only [if_pos, if_neg])))
    simp
    exact ⟨by simpa using h3, h4 A (Nat.le_refl _) l0⟩

end Go.Stx
