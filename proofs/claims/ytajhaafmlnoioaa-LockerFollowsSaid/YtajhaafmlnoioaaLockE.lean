/-
  New locks, and what they hold.
-/
import Derived.Test.YtajhaafmlnoioaaLockA
import Derived.Test.YtajhaafmlnoioaaStart
namespace Go.Stx
open Go Go.Proofs
attribute [local irreducible] AWP LWalk ACall ARounds lops nops
set_option linter.unusedVariables false
set_option linter.unusedSimpArgs false

theorem sorted_length (l : List Int) : (sortedF l).length ≤ l.length := by
  have := compact_length (sortI l)
  simpa [sortedF, sortI] using this

theorem newLock_call (t : Int) (vi : Value) (l : List Int) (A : AW) (F : HP) (h : IsInts A .i64 vi l) (hl : l.length < 2^38) (hw : A.Wf) (hS : Sat A F) :
    ACall Try.prog 18 [.int .i64 t, vi] A (fun v A' => ∃ b, v = .pointer (some ⟨b, 0, none⟩) ∧ Sat A' (LockH b ⟨t, sortedF l, [], 0, false⟩ * F)) := by
  refine acall_intro Try.func18 rfl (by kernel_rfl) fun _ => ?_
  repeat' (first
  | (refine lwc fun R hR => ?_; simp [wrap_i64, wrap_u64]; try simp (disch := omega) only [if_pos, if_neg, wrap_i64, wrap_u64])
  | (refine hR _ _ ?_; clear hR R) | (refine hK _ _ ?_; clear hK K) | refine lwn ?_ | refine lr ?_ | refine la ?_
  | refine wn fun K hK => ?_
  | simp only [nops, nop, lops, lop, slimG, List.map_cons, List.map_nil, List.filterMap_cons, List.filterMap_nil, Option.map_none, Option.map_some, List.getElem?_toArray, List.getElem?_cons_zero, List.getElem?_cons_succ, Option.bind_some]
  | refine wb ?_ | refine wr ?_ | refine wk ?_ | refine we ?_ | refine ws ?_ | refine wq ?_
  | ((refine wc rfl (fun hc => ?_) (fun hc => ?_)) <;> (try simp at hc) <;> (try omega))
  | ((refine ib (fun hc => ?_) (fun hc => ?_)) <;> (try omega) <;> (try simp (disch := omega) only [if_pos, if_neg])))
  refine callK (sorted_call vi l A h (by omega)) ?_
  rintro u A1 ⟨h1, h2⟩ hw1 _
  obtain ⟨o, c, rfl, _⟩ := h1.is.form
  repeat' (first
  | (refine lwc fun R hR => ?_; simp [wrap_i64, wrap_u64]; try simp (disch := omega) only [if_pos, if_neg, wrap_i64, wrap_u64])
  | (refine hR _ _ ?_; clear hR R) | (refine hK _ _ ?_; clear hK K) | refine lwn ?_ | refine lr ?_ | refine la ?_
  | refine wn fun K hK => ?_
  | simp only [nops, nop, lops, lop, slimG, List.map_cons, List.map_nil, List.filterMap_cons, List.filterMap_nil, Option.map_none, Option.map_some, List.getElem?_toArray, List.getElem?_cons_zero, List.getElem?_cons_succ, Option.bind_some]
  | refine wb ?_ | refine wr ?_ | refine wk ?_ | refine we ?_ | refine ws ?_ | refine wq ?_
  | ((refine wc rfl (fun hc => ?_) (fun hc => ?_)) <;> (try simp at hc) <;> (try omega))
  | ((refine ib (fun hc => ?_) (fun hc => ?_)) <;> (try omega) <;> (try simp (disch := omega) only [if_pos, if_neg])))
  refine ⟨_, by first | (simp; done) | (simp; rfl), A1.next, rfl, ?_⟩
  have hS1 := (IntsH.of_own hS hw h2 h1).alloc hw1 (.cells [.int .i64 t, .slice o (sortedF l).length c, .slice none 0 0, .int .u64 0, .bool false] true 1)
  refine LockH.close (vo := .slice o (sortedF l).length c) (vw := .slice none 0 0) ?_
  have h0 := IntsH.nil (k := .u64) hS1
  exact h0.cast (by show _ = pt A1.next (.cells [.int .i64 t, .slice o (sortedF l).length c, .slice none 0 0, .int .u64 0, .bool false] true 1) * (IntsH .i64 (.slice o (sortedF l).length c) (sortedF l) * (IntsH .u64 (.slice none 0 0) [] * F)); ac_rfl)

theorem lockOld_call (b : Nat) (s : LockS) (A : AW) (F : HP) (h : Sat A (LockH b s * F)) (hl : s.old.length < 2^38) :
    ACall Try.prog 24 [.pointer (some ⟨b, 0, none⟩)] A (fun v A' => OwnInts A.next A' .u64 v s.old ∧ A.le A') := by
  refine acall_intro Try.func24 rfl (by kernel_rfl) fun hw => ?_
  obtain ⟨vo, vw, hS⟩ := LockH.open h
  have hg := hS.get
  repeat' (first
  | (refine lwc fun R hR => ?_; simp [wrap_i64, wrap_u64, hg, AW.row_get]; try simp (disch := omega) only [if_pos, if_neg, wrap_i64, wrap_u64])
  | (refine hR _ _ ?_; clear hR R) | (refine hK _ _ ?_; clear hK K) | refine lwn ?_ | refine lr ?_ | refine la ?_
  | refine wn fun K hK => ?_
  | simp only [nops, nop, lops, lop, slimG, List.map_cons, List.map_nil, List.filterMap_cons, List.filterMap_nil, Option.map_none, Option.map_some, List.getElem?_toArray, List.getElem?_cons_zero, List.getElem?_cons_succ, Option.bind_some]
  | refine wb ?_ | refine wr ?_ | refine wk ?_ | refine we ?_ | refine ws ?_ | refine wq ?_
  | ((refine wc rfl (fun hc => ?_) (fun hc => ?_)) <;> (try simp at hc) <;> (try omega))
  | ((refine ib (fun hc => ?_) (fun hc => ?_)) <;> (try omega) <;> (try simp (disch := omega) only [if_pos, if_neg])))
  refine callK (cloneU_call vw s.old A (IntsH.is hS.right.right) (by omega)) ?_
  rintro u A1 ⟨h1, h2⟩ hw1 _
  repeat' (first
  | (refine lwc fun R hR => ?_; simp [wrap_i64, wrap_u64]; try simp (disch := omega) only [if_pos, if_neg, wrap_i64, wrap_u64])
  | (refine hR _ _ ?_; clear hR R) | (refine hK _ _ ?_; clear hK K) | refine lwn ?_ | refine lr ?_ | refine la ?_
  | refine wn fun K hK => ?_
  | simp only [nops, nop, lops, lop, slimG, List.map_cons, List.map_nil, List.filterMap_cons, List.filterMap_nil, Option.map_none, Option.map_some, List.getElem?_toArray, List.getElem?_cons_zero, List.getElem?_cons_succ, Option.bind_some]
  | refine wb ?_ | refine wr ?_ | refine wk ?_ | refine we ?_ | refine ws ?_ | refine wq ?_
  | ((refine wc rfl (fun hc => ?_) (fun hc => ?_)) <;> (try simp at hc) <;> (try omega))
  | ((refine ib (fun hc => ?_) (fun hc => ?_)) <;> (try omega) <;> (try simp (disch := omega) only [if_pos, if_neg])))
  exact ⟨_, by first | (simp; done) | (simp; rfl), h1, h2⟩

end Go.Stx
