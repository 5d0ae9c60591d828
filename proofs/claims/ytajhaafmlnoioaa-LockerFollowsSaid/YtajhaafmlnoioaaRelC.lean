/-
  The program's machine that releases: how it is made.
-/
import Derived.Test.YtajhaafmlnoioaaRelB
import Derived.Test.YtajhaafmlnoioaaClone
namespace Go.Stx
open Go Go.Proofs
attribute [local irreducible] AWP LWalk ACall ARounds lops nops
set_option linter.unusedVariables false
set_option linter.unusedSimpArgs false

set_option maxRecDepth 20000 in
set_option maxHeartbeats 1000000 in
theorem newRelease_le (vi vw : Value) (l ws : List Int) (A : AW) (F : HP) (h : IsInts A .i64 vi l) (h' : IsInts A .u64 vw ws) (he : l.length = ws.length) (hl : l.length < 2^38) (hw : A.Wf) (hS : Sat A F) :
    ACall Try.prog 28 [vi, vw] A (fun v A' => ∃ b, v = .pointer (some ⟨b, 0, none⟩) ∧ Sat A' (RelH b ⟨l, ws⟩ * F) ∧ A.le A') := by
  refine acall_intro Try.func28 rfl (by kernel_rfl) fun _ => ?_
  obtain ⟨o, c, rfl, hc⟩ := h.form
  obtain ⟨o', c', rfl, hc'⟩ := h'.form
  rw [← he] at h' hc' ⊢
  rcases o with _ | p <;> rcases o' with _ | q
  all_goals
    repeat' (first
    | (refine lwc fun R hR => ?_; simp [wrap_i64, wrap_u64, asliceAt]; try simp (disch := omega) only [if_pos, if_neg, wrap_i64, wrap_u64])
    | (refine hR _ _ ?_; clear hR R) | (refine hK _ _ ?_; clear hK K) | refine lwn ?_ | refine lr ?_ | refine la ?_
    | refine wn fun K hK => ?_
    | simp only [nops, nop, lops, lop, slimG, List.map_cons, List.map_nil, List.filterMap_cons, List.filterMap_nil, Option.map_none, Option.map_some, List.getElem?_toArray, List.getElem?_cons_zero, List.getElem?_cons_succ, Option.bind_some]
    | (refine wl Try.mx [(0,0),(1,0),(2,0),(4,0),(5,0),(6,0),(3,2),(7,2),(8,0),(9,2),(10,0)] (by decide +kernel) fun K hK => ?_)
    | refine wb ?_ | refine wr ?_ | refine wk ?_ | refine we ?_ | refine ws ?_ | refine wq ?_
    | ((refine wc rfl (fun hc => ?_) (fun hc => ?_)) <;> (try simp at hc) <;> (try omega))
    | ((refine ib (fun hc => ?_) (fun hc => ?_)) <;> (try omega) <;> (try simp (disch := omega) only [if_pos, if_neg])))
    refine callK (clone_call _ l A h (by omega)) ?_
    rintro u A1 ⟨h1, h2⟩ hw1 _
    refine ⟨h2, ?_⟩
    obtain ⟨o1, c1, rfl, _⟩ := h1.is.form
    repeat' (first
    | (refine lwc fun R hR => ?_; simp [wrap_i64, wrap_u64, asliceAt]; try simp (disch := omega) only [if_pos, if_neg, wrap_i64, wrap_u64])
    | (refine hR _ _ ?_; clear hR R) | (refine hK _ _ ?_; clear hK K) | refine lwn ?_ | refine lr ?_ | refine la ?_
    | refine wn fun K hK => ?_
    | simp only [nops, nop, lops, lop, slimG, List.map_cons, List.map_nil, List.filterMap_cons, List.filterMap_nil, Option.map_none, Option.map_some, List.getElem?_toArray, List.getElem?_cons_zero, List.getElem?_cons_succ, Option.bind_some]
    | (refine wl Try.mx [(0,0),(1,0),(2,0),(4,0),(5,0),(6,0),(3,2),(7,2),(8,0),(9,2),(10,0)] (by decide +kernel) fun K hK => ?_)
    | refine wb ?_ | refine wr ?_ | refine wk ?_ | refine we ?_ | refine ws ?_ | refine wq ?_
    | ((refine wc rfl (fun hc => ?_) (fun hc => ?_)) <;> (try simp at hc) <;> (try omega))
    | ((refine ib (fun hc => ?_) (fun hc => ?_)) <;> (try omega) <;> (try simp (disch := omega) only [if_pos, if_neg])))
    refine callK (cloneU_call _ ws A1 (IsInts.le h2 hw h') (by omega)) ?_
    rintro u2 A2 ⟨h3, h4⟩ hw2 _
    refine ⟨h4, ?_⟩
    obtain ⟨o2, c2, rfl, _⟩ := h3.is.form
    repeat' (first
    | (refine lwc fun R hR => ?_; simp [wrap_i64, wrap_u64, asliceAt]; try simp (disch := omega) only [if_pos, if_neg, wrap_i64, wrap_u64])
    | (refine hR _ _ ?_; clear hR R) | (refine hK _ _ ?_; clear hK K) | refine lwn ?_ | refine lr ?_ | refine la ?_
    | refine wn fun K hK => ?_
    | simp only [nops, nop, lops, lop, slimG, List.map_cons, List.map_nil, List.filterMap_cons, List.filterMap_nil, Option.map_none, Option.map_some, List.getElem?_toArray, List.getElem?_cons_zero, List.getElem?_cons_succ, Option.bind_some]
    | (refine wl Try.mx [(0,0),(1,0),(2,0),(4,0),(5,0),(6,0),(3,2),(7,2),(8,0),(9,2),(10,0)] (by decide +kernel) fun K hK => ?_)
    | refine wb ?_ | refine wr ?_ | refine wk ?_ | refine we ?_ | refine ws ?_ | refine wq ?_
    | ((refine wc rfl (fun hc => ?_) (fun hc => ?_)) <;> (try simp at hc) <;> (try omega))
    | ((refine ib (fun hc => ?_) (fun hc => ?_)) <;> (try omega) <;> (try simp (disch := omega) only [if_pos, if_neg])))
    refine ⟨_, by first | (simp; done) | (simp; rfl), A2.next, rfl, ?_, (h2.trans h4).trans (AW.le.alloc _ _)⟩
    have hS1 := (IntsH.of_own (IntsH.of_own hS hw h2 h1) hw1 h4 h3).alloc hw2 (.cells [.slice o1 l.length c1, .slice o2 ws.length c2] true 1)
    refine RelH.close (vo := .slice o1 l.length c1) (vw := .slice o2 ws.length c2) ?_
    exact hS1.cast (by show _ = pt A2.next (.cells [.slice o1 l.length c1, .slice o2 ws.length c2] true 1) * (IntsH .i64 (.slice o1 l.length c1) l * (IntsH .u64 (.slice o2 ws.length c2) ws * F)); ac_rfl)

theorem newRelease_call (vi vw : Value) (l ws : List Int) (A : AW) (F : HP) (h : IsInts A .i64 vi l) (h' : IsInts A .u64 vw ws) (he : l.length = ws.length) (hl : l.length < 2^38) (hw : A.Wf) (hS : Sat A F) :
    ACall Try.prog 28 [vi, vw] A (fun v A' => ∃ b, v = .pointer (some ⟨b, 0, none⟩) ∧ Sat A' (RelH b ⟨l, ws⟩ * F)) :=
  (newRelease_le vi vw l ws A F h h' he hl hw hS).mono fun v A' ⟨b, h1, h2, _⟩ => ⟨b, h1, h2⟩

end Go.Stx
