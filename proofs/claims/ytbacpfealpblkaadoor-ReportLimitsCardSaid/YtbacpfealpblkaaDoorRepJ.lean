/-
  report.ParseSteps.
-/
import Derived.Test.YtbacpfealpblkaaDoorRepI
namespace Go.Stx
open Go Go.Proofs
attribute [local irreducible] AWP LWalk ACall ARounds lops nops
set_option linter.unusedVariables false
set_option linter.unusedSimpArgs false
set_option linter.unusedSectionVars false
set_option maxRecDepth 20000

theorem goL_cons_no {e : Bool} {a : BS} {r : List BS} {n : Nat} {acc : List StepV} (h : readB a = false) : goL e (a :: r) n acc = ([], n, 4) := by
  rw [goL, readF_eq, h]; rfl
theorem goL_cons_last {a : BS} {n : Nat} {acc : List StepV} : goL false [a] n acc = ([], n, 4) := by
  rw [goL]
  split
  · rfl
  · rw [if_pos ⟨rfl, rfl⟩]
theorem goL_cons_yes {e : Bool} {a : BS} {r : List BS} {n : Nat} {acc : List StepV} (h : readB a = true) (h2 : r = [] → e = true) : goL e (a :: r) n acc = goL e r (n + 1) (acc ++ [readX a]) := by
  rw [goL, readF_eq, if_pos h]
  simp only
  rw [if_neg]
  rintro ⟨h3, h4⟩
  rw [h2 h3] at h4
  cases h4

variable [Gl]

theorem cut_call' (hG : GOK) (s : BS) (A : AW) (hl : s.length < 2^30) (x y : BS) (b : Bool) (h : Lib.cut s [10] = (x, y, b)) :
    ACall Tryd.prog 19 [.string (bs s), .string (bs [10])] A fun v A' => v = .tuple #[.string (bs x), .string (bs y), .bool b] ∧ A = A' := by
  have := cut_call hG s [10] A (by omega)
  rw [h] at this
  exact this

set_option maxHeartbeats 4000000 in
theorem parseSteps_call (hG : GOK) (s : BS) (A : AW) (hl : s.length < 2^30) :
    ACall Tryd.prog 11 [.string (bs s)] A (fun v A' => Parsed A A' (parseF s) v) := by
  refine acall_intro Tryd.func11 rfl (by kernel_rfl) fun hw => ?_
  by_cases hbig : 262144 < s.length
  · have hbi : (262144 : Int) < s.length := by omega
    have e : parseF s = ([], 0, 3) := by unfold parseF; rw [if_pos hbig]
    repeat' (first
    | (refine lwc fun R hR => ?_; simp [wrap_i64, wrap_u64, bs_size, hbi]; try simp (disch := omega) only [if_pos, if_neg, wrap_i64, wrap_u64])
    | (refine hR _ _ ?_; clear hR R) | (refine hK _ _ ?_; clear hK K) | refine lwn ?_ | refine lr ?_ | refine la ?_
    | refine wn fun K hK => ?_
    | simp only [wS]
    | refine wb ?_ | refine wr ?_ | refine wk ?_ | refine we ?_ | refine ws ?_ | refine wq ?_
    | (refine wc rfl (fun hc => ?_) (fun hc => ?_) <;> (try simp at hc) <;> (try omega))
    | (refine ib (fun hc => ?_) (fun hc => ?_) <;> (try omega) <;> (try simp (disch := omega) only [if_pos, if_neg])))
    rw [e]
    simp [AThen]
    exact ⟨_, rfl, .inl ⟨⟨none, rfl⟩, rfl, rfl⟩, AW.le.refl A⟩
  have hbi : ¬ (262144 : Int) < s.length := by omega
  have ep : parseF s = goL (endsNl s) (linesOf s) 1 [] := by unfold parseF; rw [if_neg hbig]
  repeat' (first
  | (refine lwc fun R hR => ?_; simp [wrap_i64, wrap_u64, bs_size, hbi]; try simp (disch := omega) only [if_pos, if_neg, wrap_i64, wrap_u64])
  | (refine hR _ _ ?_; clear hR R) | (refine hK _ _ ?_; clear hK K) | refine lwn ?_ | refine lr ?_ | refine la ?_
  | refine wn fun K hK => ?_
  | simp only [wS]
  | refine wb ?_ | refine wr ?_ | refine wk ?_ | refine we ?_ | refine ws ?_ | refine wq ?_
  | (refine wc rfl (fun hc => ?_) (fun hc => ?_) <;> (try simp at hc) <;> (try omega))
  | (refine ib (fun hc => ?_) (fun hc => ?_) <;> (try omega) <;> (try simp (disch := omega) only [if_pos, if_neg])))
  refine awp_loop (fun k fr A' => ∃ (i : Nat) (t : BS) (u : Value) (acc : List StepV), k = t.length ∧ i + t.length ≤ s.length ∧ fr 0 = .string (bs t) ∧ fr 5 = u ∧ fr 6 = .int .i64 ((i : Int) + 1) ∧
    OwnSl A.next A' 9 u acc.length (acc.flatMap stepCells) ∧ acc.length = i ∧ A.le A' ∧ A'.Wf ∧ goL (endsNl s) (linesOf s) 1 [] = goL (endsNl s) (linesOf t) (i + 1) acc ∧ (t ≠ [] → endsNl s = endsNl t)) s.length ?_ ?_
  · exact ⟨0, s, _, [], rfl, by simp, rfl, rfl, rfl, OwnSl.nil _ _ _, rfl, AW.le.refl A, hw, rfl, fun _ => rfl⟩
  rintro k fr A' ⟨i, t, u, acc, rfl, hi, g0, rfl, g6, hown, hacc, hle, hw', hgo, hee⟩
  by_cases ht : t = []
  · subst ht
    rw [linesOf, goL] at hgo
    repeat' (first
    | (refine lwc fun R hR => ?_; simp [wrap_i64, wrap_u64, g0, g6, mk_bs, bs_toList]; try simp (disch := omega) only [if_pos, if_neg, wrap_i64, wrap_u64])
    | (refine hR _ _ ?_; clear hR R) | (refine hK _ _ ?_; clear hK K) | refine lwn ?_ | refine lr ?_ | refine la ?_
    | refine wn fun K hK => ?_
    | simp only [wS]
    | refine wb ?_ | refine wr ?_ | refine wk ?_ | refine we ?_ | refine ws ?_ | refine wq ?_
    | (refine wc rfl (fun hc => ?_) (fun hc => ?_) <;> (try simp at hc) <;> (try omega))
    | (refine ib (fun hc => ?_) (fun hc => ?_) <;> (try omega) <;> (try simp (disch := omega) only [if_pos, if_neg])))
    rw [ep, hgo]
    simp [AThen]
    exact ⟨_, rfl, hown.is, hle⟩
  have hee := hee ht
  have hj1 : IntKind.i64.wrap ((i : Int) + 1 + 1) = (i : Int) + 1 + 1 := wrap_i64 (by omega) (by omega)
  rcases at_first 10 t with hno | ⟨a, r, rfl, hno⟩
  · have hcut := cut_call' hG t A' (by omega) t [] false (cut_no 10 t hno)
    have hparse := parse_call hG t A' (by omega)
    have eg : goL (endsNl s) (linesOf s) 1 [] = ([], i + 1, 4) := by
      rw [hgo, lines_none t hno ht, show endsNl s = false from hee.trans (endsNl_none t hno)]
      exact goL_cons_last
    have hte : t.isEmpty = false := by cases t with | nil => exact absurd rfl ht | cons x y => rfl
    simp only [stepVal, stepCells] at hparse
    rw [ep, eg]
    cases hrb : readB t <;> rw [hrb] at hparse
    all_goals (
      repeat' (first
      | (refine lwc fun R hR => ?_; simp [wrap_i64, wrap_u64, g0, g6, mk_bs, bs_toList, hte, astore, AW.row_get]; try simp (disch := omega) only [if_pos, if_neg, wrap_i64, wrap_u64])
      | (refine hR _ _ ?_; clear hR R) | (refine hK _ _ ?_; clear hK K) | refine lwn ?_ | refine lr ?_ | refine la ?_
      | refine wn fun K hK => ?_
      | simp only [wS]
      | (refine callK (hcut) ?_; rintro _ _ ⟨rfl, rfl⟩ _ _)
      | (refine callK (hparse) ?_; rintro _ _ ⟨rfl, rfl⟩ _ _)
      | refine wb ?_ | refine wr ?_ | refine wk ?_ | refine we ?_ | refine ws ?_ | refine wq ?_
      | (refine wc rfl (fun hc => ?_) (fun hc => ?_) <;> (try simp at hc) <;> (try omega))
      | (refine ib (fun hc => ?_) (fun hc => ?_) <;> (try omega) <;> (try simp (disch := omega) only [if_pos, if_neg])))
      simp [AThen, ABlock]
      exact ⟨_, by simp, .inl ⟨⟨none, rfl⟩, rfl, rfl⟩, hle.trans ((AW.le.alloc _ _).set (Nat.le_refl _) _)⟩)
  · have hlt : (a ++ 10 :: r).length < 2 ^ 30 := by omega
    have hcut := cut_call' hG (a ++ 10 :: r) A' hlt a r true (cut_yes 10 a r hno)
    have hparse := parse_call hG a A' (by simp at hlt; omega)
    have hte : (a ++ 10 :: r).isEmpty = false := by cases a <;> rfl
    rw [lines_hit r a hno] at hgo
    have hee2 : endsNl s = if r = [] then true else endsNl r := by rw [hee, endsNl_hit a r]
    cases hrb : readB a with
    | false =>
      rw [hrb] at hparse
      have eg := hgo.trans (goL_cons_no hrb)
      simp only [stepVal, stepCells] at hparse
      rw [ep, eg]
      generalize a ++ 10 :: r = t at *
      repeat' (first
      | (refine lwc fun R hR => ?_; simp [wrap_i64, wrap_u64, g0, g6, mk_bs, bs_toList, hte, astore, AW.row_get]; try simp (disch := omega) only [if_pos, if_neg, wrap_i64, wrap_u64])
      | (refine hR _ _ ?_; clear hR R) | (refine hK _ _ ?_; clear hK K) | refine lwn ?_ | refine lr ?_ | refine la ?_
      | refine wn fun K hK => ?_
      | simp only [wS]
      | (refine callK (hcut) ?_; rintro _ _ ⟨rfl, rfl⟩ _ _)
      | (refine callK (hparse) ?_; rintro _ _ ⟨rfl, rfl⟩ _ _)
      | refine wb ?_ | refine wr ?_ | refine wk ?_ | refine we ?_ | refine ws ?_ | refine wq ?_
      | (refine wc rfl (fun hc => ?_) (fun hc => ?_) <;> (try simp at hc) <;> (try omega))
      | (refine ib (fun hc => ?_) (fun hc => ?_) <;> (try omega) <;> (try simp (disch := omega) only [if_pos, if_neg])))
      simp [AThen, ABlock]
      exact ⟨_, by simp, .inl ⟨⟨none, rfl⟩, rfl, rfl⟩, hle.trans ((AW.le.alloc _ _).set (Nat.le_refl _) _)⟩
    | true =>
      rw [hrb, parseX_good hrb] at hparse
      have eg := hgo.trans (goL_cons_yes hrb fun e => by rw [hee2, if_pos (lines_nil.1 e)])
      obtain ⟨v', A2, e1, e2, e3, e4, e5⟩ := append_one (size := 9) (P := Tryd.prog) (t := 22) (A := (A'.alloc (.cells [.int .i64 0, .int .i64 0, .int .i64 0, .int .i64 0, .int .i64 0, .int .i64 0, .int .u64 0, .int .u64 0, .bool false] true 1)).set A'.next (some (.cells (stepCells (readX a)) true 1))) (stepCells (readX a))
        Tryd.underlying22 Tryd.info40 Tryd.zero40 rfl rfl (by decide) rfl rfl (hown.le ((AW.le.alloc A' _).set (Nat.le_refl _) _) hw') (by omega) (by simp) (by have := hle.next; simp; omega) ((hw'.alloc _).set _ (by simp))
      simp only [AW.set_next, AW.alloc_next, stepCells] at e1
      simp only [stepVal, stepCells] at hparse
      have hrl : r.length < (a ++ 10 :: r).length := by simp; omega
      generalize a ++ 10 :: r = t at *
      repeat' (first
      | (refine lwc fun R hR => ?_; simp [wrap_i64, wrap_u64, g0, g6, mk_bs, bs_toList, hte, hj1, astore, AW.row_get, e1]; try simp (disch := omega) only [if_pos, if_neg, wrap_i64, wrap_u64])
      | (refine hR _ _ ?_; clear hR R) | (refine hK _ _ ?_; clear hK K) | refine lwn ?_ | refine lr ?_ | refine la ?_
      | refine wn fun K hK => ?_
      | simp only [wS]
      | (refine callK (hcut) ?_; rintro _ _ ⟨rfl, rfl⟩ _ _)
      | (refine callK (hparse) ?_; rintro _ _ ⟨rfl, rfl⟩ _ _)
      | refine wb ?_ | refine wr ?_ | refine wk ?_ | refine we ?_ | refine ws ?_ | refine wq ?_
      | (refine wc rfl (fun hc => ?_) (fun hc => ?_) <;> (try simp at hc) <;> (try omega))
      | (refine ib (fun hc => ?_) (fun hc => ?_) <;> (try omega) <;> (try simp (disch := omega) only [if_pos, if_neg])))
      refine ⟨r.length, hrl, i + 1, r, v', acc ++ [readX a], rfl, by omega, ?_, ?_, ?_, by simpa using e2, by simp [hacc], e3 A (Nat.le_refl _) (hle.trans ((AW.le.alloc A' _).set (Nat.le_refl _) _)), e4, eg, ?_⟩
      · simp
      · simp
      · simp
      · intro hr
        rw [hee2, if_neg hr]

end Go.Stx
