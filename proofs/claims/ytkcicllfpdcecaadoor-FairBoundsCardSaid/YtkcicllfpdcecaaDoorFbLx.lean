/-
  The statement FairBounds: its script.
-/
import Derived.Test.YtkcicllfpdcecaaDoorFbLw
namespace Go.Stx
open Go Go.Proofs
attribute [local irreducible] AWP LWalk ACall ARounds lops nops
set_option linter.unusedVariables false
set_option linter.unusedSimpArgs false
set_option linter.unusedSectionVars false
set_option maxRecDepth 20000
variable [Gl]

set_option maxHeartbeats 4000000 in
theorem lawScript_call (hn : Gl.N = 4) (l0 l1 l2 l3 l4 : Int) (vl : Value) (ls : List (List Int)) (A : AW) (hL : IsRows A vl ls) (hb0 : ls.length ≤ maxLen) :
    ACall Tryd.prog 4 [.agg #[.int .i64 l0, .int .i64 l1, .int .i64 l2, .int .i64 l3, .int .i64 l4], vl, .int .i64 14] A (fun u A' => ∃ (b : Bool) (c : CfgS) (oi : Option Addr) (ni ci : Nat) (vp : Value) (ok : Option Addr) (nk ck : Nat) (ps : List (List InsV)),
      u = .tuple #[scV c (.slice oi ni ci) vp (.slice ok nk ck), .bool b] ∧ IsProgs A' vp ps ∧ A.le A' ∧ A'.Wf) := by
  have hmax : maxLen = 9223372036854775807 := rfl
  rw [hmax] at hb0
  refine acall_intro Tryd.func4 rfl (by kernel_rfl) fun hw => ?_
  obtain ⟨ol, cl, rfl, _⟩ := hL.form
  repeat' (first
  | (refine lwc fun R hR => ?_; simp [wrap_i64, wrap_u64]; try simp (disch := omega) only [if_pos, if_neg, wrap_i64, wrap_u64])
  | (refine hR _ _ ?_; clear hR R) | (refine hK _ _ ?_; clear hK K) | refine lwn ?_ | refine lr ?_ | refine la ?_
  | refine wn fun K hK => ?_
  | simp only [wS]
  | refine wb ?_ | refine wr ?_ | refine wk ?_ | refine we ?_ | refine ws ?_ | refine wq ?_
  | (refine wc rfl (fun hc => ?_) (fun hc => ?_) <;> (try simp at hc) <;> (try omega))
  | (refine ib (fun hc => ?_) (fun hc => ?_) <;> (try omega) <;> (try simp (disch := omega) only [if_pos, if_neg])))
  refine awp_gen (fun A1 => A.le A1 ∧ A1.Wf ∧ A1.next = A.next + 2 ∧ A1.get A.next = some (.cells [.int .i64 l0, .int .i64 l1, .int .i64 l2, .int .i64 l3, .int .i64 l4] true 1) ∧ A1.get (A.next + 1) = some (.cells scZero true 1)) ?_ ?_
  · refine ⟨(AW.le.alloc A _).trans (AW.le.alloc _ _), (hw.alloc _).alloc _, by simp, ?_, ?_⟩
    · simp [AW.get_alloc, show ¬ A.next = A.next + 1 by omega]
    · simp [AW.get_alloc, scZero]
  rintro A1 ⟨hle1, hw1, hn1, hbA, hbR⟩
  have hL1 := hL.keeps (Keeps.of_le hle1 hw)
  refine awp_joinB (fun fr A' => A1 = A' ∧ ∃ s : Int, fr 1 = .slice ol ls.length cl ∧ fr 2 = .int .i64 14 ∧ fr 3 = .pointer (some ⟨A.next, 0, none⟩) ∧ fr 6 = .pointer (some ⟨A.next + 1, 0, none⟩) ∧ fr 8 = .int .i64 s) ?_ ?_
  · refine awp_loop (fun k fr A' => A1 = A' ∧ ∃ (i : Nat) (s : Int), k = ls.length - i ∧ i ≤ ls.length ∧ fr 1 = .slice ol ls.length cl ∧ fr 2 = .int .i64 14 ∧ fr 3 = .pointer (some ⟨A.next, 0, none⟩) ∧ fr 6 = .pointer (some ⟨A.next + 1, 0, none⟩) ∧ fr 8 = .int .i64 s ∧ fr 9 = .int .i64 i) ls.length ?_ ?_
    · exact ⟨rfl, 0, 0, rfl, Nat.zero_le _, rfl, rfl, rfl, rfl, rfl, rfl⟩
    · rintro k fr A' ⟨rfl, i, s, rfl, hi, g1, g2, g3, g6, g8, g9⟩
      by_cases hlt : i < ls.length
      · obtain ⟨q, row, own, u, hq', hrow, hcell, hu⟩ := hL1.at hlt
        subst hq'
        obtain ⟨ou, cu, hu', _⟩ := hu.form
        subst hu'
        have hwi : IntKind.i64.wrap ((i : Int) + 1) = ((i + 1 : Nat) : Int) := wrap_i64 (by omega) (by omega)
        have hst : ls.length - i = (ls.length - (i + 1)) + 1 := by omega
        obtain ⟨s2, hs2⟩ : ∃ s2, IntKind.i64.wrap (s + ls[i].length) = s2 := ⟨_, rfl⟩
        refine awp_seq ?_
        repeat' (first
        | (refine lwc fun R hR => ?_; simp [wrap_i64, wrap_u64, g1, g2, g3, g6, g8, g9, hlt, hwi, hrow, hcell, hs2, AW.row_get]; try simp (disch := omega) only [if_pos, if_neg, wrap_i64, wrap_u64])
        | (refine hR _ _ ?_; clear hR R) | (refine hK _ _ ?_; clear hK K) | refine lwn ?_ | refine lr ?_ | refine la ?_
        | refine wn fun K hK => ?_
        | simp only [wS]
        | refine wb ?_ | refine wr ?_ | refine wk ?_ | refine we ?_ | refine ws ?_ | refine wq ?_
        | (refine wc rfl (fun hc => ?_) (fun hc => ?_) <;> (try simp at hc) <;> (try omega))
        | (refine ib (fun hc => ?_) (fun hc => ?_) <;> (try omega) <;> (try simp (disch := omega) only [if_pos, if_neg])))
        refine ⟨ls.length - (i + 1), by omega, rfl, i + 1, s2, rfl, by omega, by simp [g1], by simp [g2], by simp [g3], by simp [g6], by simp, by simp⟩
      · have hil : i = ls.length := by omega
        subst hil
        refine awp_seq ?_
        repeat' (first
        | (refine lwc fun R hR => ?_; simp [wrap_i64, wrap_u64, g1, g2, g3, g6, g8, g9, hlt]; try simp (disch := omega) only [if_pos, if_neg, wrap_i64, wrap_u64])
        | (refine hR _ _ ?_; clear hR R) | (refine hK _ _ ?_; clear hK K) | refine lwn ?_ | refine lr ?_ | refine la ?_
        | refine wn fun K hK => ?_
        | simp only [wS]
        | refine wb ?_ | refine wr ?_ | refine wk ?_ | refine we ?_ | refine ws ?_ | refine wq ?_
        | (refine wc rfl (fun hc => ?_) (fun hc => ?_) <;> (try simp at hc) <;> (try omega))
        | (refine ib (fun hc => ?_) (fun hc => ?_) <;> (try omega) <;> (try simp (disch := omega) only [if_pos, if_neg])))
        exact ⟨rfl, s, by simp [g1], by simp [g2], by simp [g3], by simp [g6], by simp [g8]⟩
  rintro fr A' ⟨rfl, s, g1, g2, g3, g6, g8⟩
  have hne : ¬ A.next = A.next + 1 := by omega
  have hne2 : ¬ A.next + 1 = A.next := by omega
  have zero : A.le (A1.set (A.next + 1) (some (.cells scZero true 1))) ∧ (A1.set (A.next + 1) (some (.cells scZero true 1))).Wf := ⟨hle1.set (by omega) _, hw1.set _ (by omega)⟩
  have zz : ∀ A', (A.le A' ∧ A'.Wf) → (.tuple #[scV ⟨0, 0, 0, 0, 0, 0, 0, 0, 0, 0, 0, 0, false⟩ (.slice none 0 0) (.slice none 0 0) (.slice none 0 0), .bool false] : Value) = .tuple #[scV ⟨0, 0, 0, 0, 0, 0, 0, 0, 0, 0, 0, 0, false⟩ (.slice none 0 0) (.slice none 0 0) (.slice none 0 0), .bool false] ∧ IsProgs A' (.slice none 0 0) [] ∧ A.le A' ∧ A'.Wf :=
    fun A' h => ⟨rfl, ⟨[], .inl ⟨⟨none, rfl⟩, rfl, rfl⟩, fun i hi => by simp at hi⟩, h.1, h.2⟩
  unfold scZero at hbR zero
  by_cases h3 : 3 < ls.length
  · repeat' (first
  | (refine lwc fun R hR => ?_; simp [wrap_i64, wrap_u64, g1, g2, g3, g6, g8, h3, hbR, AW.row_get, astore]; try simp (disch := omega) only [if_pos, if_neg, wrap_i64, wrap_u64])
  | (refine hR _ _ ?_; clear hR R) | (refine hK _ _ ?_; clear hK K) | refine lwn ?_ | refine lr ?_ | refine la ?_
  | refine wn fun K hK => ?_
  | simp only [wS]
  | refine wb ?_ | refine wr ?_ | refine wk ?_ | refine we ?_ | refine ws ?_ | refine wq ?_
  | (refine wc rfl (fun hc => ?_) (fun hc => ?_) <;> (try simp at hc) <;> (try omega))
  | (refine ib (fun hc => ?_) (fun hc => ?_) <;> (try omega) <;> (try simp (disch := omega) only [if_pos, if_neg])))
    all_goals (
      refine ⟨_, by first | (simp [ares, aresL, ares1, g6, aload, AW.row_get]; done) | (simp [ares, aresL, ares1, g6, aload, AW.row_get]; rfl), false, ⟨0, 0, 0, 0, 0, 0, 0, 0, 0, 0, 0, 0, false⟩, none, 0, 0, _, none, 0, 0, [], zz _ zero⟩)
  by_cases h60 : 60 < s
  · repeat' (first
  | (refine lwc fun R hR => ?_; simp [wrap_i64, wrap_u64, g1, g2, g3, g6, g8, h3, h60, hbR, AW.row_get, astore]; try simp (disch := omega) only [if_pos, if_neg, wrap_i64, wrap_u64])
  | (refine hR _ _ ?_; clear hR R) | (refine hK _ _ ?_; clear hK K) | refine lwn ?_ | refine lr ?_ | refine la ?_
  | refine wn fun K hK => ?_
  | simp only [wS]
  | refine wb ?_ | refine wr ?_ | refine wk ?_ | refine we ?_ | refine ws ?_ | refine wq ?_
  | (refine wc rfl (fun hc => ?_) (fun hc => ?_) <;> (try simp at hc) <;> (try omega))
  | (refine ib (fun hc => ?_) (fun hc => ?_) <;> (try omega) <;> (try simp (disch := omega) only [if_pos, if_neg])))
    all_goals (
      refine ⟨_, by first | (simp [ares, aresL, ares1, g6, aload, AW.row_get]; done) | (simp [ares, aresL, ares1, g6, aload, AW.row_get]; rfl), false, ⟨0, 0, 0, 0, 0, 0, 0, 0, 0, 0, 0, 0, false⟩, none, 0, 0, _, none, 0, 0, [], zz _ zero⟩)
  obtain ⟨c, hc, cC⟩ := config_call l0 l1 l2 l3 l4
  have hm3 : (ls.length : Int).tmod 3 = ((ls.length % 3 : Nat) : Int) := by rw [Int.tmod_eq_emod_of_nonneg (by omega)]; omega
  obtain ⟨nn, hnn⟩ : ∃ nn : Nat, 1 + ls.length % 3 = nn := ⟨_, rfl⟩
  have hw3 : IntKind.i64.wrap (1 + (ls.length : Int).tmod 3) = (nn : Int) := by rw [hm3, wrap_i64 (by omega) (by omega)]; omega
  have cS := fun O O' => script_mk hn c (by omega) nn (by omega) (.slice ol ls.length cl) (.slice none 0 0) ls [] 14 true true ((A1.alloc O).set A1.next O') (hL1.keeps (Keeps.of_le (AW.le.upd A1 O O') hw1)) (by omega) (IsInts.nil _ _) (by decide) (.inl rfl)
  have hcv : c.v = .agg c.cells.toArray := rfl
  have hcw := hc
  obtain ⟨wds, ords, bas, c0, c1, c2, c3, rds, wrs, als, fre, clk, stg⟩ := c
  simp only [CfgS.v, CfgS.cells] at cC cS
  repeat' (first
  | (refine lwc fun R hR => ?_; simp [wrap_i64, wrap_u64, g1, g2, g3, g6, g8, h3, h60, hbR, hbA, hw3, AW.row_get, astore]; try simp (disch := omega) only [if_pos, if_neg, wrap_i64, wrap_u64])
  | (refine hR _ _ ?_; clear hR R) | (refine hK _ _ ?_; clear hK K) | refine lwn ?_ | refine lr ?_ | refine la ?_
  | refine wn fun K hK => ?_
  | simp only [wS]
  | (refine callK (cC _) ?_; rintro _ _ ⟨rfl, rfl⟩ _ _)
  | refine wb ?_ | refine wr ?_ | refine wk ?_ | refine we ?_ | refine ws ?_ | refine wq ?_
  | (refine wc rfl (fun hc => ?_) (fun hc => ?_) <;> (try simp at hc) <;> (try omega))
  | (refine ib (fun hc => ?_) (fun hc => ?_) <;> (try omega) <;> (try simp (disch := omega) only [if_pos, if_neg])))
  refine (cS _ _).mono ?_
  rintro u A3 ⟨oi, ni, ci, vp, ok, nk, ck, us, ps, hu, hP, hle3, hw4⟩
  subst hu
  have hle13 := (AW.le.upd A1 _ _).trans hle3
  have hbR3 := hle13.keep hw1 hbR
  have hlt3 := hw4.lt hbR3
  obtain ⟨op, cp, hvp, _⟩ := hP.own.is.form
  subst hvp
  have hn3 : A.next + 2 ≤ ((A1.alloc (.cells [.int .i64 0, .int .i64 0, .int .i64 0, .int .i64 0, .int .i64 0, .int .i64 0, .int .i64 0, .int .i64 0, .int .i64 0, .int .i64 0, .int .i64 0, .int .i64 0, .bool false] true 1)).set A1.next (some (.cells [.int .i64 wds, .int .i64 ords, .int .i64 bas, .int .i64 c0, .int .i64 c1, .int .i64 c2, .int .i64 c3, .int .i64 rds, .int .i64 wrs, .int .i64 als, .int .i64 fre, .int .i64 clk, .bool stg] true 1))).next := by
    rw [AW.set_next, AW.alloc_next]; omega
  have hQ := (hP.low hn3).other (A' := A3.set (A.next + 1) (some (.cells (scCells ⟨wds, ords, bas, c0, c1, c2, c3, rds, wrs, als, fre, clk, stg⟩ (.slice oi ni ci) (.slice op us.length cp) (.slice ok nk ck)) true 1))) (fun j h1 _ => AW.set_get_ne (show j ≠ A.next + 1 by omega)) hw4
  clear hP cS
  unfold scV scCells CfgS.cells
  simp only [List.cons_append, List.nil_append]
  repeat' (first
  | (refine lwc fun R hR => ?_; simp [wrap_i64, wrap_u64, g1, g2, g3, g6, g8, hbR3, AW.row_get, astore]; try simp (disch := omega) only [if_pos, if_neg, wrap_i64, wrap_u64])
  | (refine hR _ _ ?_; clear hR R) | (refine hK _ _ ?_; clear hK K) | refine lwn ?_ | refine lr ?_ | refine la ?_
  | refine wn fun K hK => ?_
  | simp only [wS]
  | refine wb ?_ | refine wr ?_ | refine wk ?_ | refine we ?_ | refine ws ?_ | refine wq ?_
  | (refine wc rfl (fun hc => ?_) (fun hc => ?_) <;> (try simp at hc) <;> (try omega))
  | (refine ib (fun hc => ?_) (fun hc => ?_) <;> (try omega) <;> (try simp (disch := omega) only [if_pos, if_neg])))
  all_goals (
    refine ⟨_, by first | (simp [ares, aresL, ares1, g6, aload, AW.row_get]; done) | (simp [ares, aresL, ares1, g6, aload, AW.row_get]; rfl), true, ⟨wds, ords, bas, c0, c1, c2, c3, rds, wrs, als, fre, clk, stg⟩, oi, ni, ci, _, ok, nk, ck, ps, rfl, hQ.progs, (hle1.trans hle13).set (by omega) _, hw4.set _ hlt3⟩)
end Go.Stx
