/-
  The reference's ParseSteps.
-/
import Derived.Test.YtbacpfealpblkaaDoorRepF
namespace Go.Stx
open Go Go.Proofs
attribute [local irreducible] AWP LWalk ACall ARounds lops nops
set_option linter.unusedVariables false
set_option linter.unusedSimpArgs false
set_option linter.unusedSectionVars false
set_option maxRecDepth 20000

def Parsed (A A' : AW) (r : List StepV × Nat × Nat) (v : Value) : Prop := ∃ u, v = .tuple #[u, .int .i64 r.2.1, .int .i64 r.2.2] ∧ IsSteps A' u r.1 ∧ A.le A'

theorem lines_len : ∀ s : BS, (linesOf s).length ≤ s.length
  | [] => by simp [linesOf]
  | b :: s => by
    have ih := lines_len s
    unfold linesOf
    split
    · simp; omega
    · split
      · rename_i h t e
        rw [e] at ih
        simp at ih ⊢
        omega
      · simp
theorem lines_le : ∀ (s : BS) (y : BS), y ∈ linesOf s → y.length ≤ s.length
  | [], y, h => by simp [linesOf] at h
  | b :: s, y, h => by
    have ih := lines_le s
    unfold linesOf at h
    split at h
    · simp at h
      rcases h with rfl | h
      · simp
      · have := ih y h; simp; omega
    · split at h
      · rename_i x t he
        simp at h
        rcases h with rfl | h
        · have := ih x (by rw [he]; simp); simp; omega
        · have := ih y (by rw [he]; simp [h]); simp; omega
      · simp at h
        subst h; simp

theorem endsNl_last {s : BS} (h : s.length - 1 < s.length) : endsNl s = decide (s[s.length - 1] = 10) := by
  unfold endsNl
  rw [List.getLast?_eq_getElem?, List.getElem?_eq_getElem h]
  simp

theorem goL_no {e : Bool} {L : List BS} {i n : Nat} {acc : List StepV} (hi : i < L.length) (h : readB L[i] = false) : goL e (L.drop i) n acc = ([], n, 4) := by
  rw [List.drop_eq_getElem_cons hi, goL, readF_eq, h]
  rfl
theorem goL_last {e : Bool} {L : List BS} {i n : Nat} {acc : List StepV} (hi : i < L.length) (h : i + 1 = L.length) (he : e = false) : goL e (L.drop i) n acc = ([], n, 4) := by
  rw [List.drop_eq_getElem_cons hi, goL, readF_eq]
  by_cases hr : readB L[i] = true
  · rw [if_pos hr]
    simp only
    rw [if_pos ⟨List.drop_of_length_le (by omega), he⟩]
  · rw [if_neg hr]
theorem goL_step {e : Bool} {L : List BS} {i n : Nat} {acc : List StepV} (hi : i < L.length) (h : readB L[i] = true) (h2 : i + 1 = L.length → e = true) : goL e (L.drop i) n acc = goL e (L.drop (i + 1)) (n + 1) (acc ++ [readX L[i]]) := by
  conv => lhs; rw [List.drop_eq_getElem_cons hi]
  rw [goL, readF_eq, if_pos h]
  simp only
  rw [if_neg]
  rintro ⟨h3, h4⟩
  have : i + 1 = L.length := by have := congrArg List.length h3; simp at this; omega
  rw [h2 this] at h4
  cases h4

variable [Gl]

set_option maxHeartbeats 4000000 in
theorem refParse_call (hG : GOK) (s : BS) (A : AW) (hl : s.length < 2^38) :
    ACall Tryd.prog 13 [.string (bs s)] A (fun v A' => Parsed A A' (parseF s) v) := by
  refine acall_intro Tryd.func13 rfl (by kernel_rfl) fun hw => ?_
  by_cases hbig : 262144 < s.length
  · have hbi : (262144 : Int) < s.length := by omega
    have e : parseF s = ([], 0, 3) := by unfold parseF; rw [if_pos hbig]
    repeat' (first
    | (refine lwc fun R hR => ?_; simp [wrap_i64, wrap_u64, bs_size, hbi]; try simp (disch := omega) only [if_pos, if_neg, wrap_i64, wrap_u64])
    | (refine hR _ _ ?_; clear hR R) | (refine hK _ _ ?_; clear hK K) | refine lwn ?_ | refine lr ?_ | refine la ?_
    | refine wn fun K hK => ?_
    | simp only [wS]
    | refine wb ?_ | refine wr ?_ | refine wk ?_ | refine we ?_ | refine ws ?_ | refine wq ?_
    | (refine wc rfl (fun hc => ?_) (fun hc => ?_) <;> (try simp at hc) <;> (try omega))
    | (refine ib (fun hc => ?_) (fun hc => ?_) <;> (try omega) <;> (try simp (disch := omega) only [if_pos, if_neg])))
    rw [e]
    simp [AThen]
    exact ⟨_, rfl, .inl ⟨⟨none, rfl⟩, rfl, rfl⟩, AW.le.refl A⟩
  have hbi : ¬ (262144 : Int) < s.length := by omega
  have ep : parseF s = goL (endsNl s) (linesOf s) 1 [] := by unfold parseF; rw [if_neg hbig]
  repeat' (first
  | (refine lwc fun R hR => ?_; simp [wrap_i64, wrap_u64, bs_size, hbi]; try simp (disch := omega) only [if_pos, if_neg, wrap_i64, wrap_u64])
  | (refine hR _ _ ?_; clear hR R) | (refine hK _ _ ?_; clear hK K) | refine lwn ?_ | refine lr ?_ | refine la ?_
  | refine wn fun K hK => ?_
  | simp only [wS]
  | refine wb ?_ | refine wr ?_ | refine wk ?_ | refine we ?_ | refine ws ?_ | refine wq ?_
  | (refine wc rfl (fun hc => ?_) (fun hc => ?_) <;> (try simp at hc) <;> (try omega))
  | (refine ib (fun hc => ?_) (fun hc => ?_) <;> (try omega) <;> (try simp (disch := omega) only [if_pos, if_neg])))
  refine callK (lines_call s _ hl) ?_
  rintro lv A1 ⟨h1, l1⟩ w1 n1
  obtain ⟨o, c, rfl, hc⟩ := h1.shape
  have hll := lines_len s
  have hle1 := lines_le s
  generalize eL : linesOf s = L at *
  repeat' (first
  | (refine lwc fun R hR => ?_; simp [wrap_i64, wrap_u64]; try simp (disch := omega) only [if_pos, if_neg, wrap_i64, wrap_u64])
  | (refine hR _ _ ?_; clear hR R) | (refine hK _ _ ?_; clear hK K) | refine lwn ?_ | refine lr ?_ | refine la ?_
  | refine wn fun K hK => ?_
  | simp only [wS]
  | refine wb ?_ | refine wr ?_ | refine wk ?_ | refine we ?_ | refine ws ?_ | refine wq ?_
  | (refine wc rfl (fun hc => ?_) (fun hc => ?_) <;> (try simp at hc) <;> (try omega))
  | (refine ib (fun hc => ?_) (fun hc => ?_) <;> (try omega) <;> (try simp (disch := omega) only [if_pos, if_neg])))
  refine awp_loop (fun k fr A' => ∃ (i : Nat) (u : Value) (acc : List StepV), k = L.length - i ∧ i ≤ L.length ∧ fr 0 = .string (bs s) ∧ fr 5 = .slice o L.length c ∧ fr 6 = u ∧ fr 7 = .int .i64 i ∧
    OwnSl A1.next A' 9 u acc.length (acc.flatMap stepCells) ∧ acc.length = i ∧ A1.le A' ∧ A'.Wf ∧ goL (endsNl s) L 1 [] = goL (endsNl s) (L.drop i) (i + 1) acc) L.length ?_ ?_
  · exact ⟨0, _, [], by simp, by simp, rfl, rfl, rfl, rfl, OwnSl.nil _ _ _, rfl, AW.le.refl A1, w1, by simp⟩
  rintro k fr A' ⟨i, u, acc, rfl, hi, g0, g5, rfl, g7, hown, hacc, hle, hw', hgo⟩
  by_cases hlt : i < L.length
  case neg =>
    have hil : i = L.length := by omega
    repeat' (first
    | (refine lwc fun R hR => ?_; simp [wrap_i64, wrap_u64, g0, g5, g7, hlt]; try simp (disch := omega) only [if_pos, if_neg, wrap_i64, wrap_u64])
    | (refine hR _ _ ?_; clear hR R) | (refine hK _ _ ?_; clear hK K) | refine lwn ?_ | refine lr ?_ | refine la ?_
    | refine wn fun K hK => ?_
    | simp only [wS]
    | refine wb ?_ | refine wr ?_ | refine wk ?_ | refine we ?_ | refine ws ?_ | refine wq ?_
    | (refine wc rfl (fun hc => ?_) (fun hc => ?_) <;> (try simp at hc) <;> (try omega))
    | (refine ib (fun hc => ?_) (fun hc => ?_) <;> (try omega) <;> (try simp (disch := omega) only [if_pos, if_neg])))
    rw [hil, List.drop_length, goL] at hgo
    rw [ep, hgo]
    simp [AThen]
    exact ⟨_, rfl, hown.is, l1.trans hle⟩
  have hj1 : IntKind.i64.wrap ((i : Int) + 1) = ((i + 1 : Nat) : Int) := wrap_i64 (by omega) (by omega)
  have hLl : IntKind.i64.wrap ((L.length : Int) - 1) = (L.length : Int) - 1 := wrap_i64 (by omega) (by omega)
  have hsl : IntKind.i64.wrap ((s.length : Int) - 1) = (s.length : Int) - 1 := wrap_i64 (by omega) (by omega)
  obtain ⟨p, row, rfl, hrow, hcell⟩ := (IsSl.le hle w1 h1.is).word hlt
  have hlw : (L[i]).length < 2 ^ 38 := by have := hle1 _ (List.getElem_mem hlt); omega
  have hread := fun A => read_call hG L[i] A hlw
  have hsp : s.length - 1 < s.length := by omega
  have hend := endsNl_last hsp
  have hts : ((s.length : Int) - 1).toNat = s.length - 1 := by omega
  have hge : (0 : Int) ≤ (s.length : Int) - 1 := by omega
  simp only [stepVal, stepCells] at hread
  cases hrb : readB L[i] with
  | false =>
    have eg := hgo.trans (goL_no hlt hrb)
    simp only [hrb] at hread
    repeat' (first
    | (refine lwc fun R hR => ?_; simp [wrap_i64, wrap_u64, g0, g5, g7, hlt, hrow, hcell, hj1, hLl, hsl, astore, AW.row_get]; try simp (disch := omega) only [if_pos, if_neg, wrap_i64, wrap_u64])
    | (refine hR _ _ ?_; clear hR R) | (refine hK _ _ ?_; clear hK K) | refine lwn ?_ | refine lr ?_ | refine la ?_
    | refine wn fun K hK => ?_
    | simp only [wS]
    | (refine callK (hread _) ?_; rintro _ _ ⟨rfl, rfl⟩ _ _)
    | refine wb ?_ | refine wr ?_ | refine wk ?_ | refine we ?_ | refine ws ?_ | refine wq ?_
    | (refine wc rfl (fun hc => ?_) (fun hc => ?_) <;> (try simp at hc) <;> (try omega))
    | (refine ib (fun hc => ?_) (fun hc => ?_) <;> (try omega) <;> (try simp (disch := omega) only [if_pos, if_neg])))
    rw [ep, eg]
    simp [AThen, ABlock]
    exact ⟨_, by simp, .inl ⟨⟨none, rfl⟩, rfl, rfl⟩, (l1.trans hle).trans (((AW.le.alloc _ _)).set (Nat.le_refl _) _)⟩
  | true =>
    simp only [hrb] at hread
    by_cases hstop : i + 1 = L.length ∧ ¬ s[s.length - 1] = 10
    · obtain ⟨hs1, hs2⟩ := hstop
      have eg := hgo.trans (goL_last hlt hs1 (by rw [hend]; exact decide_eq_false hs2))
      have hii : ((i : Int) = (L.length : Int) - 1) = True := eq_true (by omega)
      have hxn : ¬ ((s[s.length - 1].toNat : Int) = 10) := fun e => hs2 (UInt8.toNat_inj.1 (by have : (10 : UInt8).toNat = 10 := rfl; omega))
      repeat' (first
      | (refine lwc fun R hR => ?_; simp [wrap_i64, wrap_u64, g0, g5, g7, hlt, hrow, hcell, hj1, hLl, hsl, hii, hxn, hts, hge, hsp, bs_size, bs_elem, astore, AW.row_get]; try simp (disch := omega) only [if_pos, if_neg, wrap_i64, wrap_u64])
      | (refine hR _ _ ?_; clear hR R) | (refine hK _ _ ?_; clear hK K) | refine lwn ?_ | refine lr ?_ | refine la ?_
      | refine wn fun K hK => ?_
      | simp only [wS]
      | (refine callK (hread _) ?_; rintro _ _ ⟨rfl, rfl⟩ _ _)
      | refine wb ?_ | refine wr ?_ | refine wk ?_ | refine we ?_ | refine ws ?_ | refine wq ?_
      | (refine wc rfl (fun hc => ?_) (fun hc => ?_) <;> (try simp at hc) <;> (try omega))
      | (refine ib (fun hc => ?_) (fun hc => ?_) <;> (try omega) <;> (try simp (disch := omega) only [if_pos, if_neg])))
      rw [ep, eg]
      simp [AThen, ABlock]
      exact ⟨_, by simp, .inl ⟨⟨none, rfl⟩, rfl, rfl⟩, (l1.trans hle).trans (((AW.le.alloc _ _)).set (Nat.le_refl _) _)⟩
    · have hgo1 : i + 1 = L.length → endsNl s = true := fun e => by
        rw [hend]
        apply decide_eq_true
        exact Classical.byContradiction fun h => hstop ⟨e, h⟩
      have eg := hgo.trans (goL_step hlt hrb hgo1)
      obtain ⟨v', A2, e1, e2, e3, e4, e5⟩ := append_one (size := 9) (P := Tryd.prog) (t := 22) (A := (A'.alloc (.cells [.int .i64 0, .int .i64 0, .int .i64 0, .int .i64 0, .int .i64 0, .int .i64 0, .int .u64 0, .int .u64 0, .bool false] true 1)).set A'.next (some (.cells (stepCells (readX L[i])) true 1))) (stepCells (readX L[i]))
        Tryd.underlying22 Tryd.info40 Tryd.zero40 rfl rfl (by decide) rfl rfl (hown.le ((AW.le.alloc A' _).set (Nat.le_refl _) _) hw') (by omega) (by simp) (by have := hle.next; simp; omega) ((hw'.alloc _).set _ (by simp))
      simp only [AW.set_next, AW.alloc_next, stepCells] at e1
      by_cases hs1 : i + 1 = L.length
      · have hii : ((i : Int) = (L.length : Int) - 1) = True := eq_true (by omega)
        have hxn : ((s[s.length - 1].toNat : Int) = 10) := by
          have := hgo1 hs1
          rw [hend] at this
          rw [of_decide_eq_true this]
          rfl
        repeat' (first
        | (refine lwc fun R hR => ?_; simp [wrap_i64, wrap_u64, g0, g5, g7, hlt, hrow, hcell, hj1, hLl, hsl, hii, hxn, hts, hge, hsp, bs_size, bs_elem, astore, AW.row_get, e1]; try simp (disch := omega) only [if_pos, if_neg, wrap_i64, wrap_u64])
        | (refine hR _ _ ?_; clear hR R) | (refine hK _ _ ?_; clear hK K) | refine lwn ?_ | refine lr ?_ | refine la ?_
        | refine wn fun K hK => ?_
        | simp only [wS]
        | (refine callK (hread _) ?_; rintro _ _ ⟨rfl, rfl⟩ _ _)
        | refine wb ?_ | refine wr ?_ | refine wk ?_ | refine we ?_ | refine ws ?_ | refine wq ?_
        | (refine wc rfl (fun hc => ?_) (fun hc => ?_) <;> (try simp at hc) <;> (try omega))
        | (refine ib (fun hc => ?_) (fun hc => ?_) <;> (try omega) <;> (try simp (disch := omega) only [if_pos, if_neg])))
        refine ⟨L.length - (i + 1), by omega, i + 1, v', acc ++ [readX L[i]], rfl, by omega, ?_, ?_, ?_, ?_, by simpa using e2, by simp [hacc], e3 A1 (Nat.le_refl _) (hle.trans ((AW.le.alloc A' _).set (Nat.le_refl _) _)), e4, eg⟩
        · simp [g0]
        · simp [g5]
        · simp
        · simp
      · have hii : ¬ (i : Int) = (L.length : Int) - 1 := by omega
        repeat' (first
        | (refine lwc fun R hR => ?_; simp [wrap_i64, wrap_u64, g0, g5, g7, hlt, hrow, hcell, hj1, hLl, hsl, hii, astore, AW.row_get, e1]; try simp (disch := omega) only [if_pos, if_neg, wrap_i64, wrap_u64])
        | (refine hR _ _ ?_; clear hR R) | (refine hK _ _ ?_; clear hK K) | refine lwn ?_ | refine lr ?_ | refine la ?_
        | refine wn fun K hK => ?_
        | simp only [wS]
        | (refine callK (hread _) ?_; rintro _ _ ⟨rfl, rfl⟩ _ _)
        | refine wb ?_ | refine wr ?_ | refine wk ?_ | refine we ?_ | refine ws ?_ | refine wq ?_
        | (refine wc rfl (fun hc => ?_) (fun hc => ?_) <;> (try simp at hc) <;> (try omega))
        | (refine ib (fun hc => ?_) (fun hc => ?_) <;> (try omega) <;> (try simp (disch := omega) only [if_pos, if_neg])))
        refine ⟨L.length - (i + 1), by omega, i + 1, v', acc ++ [readX L[i]], rfl, by omega, ?_, ?_, ?_, ?_, by simpa using e2, by simp [hacc], e3 A1 (Nat.le_refl _) (hle.trans ((AW.le.alloc A' _).set (Nat.le_refl _) _)), e4, eg⟩
        · simp [g0]
        · simp [g5]
        · simp
        · simp

end Go.Stx
