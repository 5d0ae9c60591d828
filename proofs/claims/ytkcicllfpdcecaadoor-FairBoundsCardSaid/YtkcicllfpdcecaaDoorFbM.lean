/-
  Where a valid program goes on, by both.
-/
import Derived.Test.YtkcicllfpdcecaaDoorFbL
namespace Go.Stx
open Go Go.Proofs
attribute [local irreducible] AWP LWalk ACall ARounds lops nops
set_option linter.unusedVariables false
set_option linter.unusedSimpArgs false
set_option linter.unusedSectionVars false
set_option maxRecDepth 20000
variable [Gl]

theorem ok_imm {p : List InsV} (hv : progOk p = true) {k : Nat} (hk : k < p.length) (ho : p[k].op = 4 ∨ p[k].op = 5 ∨ p[k].op = 6) : 0 ≤ p[k].imm ∧ p[k].imm ≤ 64 := by
  obtain ⟨h1, h2, h3⟩ := progCheck_ok (p := p) (by simpa [progOk] using hv)
  have h4 := h2 k p[k] (List.getElem?_eq_getElem hk)
  have h0 : insErr p[k] = 0 := by
    rcases Decidable.em (insErr p[k] = 0) with h | h
    · exact h
    · unfold oneE at h4; rw [if_neg h] at h4; exact absurd h4 h
  exact insErr_imm h0 ho

/-- A fresh slice of numbers. -/
def FreshN (A : AW) (l : List Nat) (u : Value) (A' : AW) : Prop := u = .slice (some ⟨A.next, 0, none⟩) l.length l.length ∧ A' = A.alloc (.cells (l.map fun t => .int .i64 (t : Nat)) true 1)

set_option maxHeartbeats 2000000 in
theorem after_call (v : Value) (p : List InsV) (k : Nat) (A : AW) (h : IsIns A v p) (hv : progOk p = true) (hk : k < p.length) :
    ACall Tryd.prog 40 [v, .int .i64 k] A (FreshN A (progAfter p k)) := by
  refine acall_intro Tryd.func40 rfl (by kernel_rfl) fun hw => ?_
  have hl : p.length ≤ 64 := (progCheck_ok (p := p) (by simpa [progOk] using hv)).1
  have hi := fun ho => ok_imm (p := p) hv (k := k) hk ho
  have cE := end_call v p k A h (by omega) hk
  have hE : progEnd p k ≤ p.length := (nextC_spec (p := p) (k := k + 1) (by omega)).2.1
  obtain ⟨o, c, rfl, _⟩ := h.form
  obtain ⟨q, row, hq', hrow, hle, hcell⟩ := h.at hk
  subst hq'
  have hx : p[k]? = some p[k] := List.getElem?_eq_getElem hk
  have hR : progAfter p k = match p[k]? with
    | some x => if x.op = 4 then [k + 1 + x.imm.toNat] else if x.op = 5 ∨ x.op = 6 then [k + 1, k + 1 + x.imm.toNat] else if x.op = 9 then [progEnd p k + 1] else [k + 1]
    | none => [] := rfl
  rw [hx] at hR
  simp only at hR
  rw [hR]
  clear hR hx
  have hcell0 := ins_op hcell
  have hcell4 := ins_cell hcell 4 (by omega)
  generalize p[k] = x at hcell hi hcell0 hcell4
  obtain ⟨op, a, b', c', imm⟩ := x
  simp only [insCells] at hi hcell0 hcell4 hcell ⊢
  have hwi : IntKind.i64.wrap ((k : Int) + 1) = ((k + 1 : Nat) : Int) := wrap_i64 (by omega) (by omega)
  by_cases o4 : op = 4
  · subst o4
    obtain ⟨g3, g4⟩ := hi (by omega)
    obtain ⟨m, hm⟩ : ∃ m : Nat, imm = m := ⟨imm.toNat, by omega⟩
    subst hm
    have hwt : IntKind.i64.wrap (((k + 1 : Nat) : Int) + m) = ((k + 1 + m : Nat) : Int) := wrap_i64 (by omega) (by omega)
    have hwt2 : IntKind.i64.wrap ((k : Int) + 1 + m) = ((k + 1 + m : Nat) : Int) := wrap_i64 (by omega) (by omega)
    rw [if_pos rfl]
    repeat' (first
    | (refine lwc fun R hR => ?_; simp [wrap_i64, wrap_u64, hk, hrow, hcell0, hcell4, hle, hwi, hwt, hwt2]; try simp (disch := omega) only [if_pos, if_neg, wrap_i64, wrap_u64])
    | (refine hR _ _ ?_; clear hR R) | (refine hK _ _ ?_; clear hK K) | refine lwn ?_ | refine lr ?_ | refine la ?_
    | refine wn fun K hK => ?_
    | simp only [wS]
    | refine wb ?_ | refine wr ?_ | refine wk ?_ | refine we ?_ | refine ws ?_ | refine wq ?_
    | (refine wc rfl (fun hc => ?_) (fun hc => ?_) <;> (try simp at hc) <;> (try omega))
    | (refine ib (fun hc => ?_) (fun hc => ?_) <;> (try omega) <;> (try simp (disch := omega) only [if_pos, if_neg])))
    all_goals (simp [AThen, APost, ares, aresL, ares1, FreshN] <;> first | done | omega)
  by_cases o5 : op = 5
  · subst o5
    obtain ⟨g3, g4⟩ := hi (by omega)
    obtain ⟨m, hm⟩ : ∃ m : Nat, imm = m := ⟨imm.toNat, by omega⟩
    subst hm
    have hwt : IntKind.i64.wrap (((k + 1 : Nat) : Int) + m) = ((k + 1 + m : Nat) : Int) := wrap_i64 (by omega) (by omega)
    have hwt2 : IntKind.i64.wrap ((k : Int) + 1 + m) = ((k + 1 + m : Nat) : Int) := wrap_i64 (by omega) (by omega)
    rw [if_neg (by decide), if_pos (by decide)]
    repeat' (first
    | (refine lwc fun R hR => ?_; simp [wrap_i64, wrap_u64, hk, hrow, hcell0, hcell4, hle, hwi, hwt, hwt2, o4]; try simp (disch := omega) only [if_pos, if_neg, wrap_i64, wrap_u64])
    | (refine hR _ _ ?_; clear hR R) | (refine hK _ _ ?_; clear hK K) | refine lwn ?_ | refine lr ?_ | refine la ?_
    | refine wn fun K hK => ?_
    | simp only [wS]
    | refine wb ?_ | refine wr ?_ | refine wk ?_ | refine we ?_ | refine ws ?_ | refine wq ?_
    | (refine wc rfl (fun hc => ?_) (fun hc => ?_) <;> (try simp at hc) <;> (try omega))
    | (refine ib (fun hc => ?_) (fun hc => ?_) <;> (try omega) <;> (try simp (disch := omega) only [if_pos, if_neg])))
    all_goals (simp [AThen, APost, ares, aresL, ares1, FreshN] <;> first | done | omega)
  by_cases o6 : op = 6
  · subst o6
    obtain ⟨g3, g4⟩ := hi (by omega)
    obtain ⟨m, hm⟩ : ∃ m : Nat, imm = m := ⟨imm.toNat, by omega⟩
    subst hm
    have hwt : IntKind.i64.wrap (((k + 1 : Nat) : Int) + m) = ((k + 1 + m : Nat) : Int) := wrap_i64 (by omega) (by omega)
    have hwt2 : IntKind.i64.wrap ((k : Int) + 1 + m) = ((k + 1 + m : Nat) : Int) := wrap_i64 (by omega) (by omega)
    rw [if_neg (by decide), if_pos (by decide)]
    repeat' (first
    | (refine lwc fun R hR => ?_; simp [wrap_i64, wrap_u64, hk, hrow, hcell0, hcell4, hle, hwi, hwt, hwt2, o4, o5]; try simp (disch := omega) only [if_pos, if_neg, wrap_i64, wrap_u64])
    | (refine hR _ _ ?_; clear hR R) | (refine hK _ _ ?_; clear hK K) | refine lwn ?_ | refine lr ?_ | refine la ?_
    | refine wn fun K hK => ?_
    | simp only [wS]
    | refine wb ?_ | refine wr ?_ | refine wk ?_ | refine we ?_ | refine ws ?_ | refine wq ?_
    | (refine wc rfl (fun hc => ?_) (fun hc => ?_) <;> (try simp at hc) <;> (try omega))
    | (refine ib (fun hc => ?_) (fun hc => ?_) <;> (try omega) <;> (try simp (disch := omega) only [if_pos, if_neg])))
    all_goals (simp [AThen, APost, ares, aresL, ares1, FreshN] <;> first | done | omega)
  rw [if_neg o4, if_neg (by omega)]
  by_cases o9 : op = 9
  · subst o9
    rw [if_pos rfl]
    have hwe : IntKind.i64.wrap ((progEnd p k : Int) + 1) = ((progEnd p k + 1 : Nat) : Int) := wrap_i64 (by omega) (by omega)
    repeat' (first
    | (refine lwc fun R hR => ?_; simp [wrap_i64, wrap_u64, hk, hrow, hcell0, hcell4, hle, hwi, hwe, o4, o5, o6]; try simp (disch := omega) only [if_pos, if_neg, wrap_i64, wrap_u64])
    | (refine hR _ _ ?_; clear hR R) | (refine hK _ _ ?_; clear hK K) | refine lwn ?_ | refine lr ?_ | refine la ?_
    | refine wn fun K hK => ?_
    | simp only [wS]
    | (refine callK (cE) ?_; rintro _ _ ⟨rfl, rfl⟩ _ _)
    | refine wb ?_ | refine wr ?_ | refine wk ?_ | refine we ?_ | refine ws ?_ | refine wq ?_
    | (refine wc rfl (fun hc => ?_) (fun hc => ?_) <;> (try simp at hc) <;> (try omega))
    | (refine ib (fun hc => ?_) (fun hc => ?_) <;> (try omega) <;> (try simp (disch := omega) only [if_pos, if_neg])))
    all_goals (simp [AThen, APost, ares, aresL, ares1, FreshN] <;> first | done | omega)
  rw [if_neg o9]
  repeat' (first
  | (refine lwc fun R hR => ?_; simp [wrap_i64, wrap_u64, hk, hrow, hcell0, hcell4, hle, hwi, o4, o5, o6, o9]; try simp (disch := omega) only [if_pos, if_neg, wrap_i64, wrap_u64])
  | (refine hR _ _ ?_; clear hR R) | (refine hK _ _ ?_; clear hK K) | refine lwn ?_ | refine lr ?_ | refine la ?_
  | refine wn fun K hK => ?_
  | simp only [wS]
  | refine wb ?_ | refine wr ?_ | refine wk ?_ | refine we ?_ | refine ws ?_ | refine wq ?_
  | (refine wc rfl (fun hc => ?_) (fun hc => ?_) <;> (try simp at hc) <;> (try omega))
  | (refine ib (fun hc => ?_) (fun hc => ?_) <;> (try omega) <;> (try simp (disch := omega) only [if_pos, if_neg])))
  all_goals (simp [AThen, APost, ares, aresL, ares1, FreshN] <;> first | done | omega)

set_option maxHeartbeats 2000000 in
theorem next_call (v : Value) (p : List InsV) (k : Nat) (A : AW) (h : IsIns A v p) (hv : progOk p = true) (hk : k < p.length) :
    ACall Tryd.prog 47 [v, .int .i64 k] A (FreshN A (refNext p k)) := by
  refine acall_intro Tryd.func47 rfl (by kernel_rfl) fun hw => ?_
  have hl : p.length ≤ 64 := (progCheck_ok (p := p) (by simpa [progOk] using hv)).1
  have hi := fun ho => ok_imm (p := p) hv (k := k) hk ho
  have cS := span_call v p k A h (by omega) (by omega)
  have hS : ∀ b c, spanF p k = some (b, c) → c ≤ p.length := fun b c hs => by
    rw [spanF_eq (by omega)] at hs
    split at hs
    · split at hs
      · injection hs with hs
        have := (nextC_spec (p := p) (k := k) (by omega)).2.1
        have e := congrArg Prod.snd hs
        simp only at e
        rw [← e]
        exact this
      · first | (exfalso; omega) | cases hs
    · split at hs
      · injection hs with hs
        have := (nextC_spec (p := p) (k := k + 1) (by omega)).2.1
        have e := congrArg Prod.snd hs
        simp only [progEnd] at e
        rw [← e]
        exact this
      · cases hs
  obtain ⟨o, c, rfl, _⟩ := h.form
  obtain ⟨q, row, hq', hrow, hle, hcell⟩ := h.at hk
  subst hq'
  have hx : p[k]? = some p[k] := List.getElem?_eq_getElem hk
  have hR : refNext p k = match p[k]? with
    | some x => if x.op = 4 then [k + 1 + x.imm.toNat] else if x.op = 5 ∨ x.op = 6 then [k + 1, k + 1 + x.imm.toNat] else if x.op = 9 then [match spanF p k with | some (_, c) => c + 1 | none => 0] else [k + 1]
    | none => [] := rfl
  rw [hx] at hR
  simp only at hR
  rw [hR]
  clear hR hx
  have hcell0 := ins_op hcell
  have hcell4 := ins_cell hcell 4 (by omega)
  generalize p[k] = x at hcell hi hcell0 hcell4
  obtain ⟨op, a, b', c', imm⟩ := x
  simp only [insCells] at hi hcell0 hcell4 hcell ⊢
  have hwi : IntKind.i64.wrap ((k : Int) + 1) = ((k + 1 : Nat) : Int) := wrap_i64 (by omega) (by omega)
  by_cases o4 : op = 4
  · subst o4
    obtain ⟨g3, g4⟩ := hi (by omega)
    obtain ⟨m, hm⟩ : ∃ m : Nat, imm = m := ⟨imm.toNat, by omega⟩
    subst hm
    have hwt : IntKind.i64.wrap (((k + 1 : Nat) : Int) + m) = ((k + 1 + m : Nat) : Int) := wrap_i64 (by omega) (by omega)
    have hwt2 : IntKind.i64.wrap ((k : Int) + 1 + m) = ((k + 1 + m : Nat) : Int) := wrap_i64 (by omega) (by omega)
    rw [if_pos rfl]
    repeat' (first
    | (refine lwc fun R hR => ?_; simp [wrap_i64, wrap_u64, hk, hrow, hcell0, hcell4, hle, hwi, hwt, hwt2]; try simp (disch := omega) only [if_pos, if_neg, wrap_i64, wrap_u64])
    | (refine hR _ _ ?_; clear hR R) | (refine hK _ _ ?_; clear hK K) | refine lwn ?_ | refine lr ?_ | refine la ?_
    | refine wn fun K hK => ?_
    | simp only [wS]
    | refine wb ?_ | refine wr ?_ | refine wk ?_ | refine we ?_ | refine ws ?_ | refine wq ?_
    | (refine wc rfl (fun hc => ?_) (fun hc => ?_) <;> (try simp at hc) <;> (try omega))
    | (refine ib (fun hc => ?_) (fun hc => ?_) <;> (try omega) <;> (try simp (disch := omega) only [if_pos, if_neg])))
    all_goals (simp [AThen, APost, ares, aresL, ares1, FreshN] <;> first | done | omega)
  by_cases o5 : op = 5
  · subst o5
    obtain ⟨g3, g4⟩ := hi (by omega)
    obtain ⟨m, hm⟩ : ∃ m : Nat, imm = m := ⟨imm.toNat, by omega⟩
    subst hm
    have hwt : IntKind.i64.wrap (((k + 1 : Nat) : Int) + m) = ((k + 1 + m : Nat) : Int) := wrap_i64 (by omega) (by omega)
    have hwt2 : IntKind.i64.wrap ((k : Int) + 1 + m) = ((k + 1 + m : Nat) : Int) := wrap_i64 (by omega) (by omega)
    rw [if_neg (by decide), if_pos (by decide)]
    repeat' (first
    | (refine lwc fun R hR => ?_; simp [wrap_i64, wrap_u64, hk, hrow, hcell0, hcell4, hle, hwi, hwt, hwt2, o4]; try simp (disch := omega) only [if_pos, if_neg, wrap_i64, wrap_u64])
    | (refine hR _ _ ?_; clear hR R) | (refine hK _ _ ?_; clear hK K) | refine lwn ?_ | refine lr ?_ | refine la ?_
    | refine wn fun K hK => ?_
    | simp only [wS]
    | refine wb ?_ | refine wr ?_ | refine wk ?_ | refine we ?_ | refine ws ?_ | refine wq ?_
    | (refine wc rfl (fun hc => ?_) (fun hc => ?_) <;> (try simp at hc) <;> (try omega))
    | (refine ib (fun hc => ?_) (fun hc => ?_) <;> (try omega) <;> (try simp (disch := omega) only [if_pos, if_neg])))
    all_goals (simp [AThen, APost, ares, aresL, ares1, FreshN] <;> first | done | omega)
  by_cases o6 : op = 6
  · subst o6
    obtain ⟨g3, g4⟩ := hi (by omega)
    obtain ⟨m, hm⟩ : ∃ m : Nat, imm = m := ⟨imm.toNat, by omega⟩
    subst hm
    have hwt : IntKind.i64.wrap (((k + 1 : Nat) : Int) + m) = ((k + 1 + m : Nat) : Int) := wrap_i64 (by omega) (by omega)
    have hwt2 : IntKind.i64.wrap ((k : Int) + 1 + m) = ((k + 1 + m : Nat) : Int) := wrap_i64 (by omega) (by omega)
    rw [if_neg (by decide), if_pos (by decide)]
    repeat' (first
    | (refine lwc fun R hR => ?_; simp [wrap_i64, wrap_u64, hk, hrow, hcell0, hcell4, hle, hwi, hwt, hwt2, o4, o5]; try simp (disch := omega) only [if_pos, if_neg, wrap_i64, wrap_u64])
    | (refine hR _ _ ?_; clear hR R) | (refine hK _ _ ?_; clear hK K) | refine lwn ?_ | refine lr ?_ | refine la ?_
    | refine wn fun K hK => ?_
    | simp only [wS]
    | refine wb ?_ | refine wr ?_ | refine wk ?_ | refine we ?_ | refine ws ?_ | refine wq ?_
    | (refine wc rfl (fun hc => ?_) (fun hc => ?_) <;> (try simp at hc) <;> (try omega))
    | (refine ib (fun hc => ?_) (fun hc => ?_) <;> (try omega) <;> (try simp (disch := omega) only [if_pos, if_neg])))
    all_goals (simp [AThen, APost, ares, aresL, ares1, FreshN] <;> first | done | omega)
  rw [if_neg o4, if_neg (by omega)]
  by_cases o9 : op = 9
  · subst o9
    rw [if_pos rfl]
    cases hs : spanF p k with
    | none =>
      rw [hs] at cS
      simp only [spanV] at cS
      have hwe : IntKind.i64.wrap ((-1 : Int) + 1) = ((0 : Nat) : Int) := wrap_i64 (by omega) (by omega)
      repeat' (first
      | (refine lwc fun R hR => ?_; simp [wrap_i64, wrap_u64, hk, hrow, hcell0, hcell4, hle, hwi, hwe, o4, o5, o6]; try simp (disch := omega) only [if_pos, if_neg, wrap_i64, wrap_u64])
      | (refine hR _ _ ?_; clear hR R) | (refine hK _ _ ?_; clear hK K) | refine lwn ?_ | refine lr ?_ | refine la ?_
      | refine wn fun K hK => ?_
      | simp only [wS]
      | (refine callK (cS) ?_; rintro _ _ ⟨rfl, rfl⟩ _ _)
      | refine wb ?_ | refine wr ?_ | refine wk ?_ | refine we ?_ | refine ws ?_ | refine wq ?_
      | (refine wc rfl (fun hc => ?_) (fun hc => ?_) <;> (try simp at hc) <;> (try omega))
      | (refine ib (fun hc => ?_) (fun hc => ?_) <;> (try omega) <;> (try simp (disch := omega) only [if_pos, if_neg])))
      all_goals (simp [AThen, APost, ares, aresL, ares1, FreshN] <;> first | done | omega)
    | some bc =>
      obtain ⟨b, d⟩ := bc
      have hd := hS b d hs
      rw [hs] at cS
      simp only [spanV] at cS
      have hwe : IntKind.i64.wrap ((d : Int) + 1) = ((d + 1 : Nat) : Int) := wrap_i64 (by omega) (by omega)
      repeat' (first
      | (refine lwc fun R hR => ?_; simp [wrap_i64, wrap_u64, hk, hrow, hcell0, hcell4, hle, hwi, hwe, o4, o5, o6]; try simp (disch := omega) only [if_pos, if_neg, wrap_i64, wrap_u64])
      | (refine hR _ _ ?_; clear hR R) | (refine hK _ _ ?_; clear hK K) | refine lwn ?_ | refine lr ?_ | refine la ?_
      | refine wn fun K hK => ?_
      | simp only [wS]
      | (refine callK (cS) ?_; rintro _ _ ⟨rfl, rfl⟩ _ _)
      | refine wb ?_ | refine wr ?_ | refine wk ?_ | refine we ?_ | refine ws ?_ | refine wq ?_
      | (refine wc rfl (fun hc => ?_) (fun hc => ?_) <;> (try simp at hc) <;> (try omega))
      | (refine ib (fun hc => ?_) (fun hc => ?_) <;> (try omega) <;> (try simp (disch := omega) only [if_pos, if_neg])))
      all_goals (simp [AThen, APost, ares, aresL, ares1, FreshN] <;> first | done | omega)
  rw [if_neg o9]
  repeat' (first
  | (refine lwc fun R hR => ?_; simp [wrap_i64, wrap_u64, hk, hrow, hcell0, hcell4, hle, hwi, o4, o5, o6, o9]; try simp (disch := omega) only [if_pos, if_neg, wrap_i64, wrap_u64])
  | (refine hR _ _ ?_; clear hR R) | (refine hK _ _ ?_; clear hK K) | refine lwn ?_ | refine lr ?_ | refine la ?_
  | refine wn fun K hK => ?_
  | simp only [wS]
  | refine wb ?_ | refine wr ?_ | refine wk ?_ | refine we ?_ | refine ws ?_ | refine wq ?_
  | (refine wc rfl (fun hc => ?_) (fun hc => ?_) <;> (try simp at hc) <;> (try omega))
  | (refine ib (fun hc => ?_) (fun hc => ?_) <;> (try omega) <;> (try simp (disch := omega) only [if_pos, if_neg])))
  all_goals (simp [AThen, APost, ares, aresL, ares1, FreshN] <;> first | done | omega)
end Go.Stx
