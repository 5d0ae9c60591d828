/-
  The program's Longest: ahead of its loop.
-/
import Derived.Test.YtkcicllfpdcecaaDoorFbRg
namespace Go.Stx
open Go Go.Proofs
def oFbRh_0 : List (Nat × Nat) := [(0, 0), (1, 0), (2, 0), (3, 0), (4, 0), (5, 0), (6, 0), (7, 0), (8, 0), (9, 0), (10, 0), (11, 0), (12, 0), (13, 3)]
attribute [local irreducible] BWP AWP LWalk ACall ARounds lops nops
set_option linter.unusedVariables false
set_option linter.unusedSimpArgs false
set_option linter.unusedSectionVars false
set_option maxRecDepth 20000
variable [Gl]

/-- The code ahead of the loop, piece by piece. -/
theorem pre0 (v : Value) (o : Option Addr) (n c : Nat) (A : AW) (hv : v = .slice o n c) : ∀ x y, Tryd.f28.body = some (.seq x y) →
    BWP none Tryd.prog 43 x (fun e a A' => e = .normal ∧ a 1 = .pointer (some ⟨A.next, 0, none⟩) ∧ A' = A.alloc (.cells [v] true 1)) (initF [v]) A := by
  intro x y hxy
  injection hxy with hxy
  injection hxy with hx hy
  subst hx hv
  -- refine acall_intro Tryd.func28 rfl
  repeat' (first
  | (refine lwc fun R hR => ?_; simp [wrap_i64, wrap_u64, AW.row_get]; try simp (disch := omega) only [if_pos, if_neg, wrap_i64, wrap_u64])
  | (refine hR _ _ ?_; clear hR R) | (refine hK _ _ ?_; clear hK K) | refine lwn ?_ | refine lr ?_ | refine la ?_
  | refine bwn fun K hK => ?_
  | simp only [wS, oFbRh_0]
  | refine bwl Tryd.mx oFbRh_0 (by decide +kernel) fun K hK => ?_
  | refine bwb ?_ | refine bwr ?_ | refine bwk ?_ | refine bwe ?_ | refine ws ?_ | refine bwq ?_
  | (refine bwc rfl (fun hc => ?_) (fun hc => ?_) <;> (try simp at hc) <;> (try omega))
  | (refine ib (fun hc => ?_) (fun hc => ?_) <;> (try omega) <;> (try simp (disch := omega) only [if_pos, if_neg])))
  all_goals simp

def LMem (A0 A' : AW) (v : Value) (n : Nat) : Prop := A0.le A' ∧ A'.Wf ∧ A'.next = A0.next + 4 ∧ A'.get A0.next = some (.cells [v] true 1) ∧ A'.get (A0.next + 1) = some (.cells ((List.replicate (n + 1) (0 : Int)).map (Value.int .i64)) true 1) ∧
  A'.get (A0.next + 2) = some (.cells [.slice (some ⟨A0.next + 1, 0, none⟩) (n + 1) (n + 1)] true 1) ∧ A'.get (A0.next + 3) = some (.cells [v] true 1)

theorem pre1 (hF : FOK) (v : Value) (p : List InsV) (A : AW) (hw : A.Wf) (h : IsIns A v p) (fr : Fr) (f1 : fr 1 = .pointer (some ⟨A.next, 0, none⟩)) : ∀ x y z, Tryd.f28.body = some (.seq x (.seq y z)) →
    BWP none Tryd.prog 43 y (fun e a A' => A' = A.alloc (.cells [v] true 1) ∧ if progOk p = true then e = .normal ∧ a 1 = .pointer (some ⟨A.next, 0, none⟩) else e = .ret ∧ a 2 = .int .i64 (-1)) fr (A.alloc (.cells [v] true 1)) := by
  intro x y z hxy
  injection hxy with hxy
  injection hxy with hx hy
  injection hy with hy hz
  subst hx hy hz
  have cV := valid_call hF v p (A.alloc (.cells [v] true 1)) (h.le (AW.le.alloc A _) hw)
  obtain ⟨o, c, rfl, _⟩ := h.form
  cases hv : progOk p with
  | false =>
    rw [hv] at cV
    repeat' (first
    | (refine lwc fun R hR => ?_; simp [wrap_i64, wrap_u64, AW.row_get, f1]; try simp (disch := omega) only [if_pos, if_neg, wrap_i64, wrap_u64])
    | (refine hR _ _ ?_; clear hR R) | (refine hK _ _ ?_; clear hK K) | refine lwn ?_ | refine lr ?_ | refine la ?_
    | refine bwn fun K hK => ?_
    | simp only [wS, oFbRh_0]
    | refine bwl Tryd.mx oFbRh_0 (by decide +kernel) fun K hK => ?_
    | (refine callK (cV) ?_; rintro _ _ ⟨rfl, rfl⟩ _ _)
    | refine bwb ?_ | refine bwr ?_ | refine bwk ?_ | refine bwe ?_ | refine ws ?_ | refine bwq ?_
    | (refine bwc rfl (fun hc => ?_) (fun hc => ?_) <;> (try simp at hc) <;> (try omega))
    | (refine ib (fun hc => ?_) (fun hc => ?_) <;> (try omega) <;> (try simp (disch := omega) only [if_pos, if_neg])))
    all_goals simp
  | true =>
    rw [hv] at cV
    repeat' (first
    | (refine lwc fun R hR => ?_; simp [wrap_i64, wrap_u64, AW.row_get, f1]; try simp (disch := omega) only [if_pos, if_neg, wrap_i64, wrap_u64])
    | (refine hR _ _ ?_; clear hR R) | (refine hK _ _ ?_; clear hK K) | refine lwn ?_ | refine lr ?_ | refine la ?_
    | refine bwn fun K hK => ?_
    | simp only [wS, oFbRh_0]
    | refine bwl Tryd.mx oFbRh_0 (by decide +kernel) fun K hK => ?_
    | (refine callK (cV) ?_; rintro _ _ ⟨rfl, rfl⟩ _ _)
    | refine bwb ?_ | refine bwr ?_ | refine bwk ?_ | refine bwe ?_ | refine ws ?_ | refine bwq ?_
    | (refine bwc rfl (fun hc => ?_) (fun hc => ?_) <;> (try simp at hc) <;> (try omega))
    | (refine ib (fun hc => ?_) (fun hc => ?_) <;> (try omega) <;> (try simp (disch := omega) only [if_pos, if_neg])))
    all_goals simp [f1]

theorem pre3 (v : Value) (p : List InsV) (A : AW) (hw : A.Wf) (h : IsIns A v p) (hl : p.length ≤ 64) (fr : Fr) (f1 : fr 1 = .pointer (some ⟨A.next, 0, none⟩)) : ∀ x y z u, Tryd.f28.body = some (.seq x (.seq y (.seq z u))) →
    BWP none Tryd.prog 43 z (fun e a A' => e = .normal ∧ a 1 = .pointer (some ⟨A.next, 0, none⟩) ∧ a 3 = .pointer (some ⟨A.next + 2, 0, none⟩) ∧
      A' = (((A.alloc (.cells [v] true 1)).alloc (.cells ((List.replicate (p.length + 1) (0 : Int)).map (Value.int .i64)) true 1)).alloc (.cells [.slice none 0 0] true 1)).set (A.next + 2) (some (.cells [.slice (some ⟨A.next + 1, 0, none⟩) (p.length + 1) (p.length + 1)] true 1))) fr (A.alloc (.cells [v] true 1)) := by
  intro x y z u hxy
  injection hxy with hxy
  injection hxy with hx hy
  injection hy with hy hz
  injection hz with hz hu
  subst hx hy hz hu
  obtain ⟨o, c, rfl, _⟩ := h.form
  have hw1 : IntKind.i64.wrap ((p.length : Int) + 1) = ((p.length + 1 : Nat) : Int) := wrap_i64 (by omega) (by omega)
  have hb1 : ((p.length + 1 : Nat) : Int) ≤ 140737488355328 := by omega
  have hb2 : ((p.length + 1 : Nat) : Int) * 8 ≤ 140737488355328 := by omega
  repeat' (first
  | (refine lwc fun R hR => ?_; simp [wrap_i64, wrap_u64, AW.row_get, astore, f1, hw1, hb1, hb2, azeros_int]; try simp (disch := omega) only [if_pos, if_neg, wrap_i64, wrap_u64])
  | (refine hR _ _ ?_; clear hR R) | (refine hK _ _ ?_; clear hK K) | refine lwn ?_ | refine lr ?_ | refine la ?_
  | refine bwn fun K hK => ?_
  | simp only [wS, oFbRh_0]
  | refine bwl Tryd.mx oFbRh_0 (by decide +kernel) fun K hK => ?_
  | refine bwb ?_ | refine bwr ?_ | refine bwk ?_ | refine bwe ?_ | refine ws ?_ | refine bwq ?_
  | (refine bwc rfl (fun hc => ?_) (fun hc => ?_) <;> (try simp at hc) <;> (try omega))
  | (refine ib (fun hc => ?_) (fun hc => ?_) <;> (try omega) <;> (try simp (disch := omega) only [if_pos, if_neg])))
  all_goals simp [f1, List.replicate_succ]

theorem pre4 (v : Value) (o : Option Addr) (n c : Nat) (A : AW) (b : Nat) (hv : v = .slice o n c) (fr : Fr) (f1 : fr 1 = .pointer (some ⟨b, 0, none⟩)) (f3 : Value) (h3 : fr 3 = f3) (own : Bool) (hb : A.get b = some (.cells [v] own 1)) : ∀ x y z u1 u2 t, Tryd.f28.body = some (.seq x (.seq y (.seq z (.seq (.seq u1 u2) t)))) →
    BWP none Tryd.prog 43 u1 (fun e a A' => e = .normal ∧ a 1 = .pointer (some ⟨b, 0, none⟩) ∧ a 3 = f3 ∧ a 15 = .func (.func 51) #[] #[.pointer (some ⟨A.next, 0, none⟩)] ∧ A' = A.alloc (.cells [v] true 1)) fr A := by
  intro x y z u1 u2 t hxy
  injection hxy with hxy
  injection hxy with hx hy
  injection hy with hy hz
  injection hz with hz hu
  injection hu with hu ht
  injection hu with hu1 hu2
  subst hx hy hz hu1 hu2 ht hv
  repeat' (first
  | (refine lwc fun R hR => ?_; simp [wrap_i64, wrap_u64, AW.row_get, f1, hb]; try simp (disch := omega) only [if_pos, if_neg, wrap_i64, wrap_u64])
  | (refine hR _ _ ?_; clear hR R) | (refine hK _ _ ?_; clear hK K) | refine lwn ?_ | refine lr ?_ | refine la ?_
  | refine bwn fun K hK => ?_
  | simp only [wS, oFbRh_0]
  | refine bwl Tryd.mx oFbRh_0 (by decide +kernel) fun K hK => ?_
  | (refine callK (backward_call o n c _) ?_; rintro _ _ ⟨rfl, rfl⟩ _ _)
  | refine bwb ?_ | refine bwr ?_ | refine bwk ?_ | refine bwe ?_ | refine ws ?_ | refine bwq ?_
  | (refine bwc rfl (fun hc => ?_) (fun hc => ?_) <;> (try simp at hc) <;> (try omega))
  | (refine ib (fun hc => ?_) (fun hc => ?_) <;> (try omega) <;> (try simp (disch := omega) only [if_pos, if_neg])))
  all_goals simp [f1, h3]
end Go.Stx
