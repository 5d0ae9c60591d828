/-
  Scripts that the check refuses: the machine and the witness answer with the check's error.
-/
import Derived.Test.YtcffnkgjmneaeaaGreatDoorFbR
namespace Go.Stx
open Go Go.Proofs
attribute [local irreducible] AWP LWalk ACall ARounds lops nops
set_option linter.unusedVariables false
set_option linter.unusedSimpArgs false
set_option linter.unusedSectionVars false
set_option maxRecDepth 20000
variable [Gl]

def errN (x : Nat × Nat × Int) : Value := .tuple #[.pointer none, .int .i64 x.1, .int .i64 x.2.1, .int .i64 x.2.2]

set_option maxHeartbeats 4000000 in
theorem newErr_call (hF : FOK) (c : CfgS) (vi vp vk : Value) (ni ci : Nat) (oi : Option Addr) (ps : List (List InsV)) (pk : List Int) (A : AW) (hvi : vi = .slice oi ni ci) (hp : IsProgs A vp ps) (hk : IsInts A .i64 vk pk)
    (he : ¬ (scriptErr c ni ps pk).2.2 = 0) : ACall Tryz.prog 32 [scV c vi vp vk] A (fun u A' => u = errN (scriptErr c ni ps pk) ∧ A = A') := by
  refine ACall.gc0 (V := errN (scriptErr c ni ps pk)) (VBelow.tuple (by simp)) (fun hw => ?_) (by kernel_rfl)
  refine acall_intro Tryz.func32 rfl (by kernel_rfl) fun _ => ?_
  have cS := fun O => script_call hF c vi vp vk ni ci oi ps pk (A.alloc O) hvi (hp.le (AW.le.alloc A O) hw) (hk.le (AW.le.alloc A O) hw)
  generalize scriptErr c ni ps pk = r at he cS ⊢
  obtain ⟨r1, r2, r3⟩ := r
  subst hvi
  obtain ⟨op, cp, rfl, _⟩ := hp.form
  obtain ⟨ok, ck, rfl, _⟩ := hk.form
  have he : ¬ r3 = 0 := he
  obtain ⟨wds, ords, bas, c0, c1, c2, c3, rds, wrs, als, fre, clk, stg⟩ := c
  unfold scV scCells CfgS.cells errV3 at cS
  unfold scV scCells CfgS.cells errN
  simp only [List.cons_append, List.nil_append] at cS ⊢
  repeat' (first
  | (refine lwc fun R hR => ?_; simp [wrap_i64, wrap_u64, AW.row_get, astore, he]; try simp (disch := omega) only [if_pos, if_neg, wrap_i64, wrap_u64])
  | (refine hR _ _ ?_; clear hR R) | (refine hK _ _ ?_; clear hK K) | refine lwn ?_ | refine lr ?_ | refine la ?_
  | refine wn fun K hK => ?_
  | simp only [wS]
  | (refine callK (cS _) ?_; rintro _ _ ⟨rfl, rfl⟩ _ _)
  | refine wb ?_ | refine wr ?_ | refine wk ?_ | refine we ?_ | refine ws ?_ | refine wq ?_
  | (refine wc rfl (fun hc => ?_) (fun hc => ?_) <;> (try simp at hc) <;> (try omega))
  | (refine ib (fun hc => ?_) (fun hc => ?_) <;> (try omega) <;> (try simp (disch := omega) only [if_pos, if_neg])))
  all_goals (simp [AThen, APost, ares, aresL, ares1] <;> exact AW.le.alloc A _)
end Go.Stx
