/-
  Scripts that the check refuses: the machine and the witness answer with the check's error.
-/
import Derived.Test.YteedgpgpbklekaaGreatDoorFbR
namespace Go.Stx
open Go Go.Proofs
def oWrA_0 : List (Nat × Nat) := [(0, 0), (1, 0), (2, 0), (3, 0), (4, 0), (5, 0), (6, 0), (7, 0), (8, 0), (9, 0), (10, 0), (11, 0), (12, 0), (13, 0), (14, 0), (15, 0), (16, 0), (17, 0), (18, 0), (19, 0)]
attribute [local irreducible] TW ltree AWP LWalk ACall ARounds lops nops
set_option linter.unusedVariables false
set_option linter.unusedSimpArgs false
set_option linter.unusedSectionVars false
set_option maxRecDepth 20000
variable [Gl]

def errN (x : Nat × Nat × Int) : Value := .tuple #[.pointer none, .int .i64 x.1, .int .i64 x.2.1, .int .i64 x.2.2]

set_option maxHeartbeats 4000000 in
theorem newErr_call (hF : FOK) (c : CfgS) (vi vp vk : Value) (ni ci : Nat) (oi : Option Addr) (ps : List (List InsV)) (pk : List Int) (A : AW) (hvi : vi = .slice oi ni ci) (hp : IsProgs A vp ps) (hk : IsInts A .i64 vk pk)
    (he : ¬ (scriptErr c ni ps pk).2.2 = 0) : ACall Tryz.prog 27 [scV c vi vp vk] A (fun u A' => u = errN (scriptErr c ni ps pk) ∧ A = A') := by
  refine ACall.gc0 (V := errN (scriptErr c ni ps pk)) (VBelow.tuple (by simp)) (fun hw => ?_) (by kernel_rfl)
  refine acall_intro Tryz.func27 rfl (by kernel_rfl) fun _ => ?_
  have cS := fun O => script_call hF c vi vp vk ni ci oi ps pk (A.alloc O) hvi (hp.le (AW.le.alloc A O) hw) (hk.le (AW.le.alloc A O) hw)
  generalize scriptErr c ni ps pk = r at he cS ⊢
  obtain ⟨r1, r2, r3⟩ := r
  subst hvi
  obtain ⟨op, cp, rfl, _⟩ := hp.form
  obtain ⟨ok, ck, rfl, _⟩ := hk.form
  have he : ¬ r3 = 0 := he
  obtain ⟨wds, ords, bas, c0, c1, c2, c3, rds, wrs, als, fre, clk, stg⟩ := c
  unfold scV scCells CfgS.cells errV3 at cS
  unfold scV scCells CfgS.cells errN
  simp only [List.cons_append, List.nil_append] at cS ⊢
  repeat' (first
  | (refine lwc fun R hR => ?_; simp [wrap_i64, wrap_u64, AW.row_get, astore, he]; try simp (disch := omega) only [if_pos, if_neg, wrap_i64, wrap_u64])
  | (refine hR _ _ ?_; clear hR R) | (refine hK _ _ ?_; clear hK K) | refine lwn ?_ | refine lr ?_ | refine la ?_
  | refine wn fun K hK => ?_
  | simp only [wS]
  | (refine callK (cS _) ?_; rintro _ _ ⟨rfl, rfl⟩ _ _)
  | refine wb ?_ | refine wr ?_ | refine wk ?_ | refine we ?_ | refine ws ?_ | refine wq ?_
  | (refine wc rfl (fun hc => ?_) (fun hc => ?_) <;> (try simp at hc) <;> (try omega))
  | (refine ib (fun hc => ?_) (fun hc => ?_) <;> (try omega) <;> (try simp (disch := omega) only [if_pos, if_neg])))
  all_goals (simp [AThen, APost, ares, aresL, ares1] <;> exact AW.le.alloc A _)

set_option maxHeartbeats 4000000 in
theorem runErr_call (hF : FOK) (c : CfgS) (vi vp vk : Value) (ni ci : Nat) (oi : Option Addr) (ps : List (List InsV)) (pk : List Int) (A : AW) (hvi : vi = .slice oi ni ci) (hp : IsProgs A vp ps) (hk : IsInts A .i64 vk pk)
    (he : ¬ (scriptErr c ni ps pk).2.2 = 0) : ACall Tryz.prog 15 [scV c vi vp vk] A (fun u A' => u = errN (scriptErr c ni ps pk) ∧ A = A') := by
  refine ACall.gc0 (V := errN (scriptErr c ni ps pk)) (VBelow.tuple (by simp)) (fun hw => ?_) (by kernel_rfl)
  refine acall_intro Tryz.func15 rfl (by kernel_rfl) fun _ => ?_
  have cS := fun O O' => newErr_call hF c vi vp vk ni ci oi ps pk ((A.alloc O).alloc O') hvi (hp.le ((AW.le.alloc A O).trans (AW.le.alloc _ O')) hw) (hk.le ((AW.le.alloc A O).trans (AW.le.alloc _ O')) hw) he
  generalize scriptErr c ni ps pk = r at he cS ⊢
  obtain ⟨r1, r2, r3⟩ := r
  subst hvi
  obtain ⟨op, cp, rfl, _⟩ := hp.form
  obtain ⟨ok, ck, rfl, _⟩ := hk.form
  have he : ¬ r3 = 0 := he
  obtain ⟨wds, ords, bas, c0, c1, c2, c3, rds, wrs, als, fre, clk, stg⟩ := c
  unfold scV scCells CfgS.cells errN at cS
  unfold scV scCells CfgS.cells errN
  simp only [List.cons_append, List.nil_append] at cS ⊢
  repeat' (first
  | (refine lwc fun R hR => ?_; simp [wrap_i64, wrap_u64, AW.row_get, astore, he]; try simp (disch := omega) only [if_pos, if_neg, wrap_i64, wrap_u64])
  | (refine hR _ _ ?_; clear hR R) | (refine hK _ _ ?_; clear hK K) | refine lwn ?_ | refine lr ?_ | refine la ?_
  | refine wn fun K hK => ?_
  | simp only [wS]
  | (refine callK (cS _ _) ?_; rintro _ _ ⟨rfl, rfl⟩ _ _)
  | refine wb ?_ | refine wr ?_ | refine wk ?_ | refine we ?_ | refine ws ?_ | refine wq ?_
  | (refine wc rfl (fun hc => ?_) (fun hc => ?_) <;> (try simp at hc) <;> (try omega))
  | (refine ib (fun hc => ?_) (fun hc => ?_) <;> (try omega) <;> (try simp (disch := omega) only [if_pos, if_neg])))
  all_goals (simp [AThen, APost, ares, aresL, ares1] <;> exact ((AW.le.alloc A _).trans (AW.le.alloc _ _)).set (by simp) _)

set_option maxHeartbeats 4000000 in
theorem choicesErr_call (hF : FOK) (c : CfgS) (vi vp vk : Value) (ni ci : Nat) (oi : Option Addr) (ps : List (List InsV)) (pk : List Int) (A : AW) (hvi : vi = .slice oi ni ci) (hp : IsProgs A vp ps) (hk : IsInts A .i64 vk pk)
    (he : ¬ (scriptErr c ni ps pk).2.2 = 0) : ACall Tryz.prog 8 [scV c vi vp vk] A (fun u A' => u = .tuple #[.slice none 0 0, .int .i64 (scriptErr c ni ps pk).2.2] ∧ A = A') := by
  refine ACall.gc0 (V := .tuple #[.slice none 0 0, .int .i64 (scriptErr c ni ps pk).2.2]) (VBelow.tuple (by simp)) (fun hw => ?_) (by kernel_rfl)
  refine acall_intro Tryz.func8 rfl (by kernel_rfl) fun _ => ?_
  have cS := fun O => runErr_call hF c vi vp vk ni ci oi ps pk (A.alloc O) hvi (hp.le (AW.le.alloc A O) hw) (hk.le (AW.le.alloc A O) hw) he
  generalize scriptErr c ni ps pk = r at he cS ⊢
  obtain ⟨r1, r2, r3⟩ := r
  subst hvi
  obtain ⟨op, cp, rfl, _⟩ := hp.form
  obtain ⟨ok, ck, rfl, _⟩ := hk.form
  have he : ¬ r3 = 0 := he
  obtain ⟨wds, ords, bas, c0, c1, c2, c3, rds, wrs, als, fre, clk, stg⟩ := c
  unfold scV scCells CfgS.cells errN at cS
  unfold scV scCells CfgS.cells
  simp only [List.cons_append, List.nil_append] at cS ⊢
  repeat' (first
  | (refine lwc fun R hR => ?_; simp [wrap_i64, wrap_u64, AW.row_get, astore, he]; try simp (disch := omega) only [if_pos, if_neg, wrap_i64, wrap_u64])
  | (refine hR _ _ ?_; clear hR R) | (refine hK _ _ ?_; clear hK K) | refine lwn ?_ | refine lr ?_ | refine la ?_
  | refine wn fun K hK => ?_
  | simp only [wS]
  | (refine callK (cS _) ?_; rintro _ _ ⟨rfl, rfl⟩ _ _)
  | refine wb ?_ | refine wr ?_ | refine wk ?_ | refine we ?_ | refine ws ?_ | refine wq ?_
  | (refine wc rfl (fun hc => ?_) (fun hc => ?_) <;> (try simp at hc) <;> (try omega))
  | (refine ib (fun hc => ?_) (fun hc => ?_) <;> (try omega) <;> (try simp (disch := omega) only [if_pos, if_neg])))
  all_goals (simp [AThen, APost, ares, aresL, ares1] <;> exact AW.le.alloc A _)

set_option maxHeartbeats 4000000 in
theorem checkErr_call (hF : FOK) (c : CfgS) (vi vp vk : Value) (ni ci : Nat) (oi : Option Addr) (ps : List (List InsV)) (pk : List Int) (A : AW) (hvi : vi = .slice oi ni ci) (hp : IsProgs A vp ps) (hk : IsInts A .i64 vk pk)
    (he : ¬ (scriptErr c ni ps pk).2.2 = 0) : ACall Tryz.prog 9 [scV c vi vp vk] A (fun u A' => u = errV3 (scriptErr c ni ps pk) ∧ A = A') := by
  refine ACall.gc0 (V := errV3 (scriptErr c ni ps pk)) (VBelow.tuple (by simp)) (fun hw => ?_) (by kernel_rfl)
  refine acall_intro Tryz.func9 rfl (by kernel_rfl) fun _ => ?_
  have cS := fun O => runErr_call hF c vi vp vk ni ci oi ps pk (A.alloc O) hvi (hp.le (AW.le.alloc A O) hw) (hk.le (AW.le.alloc A O) hw) he
  generalize scriptErr c ni ps pk = r at he cS ⊢
  obtain ⟨r1, r2, r3⟩ := r
  subst hvi
  obtain ⟨op, cp, rfl, _⟩ := hp.form
  obtain ⟨ok, ck, rfl, _⟩ := hk.form
  have he : ¬ r3 = 0 := he
  obtain ⟨wds, ords, bas, c0, c1, c2, c3, rds, wrs, als, fre, clk, stg⟩ := c
  unfold scV scCells CfgS.cells errN at cS
  unfold scV scCells CfgS.cells errV3
  simp only [List.cons_append, List.nil_append] at cS ⊢
  repeat' (first
  | (refine lwc fun R hR => ?_; simp [wrap_i64, wrap_u64, AW.row_get, astore, he]; try simp (disch := omega) only [if_pos, if_neg, wrap_i64, wrap_u64])
  | (refine hR _ _ ?_; clear hR R) | (refine hK _ _ ?_; clear hK K) | refine lwn ?_ | refine lr ?_ | refine la ?_
  | (refine twc fun R hR => ?_; simp [wrap_i64, wrap_u64, AW.row_get, astore, he]; try simp (disch := omega) only [if_pos, if_neg, wrap_i64, wrap_u64])
  | (refine tw2 (fun R hR => ?_) (fun R hR => ?_) <;> (simp [wrap_i64, wrap_u64, AW.row_get, astore, he]; try simp (disch := omega) only [if_pos, if_neg, wrap_i64, wrap_u64]))
  | refine twn ?_
  | refine wn fun K hK => ?_
  | simp only [wS, oWrA_0]
  | simp only [ltree, tlop, slimG, Option.map_none, Option.map_some, List.getElem?_toArray, List.getElem?_cons_zero, List.getElem?_cons_succ, List.getD_cons_zero, List.getD_cons_succ, Option.bind_some]
  | refine wl Tryz.mx oWrA_0 (by decide +kernel) fun K hK => ?_
  | refine wt (fun _ => True) Tryz.mx [0, 0, 0, 0, 0, 3, 0, 0, 0, 0, 2, 3, 0, 0] (.one 0 (.one 1 (.one 2 (.one 3 (.one 4 (.two 5 (.one 6 (.one 7 (.one 8 (.one 9 (.one 10 (.one 11 (.one 12 (.one 13 .nil)))))))) 10 (.one 5 (.one 6 (.one 7 (.one 8 (.one 9 (.one 11 (.one 12 (.one 13 .nil)))))))))))))) (by decide +kernel) fun K hK => ?_
  | (refine callK (cS _) ?_; rintro _ _ ⟨rfl, rfl⟩ _ _)
  | refine wb ?_ | refine wr ?_ | refine wk ?_ | refine we ?_ | refine ws ?_ | refine wq ?_
  | (refine wc rfl (fun hc => ?_) (fun hc => ?_) <;> (try simp at hc) <;> (try omega))
  | (refine ib (fun hc => ?_) (fun hc => ?_) <;> (try omega) <;> (try simp (disch := omega) only [if_pos, if_neg])))
  all_goals (simp [AThen, APost, ares, aresL, ares1] <;> exact AW.le.alloc A _)
end Go.Stx
