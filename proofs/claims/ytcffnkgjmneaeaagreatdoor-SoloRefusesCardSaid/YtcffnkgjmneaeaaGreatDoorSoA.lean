/-
  The statement SoloRefuses.
-/
import Derived.Test.YtcffnkgjmneaeaaGreatDoorMnA
namespace Go.Stx
open Go Go.Proofs
attribute [local irreducible] AWP LWalk ACall ARounds lops nops
set_option linter.unusedVariables false
set_option linter.unusedSimpArgs false
set_option linter.unusedSectionVars false
set_option maxRecDepth 20000
variable [Gl]

set_option maxHeartbeats 4000000 in
theorem schedule_call (hF : FOK) (c : CfgS) (vi vp : Value) (zs : List Int) (ps : List (List InsV)) (ok : Option Addr) (nk ck : Nat) (A : AW) (hvi : IsInts A .u64 vi zs) (hp : IsProgs A vp ps) :
    ACall Tryz.prog 14 [scV c vi vp (.slice ok nk ck), .slice none 0 0] A (fun u A' => u = .tuple #[.slice none 0 0, .int .i64 0, .int .i64 (scriptErr c zs.length ps []).2.2]) := by
  refine acall_intro Tryz.func14 rfl (by kernel_rfl) fun hw => ?_
  obtain ⟨oi, ci, rfl, _⟩ := hvi.form
  by_cases he : (scriptErr c zs.length ps []).2.2 = 0
  · have cN := fun O O' => newOk_call hF c (.slice oi zs.length ci) vp (.slice none 0 0) zs ps [] ((A.alloc O).set A.next O') (hvi.le (AW.le.upd A O O') hw) (hp.le (AW.le.upd A O O') hw) (IsInts.nil _ _) he
    rw [he]
    obtain ⟨op, cp, rfl, _⟩ := hp.form
    obtain ⟨wds, ords, bas, c0, c1, c2, c3, rds, wrs, als, fre, clk, stg⟩ := c
    unfold scV scCells CfgS.cells at cN
    unfold scV scCells CfgS.cells
    simp only [List.cons_append, List.nil_append] at cN ⊢
    repeat' (first
    | (refine lwc fun R hR => ?_; simp [wrap_i64, wrap_u64, AW.row_get, astore]; try simp (disch := omega) only [if_pos, if_neg, wrap_i64, wrap_u64])
    | (refine hR _ _ ?_; clear hR R) | (refine hK _ _ ?_; clear hK K) | refine lwn ?_ | refine lr ?_ | refine la ?_
    | refine wn fun K hK => ?_
    | simp only [wS]
    | refine wb ?_ | refine wr ?_ | refine wk ?_ | refine we ?_ | refine ws ?_ | refine wq ?_
    | (refine wc rfl (fun hc => ?_) (fun hc => ?_) <;> (try simp at hc) <;> (try omega))
    | (refine ib (fun hc => ?_) (fun hc => ?_) <;> (try omega) <;> (try simp (disch := omega) only [if_pos, if_neg])))
    refine (cN _ _).mono ?_
    rintro u A2 ⟨b, rfl, hle2, hw2⟩
    first | refine ⟨hle2, ?_⟩ | skip
    repeat' (first
    | (refine lwc fun R hR => ?_; simp [wrap_i64, wrap_u64, AW.row_get, astore]; try simp (disch := omega) only [if_pos, if_neg, wrap_i64, wrap_u64])
    | (refine hR _ _ ?_; clear hR R) | (refine hK _ _ ?_; clear hK K) | refine lwn ?_ | refine lr ?_ | refine la ?_
    | refine wn fun K hK => ?_
    | simp only [wS]
    | refine wb ?_ | refine wr ?_ | refine wk ?_ | refine we ?_ | refine ws ?_ | refine wq ?_
    | (refine wc rfl (fun hc => ?_) (fun hc => ?_) <;> (try simp at hc) <;> (try omega))
    | (refine ib (fun hc => ?_) (fun hc => ?_) <;> (try omega) <;> (try simp (disch := omega) only [if_pos, if_neg])))
    refine awp_rounds 1 ?_
    repeat' (first
    | (refine lwc fun R hR => ?_; simp [wrap_i64, wrap_u64, AW.row_get, astore]; try simp (disch := omega) only [if_pos, if_neg, wrap_i64, wrap_u64])
    | (refine hR _ _ ?_; clear hR R) | (refine hK _ _ ?_; clear hK K) | refine lwn ?_ | refine lr ?_ | refine la ?_
    | refine wn fun K hK => ?_
    | simp only [wS]
    | refine wb ?_ | refine wr ?_ | refine wk ?_ | refine we ?_ | refine ws ?_ | refine wq ?_
    | (refine wc rfl (fun hc => ?_) (fun hc => ?_) <;> (try simp at hc) <;> (try omega))
    | (refine ib (fun hc => ?_) (fun hc => ?_) <;> (try omega) <;> (try simp (disch := omega) only [if_pos, if_neg])))
    all_goals simp [AThen, APost, ares, aresL, ares1]
  · have cN := fun O O' => newErr_call hF c (.slice oi zs.length ci) vp (.slice none 0 0) zs.length ci oi ps [] ((A.alloc O).set A.next O') rfl (hp.le (AW.le.upd A O O') hw) (IsInts.nil _ _) he
    generalize scriptErr c zs.length ps [] = r at he cN ⊢
    obtain ⟨r1, r2, r3⟩ := r
    have he : ¬ r3 = 0 := he
    obtain ⟨op, cp, rfl, _⟩ := hp.form
    obtain ⟨wds, ords, bas, c0, c1, c2, c3, rds, wrs, als, fre, clk, stg⟩ := c
    unfold scV scCells CfgS.cells errN at cN
    unfold scV scCells CfgS.cells
    simp only [List.cons_append, List.nil_append] at cN ⊢
    repeat' (first
    | (refine lwc fun R hR => ?_; simp [wrap_i64, wrap_u64, AW.row_get, astore, he]; try simp (disch := omega) only [if_pos, if_neg, wrap_i64, wrap_u64])
    | (refine hR _ _ ?_; clear hR R) | (refine hK _ _ ?_; clear hK K) | refine lwn ?_ | refine lr ?_ | refine la ?_
    | refine wn fun K hK => ?_
    | simp only [wS]
    | (refine callK (cN _ _) ?_; rintro _ _ ⟨rfl, rfl⟩ _ _)
    | refine wb ?_ | refine wr ?_ | refine wk ?_ | refine we ?_ | refine ws ?_ | refine wq ?_
    | (refine wc rfl (fun hc => ?_) (fun hc => ?_) <;> (try simp at hc) <;> (try omega))
    | (refine ib (fun hc => ?_) (fun hc => ?_) <;> (try omega) <;> (try simp (disch := omega) only [if_pos, if_neg])))
    all_goals simp [AThen, APost, ares, aresL, ares1]

set_option maxHeartbeats 4000000 in
theorem soloRefuses_law (hF : FOK) (hA : ∀ B, ACall Tryz.prog 11 [] B (fun u A' => u = .bool true ∧ B = A')) (c : CfgS) (vi vp : Value) (zs : List Int) (ps : List (List InsV)) (ok : Option Addr) (nk ck : Nat) (A : AW) (hvi : IsInts A .u64 vi zs) (hp : IsProgs A vp ps) :
    ACall Tryz.prog 4 [scV c vi vp (.slice ok nk ck)] A (fun u A' => u = .bool true) := by
  refine acall_intro Tryz.func4 rfl (by kernel_rfl) fun hw => ?_
  obtain ⟨oi, ci, rfl, _⟩ := hvi.form
  obtain ⟨op, cp, rfl, _⟩ := hp.form
  have hle := fun O L K => (AW.le.alloc A O).trans (bareM_le (A.alloc O) L K)
  have cB := fun B => bare_call c oi op ok zs.length ci ps.length cp nk ck B
  have cR := fun O L K => refScript_call hF.n c (.slice oi zs.length ci) (.slice op ps.length cp) (.slice none 0 0) zs.length ci oi ps [] (bareM (A.alloc O) L K) rfl (hp.le (hle O L K) hw) (IsInts.nil _ _)
  have cS := fun O L K => schedule_call hF c (.slice oi zs.length ci) (.slice op ps.length cp) zs ps ok nk ck (bareM (A.alloc O) L K) (hvi.le (hle O L K) hw) (hp.le (hle O L K) hw)
  have hbm : ∀ O L K, (bareM (A.alloc O) L K).get A.next = some O := fun O L K => (bareM_le (A.alloc O) L K).keep (hw.alloc O) (AW.alloc_get_new A O)
  generalize scriptErr c zs.length ps [] = r at cR cS
  obtain ⟨r1, r2, r3⟩ := r
  simp only at cS
  obtain ⟨wds, ords, bas, c0, c1, c2, c3, rds, wrs, als, fre, clk, stg⟩ := c
  unfold scV scCells CfgS.cells at cB cS
  unfold scV scCells CfgS.cells errV3 at cR
  unfold scV scCells CfgS.cells
  simp only [List.cons_append, List.nil_append] at cB cR cS ⊢
  by_cases h20 : 20 < ps.length
  · repeat' (first
  | (refine lwc fun R hR => ?_; simp [wrap_i64, wrap_u64, AW.row_get, astore, h20]; try simp (disch := omega) only [if_pos, if_neg, wrap_i64, wrap_u64])
  | (refine hR _ _ ?_; clear hR R) | (refine hK _ _ ?_; clear hK K) | refine lwn ?_ | refine lr ?_ | refine la ?_
  | refine wn fun K hK => ?_
  | simp only [wS]
  | (refine callK (hA _) ?_; rintro _ _ ⟨rfl, rfl⟩ _ _)
  | refine wb ?_ | refine wr ?_ | refine wk ?_ | refine we ?_ | refine ws ?_ | refine wq ?_
  | (refine wc rfl (fun hc => ?_) (fun hc => ?_) <;> (try simp at hc) <;> (try omega))
  | (refine ib (fun hc => ?_) (fun hc => ?_) <;> (try omega) <;> (try simp (disch := omega) only [if_pos, if_neg])))
    all_goals simp [AThen, APost, ares, aresL, ares1]
  by_cases h80 : 80 < zs.length
  · repeat' (first
  | (refine lwc fun R hR => ?_; simp [wrap_i64, wrap_u64, AW.row_get, astore, h20, h80]; try simp (disch := omega) only [if_pos, if_neg, wrap_i64, wrap_u64])
  | (refine hR _ _ ?_; clear hR R) | (refine hK _ _ ?_; clear hK K) | refine lwn ?_ | refine lr ?_ | refine la ?_
  | refine wn fun K hK => ?_
  | simp only [wS]
  | (refine callK (hA _) ?_; rintro _ _ ⟨rfl, rfl⟩ _ _)
  | refine wb ?_ | refine wr ?_ | refine wk ?_ | refine we ?_ | refine ws ?_ | refine wq ?_
  | (refine wc rfl (fun hc => ?_) (fun hc => ?_) <;> (try simp at hc) <;> (try omega))
  | (refine ib (fun hc => ?_) (fun hc => ?_) <;> (try omega) <;> (try simp (disch := omega) only [if_pos, if_neg])))
    all_goals simp [AThen, APost, ares, aresL, ares1]
  repeat' (first
  | (refine lwc fun R hR => ?_; simp [wrap_i64, wrap_u64, AW.row_get, astore, h20, h80, hbm]; try simp (disch := omega) only [if_pos, if_neg, wrap_i64, wrap_u64])
  | (refine hR _ _ ?_; clear hR R) | (refine hK _ _ ?_; clear hK K) | refine lwn ?_ | refine lr ?_ | refine la ?_
  | refine wn fun K hK => ?_
  | simp only [wS]
  | (refine callK (cB _) ?_; rintro _ _ ⟨rfl, rfl⟩ _ _)
  | (refine callK (cR _ _ _) ?_; rintro _ _ ⟨rfl, rfl⟩ _ _)
  | refine wb ?_ | refine wr ?_ | refine wk ?_ | refine we ?_ | refine ws ?_ | refine wq ?_
  | (refine wc rfl (fun hc => ?_) (fun hc => ?_) <;> (try simp at hc) <;> (try omega))
  | (refine ib (fun hc => ?_) (fun hc => ?_) <;> (try omega) <;> (try simp (disch := omega) only [if_pos, if_neg])))
  refine (cS _ _ _).mono ?_
  rintro u A2 rfl
  repeat' (first
  | (refine lwc fun R hR => ?_; simp [wrap_i64, wrap_u64, AW.row_get, astore]; try simp (disch := omega) only [if_pos, if_neg, wrap_i64, wrap_u64])
  | (refine hR _ _ ?_; clear hR R) | (refine hK _ _ ?_; clear hK K) | refine lwn ?_ | refine lr ?_ | refine la ?_
  | refine wn fun K hK => ?_
  | simp only [wS]
  | (refine callK (hA _) ?_; rintro _ _ ⟨rfl, rfl⟩ _ _)
  | refine wb ?_ | refine wr ?_ | refine wk ?_ | refine we ?_ | refine ws ?_ | refine wq ?_
  | (refine wc rfl (fun hc => ?_) (fun hc => ?_) <;> (try simp at hc) <;> (try omega))
  | (refine ib (fun hc => ?_) (fun hc => ?_) <;> (try omega) <;> (try simp (disch := omega) only [if_pos, if_neg])))
  all_goals simp [AThen, APost, ares, aresL, ares1]
end Go.Stx
