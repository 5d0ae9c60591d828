/-
  Scripts refused alike by the check and by the machine.
-/
import Derived.Test.YtcffnkgjmneaeaaGreatDoorMnA
namespace Go.Stx
open Go Go.Proofs
attribute [local irreducible] AWP LWalk ACall ARounds lops nops
set_option linter.unusedVariables false
set_option linter.unusedSimpArgs false
set_option linter.unusedSectionVars false
set_option maxRecDepth 20000
variable [Gl]

def resZ : Value := .agg #[.slice none 0 0, .slice none 0 0, .int .u64 0, .int .u64 0, .int .u64 0, .slice none 0 0, .slice none 0 0, .slice none 0 0, .slice none 0 0, .slice none 0 0, .slice none 0 0, .slice none 0 0]
def errR (x : Nat × Nat × Int) : Value := .tuple #[resZ, .int .i64 x.1, .int .i64 x.2.1, .int .i64 x.2.2]

set_option maxHeartbeats 4000000 in
theorem runErr21_call (hF : FOK) (c : CfgS) (vi vp vk : Value) (ni ci : Nat) (oi : Option Addr) (ps : List (List InsV)) (pk : List Int) (A : AW) (hvi : vi = .slice oi ni ci) (hp : IsProgs A vp ps) (hk : IsInts A .i64 vk pk)
    (he : ¬ (scriptErr c ni ps pk).2.2 = 0) : ACall Tryz.prog 37 [scV c vi vp vk] A (fun u A' => u = errR (scriptErr c ni ps pk) ∧ A = A') := by
  refine ACall.gc0 (V := errR (scriptErr c ni ps pk)) (VBelow.tuple (by simp [resZ]; exact VBelow.agg (by simp))) (fun hw => ?_) (by kernel_rfl)
  refine acall_intro Tryz.func37 rfl (by kernel_rfl) fun _ => ?_
  have cS := fun O O' => newErr_call hF c vi vp vk ni ci oi ps pk ((A.alloc O).alloc O') hvi (hp.le ((AW.le.alloc A O).trans (AW.le.alloc _ O')) hw) (hk.le ((AW.le.alloc A O).trans (AW.le.alloc _ O')) hw) he
  generalize scriptErr c ni ps pk = r at he cS ⊢
  obtain ⟨r1, r2, r3⟩ := r
  subst hvi
  obtain ⟨op, cp, rfl, _⟩ := hp.form
  obtain ⟨ok, ck, rfl, _⟩ := hk.form
  have he : ¬ r3 = 0 := he
  obtain ⟨wds, ords, bas, c0, c1, c2, c3, rds, wrs, als, fre, clk, stg⟩ := c
  unfold scV scCells CfgS.cells errN at cS
  unfold scV scCells CfgS.cells errR resZ
  simp only [List.cons_append, List.nil_append] at cS ⊢
  repeat' (first
  | (refine lwc fun R hR => ?_; simp [wrap_i64, wrap_u64, AW.row_get, astore, he]; try simp (disch := omega) only [if_pos, if_neg, wrap_i64, wrap_u64])
  | (refine hR _ _ ?_; clear hR R) | (refine hK _ _ ?_; clear hK K) | refine lwn ?_ | refine lr ?_ | refine la ?_
  | refine wn fun K hK => ?_
  | simp only [wS]
  | (refine callK (cS _ _) ?_; rintro _ _ ⟨rfl, rfl⟩ _ _)
  | refine wb ?_ | refine wr ?_ | refine wk ?_ | refine we ?_ | refine ws ?_ | refine wq ?_
  | (refine wc rfl (fun hc => ?_) (fun hc => ?_) <;> (try simp at hc) <;> (try omega))
  | (refine ib (fun hc => ?_) (fun hc => ?_) <;> (try omega) <;> (try simp (disch := omega) only [if_pos, if_neg])))
  all_goals (simp [AThen, APost, ares, aresL, ares1, aload, AW.row_get, AW.get_set] <;> exact ((AW.le.alloc A _).trans (AW.le.alloc _ _)).set (by simp) _)

set_option maxHeartbeats 8000000 in
theorem refuses21_call (hF : FOK) (c : CfgS) (vi vp vk : Value) (zs : List Int) (ps : List (List InsV)) (pk : List Int) (A : AW) (hvi : IsInts A .u64 vi zs) (hp : IsProgs A vp ps) (hk : IsInts A .i64 vk pk) :
    ACall Tryz.prog 17 [scV c vi vp vk] A (fun u A' => u = .bool true ∧ A.le A' ∧ A'.Wf) := by
  refine acall_intro Tryz.func17 rfl (by kernel_rfl) fun hw => ?_
  obtain ⟨oi, ci, rfl, _⟩ := hvi.form
  obtain ⟨op, cp, rfl, _⟩ := hp.form
  obtain ⟨ok, ck, rfl, _⟩ := hk.form
  have cC := fun O => refScript_call hF.n c (.slice oi zs.length ci) (.slice op ps.length cp) (.slice ok pk.length ck) zs.length ci oi ps pk (A.alloc O) rfl (hp.le (AW.le.alloc A O) hw) (hk.le (AW.le.alloc A O) hw)
  by_cases he : (scriptErr c zs.length ps pk).2.2 = 0
  · have cN := fun O => newOk_call hF c (.slice oi zs.length ci) (.slice op ps.length cp) (.slice ok pk.length ck) zs ps pk (A.alloc O) (hvi.le (AW.le.alloc A O) hw) (hp.le (AW.le.alloc A O) hw) (hk.le (AW.le.alloc A O) hw) he
    rw [(script_ok he).1] at cC
    obtain ⟨wds, ords, bas, c0, c1, c2, c3, rds, wrs, als, fre, clk, stg⟩ := c
    unfold scV scCells CfgS.cells errV3 at cC
    unfold scV scCells CfgS.cells at cN
    unfold scV scCells CfgS.cells
    simp only [List.cons_append, List.nil_append] at cC cN ⊢
    repeat' (first
    | (refine lwc fun R hR => ?_; simp [wrap_i64, wrap_u64, AW.row_get, astore]; try simp (disch := omega) only [if_pos, if_neg, wrap_i64, wrap_u64])
    | (refine hR _ _ ?_; clear hR R) | (refine hK _ _ ?_; clear hK K) | refine lwn ?_ | refine lr ?_ | refine la ?_
    | refine wn fun K hK => ?_
    | simp only [wS]
    | (refine callK (cC _) ?_; rintro _ _ ⟨rfl, rfl⟩ _ _)
    | refine wb ?_ | refine wr ?_ | refine wk ?_ | refine we ?_ | refine ws ?_ | refine wq ?_
    | (refine wc rfl (fun hc => ?_) (fun hc => ?_) <;> (try simp at hc) <;> (try omega))
    | (refine ib (fun hc => ?_) (fun hc => ?_) <;> (try omega) <;> (try simp (disch := omega) only [if_pos, if_neg])))
    refine (cN _).mono ?_
    rintro u A2 ⟨b, rfl, hle2, hw2⟩
    first | refine ⟨hle2, ?_⟩ | skip
    repeat' (first
    | (refine lwc fun R hR => ?_; simp [wrap_i64, wrap_u64, AW.row_get, astore]; try simp (disch := omega) only [if_pos, if_neg, wrap_i64, wrap_u64])
    | (refine hR _ _ ?_; clear hR R) | (refine hK _ _ ?_; clear hK K) | refine lwn ?_ | refine lr ?_ | refine la ?_
    | refine wn fun K hK => ?_
    | simp only [wS]
    | refine wb ?_ | refine wr ?_ | refine wk ?_ | refine we ?_ | refine ws ?_ | refine wq ?_
    | (refine wc rfl (fun hc => ?_) (fun hc => ?_) <;> (try simp at hc) <;> (try omega))
    | (refine ib (fun hc => ?_) (fun hc => ?_) <;> (try omega) <;> (try simp (disch := omega) only [if_pos, if_neg])))
    all_goals (simp [AThen, APost, ares, aresL, ares1]; exact ⟨(AW.le.alloc A _).trans hle2, hw2⟩)
  · have cN := fun O => newErr_call hF c (.slice oi zs.length ci) (.slice op ps.length cp) (.slice ok pk.length ck) zs.length ci oi ps pk (A.alloc O) rfl (hp.le (AW.le.alloc A O) hw) (hk.le (AW.le.alloc A O) hw) he
    have cR := fun O => runErr21_call hF c (.slice oi zs.length ci) (.slice op ps.length cp) (.slice ok pk.length ck) zs.length ci oi ps pk (A.alloc O) rfl (hp.le (AW.le.alloc A O) hw) (hk.le (AW.le.alloc A O) hw) he
    generalize scriptErr c zs.length ps pk = r at he cC cN cR
    obtain ⟨r1, r2, r3⟩ := r
    have he : ¬ r3 = 0 := he
    obtain ⟨wds, ords, bas, c0, c1, c2, c3, rds, wrs, als, fre, clk, stg⟩ := c
    unfold scV scCells CfgS.cells errV3 at cC
    unfold scV scCells CfgS.cells errN at cN
    unfold scV scCells CfgS.cells errR resZ at cR
    unfold scV scCells CfgS.cells
    simp only [List.cons_append, List.nil_append] at cC cN cR ⊢
    repeat' (first
    | (refine lwc fun R hR => ?_; simp [wrap_i64, wrap_u64, AW.row_get, astore, he]; try simp (disch := omega) only [if_pos, if_neg, wrap_i64, wrap_u64])
    | (refine hR _ _ ?_; clear hR R) | (refine hK _ _ ?_; clear hK K) | refine lwn ?_ | refine lr ?_ | refine la ?_
    | refine wn fun K hK => ?_
    | simp only [wS]
    | (refine callK (cC _) ?_; rintro _ _ ⟨rfl, rfl⟩ _ _)
    | (refine callK (cN _) ?_; rintro _ _ ⟨rfl, rfl⟩ _ _)
    | (refine callK (cR _) ?_; rintro _ _ ⟨rfl, rfl⟩ _ _)
    | refine wb ?_ | refine wr ?_ | refine wk ?_ | refine we ?_ | refine ws ?_ | refine wq ?_
    | (refine wc rfl (fun hc => ?_) (fun hc => ?_) <;> (try simp at hc) <;> (try omega))
    | (refine ib (fun hc => ?_) (fun hc => ?_) <;> (try omega) <;> (try simp (disch := omega) only [if_pos, if_neg])))
    all_goals (simp [AThen, APost, ares, aresL, ares1]; exact ⟨((AW.le.alloc A _).trans (AW.le.alloc _ _)).set (by simp) _, ((hw.alloc _).alloc _).set _ (by simp)⟩)
end Go.Stx
