/-
  The cells of the statements on locks: their configuration is fixed.
-/
import Derived.Test.YtajhaafmlnoioaaLockC
namespace Go.Stx
open Go Go.Proofs
attribute [local irreducible] AWP LWalk ACall ARounds lops nops
set_option linter.unusedVariables false
set_option linter.unusedSimpArgs false

def cfgV : Value := .agg #[.int .i64 6, .int .i64 6, .int .i64 0, .int .i64 0, .int .i64 0, .int .i64 0, .int .i64 0, .int .i64 6, .int .i64 6, .int .i64 0, .int .i64 0, .int .i64 0, .bool false]

theorem config_call (A : AW) : ACall Try.prog 13 [] A (fun v A' => v = cfgV ∧ A = A') := by
  refine ACall.gc0 (V := cfgV) (VBelow.agg (by simp [cfgV])) (fun hw => ?_) (by kernel_rfl)
  refine acall_intro Try.func13 rfl (by kernel_rfl) fun _ => ?_
  repeat' (first
  | (refine lwc fun R hR => ?_; simp [wrap_i64, wrap_u64, AW.row_get, astore]; try simp (disch := omega) only [if_pos, if_neg, wrap_i64, wrap_u64])
  | (refine hR _ _ ?_; clear hR R) | (refine hK _ _ ?_; clear hK K) | refine lwn ?_ | refine lr ?_ | refine la ?_
  | refine wn fun K hK => ?_
  | simp only [nops, nop, lops, lop, slimG, List.map_cons, List.map_nil, List.filterMap_cons, List.filterMap_nil, Option.map_none, Option.map_some, List.getElem?_toArray, List.getElem?_cons_zero, List.getElem?_cons_succ, Option.bind_some]
  | refine wb ?_ | refine wr ?_ | refine wk ?_ | refine we ?_ | refine ws ?_ | refine wq ?_
  | ((refine wc rfl (fun hc => ?_) (fun hc => ?_)) <;> (try simp at hc) <;> (try omega))
  | ((refine ib (fun hc => ?_) (fun hc => ?_)) <;> (try omega) <;> (try simp (disch := omega) only [if_pos, if_neg])))
  refine ⟨_, by simp [AW.get_alloc, AW.get_set, AW.row_get, astore]; rfl, by simp [cfgV], ?_⟩
  exact (AW.le.alloc A _).set (Nat.le_refl _) _

theorem heap_cfg (A : AW) : ACall Try.prog 77 [cfgV] A (fun v A' => v = .tuple #[.int .i64 0, .int .i64 0, .bool true] ∧ A = A') := by
  refine ACall.gc0 (V := .tuple #[.int .i64 0, .int .i64 0, .bool true]) (VBelow.tuple (by simp)) (fun hw => ?_) (by kernel_rfl)
  refine acall_intro Try.func77 rfl (by kernel_rfl) fun _ => ?_
  repeat' (first
  | (refine lwc fun R hR => ?_; simp [wrap_i64, wrap_u64, cfgV, AW.row_get, astore]; try simp (disch := omega) only [if_pos, if_neg, wrap_i64, wrap_u64])
  | (refine hR _ _ ?_; clear hR R) | (refine hK _ _ ?_; clear hK K) | refine lwn ?_ | refine lr ?_ | refine la ?_
  | refine wn fun K hK => ?_
  | simp only [nops, nop, lops, lop, slimG, List.map_cons, List.map_nil, List.filterMap_cons, List.filterMap_nil, Option.map_none, Option.map_some, List.getElem?_toArray, List.getElem?_cons_zero, List.getElem?_cons_succ, Option.bind_some]
  | refine wb ?_ | refine wr ?_ | refine wk ?_ | refine we ?_ | refine ws ?_ | refine wq ?_
  | ((refine wc rfl (fun hc => ?_) (fun hc => ?_)) <;> (try simp at hc) <;> (try omega))
  | ((refine ib (fun hc => ?_) (fun hc => ?_)) <;> (try omega) <;> (try simp (disch := omega) only [if_pos, if_neg])))
  refine awp_rounds 5 ?_
  repeat' (first
  | (refine lwc fun R hR => ?_; simp [wrap_i64, wrap_u64, cfgV, AW.row_get, astore]; try simp (disch := omega) only [if_pos, if_neg, wrap_i64, wrap_u64])
  | (refine hR _ _ ?_; clear hR R) | (refine hK _ _ ?_; clear hK K) | refine lwn ?_ | refine lr ?_ | refine la ?_
  | refine wn fun K hK => ?_
  | simp only [nops, nop, lops, lop, slimG, List.map_cons, List.map_nil, List.filterMap_cons, List.filterMap_nil, Option.map_none, Option.map_some, List.getElem?_toArray, List.getElem?_cons_zero, List.getElem?_cons_succ, Option.bind_some]
  | refine wb ?_ | refine wr ?_ | refine wk ?_ | refine we ?_ | refine ws ?_ | refine wq ?_
  | ((refine wc rfl (fun hc => ?_) (fun hc => ?_)) <;> (try simp at hc) <;> (try omega))
  | ((refine ib (fun hc => ?_) (fun hc => ?_)) <;> (try omega) <;> (try simp (disch := omega) only [if_pos, if_neg])))
  exact ⟨_, (by simp [wrap_i64]; rfl), by simp, AW.le.alloc _ _⟩

theorem within_call (n lo hi : Int) (A : AW) : ACall Try.prog 78 [.int .i64 n, .int .i64 lo, .int .i64 hi] A (fun v A' => v = .bool (decide (lo ≤ n ∧ n ≤ hi)) ∧ A = A') := by
  refine acall_intro Try.func78 rfl (by kernel_rfl) fun _ => ?_
  repeat' (first
  | (refine lwc fun R hR => ?_; simp [wrap_i64, wrap_u64]; try simp (disch := omega) only [if_pos, if_neg, wrap_i64, wrap_u64])
  | (refine hR _ _ ?_; clear hR R) | (refine hK _ _ ?_; clear hK K) | refine lwn ?_ | refine lr ?_ | refine la ?_
  | refine wn fun K hK => ?_
  | simp only [nops, nop, lops, lop, slimG, List.map_cons, List.map_nil, List.filterMap_cons, List.filterMap_nil, Option.map_none, Option.map_some, List.getElem?_toArray, List.getElem?_cons_zero, List.getElem?_cons_succ, Option.bind_some]
  | refine wb ?_ | refine wr ?_ | refine wk ?_ | refine we ?_ | refine ws ?_ | refine wq ?_
  | ((refine wc rfl (fun hc => ?_) (fun hc => ?_)) <;> (try simp at hc) <;> (try omega))
  | ((refine ib (fun hc => ?_) (fun hc => ?_)) <;> (try omega) <;> (try simp (disch := omega) only [if_pos, if_neg])))
  all_goals (simp_all <;> omega)

theorem check_cfg (A : AW) : ACall Try.prog 55 [cfgV] A (fun v A' => v = .int .i64 0 ∧ A = A') := by
  refine ACall.gc0 (V := .int .i64 0) VBelow.int (fun hw => ?_) (by kernel_rfl)
  refine acall_intro Try.func55 rfl (by kernel_rfl) fun _ => ?_
  repeat' (first
  | (refine lwc fun R hR => ?_; simp [wrap_i64, wrap_u64, AW.row_get, astore]; try simp (disch := omega) only [if_pos, if_neg, wrap_i64, wrap_u64])
  | (refine hR _ _ ?_; clear hR R) | (refine hK _ _ ?_; clear hK K) | refine lwn ?_ | refine lr ?_ | refine la ?_
  | refine wn fun K hK => ?_
  | simp only [nops, nop, lops, lop, slimG, List.map_cons, List.map_nil, List.filterMap_cons, List.filterMap_nil, Option.map_none, Option.map_some, List.getElem?_toArray, List.getElem?_cons_zero, List.getElem?_cons_succ, Option.bind_some]
  | (refine callK (heap_cfg _) ?_; rintro _ _ ⟨rfl, rfl⟩ _ _)
  | (refine callK (within_call _ _ _ _) ?_; rintro _ _ ⟨rfl, rfl⟩ _ _)
  | refine wb ?_ | refine wr ?_ | refine wk ?_ | refine we ?_ | refine ws ?_ | refine wq ?_
  | ((refine wc rfl (fun hc => ?_) (fun hc => ?_)) <;> (try simp at hc) <;> (try omega))
  | ((refine ib (fun hc => ?_) (fun hc => ?_)) <;> (try omega) <;> (try simp (disch := omega) only [if_pos, if_neg])))
  exact ⟨_, (by first | (simp; done) | (simp; rfl)), rfl, AW.le.alloc _ _⟩

theorem blocks_cfg (A : AW) : ACall Try.prog 79 [cfgV] A (fun v A' => v = .int .i64 0 ∧ A = A') := by
  refine ACall.gc0 (V := .int .i64 0) VBelow.int (fun hw => ?_) (by kernel_rfl)
  refine acall_intro Try.func79 rfl (by kernel_rfl) fun _ => ?_
  repeat' (first
  | (refine lwc fun R hR => ?_; simp [wrap_i64, wrap_u64, cfgV, AW.row_get, astore]; try simp (disch := omega) only [if_pos, if_neg, wrap_i64, wrap_u64])
  | (refine hR _ _ ?_; clear hR R) | (refine hK _ _ ?_; clear hK K) | refine lwn ?_ | refine lr ?_ | refine la ?_
  | refine wn fun K hK => ?_
  | simp only [nops, nop, lops, lop, slimG, List.map_cons, List.map_nil, List.filterMap_cons, List.filterMap_nil, Option.map_none, Option.map_some, List.getElem?_toArray, List.getElem?_cons_zero, List.getElem?_cons_succ, Option.bind_some]
  | (refine callK (heap_cfg _) ?_; rintro _ _ ⟨rfl, rfl⟩ _ _)
  | (refine callK (check_cfg _) ?_; rintro _ _ ⟨rfl, rfl⟩ _ _)
  | refine wb ?_ | refine wr ?_ | refine wk ?_ | refine we ?_ | refine ws ?_ | refine wq ?_
  | ((refine wc rfl (fun hc => ?_) (fun hc => ?_)) <;> (try simp at hc) <;> (try omega))
  | ((refine ib (fun hc => ?_) (fun hc => ?_)) <;> (try omega) <;> (try simp (disch := omega) only [if_pos, if_neg])))
  exact ⟨_, (by first | (simp; done) | (simp; rfl)), rfl, AW.le.alloc _ _⟩

theorem head_cfg (A : AW) : ACall Try.prog 80 [.int .i64 0, .int .i64 (-1)] A (fun v A' => v = .tuple #[.int .u64 0, .int .i64 0] ∧ A = A') := by
  refine acall_intro Try.func80 rfl (by kernel_rfl) fun _ => ?_
  repeat' (first
  | (refine lwc fun R hR => ?_; simp [wrap_i64, wrap_u64]; try simp (disch := omega) only [if_pos, if_neg, wrap_i64, wrap_u64])
  | (refine hR _ _ ?_; clear hR R) | (refine hK _ _ ?_; clear hK K) | refine lwn ?_ | refine lr ?_ | refine la ?_
  | refine wn fun K hK => ?_
  | simp only [nops, nop, lops, lop, slimG, List.map_cons, List.map_nil, List.filterMap_cons, List.filterMap_nil, Option.map_none, Option.map_some, List.getElem?_toArray, List.getElem?_cons_zero, List.getElem?_cons_succ, Option.bind_some]
  | refine wb ?_ | refine wr ?_ | refine wk ?_ | refine we ?_ | refine ws ?_ | refine wq ?_
  | ((refine wc rfl (fun hc => ?_) (fun hc => ?_)) <;> (try simp at hc) <;> (try omega))
  | ((refine ib (fun hc => ?_) (fun hc => ?_)) <;> (try omega) <;> (try simp (disch := omega) only [if_pos, if_neg])))
  exact ⟨_, (by first | (simp [wrap_u64]; done) | (simp [wrap_u64]; rfl)), rfl, rfl⟩

set_option maxHeartbeats 1000000 in
theorem lists_cfg (A : AW) (F : HP) (hw : A.Wf) (hS : Sat A F) : ACall Try.prog 56 [cfgV] A (fun v A' => ∃ vh vn, v = .tuple #[vh, vn] ∧ Sat A' (IntsH .u64 vh [0, 0, 0, 0] * (IntsH .u64 vn [] * F))) := by
  refine acall_intro Try.func56 rfl (by kernel_rfl) fun _ => ?_
  repeat' (first
  | (refine lwc fun R hR => ?_; simp [wrap_i64, wrap_u64, AW.row_get, astore]; try simp (disch := omega) only [if_pos, if_neg, wrap_i64, wrap_u64])
  | (refine hR _ _ ?_; clear hR R) | (refine hK _ _ ?_; clear hK K) | refine lwn ?_ | refine lr ?_ | refine la ?_
  | refine wn fun K hK => ?_
  | simp only [nops, nop, lops, lop, slimG, List.map_cons, List.map_nil, List.filterMap_cons, List.filterMap_nil, Option.map_none, Option.map_some, List.getElem?_toArray, List.getElem?_cons_zero, List.getElem?_cons_succ, Option.bind_some]
  | (refine callK (blocks_cfg _) ?_; rintro _ _ ⟨rfl, rfl⟩ _ _)
  | refine wb ?_ | refine wr ?_ | refine wk ?_ | refine we ?_ | refine ws ?_ | refine wq ?_
  | ((refine wc rfl (fun hc => ?_) (fun hc => ?_)) <;> (try simp at hc) <;> (try omega))
  | ((refine ib (fun hc => ?_) (fun hc => ?_)) <;> (try omega) <;> (try simp (disch := omega) only [if_pos, if_neg])))
  repeat' (first
  | (refine lwc fun R hR => ?_; simp [wrap_i64, wrap_u64, cfgV, AW.row_get, astore]; try simp (disch := omega) only [if_pos, if_neg, wrap_i64, wrap_u64])
  | (refine hR _ _ ?_; clear hR R) | (refine hK _ _ ?_; clear hK K) | refine lwn ?_ | refine lr ?_ | refine la ?_
  | refine wn fun K hK => ?_
  | simp only [nops, nop, lops, lop, slimG, List.map_cons, List.map_nil, List.filterMap_cons, List.filterMap_nil, Option.map_none, Option.map_some, List.getElem?_toArray, List.getElem?_cons_zero, List.getElem?_cons_succ, Option.bind_some]
  | (refine callK (head_cfg _) ?_; rintro _ _ ⟨rfl, rfl⟩ _ _)
  | (refine awp_rounds 5 ?_)
  | refine wb ?_ | refine wr ?_ | refine wk ?_ | refine we ?_ | refine ws ?_ | refine wq ?_
  | ((refine wc rfl (fun hc => ?_) (fun hc => ?_)) <;> (try simp at hc) <;> (try omega))
  | ((refine ib (fun hc => ?_) (fun hc => ?_)) <;> (try omega) <;> (try simp (disch := omega) only [if_pos, if_neg])))
  have hw1 := hw.alloc (.cells cfgV.cells.toList true 1)
  have hw2 := hw1.alloc (.cells [.int .u64 0, .int .u64 0, .int .u64 0, .int .u64 0] true 1)
  have hS1 := ((hS.alloc hw (.cells cfgV.cells.toList true 1)).alloc hw1 (.cells [.int .u64 0, .int .u64 0, .int .u64 0, .int .u64 0] true 1)).alloc hw2 (.cells [] true 1)
  simp only [AW.alloc_next] at hS1
  refine ⟨_, (by first | (simp; done) | (simp; rfl)), .slice (some ⟨A.next + 1, 0, none⟩) 4 4, .slice (some ⟨A.next + 1 + 1, 0, none⟩) 0 0, rfl, ?_⟩
  have key : ∀ A' : AW, Sat A' (pt (A.next + 1) (.cells [.int .u64 0, .int .u64 0, .int .u64 0, .int .u64 0] true 1) * (pt (A.next + 1 + 1) (.cells [] true 1) * (pt A.next (.cells cfgV.cells.toList true 1) * F))) →
      Sat A' (IntsH .u64 (.slice (some ⟨A.next + 1, 0, none⟩) 4 4) [0, 0, 0, 0] * (IntsH .u64 (.slice (some ⟨A.next + 1 + 1, 0, none⟩) 0 0) [] * F)) := fun A' h => by
    have h1 := IntsH.mk (k := .u64) (b := A.next + 1) (off := 0) (c := 4) (n := 4) (l := [0, 0, 0, 0]) rfl (by simp) (by simp) (by simp) h
    have h2 := IntsH.mk (k := .u64) (b := A.next + 1 + 1) (off := 0) (c := 0) (n := 0) (l := []) (F := IntsH .u64 (.slice (some ⟨A.next + 1, 0, none⟩) 4 4) [0, 0, 0, 0] * (pt A.next (.cells cfgV.cells.toList true 1) * F)) rfl (by simp) (by simp) (by simp) (h1.cast (by ac_rfl))
    have h3 : Sat A' (pt A.next (.cells cfgV.cells.toList true 1) * (IntsH .u64 (.slice (some ⟨A.next + 1, 0, none⟩) 4 4) [0, 0, 0, 0] * (IntsH .u64 (.slice (some ⟨A.next + 1 + 1, 0, none⟩) 0 0) [] * F))) := h2.cast (by ac_rfl)
    exact h3.right
  refine key _ (Sat.upd2 (hS1.cast (by ac_rfl) : Sat _ (pt (A.next + 1) (.cells [.int .u64 0, .int .u64 0, .int .u64 0, .int .u64 0] true 1) * (pt (A.next + 1 + 1) (.cells [] true 1) * (pt A.next (.cells cfgV.cells.toList true 1) * F)))) (by simp [AW.get_set]) (by simp [AW.get_set, AW.get_alloc]) (fun j x h1 h2 hx => ?_))
  simp only [AW.get_set, h1, if_false]
  exact hx

end Go.Stx
