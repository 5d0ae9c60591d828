/-
  The cells of the program and of the reference, made alike.
-/
import Derived.Test.YtajhaafmlnoioaaRefMem
namespace Go.Stx
open Go Go.Proofs
attribute [local irreducible] AWP LWalk ACall ARounds lops nops
set_option linter.unusedVariables false
set_option linter.unusedSimpArgs false

def initI : List Int := [1, 11, 21, 31, 41, 51]
def M0 (nt : Nat) : Nat → List Int := fun k => if k = 0 then initI else if k = 1 then List.replicate 6 0 else if k = 5 then List.replicate nt 0 else if k = 6 then [0, 0, 0, 0] else if k = 7 then [] else [0]

set_option maxRecDepth 100000 in
set_option maxHeartbeats 4000000 in
theorem start_cfg (nt : Nat) (A : AW) (F : HP) (hw : A.Wf) (hS : Sat A F) (h1 : 1 ≤ nt) (h16 : nt ≤ 16) :
    ACall Try.prog 12 [cfgV, .int .i64 (nt : Int)] A (fun v A' => ∃ pb mb, v = .tuple #[.agg #[.pointer (some ⟨pb, 0, none⟩), .pointer (some ⟨mb, 0, none⟩)], .bool true] ∧
      Sat A' (MemH pb (M0 nt) * (RefH mb (M0 nt) * F))) := by
  refine acall_intro Try.func12 rfl (by kernel_rfl) fun _ => ?_
  have hcv : Value.agg (List.take 13 cfgV.cells.toList).toArray = cfgV := rfl
  have hw1 := hw.alloc (.cells cfgV.cells.toList true 1)
  have hw2 := hw1.alloc (.cells [.pointer none, .pointer none] true 1)
  have hS1 := (hS.alloc hw (.cells cfgV.cells.toList true 1)).alloc hw1 (.cells [.pointer none, .pointer none] true 1)
  simp only [AW.alloc_next] at hS1
  repeat' (first
  | (refine lwc fun R hR => ?_; simp [wrap_i64, wrap_u64, AW.row_get, astore]; try simp (disch := omega) only [if_pos, if_neg, wrap_i64, wrap_u64])
  | (refine hR _ _ ?_; clear hR R) | (refine hK _ _ ?_; clear hK K) | refine lwn ?_ | refine lr ?_ | refine la ?_
  | refine wn fun K hK => ?_
  | simp only [nops, nop, lops, lop, slimG, List.map_cons, List.map_nil, List.filterMap_cons, List.filterMap_nil, Option.map_none, Option.map_some, List.getElem?_toArray, List.getElem?_cons_zero, List.getElem?_cons_succ, Option.bind_some]
  | refine wb ?_ | refine wr ?_ | refine wk ?_ | refine we ?_ | refine ws ?_ | refine wq ?_
  | ((refine wc rfl (fun hc => ?_) (fun hc => ?_)) <;> (try simp at hc) <;> (try omega))
  | ((refine ib (fun hc => ?_) (fun hc => ?_)) <;> (try omega) <;> (try simp (disch := omega) only [if_pos, if_neg])))
  refine awp_loop (fun k fr A' => ∃ (j : Nat) (v6 : Value), k = 6 - j ∧ j ≤ 6 ∧ fr 1 = .int .i64 (nt : Int) ∧ fr 2 = .pointer (some ⟨A.next, 0, none⟩) ∧ fr 4 = .pointer (some ⟨A.next + 1, 0, none⟩) ∧ fr 6 = v6 ∧ fr 7 = .int .i64 (j : Int) ∧ A'.Wf ∧
    Sat A' (IntsH .u64 v6 (initI.take j) * (pt A.next (.cells cfgV.cells.toList true 1) * (pt (A.next + 1) (.cells [.pointer none, .pointer none] true 1) * F)))) 6 ?_ ?_
  · refine ⟨0, .slice none 0 0, rfl, by omega, by simp, by simp, by simp, by simp, by simp, hw2, ?_⟩
    have h0 := IntsH.nil (k := .u64) hS1
    exact h0.cast (by show _ = IntsH .u64 (.slice none 0 0) [] * _; ac_rfl)
  · rintro k fr A1 ⟨j, v6, rfl, hj, f1, f2, f4, f6, f7, hw3, hS3⟩
    have hgc := hS3.right.get
    have hgr := hS3.right.right.get
    obtain ⟨nc, nc'⟩ := hw3.old hgc
    have ncr := hS3.right.ne
    by_cases hlt : j < 6
    · have hlti : (j : Int) < 6 := by omega
      have e0 : IntKind.i64.wrap (10 * (j : Int)) = 10 * (j : Int) := wrap_i64 (by omega) (by omega)
      have e2 : IntKind.i64.wrap (10 * (j : Int) + 1) = 10 * (j : Int) + 1 := wrap_i64 (by omega) (by omega)
      have e3 : IntKind.u64.wrap (10 * (j : Int) + 1) = 10 * (j : Int) + 1 := wrap_u64 (by omega) (by omega)
      have ht : initI.take (j + 1) = initI.take j ++ [10 * (j : Int) + 1] := by
        have : j = 0 ∨ j = 1 ∨ j = 2 ∨ j = 3 ∨ j = 4 ∨ j = 5 := by omega
        rcases this with rfl | rfl | rfl | rfl | rfl | rfl <;> rfl
      obtain ⟨v', A2, e1, hS4, hw4, _⟩ := IntsH.append (P := Try.prog) (t := 57) (10 * (j : Int) + 1) Try.underlying57 Try.info38 Try.zero38 rfl rfl hS3 (by simp; omega) (by simp) hw3
      repeat' (first
      | (refine lwc fun R hR => ?_; simp [wrap_i64, wrap_u64, f1, f2, f4, f6, f7, AW.row_get, astore, hgc, nc, nc', e0, e2, e3, e1, hlti, cfgV]; try simp (disch := omega) only [if_pos, if_neg, wrap_i64, wrap_u64])
      | (refine hR _ _ ?_; clear hR R) | (refine hK _ _ ?_; clear hK K) | refine lwn ?_ | refine lr ?_ | refine la ?_
      | refine wn fun K hK => ?_
      | simp only [nops, nop, lops, lop, slimG, List.map_cons, List.map_nil, List.filterMap_cons, List.filterMap_nil, Option.map_none, Option.map_some, List.getElem?_toArray, List.getElem?_cons_zero, List.getElem?_cons_succ, Option.bind_some]
      | refine wb ?_ | refine wr ?_ | refine wk ?_ | refine we ?_ | refine ws ?_ | refine wq ?_
      | ((refine wc rfl (fun hc => ?_) (fun hc => ?_)) <;> (try simp at hc) <;> (try omega))
      | ((refine ib (fun hc => ?_) (fun hc => ?_)) <;> (try omega) <;> (try simp (disch := omega) only [if_pos, if_neg])))
      all_goals
        refine ⟨6 - (j + 1), by omega, j + 1, v', rfl, by omega, by simp [f1], by simp [f2], by simp [f4], by simp, by simp, hw4, ?_⟩
        rw [ht]
        exact hS4
    · have hj6 : j = 6 := by omega
      subst hj6
      have ht : initI.take 6 = initI := rfl
      rw [ht] at hS3
      repeat' (first
      | (refine lwc fun R hR => ?_; simp [wrap_i64, wrap_u64, f1, f2, f4, f6, f7, AW.row_get, astore, hgc, nc, nc', cfgV]; try simp (disch := omega) only [if_pos, if_neg, wrap_i64, wrap_u64])
      | (refine hR _ _ ?_; clear hR R) | (refine hK _ _ ?_; clear hK K) | refine lwn ?_ | refine lr ?_ | refine la ?_
      | refine wn fun K hK => ?_
      | simp only [nops, nop, lops, lop, slimG, List.map_cons, List.map_nil, List.filterMap_cons, List.filterMap_nil, Option.map_none, Option.map_some, List.getElem?_toArray, List.getElem?_cons_zero, List.getElem?_cons_succ, Option.bind_some]
      | refine wb ?_ | refine wr ?_ | refine wk ?_ | refine we ?_ | refine ws ?_ | refine wq ?_
      | ((refine wc rfl (fun hc => ?_) (fun hc => ?_)) <;> (try simp at hc) <;> (try omega))
      | ((refine ib (fun hc => ?_) (fun hc => ?_)) <;> (try omega) <;> (try simp (disch := omega) only [if_pos, if_neg])))
      have hcv2 : Value.agg #[.int .i64 6, .int .i64 6, .int .i64 0, .int .i64 0, .int .i64 0, .int .i64 0, .int .i64 0, .int .i64 6, .int .i64 6, .int .i64 0, .int .i64 0, .int .i64 0, .bool false] = cfgV := rfl
      rw [hcv2]
      refine callK (new_cfg nt v6 initI A1 _ (IntsH .u64 v6 initI) (fun A F h => IntsH.is h) hw3 hS3 h1 h16 rfl) ?_
      rintro v A2 ⟨pb, rfl, hS4⟩ hw4 _
      have hM : (fun k => if k = 0 then initI else if k = 1 then List.replicate 6 0 else if k = 5 then List.replicate nt 0 else if k = 6 then [0, 0, 0, 0] else if k = 7 then [] else [0]) = M0 nt := rfl
      rw [hM] at hS4
      have hS5 : Sat A2 (pt A.next (.cells cfgV.cells.toList true 1) * (IntsH .u64 v6 initI * (MemH pb (M0 nt) * (pt (A.next + 1) (.cells [.pointer none, .pointer none] true 1) * F)))) := hS4.cast (by ac_rfl)
      have hgc2 := hS5.get
      repeat' (first
      | (refine lwc fun R hR => ?_; simp [wrap_i64, wrap_u64, f1, f2, f4, f6, f7, AW.row_get, astore, hgc2, cfgV]; try simp (disch := omega) only [if_pos, if_neg, wrap_i64, wrap_u64])
      | (refine hR _ _ ?_; clear hR R) | (refine hK _ _ ?_; clear hK K) | refine lwn ?_ | refine lr ?_ | refine la ?_
      | refine wn fun K hK => ?_
      | simp only [nops, nop, lops, lop, slimG, List.map_cons, List.map_nil, List.filterMap_cons, List.filterMap_nil, Option.map_none, Option.map_some, List.getElem?_toArray, List.getElem?_cons_zero, List.getElem?_cons_succ, Option.bind_some]
      | refine wb ?_ | refine wr ?_ | refine wk ?_ | refine we ?_ | refine ws ?_ | refine wq ?_
      | ((refine wc rfl (fun hc => ?_) (fun hc => ?_)) <;> (try simp at hc) <;> (try omega))
      | ((refine ib (fun hc => ?_) (fun hc => ?_)) <;> (try omega) <;> (try simp (disch := omega) only [if_pos, if_neg])))
      rw [hcv2]
      have hS6 : Sat A2 (IntsH .u64 v6 initI * (MemH pb (M0 nt) * (pt A.next (.cells cfgV.cells.toList true 1) * (pt (A.next + 1) (.cells [.pointer none, .pointer none] true 1) * F)))) := hS4.cast (by ac_rfl)
      refine callK (refNew_cfg nt v6 initI A2 _ (IntsH .u64 v6 initI) (fun A F h => IntsH.is h) hw4 hS6 h16 rfl) ?_
      rintro v A3 ⟨mb, rfl, hS7⟩ hw5 _
      rw [hM] at hS7
      have hS8 : Sat A3 (pt (A.next + 1) (.cells [.pointer none, .pointer none] true 1) * (pt A.next (.cells cfgV.cells.toList true 1) * (IntsH .u64 v6 initI * (MemH pb (M0 nt) * (RefH mb (M0 nt) * F))))) := hS7.cast (by ac_rfl)
      have hgr3 := hS8.get
      repeat' (first
      | (refine lwc fun R hR => ?_; simp [wrap_i64, wrap_u64, f1, f2, f4, f6, f7, AW.row_get, astore, hgr3, cfgV]; try simp (disch := omega) only [if_pos, if_neg, wrap_i64, wrap_u64])
      | (refine hR _ _ ?_; clear hR R) | (refine hK _ _ ?_; clear hK K) | refine lwn ?_ | refine lr ?_ | refine la ?_
      | refine wn fun K hK => ?_
      | simp only [nops, nop, lops, lop, slimG, List.map_cons, List.map_nil, List.filterMap_cons, List.filterMap_nil, Option.map_none, Option.map_some, List.getElem?_toArray, List.getElem?_cons_zero, List.getElem?_cons_succ, Option.bind_some]
      | refine wb ?_ | refine wr ?_ | refine wk ?_ | refine we ?_ | refine ws ?_ | refine wq ?_
      | ((refine wc rfl (fun hc => ?_) (fun hc => ?_)) <;> (try simp at hc) <;> (try omega))
      | ((refine ib (fun hc => ?_) (fun hc => ?_)) <;> (try omega) <;> (try simp (disch := omega) only [if_pos, if_neg])))
      refine ⟨_, by first | (simp [f4, AW.get_set, AW.row_get]; done) | (simp [f4, AW.get_set, AW.row_get]; rfl), pb, mb, rfl, ?_⟩
      exact ((hS8.set _).right.right.right)

end Go.Stx
