/-
  The example of the statements on locks.
-/
import Derived.Test.YtajhaafmlnoioaaLockE
import Derived.Test.YtajhaafmlnoioaaLockP
namespace Go.Stx
open Go Go.Proofs
attribute [local irreducible] AWP LWalk ACall ARounds lops nops
set_option linter.unusedVariables false
set_option linter.unusedSimpArgs false

def awA : LockS := ⟨0, [1, 3], [], 0, false⟩
def awB : LockS := ⟨1, [1], [], 0, false⟩
def aw1 := lockStep awA (M0 2)
def aw2 := lockStep aw1.2.1 aw1.2.2
def aw3 := lockStep awB aw2.2.2
def aw4 := lockStep aw3.2.1 aw3.2.2
def aw5 := lockStep aw2.2.1 aw4.2.2
def aw6 := lockStep aw5.2.1 aw5.2.2

theorem sorted313 : sortedF [3, 1, 3] = [1, 3] := by rw [sortedF_eq]; decide +kernel
theorem sorted1 : sortedF [1] = [1] := by rw [sortedF_eq]; decide +kernel

set_option maxRecDepth 100000 in
set_option maxHeartbeats 4000000 in
theorem awake_call (A : AW) (F : HP) (hS : Sat A F) : ACall Try.prog 7 [] A (fun v A' => v = .bool true ∧ Sat A' F) := by
  refine acall_intro Try.func7 rfl (by kernel_rfl) fun hw => ?_
  repeat' (first
  | (refine lwc fun R hR => ?_; simp [wrap_i64, wrap_u64, AW.row_get, astore]; try simp (disch := omega) only [if_pos, if_neg, wrap_i64, wrap_u64])
  | (refine hR _ _ ?_; clear hR R) | (refine hK _ _ ?_; clear hK K) | refine lwn ?_ | refine lr ?_ | refine la ?_
  | refine wn fun K hK => ?_
  | simp only [nops, nop, lops, lop, slimG, List.map_cons, List.map_nil, List.filterMap_cons, List.filterMap_nil, Option.map_none, Option.map_some, List.getElem?_toArray, List.getElem?_cons_zero, List.getElem?_cons_succ, Option.bind_some]
  | (refine callK (config_call _) ?_; rintro _ _ ⟨rfl, rfl⟩ _ _)
  | refine wb ?_ | refine wr ?_ | refine wk ?_ | refine we ?_ | refine ws ?_ | refine wq ?_
  | ((refine wc rfl (fun hc => ?_) (fun hc => ?_)) <;> (try simp at hc) <;> (try omega))
  | ((refine ib (fun hc => ?_) (fun hc => ?_)) <;> (try omega) <;> (try simp (disch := omega) only [if_pos, if_neg])))
  refine callK (start_cfg 2 A F hw hS (by omega) (by omega)) ?_
  rintro v A1 ⟨pb, mb, rfl, hS1⟩ hw1 _
  repeat' (first
  | (refine lwc fun R hR => ?_; simp [wrap_i64, wrap_u64, AW.row_get, astore]; try simp (disch := omega) only [if_pos, if_neg, wrap_i64, wrap_u64])
  | (refine hR _ _ ?_; clear hR R) | (refine hK _ _ ?_; clear hK K) | refine lwn ?_ | refine lr ?_ | refine la ?_
  | refine wn fun K hK => ?_
  | simp only [nops, nop, lops, lop, slimG, List.map_cons, List.map_nil, List.filterMap_cons, List.filterMap_nil, Option.map_none, Option.map_some, List.getElem?_toArray, List.getElem?_cons_zero, List.getElem?_cons_succ, Option.bind_some]
  | refine wb ?_ | refine wr ?_ | refine wk ?_ | refine we ?_ | refine ws ?_ | refine wq ?_
  | ((refine wc rfl (fun hc => ?_) (fun hc => ?_)) <;> (try simp at hc) <;> (try omega))
  | ((refine ib (fun hc => ?_) (fun hc => ?_)) <;> (try omega) <;> (try simp (disch := omega) only [if_pos, if_neg])))
  obtain ⟨pq, hpq⟩ : ∃ pq, pq = A1.next := ⟨_, rfl⟩
  obtain ⟨pairC, hpc⟩ : ∃ pairC, pairC = AObj.cells [Value.pointer (some ⟨pb, 0, none⟩), Value.pointer (some ⟨mb, 0, none⟩)] true 1 := ⟨_, rfl⟩
  have hwp := (hw1.alloc (.cells [.pointer none, .pointer none] true 1)).set (i := A1.next) (some pairC) (by simp)
  have hSp := (hS1.alloc hw1 (.cells [.pointer none, .pointer none] true 1)).set pairC
  have hS2 := hSp.alloc hwp (.cells [.int .i64 3, .int .i64 1, .int .i64 3] true 1)
  have hw2 := hwp.alloc (.cells [.int .i64 3, .int .i64 1, .int .i64 3] true 1)
  simp only [AW.set_next, AW.alloc_next] at hS2
  rw [← hpc, ← hpq]
  rw [← hpq] at hS2 hw2
  refine callK (newLock_call 0 _ [3, 1, 3] _ _ (IsInts.of_get (l := [3, 1, 3]) hS2.get rfl (Nat.le_refl 3) rfl) (by simp) hw2 hS2) ?_
  rintro v A3 ⟨ba, rfl, hS3⟩ hw3 _
  rw [sorted313] at hS3
  have hS3' : Sat A3 (pt pq pairC * (LockH ba awA * (MemH pb (M0 2) * (RefH mb (M0 2) * F)))) := Sat.right (P := pt (pq + 1) (.cells [.int .i64 3, .int .i64 1, .int .i64 3] true 1)) (hS3.cast (by unfold awA; ac_rfl))
  repeat' (first
  | (refine lwc fun R hR => ?_; simp [wrap_i64, wrap_u64, AW.row_get, astore]; try simp (disch := omega) only [if_pos, if_neg, wrap_i64, wrap_u64])
  | (refine hR _ _ ?_; clear hR R) | (refine hK _ _ ?_; clear hK K) | refine lwn ?_ | refine lr ?_ | refine la ?_
  | refine wn fun K hK => ?_
  | simp only [nops, nop, lops, lop, slimG, List.map_cons, List.map_nil, List.filterMap_cons, List.filterMap_nil, Option.map_none, Option.map_some, List.getElem?_toArray, List.getElem?_cons_zero, List.getElem?_cons_succ, Option.bind_some]
  | refine wb ?_ | refine wr ?_ | refine wk ?_ | refine we ?_ | refine ws ?_ | refine wq ?_
  | ((refine wc rfl (fun hc => ?_) (fun hc => ?_)) <;> (try simp at hc) <;> (try omega))
  | ((refine ib (fun hc => ?_) (fun hc => ?_)) <;> (try omega) <;> (try simp (disch := omega) only [if_pos, if_neg])))
  have hw4 := hw3.alloc (.cells [.int .i64 1] true 1)
  have hS4 := hS3'.alloc hw3 (.cells [.int .i64 1] true 1)
  refine callK (newLock_call 1 _ [1] _ _ (IsInts.of_get (l := [1]) hS4.get rfl (Nat.le_refl 1) rfl) (by simp) hw4 hS4) ?_
  rintro v A5 ⟨bb, rfl, hS5⟩ hw5 _
  rw [sorted1] at hS5
  have hT0 : Sat A5 (LockH ba awA * (MemH pb (M0 2) * (LockH bb awB * (pt pq pairC * (RefH mb (M0 2) * F))))) := Sat.right (P := pt A3.next (.cells [.int .i64 1] true 1)) (hS5.cast (by unfold awB; ac_rfl))
  have hgp := (hT0.cast (by ac_rfl) : Sat A5 (pt pq pairC * (LockH ba awA * (MemH pb (M0 2) * (LockH bb awB * (RefH mb (M0 2) * F)))))).get
  rw [hpc] at hgp
  repeat' (first
  | (refine lwc fun R hR => ?_; simp [wrap_i64, wrap_u64, AW.row_get, astore, hgp]; try simp (disch := omega) only [if_pos, if_neg, wrap_i64, wrap_u64])
  | (refine hR _ _ ?_; clear hR R) | (refine hK _ _ ?_; clear hK K) | refine lwn ?_ | refine lr ?_ | refine la ?_
  | refine wn fun K hK => ?_
  | simp only [nops, nop, lops, lop, slimG, List.map_cons, List.map_nil, List.filterMap_cons, List.filterMap_nil, Option.map_none, Option.map_some, List.getElem?_toArray, List.getElem?_cons_zero, List.getElem?_cons_succ, Option.bind_some]
  | refine wb ?_ | refine wr ?_ | refine wk ?_ | refine we ?_ | refine ws ?_ | refine wq ?_
  | ((refine wc rfl (fun hc => ?_) (fun hc => ?_)) <;> (try simp at hc) <;> (try omega))
  | ((refine ib (fun hc => ?_) (fun hc => ?_)) <;> (try omega) <;> (try simp (disch := omega) only [if_pos, if_neg])))
  have hV0 : Sat _ ((LockH ba awA * MemH pb (M0 2)) * (LockH bb awB * (pt pq pairC * (RefH mb (M0 2) * F)))) := hT0.cast (by ac_rfl)
  refine (lockStep_call ba pb awA (M0 2) (by decide +kernel) (by decide +kernel)).use hw5 hV0 rfl ?_
  intro v B0 hU0 hx0 _
  obtain ⟨rfl, hY0⟩ := hU0.unpost
  clear hU0
  change Sat B0 ((LockH ba aw1.2.1 * MemH pb aw1.2.2) * (LockH bb awB * (pt pq pairC * (RefH mb (M0 2) * F)))) at hY0
  have hZ0 : Sat B0 (pt pq pairC * (LockH ba aw1.2.1 * (LockH bb awB * (MemH pb aw1.2.2 * ((RefH mb (M0 2) * F)))))) := hY0.cast (by ac_rfl)
  have hq0 := hZ0.get
  rw [hpc] at hq0
  obtain ⟨nq, nq'⟩ := hx0.old hq0
  have hrr : (lockStep awA (M0 2)).1 = aw1.1 := rfl
  rw [hrr]
  repeat' (first
  | (refine lwc fun R hR => ?_; simp [wrap_i64, wrap_u64, AW.row_get, astore, Acc.v, hq0, nq, nq']; try simp (disch := omega) only [if_pos, if_neg, wrap_i64, wrap_u64])
  | (refine hR _ _ ?_; clear hR R) | (refine hK _ _ ?_; clear hK K) | refine lwn ?_ | refine lr ?_ | refine la ?_
  | refine wn fun K hK => ?_
  | simp only [nops, nop, lops, lop, slimG, List.map_cons, List.map_nil, List.filterMap_cons, List.filterMap_nil, Option.map_none, Option.map_some, List.getElem?_toArray, List.getElem?_cons_zero, List.getElem?_cons_succ, Option.bind_some]
  | refine wb ?_ | refine wr ?_ | refine wk ?_ | refine we ?_ | refine ws ?_ | refine wq ?_
  | ((refine wc rfl (fun hc => ?_) (fun hc => ?_)) <;> (try simp at hc) <;> (try omega))
  | ((refine ib (fun hc => ?_) (fun hc => ?_)) <;> (try omega) <;> (try simp (disch := omega) only [if_pos, if_neg])))
  obtain ⟨xb, hxb⟩ : ∃ xb, xb = B0.next := ⟨_, rfl⟩
  have hT1 : Sat ((B0.alloc (.cells accZ true 1)).set B0.next (some (.cells aw1.1.cells true 1))) (LockH ba aw1.2.1 * (LockH bb awB * (MemH pb aw1.2.2 * (pt xb (.cells aw1.1.cells true 1) * (pt pq pairC * (RefH mb (M0 2) * F)))))) := by
    have := (hZ0.alloc hx0 (.cells accZ true 1)).set (.cells aw1.1.cells true 1)
    rw [← hxb] at this ⊢
    exact this.cast (by ac_rfl)
  have hw1' : ((B0.alloc (.cells accZ true 1)).set B0.next (some (.cells aw1.1.cells true 1))).Wf := (hx0.alloc _).set _ (by simp)
  have hV1 : Sat _ ((LockH ba aw1.2.1 * MemH pb aw1.2.2) * (LockH bb awB * (pt xb (.cells aw1.1.cells true 1) * (pt pq pairC * (RefH mb (M0 2) * F))))) := hT1.cast (by ac_rfl)
  refine (lockStep_call ba pb aw1.2.1 aw1.2.2 (by decide +kernel) (by decide +kernel)).use hw1' hV1 rfl ?_
  intro v B1 hU1 hx1 _
  obtain ⟨rfl, hY1⟩ := hU1.unpost
  clear hU1
  change Sat B1 ((LockH ba aw2.2.1 * MemH pb aw2.2.2) * (LockH bb awB * (pt xb (.cells aw1.1.cells true 1) * (pt pq pairC * (RefH mb (M0 2) * F))))) at hY1
  have hZ1 : Sat B1 (pt pq pairC * (LockH ba aw2.2.1 * (LockH bb awB * (MemH pb aw2.2.2 * (pt xb (.cells aw1.1.cells true 1) * ((RefH mb (M0 2) * F))))))) := hY1.cast (by ac_rfl)
  have hq1 := hZ1.get
  rw [hpc] at hq1
  repeat' (first
  | (refine lwc fun R hR => ?_; simp [wrap_i64, wrap_u64, AW.row_get, astore, Acc.v, hq1]; try simp (disch := omega) only [if_pos, if_neg, wrap_i64, wrap_u64])
  | (refine hR _ _ ?_; clear hR R) | (refine hK _ _ ?_; clear hK K) | refine lwn ?_ | refine lr ?_ | refine la ?_
  | refine wn fun K hK => ?_
  | simp only [nops, nop, lops, lop, slimG, List.map_cons, List.map_nil, List.filterMap_cons, List.filterMap_nil, Option.map_none, Option.map_some, List.getElem?_toArray, List.getElem?_cons_zero, List.getElem?_cons_succ, Option.bind_some]
  | refine wb ?_ | refine wr ?_ | refine wk ?_ | refine we ?_ | refine ws ?_ | refine wq ?_
  | ((refine wc rfl (fun hc => ?_) (fun hc => ?_)) <;> (try simp at hc) <;> (try omega))
  | ((refine ib (fun hc => ?_) (fun hc => ?_)) <;> (try omega) <;> (try simp (disch := omega) only [if_pos, if_neg])))
  have hT2 : Sat B1 (LockH ba aw2.2.1 * (LockH bb awB * (MemH pb aw2.2.2 * (pt xb (.cells aw1.1.cells true 1) * (pt pq pairC * (RefH mb (M0 2) * F)))))) := hY1.cast (by ac_rfl)
  have hV2 : Sat _ ((LockH bb awB * MemH pb aw2.2.2) * (LockH ba aw2.2.1 * (pt xb (.cells aw1.1.cells true 1) * (pt pq pairC * (RefH mb (M0 2) * F))))) := hT2.cast (by ac_rfl)
  refine (lockStep_call bb pb awB aw2.2.2 (by decide +kernel) (by decide +kernel)).use hx1 hV2 rfl ?_
  intro v B2 hU2 hx2 _
  obtain ⟨rfl, hY2⟩ := hU2.unpost
  clear hU2
  change Sat B2 ((LockH bb aw3.2.1 * MemH pb aw3.2.2) * (LockH ba aw2.2.1 * (pt xb (.cells aw1.1.cells true 1) * (pt pq pairC * (RefH mb (M0 2) * F))))) at hY2
  have hZ2 : Sat B2 (pt pq pairC * (LockH ba aw2.2.1 * (LockH bb aw3.2.1 * (MemH pb aw3.2.2 * (pt xb (.cells aw1.1.cells true 1) * ((RefH mb (M0 2) * F))))))) := hY2.cast (by ac_rfl)
  have hq2 := hZ2.get
  rw [hpc] at hq2
  repeat' (first
  | (refine lwc fun R hR => ?_; simp [wrap_i64, wrap_u64, AW.row_get, astore, Acc.v, hq2]; try simp (disch := omega) only [if_pos, if_neg, wrap_i64, wrap_u64])
  | (refine hR _ _ ?_; clear hR R) | (refine hK _ _ ?_; clear hK K) | refine lwn ?_ | refine lr ?_ | refine la ?_
  | refine wn fun K hK => ?_
  | simp only [nops, nop, lops, lop, slimG, List.map_cons, List.map_nil, List.filterMap_cons, List.filterMap_nil, Option.map_none, Option.map_some, List.getElem?_toArray, List.getElem?_cons_zero, List.getElem?_cons_succ, Option.bind_some]
  | refine wb ?_ | refine wr ?_ | refine wk ?_ | refine we ?_ | refine ws ?_ | refine wq ?_
  | ((refine wc rfl (fun hc => ?_) (fun hc => ?_)) <;> (try simp at hc) <;> (try omega))
  | ((refine ib (fun hc => ?_) (fun hc => ?_)) <;> (try omega) <;> (try simp (disch := omega) only [if_pos, if_neg])))
  have hT3 : Sat B2 (LockH ba aw2.2.1 * (LockH bb aw3.2.1 * (MemH pb aw3.2.2 * (pt xb (.cells aw1.1.cells true 1) * (pt pq pairC * (RefH mb (M0 2) * F)))))) := hY2.cast (by ac_rfl)
  have hV3 : Sat _ ((LockH bb aw3.2.1 * MemH pb aw3.2.2) * (LockH ba aw2.2.1 * (pt xb (.cells aw1.1.cells true 1) * (pt pq pairC * (RefH mb (M0 2) * F))))) := hT3.cast (by ac_rfl)
  refine (lockStep_call bb pb aw3.2.1 aw3.2.2 (by decide +kernel) (by decide +kernel)).use hx2 hV3 rfl ?_
  intro v B3 hU3 hx3 _
  obtain ⟨rfl, hY3⟩ := hU3.unpost
  clear hU3
  change Sat B3 ((LockH bb aw4.2.1 * MemH pb aw4.2.2) * (LockH ba aw2.2.1 * (pt xb (.cells aw1.1.cells true 1) * (pt pq pairC * (RefH mb (M0 2) * F))))) at hY3
  have hZ3 : Sat B3 (pt pq pairC * (LockH ba aw2.2.1 * (LockH bb aw4.2.1 * (MemH pb aw4.2.2 * (pt xb (.cells aw1.1.cells true 1) * ((RefH mb (M0 2) * F))))))) := hY3.cast (by ac_rfl)
  have hq3 := hZ3.get
  rw [hpc] at hq3
  repeat' (first
  | (refine lwc fun R hR => ?_; simp [wrap_i64, wrap_u64, AW.row_get, astore, Acc.v, hq3]; try simp (disch := omega) only [if_pos, if_neg, wrap_i64, wrap_u64])
  | (refine hR _ _ ?_; clear hR R) | (refine hK _ _ ?_; clear hK K) | refine lwn ?_ | refine lr ?_ | refine la ?_
  | refine wn fun K hK => ?_
  | simp only [nops, nop, lops, lop, slimG, List.map_cons, List.map_nil, List.filterMap_cons, List.filterMap_nil, Option.map_none, Option.map_some, List.getElem?_toArray, List.getElem?_cons_zero, List.getElem?_cons_succ, Option.bind_some]
  | refine wb ?_ | refine wr ?_ | refine wk ?_ | refine we ?_ | refine ws ?_ | refine wq ?_
  | ((refine wc rfl (fun hc => ?_) (fun hc => ?_)) <;> (try simp at hc) <;> (try omega))
  | ((refine ib (fun hc => ?_) (fun hc => ?_)) <;> (try omega) <;> (try simp (disch := omega) only [if_pos, if_neg])))
  have hT4 : Sat B3 (LockH ba aw2.2.1 * (LockH bb aw4.2.1 * (MemH pb aw4.2.2 * (pt xb (.cells aw1.1.cells true 1) * (pt pq pairC * (RefH mb (M0 2) * F)))))) := hY3.cast (by ac_rfl)
  have hV4 : Sat _ ((LockH ba aw2.2.1 * MemH pb aw4.2.2) * (LockH bb aw4.2.1 * (pt xb (.cells aw1.1.cells true 1) * (pt pq pairC * (RefH mb (M0 2) * F))))) := hT4.cast (by ac_rfl)
  refine (lockStep_call ba pb aw2.2.1 aw4.2.2 (by decide +kernel) (by decide +kernel)).use hx3 hV4 rfl ?_
  intro v B4 hU4 hx4 _
  obtain ⟨rfl, hY4⟩ := hU4.unpost
  clear hU4
  change Sat B4 ((LockH ba aw5.2.1 * MemH pb aw5.2.2) * (LockH bb aw4.2.1 * (pt xb (.cells aw1.1.cells true 1) * (pt pq pairC * (RefH mb (M0 2) * F))))) at hY4
  have hZ4 : Sat B4 (pt pq pairC * (LockH ba aw5.2.1 * (LockH bb aw4.2.1 * (MemH pb aw5.2.2 * (pt xb (.cells aw1.1.cells true 1) * ((RefH mb (M0 2) * F))))))) := hY4.cast (by ac_rfl)
  have hq4 := hZ4.get
  rw [hpc] at hq4
  repeat' (first
  | (refine lwc fun R hR => ?_; simp [wrap_i64, wrap_u64, AW.row_get, astore, Acc.v, hq4]; try simp (disch := omega) only [if_pos, if_neg, wrap_i64, wrap_u64])
  | (refine hR _ _ ?_; clear hR R) | (refine hK _ _ ?_; clear hK K) | refine lwn ?_ | refine lr ?_ | refine la ?_
  | refine wn fun K hK => ?_
  | simp only [nops, nop, lops, lop, slimG, List.map_cons, List.map_nil, List.filterMap_cons, List.filterMap_nil, Option.map_none, Option.map_some, List.getElem?_toArray, List.getElem?_cons_zero, List.getElem?_cons_succ, Option.bind_some]
  | refine wb ?_ | refine wr ?_ | refine wk ?_ | refine we ?_ | refine ws ?_ | refine wq ?_
  | ((refine wc rfl (fun hc => ?_) (fun hc => ?_)) <;> (try simp at hc) <;> (try omega))
  | ((refine ib (fun hc => ?_) (fun hc => ?_)) <;> (try omega) <;> (try simp (disch := omega) only [if_pos, if_neg])))
  have hT5 : Sat B4 (LockH ba aw5.2.1 * (LockH bb aw4.2.1 * (MemH pb aw5.2.2 * (pt xb (.cells aw1.1.cells true 1) * (pt pq pairC * (RefH mb (M0 2) * F)))))) := hY4.cast (by ac_rfl)
  have hV5 : Sat _ ((LockH ba aw5.2.1 * MemH pb aw5.2.2) * (LockH bb aw4.2.1 * (pt xb (.cells aw1.1.cells true 1) * (pt pq pairC * (RefH mb (M0 2) * F))))) := hT5.cast (by ac_rfl)
  refine (lockStep_call ba pb aw5.2.1 aw5.2.2 (by decide +kernel) (by decide +kernel)).use hx4 hV5 rfl ?_
  intro v B5 hU5 hx5 _
  obtain ⟨rfl, hY5⟩ := hU5.unpost
  clear hU5
  change Sat B5 ((LockH ba aw6.2.1 * MemH pb aw6.2.2) * (LockH bb aw4.2.1 * (pt xb (.cells aw1.1.cells true 1) * (pt pq pairC * (RefH mb (M0 2) * F))))) at hY5
  have hZ5 : Sat B5 (pt pq pairC * (LockH ba aw6.2.1 * (LockH bb aw4.2.1 * (MemH pb aw6.2.2 * (pt xb (.cells aw1.1.cells true 1) * ((RefH mb (M0 2) * F))))))) := hY5.cast (by ac_rfl)
  have hq5 := hZ5.get
  rw [hpc] at hq5
  repeat' (first
  | (refine lwc fun R hR => ?_; simp [wrap_i64, wrap_u64, AW.row_get, astore, Acc.v, hq5]; try simp (disch := omega) only [if_pos, if_neg, wrap_i64, wrap_u64])
  | (refine hR _ _ ?_; clear hR R) | (refine hK _ _ ?_; clear hK K) | refine lwn ?_ | refine lr ?_ | refine la ?_
  | refine wn fun K hK => ?_
  | simp only [nops, nop, lops, lop, slimG, List.map_cons, List.map_nil, List.filterMap_cons, List.filterMap_nil, Option.map_none, Option.map_some, List.getElem?_toArray, List.getElem?_cons_zero, List.getElem?_cons_succ, Option.bind_some]
  | refine wb ?_ | refine wr ?_ | refine wk ?_ | refine we ?_ | refine ws ?_ | refine wq ?_
  | ((refine wc rfl (fun hc => ?_) (fun hc => ?_)) <;> (try simp at hc) <;> (try omega))
  | ((refine ib (fun hc => ?_) (fun hc => ?_)) <;> (try omega) <;> (try simp (disch := omega) only [if_pos, if_neg])))
  have hT6 : Sat B5 (LockH ba aw6.2.1 * (LockH bb aw4.2.1 * (MemH pb aw6.2.2 * (pt xb (.cells aw1.1.cells true 1) * (pt pq pairC * (RefH mb (M0 2) * F)))))) := hY5.cast (by ac_rfl)
  have idx1 : aw1.1.idx = 1 := by decide +kernel
  have doneA : aw6.2.1.done = true := by decide +kernel
  have doneB : aw4.2.1.done = false := by decide +kernel
  have oldl : aw6.2.1.old.length = 2 := by decide +kernel
  have hgx := (hT6.cast (by ac_rfl) : Sat B5 (pt xb (.cells aw1.1.cells true 1) * (LockH ba aw6.2.1 * (LockH bb aw4.2.1 * (MemH pb aw6.2.2 * (pt pq pairC * (RefH mb (M0 2) * F))))))).get
  rw [hxb] at hgx
  have hTb : Sat B5 (LockH bb aw4.2.1 * (LockH ba aw6.2.1 * (MemH pb aw6.2.2 * (pt xb (.cells aw1.1.cells true 1) * (pt pq pairC * (RefH mb (M0 2) * F)))))) := hT6.cast (by ac_rfl)
  have hTm : Sat B5 (MemH pb aw6.2.2 * (LockH bb aw4.2.1 * (LockH ba aw6.2.1 * (pt xb (.cells aw1.1.cells true 1) * (pt pq pairC * (RefH mb (M0 2) * F)))))) := hT6.cast (by ac_rfl)
  simp [AW.row_get, hgx, Acc.cells, idx1]
  repeat' (first
  | (refine lwc fun R hR => ?_; simp [wrap_i64, wrap_u64, AW.row_get, astore, hgx, Acc.cells, idx1, doneA, doneB]; try simp (disch := omega) only [if_pos, if_neg, wrap_i64, wrap_u64])
  | (refine hR _ _ ?_; clear hR R) | (refine hK _ _ ?_; clear hK K) | refine lwn ?_ | refine lr ?_ | refine la ?_
  | refine wn fun K hK => ?_
  | simp only [nops, nop, lops, lop, slimG, List.map_cons, List.map_nil, List.filterMap_cons, List.filterMap_nil, Option.map_none, Option.map_some, List.getElem?_toArray, List.getElem?_cons_zero, List.getElem?_cons_succ, Option.bind_some]
  | (refine callK (lockDone_call ba aw6.2.1 _ _ hT6) ?_; rintro _ _ ⟨rfl, rfl⟩ _ _)
  | (refine callK (lockDone_call bb aw4.2.1 _ _ hTb) ?_; rintro _ _ ⟨rfl, rfl⟩ _ _)
  | refine wb ?_ | refine wr ?_ | refine wk ?_ | refine we ?_ | refine ws ?_ | refine wq ?_
  | ((refine wc rfl (fun hc => ?_) (fun hc => ?_)) <;> (try simp at hc) <;> (try omega))
  | ((refine ib (fun hc => ?_) (fun hc => ?_)) <;> (try omega) <;> (try simp (disch := omega) only [if_pos, if_neg])))
  refine callK (lockOld_call ba aw6.2.1 B5 _ hT6 (by rw [oldl]; decide)) ?_
  rintro v C1 ⟨h1, l1⟩ hc1 _
  obtain ⟨oo, co, hv, _⟩ := h1.is.form
  rw [oldl] at hv
  subst hv
  have hqc := l1.keep hx5 hq5
  repeat' (first
  | (refine lwc fun R hR => ?_; simp [wrap_i64, wrap_u64, AW.row_get, astore, hqc]; try simp (disch := omega) only [if_pos, if_neg, wrap_i64, wrap_u64])
  | (refine hR _ _ ?_; clear hR R) | (refine hK _ _ ?_; clear hK K) | refine lwn ?_ | refine lr ?_ | refine la ?_
  | refine wn fun K hK => ?_
  | simp only [nops, nop, lops, lop, slimG, List.map_cons, List.map_nil, List.filterMap_cons, List.filterMap_nil, Option.map_none, Option.map_some, List.getElem?_toArray, List.getElem?_cons_zero, List.getElem?_cons_succ, Option.bind_some]
  | refine wb ?_ | refine wr ?_ | refine wk ?_ | refine we ?_ | refine ws ?_ | refine wq ?_
  | ((refine wc rfl (fun hc => ?_) (fun hc => ?_)) <;> (try simp at hc) <;> (try omega))
  | ((refine ib (fun hc => ?_) (fun hc => ?_)) <;> (try omega) <;> (try simp (disch := omega) only [if_pos, if_neg])))
  have hlenM : ∀ k, k < 8 → (aw6.2.2 k).length < 2^39 := by decide +kernel
  refine callK (image_call pb aw6.2.2 C1 _ (hTm.le hx5 l1) hlenM (by decide +kernel) (by decide +kernel) (by decide +kernel)) ?_
  rintro v C2 ⟨⟨v0, v1, v5, v6, v7, rfl, i0, i1, i5, i6, i7⟩, l2⟩ hc2 _
  obtain ⟨o1, c1, rfl, _⟩ := i1.form
  have hl6 : aw6.2.2 1 = [0, 1, 0, 1, 0, 0] := by decide +kernel
  rw [hl6] at i1
  obtain ⟨p1, row1, own1, rfl, hg1, hc1'⟩ := i1.atg (i := 1) (by simp)
  have hval : ([0, 1, 0, 1, 0, 0] : List Int)[1] = 1 := rfl
  rw [hval] at hc1'
  have h16 : (aw6.2.2 1).length = 6 := by rw [hl6]; rfl
  repeat' (first
  | (refine lwc fun R hR => ?_; simp [wrap_i64, wrap_u64, AW.row_get, astore, hg1, hc1', h16]; try simp (disch := omega) only [if_pos, if_neg, wrap_i64, wrap_u64])
  | (refine hR _ _ ?_; clear hR R) | (refine hK _ _ ?_; clear hK K) | refine lwn ?_ | refine lr ?_ | refine la ?_
  | refine wn fun K hK => ?_
  | simp only [nops, nop, lops, lop, slimG, List.map_cons, List.map_nil, List.filterMap_cons, List.filterMap_nil, Option.map_none, Option.map_some, List.getElem?_toArray, List.getElem?_cons_zero, List.getElem?_cons_succ, Option.bind_some]
  | refine wb ?_ | refine wr ?_ | refine wk ?_ | refine we ?_ | refine ws ?_ | refine wq ?_
  | ((refine wc rfl (fun hc => ?_) (fun hc => ?_)) <;> (try simp at hc) <;> (try omega))
  | ((refine ib (fun hc => ?_) (fun hc => ?_)) <;> (try omega) <;> (try simp (disch := omega) only [if_pos, if_neg])))
  have hc3 := hc2.alloc (.cells [.int .i64 3, .int .i64 1, .int .i64 3] true 1)
  refine callK (sorted_call _ [3, 1, 3] _ (IsInts.of_get (l := [3, 1, 3]) (AW.alloc_get_new C2 _) rfl (Nat.le_refl 3) rfl) (by simp)) ?_
  rintro v C4 ⟨h4, l4⟩ hc4 _
  rw [sorted313] at h4
  obtain ⟨o4, c4, rfl, _⟩ := h4.is.form
  repeat' (first
  | (refine lwc fun R hR => ?_; simp [wrap_i64, wrap_u64, AW.row_get, astore]; try simp (disch := omega) only [if_pos, if_neg, wrap_i64, wrap_u64])
  | (refine hR _ _ ?_; clear hR R) | (refine hK _ _ ?_; clear hK K) | refine lwn ?_ | refine lr ?_ | refine la ?_
  | refine wn fun K hK => ?_
  | simp only [nops, nop, lops, lop, slimG, List.map_cons, List.map_nil, List.filterMap_cons, List.filterMap_nil, Option.map_none, Option.map_some, List.getElem?_toArray, List.getElem?_cons_zero, List.getElem?_cons_succ, Option.bind_some]
  | refine wb ?_ | refine wr ?_ | refine wk ?_ | refine we ?_ | refine ws ?_ | refine wq ?_
  | ((refine wc rfl (fun hc => ?_) (fun hc => ?_)) <;> (try simp at hc) <;> (try omega))
  | ((refine ib (fun hc => ?_) (fun hc => ?_)) <;> (try omega) <;> (try simp (disch := omega) only [if_pos, if_neg])))
  have l5 : C4.le (C4.alloc (.cells [.int .i64 1, .int .i64 3] true 1)) := AW.le.alloc _ _
  repeat' (first
  | (refine lwc fun R hR => ?_; simp [wrap_i64, wrap_u64, AW.row_get, astore]; try simp (disch := omega) only [if_pos, if_neg, wrap_i64, wrap_u64])
  | (refine hR _ _ ?_; clear hR R) | (refine hK _ _ ?_; clear hK K) | refine lwn ?_ | refine lr ?_ | refine la ?_
  | refine wn fun K hK => ?_
  | simp only [nops, nop, lops, lop, slimG, List.map_cons, List.map_nil, List.filterMap_cons, List.filterMap_nil, Option.map_none, Option.map_some, List.getElem?_toArray, List.getElem?_cons_zero, List.getElem?_cons_succ, Option.bind_some]
  | (refine callK (ints_call _ _ [1, 3] [1, 3] _ (h4.is.le l5 hc4) (IsInts.of_get (l := [1, 3]) (AW.alloc_get_new C4 _) rfl (Nat.le_refl 2) rfl) (by simp)) ?_; rintro _ _ ⟨rfl, rfl⟩ _ _)
  | refine wb ?_ | refine wr ?_ | refine wk ?_ | refine we ?_ | refine ws ?_ | refine wq ?_
  | ((refine wc rfl (fun hc => ?_) (fun hc => ?_)) <;> (try simp at hc) <;> (try omega))
  | ((refine ib (fun hc => ?_) (fun hc => ?_)) <;> (try omega) <;> (try simp (disch := omega) only [if_pos, if_neg])))
  refine ⟨_, by first | (simp; done) | (simp; rfl), rfl, ?_⟩
  have hF : Sat B5 F := (hT6.right.right.right.right.right).right
  exact ((((hF.le hx5 l1).le hc1 l2).keep hc2 _).le hc3 l4).keep hc4 _

end Go.Stx
