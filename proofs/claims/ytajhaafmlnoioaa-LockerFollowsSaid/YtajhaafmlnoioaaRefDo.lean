/-
  The reference's operations on its cells.
-/
import Derived.Test.YtajhaafmlnoioaaRefOps
namespace Go.Stx
open Go Go.Proofs
attribute [local irreducible] AWP LWalk ACall ARounds lops nops
set_option linter.unusedVariables false
set_option linter.unusedSimpArgs false

/-- What the reference's operation does: the value becomes y if 'wr' is true. -/
def refAcc (M : Nat → List Int) (kind cell idx : Int) (wr : Bool) (y : Int) : Acc :=
  let got := (rowOf M cell).getD idx.toNat 0
  ⟨kind, cell, idx, got, if wr = true then y else got, if wr = true then true else decide (kind = 1)⟩

theorem rowOf_set {M : Nat → List Int} {cell idx y : Int} (hh : hasCell M cell idx = true) : (rowOf (setRow M cell idx y) cell).getD idx.toNat 0 = y := by
  have hd : 0 ≤ idx ∧ idx < (rowOf M cell).length := by simpa [hasCell] using hh
  have hc : 1 ≤ cell ∧ cell ≤ 8 := by
    by_cases h : 1 ≤ cell ∧ cell ≤ 8
    · exact h
    · rw [rowOf, if_neg h] at hd; simp at hd; omega
  have hr : rowOf M cell = M (cell - 1).toNat := if_pos hc
  rw [hr] at hd
  have : rowOf (setRow M cell idx y) cell = (M (cell - 1).toNat).set idx.toNat y := by
    simp [rowOf, hc, setRow]
  rw [this, List.getD_eq_getElem?_getD, List.getElem?_set_self (by omega)]
  rfl

theorem refOk_set {M : Nat → List Int} (h : RefOk M) (cell idx y : Int) : RefOk (setRow M cell idx y) := by
  unfold RefOk setRow
  refine ⟨?_, ?_, ?_⟩ <;> (split <;> simp [h.1, h.2.1, h.2.2])

set_option maxHeartbeats 1000000 in
theorem refDo_call (mb : Nat) (M : Nat → List Int) (kind cell idx y : Int) (wr : Bool) (hM : RefOk M) (hh : hasCell M cell idx = true) :
    SCall Try.prog 62 [.pointer (some ⟨mb, 0, none⟩), .int .i64 kind, .int .i64 cell, .int .i64 idx, .bool wr, .int .u64 y] (RefH mb M)
      (fun v => hpr (v = (refAcc M kind cell idx wr y).v) * RefH mb (if wr = true then setRow M cell idx y else M)) := by
  intro A F hw h
  refine acall_intro Try.func62 rfl (by kernel_rfl) fun _ => ?_
  cases wr
  · repeat' (first
  | (refine lwc fun R hR => ?_; simp [wrap_i64, wrap_u64, astore, AW.row_get, accZ]; try simp (disch := omega) only [if_pos, if_neg, wrap_i64, wrap_u64])
  | (refine hR _ _ ?_; clear hR R) | (refine hK _ _ ?_; clear hK K) | refine lwn ?_ | refine lr ?_ | refine la ?_
  | refine wn fun K hK => ?_
  | simp only [nops, nop, lops, lop, slimG, List.map_cons, List.map_nil, List.filterMap_cons, List.filterMap_nil, Option.map_none, Option.map_some, List.getElem?_toArray, List.getElem?_cons_zero, List.getElem?_cons_succ, Option.bind_some]
  | (refine callK (refGet_call mb M cell idx _ _ (h.le hw (by repeat' (first | exact AW.le.refl _ | refine AW.le.set ?_ (by simp <;> omega) _ | refine AW.le.trans ?_ (AW.le.alloc _ _)))) hM hh) ?_; rintro _ _ ⟨rfl, rfl⟩ _ _)
  | refine wb ?_ | refine wr ?_ | refine wk ?_ | refine we ?_ | refine ws ?_ | refine wq ?_
  | ((refine wc rfl (fun hc => ?_) (fun hc => ?_)) <;> (try simp at hc) <;> (try omega))
  | ((refine ib (fun hc => ?_) (fun hc => ?_)) <;> (try omega) <;> (try simp (disch := omega) only [if_pos, if_neg])))
    refine ⟨_, by first | (simp [AW.row_get]; done) | (simp [AW.row_get]; rfl), Sat.post (by simp [refAcc, Acc.v]) ?_⟩
    simp only [Bool.false_eq_true, if_false]
    exact h.le hw (by repeat' (first | exact AW.le.refl _ | refine AW.le.set ?_ (by simp <;> omega) _ | refine AW.le.trans ?_ (AW.le.alloc _ _)))
  · have hw1 := hw.alloc (.cells accZ true 1)
    have hw2 := hw1.alloc (.cells accZ true 1)
    have s1 := (h.alloc hw (.cells accZ true 1)).alloc hw1 (.cells accZ true 1)
    simp only [AW.alloc_next] at s1
    repeat' (first
    | (refine lwc fun R hR => ?_; simp [wrap_i64, wrap_u64, astore, AW.row_get, accZ]; try simp (disch := omega) only [if_pos, if_neg, wrap_i64, wrap_u64])
    | (refine hR _ _ ?_; clear hR R) | (refine hK _ _ ?_; clear hK K) | refine lwn ?_ | refine lr ?_ | refine la ?_
    | refine wn fun K hK => ?_
    | simp only [nops, nop, lops, lop, slimG, List.map_cons, List.map_nil, List.filterMap_cons, List.filterMap_nil, Option.map_none, Option.map_some, List.getElem?_toArray, List.getElem?_cons_zero, List.getElem?_cons_succ, Option.bind_some]
    | (refine callK (refGet_call mb M cell idx _ _ (h.le hw (by repeat' (first | exact AW.le.refl _ | refine AW.le.set ?_ (by simp <;> omega) _ | refine AW.le.trans ?_ (AW.le.alloc _ _)))) hM hh) ?_; rintro _ _ ⟨rfl, rfl⟩ _ _)
    | refine wb ?_ | refine wr ?_ | refine wk ?_ | refine we ?_ | refine ws ?_ | refine wq ?_
    | ((refine wc rfl (fun hc => ?_) (fun hc => ?_)) <;> (try simp at hc) <;> (try omega))
    | ((refine ib (fun hc => ?_) (fun hc => ?_)) <;> (try omega) <;> (try simp (disch := omega) only [if_pos, if_neg])))
    have s2 := s1.set (.cells [.int .i64 kind, .int .i64 cell, .int .i64 idx, .int .u64 ((rowOf M cell)[idx.toNat]?.getD 0), .int .u64 0, .bool true] true 1)
    have s3 : Sat _ (RefH mb M * (pt (A.next + 1) (.cells [.int .i64 kind, .int .i64 cell, .int .i64 idx, .int .u64 ((rowOf M cell)[idx.toNat]?.getD 0), .int .u64 0, .bool true] true 1) * (pt A.next (.cells accZ true 1) * F))) := s2.cast (by ac_rfl)
    have hw3 := hw2.set (i := A.next + 1) (some (.cells [.int .i64 kind, .int .i64 cell, .int .i64 idx, .int .u64 ((rowOf M cell)[idx.toNat]?.getD 0), .int .u64 0, .bool true] true 1)) (by simp)
    refine (refSet_call mb M cell idx y hM hh).use hw3 s3 rfl ?_
    intro v A3 s4 hw4 _
    have hh' : hasCell (setRow M cell idx y) cell idx = true := by
      have hd : 0 ≤ idx ∧ idx < (rowOf M cell).length := by simpa [hasCell] using hh
      have : (rowOf (setRow M cell idx y) cell).length = (rowOf M cell).length := by
        unfold rowOf setRow
        split
        · simp
        · rfl
      simp [hasCell, this, hd]
    have hv := rowOf_set (y := y) hh
    have s5 : Sat A3 (pt (A.next + 1) (.cells [.int .i64 kind, .int .i64 cell, .int .i64 idx, .int .u64 ((rowOf M cell)[idx.toNat]?.getD 0), .int .u64 0, .bool true] true 1) * (pt A.next (.cells accZ true 1) * (RefH mb (setRow M cell idx y) * F))) := s4.cast (by ac_rfl)
    have g1 := s5.get
    have g0 := s5.right.get
    have n1 := s5.ne
    rw [List.getD_eq_getElem?_getD] at hv
    repeat' (first
    | (refine lwc fun R hR => ?_; simp [wrap_i64, wrap_u64, astore, AW.row_get, accZ, g0, g1, n1, Ne.symm n1, hv]; try simp (disch := omega) only [if_pos, if_neg, wrap_i64, wrap_u64])
    | (refine hR _ _ ?_; clear hR R) | (refine hK _ _ ?_; clear hK K) | refine lwn ?_ | refine lr ?_ | refine la ?_
    | refine wn fun K hK => ?_
    | simp only [nops, nop, lops, lop, slimG, List.map_cons, List.map_nil, List.filterMap_cons, List.filterMap_nil, Option.map_none, Option.map_some, List.getElem?_toArray, List.getElem?_cons_zero, List.getElem?_cons_succ, Option.bind_some]
    | (refine callK (refGet_call mb (setRow M cell idx y) cell idx _ _ s4 (refOk_set hM _ _ _) hh') ?_; rintro _ _ ⟨rfl, rfl⟩ _ _)
    | refine wb ?_ | refine wr ?_ | refine wk ?_ | refine we ?_ | refine ws ?_ | refine wq ?_
    | ((refine wc rfl (fun hc => ?_) (fun hc => ?_)) <;> (try simp at hc) <;> (try omega))
    | ((refine ib (fun hc => ?_) (fun hc => ?_)) <;> (try omega) <;> (try simp (disch := omega) only [if_pos, if_neg])))
    refine ⟨_, by first | (simp [AW.row_get]; done) | (simp [AW.row_get]; rfl), Sat.post (by simp [refAcc, Acc.v]) ?_⟩
    simp only [if_true]
    exact Sat.fin02 s5 (fun j x h1 h2 hx => by simp [AW.get_set, h1, h2, hx])


set_option maxHeartbeats 1000000 in
theorem refLoad (mb : Nat) (M : Nat → List Int) (cell idx : Int) (hM : RefOk M) :
    SCall Try.prog 49 [.pointer (some ⟨mb, 0, none⟩), .int .i64 cell, .int .i64 idx] (RefH mb M)
      (fun v => hpr (v = (opAcc M 1 cell idx gLoad).v) * RefH mb (opM M cell idx gLoad)) := by
  intro A F hw h
  refine acall_intro Try.func49 rfl (by kernel_rfl) fun _ => ?_
  have h1 : Sat (A.alloc (.cells accZ true 1)) (RefH mb M * (pt A.next (.cells accZ true 1) * F)) := (h.alloc hw (.cells accZ true 1)).cast (by ac_rfl)
  have hw1 := hw.alloc (.cells accZ true 1)
  cases hh : hasCell M cell idx
  · have ea : opAcc M 1 cell idx gLoad = Acc.zero := by simp [opAcc, hh]
    have em : opM M cell idx gLoad = M := by simp [opM, hh]
    repeat' (first
    | (refine lwc fun R hR => ?_; simp [wrap_i64, wrap_u64, astore, AW.row_get, accZ, hh]; try simp (disch := omega) only [if_pos, if_neg, wrap_i64, wrap_u64])
    | (refine hR _ _ ?_; clear hR R) | (refine hK _ _ ?_; clear hK K) | refine lwn ?_ | refine lr ?_ | refine la ?_
    | refine wn fun K hK => ?_
    | simp only [nops, nop, lops, lop, slimG, List.map_cons, List.map_nil, List.filterMap_cons, List.filterMap_nil, Option.map_none, Option.map_some, List.getElem?_toArray, List.getElem?_cons_zero, List.getElem?_cons_succ, Option.bind_some]
    | (refine callK (refHas_call mb M cell idx _ _ h1 hM) ?_; rintro _ _ ⟨rfl, rfl⟩ _ _)
    | refine wb ?_ | refine wr ?_ | refine wk ?_ | refine we ?_ | refine ws ?_ | refine wq ?_
    | ((refine wc rfl (fun hc => ?_) (fun hc => ?_)) <;> (try simp at hc) <;> (try omega))
    | ((refine ib (fun hc => ?_) (fun hc => ?_)) <;> (try omega) <;> (try simp (disch := omega) only [if_pos, if_neg])))
    refine ⟨_, by first | (simp [AW.row_get]; done) | (simp [AW.row_get]; rfl), Sat.post (by rw [ea]; rfl) ?_⟩
    rw [em]
    exact h.le hw (by repeat' (first | exact AW.le.refl _ | refine AW.le.set ?_ (by simp <;> omega) _ | refine AW.le.trans ?_ (AW.le.alloc _ _)))
  · repeat' (first
  | (refine lwc fun R hR => ?_; simp [wrap_i64, wrap_u64, astore, AW.row_get, accZ, hh]; try simp (disch := omega) only [if_pos, if_neg, wrap_i64, wrap_u64])
  | (refine hR _ _ ?_; clear hR R) | (refine hK _ _ ?_; clear hK K) | refine lwn ?_ | refine lr ?_ | refine la ?_
  | refine wn fun K hK => ?_
  | simp only [nops, nop, lops, lop, slimG, List.map_cons, List.map_nil, List.filterMap_cons, List.filterMap_nil, Option.map_none, Option.map_some, List.getElem?_toArray, List.getElem?_cons_zero, List.getElem?_cons_succ, Option.bind_some]
  | (refine callK (refHas_call mb M cell idx _ _ h1 hM) ?_; rintro _ _ ⟨rfl, rfl⟩ _ _)
  | refine wb ?_ | refine wr ?_ | refine wk ?_ | refine we ?_ | refine ws ?_ | refine wq ?_
  | ((refine wc rfl (fun hc => ?_) (fun hc => ?_)) <;> (try simp at hc) <;> (try omega))
  | ((refine ib (fun hc => ?_) (fun hc => ?_)) <;> (try omega) <;> (try simp (disch := omega) only [if_pos, if_neg])))
    refine (refDo_call mb M 1 cell idx 0 false hM hh).use hw1 h1 rfl ?_
    intro v A3 s4 hw4 _
    obtain ⟨rfl, s5⟩ := s4.unpost
    clear s4
    have ea : refAcc M 1 cell idx false 0 = opAcc M 1 cell idx gLoad := by simp [refAcc, opAcc, hh, gLoad]
    have em : opM M cell idx gLoad = M := opM_same (by intro o _; rfl)
    rw [ea] at *
    simp only [Bool.false_eq_true, if_false] at s5
    rw [← em] at s5
    have s6 : Sat A3 (pt A.next (.cells accZ true 1) * (RefH mb (opM M cell idx gLoad) * F)) := s5.cast (by ac_rfl)
    have g0 := s6.get
    repeat' (first
    | (refine lwc fun R hR => ?_; simp [wrap_i64, wrap_u64, astore, AW.row_get, accZ, g0, Acc.v]; try simp (disch := omega) only [if_pos, if_neg, wrap_i64, wrap_u64])
    | (refine hR _ _ ?_; clear hR R) | (refine hK _ _ ?_; clear hK K) | refine lwn ?_ | refine lr ?_ | refine la ?_
    | refine wn fun K hK => ?_
    | simp only [nops, nop, lops, lop, slimG, List.map_cons, List.map_nil, List.filterMap_cons, List.filterMap_nil, Option.map_none, Option.map_some, List.getElem?_toArray, List.getElem?_cons_zero, List.getElem?_cons_succ, Option.bind_some]
    | refine wb ?_ | refine wr ?_ | refine wk ?_ | refine we ?_ | refine ws ?_ | refine wq ?_
    | ((refine wc rfl (fun hc => ?_) (fun hc => ?_)) <;> (try simp at hc) <;> (try omega))
    | ((refine ib (fun hc => ?_) (fun hc => ?_)) <;> (try omega) <;> (try simp (disch := omega) only [if_pos, if_neg])))
    refine ⟨_, by first | (simp [AW.row_get]; done) | (simp [AW.row_get]; rfl), Sat.post (by simp [Acc.v]) ?_⟩
    exact (s6.set _).right

set_option maxHeartbeats 1000000 in
theorem refStore (mb : Nat) (M : Nat → List Int) (cell idx x : Int) (hM : RefOk M) :
    SCall Try.prog 44 [.pointer (some ⟨mb, 0, none⟩), .int .i64 cell, .int .i64 idx, .int .u64 x] (RefH mb M)
      (fun v => hpr (v = (opAcc M 2 cell idx (gStore x)).v) * RefH mb (opM M cell idx (gStore x))) := by
  intro A F hw h
  refine acall_intro Try.func44 rfl (by kernel_rfl) fun _ => ?_
  have h1 : Sat (A.alloc (.cells accZ true 1)) (RefH mb M * (pt A.next (.cells accZ true 1) * F)) := (h.alloc hw (.cells accZ true 1)).cast (by ac_rfl)
  have hw1 := hw.alloc (.cells accZ true 1)
  cases hh : hasCell M cell idx
  · have ea : opAcc M 2 cell idx (gStore x) = Acc.zero := by simp [opAcc, hh]
    have em : opM M cell idx (gStore x) = M := by simp [opM, hh]
    repeat' (first
    | (refine lwc fun R hR => ?_; simp [wrap_i64, wrap_u64, astore, AW.row_get, accZ, hh]; try simp (disch := omega) only [if_pos, if_neg, wrap_i64, wrap_u64])
    | (refine hR _ _ ?_; clear hR R) | (refine hK _ _ ?_; clear hK K) | refine lwn ?_ | refine lr ?_ | refine la ?_
    | refine wn fun K hK => ?_
    | simp only [nops, nop, lops, lop, slimG, List.map_cons, List.map_nil, List.filterMap_cons, List.filterMap_nil, Option.map_none, Option.map_some, List.getElem?_toArray, List.getElem?_cons_zero, List.getElem?_cons_succ, Option.bind_some]
    | (refine callK (refHas_call mb M cell idx _ _ h1 hM) ?_; rintro _ _ ⟨rfl, rfl⟩ _ _)
    | refine wb ?_ | refine wr ?_ | refine wk ?_ | refine we ?_ | refine ws ?_ | refine wq ?_
    | ((refine wc rfl (fun hc => ?_) (fun hc => ?_)) <;> (try simp at hc) <;> (try omega))
    | ((refine ib (fun hc => ?_) (fun hc => ?_)) <;> (try omega) <;> (try simp (disch := omega) only [if_pos, if_neg])))
    refine ⟨_, by first | (simp [AW.row_get]; done) | (simp [AW.row_get]; rfl), Sat.post (by rw [ea]; rfl) ?_⟩
    rw [em]
    exact h.le hw (by repeat' (first | exact AW.le.refl _ | refine AW.le.set ?_ (by simp <;> omega) _ | refine AW.le.trans ?_ (AW.le.alloc _ _)))
  · repeat' (first
  | (refine lwc fun R hR => ?_; simp [wrap_i64, wrap_u64, astore, AW.row_get, accZ, hh]; try simp (disch := omega) only [if_pos, if_neg, wrap_i64, wrap_u64])
  | (refine hR _ _ ?_; clear hR R) | (refine hK _ _ ?_; clear hK K) | refine lwn ?_ | refine lr ?_ | refine la ?_
  | refine wn fun K hK => ?_
  | simp only [nops, nop, lops, lop, slimG, List.map_cons, List.map_nil, List.filterMap_cons, List.filterMap_nil, Option.map_none, Option.map_some, List.getElem?_toArray, List.getElem?_cons_zero, List.getElem?_cons_succ, Option.bind_some]
  | (refine callK (refHas_call mb M cell idx _ _ h1 hM) ?_; rintro _ _ ⟨rfl, rfl⟩ _ _)
  | refine wb ?_ | refine wr ?_ | refine wk ?_ | refine we ?_ | refine ws ?_ | refine wq ?_
  | ((refine wc rfl (fun hc => ?_) (fun hc => ?_)) <;> (try simp at hc) <;> (try omega))
  | ((refine ib (fun hc => ?_) (fun hc => ?_)) <;> (try omega) <;> (try simp (disch := omega) only [if_pos, if_neg])))
    refine (refDo_call mb M 2 cell idx x true hM hh).use hw1 h1 rfl ?_
    intro v A3 s4 hw4 _
    obtain ⟨rfl, s5⟩ := s4.unpost
    clear s4
    have ea : refAcc M 2 cell idx true x = opAcc M 2 cell idx (gStore x) := by simp [refAcc, opAcc, hh, gStore]
    have em : opM M cell idx (gStore x) = setRow M cell idx x := by simp [opM, hh, gStore]
    rw [ea] at *
    simp only [if_true] at s5
    rw [← em] at s5
    have s6 : Sat A3 (pt A.next (.cells accZ true 1) * (RefH mb (opM M cell idx (gStore x)) * F)) := s5.cast (by ac_rfl)
    have g0 := s6.get
    repeat' (first
    | (refine lwc fun R hR => ?_; simp [wrap_i64, wrap_u64, astore, AW.row_get, accZ, g0, Acc.v]; try simp (disch := omega) only [if_pos, if_neg, wrap_i64, wrap_u64])
    | (refine hR _ _ ?_; clear hR R) | (refine hK _ _ ?_; clear hK K) | refine lwn ?_ | refine lr ?_ | refine la ?_
    | refine wn fun K hK => ?_
    | simp only [nops, nop, lops, lop, slimG, List.map_cons, List.map_nil, List.filterMap_cons, List.filterMap_nil, Option.map_none, Option.map_some, List.getElem?_toArray, List.getElem?_cons_zero, List.getElem?_cons_succ, Option.bind_some]
    | refine wb ?_ | refine wr ?_ | refine wk ?_ | refine we ?_ | refine ws ?_ | refine wq ?_
    | ((refine wc rfl (fun hc => ?_) (fun hc => ?_)) <;> (try simp at hc) <;> (try omega))
    | ((refine ib (fun hc => ?_) (fun hc => ?_)) <;> (try omega) <;> (try simp (disch := omega) only [if_pos, if_neg])))
    refine ⟨_, by first | (simp [AW.row_get]; done) | (simp [AW.row_get]; rfl), Sat.post (by simp [Acc.v]) ?_⟩
    exact (s6.set _).right

set_option maxHeartbeats 1000000 in
theorem refSwap (mb : Nat) (M : Nat → List Int) (cell idx old x : Int) (hM : RefOk M) :
    SCall Try.prog 51 [.pointer (some ⟨mb, 0, none⟩), .int .i64 cell, .int .i64 idx, .int .u64 old, .int .u64 x] (RefH mb M)
      (fun v => hpr (v = (opAcc M 3 cell idx (gSwap old x)).v) * RefH mb (opM M cell idx (gSwap old x))) := by
  intro A F hw h
  refine acall_intro Try.func51 rfl (by kernel_rfl) fun _ => ?_
  have h1 : Sat (A.alloc (.cells accZ true 1)) (RefH mb M * (pt A.next (.cells accZ true 1) * F)) := (h.alloc hw (.cells accZ true 1)).cast (by ac_rfl)
  have hw1 := hw.alloc (.cells accZ true 1)
  cases hh : hasCell M cell idx
  · have ea : opAcc M 3 cell idx (gSwap old x) = Acc.zero := by simp [opAcc, hh]
    have em : opM M cell idx (gSwap old x) = M := by simp [opM, hh]
    repeat' (first
    | (refine lwc fun R hR => ?_; simp [wrap_i64, wrap_u64, astore, AW.row_get, accZ, hh]; try simp (disch := omega) only [if_pos, if_neg, wrap_i64, wrap_u64])
    | (refine hR _ _ ?_; clear hR R) | (refine hK _ _ ?_; clear hK K) | refine lwn ?_ | refine lr ?_ | refine la ?_
    | refine wn fun K hK => ?_
    | simp only [nops, nop, lops, lop, slimG, List.map_cons, List.map_nil, List.filterMap_cons, List.filterMap_nil, Option.map_none, Option.map_some, List.getElem?_toArray, List.getElem?_cons_zero, List.getElem?_cons_succ, Option.bind_some]
    | (refine callK (refHas_call mb M cell idx _ _ h1 hM) ?_; rintro _ _ ⟨rfl, rfl⟩ _ _)
    | refine wb ?_ | refine wr ?_ | refine wk ?_ | refine we ?_ | refine ws ?_ | refine wq ?_
    | ((refine wc rfl (fun hc => ?_) (fun hc => ?_)) <;> (try simp at hc) <;> (try omega))
    | ((refine ib (fun hc => ?_) (fun hc => ?_)) <;> (try omega) <;> (try simp (disch := omega) only [if_pos, if_neg])))
    refine ⟨_, by first | (simp [AW.row_get]; done) | (simp [AW.row_get]; rfl), Sat.post (by rw [ea]; rfl) ?_⟩
    rw [em]
    exact h.le hw (by repeat' (first | exact AW.le.refl _ | refine AW.le.set ?_ (by simp <;> omega) _ | refine AW.le.trans ?_ (AW.le.alloc _ _)))
  · repeat' (first
  | (refine lwc fun R hR => ?_; simp [wrap_i64, wrap_u64, astore, AW.row_get, accZ, hh]; try simp (disch := omega) only [if_pos, if_neg, wrap_i64, wrap_u64])
  | (refine hR _ _ ?_; clear hR R) | (refine hK _ _ ?_; clear hK K) | refine lwn ?_ | refine lr ?_ | refine la ?_
  | refine wn fun K hK => ?_
  | simp only [nops, nop, lops, lop, slimG, List.map_cons, List.map_nil, List.filterMap_cons, List.filterMap_nil, Option.map_none, Option.map_some, List.getElem?_toArray, List.getElem?_cons_zero, List.getElem?_cons_succ, Option.bind_some]
  | (refine callK (refHas_call mb M cell idx _ _ h1 hM) ?_; rintro _ _ ⟨rfl, rfl⟩ _ _)
  | (refine callK (refGet_call mb M cell idx _ _ h1 hM hh) ?_; rintro _ _ ⟨rfl, rfl⟩ _ _)
  | refine wb ?_ | refine wr ?_ | refine wk ?_ | refine we ?_ | refine ws ?_ | refine wq ?_
  | ((refine wc rfl (fun hc => ?_) (fun hc => ?_)) <;> (try simp at hc) <;> (try omega))
  | ((refine ib (fun hc => ?_) (fun hc => ?_)) <;> (try omega) <;> (try simp (disch := omega) only [if_pos, if_neg])))
    refine (refDo_call mb M 3 cell idx x (decide ((rowOf M cell).getD idx.toNat 0 = old)) hM hh).use hw1 h1 rfl ?_
    intro v A3 s4 hw4 _
    obtain ⟨rfl, s5⟩ := s4.unpost
    clear s4
    have ea : refAcc M 3 cell idx (decide ((rowOf M cell).getD idx.toNat 0 = old)) x = opAcc M 3 cell idx (gSwap old x) := by simp [refAcc, opAcc, hh, gSwap]
    have em : opM M cell idx (gSwap old x) = if decide ((rowOf M cell).getD idx.toNat 0 = old) = true then setRow M cell idx x else M := by simp [opM, hh, gSwap]
    rw [ea] at *
    rw [← em] at s5
    have s6 : Sat A3 (pt A.next (.cells accZ true 1) * (RefH mb (opM M cell idx (gSwap old x)) * F)) := s5.cast (by ac_rfl)
    have g0 := s6.get
    repeat' (first
    | (refine lwc fun R hR => ?_; simp [wrap_i64, wrap_u64, astore, AW.row_get, accZ, g0, Acc.v]; try simp (disch := omega) only [if_pos, if_neg, wrap_i64, wrap_u64])
    | (refine hR _ _ ?_; clear hR R) | (refine hK _ _ ?_; clear hK K) | refine lwn ?_ | refine lr ?_ | refine la ?_
    | refine wn fun K hK => ?_
    | simp only [nops, nop, lops, lop, slimG, List.map_cons, List.map_nil, List.filterMap_cons, List.filterMap_nil, Option.map_none, Option.map_some, List.getElem?_toArray, List.getElem?_cons_zero, List.getElem?_cons_succ, Option.bind_some]
    | refine wb ?_ | refine wr ?_ | refine wk ?_ | refine we ?_ | refine ws ?_ | refine wq ?_
    | ((refine wc rfl (fun hc => ?_) (fun hc => ?_)) <;> (try simp at hc) <;> (try omega))
    | ((refine ib (fun hc => ?_) (fun hc => ?_)) <;> (try omega) <;> (try simp (disch := omega) only [if_pos, if_neg])))
    refine ⟨_, by first | (simp [AW.row_get]; done) | (simp [AW.row_get]; rfl), Sat.post (by simp [Acc.v]) ?_⟩
    exact (s6.set _).right

end Go.Stx
