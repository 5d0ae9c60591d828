/-
  The reference's cells: size, get, set, and the operations.
-/
import Derived.Test.YtajhaafmlnoioaaRefMem
namespace Go.Stx
open Go Go.Proofs
attribute [local irreducible] AWP LWalk ACall ARounds lops nops
set_option linter.unusedVariables false
set_option linter.unusedSimpArgs false

theorem RefH.open {A : AW} {mb : Nat} {M : Nat → List Int} {F : HP} (h : Sat A (RefH mb M * F)) :
    ∃ v0 v1 v5 v6 v7, Sat A (pt mb (.cells (cfgV.cells.toList ++ [v0, v1, .int .u64 ((M 2).getD 0 0), .int .u64 ((M 3).getD 0 0), .int .u64 ((M 4).getD 0 0), v5, v6, v7]) true 1) *
      (IntsH .u64 v0 (M 0) * (IntsH .u64 v1 (M 1) * (IntsH .u64 v5 (M 5) * (IntsH .u64 v6 (M 6) * (IntsH .u64 v7 (M 7) * F)))))) := by
  unfold RefH at h
  rw [Sat.ex] at h
  obtain ⟨⟨v0, v1, v5, v6, v7⟩, h⟩ := h
  exact ⟨v0, v1, v5, v6, v7, h.cast (by dsimp only; ac_rfl)⟩
theorem RefH.close {A : AW} {mb : Nat} {M : Nat → List Int} {F : HP} {v0 v1 v5 v6 v7 : Value} (h : Sat A (pt mb (.cells (cfgV.cells.toList ++ [v0, v1, .int .u64 ((M 2).getD 0 0), .int .u64 ((M 3).getD 0 0), .int .u64 ((M 4).getD 0 0), v5, v6, v7]) true 1) *
      (IntsH .u64 v0 (M 0) * (IntsH .u64 v1 (M 1) * (IntsH .u64 v5 (M 5) * (IntsH .u64 v6 (M 6) * (IntsH .u64 v7 (M 7) * F))))))) : Sat A (RefH mb M * F) := by
  unfold RefH
  rw [Sat.ex]
  exact ⟨(v0, v1, v5, v6, v7), h.cast (by dsimp only; ac_rfl)⟩

def RefOk (M : Nat → List Int) : Prop := (M 2).length = 1 ∧ (M 3).length = 1 ∧ (M 4).length = 1

theorem refSize_call (mb : Nat) (M : Nat → List Int) (cell : Int) (A : AW) (F : HP) (h : Sat A (RefH mb M * F)) (hM : RefOk M) :
    ACall Try.prog 82 [.pointer (some ⟨mb, 0, none⟩), .int .i64 cell] A (fun v A' => v = .int .i64 (rowOf M cell).length ∧ A = A') := by
  refine acall_intro Try.func82 rfl (by kernel_rfl) fun hw => ?_
  obtain ⟨v0, v1, v5, v6, v7, hS⟩ := RefH.open h
  obtain ⟨o0, c0, rfl, _⟩ := (IntsH.is hS.right).form
  obtain ⟨o1, c1, rfl, _⟩ := (IntsH.is hS.right.right).form
  obtain ⟨o5, c5, rfl, _⟩ := (IntsH.is hS.right.right.right).form
  obtain ⟨o6, c6, rfl, _⟩ := (IntsH.is hS.right.right.right.right).form
  obtain ⟨o7, c7, rfl, _⟩ := (IntsH.is hS.right.right.right.right.right).form
  have hg := hS.get
  by_cases hc : cell = 1 ∨ cell = 2 ∨ cell = 3 ∨ cell = 4 ∨ cell = 5 ∨ cell = 6 ∨ cell = 7 ∨ cell = 8
  · rcases hc with rfl | rfl | rfl | rfl | rfl | rfl | rfl | rfl
    all_goals
      repeat' (first
      | (refine lwc fun R hR => ?_; simp [wrap_i64, wrap_u64, hg, AW.row_get, cfgV]; try simp (disch := omega) only [if_pos, if_neg, wrap_i64, wrap_u64])
      | (refine hR _ _ ?_; clear hR R) | (refine hK _ _ ?_; clear hK K) | refine lwn ?_ | refine lr ?_ | refine la ?_
      | refine wn fun K hK => ?_
      | simp only [nops, nop, lops, lop, slimG, List.map_cons, List.map_nil, List.filterMap_cons, List.filterMap_nil, Option.map_none, Option.map_some, List.getElem?_toArray, List.getElem?_cons_zero, List.getElem?_cons_succ, Option.bind_some]
      | refine wb ?_ | refine wr ?_ | refine wk ?_ | refine we ?_ | refine ws ?_ | refine wq ?_
      | ((refine wc rfl (fun hc => ?_) (fun hc => ?_)) <;> (try simp at hc) <;> (try omega))
      | ((refine ib (fun hc => ?_) (fun hc => ?_)) <;> (try omega) <;> (try simp (disch := omega) only [if_pos, if_neg])))
      all_goals simp [rowOf, hM.1, hM.2.1, hM.2.2]
  · have e1 : ¬ cell = 1 := fun e => hc (by simp [e])
    have e2 : ¬ cell = 2 := fun e => hc (by simp [e])
    have e3 : ¬ cell = 3 := fun e => hc (by simp [e])
    have e4 : ¬ cell = 4 := fun e => hc (by simp [e])
    have e5 : ¬ cell = 5 := fun e => hc (by simp [e])
    have e6 : ¬ cell = 6 := fun e => hc (by simp [e])
    have e7 : ¬ cell = 7 := fun e => hc (by simp [e])
    have e8 : ¬ cell = 8 := fun e => hc (by simp [e])
    have hr : rowOf M cell = [] := if_neg (by omega)
    repeat' (first
    | (refine lwc fun R hR => ?_; simp [wrap_i64, wrap_u64, hg, AW.row_get, cfgV, e1, e2, e3, e4, e5, e6, e7, e8]; try simp (disch := omega) only [if_pos, if_neg, wrap_i64, wrap_u64])
    | (refine hR _ _ ?_; clear hR R) | (refine hK _ _ ?_; clear hK K) | refine lwn ?_ | refine lr ?_ | refine la ?_
    | refine wn fun K hK => ?_
    | simp only [nops, nop, lops, lop, slimG, List.map_cons, List.map_nil, List.filterMap_cons, List.filterMap_nil, Option.map_none, Option.map_some, List.getElem?_toArray, List.getElem?_cons_zero, List.getElem?_cons_succ, Option.bind_some]
    | refine wb ?_ | refine wr ?_ | refine wk ?_ | refine we ?_ | refine ws ?_ | refine wq ?_
    | ((refine wc rfl (fun hc => ?_) (fun hc => ?_)) <;> (try simp at hc) <;> (try omega))
    | ((refine ib (fun hc => ?_) (fun hc => ?_)) <;> (try omega) <;> (try simp (disch := omega) only [if_pos, if_neg])))
    all_goals simp [hr]

theorem refHas_call (mb : Nat) (M : Nat → List Int) (cell idx : Int) (A : AW) (F : HP) (h : Sat A (RefH mb M * F)) (hM : RefOk M) :
    ACall Try.prog 61 [.pointer (some ⟨mb, 0, none⟩), .int .i64 cell, .int .i64 idx] A (fun v A' => v = .bool (hasCell M cell idx) ∧ A = A') := by
  refine acall_intro Try.func61 rfl (by kernel_rfl) fun hw => ?_
  by_cases h0 : 0 ≤ idx
  · repeat' (first
  | (refine lwc fun R hR => ?_; simp [wrap_i64, wrap_u64, h0]; try simp (disch := omega) only [if_pos, if_neg, wrap_i64, wrap_u64])
  | (refine hR _ _ ?_; clear hR R) | (refine hK _ _ ?_; clear hK K) | refine lwn ?_ | refine lr ?_ | refine la ?_
  | refine wn fun K hK => ?_
  | simp only [nops, nop, lops, lop, slimG, List.map_cons, List.map_nil, List.filterMap_cons, List.filterMap_nil, Option.map_none, Option.map_some, List.getElem?_toArray, List.getElem?_cons_zero, List.getElem?_cons_succ, Option.bind_some]
  | (refine callK (refSize_call mb M cell _ _ h hM) ?_; rintro _ _ ⟨rfl, rfl⟩ _ _)
  | refine wb ?_ | refine wr ?_ | refine wk ?_ | refine we ?_ | refine ws ?_ | refine wq ?_
  | ((refine wc rfl (fun hc => ?_) (fun hc => ?_)) <;> (try simp at hc) <;> (try omega))
  | ((refine ib (fun hc => ?_) (fun hc => ?_)) <;> (try omega) <;> (try simp (disch := omega) only [if_pos, if_neg])))
    all_goals simp [hasCell, h0]
  · repeat' (first
  | (refine lwc fun R hR => ?_; simp [wrap_i64, wrap_u64, h0]; try simp (disch := omega) only [if_pos, if_neg, wrap_i64, wrap_u64])
  | (refine hR _ _ ?_; clear hR R) | (refine hK _ _ ?_; clear hK K) | refine lwn ?_ | refine lr ?_ | refine la ?_
  | refine wn fun K hK => ?_
  | simp only [nops, nop, lops, lop, slimG, List.map_cons, List.map_nil, List.filterMap_cons, List.filterMap_nil, Option.map_none, Option.map_some, List.getElem?_toArray, List.getElem?_cons_zero, List.getElem?_cons_succ, Option.bind_some]
  | (refine callK (refSize_call mb M cell _ _ h hM) ?_; rintro _ _ ⟨rfl, rfl⟩ _ _)
  | refine wb ?_ | refine wr ?_ | refine wk ?_ | refine we ?_ | refine ws ?_ | refine wq ?_
  | ((refine wc rfl (fun hc => ?_) (fun hc => ?_)) <;> (try simp at hc) <;> (try omega))
  | ((refine ib (fun hc => ?_) (fun hc => ?_)) <;> (try omega) <;> (try simp (disch := omega) only [if_pos, if_neg])))
    all_goals simp [hasCell, h0]

set_option maxHeartbeats 1000000 in
theorem refGet_call (mb : Nat) (M : Nat → List Int) (cell idx : Int) (A : AW) (F : HP) (h : Sat A (RefH mb M * F)) (hM : RefOk M) (hh : hasCell M cell idx = true) :
    ACall Try.prog 65 [.pointer (some ⟨mb, 0, none⟩), .int .i64 cell, .int .i64 idx] A (fun v A' => v = .int .u64 ((rowOf M cell).getD idx.toNat 0) ∧ A = A') := by
  refine acall_intro Try.func65 rfl (by kernel_rfl) fun hw => ?_
  obtain ⟨v0, v1, v5, v6, v7, hS⟩ := RefH.open h
  have i0 := IntsH.is hS.right
  have i1 := IntsH.is hS.right.right
  have i5 := IntsH.is hS.right.right.right
  have i6 := IntsH.is hS.right.right.right.right
  have i7 := IntsH.is hS.right.right.right.right.right
  obtain ⟨o0, c0, rfl, _⟩ := i0.form
  obtain ⟨o1, c1, rfl, _⟩ := i1.form
  obtain ⟨o5, c5, rfl, _⟩ := i5.form
  obtain ⟨o6, c6, rfl, _⟩ := i6.form
  obtain ⟨o7, c7, rfl, _⟩ := i7.form
  have hg := hS.get
  have hd : 0 ≤ idx ∧ idx < (rowOf M cell).length := by simpa [hasCell] using hh
  obtain ⟨j, rfl⟩ : ∃ j : Nat, idx = j := ⟨idx.toNat, by omega⟩
  have hj : j < (rowOf M cell).length := by omega
  have hgd : ∀ {l : List Int} (h : j < l.length), l.getD (j : Int).toNat 0 = l[j] := fun {l} h => by rw [Int.toNat_natCast, List.getD_eq_getElem?_getD, List.getElem?_eq_getElem h]; rfl
  have hc : cell = 1 ∨ cell = 2 ∨ cell = 3 ∨ cell = 4 ∨ cell = 5 ∨ cell = 6 ∨ cell = 7 ∨ cell = 8 := by
    by_cases hh : 1 ≤ cell ∧ cell ≤ 8
    · omega
    · rw [rowOf, if_neg hh] at hj; simp at hj
  rcases hc with rfl | rfl | rfl | rfl | rfl | rfl | rfl | rfl
  · have hj' : j < (M 0).length := hj
    have hji : (j : Int) < (M 0).length := by omega
    obtain ⟨p, row, own, rfl, g, d⟩ := i0.atg hj'
    repeat' (first
    | (refine lwc fun R hR => ?_; simp [wrap_i64, wrap_u64, hg, AW.row_get, cfgV, g, d, hj', hji]; try simp (disch := omega) only [if_pos, if_neg, wrap_i64, wrap_u64])
    | (refine hR _ _ ?_; clear hR R) | (refine hK _ _ ?_; clear hK K) | refine lwn ?_ | refine lr ?_ | refine la ?_
    | refine wn fun K hK => ?_
    | simp only [nops, nop, lops, lop, slimG, List.map_cons, List.map_nil, List.filterMap_cons, List.filterMap_nil, Option.map_none, Option.map_some, List.getElem?_toArray, List.getElem?_cons_zero, List.getElem?_cons_succ, Option.bind_some]
    | refine wb ?_ | refine wr ?_ | refine wk ?_ | refine we ?_ | refine ws ?_ | refine wq ?_
    | ((refine wc rfl (fun hc => ?_) (fun hc => ?_)) <;> (try simp at hc) <;> (try omega))
    | ((refine ib (fun hc => ?_) (fun hc => ?_)) <;> (try omega) <;> (try simp (disch := omega) only [if_pos, if_neg])))
    simp only [rowOf]; simp [hgd hj', hj']
  · have hj' : j < (M 1).length := hj
    have hji : (j : Int) < (M 1).length := by omega
    obtain ⟨p, row, own, rfl, g, d⟩ := i1.atg hj'
    repeat' (first
    | (refine lwc fun R hR => ?_; simp [wrap_i64, wrap_u64, hg, AW.row_get, cfgV, g, d, hj', hji]; try simp (disch := omega) only [if_pos, if_neg, wrap_i64, wrap_u64])
    | (refine hR _ _ ?_; clear hR R) | (refine hK _ _ ?_; clear hK K) | refine lwn ?_ | refine lr ?_ | refine la ?_
    | refine wn fun K hK => ?_
    | simp only [nops, nop, lops, lop, slimG, List.map_cons, List.map_nil, List.filterMap_cons, List.filterMap_nil, Option.map_none, Option.map_some, List.getElem?_toArray, List.getElem?_cons_zero, List.getElem?_cons_succ, Option.bind_some]
    | refine wb ?_ | refine wr ?_ | refine wk ?_ | refine we ?_ | refine ws ?_ | refine wq ?_
    | ((refine wc rfl (fun hc => ?_) (fun hc => ?_)) <;> (try simp at hc) <;> (try omega))
    | ((refine ib (fun hc => ?_) (fun hc => ?_)) <;> (try omega) <;> (try simp (disch := omega) only [if_pos, if_neg])))
    simp only [rowOf]; simp [hgd hj', hj']
  · have hj' : j < (M 2).length := hj
    have hj0 : j = 0 := by rw [hM.1] at hj'; omega
    subst hj0
    repeat' (first
    | (refine lwc fun R hR => ?_; simp [wrap_i64, wrap_u64, hg, AW.row_get, cfgV]; try simp (disch := omega) only [if_pos, if_neg, wrap_i64, wrap_u64])
    | (refine hR _ _ ?_; clear hR R) | (refine hK _ _ ?_; clear hK K) | refine lwn ?_ | refine lr ?_ | refine la ?_
    | refine wn fun K hK => ?_
    | simp only [nops, nop, lops, lop, slimG, List.map_cons, List.map_nil, List.filterMap_cons, List.filterMap_nil, Option.map_none, Option.map_some, List.getElem?_toArray, List.getElem?_cons_zero, List.getElem?_cons_succ, Option.bind_some]
    | refine wb ?_ | refine wr ?_ | refine wk ?_ | refine we ?_ | refine ws ?_ | refine wq ?_
    | ((refine wc rfl (fun hc => ?_) (fun hc => ?_)) <;> (try simp at hc) <;> (try omega))
    | ((refine ib (fun hc => ?_) (fun hc => ?_)) <;> (try omega) <;> (try simp (disch := omega) only [if_pos, if_neg])))
    simp [rowOf]
  · have hj' : j < (M 3).length := hj
    have hj0 : j = 0 := by rw [hM.2.1] at hj'; omega
    subst hj0
    repeat' (first
    | (refine lwc fun R hR => ?_; simp [wrap_i64, wrap_u64, hg, AW.row_get, cfgV]; try simp (disch := omega) only [if_pos, if_neg, wrap_i64, wrap_u64])
    | (refine hR _ _ ?_; clear hR R) | (refine hK _ _ ?_; clear hK K) | refine lwn ?_ | refine lr ?_ | refine la ?_
    | refine wn fun K hK => ?_
    | simp only [nops, nop, lops, lop, slimG, List.map_cons, List.map_nil, List.filterMap_cons, List.filterMap_nil, Option.map_none, Option.map_some, List.getElem?_toArray, List.getElem?_cons_zero, List.getElem?_cons_succ, Option.bind_some]
    | refine wb ?_ | refine wr ?_ | refine wk ?_ | refine we ?_ | refine ws ?_ | refine wq ?_
    | ((refine wc rfl (fun hc => ?_) (fun hc => ?_)) <;> (try simp at hc) <;> (try omega))
    | ((refine ib (fun hc => ?_) (fun hc => ?_)) <;> (try omega) <;> (try simp (disch := omega) only [if_pos, if_neg])))
    simp [rowOf]
  · have hj' : j < (M 4).length := hj
    have hj0 : j = 0 := by rw [hM.2.2] at hj'; omega
    subst hj0
    repeat' (first
    | (refine lwc fun R hR => ?_; simp [wrap_i64, wrap_u64, hg, AW.row_get, cfgV]; try simp (disch := omega) only [if_pos, if_neg, wrap_i64, wrap_u64])
    | (refine hR _ _ ?_; clear hR R) | (refine hK _ _ ?_; clear hK K) | refine lwn ?_ | refine lr ?_ | refine la ?_
    | refine wn fun K hK => ?_
    | simp only [nops, nop, lops, lop, slimG, List.map_cons, List.map_nil, List.filterMap_cons, List.filterMap_nil, Option.map_none, Option.map_some, List.getElem?_toArray, List.getElem?_cons_zero, List.getElem?_cons_succ, Option.bind_some]
    | refine wb ?_ | refine wr ?_ | refine wk ?_ | refine we ?_ | refine ws ?_ | refine wq ?_
    | ((refine wc rfl (fun hc => ?_) (fun hc => ?_)) <;> (try simp at hc) <;> (try omega))
    | ((refine ib (fun hc => ?_) (fun hc => ?_)) <;> (try omega) <;> (try simp (disch := omega) only [if_pos, if_neg])))
    simp [rowOf]
  · have hj' : j < (M 5).length := hj
    have hji : (j : Int) < (M 5).length := by omega
    obtain ⟨p, row, own, rfl, g, d⟩ := i5.atg hj'
    repeat' (first
    | (refine lwc fun R hR => ?_; simp [wrap_i64, wrap_u64, hg, AW.row_get, cfgV, g, d, hj', hji]; try simp (disch := omega) only [if_pos, if_neg, wrap_i64, wrap_u64])
    | (refine hR _ _ ?_; clear hR R) | (refine hK _ _ ?_; clear hK K) | refine lwn ?_ | refine lr ?_ | refine la ?_
    | refine wn fun K hK => ?_
    | simp only [nops, nop, lops, lop, slimG, List.map_cons, List.map_nil, List.filterMap_cons, List.filterMap_nil, Option.map_none, Option.map_some, List.getElem?_toArray, List.getElem?_cons_zero, List.getElem?_cons_succ, Option.bind_some]
    | refine wb ?_ | refine wr ?_ | refine wk ?_ | refine we ?_ | refine ws ?_ | refine wq ?_
    | ((refine wc rfl (fun hc => ?_) (fun hc => ?_)) <;> (try simp at hc) <;> (try omega))
    | ((refine ib (fun hc => ?_) (fun hc => ?_)) <;> (try omega) <;> (try simp (disch := omega) only [if_pos, if_neg])))
    simp only [rowOf]; simp [hgd hj', hj']
  · have hj' : j < (M 6).length := hj
    have hji : (j : Int) < (M 6).length := by omega
    obtain ⟨p, row, own, rfl, g, d⟩ := i6.atg hj'
    repeat' (first
    | (refine lwc fun R hR => ?_; simp [wrap_i64, wrap_u64, hg, AW.row_get, cfgV, g, d, hj', hji]; try simp (disch := omega) only [if_pos, if_neg, wrap_i64, wrap_u64])
    | (refine hR _ _ ?_; clear hR R) | (refine hK _ _ ?_; clear hK K) | refine lwn ?_ | refine lr ?_ | refine la ?_
    | refine wn fun K hK => ?_
    | simp only [nops, nop, lops, lop, slimG, List.map_cons, List.map_nil, List.filterMap_cons, List.filterMap_nil, Option.map_none, Option.map_some, List.getElem?_toArray, List.getElem?_cons_zero, List.getElem?_cons_succ, Option.bind_some]
    | refine wb ?_ | refine wr ?_ | refine wk ?_ | refine we ?_ | refine ws ?_ | refine wq ?_
    | ((refine wc rfl (fun hc => ?_) (fun hc => ?_)) <;> (try simp at hc) <;> (try omega))
    | ((refine ib (fun hc => ?_) (fun hc => ?_)) <;> (try omega) <;> (try simp (disch := omega) only [if_pos, if_neg])))
    simp only [rowOf]; simp [hgd hj', hj']
  · have hj' : j < (M 7).length := hj
    have hji : (j : Int) < (M 7).length := by omega
    obtain ⟨p, row, own, rfl, g, d⟩ := i7.atg hj'
    repeat' (first
    | (refine lwc fun R hR => ?_; simp [wrap_i64, wrap_u64, hg, AW.row_get, cfgV, g, d, hj', hji]; try simp (disch := omega) only [if_pos, if_neg, wrap_i64, wrap_u64])
    | (refine hR _ _ ?_; clear hR R) | (refine hK _ _ ?_; clear hK K) | refine lwn ?_ | refine lr ?_ | refine la ?_
    | refine wn fun K hK => ?_
    | simp only [nops, nop, lops, lop, slimG, List.map_cons, List.map_nil, List.filterMap_cons, List.filterMap_nil, Option.map_none, Option.map_some, List.getElem?_toArray, List.getElem?_cons_zero, List.getElem?_cons_succ, Option.bind_some]
    | refine wb ?_ | refine wr ?_ | refine wk ?_ | refine we ?_ | refine ws ?_ | refine wq ?_
    | ((refine wc rfl (fun hc => ?_) (fun hc => ?_)) <;> (try simp at hc) <;> (try omega))
    | ((refine ib (fun hc => ?_) (fun hc => ?_)) <;> (try omega) <;> (try simp (disch := omega) only [if_pos, if_neg])))
    simp only [rowOf]; simp [hgd hj', hj']

set_option maxHeartbeats 2000000 in
theorem refSet_call (mb : Nat) (M : Nat → List Int) (cell idx y : Int) (hM : RefOk M) (hh : hasCell M cell idx = true) :
    SCall Try.prog 83 [.pointer (some ⟨mb, 0, none⟩), .int .i64 cell, .int .i64 idx, .int .u64 y] (RefH mb M) (fun _ => RefH mb (setRow M cell idx y)) := by
  intro A F hw h
  refine acall_intro Try.func83 rfl (by kernel_rfl) fun _ => ?_
  obtain ⟨v0, v1, v5, v6, v7, hS⟩ := RefH.open h
  have hg := hS.get
  have hd : 0 ≤ idx ∧ idx < (rowOf M cell).length := by simpa [hasCell] using hh
  obtain ⟨j, rfl⟩ : ∃ j : Nat, idx = j := ⟨idx.toNat, by omega⟩
  have hj : j < (rowOf M cell).length := by omega
  have hc : cell = 1 ∨ cell = 2 ∨ cell = 3 ∨ cell = 4 ∨ cell = 5 ∨ cell = 6 ∨ cell = 7 ∨ cell = 8 := by
    by_cases hh : 1 ≤ cell ∧ cell ≤ 8
    · omega
    · rw [rowOf, if_neg hh] at hj; simp at hj
  have one : ∀ l : List Int, l.length = 1 → (l.set 0 y).getD 0 0 = y := fun l hl => by
    match l, hl with
    | [x], _ => rfl
  rcases hc with rfl | rfl | rfl | rfl | rfl | rfl | rfl | rfl
  · have hj' : j < (M 0).length := hj
    have hji : (j : Int) < (M 0).length := by omega
    have hSk : Sat A (IntsH .u64 v0 (M 0) * (pt mb (.cells (cfgV.cells.toList ++ [v0, v1, .int .u64 ((M 2).getD 0 0), .int .u64 ((M 3).getD 0 0), .int .u64 ((M 4).getD 0 0), v5, v6, v7]) true 1) * (IntsH .u64 v1 (M 1) * (IntsH .u64 v5 (M 5) * (IntsH .u64 v6 (M 6) * (IntsH .u64 v7 (M 7) * F)))))) := hS.cast (by ac_rfl)
    obtain ⟨b, off, c, row, hv, _, gb, db, hfit, hset⟩ := IntsH.at hSk hj'
    have hbn : off + j + 1 ≤ row.length := by omega
    have hg2 := hg
    rw [hv] at hg2
    repeat' (first
    | (refine lwc fun R hR => ?_; simp [wrap_i64, wrap_u64, hg2, AW.row_get, astore, cfgV, gb, db, hj', hji, hbn]; try simp (disch := omega) only [if_pos, if_neg, wrap_i64, wrap_u64])
    | (refine hR _ _ ?_; clear hR R) | (refine hK _ _ ?_; clear hK K) | refine lwn ?_ | refine lr ?_ | refine la ?_
    | refine wn fun K hK => ?_
    | simp only [nops, nop, lops, lop, slimG, List.map_cons, List.map_nil, List.filterMap_cons, List.filterMap_nil, Option.map_none, Option.map_some, List.getElem?_toArray, List.getElem?_cons_zero, List.getElem?_cons_succ, Option.bind_some]
    | refine wb ?_ | refine wr ?_ | refine wk ?_ | refine we ?_ | refine ws ?_ | refine wq ?_
    | ((refine wc rfl (fun hc => ?_) (fun hc => ?_)) <;> (try simp at hc) <;> (try omega))
    | ((refine ib (fun hc => ?_) (fun hc => ?_)) <;> (try omega) <;> (try simp (disch := omega) only [if_pos, if_neg])))
    refine ⟨_, by first | (simp; done) | (simp; rfl), ?_⟩
    refine RefH.close (v0 := v0) (v1 := v1) (v5 := v5) (v6 := v6) (v7 := v7) ?_
    exact (hset y).cast (by simp only [setRow, Int.toNat_natCast]; simp; ac_rfl)
  · have hj' : j < (M 1).length := hj
    have hji : (j : Int) < (M 1).length := by omega
    have hSk : Sat A (IntsH .u64 v1 (M 1) * (pt mb (.cells (cfgV.cells.toList ++ [v0, v1, .int .u64 ((M 2).getD 0 0), .int .u64 ((M 3).getD 0 0), .int .u64 ((M 4).getD 0 0), v5, v6, v7]) true 1) * (IntsH .u64 v0 (M 0) * (IntsH .u64 v5 (M 5) * (IntsH .u64 v6 (M 6) * (IntsH .u64 v7 (M 7) * F)))))) := hS.cast (by ac_rfl)
    obtain ⟨b, off, c, row, hv, _, gb, db, hfit, hset⟩ := IntsH.at hSk hj'
    have hbn : off + j + 1 ≤ row.length := by omega
    have hg2 := hg
    rw [hv] at hg2
    repeat' (first
    | (refine lwc fun R hR => ?_; simp [wrap_i64, wrap_u64, hg2, AW.row_get, astore, cfgV, gb, db, hj', hji, hbn]; try simp (disch := omega) only [if_pos, if_neg, wrap_i64, wrap_u64])
    | (refine hR _ _ ?_; clear hR R) | (refine hK _ _ ?_; clear hK K) | refine lwn ?_ | refine lr ?_ | refine la ?_
    | refine wn fun K hK => ?_
    | simp only [nops, nop, lops, lop, slimG, List.map_cons, List.map_nil, List.filterMap_cons, List.filterMap_nil, Option.map_none, Option.map_some, List.getElem?_toArray, List.getElem?_cons_zero, List.getElem?_cons_succ, Option.bind_some]
    | refine wb ?_ | refine wr ?_ | refine wk ?_ | refine we ?_ | refine ws ?_ | refine wq ?_
    | ((refine wc rfl (fun hc => ?_) (fun hc => ?_)) <;> (try simp at hc) <;> (try omega))
    | ((refine ib (fun hc => ?_) (fun hc => ?_)) <;> (try omega) <;> (try simp (disch := omega) only [if_pos, if_neg])))
    refine ⟨_, by first | (simp; done) | (simp; rfl), ?_⟩
    refine RefH.close (v0 := v0) (v1 := v1) (v5 := v5) (v6 := v6) (v7 := v7) ?_
    exact (hset y).cast (by simp only [setRow, Int.toNat_natCast]; simp; ac_rfl)
  · have hj0 : j = 0 := by have hj' : j < (M 2).length := hj; rw [hM.1] at hj'; omega
    subst hj0
    repeat' (first
    | (refine lwc fun R hR => ?_; simp [wrap_i64, wrap_u64, hg, AW.row_get, astore, cfgV]; try simp (disch := omega) only [if_pos, if_neg, wrap_i64, wrap_u64])
    | (refine hR _ _ ?_; clear hR R) | (refine hK _ _ ?_; clear hK K) | refine lwn ?_ | refine lr ?_ | refine la ?_
    | refine wn fun K hK => ?_
    | simp only [nops, nop, lops, lop, slimG, List.map_cons, List.map_nil, List.filterMap_cons, List.filterMap_nil, Option.map_none, Option.map_some, List.getElem?_toArray, List.getElem?_cons_zero, List.getElem?_cons_succ, Option.bind_some]
    | refine wb ?_ | refine wr ?_ | refine wk ?_ | refine we ?_ | refine ws ?_ | refine wq ?_
    | ((refine wc rfl (fun hc => ?_) (fun hc => ?_)) <;> (try simp at hc) <;> (try omega))
    | ((refine ib (fun hc => ?_) (fun hc => ?_)) <;> (try omega) <;> (try simp (disch := omega) only [if_pos, if_neg])))
    refine ⟨_, by first | (simp; done) | (simp; rfl), ?_⟩
    refine RefH.close (v0 := v0) (v1 := v1) (v5 := v5) (v6 := v6) (v7 := v7) ?_
    have e1 := one (M 2) hM.1
    refine (hS.set _).cast ?_
    simp only [setRow, Int.toNat_natCast]
    rw [List.getD_eq_getElem?_getD] at e1
    simp [e1, cfgV]
  · have hj0 : j = 0 := by have hj' : j < (M 3).length := hj; rw [hM.2.1] at hj'; omega
    subst hj0
    repeat' (first
    | (refine lwc fun R hR => ?_; simp [wrap_i64, wrap_u64, hg, AW.row_get, astore, cfgV]; try simp (disch := omega) only [if_pos, if_neg, wrap_i64, wrap_u64])
    | (refine hR _ _ ?_; clear hR R) | (refine hK _ _ ?_; clear hK K) | refine lwn ?_ | refine lr ?_ | refine la ?_
    | refine wn fun K hK => ?_
    | simp only [nops, nop, lops, lop, slimG, List.map_cons, List.map_nil, List.filterMap_cons, List.filterMap_nil, Option.map_none, Option.map_some, List.getElem?_toArray, List.getElem?_cons_zero, List.getElem?_cons_succ, Option.bind_some]
    | refine wb ?_ | refine wr ?_ | refine wk ?_ | refine we ?_ | refine ws ?_ | refine wq ?_
    | ((refine wc rfl (fun hc => ?_) (fun hc => ?_)) <;> (try simp at hc) <;> (try omega))
    | ((refine ib (fun hc => ?_) (fun hc => ?_)) <;> (try omega) <;> (try simp (disch := omega) only [if_pos, if_neg])))
    refine ⟨_, by first | (simp; done) | (simp; rfl), ?_⟩
    refine RefH.close (v0 := v0) (v1 := v1) (v5 := v5) (v6 := v6) (v7 := v7) ?_
    have e1 := one (M 3) hM.2.1
    refine (hS.set _).cast ?_
    simp only [setRow, Int.toNat_natCast]
    rw [List.getD_eq_getElem?_getD] at e1
    simp [e1, cfgV]
  · have hj0 : j = 0 := by have hj' : j < (M 4).length := hj; rw [hM.2.2] at hj'; omega
    subst hj0
    repeat' (first
    | (refine lwc fun R hR => ?_; simp [wrap_i64, wrap_u64, hg, AW.row_get, astore, cfgV]; try simp (disch := omega) only [if_pos, if_neg, wrap_i64, wrap_u64])
    | (refine hR _ _ ?_; clear hR R) | (refine hK _ _ ?_; clear hK K) | refine lwn ?_ | refine lr ?_ | refine la ?_
    | refine wn fun K hK => ?_
    | simp only [nops, nop, lops, lop, slimG, List.map_cons, List.map_nil, List.filterMap_cons, List.filterMap_nil, Option.map_none, Option.map_some, List.getElem?_toArray, List.getElem?_cons_zero, List.getElem?_cons_succ, Option.bind_some]
    | refine wb ?_ | refine wr ?_ | refine wk ?_ | refine we ?_ | refine ws ?_ | refine wq ?_
    | ((refine wc rfl (fun hc => ?_) (fun hc => ?_)) <;> (try simp at hc) <;> (try omega))
    | ((refine ib (fun hc => ?_) (fun hc => ?_)) <;> (try omega) <;> (try simp (disch := omega) only [if_pos, if_neg])))
    refine ⟨_, by first | (simp; done) | (simp; rfl), ?_⟩
    refine RefH.close (v0 := v0) (v1 := v1) (v5 := v5) (v6 := v6) (v7 := v7) ?_
    have e1 := one (M 4) hM.2.2
    refine (hS.set _).cast ?_
    simp only [setRow, Int.toNat_natCast]
    rw [List.getD_eq_getElem?_getD] at e1
    simp [e1, cfgV]
  · have hj' : j < (M 5).length := hj
    have hji : (j : Int) < (M 5).length := by omega
    have hSk : Sat A (IntsH .u64 v5 (M 5) * (pt mb (.cells (cfgV.cells.toList ++ [v0, v1, .int .u64 ((M 2).getD 0 0), .int .u64 ((M 3).getD 0 0), .int .u64 ((M 4).getD 0 0), v5, v6, v7]) true 1) * (IntsH .u64 v0 (M 0) * (IntsH .u64 v1 (M 1) * (IntsH .u64 v6 (M 6) * (IntsH .u64 v7 (M 7) * F)))))) := hS.cast (by ac_rfl)
    obtain ⟨b, off, c, row, hv, _, gb, db, hfit, hset⟩ := IntsH.at hSk hj'
    have hbn : off + j + 1 ≤ row.length := by omega
    have hg2 := hg
    rw [hv] at hg2
    repeat' (first
    | (refine lwc fun R hR => ?_; simp [wrap_i64, wrap_u64, hg2, AW.row_get, astore, cfgV, gb, db, hj', hji, hbn]; try simp (disch := omega) only [if_pos, if_neg, wrap_i64, wrap_u64])
    | (refine hR _ _ ?_; clear hR R) | (refine hK _ _ ?_; clear hK K) | refine lwn ?_ | refine lr ?_ | refine la ?_
    | refine wn fun K hK => ?_
    | simp only [nops, nop, lops, lop, slimG, List.map_cons, List.map_nil, List.filterMap_cons, List.filterMap_nil, Option.map_none, Option.map_some, List.getElem?_toArray, List.getElem?_cons_zero, List.getElem?_cons_succ, Option.bind_some]
    | refine wb ?_ | refine wr ?_ | refine wk ?_ | refine we ?_ | refine ws ?_ | refine wq ?_
    | ((refine wc rfl (fun hc => ?_) (fun hc => ?_)) <;> (try simp at hc) <;> (try omega))
    | ((refine ib (fun hc => ?_) (fun hc => ?_)) <;> (try omega) <;> (try simp (disch := omega) only [if_pos, if_neg])))
    refine ⟨_, by first | (simp; done) | (simp; rfl), ?_⟩
    refine RefH.close (v0 := v0) (v1 := v1) (v5 := v5) (v6 := v6) (v7 := v7) ?_
    exact (hset y).cast (by simp only [setRow, Int.toNat_natCast]; simp; ac_rfl)
  · have hj' : j < (M 6).length := hj
    have hji : (j : Int) < (M 6).length := by omega
    have hSk : Sat A (IntsH .u64 v6 (M 6) * (pt mb (.cells (cfgV.cells.toList ++ [v0, v1, .int .u64 ((M 2).getD 0 0), .int .u64 ((M 3).getD 0 0), .int .u64 ((M 4).getD 0 0), v5, v6, v7]) true 1) * (IntsH .u64 v0 (M 0) * (IntsH .u64 v1 (M 1) * (IntsH .u64 v5 (M 5) * (IntsH .u64 v7 (M 7) * F)))))) := hS.cast (by ac_rfl)
    obtain ⟨b, off, c, row, hv, _, gb, db, hfit, hset⟩ := IntsH.at hSk hj'
    have hbn : off + j + 1 ≤ row.length := by omega
    have hg2 := hg
    rw [hv] at hg2
    repeat' (first
    | (refine lwc fun R hR => ?_; simp [wrap_i64, wrap_u64, hg2, AW.row_get, astore, cfgV, gb, db, hj', hji, hbn]; try simp (disch := omega) only [if_pos, if_neg, wrap_i64, wrap_u64])
    | (refine hR _ _ ?_; clear hR R) | (refine hK _ _ ?_; clear hK K) | refine lwn ?_ | refine lr ?_ | refine la ?_
    | refine wn fun K hK => ?_
    | simp only [nops, nop, lops, lop, slimG, List.map_cons, List.map_nil, List.filterMap_cons, List.filterMap_nil, Option.map_none, Option.map_some, List.getElem?_toArray, List.getElem?_cons_zero, List.getElem?_cons_succ, Option.bind_some]
    | refine wb ?_ | refine wr ?_ | refine wk ?_ | refine we ?_ | refine ws ?_ | refine wq ?_
    | ((refine wc rfl (fun hc => ?_) (fun hc => ?_)) <;> (try simp at hc) <;> (try omega))
    | ((refine ib (fun hc => ?_) (fun hc => ?_)) <;> (try omega) <;> (try simp (disch := omega) only [if_pos, if_neg])))
    refine ⟨_, by first | (simp; done) | (simp; rfl), ?_⟩
    refine RefH.close (v0 := v0) (v1 := v1) (v5 := v5) (v6 := v6) (v7 := v7) ?_
    exact (hset y).cast (by simp only [setRow, Int.toNat_natCast]; simp; ac_rfl)
  · have hj' : j < (M 7).length := hj
    have hji : (j : Int) < (M 7).length := by omega
    have hSk : Sat A (IntsH .u64 v7 (M 7) * (pt mb (.cells (cfgV.cells.toList ++ [v0, v1, .int .u64 ((M 2).getD 0 0), .int .u64 ((M 3).getD 0 0), .int .u64 ((M 4).getD 0 0), v5, v6, v7]) true 1) * (IntsH .u64 v0 (M 0) * (IntsH .u64 v1 (M 1) * (IntsH .u64 v5 (M 5) * (IntsH .u64 v6 (M 6) * F)))))) := hS.cast (by ac_rfl)
    obtain ⟨b, off, c, row, hv, _, gb, db, hfit, hset⟩ := IntsH.at hSk hj'
    have hbn : off + j + 1 ≤ row.length := by omega
    have hg2 := hg
    rw [hv] at hg2
    repeat' (first
    | (refine lwc fun R hR => ?_; simp [wrap_i64, wrap_u64, hg2, AW.row_get, astore, cfgV, gb, db, hj', hji, hbn]; try simp (disch := omega) only [if_pos, if_neg, wrap_i64, wrap_u64])
    | (refine hR _ _ ?_; clear hR R) | (refine hK _ _ ?_; clear hK K) | refine lwn ?_ | refine lr ?_ | refine la ?_
    | refine wn fun K hK => ?_
    | simp only [nops, nop, lops, lop, slimG, List.map_cons, List.map_nil, List.filterMap_cons, List.filterMap_nil, Option.map_none, Option.map_some, List.getElem?_toArray, List.getElem?_cons_zero, List.getElem?_cons_succ, Option.bind_some]
    | refine wb ?_ | refine wr ?_ | refine wk ?_ | refine we ?_ | refine ws ?_ | refine wq ?_
    | ((refine wc rfl (fun hc => ?_) (fun hc => ?_)) <;> (try simp at hc) <;> (try omega))
    | ((refine ib (fun hc => ?_) (fun hc => ?_)) <;> (try omega) <;> (try simp (disch := omega) only [if_pos, if_neg])))
    refine ⟨_, by first | (simp; done) | (simp; rfl), ?_⟩
    refine RefH.close (v0 := v0) (v1 := v1) (v5 := v5) (v6 := v6) (v7 := v7) ?_
    exact (hset y).cast (by simp only [setRow, Int.toNat_natCast]; simp; ac_rfl)

end Go.Stx
