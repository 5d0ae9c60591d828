/-
  The program's cells: what each operation on them does.
-/
import Derived.Test.YtajhaafmlnoioaaCoreB
import Derived.Test.YtajhaafmlnoioaaKit
namespace Go.Stx
open Go Go.Proofs
attribute [local irreducible] AWP LWalk ACall ARounds lops nops
set_option linter.unusedVariables false
set_option linter.unusedSimpArgs false

def memF (vs : Nat → Value) (a : Int) : Option Value := if 1 ≤ a ∧ a ≤ 8 then some (vs (a - 1).toNat) else none

/-- The program's cells at a place: M k has the words of kind k + 1. -/
def MemH (pb : Nat) (M : Nat → List Int) : HP :=
  hex fun r : Nat => hex fun vs : Nat → Value =>
    pt pb (.cells [.map (some r)] true 1) * (MapI .i64 r (memF vs) * bstar (fun k => IntsH .u64 (vs k) (M k)) 8)

theorem MemH.open {A : AW} {pb : Nat} {M : Nat → List Int} {F : HP} (h : Sat A (MemH pb M * F)) :
    ∃ r vs, Sat A (pt pb (.cells [.map (some r)] true 1) * (MapI .i64 r (memF vs) * (bstar (fun k => IntsH .u64 (vs k) (M k)) 8 * F))) := by
  unfold MemH at h
  rw [Sat.ex] at h
  obtain ⟨r, h⟩ := h
  rw [Sat.ex] at h
  obtain ⟨vs, h⟩ := h
  rw [HP.mul_assoc, HP.mul_assoc] at h
  exact ⟨r, vs, h⟩
theorem MemH.close {A : AW} {pb : Nat} {M : Nat → List Int} {F : HP} {r : Nat} {vs : Nat → Value} (h : Sat A (pt pb (.cells [.map (some r)] true 1) * (MapI .i64 r (memF vs) * (bstar (fun k => IntsH .u64 (vs k) (M k)) 8 * F)))) :
    Sat A (MemH pb M * F) := by
  unfold MemH
  rw [Sat.ex]
  refine ⟨r, ?_⟩
  rw [Sat.ex]
  refine ⟨vs, ?_⟩
  rw [HP.mul_assoc, HP.mul_assoc]
  exact h

structure Acc where
  kind : Int
  cell : Int
  idx : Int
  got : Int
  put : Int
  done : Bool
deriving DecidableEq

def Acc.v (a : Acc) : Value := .agg #[.int .i64 a.kind, .int .i64 a.cell, .int .i64 a.idx, .int .u64 a.got, .int .u64 a.put, .bool a.done]
def Acc.cells (a : Acc) : List Value := [.int .i64 a.kind, .int .i64 a.cell, .int .i64 a.idx, .int .u64 a.got, .int .u64 a.put, .bool a.done]
def Acc.zero : Acc := ⟨0, 0, 0, 0, 0, false⟩
def rowOf (M : Nat → List Int) (cell : Int) : List Int := if 1 ≤ cell ∧ cell ≤ 8 then M (cell - 1).toNat else []
def setRow (M : Nat → List Int) (cell idx v : Int) : Nat → List Int := fun k => if k = (cell - 1).toNat then (M k).set idx.toNat v else M k
/-- There is such a cell. -/
def hasCell (M : Nat → List Int) (cell idx : Int) : Bool := decide (0 ≤ idx ∧ idx < (rowOf M cell).length)
def opAcc (M : Nat → List Int) (kind cell idx : Int) (g : Int → Int × Bool) : Acc :=
  if hasCell M cell idx = true then
    let got := (rowOf M cell).getD idx.toNat 0
    ⟨kind, cell, idx, got, if (g got).2 = true then (g got).1 else got, (g got).2⟩
  else Acc.zero
def opErr (M : Nat → List Int) (cell idx : Int) : Int := if hasCell M cell idx = true then 0 else 60
def opV (M : Nat → List Int) (kind cell idx : Int) (g : Int → Int × Bool) : Value := .tuple #[(opAcc M kind cell idx g).v, .int .i64 (opErr M cell idx)]
def opM (M : Nat → List Int) (cell idx : Int) (g : Int → Int × Bool) : Nat → List Int :=
  if hasCell M cell idx = true ∧ (g ((rowOf M cell).getD idx.toNat 0)).2 = true then setRow M cell idx (g ((rowOf M cell).getD idx.toNat 0)).1 else M

def accZ : List Value := [.int .i64 0, .int .i64 0, .int .i64 0, .int .u64 0, .int .u64 0, .bool false]

set_option maxHeartbeats 1000000 in
theorem operate_call (pb : Nat) (M : Nat → List Int) (kind cell idx : Int) (fc : FuncId) (fs cs : Array Value) (C : HP) (g : Int → Int × Bool)
    (hcl : ∀ old, SCall Try.prog fc (fs.toList ++ .int .u64 old :: cs.toList) C (fun v => hpr (v = .tuple #[.int .u64 (g old).1, .bool (g old).2]) * C)) :
    SCall Try.prog 59 [.pointer (some ⟨pb, 0, none⟩), .int .i64 kind, .int .i64 cell, .int .i64 idx, .func (.func fc) fs cs] (MemH pb M * C)
      (fun v => hpr (v = opV M kind cell idx g) * (MemH pb (opM M cell idx g) * C)) := by
  intro A F hw0 hS
  refine acall_intro Try.func59 rfl (by kernel_rfl) fun hw => ?_
  rw [HP.mul_assoc] at hS
  obtain ⟨r, vs, hS⟩ := MemH.open hS
  have hgp := hS.get
  have hS2 : Sat A (MapI .i64 r (memF vs) * (pt pb (.cells [.map (some r)] true 1) * (bstar (fun k => IntsH .u64 (vs k) (M k)) 8 * (C * F)))) := hS.cast (by ac_rfl)
  obtain ⟨rows, hgr, hfind, hnone, hS3, hback⟩ := MapI.facts hS2
  obtain ⟨np, np'⟩ := hw.old hgp
  obtain ⟨nr, nr'⟩ := hw.old hgr
  by_cases hcell : 1 ≤ cell ∧ cell ≤ 8
  · obtain ⟨k, hk⟩ : ∃ k, k = (cell - 1).toNat := ⟨_, rfl⟩
    have hrow : rowOf M cell = M k := by rw [hk]; exact if_pos hcell
    have hlook := hfind .i64 cell (vs k) (by simp [memF, hcell, hk])
    obtain ⟨q, hlook⟩ := hlook
    have hk8 : k < 8 := by omega
    have hS4 : Sat A (IntsH .u64 (vs k) (M k) * (bstar (updH (fun k => IntsH .u64 (vs k) (M k)) k hemp) 8 * (pt pb (.cells [.map (some r)] true 1) * (MapI .i64 r (memF vs) * (C * F))))) :=
      Sat.pick (f := fun k => IntsH .u64 (vs k) (M k)) (F := pt pb (.cells [.map (some r)] true 1) * (MapI .i64 r (memF vs) * (C * F))) (hS.cast (by ac_rfl)) hk8
    by_cases hin : 0 ≤ idx ∧ idx < (M k).length
    · have hyes : hasCell M cell idx = true := by simpa [hasCell, hrow] using hin
      obtain ⟨j, hj⟩ : ∃ j, j = idx.toNat := ⟨_, rfl⟩
      have hjl : j < (M k).length := by omega
      have hidx : idx = (j : Int) := by omega
      subst hidx
      have hjl' : (j : Int) < (M k).length := by omega
      obtain ⟨b, off, c, row, hv, hc0, hgb, hcb, hfit, _⟩ := IntsH.at hS4 hjl
      rw [hv] at hlook
      have hgot : (rowOf M cell).getD (j : Int).toNat 0 = (M k)[j] := by rw [hrow, ← hj, List.getD_eq_getElem?_getD, List.getElem?_eq_getElem hjl]; rfl
      obtain ⟨nb, nb'⟩ := hw.old hgb
      repeat' (first
      | (refine lwc fun R hR => ?_; simp [wrap_i64, wrap_u64, hgp, hgr, hgb, hcb, hlook, np, np', nr, nr', nb, nb', AW.row_get, astore, hjl', hjl]; try simp (disch := omega) only [if_pos, if_neg, wrap_i64, wrap_u64])
      | (refine hR _ _ ?_; clear hR R) | (refine hK _ _ ?_; clear hK K) | refine lwn ?_ | refine lr ?_ | refine la ?_
      | refine wn fun K hK => ?_
      | simp only [nops, nop, lops, lop, slimG, List.map_cons, List.map_nil, List.filterMap_cons, List.filterMap_nil, Option.map_none, Option.map_some, List.getElem?_toArray, List.getElem?_cons_zero, List.getElem?_cons_succ, Option.bind_some]
      | refine wb ?_ | refine wr ?_ | refine wk ?_ | refine we ?_ | refine ws ?_ | refine wq ?_
      | ((refine wc rfl (fun hc => ?_) (fun hc => ?_)) <;> (try simp at hc) <;> (try omega))
      | ((refine ib (fun hc => ?_) (fun hc => ?_)) <;> (try omega) <;> (try simp (disch := omega) only [if_pos, if_neg])))
      have hS1 : Sat (A.alloc (.cells accZ true 1)) (C * (pt A.next (.cells accZ true 1) * (IntsH .u64 (vs k) (M k) * (bstar (updH (fun k => IntsH .u64 (vs k) (M k)) k hemp) 8 * (pt pb (.cells [.map (some r)] true 1) * (MapI .i64 r (memF vs) * F)))))) :=
        (hS4.alloc hw _).cast (by ac_rfl)
      refine (hcl _).use (hw.alloc _) hS1 rfl ?_
      intro v A2 hS6 hw2 _
      obtain ⟨rfl, hS5⟩ := hS6.unpost
      clear hS6
      have hS3 : Sat A2 (IntsH .u64 (vs k) (M k) * (pt A.next (.cells accZ true 1) * (C * (bstar (updH (fun k => IntsH .u64 (vs k) (M k)) k hemp) 8 * (pt pb (.cells [.map (some r)] true 1) * (MapI .i64 r (memF vs) * F)))))) := hS5.cast (by ac_rfl)
      have hgx := (show Sat A2 (pt A.next (.cells accZ true 1) * (IntsH .u64 (vs k) (M k) * (C * (bstar (updH (fun k => IntsH .u64 (vs k) (M k)) k hemp) 8 * (pt pb (.cells [.map (some r)] true 1) * (MapI .i64 r (memF vs) * F)))))) from hS5.cast (by ac_rfl)).get
      clear hgb hcb hfit
      obtain ⟨b', off', c', row', hv', _, hgb, hcb, hfit, hset⟩ := IntsH.at hS3 hjl
      rw [hv] at hv'
      injection hv' with e1 e2 e3
      injection e1 with e1
      injection e1 with e1 e4
      subst e1; subst e4; subst e3
      have hne : (b = A.next) = False := nb
      have hne' : (A.next = b) = False := eq_false fun e => by rw [e] at hne; simp at hne
      have fin : ∀ (A3 : AW) (L : List Int) (x : AObj), Sat A3 (IntsH .u64 (vs k) L * (pt A.next (.cells accZ true 1) * (C * (bstar (updH (fun k => IntsH .u64 (vs k) (M k)) k hemp) 8 * (pt pb (.cells [.map (some r)] true 1) * (MapI .i64 r (memF vs) * F)))))) →
          Sat (A3.set A.next (some x)) (MemH pb (fun q => if q = k then L else M q) * (C * F)) := by
        intro A3 L x h
        have h1 : Sat A3 (pt A.next (.cells accZ true 1) * (IntsH .u64 (vs k) L * (bstar (updH (fun k => IntsH .u64 (vs k) (M k)) k hemp) 8 * (pt pb (.cells [.map (some r)] true 1) * (MapI .i64 r (memF vs) * (C * F)))))) := h.cast (by ac_rfl)
        have h2 := Sat.put (f := fun k => IntsH .u64 (vs k) (M k)) (h1.set x).right hk8
        have e : updH (fun k => IntsH .u64 (vs k) (M k)) k (IntsH .u64 (vs k) L) = fun q => IntsH .u64 (vs q) (if q = k then L else M q) := by
          funext q
          simp only [updH]
          split
          · rename_i e; rw [e]
          · rfl
        rw [e] at h2
        exact MemH.close (r := r) (vs := vs) (h2.cast (by ac_rfl))
      have hbnd : off + j + 1 ≤ row'.length := by omega
      have hop : opV M kind cell (j : Int) g = .tuple #[(Acc.mk kind cell j (M k)[j] (if (g (M k)[j]).2 = true then (g (M k)[j]).1 else (M k)[j]) (g (M k)[j]).2).v, .int .i64 0] := by
        unfold opV opAcc opErr; rw [if_pos hyes, if_pos hyes, hgot]
      cases hg2 : (g (M k)[j]).2
      · repeat' (first
      | (refine lwc fun R hR => ?_; simp [wrap_i64, wrap_u64, hgx, hgb, hcb, hne, hne', AW.row_get, astore, hjl', hjl, accZ, hg2]; try simp (disch := omega) only [if_pos, if_neg, wrap_i64, wrap_u64])
      | (refine hR _ _ ?_; clear hR R) | (refine hK _ _ ?_; clear hK K) | refine lwn ?_ | refine lr ?_ | refine la ?_
      | refine wn fun K hK => ?_
      | simp only [nops, nop, lops, lop, slimG, List.map_cons, List.map_nil, List.filterMap_cons, List.filterMap_nil, Option.map_none, Option.map_some, List.getElem?_toArray, List.getElem?_cons_zero, List.getElem?_cons_succ, Option.bind_some]
      | refine wb ?_ | refine wr ?_ | refine wk ?_ | refine we ?_ | refine ws ?_ | refine wq ?_
      | ((refine wc rfl (fun hc => ?_) (fun hc => ?_)) <;> (try simp at hc) <;> (try omega))
      | ((refine ib (fun hc => ?_) (fun hc => ?_)) <;> (try omega) <;> (try simp (disch := omega) only [if_pos, if_neg])))
        refine ⟨_, by simp [AW.get_alloc, AW.get_set, AW.row_get, astore]; rfl, Sat.post (by simp [hop, Acc.v, hg2]) ?_⟩
        have hM : opM M cell (j : Int) g = fun q => if q = k then M k else M q := by
          funext q
          simp only [opM, hgot, hg2]
          simp only [Bool.false_eq_true, and_false, if_false]
          split
          · rename_i e; rw [e]
          · rfl
        rw [hM, HP.mul_assoc]
        exact fin A2 (M k) _ hS3
      · have hcb' : (row'.set (off + j) (Value.int .u64 (g (M k)[j]).1))[off + j]? = some (Value.int .u64 (g (M k)[j]).1) := List.getElem?_set_self (by omega)
        repeat' (first
        | (refine lwc fun R hR => ?_; simp [wrap_i64, wrap_u64, hgx, hgb, hcb, hcb', hne, hne', hbnd, AW.row_get, astore, hjl', hjl, accZ, hg2]; try simp (disch := omega) only [if_pos, if_neg, wrap_i64, wrap_u64])
        | (refine hR _ _ ?_; clear hR R) | (refine hK _ _ ?_; clear hK K) | refine lwn ?_ | refine lr ?_ | refine la ?_
        | refine wn fun K hK => ?_
        | simp only [nops, nop, lops, lop, slimG, List.map_cons, List.map_nil, List.filterMap_cons, List.filterMap_nil, Option.map_none, Option.map_some, List.getElem?_toArray, List.getElem?_cons_zero, List.getElem?_cons_succ, Option.bind_some]
        | refine wb ?_ | refine wr ?_ | refine wk ?_ | refine we ?_ | refine ws ?_ | refine wq ?_
        | ((refine wc rfl (fun hc => ?_) (fun hc => ?_)) <;> (try simp at hc) <;> (try omega))
        | ((refine ib (fun hc => ?_) (fun hc => ?_)) <;> (try omega) <;> (try simp (disch := omega) only [if_pos, if_neg])))
        refine ⟨_, by simp [AW.get_alloc, AW.get_set, AW.row_get, astore]; rfl, Sat.post (by simp [hop, Acc.v, hg2]) ?_⟩
        have hM : opM M cell (j : Int) g = fun q => if q = k then (M k).set j (g (M k)[j]).1 else M q := by
          have e0 : opM M cell (j : Int) g = setRow M cell j (g (M k)[j]).1 := by unfold opM; rw [hgot, if_pos ⟨hyes, hg2⟩]
          rw [e0]
          funext q
          simp only [setRow, ← hk, ← hj]
          by_cases e : q = k
          · rw [if_pos e, if_pos e, e]
          · rw [if_neg e, if_neg e]
        rw [hM, HP.mul_assoc]
        exact fin _ _ _ (hset _)
    · obtain ⟨o, c, hv, _⟩ := (IntsH.is hS4).form
      rw [hv] at hlook
      have hno : hasCell M cell idx = false := by simpa [hasCell, hrow] using hin
      repeat' (first
      | (refine lwc fun R hR => ?_; simp [wrap_i64, wrap_u64, hgp, hgr, hlook, np, np', nr, nr', AW.row_get, astore, hin]; try simp (disch := omega) only [if_pos, if_neg, wrap_i64, wrap_u64])
      | (refine hR _ _ ?_; clear hR R) | (refine hK _ _ ?_; clear hK K) | refine lwn ?_ | refine lr ?_ | refine la ?_
      | refine wn fun K hK => ?_
      | simp only [nops, nop, lops, lop, slimG, List.map_cons, List.map_nil, List.filterMap_cons, List.filterMap_nil, Option.map_none, Option.map_some, List.getElem?_toArray, List.getElem?_cons_zero, List.getElem?_cons_succ, Option.bind_some]
      | refine wb ?_ | refine wr ?_ | refine wk ?_ | refine we ?_ | refine ws ?_ | refine wq ?_
      | ((refine wc rfl (fun hc => ?_) (fun hc => ?_)) <;> (try simp at hc) <;> (try omega))
      | ((refine ib (fun hc => ?_) (fun hc => ?_)) <;> (try omega) <;> (try simp (disch := omega) only [if_pos, if_neg])))
      all_goals
        refine ⟨_, by simp [AW.get_alloc, AW.get_set, AW.row_get, astore]; rfl, Sat.post (by simp [opV, opAcc, opErr, hno, Acc.v, Acc.zero]) ?_⟩
        have hM : opM M cell idx g = M := by simp [opM, hno]
        rw [hM, HP.mul_assoc]
        exact (MemH.close hS).le hw (((AW.le.alloc A _).set (Nat.le_refl _) _))
  · have hlook := hnone .i64 cell (by simp [memF, hcell])
    have hrow : rowOf M cell = [] := if_neg hcell
    have hno : hasCell M cell idx = false := by simp [hasCell, hrow]
    repeat' (first
    | (refine lwc fun R hR => ?_; simp [wrap_i64, wrap_u64, hgp, hgr, hlook, np, np', nr, nr', AW.row_get, astore]; try simp (disch := omega) only [if_pos, if_neg, wrap_i64, wrap_u64])
    | (refine hR _ _ ?_; clear hR R) | (refine hK _ _ ?_; clear hK K) | refine lwn ?_ | refine lr ?_ | refine la ?_
    | refine wn fun K hK => ?_
    | simp only [nops, nop, lops, lop, slimG, List.map_cons, List.map_nil, List.filterMap_cons, List.filterMap_nil, Option.map_none, Option.map_some, List.getElem?_toArray, List.getElem?_cons_zero, List.getElem?_cons_succ, Option.bind_some]
    | refine wb ?_ | refine wr ?_ | refine wk ?_ | refine we ?_ | refine ws ?_ | refine wq ?_
    | ((refine wc rfl (fun hc => ?_) (fun hc => ?_)) <;> (try simp at hc) <;> (try omega))
    | ((refine ib (fun hc => ?_) (fun hc => ?_)) <;> (try omega) <;> (try simp (disch := omega) only [if_pos, if_neg])))
    all_goals first
      | (exfalso; omega)
      | (refine ⟨_, (by simp [AW.get_alloc, AW.get_set, AW.row_get, astore]; rfl), Sat.post (by simp [opV, opAcc, opErr, hno, Acc.v, Acc.zero]) ?_⟩
         have hM : opM M cell idx g = M := by simp [opM, hno]
         rw [hM, HP.mul_assoc]
         exact (MemH.close hS).le hw (((AW.le.alloc A _).set (Nat.le_refl _) _)))

end Go.Stx
