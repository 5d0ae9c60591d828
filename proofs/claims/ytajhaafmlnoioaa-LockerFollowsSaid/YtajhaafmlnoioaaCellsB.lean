/-
  The program's cells: load, store, swap and add.
-/
import Derived.Test.YtajhaafmlnoioaaCells
namespace Go.Stx
open Go Go.Proofs
attribute [local irreducible] AWP LWalk ACall ARounds lops nops
set_option linter.unusedVariables false
set_option linter.unusedSimpArgs false

/-! ### Load, Store, Swap, Add -/

theorem opM_same {M : Nat → List Int} {cell idx : Int} {g : Int → Int × Bool} (h : ∀ o, (g o).2 = true → (g o).1 = o) : opM M cell idx g = M := by
  unfold opM
  split
  · rename_i hc
    funext k
    simp only [setRow]
    split
    · rename_i e
      rw [h _ hc.2]
      have hh : 1 ≤ cell ∧ cell ≤ 8 := by
        have := hc.1
        simp only [hasCell, rowOf] at this
        split at this
        · assumption
        · simp at this; omega
      have hr : rowOf M cell = M k := by rw [e]; exact if_pos hh
      have hi : 0 ≤ idx ∧ idx < (M k).length := by
        have := hc.1
        rw [hasCell, hr] at this
        simpa using this
      rw [hr]
      apply List.ext_getElem?
      intro q
      by_cases eq : idx.toNat = q
      · subst eq
        rw [List.getElem?_set_self (by omega), List.getD_eq_getElem?_getD, List.getElem?_eq_getElem (by omega)]; rfl
      · rw [List.getElem?_set_ne eq]
    · rfl
  · rfl

def gLoad (o : Int) : Int × Bool := (o, true)
def gStore (v : Int) (_ : Int) : Int × Bool := (v, true)
def gSwap (old v : Int) (o : Int) : Int × Bool := (v, decide (o = old))
def gAdd (v : Int) (o : Int) : Int × Bool := (IntKind.u64.wrap (o + v), true)

theorem load1_call (old : Int) : SCall Try.prog 63 [.int .u64 old] hemp (fun v => hpr (v = .tuple #[.int .u64 (gLoad old).1, .bool (gLoad old).2]) * hemp) := by
  intro A F hw hS
  refine acall_intro Try.func63 rfl (by kernel_rfl) fun _ => ?_
  repeat' (first
  | (refine lwc fun R hR => ?_; simp [wrap_i64, wrap_u64]; try simp (disch := omega) only [if_pos, if_neg, wrap_i64, wrap_u64])
  | (refine hR _ _ ?_; clear hR R) | (refine hK _ _ ?_; clear hK K) | refine lwn ?_ | refine lr ?_ | refine la ?_
  | refine wn fun K hK => ?_
  | simp only [nops, nop, lops, lop, slimG, List.map_cons, List.map_nil, List.filterMap_cons, List.filterMap_nil, Option.map_none, Option.map_some, List.getElem?_toArray, List.getElem?_cons_zero, List.getElem?_cons_succ, Option.bind_some]
  | refine wb ?_ | refine wr ?_ | refine wk ?_ | refine we ?_ | refine ws ?_ | refine wq ?_
  | ((refine wc rfl (fun hc => ?_) (fun hc => ?_)) <;> (try simp at hc) <;> (try omega))
  | ((refine ib (fun hc => ?_) (fun hc => ?_)) <;> (try omega) <;> (try simp (disch := omega) only [if_pos, if_neg])))
  exact ⟨_, rfl, Sat.post rfl hS⟩

theorem store1_call (b : Nat) (x old : Int) : SCall Try.prog 60 [.int .u64 old, .pointer (some ⟨b, 0, none⟩)] (pt b (.cells [.int .u64 x] true 1))
    (fun v => hpr (v = .tuple #[.int .u64 (gStore x old).1, .bool (gStore x old).2]) * pt b (.cells [.int .u64 x] true 1)) := by
  intro A F hw hS
  refine acall_intro Try.func60 rfl (by kernel_rfl) fun _ => ?_
  have hg := hS.get
  repeat' (first
  | (refine lwc fun R hR => ?_; simp [wrap_i64, wrap_u64, hg, AW.row_get]; try simp (disch := omega) only [if_pos, if_neg, wrap_i64, wrap_u64])
  | (refine hR _ _ ?_; clear hR R) | (refine hK _ _ ?_; clear hK K) | refine lwn ?_ | refine lr ?_ | refine la ?_
  | refine wn fun K hK => ?_
  | simp only [nops, nop, lops, lop, slimG, List.map_cons, List.map_nil, List.filterMap_cons, List.filterMap_nil, Option.map_none, Option.map_some, List.getElem?_toArray, List.getElem?_cons_zero, List.getElem?_cons_succ, Option.bind_some]
  | refine wb ?_ | refine wr ?_ | refine wk ?_ | refine we ?_ | refine ws ?_ | refine wq ?_
  | ((refine wc rfl (fun hc => ?_) (fun hc => ?_)) <;> (try simp at hc) <;> (try omega))
  | ((refine ib (fun hc => ?_) (fun hc => ?_)) <;> (try omega) <;> (try simp (disch := omega) only [if_pos, if_neg])))
  exact ⟨_, rfl, Sat.post rfl hS⟩

theorem swap1_call (b c : Nat) (x y old : Int) : SCall Try.prog 64 [.int .u64 old, .pointer (some ⟨b, 0, none⟩), .pointer (some ⟨c, 0, none⟩)]
    (pt b (.cells [.int .u64 x] true 1) * pt c (.cells [.int .u64 y] true 1))
    (fun v => hpr (v = .tuple #[.int .u64 (gSwap y x old).1, .bool (gSwap y x old).2]) * (pt b (.cells [.int .u64 x] true 1) * pt c (.cells [.int .u64 y] true 1))) := by
  intro A F hw hS
  refine acall_intro Try.func64 rfl (by kernel_rfl) fun _ => ?_
  rw [HP.mul_assoc] at hS
  have hg := hS.get
  have hg2 := hS.right.get
  repeat' (first
  | (refine lwc fun R hR => ?_; simp [wrap_i64, wrap_u64, hg, hg2, AW.row_get]; try simp (disch := omega) only [if_pos, if_neg, wrap_i64, wrap_u64])
  | (refine hR _ _ ?_; clear hR R) | (refine hK _ _ ?_; clear hK K) | refine lwn ?_ | refine lr ?_ | refine la ?_
  | refine wn fun K hK => ?_
  | simp only [nops, nop, lops, lop, slimG, List.map_cons, List.map_nil, List.filterMap_cons, List.filterMap_nil, Option.map_none, Option.map_some, List.getElem?_toArray, List.getElem?_cons_zero, List.getElem?_cons_succ, Option.bind_some]
  | (refine wl Try.mx [(0,0),(1,0),(2,0),(3,0),(4,0),(5,0)] (by decide +kernel) fun K hK => ?_)
  | refine wb ?_ | refine wr ?_ | refine wk ?_ | refine we ?_ | refine ws ?_ | refine wq ?_
  | ((refine wc rfl (fun hc => ?_) (fun hc => ?_)) <;> (try simp at hc) <;> (try omega))
  | ((refine ib (fun hc => ?_) (fun hc => ?_)) <;> (try omega) <;> (try simp (disch := omega) only [if_pos, if_neg])))
  exact ⟨_, rfl, Sat.post (by simp [gSwap]) (by rw [HP.mul_assoc]; exact hS)⟩

/-- What a walk around 'operate' ends with: its answer lies in a cell of its own. -/
theorem mem_load (pb : Nat) (M : Nat → List Int) (cell idx : Int) :
    SCall Try.prog 46 [.pointer (some ⟨pb, 0, none⟩), .int .i64 cell, .int .i64 idx] (MemH pb M)
      (fun v => hpr (v = .tuple #[(opAcc M 1 cell idx gLoad).v, .int .i64 (opErr M cell idx)]) * MemH pb M) := by
  intro A F hw hS
  refine acall_intro Try.func46 rfl (by kernel_rfl) fun _ => ?_
  repeat' (first
  | (refine lwc fun R hR => ?_; simp [wrap_i64, wrap_u64]; try simp (disch := omega) only [if_pos, if_neg, wrap_i64, wrap_u64])
  | (refine hR _ _ ?_; clear hR R) | (refine hK _ _ ?_; clear hK K) | refine lwn ?_ | refine lr ?_ | refine la ?_
  | refine wn fun K hK => ?_
  | simp only [nops, nop, lops, lop, slimG, List.map_cons, List.map_nil, List.filterMap_cons, List.filterMap_nil, Option.map_none, Option.map_some, List.getElem?_toArray, List.getElem?_cons_zero, List.getElem?_cons_succ, Option.bind_some]
  | refine wb ?_ | refine wr ?_ | refine wk ?_ | refine we ?_ | refine ws ?_ | refine wq ?_
  | ((refine wc rfl (fun hc => ?_) (fun hc => ?_)) <;> (try simp at hc) <;> (try omega))
  | ((refine ib (fun hc => ?_) (fun hc => ?_)) <;> (try omega) <;> (try simp (disch := omega) only [if_pos, if_neg])))
  have hS1 : Sat (A.alloc (.cells accZ true 1)) ((MemH pb M * hemp) * (pt A.next (.cells accZ true 1) * F)) := by
    rw [mul_hemp]; exact (hS.alloc hw _).cast (by ac_rfl)
  refine (operate_call pb M 1 cell idx _ #[] #[] hemp gLoad load1_call).use (hw.alloc _) hS1 rfl ?_
  intro v A2 hS2 hw2 _
  obtain ⟨rfl, hS3⟩ := hS2.unpost
  clear hS2
  rw [mul_hemp, opM_same (by intro o _; rfl)] at hS3
  have hS4 : Sat A2 (pt A.next (.cells accZ true 1) * (MemH pb M * F)) := hS3.cast (by ac_rfl)
  have hg := hS4.get
  repeat' (first
  | (refine lwc fun R hR => ?_; simp [wrap_i64, wrap_u64, hg, AW.row_get, astore, accZ, opV, Acc.v]; try simp (disch := omega) only [if_pos, if_neg, wrap_i64, wrap_u64])
  | (refine hR _ _ ?_; clear hR R) | (refine hK _ _ ?_; clear hK K) | refine lwn ?_ | refine lr ?_ | refine la ?_
  | refine wn fun K hK => ?_
  | simp only [nops, nop, lops, lop, slimG, List.map_cons, List.map_nil, List.filterMap_cons, List.filterMap_nil, Option.map_none, Option.map_some, List.getElem?_toArray, List.getElem?_cons_zero, List.getElem?_cons_succ, Option.bind_some]
  | refine wb ?_ | refine wr ?_ | refine wk ?_ | refine we ?_ | refine ws ?_ | refine wq ?_
  | ((refine wc rfl (fun hc => ?_) (fun hc => ?_)) <;> (try simp at hc) <;> (try omega))
  | ((refine ib (fun hc => ?_) (fun hc => ?_)) <;> (try omega) <;> (try simp (disch := omega) only [if_pos, if_neg])))
  exact ⟨_, by simp [AW.get_alloc, AW.get_set, AW.row_get, astore, Acc.v]; rfl, Sat.post (by simp [Acc.v]) (hS4.set _).right⟩

theorem mem_store (pb : Nat) (M : Nat → List Int) (cell idx x : Int) :
    SCall Try.prog 43 [.pointer (some ⟨pb, 0, none⟩), .int .i64 cell, .int .i64 idx, .int .u64 x] (MemH pb M)
      (fun v => hpr (v = .tuple #[(opAcc M 2 cell idx (gStore x)).v, .int .i64 (opErr M cell idx)]) * MemH pb (opM M cell idx (gStore x))) := by
  intro A F hw hS
  refine acall_intro Try.func43 rfl (by kernel_rfl) fun _ => ?_
  repeat' (first
  | (refine lwc fun R hR => ?_; simp [wrap_i64, wrap_u64]; try simp (disch := omega) only [if_pos, if_neg, wrap_i64, wrap_u64])
  | (refine hR _ _ ?_; clear hR R) | (refine hK _ _ ?_; clear hK K) | refine lwn ?_ | refine lr ?_ | refine la ?_
  | refine wn fun K hK => ?_
  | simp only [nops, nop, lops, lop, slimG, List.map_cons, List.map_nil, List.filterMap_cons, List.filterMap_nil, Option.map_none, Option.map_some, List.getElem?_toArray, List.getElem?_cons_zero, List.getElem?_cons_succ, Option.bind_some]
  | refine wb ?_ | refine wr ?_ | refine wk ?_ | refine we ?_ | refine ws ?_ | refine wq ?_
  | ((refine wc rfl (fun hc => ?_) (fun hc => ?_)) <;> (try simp at hc) <;> (try omega))
  | ((refine ib (fun hc => ?_) (fun hc => ?_)) <;> (try omega) <;> (try simp (disch := omega) only [if_pos, if_neg])))
  have hw1 := hw.alloc (.cells [.int .u64 x] true 1)
  have hS1 : Sat ((A.alloc (.cells [.int .u64 x] true 1)).alloc (.cells accZ true 1)) ((MemH pb M * pt A.next (.cells [.int .u64 x] true 1)) * (pt (A.next + 1) (.cells accZ true 1) * F)) :=
    ((hS.alloc hw (.cells [.int .u64 x] true 1)).alloc hw1 (.cells accZ true 1)).cast (by simp only [AW.alloc_next]; ac_rfl)
  refine (operate_call pb M 2 cell idx _ #[] #[.pointer (some ⟨A.next, 0, none⟩)] _ (gStore x) (store1_call A.next x)).use (hw1.alloc _) hS1 rfl ?_
  intro v A2 hS2 hw2 _
  obtain ⟨rfl, hS3⟩ := hS2.unpost
  clear hS2
  have hS4 : Sat A2 (pt (A.next + 1) (.cells accZ true 1) * (pt A.next (.cells [.int .u64 x] true 1) * (MemH pb (opM M cell idx (gStore x)) * F))) := hS3.cast (by ac_rfl)
  have hg := hS4.get
  repeat' (first
  | (refine lwc fun R hR => ?_; simp [wrap_i64, wrap_u64, hg, AW.row_get, astore, accZ, opV, Acc.v]; try simp (disch := omega) only [if_pos, if_neg, wrap_i64, wrap_u64])
  | (refine hR _ _ ?_; clear hR R) | (refine hK _ _ ?_; clear hK K) | refine lwn ?_ | refine lr ?_ | refine la ?_
  | refine wn fun K hK => ?_
  | simp only [nops, nop, lops, lop, slimG, List.map_cons, List.map_nil, List.filterMap_cons, List.filterMap_nil, Option.map_none, Option.map_some, List.getElem?_toArray, List.getElem?_cons_zero, List.getElem?_cons_succ, Option.bind_some]
  | refine wb ?_ | refine wr ?_ | refine wk ?_ | refine we ?_ | refine ws ?_ | refine wq ?_
  | ((refine wc rfl (fun hc => ?_) (fun hc => ?_)) <;> (try simp at hc) <;> (try omega))
  | ((refine ib (fun hc => ?_) (fun hc => ?_)) <;> (try omega) <;> (try simp (disch := omega) only [if_pos, if_neg])))
  exact ⟨_, by simp [AW.get_alloc, AW.get_set, AW.row_get, astore, Acc.v]; rfl, Sat.post (by simp [Acc.v]) (hS4.set _).right.right⟩

theorem mem_swap (pb : Nat) (M : Nat → List Int) (cell idx x y : Int) :
    SCall Try.prog 48 [.pointer (some ⟨pb, 0, none⟩), .int .i64 cell, .int .i64 idx, .int .u64 x, .int .u64 y] (MemH pb M)
      (fun v => hpr (v = .tuple #[(opAcc M 3 cell idx (gSwap x y)).v, .int .i64 (opErr M cell idx)]) * MemH pb (opM M cell idx (gSwap x y))) := by
  intro A F hw hS
  refine acall_intro Try.func48 rfl (by kernel_rfl) fun _ => ?_
  repeat' (first
  | (refine lwc fun R hR => ?_; simp [wrap_i64, wrap_u64]; try simp (disch := omega) only [if_pos, if_neg, wrap_i64, wrap_u64])
  | (refine hR _ _ ?_; clear hR R) | (refine hK _ _ ?_; clear hK K) | refine lwn ?_ | refine lr ?_ | refine la ?_
  | refine wn fun K hK => ?_
  | simp only [nops, nop, lops, lop, slimG, List.map_cons, List.map_nil, List.filterMap_cons, List.filterMap_nil, Option.map_none, Option.map_some, List.getElem?_toArray, List.getElem?_cons_zero, List.getElem?_cons_succ, Option.bind_some]
  | refine wb ?_ | refine wr ?_ | refine wk ?_ | refine we ?_ | refine ws ?_ | refine wq ?_
  | ((refine wc rfl (fun hc => ?_) (fun hc => ?_)) <;> (try simp at hc) <;> (try omega))
  | ((refine ib (fun hc => ?_) (fun hc => ?_)) <;> (try omega) <;> (try simp (disch := omega) only [if_pos, if_neg])))
  have hw1 := hw.alloc (.cells [.int .u64 x] true 1)
  have hw2 := hw1.alloc (.cells [.int .u64 y] true 1)
  have hS1 : Sat (((A.alloc (.cells [.int .u64 x] true 1)).alloc (.cells [.int .u64 y] true 1)).alloc (.cells accZ true 1))
      ((MemH pb M * (pt (A.next + 1) (.cells [.int .u64 y] true 1) * pt A.next (.cells [.int .u64 x] true 1))) * (pt (A.next + 1 + 1) (.cells accZ true 1) * F)) :=
    (((hS.alloc hw (.cells [.int .u64 x] true 1)).alloc hw1 (.cells [.int .u64 y] true 1)).alloc hw2 (.cells accZ true 1)).cast (by simp only [AW.alloc_next]; ac_rfl)
  refine (operate_call pb M 3 cell idx _ #[] #[.pointer (some ⟨A.next + 1, 0, none⟩), .pointer (some ⟨A.next, 0, none⟩)] _ (gSwap x y) (swap1_call (A.next + 1) A.next y x)).use (hw2.alloc _) hS1 rfl ?_
  intro v A2 hS2 hw3 _
  obtain ⟨rfl, hS3⟩ := hS2.unpost
  clear hS2
  have hS4 : Sat A2 (pt (A.next + 1 + 1) (.cells accZ true 1) * (pt A.next (.cells [.int .u64 x] true 1) * (pt (A.next + 1) (.cells [.int .u64 y] true 1) * (MemH pb (opM M cell idx (gSwap x y)) * F)))) := hS3.cast (by ac_rfl)
  have hg := hS4.get
  repeat' (first
  | (refine lwc fun R hR => ?_; simp [wrap_i64, wrap_u64, hg, AW.row_get, astore, accZ, opV, Acc.v]; try simp (disch := omega) only [if_pos, if_neg, wrap_i64, wrap_u64])
  | (refine hR _ _ ?_; clear hR R) | (refine hK _ _ ?_; clear hK K) | refine lwn ?_ | refine lr ?_ | refine la ?_
  | refine wn fun K hK => ?_
  | simp only [nops, nop, lops, lop, slimG, List.map_cons, List.map_nil, List.filterMap_cons, List.filterMap_nil, Option.map_none, Option.map_some, List.getElem?_toArray, List.getElem?_cons_zero, List.getElem?_cons_succ, Option.bind_some]
  | refine wb ?_ | refine wr ?_ | refine wk ?_ | refine we ?_ | refine ws ?_ | refine wq ?_
  | ((refine wc rfl (fun hc => ?_) (fun hc => ?_)) <;> (try simp at hc) <;> (try omega))
  | ((refine ib (fun hc => ?_) (fun hc => ?_)) <;> (try omega) <;> (try simp (disch := omega) only [if_pos, if_neg])))
  exact ⟨_, by simp [AW.get_alloc, AW.get_set, AW.row_get, astore, Acc.v]; rfl, Sat.post (by simp [Acc.v]) (hS4.set _).right.right.right⟩

end Go.Stx
