/-
  The reference's machine that stores: its step. Its slices are those that it is given.
-/
import Derived.Test.YtajhaafmlnoioaaRelD
namespace Go.Stx
open Go Go.Proofs
attribute [local irreducible] AWP LWalk ACall ARounds lops nops
set_option linter.unusedVariables false
set_option linter.unusedSimpArgs false

theorem IntsH.at2 {A : AW} {k : IntKind} {v : Value} {l : List Int} {F : HP} (h : Sat A (IntsH k v l * F)) {j : Nat} (hj : j < l.length) :
    ∃ b off c row, v = .slice (some ⟨b, off, none⟩) l.length c ∧ A.get b = some (.cells row true 1) ∧ row[off + j]? = some (.int k (l.getD j 0)) ∧ ∀ i o F', F = pt i o * F' → b ≠ i := by
  rcases RowH.cases h with ⟨_, h0, _⟩ | ⟨b, off, c, row, rfl, h1, h2, h3, h4⟩
  · omega
  · rw [Nat.mul_one] at h2 h3
    refine ⟨b, off, c, row, rfl, h4.get, ?_, fun i o F' e => by subst e; exact h4.ne⟩
    have : row[off + j]? = (l.map (Value.int k))[j]? := by rw [h3, List.getElem?_take_of_lt hj, List.getElem?_drop]
    rw [this, List.getElem?_map, List.getElem?_eq_getElem hj, List.getD_eq_getElem?_getD, List.getElem?_eq_getElem hj]; rfl

def storesStep (cell : Int) (idx words : List Int) (k : Nat) (M : Nat → List Int) : Acc × Nat × (Nat → List Int) :=
  if k = idx.length then (Acc.zero, k, M)
  else (opAcc M 2 cell (idx.getD k 0) (gStore (words.getD k 0)), k + 1, opM M cell (idx.getD k 0) (gStore (words.getD k 0)))

/-- The machine beside the slices that it reads. -/
def StoresH (b : Nat) (cell : Int) (vo vw : Value) (k : Nat) (idx words : List Int) : HP := pt b (storesO cell vo vw k) * (IntsH .i64 vo idx * IntsH .u64 vw words)

set_option maxRecDepth 20000 in
set_option maxHeartbeats 1000000 in
theorem storesStep_call (b mb : Nat) (cell : Int) (vo vw : Value) (k : Nat) (idx words : List Int) (M : Nat → List Int) (hM : RefOk M) (he : idx.length = words.length) (hk : k ≤ idx.length) (hl : idx.length < 2^38) :
    SCall Try.prog 31 [.pointer (some ⟨b, 0, none⟩), .pointer (some ⟨mb, 0, none⟩)] (StoresH b cell vo vw k idx words * RefH mb M)
      (fun v => hpr (v = (storesStep cell idx words k M).1.v) * (StoresH b cell vo vw (storesStep cell idx words k M).2.1 idx words * RefH mb (storesStep cell idx words k M).2.2)) := by
  intro A F hw hS0
  refine acall_intro Try.func31 rfl (by kernel_rfl) fun _ => ?_
  rw [HP.mul_assoc] at hS0
  have hS2 : Sat (A.alloc (.cells accZ true 1)) (pt b (storesO cell vo vw k) * (pt A.next (.cells accZ true 1) * (IntsH .i64 vo idx * (IntsH .u64 vw words * (RefH mb M * F))))) := (hS0.alloc hw (.cells accZ true 1)).cast (by unfold StoresH; ac_rfl)
  have hS3 : Sat A (pt b (storesO cell vo vw k) * (IntsH .i64 vo idx * (IntsH .u64 vw words * (RefH mb M * F)))) := hS0.cast (by unfold StoresH; ac_rfl)
  have hg := hS3.get
  obtain ⟨nb, nb'⟩ := hw.old hg
  have hso : Sat A (IntsH .i64 vo idx * (pt b (storesO cell vo vw k) * (IntsH .u64 vw words * (RefH mb M * F)))) := hS3.cast (by ac_rfl)
  have hsw : Sat A (IntsH .u64 vw words * (pt b (storesO cell vo vw k) * (IntsH .i64 vo idx * (RefH mb M * F)))) := hS3.cast (by ac_rfl)
  obtain ⟨o, c, rfl, _⟩ := (IntsH.is hS2.right.right).form
  have hd := storesDone_call b cell _ vw o _ c k _ rfl hS2.get
  by_cases hdone : k = idx.length
  · rw [decide_eq_true hdone] at hd
    repeat' (first
    | (refine lwc fun R hR => ?_; simp [wrap_i64, wrap_u64, AW.row_get, astore, accZ]; try simp (disch := omega) only [if_pos, if_neg, wrap_i64, wrap_u64])
    | (refine hR _ _ ?_; clear hR R) | (refine hK _ _ ?_; clear hK K) | refine lwn ?_ | refine lr ?_ | refine la ?_
    | refine wn fun K hK => ?_
    | simp only [nops, nop, lops, lop, slimG, List.map_cons, List.map_nil, List.filterMap_cons, List.filterMap_nil, Option.map_none, Option.map_some, List.getElem?_toArray, List.getElem?_cons_zero, List.getElem?_cons_succ, Option.bind_some]
    | (refine wl Try.mx [(0,0),(1,0),(2,0),(3,0),(4,0),(5,0),(6,0),(7,0),(8,0),(9,0),(10,0),(11,0),(12,0),(13,0),(14,0),(15,0),(16,0),(17,0),(18,0),(19,0),(20,0),(21,0),(22,0),(23,0),(24,0),(25,0),(26,0),(27,3),(28,3)] (by decide +kernel) fun K hK => ?_)
    | (refine callK (hd) ?_; rintro _ _ ⟨rfl, rfl⟩ _ _)
    | refine wb ?_ | refine wr ?_ | refine wk ?_ | refine we ?_ | refine ws ?_ | refine wq ?_
    | ((refine wc rfl (fun hc => ?_) (fun hc => ?_)) <;> (try simp at hc) <;> (try omega))
    | ((refine ib (fun hc => ?_) (fun hc => ?_)) <;> (try omega) <;> (try simp (disch := omega) only [if_pos, if_neg])))
    have hst : storesStep cell idx words k M = (Acc.zero, k, M) := by unfold storesStep; rw [if_pos hdone]
    rw [hst]
    refine ⟨_, by simp [AW.row_get, astore]; rfl, Sat.post (by simp [Acc.v, Acc.zero]) ?_⟩
    rw [HP.mul_assoc]
    exact hS0.le hw ((AW.le.alloc A _).set (Nat.le_refl _) _)
  · rw [decide_eq_false hdone] at hd
    have hlt : k < idx.length := by omega
    have hltw : k < words.length := by omega
    obtain ⟨bo, oo, co, ro, e1, hgo, hco, hno⟩ := IntsH.at2 hso hlt
    injection e1 with e1 _ e2
    subst e1 e2
    obtain ⟨bw, ow, cw, rw, rfl, hgw, hcw, hnw⟩ := IntsH.at2 hsw hltw
    have n2 := hno _ _ _ rfl
    have n3 := hnw _ _ _ rfl
    obtain ⟨no, no'⟩ := hw.old hgo
    obtain ⟨nw, nw'⟩ := hw.old hgw
    have hst : storesStep cell idx words k M = (opAcc M 2 cell (idx.getD k 0) (gStore (words.getD k 0)), k + 1, opM M cell (idx.getD k 0) (gStore (words.getD k 0))) := by unfold storesStep; rw [if_neg hdone]
    generalize words.getD k 0 = y at *
    generalize idx.getD k 0 = x at *
    unfold storesO at hg
    have hlti : (k : Int) < idx.length := by omega
    have hltj : (k : Int) < words.length := by omega
    repeat' (first
    | (refine lwc fun R hR => ?_; simp [wrap_i64, wrap_u64, AW.row_get, astore, accZ, hg, nb, nb', no, no', nw, nw', n2, n3, Ne.symm n2, Ne.symm n3, hgo, hgw, hco, hcw, hlt, hltw, hlti, hltj]; try simp (disch := omega) only [if_pos, if_neg, wrap_i64, wrap_u64])
    | (refine hR _ _ ?_; clear hR R) | (refine hK _ _ ?_; clear hK K) | refine lwn ?_ | refine lr ?_ | refine la ?_
    | refine wn fun K hK => ?_
    | simp only [nops, nop, lops, lop, slimG, List.map_cons, List.map_nil, List.filterMap_cons, List.filterMap_nil, Option.map_none, Option.map_some, List.getElem?_toArray, List.getElem?_cons_zero, List.getElem?_cons_succ, Option.bind_some]
    | (refine wl Try.mx [(0,0),(1,0),(2,0),(3,0),(4,0),(5,0),(6,0),(7,0),(8,0),(9,0),(10,0),(11,0),(12,0),(13,0),(14,0),(15,0),(16,0),(17,0),(18,0),(19,0),(20,0),(21,0),(22,0),(23,0),(24,0),(25,0),(26,0),(27,3),(28,3)] (by decide +kernel) fun K hK => ?_)
    | (refine callK (hd) ?_; rintro _ _ ⟨rfl, rfl⟩ _ _)
    | refine wb ?_ | refine wr ?_ | refine wk ?_ | refine we ?_ | refine ws ?_ | refine wq ?_
    | ((refine wc rfl (fun hc => ?_) (fun hc => ?_)) <;> (try simp at hc) <;> (try omega))
    | ((refine ib (fun hc => ?_) (fun hc => ?_)) <;> (try omega) <;> (try simp (disch := omega) only [if_pos, if_neg])))
    have hS4 : Sat ((A.alloc (.cells accZ true 1)).set b (some (storesO cell (.slice (some ⟨bo, oo, none⟩) idx.length c) (.slice (some ⟨bw, ow, none⟩) words.length cw) (k + 1))))
        (RefH mb M * (pt A.next (.cells accZ true 1) * (StoresH b cell (.slice (some ⟨bo, oo, none⟩) idx.length c) (.slice (some ⟨bw, ow, none⟩) words.length cw) (k + 1) idx words * F))) := (hS2.set (storesO cell (.slice (some ⟨bo, oo, none⟩) idx.length c) (.slice (some ⟨bw, ow, none⟩) words.length cw) (k + 1))).cast (by unfold StoresH; ac_rfl)
    refine (refStore mb M cell x y hM).use ((hw.alloc _).set _ ((hw.alloc _).lt hS2.get)) hS4 rfl ?_
    intro v A2 hS5 hw2 hn2
    obtain ⟨rfl, hS6⟩ := hS5.unpost
    clear hS5
    generalize opAcc M 2 cell x (gStore y) = a at hst hS6 ⊢
    generalize opM M cell x (gStore y) = M' at hst hS6
    have hS7 : Sat A2 (pt A.next (.cells accZ true 1) * (StoresH b cell (.slice (some ⟨bo, oo, none⟩) idx.length c) (.slice (some ⟨bw, ow, none⟩) words.length cw) (k + 1) idx words * (RefH mb M' * F))) := hS6.cast (by ac_rfl)
    have hg0 := hS7.get
    repeat' (first
    | (refine lwc fun R hR => ?_; simp [wrap_i64, wrap_u64, AW.row_get, astore, accZ, hg0, Acc.v]; try simp (disch := omega) only [if_pos, if_neg, wrap_i64, wrap_u64])
    | (refine hR _ _ ?_; clear hR R) | (refine hK _ _ ?_; clear hK K) | refine lwn ?_ | refine lr ?_ | refine la ?_
    | refine wn fun K hK => ?_
    | simp only [nops, nop, lops, lop, slimG, List.map_cons, List.map_nil, List.filterMap_cons, List.filterMap_nil, Option.map_none, Option.map_some, List.getElem?_toArray, List.getElem?_cons_zero, List.getElem?_cons_succ, Option.bind_some]
    | (refine wl Try.mx [(0,0),(1,0),(2,0),(3,0),(4,0),(5,0),(6,0),(7,0),(8,0),(9,0),(10,0),(11,0),(12,0),(13,0),(14,0),(15,0),(16,0),(17,0),(18,0),(19,0),(20,0),(21,0),(22,0),(23,0),(24,0),(25,0),(26,0),(27,3),(28,3)] (by decide +kernel) fun K hK => ?_)
    | refine wb ?_ | refine wr ?_ | refine wk ?_ | refine we ?_ | refine ws ?_ | refine wq ?_
    | ((refine wc rfl (fun hc => ?_) (fun hc => ?_)) <;> (try simp at hc) <;> (try omega))
    | ((refine ib (fun hc => ?_) (fun hc => ?_)) <;> (try omega) <;> (try simp (disch := omega) only [if_pos, if_neg])))
    refine ⟨_, by simp [AW.row_get, astore]; rfl, Sat.post (by rw [hst]; simp [Acc.v]) ?_⟩
    rw [hst, HP.mul_assoc]
    exact (hS7.set _).right

end Go.Stx
