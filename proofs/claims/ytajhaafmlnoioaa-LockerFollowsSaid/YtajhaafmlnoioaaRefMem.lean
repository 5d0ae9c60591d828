/-
  The reference's cells: how they are made.
-/
import Derived.Test.YtajhaafmlnoioaaNew
namespace Go.Stx
open Go Go.Proofs
attribute [local irreducible] AWP LWalk ACall ARounds lops nops
set_option linter.unusedVariables false
set_option linter.unusedSimpArgs false

theorem rwithin_call (n lo hi : Int) (A : AW) : ACall Try.prog 90 [.int .i64 n, .int .i64 lo, .int .i64 hi] A (fun v A' => v = .bool (decide (lo ≤ n ∧ n ≤ hi)) ∧ A = A') := by
  refine acall_intro Try.func90 rfl (by kernel_rfl) fun _ => ?_
  repeat' (first
  | (refine lwc fun R hR => ?_; simp [wrap_i64, wrap_u64]; try simp (disch := omega) only [if_pos, if_neg, wrap_i64, wrap_u64])
  | (refine hR _ _ ?_; clear hR R) | (refine hK _ _ ?_; clear hK K) | refine lwn ?_ | refine lr ?_ | refine la ?_
  | refine wn fun K hK => ?_
  | simp only [nops, nop, lops, lop, slimG, List.map_cons, List.map_nil, List.filterMap_cons, List.filterMap_nil, Option.map_none, Option.map_some, List.getElem?_toArray, List.getElem?_cons_zero, List.getElem?_cons_succ, Option.bind_some]
  | refine wb ?_ | refine wr ?_ | refine wk ?_ | refine we ?_ | refine ws ?_ | refine wq ?_
  | ((refine wc rfl (fun hc => ?_) (fun hc => ?_)) <;> (try simp at hc) <;> (try omega))
  | ((refine ib (fun hc => ?_) (fun hc => ?_)) <;> (try omega) <;> (try simp (disch := omega) only [if_pos, if_neg])))
  all_goals (simp_all <;> omega)

theorem rcheck_cfg (A : AW) : ACall Try.prog 81 [cfgV] A (fun v A' => v = .int .i64 0 ∧ A = A') := by
  refine ACall.gc0 (V := .int .i64 0) VBelow.int (fun hw => ?_) (by kernel_rfl)
  refine acall_intro Try.func81 rfl (by kernel_rfl) fun _ => ?_
  repeat' (first
  | (refine lwc fun R hR => ?_; simp [wrap_i64, wrap_u64, cfgV, AW.row_get, astore]; try simp (disch := omega) only [if_pos, if_neg, wrap_i64, wrap_u64])
  | (refine hR _ _ ?_; clear hR R) | (refine hK _ _ ?_; clear hK K) | refine lwn ?_ | refine lr ?_ | refine la ?_
  | refine wn fun K hK => ?_
  | simp only [nops, nop, lops, lop, slimG, List.map_cons, List.map_nil, List.filterMap_cons, List.filterMap_nil, Option.map_none, Option.map_some, List.getElem?_toArray, List.getElem?_cons_zero, List.getElem?_cons_succ, Option.bind_some]
  | (refine callK (rwithin_call _ _ _ _) ?_; rintro _ _ ⟨rfl, rfl⟩ _ _)
  | (refine awp_rounds 5 ?_)
  | refine wb ?_ | refine wr ?_ | refine wk ?_ | refine we ?_ | refine ws ?_ | refine wq ?_
  | ((refine wc rfl (fun hc => ?_) (fun hc => ?_)) <;> (try simp at hc) <;> (try omega))
  | ((refine ib (fun hc => ?_) (fun hc => ?_)) <;> (try omega) <;> (try simp (disch := omega) only [if_pos, if_neg])))
  all_goals exact ⟨_, (by first | (simp; done) | (simp; rfl)), rfl, AW.le.alloc _ _⟩

theorem rblocks_cfg (A : AW) : ACall Try.prog 57 [cfgV] A (fun v A' => v = .int .i64 0 ∧ A = A') := by
  refine ACall.gc0 (V := .int .i64 0) VBelow.int (fun hw => ?_) (by kernel_rfl)
  refine acall_intro Try.func57 rfl (by kernel_rfl) fun _ => ?_
  repeat' (first
  | (refine lwc fun R hR => ?_; simp [wrap_i64, wrap_u64, cfgV, AW.row_get, astore]; try simp (disch := omega) only [if_pos, if_neg, wrap_i64, wrap_u64])
  | (refine hR _ _ ?_; clear hR R) | (refine hK _ _ ?_; clear hK K) | refine lwn ?_ | refine lr ?_ | refine la ?_
  | refine wn fun K hK => ?_
  | simp only [nops, nop, lops, lop, slimG, List.map_cons, List.map_nil, List.filterMap_cons, List.filterMap_nil, Option.map_none, Option.map_some, List.getElem?_toArray, List.getElem?_cons_zero, List.getElem?_cons_succ, Option.bind_some]
  | (refine callK (rcheck_cfg _) ?_; rintro _ _ ⟨rfl, rfl⟩ _ _)
  | refine wb ?_ | refine wr ?_ | refine wk ?_ | refine we ?_ | refine ws ?_ | refine wq ?_
  | ((refine wc rfl (fun hc => ?_) (fun hc => ?_)) <;> (try simp at hc) <;> (try omega))
  | ((refine ib (fun hc => ?_) (fun hc => ?_)) <;> (try omega) <;> (try simp (disch := omega) only [if_pos, if_neg])))
  all_goals exact ⟨_, (by first | (simp; done) | (simp; rfl)), rfl, AW.le.alloc _ _⟩

/-- The reference's cells at a place. -/
def RefH (mb : Nat) (M : Nat → List Int) : HP :=
  hex fun v : Value × Value × Value × Value × Value =>
    pt mb (.cells (cfgV.cells.toList ++ [v.1, v.2.1, .int .u64 ((M 2).getD 0 0), .int .u64 ((M 3).getD 0 0), .int .u64 ((M 4).getD 0 0), v.2.2.1, v.2.2.2.1, v.2.2.2.2]) true 1) *
      (IntsH .u64 v.1 (M 0) * (IntsH .u64 v.2.1 (M 1) * (IntsH .u64 v.2.2.1 (M 5) * (IntsH .u64 v.2.2.2.1 (M 6) * IntsH .u64 v.2.2.2.2 (M 7)))))

def refRow (v0 v1 v5 v6 v7 : Value) : List Value :=
  [.int .i64 6, .int .i64 6, .int .i64 0, .int .i64 0, .int .i64 0, .int .i64 0, .int .i64 0, .int .i64 6, .int .i64 6, .int .i64 0, .int .i64 0, .int .i64 0, .bool false, v0, v1, .int .u64 0, .int .u64 0, .int .u64 0, v5, v6, v7]

set_option maxRecDepth 100000 in
set_option maxHeartbeats 4000000 in
theorem refNew_cfg (nt : Nat) (vi : Value) (init : List Int) (A : AW) (F R : HP) (hR : ∀ (A : AW) (F : HP), Sat A (R * F) → IsInts A .u64 vi init) (hw : A.Wf) (hS : Sat A (R * F)) (h16 : nt ≤ 16) (hi : init.length = 6) :
    ACall Try.prog 41 [cfgV, .int .i64 (nt : Int), vi] A (fun v A' => ∃ mb, v = .pointer (some ⟨mb, 0, none⟩) ∧
      Sat A' (RefH mb (fun k => if k = 0 then init else if k = 1 then List.replicate 6 0 else if k = 5 then List.replicate nt 0 else if k = 6 then [0, 0, 0, 0] else if k = 7 then [] else [0]) * (R * F))) := by
  refine acall_intro Try.func41 rfl (by kernel_rfl) fun _ => ?_
  repeat' (first
  | (refine lwc fun R hR => ?_; simp [wrap_i64, wrap_u64, AW.row_get, astore, cfgV, hi]; try simp (disch := omega) only [if_pos, if_neg, wrap_i64, wrap_u64])
  | (refine hR _ _ ?_; clear hR R) | (refine hK _ _ ?_; clear hK K) | refine lwn ?_ | refine lr ?_ | refine la ?_
  | refine wn fun K hK => ?_
  | simp only [nops, nop, lops, lop, slimG, List.map_cons, List.map_nil, List.filterMap_cons, List.filterMap_nil, Option.map_none, Option.map_some, List.getElem?_toArray, List.getElem?_cons_zero, List.getElem?_cons_succ, Option.bind_some]
  | (refine wl Try.mx [(0,0),(1,0),(2,0),(3,0),(4,0),(5,0),(6,0),(7,0),(8,0),(9,0),(10,2),(11,3),(12,0),(13,0),(14,0),(15,3)] (by decide +kernel) fun K hK => ?_)
  | (refine wl Try.mx [(0,0),(1,0),(2,0),(3,0),(4,0),(5,0),(6,0),(7,0),(9,0),(10,0),(8,2),(11,2),(12,0),(13,0)] (by decide +kernel) fun K hK => ?_)
  | (refine callK (rblocks_cfg _) ?_; rintro _ _ ⟨rfl, rfl⟩ _ _)
  | refine wb ?_ | refine wr ?_ | refine wk ?_ | refine we ?_ | refine ws ?_ | refine wq ?_
  | ((refine wc rfl (fun hc => ?_) (fun hc => ?_)) <;> (try simp at hc) <;> (try omega))
  | ((refine ib (fun hc => ?_) (fun hc => ?_)) <;> (try omega) <;> (try simp (disch := omega) only [if_pos, if_neg])))
  obtain ⟨oi, ci, hvi, _⟩ := (hR A F hS).form
  rw [hi] at hvi
  subst hvi
  have hw1 := hw.alloc (.cells cfgV.cells.toList true 1)
  have hw2 := hw1.alloc (.cells (refRow (.slice none 0 0) (.slice none 0 0) (.slice none 0 0) (.slice none 0 0) (.slice none 0 0)) true 1)
  have hS1 := (hS.alloc hw (.cells cfgV.cells.toList true 1)).alloc hw1 (.cells (refRow (.slice none 0 0) (.slice none 0 0) (.slice none 0 0) (.slice none 0 0) (.slice none 0 0)) true 1)
  simp only [AW.alloc_next] at hS1
  refine awp_loop (fun k fr A' => ∃ (j : Nat) (v0 : Value), k = 6 - j ∧ j ≤ 6 ∧ fr 1 = .int .i64 (nt : Int) ∧ fr 2 = .slice oi 6 ci ∧ fr 3 = .pointer (some ⟨A.next, 0, none⟩) ∧ fr 7 = .int .i64 0 ∧ fr 8 = .pointer (some ⟨A.next + 1, 0, none⟩) ∧ fr 9 = .int .i64 (j : Int) ∧ A'.Wf ∧
    Sat A' (IntsH .u64 v0 (init.take j) * (pt (A.next + 1) (.cells (refRow v0 (.slice none 0 0) (.slice none 0 0) (.slice none 0 0) (.slice none 0 0)) true 1) * (pt A.next (.cells cfgV.cells.toList true 1) * (R * F))))) 6 ?_ ?_
  · refine ⟨0, .slice none 0 0, rfl, by omega, by simp, by simp, by simp, by simp, by simp, by simp, hw2, IntsH.nil hS1⟩
  · rintro k fr A1 ⟨j, v0, rfl, hj, f1, f2, f3, f7, f8, f9, hw3, hS3⟩
    have hgm := hS3.right.get
    have hgc := hS3.right.right.get
    have nmc := hS3.right.ne
    obtain ⟨nm, nm'⟩ := hw3.old hgm
    obtain ⟨nc, nc'⟩ := hw3.old hgc
    by_cases hlt : j < 6
    · have hin := hR A1 F hS3.right.right.right
      obtain ⟨p, rowi, own, rfl, hgi, hci⟩ := hin.atg (i := j) (by omega)
      obtain ⟨ni, ni'⟩ := hw3.old hgi
      have hlti : (j : Int) < 6 := by omega
      obtain ⟨v', A2, e1, hS4, hw4, _⟩ := IntsH.append (P := Try.prog) (t := 57) (init[j]) Try.underlying57 Try.info38 Try.zero38 rfl rfl hS3 (by simp; omega) (by simp) hw3
      have hg2 := hS4.right.get
      obtain ⟨o', c', hv', _⟩ := (IntsH.is hS4).form
      have hl' : (init.take j ++ [init[j]]).length = j + 1 := by simp; omega
      rw [hl'] at hv'
      subst hv'
      repeat' (first
      | (refine lwc fun R hR => ?_; simp [wrap_i64, wrap_u64, f1, f2, f3, f7, f8, f9, AW.row_get, astore, hgm, hgc, hgi, hci, hg2, e1, nm, nm', nc, nc', ni, ni', nmc, Ne.symm nmc, hlti, refRow, cfgV]; try simp (disch := omega) only [if_pos, if_neg, wrap_i64, wrap_u64])
      | (refine hR _ _ ?_; clear hR R) | (refine hK _ _ ?_; clear hK K) | refine lwn ?_ | refine lr ?_ | refine la ?_
      | refine wn fun K hK => ?_
      | simp only [nops, nop, lops, lop, slimG, List.map_cons, List.map_nil, List.filterMap_cons, List.filterMap_nil, Option.map_none, Option.map_some, List.getElem?_toArray, List.getElem?_cons_zero, List.getElem?_cons_succ, Option.bind_some]
      | (refine wl Try.mx [(0,0),(1,0),(2,0),(3,0),(4,0),(5,0),(6,0),(7,0),(8,0),(9,0),(10,2),(11,3),(12,0),(13,0),(14,0),(15,3)] (by decide +kernel) fun K hK => ?_)
      | (refine wl Try.mx [(0,0),(1,0),(2,0),(3,0),(4,0),(5,0),(6,0),(7,0),(9,0),(10,0),(8,2),(11,2),(12,0),(13,0)] (by decide +kernel) fun K hK => ?_)
      | refine wb ?_ | refine wr ?_ | refine wk ?_ | refine we ?_ | refine ws ?_ | refine wq ?_
      | ((refine wc rfl (fun hc => ?_) (fun hc => ?_)) <;> (try simp at hc) <;> (try omega))
      | ((refine ib (fun hc => ?_) (fun hc => ?_)) <;> (try omega) <;> (try simp (disch := omega) only [if_pos, if_neg])))
      all_goals
        refine ⟨6 - (j + 1), by omega, j + 1, .slice o' (j + 1) c', rfl, by omega, by simp [f1], by simp [f2], by simp [f3], by simp [f7], by simp [f8], by simp, hw4.set _ (hw4.lt hg2), ?_⟩
        have ht : init.take (j + 1) = init.take j ++ [init[j]] := by rw [List.take_add_one, List.getElem?_eq_getElem (by omega)]; rfl
        rw [ht]
        have h5 : Sat A2 (pt (A.next + 1) (.cells (refRow v0 (.slice none 0 0) (.slice none 0 0) (.slice none 0 0) (.slice none 0 0)) true 1) * (IntsH .u64 (.slice o' (j + 1) c') (init.take j ++ [init[j]]) * (pt A.next (.cells cfgV.cells.toList true 1) * (R * F)))) := hS4.cast (by ac_rfl)
        exact (h5.set _).cast (by ac_rfl)
    · have hj6 : j = 6 := by omega
      subst hj6
      have hti : init.take 6 = init := by rw [← hi]; exact List.take_length
      rw [hti] at hS3
      obtain ⟨o0, c0, hv0, _⟩ := (IntsH.is hS3).form
      rw [hi] at hv0
      subst hv0
      have hn1 : (nt : Int) ≤ 140737488355328 := by omega
      have hn2 : (nt : Int) * 8 ≤ 140737488355328 := by omega
      repeat' (first
      | (refine lwc fun R hR => ?_; simp [wrap_i64, wrap_u64, f1, f2, f3, f7, f8, f9, AW.row_get, astore, hgm, hgc, nm, nm', nc, nc', nmc, Ne.symm nmc, refRow, cfgV, hn1, hn2]; try simp (disch := omega) only [if_pos, if_neg, wrap_i64, wrap_u64])
      | (refine hR _ _ ?_; clear hR R) | (refine hK _ _ ?_; clear hK K) | refine lwn ?_ | refine lr ?_ | refine la ?_
      | refine wn fun K hK => ?_
      | simp only [nops, nop, lops, lop, slimG, List.map_cons, List.map_nil, List.filterMap_cons, List.filterMap_nil, Option.map_none, Option.map_some, List.getElem?_toArray, List.getElem?_cons_zero, List.getElem?_cons_succ, Option.bind_some]
      | (refine wl Try.mx [(0,0),(1,0),(2,0),(3,0),(4,0),(5,0),(6,0),(7,0),(8,0),(9,0),(10,2),(11,3),(12,0),(13,0),(14,0),(15,3)] (by decide +kernel) fun K hK => ?_)
      | (refine wl Try.mx [(0,0),(1,0),(2,0),(3,0),(4,0),(5,0),(6,0),(7,0),(9,0),(10,0),(8,2),(11,2),(12,0),(13,0)] (by decide +kernel) fun K hK => ?_)
      | refine wb ?_ | refine wr ?_ | refine wk ?_ | refine we ?_ | refine ws ?_ | refine wq ?_
      | ((refine wc rfl (fun hc => ?_) (fun hc => ?_)) <;> (try simp at hc) <;> (try omega))
      | ((refine ib (fun hc => ?_) (fun hc => ?_)) <;> (try omega) <;> (try simp (disch := omega) only [if_pos, if_neg])))
      refine awp_rounds 1 ?_
      repeat' (first
      | (refine lwc fun R hR => ?_; simp [wrap_i64, wrap_u64, f1, f2, f3, f7, f8, f9, AW.row_get, astore, hgm, hgc, nm, nm', nc, nc', nmc, Ne.symm nmc, refRow, cfgV, hn1, hn2]; try simp (disch := omega) only [if_pos, if_neg, wrap_i64, wrap_u64])
      | (refine hR _ _ ?_; clear hR R) | (refine hK _ _ ?_; clear hK K) | refine lwn ?_ | refine lr ?_ | refine la ?_
      | refine wn fun K hK => ?_
      | simp only [nops, nop, lops, lop, slimG, List.map_cons, List.map_nil, List.filterMap_cons, List.filterMap_nil, Option.map_none, Option.map_some, List.getElem?_toArray, List.getElem?_cons_zero, List.getElem?_cons_succ, Option.bind_some]
      | (refine wl Try.mx [(0,0),(1,0),(2,0),(3,0),(4,0),(5,0),(6,0),(7,0),(8,0),(9,0),(10,2),(11,3),(12,0),(13,0),(14,0),(15,3)] (by decide +kernel) fun K hK => ?_)
      | (refine wl Try.mx [(0,0),(1,0),(2,0),(3,0),(4,0),(5,0),(6,0),(7,0),(9,0),(10,0),(8,2),(11,2),(12,0),(13,0)] (by decide +kernel) fun K hK => ?_)
      | refine wb ?_ | refine wr ?_ | refine wk ?_ | refine we ?_ | refine ws ?_ | refine wq ?_
      | ((refine wc rfl (fun hc => ?_) (fun hc => ?_)) <;> (try simp at hc) <;> (try omega))
      | ((refine ib (fun hc => ?_) (fun hc => ?_)) <;> (try omega) <;> (try simp (disch := omega) only [if_pos, if_neg])))
      obtain ⟨v0, hv0⟩ : ∃ v0, v0 = Value.slice o0 6 c0 := ⟨_, rfl⟩
      rw [← hv0] at hS3
      obtain ⟨vO, hvO⟩ : ∃ vO, vO = Value.slice (some ⟨A1.next, 0, none⟩) 6 6 := ⟨_, rfl⟩
      obtain ⟨vS, hvS⟩ : ∃ vS, vS = Value.slice (some ⟨A1.next + 1, 0, none⟩) nt nt := ⟨_, rfl⟩
      have hz6 : azeros [Value.int .u64 0] 6 = (List.replicate 6 (0 : Int)).map (Value.int .u64) := rfl
      have hzn : azeros [Value.int .u64 0] nt = (List.replicate nt (0 : Int)).map (Value.int .u64) := by
        clear hvS hn1 hn2 h16 hS hS1 hS3 f1
        induction nt with
        | zero => rfl
        | succ n ih => rw [List.replicate_succ, List.map_cons, ← ih]; rfl
      refine awp_gen (fun A5 => A5.Wf ∧ Sat A5 (pt (A.next + 1) (.cells (refRow v0 vO vS (.slice none 0 0) (.slice none 0 0)) true 1) * (IntsH .u64 vO (List.replicate 6 0) * (IntsH .u64 vS (List.replicate nt 0) * (IntsH .u64 v0 init * (pt A.next (.cells cfgV.cells.toList true 1) * (R * F))))))) ?_ ?_
      · have w5 := hw3.alloc (.cells (azeros [Value.int .u64 0] 6) true 1)
        have s1 := hS3.alloc hw3 (.cells (azeros [Value.int .u64 0] 6) true 1)
        have s1' : Sat (A1.alloc (.cells (azeros [Value.int .u64 0] 6) true 1)) (pt (A.next + 1) (.cells (refRow v0 (.slice none 0 0) (.slice none 0 0) (.slice none 0 0) (.slice none 0 0)) true 1) * (pt A1.next (.cells (azeros [Value.int .u64 0] 6) true 1) * (IntsH .u64 v0 init * (pt A.next (.cells cfgV.cells.toList true 1) * (R * F))))) := s1.cast (by ac_rfl)
        have s2 := s1'.set (.cells (refRow v0 vO (.slice none 0 0) (.slice none 0 0) (.slice none 0 0)) true 1)
        have w6 := w5.set (i := A.next + 1) (some (.cells (refRow v0 vO (.slice none 0 0) (.slice none 0 0) (.slice none 0 0)) true 1)) (w5.lt s1'.get)
        have s3 := s2.alloc w6 (.cells (azeros [Value.int .u64 0] nt) true 1)
        simp only [AW.set_next, AW.alloc_next] at s3
        have s3' : Sat (((A1.alloc (.cells (azeros [Value.int .u64 0] 6) true 1)).set (A.next + 1) (some (.cells (refRow v0 vO (.slice none 0 0) (.slice none 0 0) (.slice none 0 0)) true 1))).alloc (.cells (azeros [Value.int .u64 0] nt) true 1))
            (pt (A.next + 1) (.cells (refRow v0 vO (.slice none 0 0) (.slice none 0 0) (.slice none 0 0)) true 1) * (pt A1.next (.cells (azeros [Value.int .u64 0] 6) true 1) * (pt (A1.next + 1) (.cells (azeros [Value.int .u64 0] nt) true 1) * (IntsH .u64 v0 init * (pt A.next (.cells cfgV.cells.toList true 1) * (R * F)))))) := s3.cast (by ac_rfl)
        have s4 := s3'.set (.cells (refRow v0 vO vS (.slice none 0 0) (.slice none 0 0)) true 1)
        have w7 := (w6.alloc (.cells (azeros [Value.int .u64 0] nt) true 1)).set (i := A.next + 1) (some (.cells (refRow v0 vO vS (.slice none 0 0) (.slice none 0 0)) true 1)) ((w6.alloc _).lt s3'.get)
        have key : ∀ A6 : AW, Sat A6 (pt (A.next + 1) (.cells (refRow v0 vO vS (.slice none 0 0) (.slice none 0 0)) true 1) * (pt A1.next (.cells (azeros [Value.int .u64 0] 6) true 1) * (pt (A1.next + 1) (.cells (azeros [Value.int .u64 0] nt) true 1) * (IntsH .u64 v0 init * (pt A.next (.cells cfgV.cells.toList true 1) * (R * F)))))) →
            Sat A6 (pt (A.next + 1) (.cells (refRow v0 vO vS (.slice none 0 0) (.slice none 0 0)) true 1) * (IntsH .u64 vO (List.replicate 6 0) * (IntsH .u64 vS (List.replicate nt 0) * (IntsH .u64 v0 init * (pt A.next (.cells cfgV.cells.toList true 1) * (R * F)))))) := by
          intro A6 h
          have h1 : Sat A6 (pt A1.next (.cells (azeros [Value.int .u64 0] 6) true 1) * (pt (A1.next + 1) (.cells (azeros [Value.int .u64 0] nt) true 1) * (pt (A.next + 1) (.cells (refRow v0 vO vS (.slice none 0 0) (.slice none 0 0)) true 1) * (IntsH .u64 v0 init * (pt A.next (.cells cfgV.cells.toList true 1) * (R * F)))))) := h.cast (by ac_rfl)
          have h2 := IntsH.mk (k := .u64) (b := A1.next) (off := 0) (c := 6) (n := 6) (l := List.replicate 6 0) rfl (by simp) (by simp [hz6]) (by rw [hz6]; rfl) h1
          rw [← hvO] at h2
          have h3 : Sat A6 (pt (A1.next + 1) (.cells (azeros [Value.int .u64 0] nt) true 1) * (IntsH .u64 vO (List.replicate 6 0) * (pt (A.next + 1) (.cells (refRow v0 vO vS (.slice none 0 0) (.slice none 0 0)) true 1) * (IntsH .u64 v0 init * (pt A.next (.cells cfgV.cells.toList true 1) * (R * F)))))) := h2.cast (by ac_rfl)
          have h4 := IntsH.mk (k := .u64) (b := A1.next + 1) (off := 0) (c := nt) (n := nt) (l := List.replicate nt 0) (by simp) (by simp) (by simp [hzn]) (by rw [hzn, List.drop_zero, List.take_of_length_le (by simp)]) h3
          rw [← hvS] at h4
          exact h4.cast (by ac_rfl)
        have e : ∀ A6, A6 = ((((A1.alloc (.cells (azeros [Value.int .u64 0] 6) true 1)).set (A.next + 1) (some (.cells (refRow v0 vO (.slice none 0 0) (.slice none 0 0) (.slice none 0 0)) true 1))).alloc (.cells (azeros [Value.int .u64 0] nt) true 1)).set (A.next + 1) (some (.cells (refRow v0 vO vS (.slice none 0 0) (.slice none 0 0)) true 1))) →
            A6.Wf ∧ Sat A6 (pt (A.next + 1) (.cells (refRow v0 vO vS (.slice none 0 0) (.slice none 0 0)) true 1) * (IntsH .u64 vO (List.replicate 6 0) * (IntsH .u64 vS (List.replicate nt 0) * (IntsH .u64 v0 init * (pt A.next (.cells cfgV.cells.toList true 1) * (R * F)))))) := by
          rintro A6 rfl
          exact ⟨w7, key _ s4⟩
        refine e _ ?_
        simp [refRow, hv0, hvO, hvS]
      rintro A5 ⟨hw5, hS5⟩
      refine awp_loop (fun k fr A' => ∃ (j : Nat) (v6 : Value), k = 4 - j ∧ j ≤ 4 ∧ fr 3 = .pointer (some ⟨A.next, 0, none⟩) ∧ fr 8 = .pointer (some ⟨A.next + 1, 0, none⟩) ∧ fr 12 = .int .i64 0 ∧ fr 13 = .int .i64 (j : Int) ∧ A'.Wf ∧
        Sat A' (IntsH .u64 v6 (List.replicate j 0) * (pt (A.next + 1) (.cells (refRow v0 vO vS v6 (.slice none 0 0)) true 1) * (pt A.next (.cells cfgV.cells.toList true 1) * (IntsH .u64 vO (List.replicate 6 0) * (IntsH .u64 vS (List.replicate nt 0) * (IntsH .u64 v0 init * (R * F)))))))) 4 ?_ ?_
      · refine ⟨0, .slice none 0 0, rfl, by omega, by simp [f3], by simp [f8], by simp, by simp, hw5, ?_⟩
        have h0 := IntsH.nil (k := .u64) hS5
        show Sat A5 (IntsH .u64 (.slice none 0 0) [] * _)
        exact h0.cast (by ac_rfl)
      · rintro k fr A6 ⟨j, v6, rfl, hj, g3, g8, g12, g13, hw6, hS6⟩
        have hgm6 := hS6.right.get
        have hgc6 := hS6.right.right.get
        have nmc6 := hS6.right.ne
        obtain ⟨nm6, nm6'⟩ := hw6.old hgm6
        obtain ⟨nc6, nc6'⟩ := hw6.old hgc6
        by_cases hlt4 : j < 4
        · have hlti4 : (j : Int) < 4 := by omega
          obtain ⟨v', A7, e1, hS7, hw7, _⟩ := IntsH.append (P := Try.prog) (t := 57) 0 Try.underlying57 Try.info38 Try.zero38 rfl rfl hS6 (by simp; omega) (by simp) hw6
          have hg7 := hS7.right.get
          have hgc7 := hS7.right.right.get
          obtain ⟨o', c', hv', _⟩ := (IntsH.is hS7).form
          have hl' : (List.replicate j (0 : Int) ++ [0]).length = j + 1 := by simp
          rw [hl'] at hv'
          subst hv'
          have hcnt : [Value.int .i64 0, Value.int .i64 0, Value.int .i64 0, Value.int .i64 0][j]? = some (.int .i64 0) := by
            have : j = 0 ∨ j = 1 ∨ j = 2 ∨ j = 3 := by omega
            rcases this with rfl | rfl | rfl | rfl <;> rfl
          have hrow : (cfgV.cells.toList)[3 + j]? = some (.int .i64 0) := by
            have : j = 0 ∨ j = 1 ∨ j = 2 ∨ j = 3 := by omega
            rcases this with rfl | rfl | rfl | rfl <;> rfl
          have hrow' : [Value.int IntKind.i64 6, Value.int IntKind.i64 6, Value.int IntKind.i64 0, Value.int IntKind.i64 0, Value.int IntKind.i64 0, Value.int IntKind.i64 0, Value.int IntKind.i64 0, Value.int IntKind.i64 6, Value.int IntKind.i64 6, Value.int IntKind.i64 0, Value.int IntKind.i64 0, Value.int IntKind.i64 0, Value.bool false][3 + j]? = some (.int .i64 0) := hrow
          repeat' (first
          | (refine lwc fun R hR => ?_; simp [wrap_i64, wrap_u64, g3, g8, g12, g13, AW.row_get, astore, hgm6, hgc6, hg7, hgc7, e1, nm6, nm6', nc6, nc6', nmc6, Ne.symm nmc6, hlti4, hlt4, refRow, hrow, hrow', cfgV]; try simp (disch := omega) only [if_pos, if_neg, wrap_i64, wrap_u64])
          | (refine hR _ _ ?_; clear hR R) | (refine hK _ _ ?_; clear hK K) | refine lwn ?_ | refine lr ?_ | refine la ?_
          | refine wn fun K hK => ?_
          | simp only [nops, nop, lops, lop, slimG, List.map_cons, List.map_nil, List.filterMap_cons, List.filterMap_nil, Option.map_none, Option.map_some, List.getElem?_toArray, List.getElem?_cons_zero, List.getElem?_cons_succ, Option.bind_some]
          | (refine wl Try.mx [(0,0),(1,0),(2,0),(3,0),(4,0),(5,0),(6,0),(7,0),(8,0),(9,0),(10,2),(11,3),(12,0),(13,0),(14,0),(15,3)] (by decide +kernel) fun K hK => ?_)
          | (refine wl Try.mx [(0,0),(1,0),(2,0),(3,0),(4,0),(5,0),(6,0),(7,0),(9,0),(10,0),(8,2),(11,2),(12,0),(13,0)] (by decide +kernel) fun K hK => ?_)
          | refine wb ?_ | refine wr ?_ | refine wk ?_ | refine we ?_ | refine ws ?_ | refine wq ?_
          | ((refine wc rfl (fun hc => ?_) (fun hc => ?_)) <;> (try simp at hc) <;> (try omega))
          | ((refine ib (fun hc => ?_) (fun hc => ?_)) <;> (try omega) <;> (try simp (disch := omega) only [if_pos, if_neg])))
          all_goals
            refine ⟨4 - (j + 1), by omega, j + 1, .slice o' (j + 1) c', rfl, by omega, by simp [g3], by simp [g8], by simp [g12], by simp, hw7.set _ (hw7.lt hg7), ?_⟩
            rw [List.replicate_succ']
            have h5 : Sat A7 (pt (A.next + 1) (.cells (refRow v0 vO vS v6 (.slice none 0 0)) true 1) * (IntsH .u64 (.slice o' (j + 1) c') (List.replicate j 0 ++ [0]) * (pt A.next (.cells cfgV.cells.toList true 1) * (IntsH .u64 vO (List.replicate 6 0) * (IntsH .u64 vS (List.replicate nt 0) * (IntsH .u64 v0 init * (R * F))))))) := hS7.cast (by ac_rfl)
            exact (h5.set _).cast (by ac_rfl)
        · have hj4 : j = 4 := by omega
          subst hj4
          repeat' (first
          | (refine lwc fun R hR => ?_; simp [wrap_i64, wrap_u64, g3, g8, g12, g13, AW.row_get, astore, hgm6, hgc6]; try simp (disch := omega) only [if_pos, if_neg, wrap_i64, wrap_u64])
          | (refine hR _ _ ?_; clear hR R) | (refine hK _ _ ?_; clear hK K) | refine lwn ?_ | refine lr ?_ | refine la ?_
          | refine wn fun K hK => ?_
          | simp only [nops, nop, lops, lop, slimG, List.map_cons, List.map_nil, List.filterMap_cons, List.filterMap_nil, Option.map_none, Option.map_some, List.getElem?_toArray, List.getElem?_cons_zero, List.getElem?_cons_succ, Option.bind_some]
          | (refine wl Try.mx [(0,0),(1,0),(2,0),(3,0),(4,0),(5,0),(6,0),(7,0),(8,0),(9,0),(10,2),(11,3),(12,0),(13,0),(14,0),(15,3)] (by decide +kernel) fun K hK => ?_)
          | (refine wl Try.mx [(0,0),(1,0),(2,0),(3,0),(4,0),(5,0),(6,0),(7,0),(9,0),(10,0),(8,2),(11,2),(12,0),(13,0)] (by decide +kernel) fun K hK => ?_)
          | refine wb ?_ | refine wr ?_ | refine wk ?_ | refine we ?_ | refine ws ?_ | refine wq ?_
          | ((refine wc rfl (fun hc => ?_) (fun hc => ?_)) <;> (try simp at hc) <;> (try omega))
          | ((refine ib (fun hc => ?_) (fun hc => ?_)) <;> (try omega) <;> (try simp (disch := omega) only [if_pos, if_neg])))
          refine ⟨_, by first | (simp; done) | (simp; rfl), A.next + 1, rfl, ?_⟩
          unfold RefH
          rw [Sat.ex]
          refine ⟨(v0, vO, vS, v6, .slice none 0 0), ?_⟩
          have h8 := IntsH.nil (k := .u64) hS6
          exact Sat.right (P := pt A.next (.cells cfgV.cells.toList true 1)) (h8.cast (by
            show _ = pt A.next (.cells cfgV.cells.toList true 1) * (pt (A.next + 1) (.cells (refRow v0 vO vS v6 (.slice none 0 0)) true 1) * (IntsH .u64 v0 init * (IntsH .u64 vO (List.replicate 6 0) * (IntsH .u64 vS (List.replicate nt 0) * (IntsH .u64 v6 [0, 0, 0, 0] * IntsH .u64 (.slice none 0 0) [])))) * (R * F))
            have e4 : List.replicate 4 (0 : Int) = [0, 0, 0, 0] := rfl
            rw [e4]
            ac_rfl))

end Go.Stx
