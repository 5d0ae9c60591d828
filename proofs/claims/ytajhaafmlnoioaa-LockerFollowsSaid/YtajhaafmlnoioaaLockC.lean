/-
  The program's machine that locks: what each step does.
-/
import Derived.Test.YtajhaafmlnoioaaCellsB
namespace Go.Stx
open Go Go.Proofs
attribute [local irreducible] AWP LWalk ACall ARounds lops nops
set_option linter.unusedVariables false
set_option linter.unusedSimpArgs false

def holderF (o : Int) : Int := IntKind.i64.wrap (IntKind.i64.wrap (o.tmod 64) - 1)
theorem holder_call (o : Int) (A : AW) : ACall Try.prog 47 [.int .u64 o] A (fun v A' => v = .int .i64 (holderF o) ∧ A = A') := by
  refine acall_intro Try.func47 rfl (by kernel_rfl) fun hw => ?_
  repeat' (first
  | (refine lwc fun R hR => ?_; simp [wrap_i64, wrap_u64]; try simp (disch := omega) only [if_pos, if_neg, wrap_i64, wrap_u64])
  | (refine hR _ _ ?_; clear hR R) | (refine hK _ _ ?_; clear hK K) | refine lwn ?_ | refine lr ?_ | refine la ?_
  | refine wn fun K hK => ?_
  | simp only [nops, nop, lops, lop, slimG, List.map_cons, List.map_nil, List.filterMap_cons, List.filterMap_nil, Option.map_none, Option.map_some, List.getElem?_toArray, List.getElem?_cons_zero, List.getElem?_cons_succ, Option.bind_some]
  | refine wb ?_ | refine wr ?_ | refine wk ?_ | refine we ?_ | refine ws ?_ | refine wq ?_
  | ((refine wc rfl (fun hc => ?_) (fun hc => ?_)) <;> (try simp at hc) <;> (try omega))
  | ((refine ib (fun hc => ?_) (fun hc => ?_)) <;> (try omega) <;> (try simp (disch := omega) only [if_pos, if_neg])))
  simp [holderF]

structure LockS where
  thread : Int
  orecs : List Int
  old : List Int
  seen : Int
  loaded : Bool

def LockS.done (s : LockS) : Bool := decide (s.old.length = s.orecs.length)

def LockH (b : Nat) (s : LockS) : HP := hex fun vo : Value => hex fun vw : Value =>
  pt b (.cells [.int .i64 s.thread, vo, vw, .int .u64 s.seen, .bool s.loaded] true 1) * (IntsH .i64 vo s.orecs * IntsH .u64 vw s.old)

theorem LockH.open {A : AW} {b : Nat} {s : LockS} {F : HP} (h : Sat A (LockH b s * F)) :
    ∃ vo vw, Sat A (pt b (.cells [.int .i64 s.thread, vo, vw, .int .u64 s.seen, .bool s.loaded] true 1) * (IntsH .i64 vo s.orecs * (IntsH .u64 vw s.old * F))) := by
  unfold LockH at h
  rw [Sat.ex] at h
  obtain ⟨vo, h⟩ := h
  rw [Sat.ex] at h
  obtain ⟨vw, h⟩ := h
  exact ⟨vo, vw, h.cast (by ac_rfl)⟩
theorem LockH.close {A : AW} {b : Nat} {s : LockS} {F : HP} {vo vw : Value} (h : Sat A (pt b (.cells [.int .i64 s.thread, vo, vw, .int .u64 s.seen, .bool s.loaded] true 1) * (IntsH .i64 vo s.orecs * (IntsH .u64 vw s.old * F)))) :
    Sat A (LockH b s * F) := by
  unfold LockH
  rw [Sat.ex]
  refine ⟨vo, ?_⟩
  rw [Sat.ex]
  exact ⟨vw, h.cast (by ac_rfl)⟩

theorem lockDone_call (b : Nat) (s : LockS) (A : AW) (F : HP) (h : Sat A (LockH b s * F)) :
    ACall Try.prog 21 [.pointer (some ⟨b, 0, none⟩)] A (fun v A' => v = .bool s.done ∧ A = A') := by
  refine acall_intro Try.func21 rfl (by kernel_rfl) fun hw => ?_
  obtain ⟨vo, vw, hS⟩ := LockH.open h
  obtain ⟨oo, co, rfl, _⟩ := (IntsH.is hS.right).form
  obtain ⟨ow, cw, rfl, _⟩ := (IntsH.is hS.right.right).form
  have hg := hS.get
  repeat' (first
  | (refine lwc fun R hR => ?_; simp [wrap_i64, wrap_u64, hg, AW.row_get]; try simp (disch := omega) only [if_pos, if_neg, wrap_i64, wrap_u64])
  | (refine hR _ _ ?_; clear hR R) | (refine hK _ _ ?_; clear hK K) | refine lwn ?_ | refine lr ?_ | refine la ?_
  | refine wn fun K hK => ?_
  | simp only [nops, nop, lops, lop, slimG, List.map_cons, List.map_nil, List.filterMap_cons, List.filterMap_nil, Option.map_none, Option.map_some, List.getElem?_toArray, List.getElem?_cons_zero, List.getElem?_cons_succ, Option.bind_some]
  | (refine wl Try.mx [(0,0),(1,0),(2,0),(3,0),(4,0),(5,0),(6,0),(7,0),(8,0),(9,0),(10,0),(11,0)] (by decide +kernel) fun K hK => ?_)
  | refine wb ?_ | refine wr ?_ | refine wk ?_ | refine we ?_ | refine ws ?_ | refine wq ?_
  | ((refine wc rfl (fun hc => ?_) (fun hc => ?_)) <;> (try simp at hc) <;> (try omega))
  | ((refine ib (fun hc => ?_) (fun hc => ?_)) <;> (try omega) <;> (try simp (disch := omega) only [if_pos, if_neg])))
  simp [LockS.done]
  omega

def lockIdx (s : LockS) : Int := s.orecs.getD s.old.length 0
def lockPut (s : LockS) : Int := IntKind.u64.wrap (IntKind.u64.wrap (s.seen + IntKind.u64.wrap s.thread) + 1)
def lockStep (s : LockS) (M : Nat → List Int) : Acc × LockS × (Nat → List Int) :=
  if s.done = true then (Acc.zero, s, M)
  else if s.loaded = false then
    let a := opAcc M 1 2 (lockIdx s) gLoad
    (a, { s with seen := a.got, loaded := decide (holderF a.got < 0) }, M)
  else
    let a := opAcc M 3 2 (lockIdx s) (gSwap s.seen (lockPut s))
    (a, { s with loaded := false, old := if a.done = true then s.old ++ [s.seen] else s.old }, opM M 2 (lockIdx s) (gSwap s.seen (lockPut s)))

set_option maxHeartbeats 2000000 in
theorem lockStep_call (b pb : Nat) (s : LockS) (M : Nat → List Int) (hlen : s.old.length ≤ s.orecs.length) (hmax : s.orecs.length < 2^38) :
    SCall Try.prog 25 [.pointer (some ⟨b, 0, none⟩), .pointer (some ⟨pb, 0, none⟩)] (LockH b s * MemH pb M)
      (fun v => hpr (v = (lockStep s M).1.v) * (LockH b (lockStep s M).2.1 * MemH pb (lockStep s M).2.2)) := by
  intro A F hw hS0
  refine acall_intro Try.func25 rfl (by kernel_rfl) fun _ => ?_
  rw [HP.mul_assoc] at hS0
  have hS1 := ((hS0.alloc hw (.cells accZ true 1)).alloc (hw.alloc _) (.cells accZ true 1))
  have hS2 : Sat ((A.alloc (.cells accZ true 1)).alloc (.cells accZ true 1)) (LockH b s * (MemH pb M * (pt (A.next + 1) (.cells accZ true 1) * (pt A.next (.cells accZ true 1) * F)))) := hS1.cast (by simp only [AW.alloc_next]; ac_rfl)
  by_cases hdone : s.done = true
  · repeat' (first
  | (refine lwc fun R hR => ?_; simp [wrap_i64, wrap_u64, AW.row_get, astore, accZ, hdone]; try simp (disch := omega) only [if_pos, if_neg, wrap_i64, wrap_u64])
  | (refine hR _ _ ?_; clear hR R) | (refine hK _ _ ?_; clear hK K) | refine lwn ?_ | refine lr ?_ | refine la ?_
  | refine wn fun K hK => ?_
  | simp only [nops, nop, lops, lop, slimG, List.map_cons, List.map_nil, List.filterMap_cons, List.filterMap_nil, Option.map_none, Option.map_some, List.getElem?_toArray, List.getElem?_cons_zero, List.getElem?_cons_succ, Option.bind_some]
  | (refine wl Try.mx [(0,0),(1,0),(2,0),(3,0),(4,0),(5,0),(6,0),(7,0),(8,0),(9,0),(10,0),(11,0),(12,3),(13,0),(14,0),(15,0),(16,3)] (by decide +kernel) fun K hK => ?_)
  | (refine wl Try.mx [(0,0),(1,0),(2,0),(3,0),(4,0),(5,0),(6,2),(7,0),(8,0),(9,0),(10,3),(11,0),(12,0),(13,3)] (by decide +kernel) fun K hK => ?_)
  | (refine wl Try.mx [(0,0),(1,0),(2,0),(3,0),(4,0),(5,0),(6,0),(7,0),(8,0),(9,0),(10,0),(11,0),(12,0),(13,0),(14,0),(15,0),(16,0),(17,0),(18,0),(19,0),(20,0),(21,0),(22,0),(23,0),(24,0),(25,0),(26,0),(27,3),(28,0),(29,0),(30,0),(31,3)] (by decide +kernel) fun K hK => ?_)
  | (refine wl Try.mx [(0,0),(1,0),(2,0),(3,0),(4,0),(5,0),(6,0),(7,0),(8,0),(9,2),(10,3),(11,0),(12,0),(13,3)] (by decide +kernel) fun K hK => ?_)
  | (refine callK (lockDone_call b s _ _ hS2) ?_; rintro _ _ ⟨rfl, rfl⟩ _ _)
  | refine wb ?_ | refine wr ?_ | refine wk ?_ | refine we ?_ | refine ws ?_ | refine wq ?_
  | ((refine wc rfl (fun hc => ?_) (fun hc => ?_)) <;> (try simp at hc) <;> (try omega))
  | ((refine ib (fun hc => ?_) (fun hc => ?_)) <;> (try omega) <;> (try simp (disch := omega) only [if_pos, if_neg])))
    have hst : lockStep s M = (Acc.zero, s, M) := by unfold lockStep; rw [if_pos hdone]
    rw [hst]
    refine ⟨_, by simp [AW.get_alloc, AW.get_set, AW.row_get, astore]; rfl, Sat.post (by simp [Acc.v, Acc.zero]) ?_⟩
    rw [HP.mul_assoc]
    exact hS0.le hw ((((AW.le.alloc A _).trans (AW.le.alloc _ _)).set (Nat.le_refl _) _))
  · have hdone' : s.done = false := by simpa using hdone
    have hlt : s.old.length < s.orecs.length := by
      have : ¬ s.old.length = s.orecs.length := by simpa [LockS.done] using hdone
      omega
    have hlti : (s.old.length : Int) < s.orecs.length := by omega
    obtain ⟨vo, vw, hS3⟩ := LockH.open hS0
    have hg := hS3.get
    have hSo : Sat A (IntsH .i64 vo s.orecs * (pt b (.cells [.int .i64 s.thread, vo, vw, .int .u64 s.seen, .bool s.loaded] true 1) * (IntsH .u64 vw s.old * (MemH pb M * F)))) := hS3.cast (by ac_rfl)
    obtain ⟨bo, off, c, row, rfl, _, hgo, hco, _, _⟩ := IntsH.at hSo hlt
    obtain ⟨ow, cw, rfl, _⟩ := (IntsH.is hS3.right.right).form
    obtain ⟨nb, nb'⟩ := hw.old hg
    obtain ⟨no, no'⟩ := hw.old hgo
    have hidx : s.orecs[s.old.length] = lockIdx s := by unfold lockIdx; rw [List.getD_eq_getElem?_getD, List.getElem?_eq_getElem hlt]; rfl
    rw [hidx] at hco
    cases hld : s.loaded
    · rw [hld] at hg
      repeat' (first
      | (refine lwc fun R hR => ?_; simp [wrap_i64, wrap_u64, AW.row_get, astore, accZ, hdone', hg, hgo, hco, nb, nb', no, no', hlt, hlti]; try simp (disch := omega) only [if_pos, if_neg, wrap_i64, wrap_u64])
      | (refine hR _ _ ?_; clear hR R) | (refine hK _ _ ?_; clear hK K) | refine lwn ?_ | refine lr ?_ | refine la ?_
      | refine wn fun K hK => ?_
      | simp only [nops, nop, lops, lop, slimG, List.map_cons, List.map_nil, List.filterMap_cons, List.filterMap_nil, Option.map_none, Option.map_some, List.getElem?_toArray, List.getElem?_cons_zero, List.getElem?_cons_succ, Option.bind_some]
      | (refine wl Try.mx [(0,0),(1,0),(2,0),(3,0),(4,0),(5,0),(6,0),(7,0),(8,0),(9,0),(10,0),(11,0),(12,3),(13,0),(14,0),(15,0),(16,3)] (by decide +kernel) fun K hK => ?_)
      | (refine wl Try.mx [(0,0),(1,0),(2,0),(3,0),(4,0),(5,0),(6,2),(7,0),(8,0),(9,0),(10,3),(11,0),(12,0),(13,3)] (by decide +kernel) fun K hK => ?_)
      | (refine wl Try.mx [(0,0),(1,0),(2,0),(3,0),(4,0),(5,0),(6,0),(7,0),(8,0),(9,0),(10,0),(11,0),(12,0),(13,0),(14,0),(15,0),(16,0),(17,0),(18,0),(19,0),(20,0),(21,0),(22,0),(23,0),(24,0),(25,0),(26,0),(27,3),(28,0),(29,0),(30,0),(31,3)] (by decide +kernel) fun K hK => ?_)
      | (refine wl Try.mx [(0,0),(1,0),(2,0),(3,0),(4,0),(5,0),(6,0),(7,0),(8,0),(9,2),(10,3),(11,0),(12,0),(13,3)] (by decide +kernel) fun K hK => ?_)
      | (refine callK (lockDone_call b s _ _ hS2) ?_; rintro _ _ ⟨rfl, rfl⟩ _ _)
      | refine wb ?_ | refine wr ?_ | refine wk ?_ | refine we ?_ | refine ws ?_ | refine wq ?_
      | ((refine wc rfl (fun hc => ?_) (fun hc => ?_)) <;> (try simp at hc) <;> (try omega))
      | ((refine ib (fun hc => ?_) (fun hc => ?_)) <;> (try omega) <;> (try simp (disch := omega) only [if_pos, if_neg])))
      have hS4 : Sat _ (MemH pb M * (LockH b s * (pt (A.next + 1) (.cells accZ true 1) * (pt A.next (.cells accZ true 1) * F)))) := hS2.cast (by ac_rfl)
      refine (mem_load pb M 2 (lockIdx s)).use ((hw.alloc _).alloc _) hS4 rfl ?_
      intro v A2 hS5 hw2 hn2
      obtain ⟨rfl, hS6⟩ := hS5.unpost
      clear hS5
      have hst : lockStep s M = (opAcc M 1 2 (lockIdx s) gLoad, { s with seen := (opAcc M 1 2 (lockIdx s) gLoad).got, loaded := decide (holderF (opAcc M 1 2 (lockIdx s) gLoad).got < 0) }, M) := by
        unfold lockStep; rw [if_neg hdone, if_pos hld]
      generalize opAcc M 1 2 (lockIdx s) gLoad = a at hst hS6 ⊢
      have hS7 : Sat A2 (LockH b s * (pt (A.next + 1) (.cells accZ true 1) * (pt A.next (.cells accZ true 1) * (MemH pb M * F)))) := hS6.cast (by ac_rfl)
      obtain ⟨vo2, vw2, hS8⟩ := LockH.open hS7
      have hS9 : Sat A2 (pt b (.cells [.int .i64 s.thread, vo2, vw2, .int .u64 s.seen, .bool s.loaded] true 1) * (pt (A.next + 1) (.cells accZ true 1) * (pt A.next (.cells accZ true 1) * (IntsH .i64 vo2 s.orecs * (IntsH .u64 vw2 s.old * (MemH pb M * F)))))) := hS8.cast (by ac_rfl)
      have hgb := hS9.get
      have hg1 := hS9.right.get
      have hg0 := hS9.right.right.get
      have n1 := hS9.ne
      have n2 := hS9.ne2
      have n3 := hS9.right.ne
      repeat' (first
      | (refine lwc fun R hR => ?_; simp [wrap_i64, wrap_u64, AW.row_get, astore, accZ, hgb, hg1, hg0, n1, n2, n3, Ne.symm n1, Ne.symm n2, Ne.symm n3, Acc.v, hld]; try simp (disch := omega) only [if_pos, if_neg, wrap_i64, wrap_u64])
      | (refine hR _ _ ?_; clear hR R) | (refine hK _ _ ?_; clear hK K) | refine lwn ?_ | refine lr ?_ | refine la ?_
      | refine wn fun K hK => ?_
      | simp only [nops, nop, lops, lop, slimG, List.map_cons, List.map_nil, List.filterMap_cons, List.filterMap_nil, Option.map_none, Option.map_some, List.getElem?_toArray, List.getElem?_cons_zero, List.getElem?_cons_succ, Option.bind_some]
      | (refine wl Try.mx [(0,0),(1,0),(2,0),(3,0),(4,0),(5,0),(6,0),(7,0),(8,0),(9,0),(10,0),(11,0),(12,3),(13,0),(14,0),(15,0),(16,3)] (by decide +kernel) fun K hK => ?_)
      | (refine wl Try.mx [(0,0),(1,0),(2,0),(3,0),(4,0),(5,0),(6,2),(7,0),(8,0),(9,0),(10,3),(11,0),(12,0),(13,3)] (by decide +kernel) fun K hK => ?_)
      | (refine wl Try.mx [(0,0),(1,0),(2,0),(3,0),(4,0),(5,0),(6,0),(7,0),(8,0),(9,0),(10,0),(11,0),(12,0),(13,0),(14,0),(15,0),(16,0),(17,0),(18,0),(19,0),(20,0),(21,0),(22,0),(23,0),(24,0),(25,0),(26,0),(27,3),(28,0),(29,0),(30,0),(31,3)] (by decide +kernel) fun K hK => ?_)
      | (refine wl Try.mx [(0,0),(1,0),(2,0),(3,0),(4,0),(5,0),(6,0),(7,0),(8,0),(9,2),(10,3),(11,0),(12,0),(13,3)] (by decide +kernel) fun K hK => ?_)
      | (refine callK (holder_call _ _) ?_; rintro _ _ ⟨rfl, rfl⟩ _ _)
      | refine wb ?_ | refine wr ?_ | refine wk ?_ | refine we ?_ | refine ws ?_ | refine wq ?_
      | ((refine wc rfl (fun hc => ?_) (fun hc => ?_)) <;> (try simp at hc) <;> (try omega))
      | ((refine ib (fun hc => ?_) (fun hc => ?_)) <;> (try omega) <;> (try simp (disch := omega) only [if_pos, if_neg])))
      refine ⟨_, by simp [AW.get_alloc, AW.get_set, AW.row_get, astore]; rfl, Sat.post (by rw [hst]; simp [Acc.v]) ?_⟩
      rw [hst, HP.mul_assoc]
      refine LockH.close (vo := vo2) (vw := vw2) (Sat.fin12 hS9 (by simp [AW.get_set, n1, n2]) (fun j x h1 h2 h3 hx => ?_))
      simp [AW.get_set, h1, h2, h3, hx]
    · rw [hld] at hg
      repeat' (first
      | (refine lwc fun R hR => ?_; simp [wrap_i64, wrap_u64, AW.row_get, astore, accZ, hdone', hg, hgo, hco, nb, nb', no, no', hlt, hlti]; try simp (disch := omega) only [if_pos, if_neg, wrap_i64, wrap_u64])
      | (refine hR _ _ ?_; clear hR R) | (refine hK _ _ ?_; clear hK K) | refine lwn ?_ | refine lr ?_ | refine la ?_
      | refine wn fun K hK => ?_
      | simp only [nops, nop, lops, lop, slimG, List.map_cons, List.map_nil, List.filterMap_cons, List.filterMap_nil, Option.map_none, Option.map_some, List.getElem?_toArray, List.getElem?_cons_zero, List.getElem?_cons_succ, Option.bind_some]
      | (refine wl Try.mx [(0,0),(1,0),(2,0),(3,0),(4,0),(5,0),(6,0),(7,0),(8,0),(9,0),(10,0),(11,0),(12,3),(13,0),(14,0),(15,0),(16,3)] (by decide +kernel) fun K hK => ?_)
      | (refine wl Try.mx [(0,0),(1,0),(2,0),(3,0),(4,0),(5,0),(6,2),(7,0),(8,0),(9,0),(10,3),(11,0),(12,0),(13,3)] (by decide +kernel) fun K hK => ?_)
      | (refine wl Try.mx [(0,0),(1,0),(2,0),(3,0),(4,0),(5,0),(6,0),(7,0),(8,0),(9,0),(10,0),(11,0),(12,0),(13,0),(14,0),(15,0),(16,0),(17,0),(18,0),(19,0),(20,0),(21,0),(22,0),(23,0),(24,0),(25,0),(26,0),(27,3),(28,0),(29,0),(30,0),(31,3)] (by decide +kernel) fun K hK => ?_)
      | (refine wl Try.mx [(0,0),(1,0),(2,0),(3,0),(4,0),(5,0),(6,0),(7,0),(8,0),(9,2),(10,3),(11,0),(12,0),(13,3)] (by decide +kernel) fun K hK => ?_)
      | (refine callK (lockDone_call b s _ _ hS2) ?_; rintro _ _ ⟨rfl, rfl⟩ _ _)
      | refine wb ?_ | refine wr ?_ | refine wk ?_ | refine we ?_ | refine ws ?_ | refine wq ?_
      | ((refine wc rfl (fun hc => ?_) (fun hc => ?_)) <;> (try simp at hc) <;> (try omega))
      | ((refine ib (fun hc => ?_) (fun hc => ?_)) <;> (try omega) <;> (try simp (disch := omega) only [if_pos, if_neg])))
      have hS4 : Sat _ (MemH pb M * (LockH b s * (pt (A.next + 1) (.cells accZ true 1) * (pt A.next (.cells accZ true 1) * F)))) := hS2.cast (by ac_rfl)
      refine (mem_swap pb M 2 (lockIdx s) _ _).use ((hw.alloc _).alloc _) hS4 rfl ?_
      intro v A2 hS5 hw2 hn2
      obtain ⟨rfl, hS6⟩ := hS5.unpost
      clear hS5
      have hst : lockStep s M = (opAcc M 3 2 (lockIdx s) (gSwap s.seen (lockPut s)), { s with loaded := false, old := if (opAcc M 3 2 (lockIdx s) (gSwap s.seen (lockPut s))).done = true then s.old ++ [s.seen] else s.old }, opM M 2 (lockIdx s) (gSwap s.seen (lockPut s))) := by
        unfold lockStep; rw [if_neg hdone, if_neg (by simp [hld])]
      have hput : IntKind.u64.wrap (IntKind.u64.wrap (s.seen + IntKind.u64.wrap s.thread) + 1) = lockPut s := rfl
      rw [hput] at hS6 ⊢
      generalize opAcc M 3 2 (lockIdx s) (gSwap s.seen (lockPut s)) = a at hst hS6 ⊢
      generalize opM M 2 (lockIdx s) (gSwap s.seen (lockPut s)) = M' at hst hS6
      have hS7 : Sat A2 (LockH b s * (pt (A.next + 1) (.cells accZ true 1) * (pt A.next (.cells accZ true 1) * (MemH pb M' * F)))) := hS6.cast (by ac_rfl)
      obtain ⟨vo2, vw2, hS8⟩ := LockH.open hS7
      have hS9 : Sat A2 (pt b (.cells [.int .i64 s.thread, vo2, vw2, .int .u64 s.seen, .bool s.loaded] true 1) * (pt (A.next + 1) (.cells accZ true 1) * (pt A.next (.cells accZ true 1) * (IntsH .i64 vo2 s.orecs * (IntsH .u64 vw2 s.old * (MemH pb M' * F)))))) := hS8.cast (by ac_rfl)
      have hgb := hS9.get
      have hg1 := hS9.right.get
      have hg0 := hS9.right.right.get
      have n1 := hS9.ne
      have n2 := hS9.ne2
      have n3 := hS9.right.ne
      cases hdn : a.done
      · repeat' (first
      | (refine lwc fun R hR => ?_; simp [wrap_i64, wrap_u64, AW.row_get, astore, accZ, hgb, hg1, hg0, n1, n2, n3, Ne.symm n1, Ne.symm n2, Ne.symm n3, Acc.v, hld, hdn]; try simp (disch := omega) only [if_pos, if_neg, wrap_i64, wrap_u64])
      | (refine hR _ _ ?_; clear hR R) | (refine hK _ _ ?_; clear hK K) | refine lwn ?_ | refine lr ?_ | refine la ?_
      | refine wn fun K hK => ?_
      | simp only [nops, nop, lops, lop, slimG, List.map_cons, List.map_nil, List.filterMap_cons, List.filterMap_nil, Option.map_none, Option.map_some, List.getElem?_toArray, List.getElem?_cons_zero, List.getElem?_cons_succ, Option.bind_some]
      | (refine wl Try.mx [(0,0),(1,0),(2,0),(3,0),(4,0),(5,0),(6,0),(7,0),(8,0),(9,0),(10,0),(11,0),(12,3),(13,0),(14,0),(15,0),(16,3)] (by decide +kernel) fun K hK => ?_)
      | (refine wl Try.mx [(0,0),(1,0),(2,0),(3,0),(4,0),(5,0),(6,2),(7,0),(8,0),(9,0),(10,3),(11,0),(12,0),(13,3)] (by decide +kernel) fun K hK => ?_)
      | (refine wl Try.mx [(0,0),(1,0),(2,0),(3,0),(4,0),(5,0),(6,0),(7,0),(8,0),(9,0),(10,0),(11,0),(12,0),(13,0),(14,0),(15,0),(16,0),(17,0),(18,0),(19,0),(20,0),(21,0),(22,0),(23,0),(24,0),(25,0),(26,0),(27,3),(28,0),(29,0),(30,0),(31,3)] (by decide +kernel) fun K hK => ?_)
      | (refine wl Try.mx [(0,0),(1,0),(2,0),(3,0),(4,0),(5,0),(6,0),(7,0),(8,0),(9,2),(10,3),(11,0),(12,0),(13,3)] (by decide +kernel) fun K hK => ?_)
      | refine wb ?_ | refine wr ?_ | refine wk ?_ | refine we ?_ | refine ws ?_ | refine wq ?_
      | ((refine wc rfl (fun hc => ?_) (fun hc => ?_)) <;> (try simp at hc) <;> (try omega))
      | ((refine ib (fun hc => ?_) (fun hc => ?_)) <;> (try omega) <;> (try simp (disch := omega) only [if_pos, if_neg])))
        refine ⟨_, by simp [AW.get_alloc, AW.get_set, AW.row_get, astore]; rfl, Sat.post (by rw [hst]; simp [Acc.v, hdn]) ?_⟩
        rw [hst, HP.mul_assoc]
        simp only [hdn, Bool.false_eq_true, if_false]
        refine LockH.close (vo := vo2) (vw := vw2) (Sat.fin12 hS9 (by simp [AW.get_set, n1, n2]) (fun j x h1 h2 h3 hx => ?_))
        simp [AW.get_set, h1, h2, h3, hx]
      · repeat' (first
      | (refine lwc fun R hR => ?_; simp [wrap_i64, wrap_u64, AW.row_get, astore, accZ, hgb, hg1, hg0, n1, n2, n3, Ne.symm n1, Ne.symm n2, Ne.symm n3, Acc.v, hld, hdn]; try simp (disch := omega) only [if_pos, if_neg, wrap_i64, wrap_u64])
      | (refine hR _ _ ?_; clear hR R) | (refine hK _ _ ?_; clear hK K) | refine lwn ?_ | refine lr ?_ | refine la ?_
      | refine wn fun K hK => ?_
      | simp only [nops, nop, lops, lop, slimG, List.map_cons, List.map_nil, List.filterMap_cons, List.filterMap_nil, Option.map_none, Option.map_some, List.getElem?_toArray, List.getElem?_cons_zero, List.getElem?_cons_succ, Option.bind_some]
      | (refine wl Try.mx [(0,0),(1,0),(2,0),(3,0),(4,0),(5,0),(6,0),(7,0),(8,0),(9,0),(10,0),(11,0),(12,3),(13,0),(14,0),(15,0),(16,3)] (by decide +kernel) fun K hK => ?_)
      | (refine wl Try.mx [(0,0),(1,0),(2,0),(3,0),(4,0),(5,0),(6,2),(7,0),(8,0),(9,0),(10,3),(11,0),(12,0),(13,3)] (by decide +kernel) fun K hK => ?_)
      | (refine wl Try.mx [(0,0),(1,0),(2,0),(3,0),(4,0),(5,0),(6,0),(7,0),(8,0),(9,0),(10,0),(11,0),(12,0),(13,0),(14,0),(15,0),(16,0),(17,0),(18,0),(19,0),(20,0),(21,0),(22,0),(23,0),(24,0),(25,0),(26,0),(27,3),(28,0),(29,0),(30,0),(31,3)] (by decide +kernel) fun K hK => ?_)
      | refine wb ?_ | refine wr ?_ | refine wk ?_ | refine we ?_ | refine ws ?_ | refine wq ?_
      | ((refine wc rfl (fun hc => ?_) (fun hc => ?_)) <;> (try simp at hc) <;> (try omega))
      | ((refine ib (fun hc => ?_) (fun hc => ?_)) <;> (try omega) <;> (try simp (disch := omega) only [if_pos, if_neg])))
        refine awp_gen (fun A3 => A3.Wf ∧ Sat A3 (pt b (.cells [.int .i64 s.thread, vo2, vw2, .int .u64 s.seen, .bool false] true 1) * (pt (A.next + 1) (.cells a.cells true 1) * (pt A.next (.cells accZ true 1) * (IntsH .i64 vo2 s.orecs * (IntsH .u64 vw2 s.old * (MemH pb M' * F))))))) ?_ ?_
        · refine ⟨(hw2.set _ (hw2.lt hg1)).set _ (hw2.lt hgb), Sat.upd3 hS9 (by simp [AW.get_set]) (by simp [AW.get_set, Ne.symm n1, Acc.cells, hdn]) (by simp [AW.get_set, Ne.symm n2, Ne.symm n3, hg0, accZ]) (fun j x h1 h2 h3 hx => by simp [AW.get_set, h1, h2, h3, hx])⟩
        rintro A3 ⟨hw3, hS10⟩
        have hg3b := hS10.get
        have hg31 := hS10.right.get
        have hg30 := hS10.right.right.get
        obtain ⟨v', A4, e1, hS11, hw4, _⟩ := IntsH.append (P := Try.prog) (t := 57) s.seen Try.underlying57 Try.info38 Try.zero38 rfl rfl
          (hS10.cast (by ac_rfl) : Sat A3 (IntsH .u64 vw2 s.old * (pt b (.cells [.int .i64 s.thread, vo2, vw2, .int .u64 s.seen, .bool false] true 1) * (pt (A.next + 1) (.cells a.cells true 1) * (pt A.next (.cells accZ true 1) * (IntsH .i64 vo2 s.orecs * (MemH pb M' * F)))))))
          (by omega) (by simp) hw3
        have hS12 : Sat A4 (pt b (.cells [.int .i64 s.thread, vo2, vw2, .int .u64 s.seen, .bool false] true 1) * (pt (A.next + 1) (.cells a.cells true 1) * (pt A.next (.cells accZ true 1) * (IntsH .i64 vo2 s.orecs * (IntsH .u64 v' (s.old ++ [s.seen]) * (MemH pb M' * F)))))) := hS11.cast (by ac_rfl)
        have hg4b := hS12.get
        have hg41 := hS12.right.get
        have hg40 := hS12.right.right.get
        obtain ⟨o3, n3', nb3⟩ : True ∧ (b = A3.next) = False ∧ ∀ k, (b = A3.next + k) = False := ⟨trivial, (hw3.old hg3b).1, (hw3.old hg3b).2⟩
        have hv' : ∃ o c, v' = .slice o (s.old.length + 1) c := by
          obtain ⟨o, c, h, _⟩ := (IntsH.is hS11).form
          exact ⟨o, c, by simpa using h⟩
        obtain ⟨o', c', rfl⟩ := hv'
        repeat' (first
        | (refine lwc fun R hR => ?_; simp [wrap_i64, wrap_u64, AW.row_get, astore, accZ, hg3b, hg31, hg30, hg4b, hg41, hg40, n1, n2, n3, n3', nb3, Ne.symm n1, Ne.symm n2, Ne.symm n3, Acc.v, Acc.cells, e1, hdn]; try simp (disch := omega) only [if_pos, if_neg, wrap_i64, wrap_u64])
        | (refine hR _ _ ?_; clear hR R) | (refine hK _ _ ?_; clear hK K) | refine lwn ?_ | refine lr ?_ | refine la ?_
        | refine wn fun K hK => ?_
        | simp only [nops, nop, lops, lop, slimG, List.map_cons, List.map_nil, List.filterMap_cons, List.filterMap_nil, Option.map_none, Option.map_some, List.getElem?_toArray, List.getElem?_cons_zero, List.getElem?_cons_succ, Option.bind_some]
        | (refine wl Try.mx [(0,0),(1,0),(2,0),(3,0),(4,0),(5,0),(6,0),(7,0),(8,0),(9,0),(10,0),(11,0),(12,3),(13,0),(14,0),(15,0),(16,3)] (by decide +kernel) fun K hK => ?_)
        | (refine wl Try.mx [(0,0),(1,0),(2,0),(3,0),(4,0),(5,0),(6,2),(7,0),(8,0),(9,0),(10,3),(11,0),(12,0),(13,3)] (by decide +kernel) fun K hK => ?_)
        | (refine wl Try.mx [(0,0),(1,0),(2,0),(3,0),(4,0),(5,0),(6,0),(7,0),(8,0),(9,0),(10,0),(11,0),(12,0),(13,0),(14,0),(15,0),(16,0),(17,0),(18,0),(19,0),(20,0),(21,0),(22,0),(23,0),(24,0),(25,0),(26,0),(27,3),(28,0),(29,0),(30,0),(31,3)] (by decide +kernel) fun K hK => ?_)
        | (refine wl Try.mx [(0,0),(1,0),(2,0),(3,0),(4,0),(5,0),(6,0),(7,0),(8,0),(9,2),(10,3),(11,0),(12,0),(13,3)] (by decide +kernel) fun K hK => ?_)
        | refine wb ?_ | refine wr ?_ | refine wk ?_ | refine we ?_ | refine ws ?_ | refine wq ?_
        | ((refine wc rfl (fun hc => ?_) (fun hc => ?_)) <;> (try simp at hc) <;> (try omega))
        | ((refine ib (fun hc => ?_) (fun hc => ?_)) <;> (try omega) <;> (try simp (disch := omega) only [if_pos, if_neg])))
        refine ⟨_, by simp [AW.get_alloc, AW.get_set, AW.row_get, astore]; rfl, Sat.post (by rw [hst]; simp [Acc.v, hdn]) ?_⟩
        rw [hst, HP.mul_assoc]
        simp only [hdn, if_true]
        refine LockH.close (vo := vo2) (vw := .slice o' (s.old.length + 1) c') (Sat.fin12 hS12 (by simp [AW.get_set, n1, n2]) (fun j x h1 h2 h3 hx => ?_))
        simp [AW.get_set, h1, h2, h3, hx]

end Go.Stx
