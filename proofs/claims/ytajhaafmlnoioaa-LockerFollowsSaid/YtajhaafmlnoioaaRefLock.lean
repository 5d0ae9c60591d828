/-
  The reference's machine that locks: it does what the program's does.
-/
import Derived.Test.YtajhaafmlnoioaaRefDo
import Derived.Test.YtajhaafmlnoioaaLockE
import Derived.Test.YtajhaafmlnoioaaLockB
import Derived.Test.YtajhaafmlnoioaaLockP
namespace Go.Stx
open Go Go.Proofs
attribute [local irreducible] AWP LWalk ACall ARounds lops nops
set_option linter.unusedVariables false
set_option linter.unusedSimpArgs false

def rholderF (o : Int) : Int := IntKind.i64.wrap (IntKind.i64.wrap (o.tmod 64) - 1)
theorem rholder_call (o : Int) (A : AW) : ACall Try.prog 35 [.int .u64 o] A (fun v A' => v = .int .i64 (holderF o) ∧ A = A') := by
  refine acall_intro Try.func35 rfl (by kernel_rfl) fun hw => ?_
  repeat' (first
  | (refine lwc fun R hR => ?_; simp [wrap_i64, wrap_u64]; try simp (disch := omega) only [if_pos, if_neg, wrap_i64, wrap_u64])
  | (refine hR _ _ ?_; clear hR R) | (refine hK _ _ ?_; clear hK K) | refine lwn ?_ | refine lr ?_ | refine la ?_
  | refine wn fun K hK => ?_
  | simp only [nops, nop, lops, lop, slimG, List.map_cons, List.map_nil, List.filterMap_cons, List.filterMap_nil, Option.map_none, Option.map_some, List.getElem?_toArray, List.getElem?_cons_zero, List.getElem?_cons_succ, Option.bind_some]
  | refine wb ?_ | refine wr ?_ | refine wk ?_ | refine we ?_ | refine ws ?_ | refine wq ?_
  | ((refine wc rfl (fun hc => ?_) (fun hc => ?_)) <;> (try simp at hc) <;> (try omega))
  | ((refine ib (fun hc => ?_) (fun hc => ?_)) <;> (try omega) <;> (try simp (disch := omega) only [if_pos, if_neg])))
  simp [holderF]

def versionF (o : Int) : Int := IntKind.i64.wrap (IntKind.u64.wrap (o.tdiv 64))
theorem rversion_call (o : Int) (A : AW) : ACall Try.prog 36 [.int .u64 o] A (fun v A' => v = .int .i64 (versionF o) ∧ A = A') := by
  refine acall_intro Try.func36 rfl (by kernel_rfl) fun hw => ?_
  repeat' (first
  | (refine lwc fun R hR => ?_; simp [wrap_i64, wrap_u64]; try simp (disch := omega) only [if_pos, if_neg, wrap_i64, wrap_u64])
  | (refine hR _ _ ?_; clear hR R) | (refine hK _ _ ?_; clear hK K) | refine lwn ?_ | refine lr ?_ | refine la ?_
  | refine wn fun K hK => ?_
  | simp only [nops, nop, lops, lop, slimG, List.map_cons, List.map_nil, List.filterMap_cons, List.filterMap_nil, Option.map_none, Option.map_some, List.getElem?_toArray, List.getElem?_cons_zero, List.getElem?_cons_succ, Option.bind_some]
  | refine wb ?_ | refine wr ?_ | refine wk ?_ | refine we ?_ | refine ws ?_ | refine wq ?_
  | ((refine wc rfl (fun hc => ?_) (fun hc => ?_)) <;> (try simp at hc) <;> (try omega))
  | ((refine ib (fun hc => ?_) (fun hc => ?_)) <;> (try omega) <;> (try simp (disch := omega) only [if_pos, if_neg])))
  simp [versionF]

theorem rvers_call (v : Int) (A : AW) : ACall Try.prog 42 [.int .i64 v] A (fun u A' => u = .bool (decide (0 ≤ v ∧ v ≤ 1099511627776)) ∧ A = A') := by
  refine acall_intro Try.func42 rfl (by kernel_rfl) fun hw => ?_
  repeat' (first
  | (refine lwc fun R hR => ?_; simp [wrap_i64, wrap_u64]; try simp (disch := omega) only [if_pos, if_neg, wrap_i64, wrap_u64])
  | (refine hR _ _ ?_; clear hR R) | (refine hK _ _ ?_; clear hK K) | refine lwn ?_ | refine lr ?_ | refine la ?_
  | refine wn fun K hK => ?_
  | simp only [nops, nop, lops, lop, slimG, List.map_cons, List.map_nil, List.filterMap_cons, List.filterMap_nil, Option.map_none, Option.map_some, List.getElem?_toArray, List.getElem?_cons_zero, List.getElem?_cons_succ, Option.bind_some]
  | refine wb ?_ | refine wr ?_ | refine wk ?_ | refine we ?_ | refine ws ?_ | refine wq ?_
  | ((refine wc rfl (fun hc => ?_) (fun hc => ?_)) <;> (try simp at hc) <;> (try omega))
  | ((refine ib (fun hc => ?_) (fun hc => ?_)) <;> (try omega) <;> (try simp (disch := omega) only [if_pos, if_neg])))
  all_goals (simp_all <;> omega)

def heldF (v t : Int) : Int := if (0 ≤ v ∧ v ≤ 1099511627776) ∧ 0 ≤ t ∧ t < 16 then v * 64 + t + 1 else 0
theorem rheld_call (v t : Int) (A : AW) : ACall Try.prog 50 [.int .i64 v, .int .i64 t] A (fun u A' => (∃ e, u = .tuple #[.int .u64 (heldF v t), .int .i64 e]) ∧ A = A') := by
  refine acall_intro Try.func50 rfl (by kernel_rfl) fun hw => ?_
  by_cases h1 : 0 ≤ v ∧ v ≤ 1099511627776
  · by_cases h2 : 0 ≤ t
    · by_cases h3 : t < 16
      · have hv : heldF v t = v * 64 + t + 1 := if_pos ⟨h1, h2, h3⟩
        repeat' (first
        | (refine lwc fun R hR => ?_; simp [wrap_i64, wrap_u64, h1, h2, h3]; try simp (disch := omega) only [if_pos, if_neg, wrap_i64, wrap_u64])
        | (refine hR _ _ ?_; clear hR R) | (refine hK _ _ ?_; clear hK K) | refine lwn ?_ | refine lr ?_ | refine la ?_
        | refine wn fun K hK => ?_
        | simp only [nops, nop, lops, lop, slimG, List.map_cons, List.map_nil, List.filterMap_cons, List.filterMap_nil, Option.map_none, Option.map_some, List.getElem?_toArray, List.getElem?_cons_zero, List.getElem?_cons_succ, Option.bind_some]
        | (refine callK (rvers_call _ _) ?_; rintro _ _ ⟨rfl, rfl⟩ _ _)
        | refine wb ?_ | refine wr ?_ | refine wk ?_ | refine we ?_ | refine ws ?_ | refine wq ?_
        | ((refine wc rfl (fun hc => ?_) (fun hc => ?_)) <;> (try simp at hc) <;> (try omega))
        | ((refine ib (fun hc => ?_) (fun hc => ?_)) <;> (try omega) <;> (try simp (disch := omega) only [if_pos, if_neg])))
        all_goals exact ⟨_, by first | (simp; done) | (simp; rfl), ⟨_, by rw [hv]⟩, rfl⟩
      · have hv : heldF v t = 0 := if_neg (fun h => h3 h.2.2)
        repeat' (first
        | (refine lwc fun R hR => ?_; simp [wrap_i64, wrap_u64, h1, h2, h3]; try simp (disch := omega) only [if_pos, if_neg, wrap_i64, wrap_u64])
        | (refine hR _ _ ?_; clear hR R) | (refine hK _ _ ?_; clear hK K) | refine lwn ?_ | refine lr ?_ | refine la ?_
        | refine wn fun K hK => ?_
        | simp only [nops, nop, lops, lop, slimG, List.map_cons, List.map_nil, List.filterMap_cons, List.filterMap_nil, Option.map_none, Option.map_some, List.getElem?_toArray, List.getElem?_cons_zero, List.getElem?_cons_succ, Option.bind_some]
        | (refine callK (rvers_call _ _) ?_; rintro _ _ ⟨rfl, rfl⟩ _ _)
        | refine wb ?_ | refine wr ?_ | refine wk ?_ | refine we ?_ | refine ws ?_ | refine wq ?_
        | ((refine wc rfl (fun hc => ?_) (fun hc => ?_)) <;> (try simp at hc) <;> (try omega))
        | ((refine ib (fun hc => ?_) (fun hc => ?_)) <;> (try omega) <;> (try simp (disch := omega) only [if_pos, if_neg])))
        all_goals exact ⟨_, by first | (simp; done) | (simp; rfl), ⟨_, by rw [hv]⟩, rfl⟩
    · have hv : heldF v t = 0 := if_neg (fun h => h2 h.2.1)
      repeat' (first
      | (refine lwc fun R hR => ?_; simp [wrap_i64, wrap_u64, h1, h2]; try simp (disch := omega) only [if_pos, if_neg, wrap_i64, wrap_u64])
      | (refine hR _ _ ?_; clear hR R) | (refine hK _ _ ?_; clear hK K) | refine lwn ?_ | refine lr ?_ | refine la ?_
      | refine wn fun K hK => ?_
      | simp only [nops, nop, lops, lop, slimG, List.map_cons, List.map_nil, List.filterMap_cons, List.filterMap_nil, Option.map_none, Option.map_some, List.getElem?_toArray, List.getElem?_cons_zero, List.getElem?_cons_succ, Option.bind_some]
      | (refine callK (rvers_call _ _) ?_; rintro _ _ ⟨rfl, rfl⟩ _ _)
      | refine wb ?_ | refine wr ?_ | refine wk ?_ | refine we ?_ | refine ws ?_ | refine wq ?_
      | ((refine wc rfl (fun hc => ?_) (fun hc => ?_)) <;> (try simp at hc) <;> (try omega))
      | ((refine ib (fun hc => ?_) (fun hc => ?_)) <;> (try omega) <;> (try simp (disch := omega) only [if_pos, if_neg])))
      all_goals exact ⟨_, by first | (simp; done) | (simp; rfl), ⟨_, by rw [hv]⟩, rfl⟩
  · have hv : heldF v t = 0 := if_neg (fun h => h1 h.1)
    repeat' (first
    | (refine lwc fun R hR => ?_; simp [wrap_i64, wrap_u64, h1]; try simp (disch := omega) only [if_pos, if_neg, wrap_i64, wrap_u64])
    | (refine hR _ _ ?_; clear hR R) | (refine hK _ _ ?_; clear hK K) | refine lwn ?_ | refine lr ?_ | refine la ?_
    | refine wn fun K hK => ?_
    | simp only [nops, nop, lops, lop, slimG, List.map_cons, List.map_nil, List.filterMap_cons, List.filterMap_nil, Option.map_none, Option.map_some, List.getElem?_toArray, List.getElem?_cons_zero, List.getElem?_cons_succ, Option.bind_some]
    | (refine callK (rvers_call _ _) ?_; rintro _ _ ⟨rfl, rfl⟩ _ _)
    | refine wb ?_ | refine wr ?_ | refine wk ?_ | refine we ?_ | refine ws ?_ | refine wq ?_
    | ((refine wc rfl (fun hc => ?_) (fun hc => ?_)) <;> (try simp at hc) <;> (try omega))
    | ((refine ib (fun hc => ?_) (fun hc => ?_)) <;> (try omega) <;> (try simp (disch := omega) only [if_pos, if_neg])))
    all_goals exact ⟨_, by first | (simp; done) | (simp; rfl), ⟨_, by rw [hv]⟩, rfl⟩

def RLockH (b : Nat) (s : LockS) : HP := hex fun vo : Value => hex fun vw : Value =>
  pt b (.cells [.int .i64 s.thread, vo, vw, .bool s.loaded, .int .u64 s.seen] true 1) * (IntsH .i64 vo s.orecs * IntsH .u64 vw s.old)

theorem RLockH.open {A : AW} {b : Nat} {s : LockS} {F : HP} (h : Sat A (RLockH b s * F)) :
    ∃ vo vw, Sat A (pt b (.cells [.int .i64 s.thread, vo, vw, .bool s.loaded, .int .u64 s.seen] true 1) * (IntsH .i64 vo s.orecs * (IntsH .u64 vw s.old * F))) := by
  unfold RLockH at h
  rw [Sat.ex] at h
  obtain ⟨vo, h⟩ := h
  rw [Sat.ex] at h
  obtain ⟨vw, h⟩ := h
  exact ⟨vo, vw, h.cast (by ac_rfl)⟩
theorem RLockH.close {A : AW} {b : Nat} {s : LockS} {F : HP} {vo vw : Value} (h : Sat A (pt b (.cells [.int .i64 s.thread, vo, vw, .bool s.loaded, .int .u64 s.seen] true 1) * (IntsH .i64 vo s.orecs * (IntsH .u64 vw s.old * F)))) :
    Sat A (RLockH b s * F) := by
  unfold RLockH
  rw [Sat.ex]
  refine ⟨vo, ?_⟩
  rw [Sat.ex]
  exact ⟨vw, h.cast (by ac_rfl)⟩

theorem rlockDone_call (b : Nat) (s : LockS) (A : AW) (F : HP) (h : Sat A (RLockH b s * F)) :
    ACall Try.prog 22 [.pointer (some ⟨b, 0, none⟩)] A (fun v A' => v = .bool s.done ∧ A = A') := by
  refine acall_intro Try.func22 rfl (by kernel_rfl) fun hw => ?_
  obtain ⟨vo, vw, hS⟩ := RLockH.open h
  obtain ⟨oo, co, rfl, _⟩ := (IntsH.is hS.right).form
  obtain ⟨ow, cw, rfl, _⟩ := (IntsH.is hS.right.right).form
  have hg := hS.get
  repeat' (first
  | (refine lwc fun R hR => ?_; simp [wrap_i64, wrap_u64, hg, AW.row_get]; try simp (disch := omega) only [if_pos, if_neg, wrap_i64, wrap_u64])
  | (refine hR _ _ ?_; clear hR R) | (refine hK _ _ ?_; clear hK K) | refine lwn ?_ | refine lr ?_ | refine la ?_
  | refine wn fun K hK => ?_
  | simp only [nops, nop, lops, lop, slimG, List.map_cons, List.map_nil, List.filterMap_cons, List.filterMap_nil, Option.map_none, Option.map_some, List.getElem?_toArray, List.getElem?_cons_zero, List.getElem?_cons_succ, Option.bind_some]
  | (refine wl Try.mx [(0,0),(1,0),(2,0),(3,0),(4,0),(5,0),(6,0),(7,0),(8,0),(9,0),(10,0),(11,0)] (by decide +kernel) fun K hK => ?_)
  | refine wb ?_ | refine wr ?_ | refine wk ?_ | refine we ?_ | refine ws ?_ | refine wq ?_
  | ((refine wc rfl (fun hc => ?_) (fun hc => ?_)) <;> (try simp at hc) <;> (try omega))
  | ((refine ib (fun hc => ?_) (fun hc => ?_)) <;> (try omega) <;> (try simp (disch := omega) only [if_pos, if_neg])))
  simp [LockS.done]
  omega

theorem rnewLock_call (t : Int) (vi : Value) (l : List Int) (A : AW) (F : HP) (h : IsInts A .i64 vi l) (hl : l.length < 2^38) (hw : A.Wf) (hS : Sat A F) :
    ACall Try.prog 20 [.int .i64 t, vi] A (fun v A' => ∃ b, v = .pointer (some ⟨b, 0, none⟩) ∧ Sat A' (RLockH b ⟨t, sortedF l, [], 0, false⟩ * F)) := by
  refine acall_intro Try.func20 rfl (by kernel_rfl) fun _ => ?_
  repeat' (first
  | (refine lwc fun R hR => ?_; simp [wrap_i64, wrap_u64]; try simp (disch := omega) only [if_pos, if_neg, wrap_i64, wrap_u64])
  | (refine hR _ _ ?_; clear hR R) | (refine hK _ _ ?_; clear hK K) | refine lwn ?_ | refine lr ?_ | refine la ?_
  | refine wn fun K hK => ?_
  | simp only [nops, nop, lops, lop, slimG, List.map_cons, List.map_nil, List.filterMap_cons, List.filterMap_nil, Option.map_none, Option.map_some, List.getElem?_toArray, List.getElem?_cons_zero, List.getElem?_cons_succ, Option.bind_some]
  | refine wb ?_ | refine wr ?_ | refine wk ?_ | refine we ?_ | refine ws ?_ | refine wq ?_
  | ((refine wc rfl (fun hc => ?_) (fun hc => ?_)) <;> (try simp at hc) <;> (try omega))
  | ((refine ib (fun hc => ?_) (fun hc => ?_)) <;> (try omega) <;> (try simp (disch := omega) only [if_pos, if_neg])))
  refine callK (refSorted_call vi l A h (by omega)) ?_
  rintro u A1 ⟨h1, h2⟩ hw1 _
  rw [← sortedF_eq] at h1
  obtain ⟨o, c, rfl, _⟩ := h1.is.form
  repeat' (first
  | (refine lwc fun R hR => ?_; simp [wrap_i64, wrap_u64]; try simp (disch := omega) only [if_pos, if_neg, wrap_i64, wrap_u64])
  | (refine hR _ _ ?_; clear hR R) | (refine hK _ _ ?_; clear hK K) | refine lwn ?_ | refine lr ?_ | refine la ?_
  | refine wn fun K hK => ?_
  | simp only [nops, nop, lops, lop, slimG, List.map_cons, List.map_nil, List.filterMap_cons, List.filterMap_nil, Option.map_none, Option.map_some, List.getElem?_toArray, List.getElem?_cons_zero, List.getElem?_cons_succ, Option.bind_some]
  | refine wb ?_ | refine wr ?_ | refine wk ?_ | refine we ?_ | refine ws ?_ | refine wq ?_
  | ((refine wc rfl (fun hc => ?_) (fun hc => ?_)) <;> (try simp at hc) <;> (try omega))
  | ((refine ib (fun hc => ?_) (fun hc => ?_)) <;> (try omega) <;> (try simp (disch := omega) only [if_pos, if_neg])))
  refine ⟨_, by first | (simp; done) | (simp; rfl), A1.next, rfl, ?_⟩
  have hS1 := (IntsH.of_own hS hw h2 h1).alloc hw1 (.cells [.int .i64 t, .slice o (sortedF l).length c, .slice none 0 0, .bool false, .int .u64 0] true 1)
  refine RLockH.close (vo := .slice o (sortedF l).length c) (vw := .slice none 0 0) ?_
  have h0 := IntsH.nil (k := .u64) hS1
  exact h0.cast (by show _ = pt A1.next (.cells [.int .i64 t, .slice o (sortedF l).length c, .slice none 0 0, .bool false, .int .u64 0] true 1) * (IntsH .i64 (.slice o (sortedF l).length c) (sortedF l) * (IntsH .u64 (.slice none 0 0) [] * F)); ac_rfl)

/-- What the reference puts into a record that it locks; the program puts 'lockPut'. -/
def rput (s : LockS) : Int := heldF (versionF s.seen) s.thread
def rlockStep (s : LockS) (M : Nat → List Int) : Acc × LockS × (Nat → List Int) :=
  if s.done = true then (Acc.zero, s, M)
  else if s.loaded = false then
    let a := opAcc M 1 2 (lockIdx s) gLoad
    (a, { s with seen := a.got, loaded := decide (holderF a.got < 0) }, M)
  else
    let a := opAcc M 3 2 (lockIdx s) (gSwap s.seen (rput s))
    (a, { s with loaded := false, old := if a.done = true then s.old ++ [s.seen] else s.old }, opM M 2 (lockIdx s) (gSwap s.seen (rput s)))

theorem rlockStep_eq {s : LockS} {M : Nat → List Int} (h : s.loaded = true → rput s = lockPut s) : rlockStep s M = lockStep s M := by
  unfold rlockStep lockStep
  split
  · rfl
  · split
    · rfl
    · rename_i hl
      rw [h (by simpa using hl)]

set_option maxHeartbeats 2000000 in
theorem rlockStep_call (b mb : Nat) (s : LockS) (M : Nat → List Int) (hM : RefOk M) (hlen : s.old.length ≤ s.orecs.length) (hmax : s.orecs.length < 2^38) :
    SCall Try.prog 26 [.pointer (some ⟨b, 0, none⟩), .pointer (some ⟨mb, 0, none⟩)] (RLockH b s * RefH mb M)
      (fun v => hpr (v = (rlockStep s M).1.v) * (RLockH b (rlockStep s M).2.1 * RefH mb (rlockStep s M).2.2)) := by
  intro A F hw hS0
  refine acall_intro Try.func26 rfl (by kernel_rfl) fun _ => ?_
  rw [HP.mul_assoc] at hS0
  have hdc0 : ∀ (x : Bool), s.done = x → ∀ A' F', Sat A' (RLockH b s * F') → ACall Try.prog 22 [.pointer (some ⟨b, 0, none⟩)] A' (fun v A'' => v = .bool x ∧ A' = A'') := fun x hx A' F' h => by
    have := rlockDone_call b s A' F' h
    rwa [hx] at this
  by_cases hdone : s.done = true
  · have hdc := hdc0 true hdone
    repeat' (first
    | (refine lwc fun R hR => ?_; simp [wrap_i64, wrap_u64, AW.row_get, astore, accZ, hdone]; try simp (disch := omega) only [if_pos, if_neg, wrap_i64, wrap_u64])
    | (refine hR _ _ ?_; clear hR R) | (refine hK _ _ ?_; clear hK K) | refine lwn ?_ | refine lr ?_ | refine la ?_
    | refine wn fun K hK => ?_
    | simp only [nops, nop, lops, lop, slimG, List.map_cons, List.map_nil, List.filterMap_cons, List.filterMap_nil, Option.map_none, Option.map_some, List.getElem?_toArray, List.getElem?_cons_zero, List.getElem?_cons_succ, Option.bind_some]
    | (refine wl Try.mx [(0,0),(1,0),(2,0),(3,0),(4,0),(5,0),(6,0),(7,0),(8,0),(9,0),(10,0),(11,0)] (by decide +kernel) fun K hK => ?_)
    | (refine wl Try.mx [(0,0),(1,0),(2,0),(3,0),(5,0),(6,0),(7,0),(8,0),(4,2),(9,2),(10,0),(11,0),(12,0),(13,0),(14,0)] (by decide +kernel) fun K hK => ?_)
    | (refine wl Try.mx [(0,0),(1,0),(2,0),(3,0),(4,0),(5,0),(6,0),(7,0),(8,0),(9,2),(10,3),(11,0),(12,0),(13,3)] (by decide +kernel) fun K hK => ?_)
    | (refine callK (hdc _ _ (hS0.le hw (by repeat' (first | exact AW.le.refl _ | refine AW.le.set ?_ (by simp <;> omega) _ | refine AW.le.trans ?_ (AW.le.alloc _ _))))) ?_; rintro _ _ ⟨rfl, rfl⟩ _ _)
    | refine wb ?_ | refine wr ?_ | refine wk ?_ | refine we ?_ | refine ws ?_ | refine wq ?_
    | ((refine wc rfl (fun hc => ?_) (fun hc => ?_)) <;> (try simp at hc) <;> (try omega))
    | ((refine ib (fun hc => ?_) (fun hc => ?_)) <;> (try omega) <;> (try simp (disch := omega) only [if_pos, if_neg])))
    have hst : rlockStep s M = (Acc.zero, s, M) := by unfold rlockStep; rw [if_pos hdone]
    rw [hst]
    refine ⟨_, by first | (simp [AW.row_get]; done) | (simp [AW.row_get]; rfl), Sat.post (by simp [Acc.v, Acc.zero]) ?_⟩
    rw [HP.mul_assoc]
    exact hS0.le hw (by repeat' (first | exact AW.le.refl _ | refine AW.le.set ?_ (by simp <;> omega) _ | refine AW.le.trans ?_ (AW.le.alloc _ _)))
  · have hdone' : s.done = false := by simpa using hdone
    have hdc := hdc0 false hdone'
    have hlt : s.old.length < s.orecs.length := by
      have : ¬ s.old.length = s.orecs.length := by simpa [LockS.done] using hdone
      omega
    have hlti : (s.old.length : Int) < s.orecs.length := by omega
    obtain ⟨vo, vw, hS3⟩ := RLockH.open hS0
    have hg := hS3.get
    have hSo : Sat A (IntsH .i64 vo s.orecs * (pt b (.cells [.int .i64 s.thread, vo, vw, .bool s.loaded, .int .u64 s.seen] true 1) * (IntsH .u64 vw s.old * (RefH mb M * F)))) := hS3.cast (by ac_rfl)
    obtain ⟨bo, off, c, row, rfl, _, hgo, hco, _, _⟩ := IntsH.at hSo hlt
    obtain ⟨ow, cw, rfl, _⟩ := (IntsH.is hS3.right.right).form
    obtain ⟨nb, nb'⟩ := hw.old hg
    obtain ⟨no, no'⟩ := hw.old hgo
    have hidx : s.orecs[s.old.length] = lockIdx s := by unfold lockIdx; rw [List.getD_eq_getElem?_getD, List.getElem?_eq_getElem hlt]; rfl
    rw [hidx] at hco
    cases hld : s.loaded
    · rw [hld] at hg
      repeat' (first
      | (refine lwc fun R hR => ?_; simp [wrap_i64, wrap_u64, AW.row_get, astore, accZ, hdone', hg, hgo, hco, nb, nb', no, no', hlt, hlti]; try simp (disch := omega) only [if_pos, if_neg, wrap_i64, wrap_u64])
      | (refine hR _ _ ?_; clear hR R) | (refine hK _ _ ?_; clear hK K) | refine lwn ?_ | refine lr ?_ | refine la ?_
      | refine wn fun K hK => ?_
      | simp only [nops, nop, lops, lop, slimG, List.map_cons, List.map_nil, List.filterMap_cons, List.filterMap_nil, Option.map_none, Option.map_some, List.getElem?_toArray, List.getElem?_cons_zero, List.getElem?_cons_succ, Option.bind_some]
      | (refine wl Try.mx [(0,0),(1,0),(2,0),(3,0),(4,0),(5,0),(6,0),(7,0),(8,0),(9,0),(10,0),(11,0)] (by decide +kernel) fun K hK => ?_)
      | (refine wl Try.mx [(0,0),(1,0),(2,0),(3,0),(5,0),(6,0),(7,0),(8,0),(4,2),(9,2),(10,0),(11,0),(12,0),(13,0),(14,0)] (by decide +kernel) fun K hK => ?_)
      | (refine wl Try.mx [(0,0),(1,0),(2,0),(3,0),(4,0),(5,0),(6,0),(7,0),(8,0),(9,2),(10,3),(11,0),(12,0),(13,3)] (by decide +kernel) fun K hK => ?_)
      | (refine callK (hdc _ _ (hS0.le hw (by repeat' (first | exact AW.le.refl _ | refine AW.le.set ?_ (by simp <;> omega) _ | refine AW.le.trans ?_ (AW.le.alloc _ _))))) ?_; rintro _ _ ⟨rfl, rfl⟩ _ _)
      | refine wb ?_ | refine wr ?_ | refine wk ?_ | refine we ?_ | refine ws ?_ | refine wq ?_
      | ((refine wc rfl (fun hc => ?_) (fun hc => ?_)) <;> (try simp at hc) <;> (try omega))
      | ((refine ib (fun hc => ?_) (fun hc => ?_)) <;> (try omega) <;> (try simp (disch := omega) only [if_pos, if_neg])))
      have hS4 : Sat (A.alloc (.cells accZ true 1)) (RefH mb M * (RLockH b s * (pt A.next (.cells accZ true 1) * F))) := (hS0.alloc hw (.cells accZ true 1)).cast (by ac_rfl)
      refine (refLoad mb M 2 (lockIdx s) hM).use (hw.alloc _) hS4 rfl ?_
      intro v A2 hS5 hw2 _
      obtain ⟨rfl, hS6⟩ := hS5.unpost
      clear hS5
      have hst : rlockStep s M = (opAcc M 1 2 (lockIdx s) gLoad, { s with seen := (opAcc M 1 2 (lockIdx s) gLoad).got, loaded := decide (holderF (opAcc M 1 2 (lockIdx s) gLoad).got < 0) }, M) := by
        unfold rlockStep; rw [if_neg hdone, if_pos hld]
      rw [opM_same (by intro o _; rfl)] at hS6
      generalize opAcc M 1 2 (lockIdx s) gLoad = a at hst hS6 ⊢
      have hS7 : Sat A2 (RLockH b s * (pt A.next (.cells accZ true 1) * (RefH mb M * F))) := hS6.cast (by ac_rfl)
      obtain ⟨vo2, vw2, hS8⟩ := RLockH.open hS7
      have hS9 : Sat A2 (pt b (.cells [.int .i64 s.thread, vo2, vw2, .bool s.loaded, .int .u64 s.seen] true 1) * (pt A.next (.cells accZ true 1) * (IntsH .i64 vo2 s.orecs * (IntsH .u64 vw2 s.old * (RefH mb M * F))))) := hS8.cast (by ac_rfl)
      have hgb := hS9.get
      have hg0 := hS9.right.get
      have n1 := hS9.ne
      obtain ⟨x1, x1'⟩ := hw2.old hgb
      obtain ⟨x0, x0'⟩ := hw2.old hg0
      have y1 : (A2.next = b) = False := eq_false fun e => by rw [e] at x1; simp at x1
      have y0 : (A2.next = A.next) = False := eq_false fun e => by rw [e] at x0; simp at x0
      repeat' (first
      | (refine lwc fun R hR => ?_; simp [wrap_i64, wrap_u64, AW.row_get, astore, accZ, hgb, hg0, n1, Ne.symm n1, x1, x0, y1, y0, Acc.v, hld]; try simp (disch := omega) only [if_pos, if_neg, wrap_i64, wrap_u64])
      | (refine hR _ _ ?_; clear hR R) | (refine hK _ _ ?_; clear hK K) | refine lwn ?_ | refine lr ?_ | refine la ?_
      | refine wn fun K hK => ?_
      | simp only [nops, nop, lops, lop, slimG, List.map_cons, List.map_nil, List.filterMap_cons, List.filterMap_nil, Option.map_none, Option.map_some, List.getElem?_toArray, List.getElem?_cons_zero, List.getElem?_cons_succ, Option.bind_some]
      | (refine wl Try.mx [(0,0),(1,0),(2,0),(3,0),(4,0),(5,0),(6,0),(7,0),(8,0),(9,0),(10,0),(11,0)] (by decide +kernel) fun K hK => ?_)
      | (refine wl Try.mx [(0,0),(1,0),(2,0),(3,0),(5,0),(6,0),(7,0),(8,0),(4,2),(9,2),(10,0),(11,0),(12,0),(13,0),(14,0)] (by decide +kernel) fun K hK => ?_)
      | (refine wl Try.mx [(0,0),(1,0),(2,0),(3,0),(4,0),(5,0),(6,0),(7,0),(8,0),(9,2),(10,3),(11,0),(12,0),(13,3)] (by decide +kernel) fun K hK => ?_)
      | (refine callK (rholder_call _ _) ?_; rintro _ _ ⟨rfl, rfl⟩ _ _)
      | refine wb ?_ | refine wr ?_ | refine wk ?_ | refine we ?_ | refine ws ?_ | refine wq ?_
      | ((refine wc rfl (fun hc => ?_) (fun hc => ?_)) <;> (try simp at hc) <;> (try omega))
      | ((refine ib (fun hc => ?_) (fun hc => ?_)) <;> (try omega) <;> (try simp (disch := omega) only [if_pos, if_neg])))
      refine ⟨_, by first | (simp [AW.row_get]; done) | (simp [AW.row_get]; rfl), Sat.post (by rw [hst]; simp [Acc.v]) ?_⟩
      rw [hst, HP.mul_assoc]
      refine RLockH.close (vo := vo2) (vw := vw2) (Sat.fin11 hS9 (by simp [n1, x1]) (fun j x h1 h2 hx => ?_))
      have hj := (hw2.old hx).1
      simp [AW.get_set, AW.get_alloc, h1, h2, hx, hj]
    · rw [hld] at hg
      repeat' (first
      | (refine lwc fun R hR => ?_; simp [wrap_i64, wrap_u64, AW.row_get, astore, accZ, hdone', hg, hgo, hco, nb, nb', no, no', hlt, hlti]; try simp (disch := omega) only [if_pos, if_neg, wrap_i64, wrap_u64])
      | (refine hR _ _ ?_; clear hR R) | (refine hK _ _ ?_; clear hK K) | refine lwn ?_ | refine lr ?_ | refine la ?_
      | refine wn fun K hK => ?_
      | simp only [nops, nop, lops, lop, slimG, List.map_cons, List.map_nil, List.filterMap_cons, List.filterMap_nil, Option.map_none, Option.map_some, List.getElem?_toArray, List.getElem?_cons_zero, List.getElem?_cons_succ, Option.bind_some]
      | (refine wl Try.mx [(0,0),(1,0),(2,0),(3,0),(4,0),(5,0),(6,0),(7,0),(8,0),(9,0),(10,0),(11,0)] (by decide +kernel) fun K hK => ?_)
      | (refine wl Try.mx [(0,0),(1,0),(2,0),(3,0),(5,0),(6,0),(7,0),(8,0),(4,2),(9,2),(10,0),(11,0),(12,0),(13,0),(14,0)] (by decide +kernel) fun K hK => ?_)
      | (refine wl Try.mx [(0,0),(1,0),(2,0),(3,0),(4,0),(5,0),(6,0),(7,0),(8,0),(9,2),(10,3),(11,0),(12,0),(13,3)] (by decide +kernel) fun K hK => ?_)
      | (refine callK (hdc _ _ (hS0.le hw (by repeat' (first | exact AW.le.refl _ | refine AW.le.set ?_ (by simp <;> omega) _ | refine AW.le.trans ?_ (AW.le.alloc _ _))))) ?_; rintro _ _ ⟨rfl, rfl⟩ _ _)
      | (refine callK (rversion_call _ _) ?_; rintro _ _ ⟨rfl, rfl⟩ _ _)
      | refine wb ?_ | refine wr ?_ | refine wk ?_ | refine we ?_ | refine ws ?_ | refine wq ?_
      | ((refine wc rfl (fun hc => ?_) (fun hc => ?_)) <;> (try simp at hc) <;> (try omega))
      | ((refine ib (fun hc => ?_) (fun hc => ?_)) <;> (try omega) <;> (try simp (disch := omega) only [if_pos, if_neg])))
      refine callK (rheld_call _ _ _) ?_
      rintro _ _ ⟨⟨ee, rfl⟩, rfl⟩ _ _
      have hput : heldF (versionF s.seen) s.thread = rput s := rfl
      rw [hput]
      repeat' (first
      | (refine lwc fun R hR => ?_; simp [wrap_i64, wrap_u64, AW.row_get, astore, accZ, hdone', hg, hgo, hco, nb, nb', no, no', hlt, hlti]; try simp (disch := omega) only [if_pos, if_neg, wrap_i64, wrap_u64])
      | (refine hR _ _ ?_; clear hR R) | (refine hK _ _ ?_; clear hK K) | refine lwn ?_ | refine lr ?_ | refine la ?_
      | refine wn fun K hK => ?_
      | simp only [nops, nop, lops, lop, slimG, List.map_cons, List.map_nil, List.filterMap_cons, List.filterMap_nil, Option.map_none, Option.map_some, List.getElem?_toArray, List.getElem?_cons_zero, List.getElem?_cons_succ, Option.bind_some]
      | (refine wl Try.mx [(0,0),(1,0),(2,0),(3,0),(4,0),(5,0),(6,0),(7,0),(8,0),(9,0),(10,0),(11,0)] (by decide +kernel) fun K hK => ?_)
      | (refine wl Try.mx [(0,0),(1,0),(2,0),(3,0),(5,0),(6,0),(7,0),(8,0),(4,2),(9,2),(10,0),(11,0),(12,0),(13,0),(14,0)] (by decide +kernel) fun K hK => ?_)
      | (refine wl Try.mx [(0,0),(1,0),(2,0),(3,0),(4,0),(5,0),(6,0),(7,0),(8,0),(9,2),(10,3),(11,0),(12,0),(13,3)] (by decide +kernel) fun K hK => ?_)
      | refine wb ?_ | refine wr ?_ | refine wk ?_ | refine we ?_ | refine ws ?_ | refine wq ?_
      | ((refine wc rfl (fun hc => ?_) (fun hc => ?_)) <;> (try simp at hc) <;> (try omega))
      | ((refine ib (fun hc => ?_) (fun hc => ?_)) <;> (try omega) <;> (try simp (disch := omega) only [if_pos, if_neg])))
      have hS4 : Sat (A.alloc (.cells accZ true 1)) (RefH mb M * (RLockH b s * (pt A.next (.cells accZ true 1) * F))) := (hS0.alloc hw (.cells accZ true 1)).cast (by ac_rfl)
      refine (refSwap mb M 2 (lockIdx s) s.seen (rput s) hM).use (hw.alloc _) hS4 rfl ?_
      intro v A2 hS5 hw2 _
      obtain ⟨rfl, hS6⟩ := hS5.unpost
      clear hS5
      have hst : rlockStep s M = (opAcc M 3 2 (lockIdx s) (gSwap s.seen (rput s)), { s with loaded := false, old := if (opAcc M 3 2 (lockIdx s) (gSwap s.seen (rput s))).done = true then s.old ++ [s.seen] else s.old }, opM M 2 (lockIdx s) (gSwap s.seen (rput s))) := by
        unfold rlockStep; rw [if_neg hdone, if_neg (by simp [hld])]
      generalize opAcc M 3 2 (lockIdx s) (gSwap s.seen (rput s)) = a at hst hS6 ⊢
      generalize opM M 2 (lockIdx s) (gSwap s.seen (rput s)) = M' at hst hS6
      have hS7 : Sat A2 (RLockH b s * (pt A.next (.cells accZ true 1) * (RefH mb M' * F))) := hS6.cast (by ac_rfl)
      obtain ⟨vo2, vw2, hS8⟩ := RLockH.open hS7
      have hS9 : Sat A2 (pt b (.cells [.int .i64 s.thread, vo2, vw2, .bool s.loaded, .int .u64 s.seen] true 1) * (pt A.next (.cells accZ true 1) * (IntsH .i64 vo2 s.orecs * (IntsH .u64 vw2 s.old * (RefH mb M' * F))))) := hS8.cast (by ac_rfl)
      have hgb := hS9.get
      have hg0 := hS9.right.get
      have n1 := hS9.ne
      obtain ⟨x1, x1'⟩ := hw2.old hgb
      obtain ⟨x0, x0'⟩ := hw2.old hg0
      have y1 : (A2.next = b) = False := eq_false fun e => by rw [e] at x1; simp at x1
      have y0 : (A2.next = A.next) = False := eq_false fun e => by rw [e] at x0; simp at x0
      cases hdn : a.done
      · repeat' (first
      | (refine lwc fun R hR => ?_; simp [wrap_i64, wrap_u64, AW.row_get, astore, accZ, hgb, hg0, n1, Ne.symm n1, x1, x0, y1, y0, Acc.v, hld, hdn]; try simp (disch := omega) only [if_pos, if_neg, wrap_i64, wrap_u64])
      | (refine hR _ _ ?_; clear hR R) | (refine hK _ _ ?_; clear hK K) | refine lwn ?_ | refine lr ?_ | refine la ?_
      | refine wn fun K hK => ?_
      | simp only [nops, nop, lops, lop, slimG, List.map_cons, List.map_nil, List.filterMap_cons, List.filterMap_nil, Option.map_none, Option.map_some, List.getElem?_toArray, List.getElem?_cons_zero, List.getElem?_cons_succ, Option.bind_some]
      | (refine wl Try.mx [(0,0),(1,0),(2,0),(3,0),(4,0),(5,0),(6,0),(7,0),(8,0),(9,0),(10,0),(11,0)] (by decide +kernel) fun K hK => ?_)
      | (refine wl Try.mx [(0,0),(1,0),(2,0),(3,0),(5,0),(6,0),(7,0),(8,0),(4,2),(9,2),(10,0),(11,0),(12,0),(13,0),(14,0)] (by decide +kernel) fun K hK => ?_)
      | (refine wl Try.mx [(0,0),(1,0),(2,0),(3,0),(4,0),(5,0),(6,0),(7,0),(8,0),(9,2),(10,3),(11,0),(12,0),(13,3)] (by decide +kernel) fun K hK => ?_)
      | refine wb ?_ | refine wr ?_ | refine wk ?_ | refine we ?_ | refine ws ?_ | refine wq ?_
      | ((refine wc rfl (fun hc => ?_) (fun hc => ?_)) <;> (try simp at hc) <;> (try omega))
      | ((refine ib (fun hc => ?_) (fun hc => ?_)) <;> (try omega) <;> (try simp (disch := omega) only [if_pos, if_neg])))
        refine ⟨_, by first | (simp [AW.row_get]; done) | (simp [AW.row_get]; rfl), Sat.post (by rw [hst]; simp [Acc.v, hdn]) ?_⟩
        rw [hst, HP.mul_assoc]
        simp only [hdn, Bool.false_eq_true, if_false]
        refine RLockH.close (vo := vo2) (vw := vw2) (Sat.fin11 hS9 (by simp [n1, x1]) (fun j x h1 h2 hx => ?_))
        have hj := (hw2.old hx).1
        simp [AW.get_set, AW.get_alloc, h1, h2, hx, hj]
      · repeat' (first
      | (refine lwc fun R hR => ?_; simp [wrap_i64, wrap_u64, AW.row_get, astore, accZ, hgb, hg0, n1, Ne.symm n1, x1, x0, y1, y0, Acc.v, hld, hdn]; try simp (disch := omega) only [if_pos, if_neg, wrap_i64, wrap_u64])
      | (refine hR _ _ ?_; clear hR R) | (refine hK _ _ ?_; clear hK K) | refine lwn ?_ | refine lr ?_ | refine la ?_
      | refine wn fun K hK => ?_
      | simp only [nops, nop, lops, lop, slimG, List.map_cons, List.map_nil, List.filterMap_cons, List.filterMap_nil, Option.map_none, Option.map_some, List.getElem?_toArray, List.getElem?_cons_zero, List.getElem?_cons_succ, Option.bind_some]
      | (refine wl Try.mx [(0,0),(1,0),(2,0),(3,0),(4,0),(5,0),(6,0),(7,0),(8,0),(9,0),(10,0),(11,0)] (by decide +kernel) fun K hK => ?_)
      | (refine wl Try.mx [(0,0),(1,0),(2,0),(3,0),(5,0),(6,0),(7,0),(8,0),(4,2),(9,2),(10,0),(11,0),(12,0),(13,0),(14,0)] (by decide +kernel) fun K hK => ?_)
      | refine wb ?_ | refine wr ?_ | refine wk ?_ | refine we ?_ | refine ws ?_ | refine wq ?_
      | ((refine wc rfl (fun hc => ?_) (fun hc => ?_)) <;> (try simp at hc) <;> (try omega))
      | ((refine ib (fun hc => ?_) (fun hc => ?_)) <;> (try omega) <;> (try simp (disch := omega) only [if_pos, if_neg])))
        have hw2a := hw2.alloc (.cells accZ true 1)
        have sB : Sat (A2.alloc (.cells accZ true 1)) (pt b (.cells [.int .i64 s.thread, vo2, vw2, .bool s.loaded, .int .u64 s.seen] true 1) * (pt A2.next (.cells accZ true 1) * (pt A.next (.cells accZ true 1) * (IntsH .i64 vo2 s.orecs * (IntsH .u64 vw2 s.old * (RefH mb M' * F)))))) := (hS9.alloc hw2 (.cells accZ true 1)).cast (by ac_rfl)
        have hb2 := hw2.lt hgb
        refine awp_gen (fun A3 => A3.Wf ∧ Sat A3 (pt b (.cells [.int .i64 s.thread, vo2, vw2, .bool false, .int .u64 s.seen] true 1) * (pt A2.next (.cells a.cells true 1) * (pt A.next (.cells accZ true 1) * (IntsH .i64 vo2 s.orecs * (IntsH .u64 vw2 s.old * (RefH mb M' * F))))))) ?_ ?_
        · refine ⟨(hw2a.set _ (by simp)).set _ (by simp; omega), Sat.upd3 sB (by simp [AW.get_set]) (by simp [AW.get_set, y1, Acc.cells, hdn]) (by simp [AW.get_set, AW.get_alloc, Ne.symm n1, x0, hg0, accZ]) (fun j x h1 h2 h3 hx => ?_)⟩
          simp only [AW.get_set, AW.get_alloc, h1, h2, if_false] at hx ⊢
          exact hx
        rintro A3 ⟨hw3, hS10⟩
        have hg3b := hS10.get
        have hg31 := hS10.right.get
        have hg30 := hS10.right.right.get
        have m1 := hS10.ne
        have m2 := hS10.ne2
        have m3 := hS10.right.ne
        obtain ⟨v', A4, e1, hS11, hw4, _⟩ := IntsH.append (P := Try.prog) (t := 57) s.seen Try.underlying57 Try.info38 Try.zero38 rfl rfl
          (hS10.cast (by ac_rfl) : Sat A3 (IntsH .u64 vw2 s.old * (pt b (.cells [.int .i64 s.thread, vo2, vw2, .bool false, .int .u64 s.seen] true 1) * (pt A2.next (.cells a.cells true 1) * (pt A.next (.cells accZ true 1) * (IntsH .i64 vo2 s.orecs * (RefH mb M' * F)))))))
          (by omega) (by simp) hw3
        have hS12 : Sat A4 (pt b (.cells [.int .i64 s.thread, vo2, vw2, .bool false, .int .u64 s.seen] true 1) * (pt A2.next (.cells a.cells true 1) * (pt A.next (.cells accZ true 1) * (IntsH .i64 vo2 s.orecs * (IntsH .u64 v' (s.old ++ [s.seen]) * (RefH mb M' * F)))))) := hS11.cast (by ac_rfl)
        have hg4b := hS12.get
        have hg41 := hS12.right.get
        have hg40 := hS12.right.right.get
        obtain ⟨n3', nb3⟩ := hw3.old hg3b
        have hv' : ∃ o c, v' = .slice o (s.old.length + 1) c := by
          obtain ⟨o, c, h, _⟩ := (IntsH.is hS11).form
          exact ⟨o, c, by simpa using h⟩
        obtain ⟨o', c', rfl⟩ := hv'
        repeat' (first
        | (refine lwc fun R hR => ?_; simp [wrap_i64, wrap_u64, AW.row_get, astore, accZ, hg3b, hg31, hg30, hg4b, hg41, hg40, m1, m2, m3, n3', nb3, Ne.symm m1, Ne.symm m2, Ne.symm m3, Acc.v, Acc.cells, e1, hdn]; try simp (disch := omega) only [if_pos, if_neg, wrap_i64, wrap_u64])
        | (refine hR _ _ ?_; clear hR R) | (refine hK _ _ ?_; clear hK K) | refine lwn ?_ | refine lr ?_ | refine la ?_
        | refine wn fun K hK => ?_
        | simp only [nops, nop, lops, lop, slimG, List.map_cons, List.map_nil, List.filterMap_cons, List.filterMap_nil, Option.map_none, Option.map_some, List.getElem?_toArray, List.getElem?_cons_zero, List.getElem?_cons_succ, Option.bind_some]
        | (refine wl Try.mx [(0,0),(1,0),(2,0),(3,0),(4,0),(5,0),(6,0),(7,0),(8,0),(9,0),(10,0),(11,0)] (by decide +kernel) fun K hK => ?_)
        | (refine wl Try.mx [(0,0),(1,0),(2,0),(3,0),(5,0),(6,0),(7,0),(8,0),(4,2),(9,2),(10,0),(11,0),(12,0),(13,0),(14,0)] (by decide +kernel) fun K hK => ?_)
        | (refine wl Try.mx [(0,0),(1,0),(2,0),(3,0),(4,0),(5,0),(6,0),(7,0),(8,0),(9,2),(10,3),(11,0),(12,0),(13,3)] (by decide +kernel) fun K hK => ?_)
        | refine wb ?_ | refine wr ?_ | refine wk ?_ | refine we ?_ | refine ws ?_ | refine wq ?_
        | ((refine wc rfl (fun hc => ?_) (fun hc => ?_)) <;> (try simp at hc) <;> (try omega))
        | ((refine ib (fun hc => ?_) (fun hc => ?_)) <;> (try omega) <;> (try simp (disch := omega) only [if_pos, if_neg])))
        refine ⟨_, by first | (simp [AW.row_get]; done) | (simp [AW.row_get]; rfl), Sat.post (by rw [hst]; simp [Acc.v, hdn]) ?_⟩
        rw [hst, HP.mul_assoc]
        simp only [hdn, if_true]
        refine RLockH.close (vo := vo2) (vw := .slice o' (s.old.length + 1) c') (Sat.fin12 hS12 (by simp [AW.get_set, m1, m2]) (fun j x h1 h2 h3 hx => ?_))
        simp [AW.get_set, h1, h2, h3, hx]

end Go.Stx
