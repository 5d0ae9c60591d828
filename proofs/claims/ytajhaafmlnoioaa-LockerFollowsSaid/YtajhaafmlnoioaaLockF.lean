/-
  Both cells set alike; what the words and the locks of three threads keep, whatever the versions are.
-/
import Derived.Test.YtajhaafmlnoioaaLockY
import Derived.Test.YtajhaafmlnoioaaRelC
import Derived.Test.YtajhaafmlnoioaaRelF
namespace Go.Stx
open Go Go.Proofs
attribute [local irreducible] AWP LWalk ACall ARounds lops nops
set_option linter.unusedVariables false
set_option linter.unusedSimpArgs false

set_option maxHeartbeats 1000000 in
theorem pairSet_call (pb mb : Nat) (M : Nat → List Int) (idx x : Int) (hM : RefOk M) (hc : hasCell M 2 idx = true) :
    SCall Try.prog 17 [.agg #[.pointer (some ⟨pb, 0, none⟩), .pointer (some ⟨mb, 0, none⟩)], .int .i64 2, .int .i64 idx, .int .u64 x] (MemH pb M * RefH mb M)
      (fun v => hpr (v = .bool true) * (MemH pb (opM M 2 idx (gStore x)) * RefH mb (opM M 2 idx (gStore x)))) := by
  intro A F hw hS
  refine acall_intro Try.func17 rfl (by kernel_rfl) fun _ => ?_
  obtain ⟨bx, hbx⟩ : ∃ bx, bx = A.next := ⟨_, rfl⟩
  obtain ⟨X, hX⟩ : ∃ X, X = AObj.cells [.pointer (some ⟨pb, 0, none⟩), .pointer (some ⟨mb, 0, none⟩)] true 1 := ⟨_, rfl⟩
  have hw1 := hw.alloc X
  have hS1 : Sat (A.alloc X) (MemH pb M * (pt bx X * (RefH mb M * F))) := (hS.alloc hw X).cast (by rw [hbx]; ac_rfl)
  repeat' (first
  | (refine lwc fun R hR => ?_; simp [wrap_i64, wrap_u64, AW.row_get]; try simp (disch := omega) only [if_pos, if_neg, wrap_i64, wrap_u64])
  | (refine hR _ _ ?_; clear hR R) | (refine hK _ _ ?_; clear hK K) | refine lwn ?_ | refine lr ?_ | refine la ?_
  | refine wn fun K hK => ?_
  | simp only [nops, nop, lops, lop, slimG, List.map_cons, List.map_nil, List.filterMap_cons, List.filterMap_nil, Option.map_none, Option.map_some, List.getElem?_toArray, List.getElem?_cons_zero, List.getElem?_cons_succ, Option.bind_some]
  | (refine wl Try.mx [(0,0),(1,0),(2,0),(3,0),(4,0),(5,0),(6,0),(7,0),(8,0),(9,2),(10,0),(11,0),(12,0)] (by decide +kernel) fun K hK => ?_)
  | refine wb ?_ | refine wr ?_ | refine wk ?_ | refine we ?_ | refine ws ?_ | refine wq ?_
  | ((refine wc rfl (fun hc => ?_) (fun hc => ?_)) <;> (try simp at hc) <;> (try omega))
  | ((refine ib (fun hc => ?_) (fun hc => ?_)) <;> (try omega) <;> (try simp (disch := omega) only [if_pos, if_neg])))
  rw [← hX]
  refine (mem_store pb M 2 idx x).use hw1 hS1 rfl ?_
  intro v A2 hU hw2 _
  obtain ⟨rfl, hY⟩ := hU.unpost
  clear hU
  have he : opErr M 2 idx = 0 := by unfold opErr; rw [if_pos hc]
  rw [he]
  obtain ⟨a, ha⟩ : ∃ a, a = opAcc M 2 2 idx (gStore x) := ⟨_, rfl⟩
  rw [← ha]
  have hY1 : Sat A2 (pt bx X * (RefH mb M * (MemH pb (opM M 2 idx (gStore x)) * F))) := hY.cast (by ac_rfl)
  have hgx := hY1.get
  rw [hX, hbx] at hgx
  obtain ⟨nx, nx'⟩ := hw2.old hgx
  obtain ⟨Y, hYd⟩ : ∃ Y, Y = AObj.cells a.cells true 1 := ⟨_, rfl⟩
  obtain ⟨ay, hay⟩ : ∃ ay, ay = A2.next := ⟨_, rfl⟩
  repeat' (first
  | (refine lwc fun R hR => ?_; simp [wrap_i64, wrap_u64, AW.row_get, hgx, nx, nx', astore, Acc.v]; try simp (disch := omega) only [if_pos, if_neg, wrap_i64, wrap_u64])
  | (refine hR _ _ ?_; clear hR R) | (refine hK _ _ ?_; clear hK K) | refine lwn ?_ | refine lr ?_ | refine la ?_
  | refine wn fun K hK => ?_
  | simp only [nops, nop, lops, lop, slimG, List.map_cons, List.map_nil, List.filterMap_cons, List.filterMap_nil, Option.map_none, Option.map_some, List.getElem?_toArray, List.getElem?_cons_zero, List.getElem?_cons_succ, Option.bind_some]
  | (refine ⟨fun A' hA' => by rw [hA'] <;> rfl, ?_⟩)
  | (refine wlS (fun A' => A'.get A2.next = some (.cells a.cells true 1)) Try.mx [(0, 0), (1, 0), (2, 0), (3, 1), (4, 0), (5, 0), (6, 0), (7, 0), (8, 0), (9, 3), (10, 0), (11, 0), (12, 0)] (by decide +kernel) fun K hK => ?_)
  | refine wb ?_ | refine wr ?_ | refine wk ?_ | refine we ?_ | refine ws ?_ | refine wq ?_
  | ((refine wc rfl (fun hc => ?_) (fun hc => ?_)) <;> (try simp at hc) <;> (try omega))
  | ((refine ib (fun hc => ?_) (fun hc => ?_)) <;> (try omega) <;> (try simp (disch := omega) only [if_pos, if_neg])))
  have hY2 : Sat ((A2.alloc (.cells accZ true 1)).set A2.next (some (.cells a.cells true 1))) (RefH mb M * (pt A2.next (.cells a.cells true 1) * (pt bx X * (MemH pb (opM M 2 idx (gStore x)) * F)))) := ((hY1.alloc hw2 (.cells accZ true 1)).set (.cells a.cells true 1)).cast (by ac_rfl)
  refine (refStore mb M 2 idx x hM).use ((hw2.alloc _).set _ (by simp)) hY2 rfl ?_
  intro v A3 hU hw3 _
  obtain ⟨rfl, hZ⟩ := hU.unpost
  clear hU
  rw [← ha]
  have hZ1 : Sat A3 (pt A2.next (.cells a.cells true 1) * (MemH pb (opM M 2 idx (gStore x)) * (RefH mb (opM M 2 idx (gStore x)) * (pt bx X * F)))) := hZ.cast (by ac_rfl)
  refine ⟨hZ1.get, ?_⟩
  repeat' (first
  | (refine lwc fun R hR => ?_; simp [wrap_i64, wrap_u64, AW.row_get, Acc.v]; try simp (disch := omega) only [if_pos, if_neg, wrap_i64, wrap_u64])
  | (refine hR _ _ ?_; clear hR R) | (refine hK _ _ ?_; clear hK K) | refine lwn ?_ | refine lr ?_ | refine la ?_
  | refine wn fun K hK => ?_
  | simp only [nops, nop, lops, lop, slimG, List.map_cons, List.map_nil, List.filterMap_cons, List.filterMap_nil, Option.map_none, Option.map_some, List.getElem?_toArray, List.getElem?_cons_zero, List.getElem?_cons_succ, Option.bind_some]
  | (refine wl Try.mx [(0,0),(1,0),(2,0),(3,0),(4,0),(5,0),(6,0),(7,0),(8,0),(9,2),(10,0),(11,0),(12,0)] (by decide +kernel) fun K hK => ?_)
  | refine wb ?_ | refine wr ?_ | refine wk ?_ | refine we ?_ | refine ws ?_ | refine wq ?_
  | ((refine wc rfl (fun hc => ?_) (fun hc => ?_)) <;> (try simp at hc) <;> (try omega))
  | ((refine ib (fun hc => ?_) (fun hc => ?_)) <;> (try omega) <;> (try simp (disch := omega) only [if_pos, if_neg])))
  refine ⟨_, by first | (simp; done) | (simp; rfl), Sat.post (by first | rfl | simp) ?_⟩
  rw [HP.mul_assoc]
  exact Sat.right (P := pt bx X) (hZ1.right.cast (by ac_rfl))

/-- A word of an orec, and one that is free. -/
def Wd (w : Int) : Prop := 0 ≤ w ∧ w < 64000 ∧ w % 64 ≤ 3
def Fw (w : Int) : Prop := 0 ≤ w ∧ w < 64000 ∧ w % 64 = 0
theorem Fw.wd {w : Int} (h : Fw w) : Wd w := ⟨h.1, h.2.1, by rw [h.2.2]; omega⟩

theorem holder_free {w : Int} (h : Wd w) (hn : holderF w < 0) : Fw w := by
  obtain ⟨h1, h2, h3⟩ := h
  refine ⟨h1, h2, ?_⟩
  unfold holderF at hn
  rw [Int.tmod_eq_emod_of_nonneg h1] at hn
  rw [wrap_i64 (x := w % 64) (by omega) (by omega)] at hn
  rw [wrap_i64 (by omega) (by omega)] at hn
  omega
theorem put_eq {s : LockS} {t : Nat} (ht : t < 3) (h : s.thread = t) (hf : Fw s.seen) : lockPut s = s.seen + t + 1 ∧ rput s = s.seen + t + 1 := by
  obtain ⟨h1, h2, h3⟩ := hf
  constructor
  · unfold lockPut
    rw [h, wrap_u64 (x := (t : Int)) (by omega) (by omega), wrap_u64 (x := s.seen + (t : Int)) (by omega) (by omega), wrap_u64 (by omega) (by omega)]
  · unfold rput heldF versionF
    have e : s.seen.tdiv 64 = s.seen / 64 := Int.tdiv_eq_ediv_of_nonneg h1
    rw [e, wrap_u64 (x := s.seen / 64) (by omega) (by omega), wrap_i64 (by omega) (by omega), h, if_pos (by omega)]
    omega

structure FOk (t : Nat) (L : List Int) (s : LockS) : Prop where
  th : s.thread = t
  orecs : s.orecs = L
  len : s.old.length ≤ L.length
  seen : s.loaded = true → Fw s.seen
  old : ∀ w ∈ s.old, Wd w

def MWd (M : Nat → List Int) : Prop := ∀ o, o < 6 → Wd (ow M o)
theorem MWd.setO {M : Nat → List Int} (h : MWd M) (hW : W6 M) {o : Nat} (ho : o < 6) {v : Int} (hv : Wd v) : MWd (setO M o v) := fun j hj => by
  rw [ow_setO hW ho]
  split
  · exact hv
  · exact h j hj

theorem fok_step {t : Nat} {L : List Int} {s : LockS} {M : Nat → List Int} (ht : t < 3) (hL : OrecsOk L) (h : FOk t L s) (hW : W6 M) (hM : MWd M) :
    FOk t L (lockStep s M).2.1 ∧ W6 (lockStep s M).2.2 ∧ MWd (lockStep s M).2.2 ∧ rlockStep s M = lockStep s M := by
  have heq : rlockStep s M = lockStep s M := rlockStep_eq fun hl => by
    obtain ⟨h1, h2⟩ := put_eq ht h.th (h.seen hl)
    rw [h1, h2]
  refine ⟨?_, ?_, ?_, heq⟩
  all_goals
    unfold lockStep
    by_cases hd : s.done = true
    · rw [if_pos hd]
      first | exact h | exact hW | exact hM
    rw [if_neg hd]
    have hlt : s.old.length < L.length := by
      have h1 : ¬ s.old.length = s.orecs.length := by simpa [LockS.done] using hd
      have h2 := h.len
      rw [h.orecs] at h1
      omega
    have hidx : lockIdx s = orec L s.old.length := by unfold lockIdx orec; rw [h.orecs]
    have hr := hL.at hlt
    rw [hidx]
    by_cases hld : s.loaded = false
    · rw [if_pos hld]
      first
        | exact hW
        | exact hM
        | (refine ⟨h.th, h.orecs, h.len, ?_, h.old⟩
           simp only [op_load hW hr, decide_eq_true_eq]
           exact fun hn => holder_free (hM _ (by omega)) hn)
    · rw [if_neg hld]
      have hf := h.seen (by simpa using hld)
      obtain ⟨p1, p2⟩ := put_eq ht h.th hf
      first
        | (show W6 (opM M 2 _ _)
           exact hW.opM2 _ _)
        | (show MWd (opM M 2 _ _)
           rw [opM_swap hW hr, p1]
           split
           · refine hM.setO hW (by omega) ?_
             obtain ⟨f1, f2, f3⟩ := hf
             exact ⟨by omega, by omega, by omega⟩
           · exact hM)
        | (refine ⟨h.th, h.orecs, ?_, by simp, ?_⟩
           · simp only
             split
             · simp; omega
             · exact h.len
           · simp only
             split
             · intro w hw
               rw [List.mem_append] at hw
               rcases hw with hw | hw
               · exact h.old w hw
               · simp at hw; subst hw; exact hf.wd
             · exact h.old)

/-- A step of releasing. -/
theorem frel_step {L old : List Int} {M : Nat → List Int} (hL : OrecsOk L) (ho : ∀ w ∈ old, Wd w) (hlen : L.length = old.length) {k : Nat} (hk : k ≤ L.length) (hW : W6 M) (hM : MWd M) :
    W6 (storesStep 2 L old k M).2.2 ∧ MWd (storesStep 2 L old k M).2.2 ∧ (storesStep 2 L old k M).2.1 ≤ L.length := by
  unfold storesStep
  by_cases e : k = L.length
  · rw [if_pos e]; exact ⟨hW, hM, hk⟩
  · rw [if_neg e]
    have hr := hL.at (k := k) (by omega)
    have hr' : 0 ≤ L.getD k 0 ∧ L.getD k 0 < 6 := hr
    rw [opM_store hW hr']
    refine ⟨hW.setO _ _, hM.setO hW (by omega) (ho _ ?_), by simp only; omega⟩
    rw [List.getD_eq_getElem?_getD, List.getElem?_eq_getElem (by omega)]
    exact List.getElem_mem _

end Go.Stx
