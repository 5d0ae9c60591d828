/-
  The machines that release.
-/
import Derived.Test.YtajhaafmlnoioaaRefLock
import Derived.Test.YtajhaafmlnoioaaCoreB
namespace Go.Stx
open Go Go.Proofs
attribute [local irreducible] AWP LWalk ACall ARounds lops nops
set_option linter.unusedVariables false
set_option linter.unusedSimpArgs false

def freeF (v : Int) : Int := if 0 ≤ v ∧ v ≤ 1099511627776 then v * 64 else 0
theorem rfree_call (v : Int) (A : AW) : ACall Try.prog 14 [.int .i64 v] A (fun u A' => (∃ e, u = .tuple #[.int .u64 (freeF v), .int .i64 e]) ∧ A = A') := by
  refine acall_intro Try.func14 rfl (by kernel_rfl) fun hw => ?_
  by_cases h1 : 0 ≤ v ∧ v ≤ 1099511627776
  · have hv : freeF v = v * 64 := if_pos h1
    repeat' (first
    | (refine lwc fun R hR => ?_; simp [wrap_i64, wrap_u64, h1]; try simp (disch := omega) only [if_pos, if_neg, wrap_i64, wrap_u64])
    | (refine hR _ _ ?_; clear hR R) | (refine hK _ _ ?_; clear hK K) | refine lwn ?_ | refine lr ?_ | refine la ?_
    | refine wn fun K hK => ?_
    | simp only [nops, nop, lops, lop, slimG, List.map_cons, List.map_nil, List.filterMap_cons, List.filterMap_nil, Option.map_none, Option.map_some, List.getElem?_toArray, List.getElem?_cons_zero, List.getElem?_cons_succ, Option.bind_some]
    | (refine callK (rvers_call _ _) ?_; rintro _ _ ⟨rfl, rfl⟩ _ _)
    | refine wb ?_ | refine wr ?_ | refine wk ?_ | refine we ?_ | refine ws ?_ | refine wq ?_
    | ((refine wc rfl (fun hc => ?_) (fun hc => ?_)) <;> (try simp at hc) <;> (try omega))
    | ((refine ib (fun hc => ?_) (fun hc => ?_)) <;> (try omega) <;> (try simp (disch := omega) only [if_pos, if_neg])))
    all_goals exact ⟨_, by first | (simp; done) | (simp; rfl), ⟨_, by rw [hv]⟩, rfl⟩
  · have hv : freeF v = 0 := if_neg h1
    repeat' (first
    | (refine lwc fun R hR => ?_; simp [wrap_i64, wrap_u64, h1]; try simp (disch := omega) only [if_pos, if_neg, wrap_i64, wrap_u64])
    | (refine hR _ _ ?_; clear hR R) | (refine hK _ _ ?_; clear hK K) | refine lwn ?_ | refine lr ?_ | refine la ?_
    | refine wn fun K hK => ?_
    | simp only [nops, nop, lops, lop, slimG, List.map_cons, List.map_nil, List.filterMap_cons, List.filterMap_nil, Option.map_none, Option.map_some, List.getElem?_toArray, List.getElem?_cons_zero, List.getElem?_cons_succ, Option.bind_some]
    | (refine callK (rvers_call _ _) ?_; rintro _ _ ⟨rfl, rfl⟩ _ _)
    | refine wb ?_ | refine wr ?_ | refine wk ?_ | refine we ?_ | refine ws ?_ | refine wq ?_
    | ((refine wc rfl (fun hc => ?_) (fun hc => ?_)) <;> (try simp at hc) <;> (try omega))
    | ((refine ib (fun hc => ?_) (fun hc => ?_)) <;> (try omega) <;> (try simp (disch := omega) only [if_pos, if_neg])))
    all_goals exact ⟨_, by first | (simp; done) | (simp; rfl), ⟨_, by rw [hv]⟩, rfl⟩

structure RelS where
  os : List Int
  ws : List Int

def RelH (b : Nat) (s : RelS) : HP := hex fun vo : Value => hex fun vw : Value =>
  pt b (.cells [vo, vw] true 1) * (IntsH .i64 vo s.os * IntsH .u64 vw s.ws)

theorem RelH.open {A : AW} {b : Nat} {s : RelS} {F : HP} (h : Sat A (RelH b s * F)) :
    ∃ vo vw, Sat A (pt b (.cells [vo, vw] true 1) * (IntsH .i64 vo s.os * (IntsH .u64 vw s.ws * F))) := by
  unfold RelH at h
  rw [Sat.ex] at h
  obtain ⟨vo, h⟩ := h
  rw [Sat.ex] at h
  obtain ⟨vw, h⟩ := h
  exact ⟨vo, vw, h.cast (by ac_rfl)⟩
theorem RelH.close {A : AW} {b : Nat} {s : RelS} {F : HP} {vo vw : Value} (h : Sat A (pt b (.cells [vo, vw] true 1) * (IntsH .i64 vo s.os * (IntsH .u64 vw s.ws * F)))) :
    Sat A (RelH b s * F) := by
  unfold RelH
  rw [Sat.ex]
  refine ⟨vo, ?_⟩
  rw [Sat.ex]
  exact ⟨vw, h.cast (by ac_rfl)⟩

def RelS.done (s : RelS) : Bool := decide (s.os.length = 0)
theorem relDone_call (b : Nat) (s : RelS) (A : AW) (F : HP) (h : Sat A (RelH b s * F)) :
    ACall Try.prog 32 [.pointer (some ⟨b, 0, none⟩)] A (fun v A' => v = .bool s.done ∧ A = A') := by
  refine acall_intro Try.func32 rfl (by kernel_rfl) fun hw => ?_
  obtain ⟨vo, vw, hS⟩ := RelH.open h
  obtain ⟨oo, co, rfl, _⟩ := (IntsH.is hS.right).form
  obtain ⟨ow, cw, rfl, _⟩ := (IntsH.is hS.right.right).form
  have hg := hS.get
  repeat' (first
  | (refine lwc fun R hR => ?_; simp [wrap_i64, wrap_u64, hg, AW.row_get]; try simp (disch := omega) only [if_pos, if_neg, wrap_i64, wrap_u64])
  | (refine hR _ _ ?_; clear hR R) | (refine hK _ _ ?_; clear hK K) | refine lwn ?_ | refine lr ?_ | refine la ?_
  | refine wn fun K hK => ?_
  | simp only [nops, nop, lops, lop, slimG, List.map_cons, List.map_nil, List.filterMap_cons, List.filterMap_nil, Option.map_none, Option.map_some, List.getElem?_toArray, List.getElem?_cons_zero, List.getElem?_cons_succ, Option.bind_some]
  | refine wb ?_ | refine wr ?_ | refine wk ?_ | refine we ?_ | refine ws ?_ | refine wq ?_
  | ((refine wc rfl (fun hc => ?_) (fun hc => ?_)) <;> (try simp at hc) <;> (try omega))
  | ((refine ib (fun hc => ?_) (fun hc => ?_)) <;> (try omega) <;> (try simp (disch := omega) only [if_pos, if_neg])))
  simp [RelS.done]

/-- The slice of all but the first: what it names in the memory. -/
theorem IntsH.tail {P : Program} {A : AW} {t e : TypeId} {i : TypeInfo} {k k1 : IntKind} {o : Option Addr} {n c : Nat} {x : Int} {l : List Int} {F : HP}
    (hu : P.underlying t = some (.slice e)) (hi : P.info? e = some i) (hs : i.size = 1) (h : Sat A (IntsH k (.slice o n c) (x :: l) * F)) :
    ∃ q, o = some q ∧ ∃ v', (∀ A' : AW, A'.get q.block = A.get q.block → aslice P A' t (.slice o n c) (some (.int k1 1)) none none = some v') ∧ Sat A (IntsH k v' l * F) := by
  rcases RowH.cases h with ⟨_, h0, _⟩ | ⟨b, off, c', row, hv, h1, h2, h3, h4⟩
  · simp at h0
  · injection hv with hv1 hv2 hv3
    subst hv1 hv2 hv3
    have h1' : 1 ≤ c := by simp at h1; omega
    have e1 : (1 : Int) ≤ (l.length : Int) + 1 := by omega
    refine ⟨_, rfl, .slice (some ⟨b, off + 1, none⟩) l.length (c - 1), fun A' hA => ?_, ?_⟩
    · have hg := h4.get
      rw [← hA] at hg
      simp [hu, hi, hs, asliceAt, hg, e1]
    · simp only [List.length_cons, Nat.mul_one] at h1 h2 h3
      refine IntsH.mk rfl (by omega) (by omega) ?_ h4
      rw [List.drop_eq_getElem_cons (by omega), List.map_cons, List.take_succ_cons] at h3
      exact (List.cons.inj h3).2

theorem IntsH.tl {A : AW} {k : IntKind} {v : Value} {x : Int} {l : List Int} {F : HP} (h : Sat A (IntsH k v (x :: l) * F)) :
    ∃ b off c row, v = .slice (some ⟨b, off, none⟩) (l.length + 1) c ∧ A.get b = some (.cells row true 1) ∧ (∀ j o F', F = pt j o * F' → b ≠ j) ∧ (∀ j o i o' F', F = pt j o * (pt i o' * F') → b ≠ i) ∧ Sat A (IntsH k (.slice (some ⟨b, off + 1, none⟩) l.length (c - 1)) l * F) := by
  rcases RowH.cases h with ⟨_, h0, _⟩ | ⟨b, off, c, row, rfl, h1, h2, h3, h4⟩
  · simp at h0
  · refine ⟨b, off, c, row, by simp, h4.get, fun j o F' e => by subst e; exact h4.ne, fun j o i o' F' e => by subst e; exact h4.ne2, ?_⟩
    simp only [List.length_cons, Nat.mul_one] at h1 h2 h3
    refine IntsH.mk rfl (by omega) (by omega) ?_ h4
    rw [List.drop_eq_getElem_cons (by omega), List.map_cons, List.take_succ_cons] at h3
    exact (List.cons.inj h3).2

def relStep (s : RelS) (M : Nat → List Int) : Acc × RelS × (Nat → List Int) :=
  if s.done = true then (Acc.zero, s, M)
  else (opAcc M 2 2 (s.os.getD 0 0) (gStore (s.ws.getD 0 0)), ⟨s.os.tail, s.ws.tail⟩, opM M 2 (s.os.getD 0 0) (gStore (s.ws.getD 0 0)))

end Go.Stx
