/-
  Regions that draw their order and whose operations each add or turn a part of the memory: what each operation leaves is told as an assertion.
-/
import Derived.Test.YtajhaafmlnoioaaStxLin2
import Derived.Test.YtajhaafmlnoioaaStxSep
namespace Go.Stx
open Go
set_option linter.unusedVariables false

def updV (val : Nat → Value) (i : Nat) (v : Value) : Nat → Value := fun j => if j = i then v else val j

/-- Slots are written once, and no operation is guarded. -/
def mixOk (ops : Array Oper) : Bool := aheadOk ops && (List.range ops.size).all fun i => match ops[i]? with
  | some o => o.guard.isNone && (List.range ops.size).all fun j => j == i || match ops[j]?, o.dst with
    | some oj, some d => !(oj.dst == some d)
    | _, _ => true
  | none => false

theorem mixOk_spec {ops : Array Oper} (h : mixOk ops = true) : aheadOk ops = true ∧ (∀ (i : Nat) (o : Oper), ops[i]? = some o → o.guard = none) ∧
    ∀ (i j : Nat) (o oj : Oper) (d : Tmp), ops[i]? = some o → ops[j]? = some oj → i ≠ j → o.dst = some d → oj.dst ≠ some d := by
  simp only [mixOk, Bool.and_eq_true] at h
  refine ⟨h.1, fun i o ho => ?_, fun i j o oj d ho hoj hne hd hdj => ?_⟩
  · have := List.all_eq_true.1 h.2 i (List.mem_range.2 (Array.getElem?_eq_some_iff.1 ho).1)
    rw [ho] at this
    simp only [Bool.and_eq_true] at this
    simpa using this.1
  · have := List.all_eq_true.1 h.2 i (List.mem_range.2 (Array.getElem?_eq_some_iff.1 ho).1)
    rw [ho] at this
    simp only [Bool.and_eq_true] at this
    have h2 := List.all_eq_true.1 this.2 j (List.mem_range.2 (Array.getElem?_eq_some_iff.1 hoj).1)
    rw [hoj, hd] at h2
    simp only [Bool.or_eq_true, beq_iff_eq, Bool.not_eq_true'] at h2
    rcases h2 with h2 | h2
    · exact hne h2.symm
    · rw [hdj] at h2
      simp at h2

theorem awp_mix {P : Program} {n : Nat} {Q : Exit → Fr → AW → Prop} {a0 : Fr} {A0 : AW} {id : Nat} {ops : Array Oper} (hm : P.follows .mixedOrders = true) (hB : mixOk ops = true)
    (G : (Nat → Bool) → (Nat → Value) → HP) (φ : Nat → (Nat → Value) → Prop)
    (hG : ∀ (S : Nat → Bool) (i : Nat) (val : Nat → Value) (v : Value), Closed ops S → S i = false → G S (updV val i v) = G S val)
    (hφ : ∀ (S : Nat → Bool) (i j : Nat) (val : Nat → Value) (v : Value), Closed ops S → S i = false → S j = true → φ j val → φ j (updV val i v))
    (h0 : ∀ val, Sat A0 (G (fun _ => false) val))
    (hstep : ∀ (i : Nat) (o : Oper), ops[i]? = some o → ∀ (S : Nat → Bool) (val : Nat → Value) (a : Fr) (A : AW), S i = false → (∀ e ∈ o.after, Region.binds .any e = true → S e.on = true) → Closed ops S → (∀ j, S j = true → φ j val) → A.Wf → Sat A (G S val) →
      (∀ (j : Nat) (oj : Oper) (d : Tmp), ops[j]? = some oj → oj.dst = some d → S j = true → a d = val j) → (∀ d : Tmp, (ops.toList.all fun o => !(o.dst == some d)) = true → a d = a0 d) →
      AStep P o.op (evF a) A fun v A' => φ i (updV val i v) ∧ Sat A' (G (setL S i) (updV val i v)))
    (hend : ∀ (S : Nat → Bool) (val : Nat → Value) (a : Fr) (A : AW), (∀ i, i < ops.size → S i = true) → (∀ j, S j = true → φ j val) → A.Wf → Sat A (G S val) →
      (∀ (j : Nat) (oj : Oper) (d : Tmp), ops[j]? = some oj → oj.dst = some d → S j = true → a d = val j) → (∀ d : Tmp, (ops.toList.all fun o => !(o.dst == some d)) = true → a d = a0 d) → Q .normal a A) :
    AWP P n (.region id ops true) Q a0 A0 := by
  obtain ⟨hah, hgd, hds⟩ := mixOk_spec hB
  intro hok m w ca hs hf
  have hw0 : A0.Wf := hs.low
  refine awp_any hm hah (fun S a A => (A.Wf → Closed ops S ∧ ∃ val, (∀ j, S j = true → φ j val) ∧ Sat A (G S val) ∧ (∀ (j : Nat) (oj : Oper) (d : Tmp), ops[j]? = some oj → oj.dst = some d → S j = true → a d = val j) ∧
    (∀ d : Tmp, (ops.toList.all fun o => !(o.dst == some d)) = true → a d = a0 d) ∧ ((∀ i, i < ops.size → S i = true) → Q .normal a A))) ?_ ?_ ?_ hok m w ca hs hf
  · intro hw
    refine ⟨?_, fun _ => undef, ?_, h0 _, ?_, ?_, fun hall => ?_⟩
    · intro k o _ h; cases h
    · intro j h; cases h
    · intro j oj d _ _ h; cases h
    · intro d _; rfl
    · refine hend (fun _ => false) (fun _ => undef) a0 A0 hall ?_ hw0 (h0 _) ?_ ?_
      · intro j h; cases h
      · intro j oj d _ _ h; cases h
      · intro d _; rfl
  · intro S a A i o hw hJ ho hSi hdep
    obtain ⟨hcl, val, h1, h2, h3, h4, _⟩ := hJ hw
    have hcl' := hcl.set ho ⟨hSi, hdep⟩
    have hst := hstep i o ho S val a A hSi hdep hcl h1 hw h2 h3 h4
    unfold AOp1
    have hg : gval ops a o = true := by simp [gval, hgd i o ho]
    rw [if_pos hg]
    refine hst.mono fun v A' ⟨h5, h6⟩ hw' => ?_
    have hp : ∀ j, setL S i j = true → φ j (updV val i v) := fun j hj => by
      by_cases e : j = i
      · subst e; exact h5
      · have : S j = true := by simpa [setL, e] using hj
        exact hφ S i j val v hcl hSi this (h1 j this)
    have hfr : ∀ j oj d, ops[j]? = some oj → oj.dst = some d → setL S i j = true → putF a o.dst v d = updV val i v j := fun j oj d hj hd hSj => by
      by_cases e : j = i
      · subst e
        rw [ho] at hj
        injection hj with hj
        subst hj
        rw [hd]
        simp [putF, upd, updV]
      · have hSj' : S j = true := by simpa [setL, e] using hSj
        have hne : o.dst ≠ some d := fun x => hds i j o oj d ho hj (Ne.symm e) x hd
        have : putF a o.dst v d = a d := by
          cases hod : o.dst with
          | none => rfl
          | some q =>
            have : d ≠ q := fun x => hne (by rw [hod, x])
            simp [putF, upd, this]
        rw [this, h3 j oj d hj hd hSj']
        simp [updV, e]
    have hout : ∀ d : Tmp, (ops.toList.all fun o => !(o.dst == some d)) = true → putF a o.dst v d = a0 d := fun d hd => by
      have hne : o.dst ≠ some d := fun x => by
        have := List.all_eq_true.1 hd o (Array.mem_toList_iff.2 (Array.mem_of_getElem? ho))
        rw [x] at this
        simp at this
      have : putF a o.dst v d = a d := by
        cases hod : o.dst with
        | none => rfl
        | some q =>
          have : d ≠ q := fun x => hne (by rw [hod, x])
          simp [putF, upd, this]
      rw [this]
      exact h4 d hd
    exact ⟨hcl', updV val i v, hp, h6, hfr, hout, fun hall => hend _ _ _ _ hall hp hw' h6 hfr hout⟩
  · intro S a A hw hJ hall
    obtain ⟨_, val, _, _, _, _, h⟩ := hJ hw
    exact h hall

/-! ### The same, with the region's shape asked by Bools -/

def edgeB (ops : Array Oper) (k j : Nat) : Bool := match ops[k]? with
  | some o => o.after.toList.any fun e => Region.binds .any e && e.on == j
  | none => false
def dstB (ops : Array Oper) (j d : Nat) : Bool := match ops[j]? with
  | some o => o.dst == some d
  | none => false
def undstB (ops : Array Oper) (d : Nat) : Bool := ops.toList.all fun o => !(o.dst == some d)
def opAt (ops : Array Oper) (i : Nat) : Op := match ops[i]? with
  | some o => o.op
  | none => .alloc 0

/-- What the walk knows of the operations that are done. -/
structure MixSt (ops : Array Oper) (φ : Nat → (Nat → Value) → Prop) (a0 : Fr) (S : Nat → Bool) (val : Nat → Value) (a : Fr) : Prop where
  closed : ∀ k j, edgeB ops k j = true → S k = true → S j = true
  fact : ∀ j, S j = true → φ j val
  slot : ∀ j d, dstB ops j d = true → S j = true → a d = val j
  old : ∀ d, undstB ops d = true → a d = a0 d

theorem edge_of {ops : Array Oper} {S : Nat → Bool} (hc : Closed ops S) (k j : Nat) (h : edgeB ops k j = true) (hk : S k = true) : S j = true := by
  unfold edgeB at h
  split at h
  · rename_i o ho
    obtain ⟨e, he, h2⟩ := List.any_eq_true.1 h
    simp only [Bool.and_eq_true, beq_iff_eq] at h2
    rw [← h2.2]
    exact hc k o ho hk e (Array.mem_toList_iff.1 he) h2.1
  · cases h

theorem awp_mix' {P : Program} {n : Nat} {Q : Exit → Fr → AW → Prop} {a0 : Fr} {A0 : AW} {id : Nat} {ops : Array Oper} (hm : P.follows .mixedOrders = true) (hB : mixOk ops = true)
    (G : (Nat → Bool) → (Nat → Value) → HP) (φ : Nat → (Nat → Value) → Prop)
    (hG : ∀ (S : Nat → Bool) (i : Nat) (val : Nat → Value) (v : Value), (∀ k j, edgeB ops k j = true → S k = true → S j = true) → S i = false → G S (updV val i v) = G S val)
    (hφ : ∀ (S : Nat → Bool) (i j : Nat) (val : Nat → Value) (v : Value), (∀ k j, edgeB ops k j = true → S k = true → S j = true) → S i = false → S j = true → φ j val → φ j (updV val i v))
    (h0 : ∀ val, Sat A0 (G (fun _ => false) val))
    (hstep : ∀ (i : Nat), i < ops.size → ∀ (S : Nat → Bool) (val : Nat → Value) (a : Fr) (A : AW), S i = false → (∀ j, edgeB ops i j = true → S j = true) → MixSt ops φ a0 S val a → A.Wf → Sat A (G S val) →
      AStep P (opAt ops i) (evF a) A fun v A' => φ i (updV val i v) ∧ Sat A' (G (setL S i) (updV val i v)))
    (hend : ∀ (S : Nat → Bool) (val : Nat → Value) (a : Fr) (A : AW), (∀ i, i < ops.size → S i = true) → MixSt ops φ a0 S val a → A.Wf → Sat A (G S val) → Q .normal a A) :
    AWP P n (.region id ops true) Q a0 A0 := by
  have slots : ∀ {S : Nat → Bool} {val : Nat → Value} {a : Fr}, (∀ (j : Nat) (oj : Oper) (d : Tmp), ops[j]? = some oj → oj.dst = some d → S j = true → a d = val j) → ∀ j d, dstB ops j d = true → S j = true → a d = val j := by
    intro S val a h j d hd hj
    unfold dstB at hd
    split at hd
    · rename_i o ho
      exact h j o d ho (by simpa using hd) hj
    · cases hd
  refine awp_mix hm hB G φ (fun S i val v hc => hG S i val v (edge_of hc)) (fun S i j val v hc => hφ S i j val v (edge_of hc)) h0 ?_ ?_
  · intro i o ho S val a A hi hdep hc hp hw hs hf h0'
    have hop : opAt ops i = o.op := by unfold opAt; rw [ho]
    have hmem : ∀ j, edgeB ops i j = true → S j = true := fun j hj => by
      unfold edgeB at hj
      rw [ho] at hj
      obtain ⟨e, he, h2⟩ := List.any_eq_true.1 hj
      simp only [Bool.and_eq_true, beq_iff_eq] at h2
      rw [← h2.2]
      exact hdep e (Array.mem_toList_iff.1 he) h2.1
    have hlt : i < ops.size := (Array.getElem?_eq_some_iff.1 ho).1
    have key := hstep i hlt S val a A hi hmem ⟨edge_of hc, hp, slots hf, h0'⟩ hw hs
    rw [hop] at key
    exact key
  · intro S val a A hall hp hw hs hf h0'
    refine hend S val a A hall ⟨?_, hp, slots hf, h0'⟩ hw hs
    intro k j h hk
    unfold edgeB at h
    split at h
    · rename_i o ho
      obtain ⟨e, he, h2⟩ := List.any_eq_true.1 h
      simp only [Bool.and_eq_true, beq_iff_eq] at h2
      have hlt := aheadOk_lt (mixOk_spec hB).1 ho (Array.mem_toList_iff.1 he) h2.1
      have hk' := (Array.getElem?_eq_some_iff.1 ho).1
      exact hall j (by omega)
    · cases h

end Go.Stx
