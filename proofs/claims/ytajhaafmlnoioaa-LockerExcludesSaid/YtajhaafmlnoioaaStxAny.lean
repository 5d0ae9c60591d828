/-
  Regions that draw their order and whose operations may make and write memory: an invariant over the set of operations that are done.
-/
import Derived.Test.YtajhaafmlnoioaaStxSimp
import Derived.Orders
namespace Go.Stx
open Go
set_option linter.unusedVariables false

/-- Every edge that binds points to an operation ahead in the text. -/
def aheadOk (ops : Array Oper) : Bool := (List.range ops.size).all fun i => match ops[i]? with
  | some o => o.after.toList.all fun e => !Region.binds .any e || Nat.ble (e.on + 1) i
  | none => true

theorem aheadOk_lt {ops : Array Oper} (hah : aheadOk ops = true) {i : Nat} {o : Oper} (ho : ops[i]? = some o) {e : Edge} (he : e ∈ o.after) (hb : Region.binds .any e = true) : e.on < i := by
  have ha := List.all_eq_true.1 hah i (List.mem_range.2 (Array.getElem?_eq_some_iff.1 ho).1)
  rw [ho] at ha
  have h2 := List.all_eq_true.1 ha e (Array.mem_toList_iff.2 he)
  rw [hb] at h2
  have h3 : e.on + 1 ≤ i := by simpa [Nat.ble_eq] using h2
  omega

/-- One operation of such a region. -/
def AOp1 (P : Program) (ops : Array Oper) (o : Oper) (a : Fr) (A : AW) (k : Fr → AW → Prop) : Prop :=
  if gval ops a o = true then AStep P o.op (evF a) A (fun v A' => k (putF a o.dst v) A') else k (putF a o.dst undef) A

theorem ready_iff {md : Region.Mode} {ops : Array Oper} {listed : Array Bool} {i : Nat} (h : i ∈ Region.ready md ops listed) :
    ∃ o, ops[i]? = some o ∧ listed.getD i true = false ∧ ∀ e ∈ o.after, Region.binds md e = true → listed.getD e.on false = true := by
  simp only [Region.ready, List.mem_filter, List.mem_range, Bool.and_eq_true, Bool.not_eq_true'] at h
  obtain ⟨hi, h1, h2⟩ := h
  refine ⟨ops[i], Array.getElem?_eq_getElem hi, h1, fun e he hb => ?_⟩
  rw [Array.getElem?_eq_getElem hi] at h2
  simp only [Option.map_some, Option.getD_some] at h2
  have := Array.all_eq_true_iff_forall_mem.1 h2 e he
  simpa [hb] using this

theorem all_listed {ops : Array Oper} (hah : aheadOk ops = true) {listed : Array Bool} (hsz : listed.size = ops.size) (hr : Region.ready .any ops listed = []) :
    ∀ n i, i < n → i < ops.size → listed.getD i false = true
  | 0, i, h, _ => by omega
  | n + 1, i, h, hi => by
    by_cases hin : i < n
    · exact all_listed hah hsz hr n i hin hi
    · by_cases hl : listed.getD i false = true
      · exact hl
      · exfalso
        have hil : i < listed.size := by omega
        have hmem : i ∈ Region.ready .any ops listed := by
          simp only [Region.ready, List.mem_filter, List.mem_range, Bool.and_eq_true, Bool.not_eq_true']
          refine ⟨hi, ?_, ?_⟩
          · rw [Array.getD_eq_getD_getElem?, Array.getElem?_eq_getElem hil] at hl ⊢
            simpa using hl
          · rw [Array.getElem?_eq_getElem hi]
            simp only [Option.map_some, Option.getD_some]
            refine Array.all_eq_true_iff_forall_mem.2 fun e he => ?_
            cases hb : Region.binds .any e with
            | false => simp
            | true =>
              have hlt := aheadOk_lt hah (Array.getElem?_eq_getElem hi) he hb
              have := all_listed hah hsz hr n e.on (by omega) (by omega)
              simp [this]
        rw [hr] at hmem
        cases hmem

/-- The rule. J S a A: what holds where the operations of S are done. -/
theorem awp_any {P : Program} {n : Nat} {Q : Exit → Fr → AW → Prop} {a : Fr} {A : AW} {id : Nat} {ops : Array Oper} (hm : P.follows .mixedOrders = true) (hah : aheadOk ops = true)
    (J : (Nat → Bool) → Fr → AW → Prop) (h0 : J (fun _ => false) a A)
    (hstep : ∀ S a A i o, A.Wf → J S a A → ops[i]? = some o → S i = false → (∀ e ∈ o.after, Region.binds .any e = true → S e.on = true) → AOp1 P ops o a A (J fun j => if j = i then true else S j))
    (hend : ∀ S a A, A.Wf → J S a A → (∀ i, i < ops.size → S i = true) → Q .normal a A) : AWP P n (.region id ops true) Q a A := by
  intro hok m w ca hs hf
  have hops : ops.all (operOk n) = true := hok
  refine wp_region_any hm ?_
  have key : ∀ (fuel : Nat) (listed : Array Bool) (S : Nat → Bool) (a' : Fr) (A' : AW) (m' : Mp) (w' : World) (ca' : Act), listed.size = ops.size → (∀ i, i < ops.size → listed.getD i false = S i) →
      (List.range ops.size).countP (fun i => !S i) ≤ fuel → J S a' A' → Evo m A w m' A' w' → FRel m' n a' ca' →
      wpAny P .any ops (fun e ca' w' => ∃ m' a' A', Evo m A w m' A' w' ∧ FRel m' n a' ca' ∧ Q e a' A') fuel listed ca' w' := by
    intro fuel
    induction fuel with
    | zero =>
      intro listed S a' A' m' w' ca' hsz hS hcnt hJ hev hfr
      have hall : ∀ i, i < ops.size → S i = true := by
        intro i hi
        have := List.countP_eq_zero.1 (Nat.le_zero.1 hcnt) i (List.mem_range.2 hi)
        simpa using this
      refine ⟨?_, m', a', A', hev, hfr, hend S a' A' hev.sim.low hJ hall⟩
      rw [List.eq_nil_iff_forall_not_mem]
      intro i hi
      obtain ⟨o, ho, hl, _⟩ := ready_iff hi
      have hi' := (Array.getElem?_eq_some_iff.1 ho).1
      have := hS i hi'
      rw [hall i hi'] at this
      rw [Array.getD_eq_getD_getElem?, Array.getElem?_eq_getElem (by omega)] at this hl
      simp only [Option.getD_some] at this hl
      rw [this] at hl
      cases hl
    | succ fuel ih =>
      intro listed S a' A' m' w' ca' hsz hS hcnt hJ hev hfr
      refine ⟨fun hr => ⟨m', a', A', hev, hfr, hend S a' A' hev.sim.low hJ fun i hi => ?_⟩, fun i hi => ?_⟩
      · rw [← hS i hi]
        exact all_listed hah hsz hr (i + 1) i (by omega) hi
      · obtain ⟨o, ho, hl, hdep⟩ := ready_iff hi
        have hi' := (Array.getElem?_eq_some_iff.1 ho).1
        have hSi : S i = false := by
          rw [← hS i hi']
          rw [Array.getD_eq_getD_getElem?, Array.getElem?_eq_getElem (by omega)] at hl ⊢
          simpa using hl
        have hdep' : ∀ e ∈ o.after, Region.binds .any e = true → S e.on = true := by
          intro e he hb
          have h1 := hdep e he hb
          have hlt := aheadOk_lt hah ho he hb
          rw [← hS e.on (by omega)]
          exact h1
        have hst := hstep S a' A' i o hev.sim.low hJ ho hSi hdep'
        have hoo := Array.all_eq_true_iff_forall_mem.1 hops o (Array.mem_of_getElem? ho)
        have hcnt' : (List.range ops.size).countP (fun j => !(if j = i then true else S j)) ≤ fuel := by
          have e1 : (List.range ops.size).countP (fun j => !(if j = i then true else S j)) + 1 ≤ (List.range ops.size).countP (fun j => !S j) := by
            have hmem : i ∈ List.range ops.size := List.mem_range.2 hi'
            have key2 : ∀ l : List Nat, i ∈ l → l.countP (fun j => !(if j = i then true else S j)) + 1 ≤ l.countP (fun j => !S j) := by
              intro l
              have mono : ∀ l : List Nat, l.countP (fun j => !(if j = i then true else S j)) ≤ l.countP (fun j => !S j) := fun l => by
                refine List.countP_mono_left fun x _ hx => ?_
                by_cases e : x = i
                · simp [e] at hx
                · simpa [e] using hx
              induction l with
              | nil => intro h; cases h
              | cons x l ihl =>
                intro hx
                rw [List.countP_cons, List.countP_cons]
                by_cases e : x = i
                · subst e
                  have := mono l
                  simp [hSi]
                  simpa using this
                · have hx' : i ∈ l := by
                    rcases List.mem_cons.1 hx with h | h
                    · exact absurd h.symm e
                    · exact h
                  have := ihl hx'
                  simp only [e, if_false]
                  omega
            exact key2 _ hmem
          omega
        have hS' : ∀ j, j < ops.size → (listed.setIfInBounds i true).getD j false = if j = i then true else S j := by
          intro j hj
          by_cases e : j = i
          · subst e
            rw [if_pos rfl, Array.getD_eq_getD_getElem?, Array.getElem?_setIfInBounds_self_of_lt (by omega)]
            rfl
          · rw [if_neg e, ← hS j hj, Array.getD_eq_getD_getElem?, Array.getD_eq_getD_getElem?, Array.getElem?_setIfInBounds_ne (by omega)]
        unfold AOp1 at hst
        unfold wpOp
        rw [ho]
        simp only
        rw [gval_conc hfr hops o]
        split at hst
        · rename_i hg
          rw [if_pos hg]
          refine .inl (wp_of_AStep hev.sim hfr hoo hst ?_)
          intro v A2 m2 w2 ca2 hk ev2 hf2
          exact ih _ _ _ A2 m2 w2 ca2 (by simpa using hsz) hS' hcnt' hk (hev.trans ev2) hf2
        · rename_i hg
          rw [if_neg hg]
          simp only [operOk, Bool.and_eq_true] at hoo
          have hd : ∀ j, o.dst = some j → j < n := fun j e => by have := hoo.2; rw [e] at this; simpa using this
          exact ih _ _ _ A' m' w' _ (by simpa using hsz) hS' hcnt' hst hev (hfr.put hd (VRel.undef m'))
  refine key ops.size _ (fun _ => false) a A m { w with drawn := w.drawn + 1 } ca (by simp) (fun i hi => by simp [Array.getD_eq_getD_getElem?, hi]) ?_ h0 (Evo.drew hs) hf
  exact Nat.le_trans (List.countP_le_length) (by simp)

end Go.Stx
