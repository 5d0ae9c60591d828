/-
  The rules of the walk for code within a round of a range over a function.
-/
import Derived.Sort.LoopGhostIn
import Derived.OrdersIn
import Derived.TacticsIn
import Derived.RangeFuncNested
import Derived.RangeFuncLeaves
import Derived.RangeFuncCalls
import Derived.Test.YtkcicllfpdcecaaDoorFbO
namespace Go.Stx
open Go
variable [Gl]
set_option linter.unusedSectionVars false
set_option linter.unusedVariables false

/-- The frames that the walk goes in: a plain one, or that of a round. -/
def frd : Option Nat → Fence
  | none => .wide
  | some l => Fence.wide.inRound l
theorem frd_fn {l : Option Nat} {f : FuncId} : (frd l).fn f := by cases l <;> exact trivial
theorem frd_depth {l : Option Nat} : (frd l).depth.isSome = false := by cases l <;> rfl
theorem frd_sem {l : Option Nat} {o : Oper} {ρ : Operand → Value} (h : ∀ c, o.op ≠ .defer c) : Oper.semAt (frd l).round ρ o = execOp ρ o := by
  cases l with
  | none => exact Oper.semAt_none _ _
  | some l => exact Oper.semAt_some _ _ _ h
theorem frd_calls {l : Option Nat} {k : Nat} {P : Program} {f : FuncId} {args : Array Value} {w : World} {R : Ending → World → Prop} (h : Calls P f args w R) : CallsIn (frd l) k P f args w R := by
  cases l with
  | none => exact callsIn_wide.2 h
  | some l => exact CallsIn.inRound l (callsIn_wide.2 h)

/-- One operation. -/
theorem bwp_of_AStep {l : Option Nat} {fuel : Nat} {P : Program} {m : Mp} {A : AW} {w : World} (hs : Sim m A w) {o : Oper} {n : Nat} {a : Fr} {ca : Act} (hf : FRel m n a ca) (ho : operOk n o = true)
    {k : Value → AW → Prop} (h : AStep P o.op (evF a) A k) {K : Act → World → Prop} {Q : Exit → Act → World → Prop}
    (hK : ∀ v A' m' w' ca', k v A' → Evo m A w m' A' w' → FRel m' n (putF a o.dst v) ca' → K ca' w') : o.wpIn (frd l) fuel P ca w K Q := by
  simp only [operOk, Bool.and_eq_true] at ho
  obtain ⟨ho1, ho2⟩ := ho
  have hd : ∀ i, o.dst = some i → i < n := fun i e => by rw [e] at ho2; simpa using ho2
  have hr : ∀ x ∈ o.op.operands, VRel m (evF a x) (ca.eval x) := fun x hx => hf.eval (Array.all_eq_true_iff_forall_mem.1 ho1 x hx)
  unfold AStep at h
  split at h
  · rename_i v hv
    obtain ⟨v', h1, h2⟩ := aq_sound hs hr hv
    have hnd : ∀ c, o.op ≠ .defer c := fun c e => by rw [e] at hv; simp [aq] at hv
    refine ⟨fun _ _ => frd_fn, ?_⟩
    rw [frd_sem hnd, h2 w (Ext.refl w)]
    exact hK v A m w _ h (Evo.refl hs) (hf.put hd h1)
  · split at h
    · rename_i v A1 hv
      obtain ⟨v', w', m', h1, h2, h3⟩ := ae_sound hs hr hv
      have hnd : ∀ c, o.op ≠ .defer c := fun c e => by rw [e] at hv; simp [ae] at hv
      refine ⟨fun _ _ => frd_fn, ?_⟩
      rw [frd_sem hnd]
      rcases h1 with h1 | ⟨h1, rfl⟩
      · rw [h1]
        exact hK v A1 m' w' _ h h2 ((hf.mono h2.ext).put hd h3)
      · rw [h1]
        exact hK v A1 m' w' _ h h2 ((hf.mono h2.ext).put hd h3)
    · unfold ACallK at h
      split at h
      · rename_i c hc
        split at h
        · rename_i x hx
          split at h
          · rename_i f fs cs hfv
            obtain ⟨hcall, h⟩ := h
            have hxv := hr x (by rw [hc]; simp [Op.operands, Call.operands, hx])
            rw [hfv] at hxv
            generalize hg : ca.eval x = x' at hxv
            cases hxv with
            | func _ hx1 hx2 hx3 hx4 =>
              rename_i fs' cs'
              have hrun : (execOp ca.eval o).run P w = .ok (.enter f (fs' ++ c.args.map ca.eval ++ cs')) w := by
                obtain ⟨dst, op, ty, pos, after, guard⟩ := o
                simp only at hc
                subst hc
                obtain ⟨callee, args, argTypes⟩ := c
                simp only at hx
                subst hx
                simp only [execOp, resolve, hg, Deferred.ofValue, invoke, Sem.run_bind, Sem.run_pure, Result.andThen_ok, run_callFunc hcall]
              have hnd : ∀ d, o.op ≠ .defer d := fun d e => by rw [e] at hc; cases hc
              refine ⟨fun _ _ => frd_fn, ?_⟩
              rw [frd_sem hnd, hrun, Oper.uponIn_enter]
              refine ⟨fun h => (by rw [frd_depth] at h; cases h), ?_⟩
              have hargs : LRel m (fs.toList ++ c.args.toList.map (evF a) ++ cs.toList) (fs' ++ c.args.map ca.eval ++ cs').toList := by
                simp only [Array.toList_append, Array.toList_map]
                refine (LRel.append (LRel.append ⟨by simpa using hx1, fun i v v' h1 h2 => hx3 i v v' (by simpa using h1) (by simpa using h2)⟩ ⟨by simp, fun i v v' h1 h2 => ?_⟩) ⟨by simpa using hx2, fun i v v' h1 h2 => hx4 i v v' (by simpa using h1) (by simpa using h2)⟩)
                simp only [List.getElem?_map, Option.map_eq_some_iff] at h1 h2
                obtain ⟨q, h3, rfl⟩ := h1
                obtain ⟨q', h4, rfl⟩ := h2
                rw [h3] at h4
                injection h4 with h4
                subst h4
                refine hr q ?_
                rw [hc]
                simp only [Op.operands, Call.operands, Array.mem_append]
                exact .inr (Array.mem_toList_iff.1 (List.mem_of_getElem? h3))
              refine (frd_calls (h m w _ hs hargs)).mono ?_
              rintro e w' ⟨v, v', m', A', rfl, ev, hv, hk⟩
              exact hK v A' m' w' _ hk ev ((hf.mono ev.ext).put hd hv)
          · exact h.elim
        · exact h.elim
      · exact h.elim

theorem bwpList_of_AOps {l0 : Option Nat} {fuel : Nat} {P : Program} {ops : Array Oper} {n : Nat} (hops : ops.all (operOk n) = true) {K : Fr → AW → Prop} {Q : Exit → Act → World → Prop} : ∀ (l : List Oper) (a : Fr) (A : AW) (m : Mp) (w : World) (ca : Act),
    (∀ o ∈ l, operOk n o = true) → AOps P ops K l a A → Sim m A w → FRel m n a ca →
    (∀ a' A' m' w' ca', K a' A' → Evo m A w m' A' w' → FRel m' n a' ca' → Q .normal ca' w') → wpListIn (frd l0) fuel P ops Q l ca w
  | [], a, A, m, w, ca, _, h, hs, hf, hK => hK a A m w ca h (Evo.refl hs) hf
  | o :: rest, a, A, m, w, ca, hl, h, hs, hf, hK => by
    unfold AOps at h
    unfold wpListIn
    rw [gval_conc hf hops o]
    split at h
    · rename_i hg
      rw [if_pos hg]
      refine (bwp_of_AStep hs hf (hl o (by simp)) h ?_)
      intro v A' m' w' ca' hk ev hf'
      exact bwpList_of_AOps hops rest _ _ m' w' ca' (fun x hx => hl x (by simp [hx])) hk ev.sim hf' (fun a2 A2 m2 w2 ca2 h1 h2 h3 => hK a2 A2 m2 w2 ca2 h1 (ev.trans h2) h3)
    · rename_i hg
      rw [if_neg hg]
      have ho := hl o (by simp)
      simp only [operOk, Bool.and_eq_true] at ho
      have hd : ∀ i, o.dst = some i → i < n := fun i e => by have := ho.2; rw [e] at this; simpa using this
      refine ⟨fun _ _ => frd_fn, ?_⟩
      exact bwpList_of_AOps hops rest _ _ m w _ (fun x hx => hl x (by simp [hx])) h hs (hf.put hd (VRel.undef m)) hK


/-- The front of a region's list. -/
theorem bwpList_front {l0 : Option Nat} {fuel : Nat} {P : Program} {ops : Array Oper} {n : Nat} (hops : ops.all (operOk n) = true) {K : Fr → AW → Prop} {Q : Exit → Act → World → Prop} {l2 : List Oper} : ∀ (l : List Oper) (a : Fr) (A : AW) (m : Mp) (w : World) (ca : Act),
    (∀ o ∈ l, operOk n o = true) → AOps P ops K l a A → Sim m A w → FRel m n a ca →
    (∀ a' A' m' w' ca', K a' A' → Evo m A w m' A' w' → FRel m' n a' ca' → wpListIn (frd l0) fuel P ops Q l2 ca' w') → wpListIn (frd l0) fuel P ops Q (l ++ l2) ca w
  | [], a, A, m, w, ca, _, h, hs, hf, hK => hK a A m w ca h (Evo.refl hs) hf
  | o :: rest, a, A, m, w, ca, hl, h, hs, hf, hK => by
    unfold AOps at h
    rw [List.cons_append]
    unfold wpListIn
    rw [gval_conc hf hops o]
    split at h
    · rename_i hg
      rw [if_pos hg]
      refine (bwp_of_AStep hs hf (hl o (by simp)) h ?_)
      intro v A' m' w' ca' hk ev hf'
      exact bwpList_front hops rest _ _ m' w' ca' (fun x hx => hl x (by simp [hx])) hk ev.sim hf' (fun a2 A2 m2 w2 ca2 h1 h2 h3 => hK a2 A2 m2 w2 ca2 h1 (ev.trans h2) h3)
    · rename_i hg
      rw [if_neg hg]
      have ho := hl o (by simp)
      simp only [operOk, Bool.and_eq_true] at ho
      have hd : ∀ i, o.dst = some i → i < n := fun i e => by have := ho.2; rw [e] at this; simpa using this
      refine ⟨fun _ _ => frd_fn, ?_⟩
      exact bwpList_front hops rest _ _ m w _ (fun x hx => hl x (by simp [hx])) h hs (hf.put hd (VRel.undef m)) hK

def BWP (l : Option Nat) (P : Program) (n : Nat) (c : Code) (Q : Exit → Fr → AW → Prop) (a : Fr) (A : AW) : Prop :=
  codeOk n c = true → ∀ (fuel : Nat) (m : Mp) (w : World) (ca : Act), Sim m A w → FRel m n a ca →
    c.wpIn (frd l) fuel P (fun e ca' w' => ∃ m' a' A', Evo m A w m' A' w' ∧ FRel m' n a' ca' ∧ Q e a' A') ca w

section
variable {l : Option Nat} {P : Program} {n : Nat} {Q : Exit → Fr → AW → Prop} {a : Fr} {A : AW}

theorem bwp_mono {c : Code} {Q' : Exit → Fr → AW → Prop} (h : BWP l P n c Q a A) (hq : ∀ e a A, Q e a A → Q' e a A) : BWP l P n c Q' a A :=
  fun hok fuel m w ca hs hf => wpIn_mono (h hok fuel m w ca hs hf) fun e ca' w' ⟨m', a', A', h1, h2, h3⟩ => ⟨m', a', A', h1, h2, hq _ _ _ h3⟩

theorem bwp_region {id : Nat} {ops : Array Oper} (h : AOps P ops (Q .normal) ops.toList a A) : BWP l P n (.region id ops false) Q a A := by
  intro hok fuel m w ca hs hf
  have hops : ops.all (operOk n) = true := hok
  refine wpIn_region_list (bwpList_of_AOps hops _ _ _ m w ca (fun o ho => Array.all_eq_true_iff_forall_mem.1 hops o (Array.mem_toList_iff.1 ho)) h hs hf ?_)
  intro a' A' m' w' ca' hk ev hf'
  exact ⟨m', a', A', ev, hf', hk⟩

theorem bwp_skip (h : Q .normal a A) : BWP l P n .skip Q a A := fun _ fuel m w ca hs hf => wpIn_skip ⟨m, a, A, Evo.refl hs, hf, h⟩
theorem bwp_exit {id : Nat} (h : Q (.exit id) a A) : BWP l P n (.exit id) Q a A := fun _ fuel m w ca hs hf => wpIn_exit ⟨m, a, A, Evo.refl hs, hf, h⟩
theorem bwp_ret (h : Q .ret a A) : BWP l P n .ret Q a A := fun _ fuel m w ca hs hf => wpIn_ret ⟨m, a, A, Evo.refl hs, hf, h⟩

theorem bwp_seq {x y : Code} (h : BWP l P n x (AThen (BWP l P n y Q) Q) a A) : BWP l P n (.seq x y) Q a A := by
  intro hok fuel m w ca hs hf
  simp only [codeOk, Bool.and_eq_true] at hok
  refine wpIn_seq (wpIn_mono (h hok.1 fuel m w ca hs hf) ?_)
  rintro e ca' w' ⟨m', a', A', ev, hf', hq⟩
  cases e with
  | normal =>
    refine wpIn_mono (hq hok.2 fuel m' w' ca' ev.sim hf') ?_
    rintro e ca2 w2 ⟨m2, a2, A2, ev2, hf2, hq2⟩
    exact ⟨m2, a2, A2, ev.trans ev2, hf2, hq2⟩
  | exit id => exact ⟨m', a', A', ev, hf', hq⟩
  | goto l => exact ⟨m', a', A', ev, hf', hq⟩
  | ret => exact ⟨m', a', A', ev, hf', hq⟩
  | panic ch => exact ⟨m', a', A', ev, hf', hq⟩
  | outgrown => exact ⟨m', a', A', ev, hf', hq⟩

/-- The rest of the code behind a name. -/
theorem bwp_seq_k {x y : Code} (h : ∀ K : Fr → AW → Prop, (∀ a A, BWP l P n y Q a A → K a A) → BWP l P n x (AThen K Q) a A) : BWP l P n (.seq x y) Q a A :=
  bwp_seq (h _ fun _ _ h => h)

theorem bwp_cond {c : Operand} {x y : Code} {b : Bool} (hc : evF a c = .bool b) (h1 : b = true → BWP l P n x Q a A) (h2 : b = false → BWP l P n y Q a A) : BWP l P n (.cond c x y) Q a A := by
  intro hok fuel m w ca hs hf
  simp only [codeOk, Bool.and_eq_true] at hok
  have hv := hf.eval hok.1.1
  rw [hc] at hv
  generalize hg : ca.eval c = x' at hv
  cases hv
  exact wpIn_cond_split hg (fun e => h1 e hok.1.2 fuel m w ca hs hf) (fun e => h2 e hok.2 fuel m w ca hs hf)

theorem bwp_block {id : Nat} {c : Code} (h : BWP l P n c (ABlock id Q) a A) : BWP l P n (.block id c) Q a A := by
  intro hok fuel m w ca hs hf
  refine wpIn_block (wpIn_mono (h hok fuel m w ca hs hf) ?_)
  rintro e ca' w' ⟨m', a', A', ev, hf', hq⟩
  cases e with
  | exit id' =>
    simp only [Exit.inBlock]
    simp only [ABlock] at hq
    split
    · rename_i e; rw [if_pos e] at hq; exact ⟨m', a', A', ev, hf', hq⟩
    · rename_i e; rw [if_neg e] at hq; exact ⟨m', a', A', ev, hf', hq⟩
  | normal => exact ⟨m', a', A', ev, hf', hq⟩
  | goto l => exact ⟨m', a', A', ev, hf', hq⟩
  | ret => exact ⟨m', a', A', ev, hf', hq⟩
  | panic ch => exact ⟨m', a', A', ev, hf', hq⟩
  | outgrown => exact ⟨m', a', A', ev, hf', hq⟩

/-- A loop: an invariant that bears a number, which every round lowers. -/
theorem bwp_loop {c : Code} (I : Nat → Fr → AW → Prop) (n₀ : Nat) (h₀ : I n₀ a A)
    (round : ∀ k a A, I k a A → BWP l P n c (AThen (fun a' A' => ∃ k', k' < k ∧ I k' a' A') Q) a A) : BWP l P n (.loop c) Q a A := by
  intro hok fuel m w ca hs hf
  refine wpIn_loop_ghost (fun k ca' w' => ∃ m' a' A', Evo m A w m' A' w' ∧ FRel m' n a' ca' ∧ I k a' A') n₀ ⟨m, a, A, Evo.refl hs, hf, h₀⟩ ?_
  rintro k ca' w' ⟨m', a', A', ev, hf', hI⟩
  refine wpIn_mono (round k a' A' hI hok fuel m' w' ca' ev.sim hf') ?_
  rintro e ca2 w2 ⟨m2, a2, A2, ev2, hf2, hq⟩
  cases e with
  | normal =>
    obtain ⟨k', hlt, hI'⟩ := hq
    exact ⟨k', hlt, m2, a2, A2, ev.trans ev2, hf2, hI'⟩
  | exit id => exact ⟨m2, a2, A2, ev.trans ev2, hf2, hq⟩
  | goto l => exact ⟨m2, a2, A2, ev.trans ev2, hf2, hq⟩
  | ret => exact ⟨m2, a2, A2, ev.trans ev2, hf2, hq⟩
  | panic ch => exact ⟨m2, a2, A2, ev.trans ev2, hf2, hq⟩
  | outgrown => exact ⟨m2, a2, A2, ev.trans ev2, hf2, hq⟩

end

theorem bwp_any {l : Option Nat} {P : Program} {n : Nat} {Q : Exit → Fr → AW → Prop} {a : Fr} {A : AW} {id : Nat} {ops : Array Oper} (hm : P.follows .mixedOrders = true) (hah : aheadOk ops = true)
    (J : (Nat → Bool) → Fr → AW → Prop) (h0 : J (fun _ => false) a A)
    (hstep : ∀ S a A i o, A.Wf → J S a A → ops[i]? = some o → S i = false → (∀ e ∈ o.after, Region.binds .any e = true → S e.on = true) → AOp1 P ops o a A (J fun j => if j = i then true else S j))
    (hend : ∀ S a A, A.Wf → J S a A → (∀ i, i < ops.size → S i = true) → Q .normal a A) : BWP l P n (.region id ops true) Q a A := by
  intro hok fuel0 m w ca hs hf
  have hops : ops.all (operOk n) = true := hok
  refine wpIn_region_any hm ?_
  have key : ∀ (fuel : Nat) (listed : Array Bool) (S : Nat → Bool) (a' : Fr) (A' : AW) (m' : Mp) (w' : World) (ca' : Act), listed.size = ops.size → (∀ i, i < ops.size → listed.getD i false = S i) →
      (List.range ops.size).countP (fun i => !S i) ≤ fuel → J S a' A' → Evo m A w m' A' w' → FRel m' n a' ca' →
      wpAnyIn (frd l) fuel0 P .any ops (fun e ca' w' => ∃ m' a' A', Evo m A w m' A' w' ∧ FRel m' n a' ca' ∧ Q e a' A') fuel listed ca' w' := by
    intro fuel
    induction fuel with
    | zero =>
      intro listed S a' A' m' w' ca' hsz hS hcnt hJ hev hfr
      have hall : ∀ i, i < ops.size → S i = true := by
        intro i hi
        have := List.countP_eq_zero.1 (Nat.le_zero.1 hcnt) i (List.mem_range.2 hi)
        simpa using this
      refine ⟨?_, m', a', A', hev, hfr, hend S a' A' hev.sim.low hJ hall⟩
      rw [List.eq_nil_iff_forall_not_mem]
      intro i hi
      obtain ⟨o, ho, hl, _⟩ := ready_iff hi
      have hi' := (Array.getElem?_eq_some_iff.1 ho).1
      have := hS i hi'
      rw [hall i hi'] at this
      rw [Array.getD_eq_getD_getElem?, Array.getElem?_eq_getElem (by omega)] at this hl
      simp only [Option.getD_some] at this hl
      rw [this] at hl
      cases hl
    | succ fuel ih =>
      intro listed S a' A' m' w' ca' hsz hS hcnt hJ hev hfr
      refine ⟨fun hr => ⟨m', a', A', hev, hfr, hend S a' A' hev.sim.low hJ fun i hi => ?_⟩, fun i hi => ?_⟩
      · rw [← hS i hi]
        exact all_listed hah hsz hr (i + 1) i (by omega) hi
      · obtain ⟨o, ho, hl, hdep⟩ := ready_iff hi
        have hi' := (Array.getElem?_eq_some_iff.1 ho).1
        have hSi : S i = false := by
          rw [← hS i hi']
          rw [Array.getD_eq_getD_getElem?, Array.getElem?_eq_getElem (by omega)] at hl ⊢
          simpa using hl
        have hdep' : ∀ e ∈ o.after, Region.binds .any e = true → S e.on = true := by
          intro e he hb
          have h1 := hdep e he hb
          have hlt := aheadOk_lt hah ho he hb
          rw [← hS e.on (by omega)]
          exact h1
        have hst := hstep S a' A' i o hev.sim.low hJ ho hSi hdep'
        have hoo := Array.all_eq_true_iff_forall_mem.1 hops o (Array.mem_of_getElem? ho)
        have hcnt' : (List.range ops.size).countP (fun j => !(if j = i then true else S j)) ≤ fuel := by
          have e1 : (List.range ops.size).countP (fun j => !(if j = i then true else S j)) + 1 ≤ (List.range ops.size).countP (fun j => !S j) := by
            have hmem : i ∈ List.range ops.size := List.mem_range.2 hi'
            have key2 : ∀ l : List Nat, i ∈ l → l.countP (fun j => !(if j = i then true else S j)) + 1 ≤ l.countP (fun j => !S j) := by
              intro l
              have mono : ∀ l : List Nat, l.countP (fun j => !(if j = i then true else S j)) ≤ l.countP (fun j => !S j) := fun l => by
                refine List.countP_mono_left fun x _ hx => ?_
                by_cases e : x = i
                · simp [e] at hx
                · simpa [e] using hx
              induction l with
              | nil => intro h; cases h
              | cons x l ihl =>
                intro hx
                rw [List.countP_cons, List.countP_cons]
                by_cases e : x = i
                · subst e
                  have := mono l
                  simp [hSi]
                  simpa using this
                · have hx' : i ∈ l := by
                    rcases List.mem_cons.1 hx with h | h
                    · exact absurd h.symm e
                    · exact h
                  have := ihl hx'
                  simp only [e, if_false]
                  omega
            exact key2 _ hmem
          omega
        have hS' : ∀ j, j < ops.size → (listed.setIfInBounds i true).getD j false = if j = i then true else S j := by
          intro j hj
          by_cases e : j = i
          · subst e
            rw [if_pos rfl, Array.getD_eq_getD_getElem?, Array.getElem?_setIfInBounds_self_of_lt (by omega)]
            rfl
          · rw [if_neg e, ← hS j hj, Array.getD_eq_getD_getElem?, Array.getD_eq_getD_getElem?, Array.getElem?_setIfInBounds_ne (by omega)]
        unfold AOp1 at hst
        unfold wpOpIn
        rw [ho]
        simp only
        rw [gval_conc hfr hops o]
        split at hst
        · rename_i hg
          rw [if_pos hg]
          refine (bwp_of_AStep hev.sim hfr hoo hst ?_)
          intro v A2 m2 w2 ca2 hk ev2 hf2
          exact ih _ _ _ A2 m2 w2 ca2 (by simpa using hsz) hS' hcnt' hk (hev.trans ev2) hf2
        · rename_i hg
          rw [if_neg hg]
          simp only [operOk, Bool.and_eq_true] at hoo
          refine ⟨fun _ _ => frd_fn, ?_⟩
          have hd : ∀ j, o.dst = some j → j < n := fun j e => by have := hoo.2; rw [e] at this; simpa using this
          exact ih _ _ _ A' m' w' _ (by simpa using hsz) hS' hcnt' hst hev (hfr.put hd (VRel.undef m'))
  refine key ops.size _ (fun _ => false) a A m { w with drawn := w.drawn + 1 } ca (by simp) (fun i hi => by simp [Array.getD_eq_getD_getElem?, hi]) ?_ h0 (Evo.drew hs) hf
  exact Nat.le_trans (List.countP_le_length) (by simp)

section
variable {P : Program} {ops : Array Oper} {S : AW → Prop} {md : Nat → Nat} {K : Fr → AW → Prop} {anc : List Nat}
theorem bwp_of_aany {l : Option Nat} {n : Nat} {Q : Exit → Fr → AW → Prop} {a : Fr} {A : AW} {id : Nat} (hm : P.follows .mixedOrders = true) (hah : aheadOk ops = true) {k : Nat}
    (h : AAny P ops S md (Q .normal) k (fun _ => false) a A) : BWP l P n (.region id ops true) Q a A := by
  refine bwp_any hm hah (fun L a A => ∃ k, AAny P ops S md (Q .normal) k L a A) ⟨k, h⟩ ?_ ?_
  · rintro L a A i o hw ⟨k, hk⟩ ho hL hdep
    cases k with
    | zero =>
      have := hk.1 i (Array.getElem?_eq_some_iff.1 ho).1
      rw [hL] at this
      cases this
    | succ k =>
      have := (hk.2 hw i o ho ⟨hL, hdep⟩).aop1
      unfold AOp1 at this ⊢
      split
      · rename_i hg
        rw [if_pos hg] at this
        exact this.mono fun v A' hh => ⟨k, hh⟩
      · rename_i hg
        rw [if_neg hg] at this
        exact ⟨k, this⟩
  · rintro L a A _ ⟨k, hk⟩ hall
    cases k with
    | zero => exact hk.2
    | succ k => exact hk.1 hall
end

section
variable {l : Option Nat} {P : Program} {n : Nat} {Q : Exit → Fr → AW → Prop} {a : Fr} {A : AW} {id : Nat}
theorem bwn {ops : Array Oper} (h : ∀ K : Fr → AW → Prop, (∀ a A, Q .normal a A → K a A) → LWalk P (fun _ => True) K (nops ops) a A) : BWP l P n (.region id ops false) Q a A :=
  bwp_region (lwalk_of_aops _ _ _ (h _ fun _ _ h => h))
theorem bwlS {ops : Array Oper} (S : AW → Prop) (hm : P.follows .mixedOrders = true) (ord : List (Nat × Nat)) (hB : linB ops ord = true)
    (h : ∀ K : Fr → AW → Prop, (∀ a A, Q .normal a A → K a A) → LWalk P S K (lops ops ord) a A) : BWP l P n (.region id ops true) Q a A := by
  simp only [linB, Bool.and_eq_true] at hB
  exact bwp_of_aany hm hB.1 (aany_of_walk hB.1 hB.2.1 ord 0 _ a A (fun j _ => by simp) (fun k o _ hk => by cases hk) hB.2.2.1 (h _ fun _ _ h => h))
theorem bwl {ops : Array Oper} (hm : P.follows .mixedOrders = true) (ord : List (Nat × Nat)) (hB : linB ops ord = true)
    (h : ∀ K : Fr → AW → Prop, (∀ a A, Q .normal a A → K a A) → LWalk P (fun _ => True) K (lops ops ord) a A) : BWP l P n (.region id ops true) Q a A := bwlS _ hm ord hB h
theorem bwb {c : Code} (h : BWP l P n c (ABlock id Q) a A) : BWP l P n (.block id c) Q a A := bwp_block h
theorem bwq {x y : Code} (h : BWP l P n x (AThen (BWP l P n y Q) Q) a A) : BWP l P n (.seq x y) Q a A := bwp_seq h
theorem bwr (h : Q .ret a A) : BWP l P n .ret Q a A := bwp_ret h
theorem bwk (h : Q .normal a A) : BWP l P n .skip Q a A := bwp_skip h
theorem bwe (h : Q (.exit id) a A) : BWP l P n (.exit id) Q a A := bwp_exit h
theorem bwc {c : Operand} {x y : Code} {b : Bool} (hc : evF a c = .bool b) (h1 : b = true → BWP l P n x Q a A) (h2 : b = false → BWP l P n y Q a A) :
    BWP l P n (.cond c x y) Q a A := bwp_cond hc h1 h2
end
end Go.Stx
