/-
  Regions that draw their order and whose operations leave the memory that we know alone: one walk in the order of the text serves every order.
-/
import Derived.Test.YtajhaafmlnoioaaStxWp
import Derived.Deep.Quiet
namespace Go.Stx
open Go
set_option linter.unusedVariables false

def AObj.ro : AObj → AObj
  | .cells cs _ u => .cells cs false u
  | .map es _ => .map es false

theorem AObj.ro_own (o : AObj) : o.ro.own = false := by cases o <;> rfl

theorem OMatch.ro {m : Mp} {w : World} {p : Pl} {o : AObj} (h : OMatch m w p o) : OMatch m w p o.ro := by
  cases o with
  | cells cs own u =>
    obtain ⟨cur, e, fr, h2, h3, h4⟩ := h
    exact ⟨cur, e, fr, h2, fun h => (by cases h), h4⟩
  | map es own => exact h

/-- The same memory, nothing of it ours. -/
def AW.ro (A : AW) : AW := { A with get := fun i => (A.get i).map AObj.ro }

theorem AW.ro_get {A : AW} {i : Nat} {cs : List Value} {own : Bool} {u : Nat} (h : A.get i = some (.cells cs own u)) : A.ro.get i = some (.cells cs false u) := by simp [AW.ro, h, AObj.ro]
theorem AW.ro_get_map {A : AW} {i : Nat} {es : List (Value × Value)} {own : Bool} (h : A.get i = some (.map es own)) : A.ro.get i = some (.map es false) := by simp [AW.ro, h, AObj.ro]

theorem AW.ro_inv {A : AW} {i : Nat} {o : AObj} (h : A.ro.get i = some o) : ∃ o', A.get i = some o' ∧ o = o'.ro := by
  simp only [AW.ro, Option.map_eq_some_iff] at h
  obtain ⟨o', h1, h2⟩ := h
  exact ⟨o', h1, h2.symm⟩

theorem Sim.ro {m : Mp} {A : AW} {w : World} (hs : Sim m A w) : Sim m A.ro w := by
  refine ⟨fun i o hi => ?_, fun i j o o' p p' hi ho => ?_, hs.fresh, fun i hi => ?_⟩
  · obtain ⟨o', hg, rfl⟩ := AW.ro_inv hi
    obtain ⟨p, h1, h2⟩ := hs.obj _ _ hg
    exact ⟨p, h1, h2.ro⟩
  · obtain ⟨o', hg, rfl⟩ := AW.ro_inv hi
    rw [AObj.ro_own] at ho
    cases ho
  · simp [AW.ro, hs.low i hi]

/-- Nothing that was there has turned. -/
structure Kept (w w' : World) : Prop where
  ext : Ext w w'
  os : w'.os = w.os
  tape : w'.tape = w.tape
  output : w'.output = w.output
  size : w.heap.size ≤ w'.heap.size

theorem Kept.refl (w : World) : Kept w w := ⟨Ext.refl w, rfl, rfl, rfl, Nat.le_refl _⟩
theorem Kept.trans {a b c : World} (h : Kept a b) (k : Kept b c) : Kept a c :=
  ⟨fun i hi => (k.ext i (Nat.lt_of_lt_of_le hi h.size)).trans (h.ext i hi), k.os.trans h.os, k.tape.trans h.tape, k.output.trans h.output, Nat.le_trans h.size k.size⟩
theorem Kept.evo {m : Mp} {A : AW} {w w' : World} (hs : Sim m A w) (h : Kept w w') : Evo m A w m A w' :=
  ⟨Mp.le_refl m, h.ext.sim hs, Nat.le_refl _, h.os, h.tape, h.output, h.size, fun b hb _ => h.ext b hb, fun _ h => .inl h⟩
theorem Kept.drew (w : World) : Kept w w.drew := ⟨fun _ _ => rfl, rfl, rfl, rfl, Nat.le_refl _⟩

/-- A call that only computes: one value, and nothing that was there has turned. -/
def APure (P : Program) (f : FuncId) (args : List Value) (A : AW) (v : Value) : Prop :=
  callable P f = true ∧ scalarV v = true ∧ ∀ (m : Mp) (w : World) (cargs : Array Value), Sim m A w → LRel m args cargs.toList → Calls P f cargs w fun e w' => e = .returned v ∧ Kept w w'

theorem VRel.eq_of_scalar {m : Mp} {v v' : Value} (hv : scalarV v = true) (h : VRel m v v') : v' = v := by
  cases h <;> first | rfl | (simp [scalarV] at hv; done)

theorem APure.of_call {P : Program} {f : FuncId} {args : List Value} {A : AW} {v : Value} (hv : scalarV v = true) (h : ACall P f args A.ro fun v' _ => v' = v) : APure P f args A v := by
  refine ⟨h.1, hv, fun m w cargs hs hl => (h.2 m w cargs hs.ro hl).mono ?_⟩
  rintro e w' ⟨u, u', m', A', rfl, ev, hr, rfl⟩
  have := hr.eq_of_scalar hv
  subst this
  refine ⟨rfl, ⟨fun b hb => ev.out b hb ?_, ev.os, ev.tape, ev.output, ev.size⟩⟩
  rintro ⟨i, o, p, hi, how, _⟩
  obtain ⟨o', _, rfl⟩ := AW.ro_inv hi
  rw [AObj.ro_own] at how
  cases how

theorem APure.call {P : Program} {f : FuncId} {args : List Value} {A : AW} {v : Value} (h : APure P f args A v) {R : Value → AW → Prop} (hR : R v A) : ACall P f args A R := by
  refine ⟨h.1, fun m w cargs hs hl => (h.2.2 m w cargs hs hl).mono ?_⟩
  rintro e w' ⟨rfl, hk⟩
  exact ⟨v, v, m, A, rfl, hk.evo hs, .of_scalar h.2.1 m, hR⟩

def APureK (P : Program) (op : Op) (r : Operand → Value) (A : AW) (k : Value → Prop) : Prop :=
  match op with
  | .call c =>
    match c.callee with
    | .value x =>
      match r x with
      | .func (.func f) fs cs => ∃ v, APure P f (fs.toList ++ c.args.toList.map r ++ cs.toList) A v ∧ k v
      | _ => False
    | _ => False
  | _ => False

def AQStep (P : Program) (op : Op) (r : Operand → Value) (A : AW) (k : Value → Prop) : Prop :=
  match aq P A r op with
  | some v => k v
  | none => APureK P op r A k

def AQOps (P : Program) (ops : Array Oper) (A : AW) (K : Fr → Prop) : List Oper → Fr → Prop
  | [], a => K a
  | o :: rest, a =>
    if gval ops a o = true then AQStep P o.op (evF a) A (fun v => AQOps P ops A K rest (putF a o.dst v))
    else AQOps P ops A K rest (putF a o.dst undef)

theorem quiet_of_AQStep {P : Program} {m : Mp} {A : AW} {w : World} (hs : Sim m A w) {o : Oper} {n : Nat} {a : Fr} {ca : Act} (hf : FRel m n a ca) (ho : operOk n o = true)
    {k : Value → Prop} (h : AQStep P o.op (evF a) A k) {K : Act → Prop} (hK : ∀ v ca', k v → FRel m n (putF a o.dst v) ca' → K ca') : o.quiet P ca (Kept w) K := by
  simp only [operOk, Bool.and_eq_true] at ho
  obtain ⟨ho1, ho2⟩ := ho
  have hd : ∀ i, o.dst = some i → i < n := fun i e => by rw [e] at ho2; simpa using ho2
  have hr : ∀ x ∈ o.op.operands, VRel m (evF a x) (ca.eval x) := fun x hx => hf.eval (Array.all_eq_true_iff_forall_mem.1 ho1 x hx)
  unfold AQStep at h
  split at h
  · rename_i v hv
    obtain ⟨v', h1, h2⟩ := aq_sound hs hr hv
    refine ⟨v', fun w' hw => ?_, hK v _ h (hf.put hd h1)⟩
    unfold Oper.quietAt
    rw [h2 w' hw.ext]
    exact ⟨rfl, rfl⟩
  · unfold APureK at h
    split at h
    · rename_i c hc
      split at h
      · rename_i x hx
        split at h
        · rename_i f fs cs hfv
          obtain ⟨v, ⟨hcall, hsc, h⟩, hk⟩ := h
          have hxv := hr x (by rw [hc]; simp [Op.operands, Call.operands, hx])
          rw [hfv] at hxv
          generalize hg : ca.eval x = x' at hxv
          cases hxv with
          | func _ hx1 hx2 hx3 hx4 =>
            rename_i fs' cs'
            refine ⟨v, fun w' hw => ?_, hK v _ hk (hf.put hd (.of_scalar hsc m))⟩
            have hrun : (execOp ca.eval o).run P w' = .ok (.enter f (fs' ++ c.args.map ca.eval ++ cs')) w' := by
              obtain ⟨dst, op, ty, pos, after, guard⟩ := o
              simp only at hc
              subst hc
              obtain ⟨callee, args, argTypes⟩ := c
              simp only at hx
              subst hx
              simp only [execOp, resolve, hg, Deferred.ofValue, invoke, Sem.run_bind, Sem.run_pure, Result.andThen_ok, run_callFunc hcall]
            unfold Oper.quietAt
            rw [hrun]
            refine ⟨rfl, ?_⟩
            have hargs : LRel m (fs.toList ++ c.args.toList.map (evF a) ++ cs.toList) (fs' ++ c.args.map ca.eval ++ cs').toList := by
              simp only [Array.toList_append, Array.toList_map]
              refine (LRel.append (LRel.append ⟨by simpa using hx1, fun i v v' h1 h2 => hx3 i v v' (by simpa using h1) (by simpa using h2)⟩ ⟨by simp, fun i v v' h1 h2 => ?_⟩) ⟨by simpa using hx2, fun i v v' h1 h2 => hx4 i v v' (by simpa using h1) (by simpa using h2)⟩)
              simp only [List.getElem?_map, Option.map_eq_some_iff] at h1 h2
              obtain ⟨q, h3, rfl⟩ := h1
              obtain ⟨q', h4, rfl⟩ := h2
              rw [h3] at h4
              injection h4 with h4
              subst h4
              refine hr q ?_
              rw [hc]
              simp only [Op.operands, Call.operands, Array.mem_append]
              exact .inr (Array.mem_toList_iff.1 (List.mem_of_getElem? h3))
            refine (h m w' _ (hw.ext.sim hs) hargs).mono ?_
            rintro e w'' ⟨rfl, hk'⟩
            exact ⟨rfl, hw.trans hk'⟩
        · exact h.elim
      · exact h.elim
    · exact h.elim

theorem wpQuiet_of_AQOps {P : Program} {ops : Array Oper} {n : Nat} (hops : ops.all (operOk n) = true) {m : Mp} {A : AW} {w : World} (hs : Sim m A w) {K : Fr → Prop} {Q : Act → Prop} :
    ∀ (l : List Oper) (a : Fr) (ca : Act), (∀ o ∈ l, operOk n o = true) → AQOps P ops A K l a → FRel m n a ca → (∀ a' ca', K a' → FRel m n a' ca' → Q ca') → wpQuiet P ops (Kept w) Q l ca
  | [], a, ca, _, h, hf, hK => hK a ca h hf
  | o :: rest, a, ca, hl, h, hf, hK => by
    unfold AQOps at h
    unfold wpQuiet
    rw [gval_conc hf hops o]
    split at h
    · rename_i hg
      rw [if_pos hg]
      refine quiet_of_AQStep hs hf (hl o (by simp)) h ?_
      intro v ca' hk hf'
      exact wpQuiet_of_AQOps hops hs rest _ ca' (fun x hx => hl x (by simp [hx])) hk hf' hK
    · rename_i hg
      rw [if_neg hg]
      have ho := hl o (by simp)
      simp only [operOk, Bool.and_eq_true] at ho
      have hd : ∀ i, o.dst = some i → i < n := fun i e => by have := ho.2; rw [e] at this; simpa using this
      exact wpQuiet_of_AQOps hops hs rest _ _ (fun x hx => hl x (by simp [hx])) h (hf.put hd (VRel.undef m)) hK

/-- A region that draws its order, all of whose operations only read or call what only computes. -/
theorem awp_draw {P : Program} {n : Nat} {Q : Exit → Fr → AW → Prop} {a : Fr} {A : AW} {id : Nat} {ops : Array Oper} (hm : P.follows .mixedOrders = true) (hB : Region.lexB .any ops = true)
    (h : AQOps P ops A (fun a' => Q .normal a' A) ops.toList a) : AWP P n (.region id ops true) Q a A := by
  intro hok m w ca hs hf
  have hops : ops.all (operOk n) = true := hok
  refine wp_region_quiet (C := Kept w) hm hB (Kept.drew w) (wpQuiet_of_AQOps hops hs _ _ ca (fun o ho => Array.all_eq_true_iff_forall_mem.1 hops o (Array.mem_toList_iff.1 ho)) h hf ?_)
  intro a' ca' hq hf' w' hw
  exact ⟨m, a', A, hw.evo hs, hf', hq⟩

end Go.Stx
