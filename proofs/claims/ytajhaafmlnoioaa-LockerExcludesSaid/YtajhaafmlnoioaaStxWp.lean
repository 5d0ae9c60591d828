/-
  Code and calls over the abstract memory.
-/
import Derived.Test.YtajhaafmlnoioaaStxStep
import Derived.Deep.LoopGhost
namespace Go.Stx
open Go
set_option linter.unusedVariables false

structure FRel (m : Mp) (n : Nat) (a : Fr) (ca : Act) : Prop where
  size : ca.tmps.size = n
  defers : ca.defers = []
  rel : ∀ i, i < n → VRel m (a i) (ca.tmps.getD i undef)

theorem FRel.mono {m m' : Mp} (hm : Mp.le m m') {n : Nat} {a : Fr} {ca : Act} (h : FRel m n a ca) : FRel m' n a ca := ⟨h.size, h.defers, fun i hi => (h.rel i hi).mono hm⟩

theorem VRel.undef (m : Mp) : VRel m undef undef := .tuple rfl fun i v v' h => by simp at h

def opndOk (n : Nat) : Operand → Bool
  | .tmp t => decide (t < n)
  | .const v => groundV v
  | .global _ => false
  | .func _ => true

def operOk (n : Nat) (o : Oper) : Bool :=
  o.op.operands.all (opndOk n) && (match o.dst with | some d => decide (d < n) | none => true)

def codeOk (n : Nat) : Code → Bool
  | .region _ ops _ => ops.all (operOk n)
  | .seq a b => codeOk n a && codeOk n b
  | .cond c a b => opndOk n c && codeOk n a && codeOk n b
  | .block _ b => codeOk n b
  | .loop b => codeOk n b
  | .skip => true
  | .exit _ => true
  | .ret => true
  | _ => false

theorem FRel.eval {m : Mp} {n : Nat} {a : Fr} {ca : Act} (h : FRel m n a ca) {x : Operand} (hx : opndOk n x = true) : VRel m (evF a x) (ca.eval x) := by
  cases x with
  | tmp t => exact h.rel t (by simpa [opndOk] using hx)
  | const v => exact VRel.of_ground (v := v) (by simpa [opndOk] using hx) m
  | global g => simp [opndOk] at hx
  | func f => exact .func _ rfl rfl (fun i v v' h => by simp at h) (fun i v v' h => by simp at h)

theorem FRel.put {m : Mp} {n : Nat} {a : Fr} {ca : Act} (h : FRel m n a ca) {d : Option Tmp} (hd : ∀ i, d = some i → i < n) {v v' : Value} (hv : VRel m v v') :
    FRel m n (putF a d v) (ca.put d v') := by
  cases d with
  | none => exact h
  | some i =>
    refine ⟨by simp [Act.put, h.size], by simp [Act.put, h.defers], fun j hj => ?_⟩
    have hi := hd i rfl
    simp only [putF, upd, Act.put]
    by_cases e : j = i
    · subst e
      rw [if_pos rfl]
      simp [Array.getD_eq_getD_getElem?, h.size, hi]
      exact hv
    · rw [if_neg e]
      have := h.rel j hj
      rw [Array.getD_eq_getD_getElem?] at this ⊢
      rw [Array.getElem?_setIfInBounds_ne (by omega)]
      exact this

/-! ### Calls -/

def callable (P : Program) (f : FuncId) : Bool :=
  match P.funcs[f]? with
  | some fn => !(fn.name == "runtime.NumGoroutine") && fn.body.isSome
  | none => false

/-- A call returns; R holds of its value and of the memory behind it. -/
def ACall (P : Program) (f : FuncId) (args : List Value) (A : AW) (R : Value → AW → Prop) : Prop :=
  callable P f = true ∧ ∀ (m : Mp) (w : World) (cargs : Array Value), Sim m A w → LRel m args cargs.toList →
    Calls P f cargs w fun e w' => ∃ v v' m' A', e = .returned v' ∧ Evo m A w m' A' w' ∧ VRel m' v v' ∧ R v A'

theorem ACall.mono {P : Program} {f : FuncId} {args : List Value} {A : AW} {R R' : Value → AW → Prop} (h : ACall P f args A R) (hR : ∀ v A', R v A' → R' v A') : ACall P f args A R' :=
  ⟨h.1, fun m w cargs hs hl => (h.2 m w cargs hs hl).mono fun _ _ ⟨v, v', m', A', h1, h2, h3, h4⟩ => ⟨v, v', m', A', h1, h2, h3, hR _ _ h4⟩⟩

def ACallK (P : Program) (op : Op) (r : Operand → Value) (A : AW) (k : Value → AW → Prop) : Prop :=
  match op with
  | .call c =>
    match c.callee with
    | .value x =>
      match r x with
      | .func (.func f) fs cs => ACall P f (fs.toList ++ c.args.toList.map r ++ cs.toList) A k
      | _ => False
    | _ => False
  | _ => False

def AStep (P : Program) (op : Op) (r : Operand → Value) (A : AW) (k : Value → AW → Prop) : Prop :=
  match aq P A r op with
  | some v => k v A
  | none =>
    match ae P A r op with
    | some (v, A1) => k v A1
    | none => ACallK P op r A k

theorem run_callFunc {P : Program} {f : FuncId} {args : Array Value} (h : callable P f = true) (w : World) : (callFunc f args).run P w = .ok (.enter f args) w := by
  unfold callable at h
  cases hf : P.funcs[f]? with
  | none => rw [hf] at h; cases h
  | some fn =>
    rw [hf] at h
    simp only [Bool.and_eq_true, Bool.not_eq_true'] at h
    obtain ⟨h1, h2⟩ := h
    cases hb : fn.body with
    | none => rw [hb] at h2; cases h2
    | some c =>
      have h1' : ¬ fn.name = "runtime.NumGoroutine" := by simpa using h1
      simp [callFunc, hf, h1', hb]

/-- One operation. -/
theorem wp_of_AStep {P : Program} {m : Mp} {A : AW} {w : World} (hs : Sim m A w) {o : Oper} {n : Nat} {a : Fr} {ca : Act} (hf : FRel m n a ca) (ho : operOk n o = true)
    {k : Value → AW → Prop} (h : AStep P o.op (evF a) A k) {K : Act → World → Prop} {Q : Exit → Act → World → Prop}
    (hK : ∀ v A' m' w' ca', k v A' → Evo m A w m' A' w' → FRel m' n (putF a o.dst v) ca' → K ca' w') : o.wp P ca w K Q := by
  simp only [operOk, Bool.and_eq_true] at ho
  obtain ⟨ho1, ho2⟩ := ho
  have hd : ∀ i, o.dst = some i → i < n := fun i e => by rw [e] at ho2; simpa using ho2
  have hr : ∀ x ∈ o.op.operands, VRel m (evF a x) (ca.eval x) := fun x hx => hf.eval (Array.all_eq_true_iff_forall_mem.1 ho1 x hx)
  unfold AStep at h
  split at h
  · rename_i v hv
    obtain ⟨v', h1, h2⟩ := aq_sound hs hr hv
    unfold Oper.wp
    rw [h2 w (Ext.refl w)]
    exact hK v A m w _ h (Evo.refl hs) (hf.put hd h1)
  · split at h
    · rename_i v A1 hv
      obtain ⟨v', w', m', h1, h2, h3⟩ := ae_sound hs hr hv
      unfold Oper.wp
      rcases h1 with h1 | ⟨h1, rfl⟩
      · rw [h1]
        exact hK v A1 m' w' _ h h2 ((hf.mono h2.ext).put hd h3)
      · rw [h1]
        exact hK v A1 m' w' _ h h2 ((hf.mono h2.ext).put hd h3)
    · unfold ACallK at h
      split at h
      · rename_i c hc
        split at h
        · rename_i x hx
          split at h
          · rename_i f fs cs hfv
            obtain ⟨hcall, h⟩ := h
            have hxv := hr x (by rw [hc]; simp [Op.operands, Call.operands, hx])
            rw [hfv] at hxv
            generalize hg : ca.eval x = x' at hxv
            cases hxv with
            | func _ hx1 hx2 hx3 hx4 =>
              rename_i fs' cs'
              have hrun : (execOp ca.eval o).run P w = .ok (.enter f (fs' ++ c.args.map ca.eval ++ cs')) w := by
                obtain ⟨dst, op, ty, pos, after, guard⟩ := o
                simp only at hc
                subst hc
                obtain ⟨callee, args, argTypes⟩ := c
                simp only at hx
                subst hx
                simp only [execOp, resolve, hg, Deferred.ofValue, invoke, Sem.run_bind, Sem.run_pure, Result.andThen_ok, run_callFunc hcall]
              unfold Oper.wp
              rw [hrun, Oper.upon_enter]
              have hargs : LRel m (fs.toList ++ c.args.toList.map (evF a) ++ cs.toList) (fs' ++ c.args.map ca.eval ++ cs').toList := by
                simp only [Array.toList_append, Array.toList_map]
                refine (LRel.append (LRel.append ⟨by simpa using hx1, fun i v v' h1 h2 => hx3 i v v' (by simpa using h1) (by simpa using h2)⟩ ⟨by simp, fun i v v' h1 h2 => ?_⟩) ⟨by simpa using hx2, fun i v v' h1 h2 => hx4 i v v' (by simpa using h1) (by simpa using h2)⟩)
                simp only [List.getElem?_map, Option.map_eq_some_iff] at h1 h2
                obtain ⟨q, h3, rfl⟩ := h1
                obtain ⟨q', h4, rfl⟩ := h2
                rw [h3] at h4
                injection h4 with h4
                subst h4
                refine hr q ?_
                rw [hc]
                simp only [Op.operands, Call.operands, Array.mem_append]
                exact .inr (Array.mem_toList_iff.1 (List.mem_of_getElem? h3))
              refine (h m w _ hs hargs).mono ?_
              rintro e w' ⟨v, v', m', A', rfl, ev, hv, hk⟩
              exact hK v A' m' w' _ hk ev ((hf.mono ev.ext).put hd hv)
          · exact h.elim
        · exact h.elim
      · exact h.elim

/-! ### Regions -/

def gval (ops : Array Oper) (a : Fr) (o : Oper) : Bool :=
  match o.guard with
  | none => true
  | some (j, want) =>
    match (ops[j]?).bind (·.dst) with
    | some d =>
      match a d with
      | .bool b => b == want
      | _ => false
    | none => false

theorem gval_conc {m : Mp} {n : Nat} {a : Fr} {ca : Act} (hf : FRel m n a ca) {ops : Array Oper} (hops : ops.all (operOk n) = true) (o : Oper) :
    Region.wanted o (yielded ops ca.tmps) = gval ops a o := by
  unfold Region.wanted gval
  cases o.guard with
  | none => rfl
  | some g =>
    obtain ⟨j, want⟩ := g
    simp only [yielded]
    cases hj : ops[j]? with
    | none => simp
    | some oj =>
      simp only [Option.bind_some]
      cases hd : oj.dst with
      | none => simp
      | some d =>
        simp only [Option.bind_some]
        have hok := Array.all_eq_true_iff_forall_mem.1 hops oj (Array.mem_of_getElem? hj)
        simp only [operOk, hd, Bool.and_eq_true, decide_eq_true_eq] at hok
        have hlt : d < ca.tmps.size := by rw [hf.size]; exact hok.2
        have hv := hf.rel d hok.2
        rw [Array.getD_eq_getD_getElem?, Array.getElem?_eq_getElem hlt, Option.getD_some] at hv
        rw [Array.getElem?_eq_getElem hlt]
        generalize a d = x at hv ⊢
        generalize ca.tmps[d] = y at hv ⊢
        cases hv <;> simp

def AOps (P : Program) (ops : Array Oper) (K : Fr → AW → Prop) : List Oper → Fr → AW → Prop
  | [], a, A => K a A
  | o :: rest, a, A =>
    if gval ops a o = true then AStep P o.op (evF a) A (fun v A' => AOps P ops K rest (putF a o.dst v) A')
    else AOps P ops K rest (putF a o.dst undef) A

theorem wpList_of_AOps {P : Program} {ops : Array Oper} {n : Nat} (hops : ops.all (operOk n) = true) {K : Fr → AW → Prop} {Q : Exit → Act → World → Prop} : ∀ (l : List Oper) (a : Fr) (A : AW) (m : Mp) (w : World) (ca : Act),
    (∀ o ∈ l, operOk n o = true) → AOps P ops K l a A → Sim m A w → FRel m n a ca →
    (∀ a' A' m' w' ca', K a' A' → Evo m A w m' A' w' → FRel m' n a' ca' → Q .normal ca' w') → wpList P ops Q l ca w
  | [], a, A, m, w, ca, _, h, hs, hf, hK => hK a A m w ca h (Evo.refl hs) hf
  | o :: rest, a, A, m, w, ca, hl, h, hs, hf, hK => by
    unfold AOps at h
    unfold wpList
    rw [gval_conc hf hops o]
    split at h
    · rename_i hg
      rw [if_pos hg]
      refine .inl (wp_of_AStep hs hf (hl o (by simp)) h ?_)
      intro v A' m' w' ca' hk ev hf'
      exact wpList_of_AOps hops rest _ _ m' w' ca' (fun x hx => hl x (by simp [hx])) hk ev.sim hf' (fun a2 A2 m2 w2 ca2 h1 h2 h3 => hK a2 A2 m2 w2 ca2 h1 (ev.trans h2) h3)
    · rename_i hg
      rw [if_neg hg]
      have ho := hl o (by simp)
      simp only [operOk, Bool.and_eq_true] at ho
      have hd : ∀ i, o.dst = some i → i < n := fun i e => by have := ho.2; rw [e] at this; simpa using this
      exact wpList_of_AOps hops rest _ _ m w _ (fun x hx => hl x (by simp [hx])) h hs (hf.put hd (VRel.undef m)) hK

/-! ### Code -/

def AWP (P : Program) (n : Nat) (c : Code) (Q : Exit → Fr → AW → Prop) (a : Fr) (A : AW) : Prop :=
  codeOk n c = true → ∀ (m : Mp) (w : World) (ca : Act), Sim m A w → FRel m n a ca →
    c.wp P (fun e ca' w' => ∃ m' a' A', Evo m A w m' A' w' ∧ FRel m' n a' ca' ∧ Q e a' A') ca w

section
variable {P : Program} {n : Nat} {Q : Exit → Fr → AW → Prop} {a : Fr} {A : AW}

theorem awp_mono {c : Code} {Q' : Exit → Fr → AW → Prop} (h : AWP P n c Q a A) (hq : ∀ e a A, Q e a A → Q' e a A) : AWP P n c Q' a A :=
  fun hok m w ca hs hf => wp_mono (h hok m w ca hs hf) fun e ca' w' ⟨m', a', A', h1, h2, h3⟩ => ⟨m', a', A', h1, h2, hq _ _ _ h3⟩

theorem awp_region {id : Nat} {ops : Array Oper} (h : AOps P ops (Q .normal) ops.toList a A) : AWP P n (.region id ops false) Q a A := by
  intro hok m w ca hs hf
  have hops : ops.all (operOk n) = true := hok
  refine wp_region_list (wpList_of_AOps hops _ _ _ m w ca (fun o ho => Array.all_eq_true_iff_forall_mem.1 hops o (Array.mem_toList_iff.1 ho)) h hs hf ?_)
  intro a' A' m' w' ca' hk ev hf'
  exact ⟨m', a', A', ev, hf', hk⟩

theorem awp_skip (h : Q .normal a A) : AWP P n .skip Q a A := fun _ m w ca hs hf => wp_skip ⟨m, a, A, Evo.refl hs, hf, h⟩
theorem awp_exit {id : Nat} (h : Q (.exit id) a A) : AWP P n (.exit id) Q a A := fun _ m w ca hs hf => wp_exit ⟨m, a, A, Evo.refl hs, hf, h⟩
theorem awp_ret (h : Q .ret a A) : AWP P n .ret Q a A := fun _ m w ca hs hf => wp_ret ⟨m, a, A, Evo.refl hs, hf, h⟩

def AThen (next : Fr → AW → Prop) (Q : Exit → Fr → AW → Prop) : Exit → Fr → AW → Prop
  | .normal, a, A => next a A
  | e, a, A => Q e a A

theorem awp_seq {x y : Code} (h : AWP P n x (AThen (AWP P n y Q) Q) a A) : AWP P n (.seq x y) Q a A := by
  intro hok m w ca hs hf
  simp only [codeOk, Bool.and_eq_true] at hok
  refine wp_seq (wp_mono (h hok.1 m w ca hs hf) ?_)
  rintro e ca' w' ⟨m', a', A', ev, hf', hq⟩
  cases e with
  | normal =>
    refine wp_mono (hq hok.2 m' w' ca' ev.sim hf') ?_
    rintro e ca2 w2 ⟨m2, a2, A2, ev2, hf2, hq2⟩
    exact ⟨m2, a2, A2, ev.trans ev2, hf2, hq2⟩
  | exit id => exact ⟨m', a', A', ev, hf', hq⟩
  | goto l => exact ⟨m', a', A', ev, hf', hq⟩
  | ret => exact ⟨m', a', A', ev, hf', hq⟩
  | panic ch => exact ⟨m', a', A', ev, hf', hq⟩
  | outgrown => exact ⟨m', a', A', ev, hf', hq⟩

/-- The rest of the code behind a name. -/
theorem awp_seq_k {x y : Code} (h : ∀ K : Fr → AW → Prop, (∀ a A, AWP P n y Q a A → K a A) → AWP P n x (AThen K Q) a A) : AWP P n (.seq x y) Q a A :=
  awp_seq (h _ fun _ _ h => h)

theorem awp_cond {c : Operand} {x y : Code} {b : Bool} (hc : evF a c = .bool b) (h1 : b = true → AWP P n x Q a A) (h2 : b = false → AWP P n y Q a A) : AWP P n (.cond c x y) Q a A := by
  intro hok m w ca hs hf
  simp only [codeOk, Bool.and_eq_true] at hok
  have hv := hf.eval hok.1.1
  rw [hc] at hv
  generalize hg : ca.eval c = x' at hv
  cases hv
  exact wp_cond_split hg (fun e => h1 e hok.1.2 m w ca hs hf) (fun e => h2 e hok.2 m w ca hs hf)

def ABlock (id : Nat) (Q : Exit → Fr → AW → Prop) : Exit → Fr → AW → Prop
  | .exit id', a, A => if id' = id then Q .normal a A else Q (.exit id') a A
  | e, a, A => Q e a A

theorem awp_block {id : Nat} {c : Code} (h : AWP P n c (ABlock id Q) a A) : AWP P n (.block id c) Q a A := by
  intro hok m w ca hs hf
  refine wp_block (wp_mono (h hok m w ca hs hf) ?_)
  rintro e ca' w' ⟨m', a', A', ev, hf', hq⟩
  cases e with
  | exit id' =>
    simp only [Exit.inBlock]
    simp only [ABlock] at hq
    split
    · rename_i e; rw [if_pos e] at hq; exact ⟨m', a', A', ev, hf', hq⟩
    · rename_i e; rw [if_neg e] at hq; exact ⟨m', a', A', ev, hf', hq⟩
  | normal => exact ⟨m', a', A', ev, hf', hq⟩
  | goto l => exact ⟨m', a', A', ev, hf', hq⟩
  | ret => exact ⟨m', a', A', ev, hf', hq⟩
  | panic ch => exact ⟨m', a', A', ev, hf', hq⟩
  | outgrown => exact ⟨m', a', A', ev, hf', hq⟩

/-- A loop: an invariant that bears a number, which every round lowers. -/
theorem awp_loop {c : Code} (I : Nat → Fr → AW → Prop) (n₀ : Nat) (h₀ : I n₀ a A)
    (round : ∀ k a A, I k a A → AWP P n c (AThen (fun a' A' => ∃ k', k' < k ∧ I k' a' A') Q) a A) : AWP P n (.loop c) Q a A := by
  intro hok m w ca hs hf
  refine wp_loop_ghost (fun k ca' w' => ∃ m' a' A', Evo m A w m' A' w' ∧ FRel m' n a' ca' ∧ I k a' A') n₀ ⟨m, a, A, Evo.refl hs, hf, h₀⟩ ?_
  rintro k ca' w' ⟨m', a', A', ev, hf', hI⟩
  refine wp_mono (round k a' A' hI hok m' w' ca' ev.sim hf') ?_
  rintro e ca2 w2 ⟨m2, a2, A2, ev2, hf2, hq⟩
  cases e with
  | normal =>
    obtain ⟨k', hlt, hI'⟩ := hq
    exact ⟨k', hlt, m2, a2, A2, ev.trans ev2, hf2, hI'⟩
  | exit id => exact ⟨m2, a2, A2, ev.trans ev2, hf2, hq⟩
  | goto l => exact ⟨m2, a2, A2, ev.trans ev2, hf2, hq⟩
  | ret => exact ⟨m2, a2, A2, ev.trans ev2, hf2, hq⟩
  | panic ch => exact ⟨m2, a2, A2, ev.trans ev2, hf2, hq⟩
  | outgrown => exact ⟨m2, a2, A2, ev.trans ev2, hf2, hq⟩

end

/-! ### Functions -/

def ares1 (P : Program) (a : Fr) (A : AW) : ResultVar → Option Value
  | .tmp t => some (a t)
  | .cell p t =>
    match a p with
    | .pointer (some q) => aload P A t q
    | _ => none

def aresL (P : Program) (a : Fr) (A : AW) : List ResultVar → Option (List Value)
  | [] => some []
  | r :: rs =>
    match ares1 P a A r, aresL P a A rs with
    | some v, some vs => some (v :: vs)
    | _, _ => none

def ares (P : Program) (a : Fr) (A : AW) (rs : List ResultVar) : Option Value :=
  match aresL P a A rs with
  | some [v] => some v
  | some vs => some (.tuple vs.toArray)
  | none => none

def resOk (n : Nat) : ResultVar → Bool
  | .tmp t => decide (t < n)
  | .cell p _ => decide (p < n)

def resSem (tmps : Array Value) : ResultVar → Sem Value
  | .tmp t => pure (tmps.getD t undef)
  | .cell a t => do loadVar t (← asAddr (tmps.getD a undef))

theorem results_eq (fn : Func) (tmps : Array Value) :
    results fn tmps = (fn.results.mapM (resSem tmps) >>= fun vs => pure (if h : vs.size = 1 then vs[0] else .tuple vs) : Sem Value) := by
  unfold results
  congr 2

theorem ares1_sound {P : Program} {m : Mp} {A : AW} {w : World} (hs : Sim m A w) {n : Nat} {a : Fr} {ca : Act} (hf : FRel m n a ca) {r : ResultVar} (hok : resOk n r = true) {v : Value} (h : ares1 P a A r = some v) :
    ∃ v', VRel m v v' ∧ (resSem ca.tmps r).run P w = .ok v' w := by
  cases r with
  | tmp t =>
    injection h with h
    subst h
    exact ⟨_, hf.rel t (by simpa [resOk] using hok), rfl⟩
  | cell p t =>
    simp only [ares1] at h
    split at h
    · rename_i q hq
      have hv := hf.rel p (by simpa [resOk] using hok)
      rw [hq] at hv
      generalize hg : ca.tmps.getD p undef = x' at hv
      cases hv with
      | ptr ha =>
        obtain ⟨v', h1, h2⟩ := aload_sound (P := P) hs h ha
        refine ⟨v', h2, ?_⟩
        simp only [resSem, hg, asAddr, Sem.run_bind, Sem.run_pure, Result.andThen_ok, h1]
    · cases h

theorem aresL_sound {P : Program} {m : Mp} {A : AW} {w : World} (hs : Sim m A w) {n : Nat} {a : Fr} {ca : Act} (hf : FRel m n a ca) : ∀ (rs : List ResultVar) (vs : List Value), rs.all (resOk n) = true →
    aresL P a A rs = some vs → ∃ vs', LRel m vs vs' ∧ (rs.mapM (resSem ca.tmps)).run P w = .ok vs' w
  | [], vs, _, h => by injection h with h; subst h; exact ⟨[], .nil, rfl⟩
  | r :: rs, vs, hok, h => by
    unfold aresL at h
    simp only [List.all_cons, Bool.and_eq_true] at hok
    split at h
    · rename_i v vs1 hv hvs
      injection h with h
      subst h
      obtain ⟨v', h1, h2⟩ := ares1_sound (P := P) hs hf hok.1 hv
      obtain ⟨vs', h3, h4⟩ := aresL_sound hs hf rs vs1 hok.2 hvs
      refine ⟨v' :: vs', .cons h1 h3, ?_⟩
      simp only [List.mapM_cons, Sem.run_bind, h2, Result.andThen_ok, h4, Sem.run_pure]
    · cases h

theorem ares_sound {P : Program} {m : Mp} {A : AW} {w : World} (hs : Sim m A w) {fn : Func} {n : Nat} {a : Fr} {ca : Act} (hf : FRel m n a ca) (hok : fn.results.toList.all (resOk n) = true) {v : Value}
    (h : ares P a A fn.results.toList = some v) : ∃ v', VRel m v v' ∧ (results fn ca.tmps).run P w = .ok v' w := by
  unfold ares at h
  cases hl : aresL P a A fn.results.toList with
  | none => rw [hl] at h; cases h
  | some vs =>
    obtain ⟨vs', h1, h2⟩ := aresL_sound (P := P) hs hf _ _ hok hl
    have h3 := run_mapM_array (P := P) _ fn.results vs' h2
    rw [hl] at h
    have hrun : ∀ (x : Value), (if h : vs'.toArray.size = 1 then vs'.toArray[0] else .tuple vs'.toArray) = x → (results fn ca.tmps).run P w = .ok x w := fun x e => by
      rw [results_eq, Sem.run_bind, h3]
      simp only [Result.andThen_ok, Sem.run_pure, e]
    split at h
    · rename_i u hu
      injection hu with hu
      injection h with h
      subst hu; subst h
      obtain ⟨v', t', rfl, hv, ht⟩ := h1.inv_cons
      have := ht.inv_nil
      subst this
      exact ⟨v', hv, hrun v' (by simp)⟩
    · rename_i us hne hu
      injection hu with hu
      injection h with h
      subst hu; subst h
      refine ⟨.tuple vs'.toArray, .tuple (by simpa using h1.1) (fun i x x' e1 e2 => h1.2 i x x' (by simpa using e1) (by simpa using e2)), hrun _ ?_⟩
      rw [dif_neg]
      intro e
      have e1 : vs'.length = 1 := by simpa using e
      rw [← h1.1] at e1
      obtain ⟨x, rfl⟩ := List.length_eq_one_iff.1 e1
      exact hne x rfl
    · rename_i hu; cases hu

def initF (args : List Value) : Fr := fun i => args.getD i undef

def fnOk (fn : Func) (nargs : Nat) : Bool :=
  decide (nargs ≤ fn.ntmps) && !(fn.name == "runtime.NumGoroutine") && fn.results.toList.all (resOk fn.ntmps) && (match fn.body with | some c => codeOk fn.ntmps c | none => false)

def APost (P : Program) (fn : Func) (R : Value → AW → Prop) : Exit → Fr → AW → Prop
  | .normal, a, A => ∃ v, ares P a A fn.results.toList = some v ∧ R v A
  | .ret, a, A => ∃ v, ares P a A fn.results.toList = some v ∧ R v A
  | _, _, _ => False

theorem acall_of_awp {P : Program} {f : FuncId} {fn : Func} {c : Code} {args : List Value} {A : AW} {R : Value → AW → Prop} (hf : P.funcs[f]? = some fn) (hb : fn.body = some c) (hok : fnOk fn args.length = true)
    (h : AWP P fn.ntmps c (APost P fn R) (initF args) A) : ACall P f args A R := by
  simp only [fnOk, hb, Bool.and_eq_true, decide_eq_true_eq, Bool.not_eq_true'] at hok
  obtain ⟨⟨⟨h1, h2⟩, h3⟩, h4⟩ := hok
  refine ⟨by simp [callable, hf, h2, hb], fun m w cargs hs hl => ?_⟩
  refine calls_of_wp hf hb (wp_mono (h h4 m w _ hs ?_) ?_)
  · have hsz : cargs.size = args.length := by have := hl.1; simp at this; omega
    refine ⟨by simp [hsz]; omega, rfl, fun i hi => ?_⟩
    simp only [initF, List.getD_eq_getElem?_getD, Array.getD_eq_getD_getElem?]
    by_cases hlt : i < args.length
    · have e1 := List.getElem?_eq_getElem hlt
      have hlt' : i < cargs.size := by omega
      have e2 : cargs.toList[i]? = some cargs[i] := by simp [hlt']
      rw [e1, Array.getElem?_append_left hlt', Array.getElem?_eq_getElem hlt']
      exact hl.2 i _ _ e1 e2
    · rw [List.getElem?_eq_none (by omega), Array.getElem?_append_right (by omega)]
      simp only [Option.getD_none]
      rw [Array.getElem?_replicate]
      split
      · exact VRel.undef m
      · exact VRel.undef m
  · rintro e ca' w' ⟨m', a', A', ev, hf', hq⟩
    have fin : ∀ (hx : ∃ v, ares P a' A' fn.results.toList = some v ∧ R v A'), ca'.defers = [] ∧ ∃ v, (results fn ca'.tmps).run P w' = .ok v w' ∧
        ∃ v0 v' m' A', Ending.returned v = .returned v' ∧ Evo m A w m' A' w' ∧ VRel m' v0 v' ∧ R v0 A' := by
      rintro ⟨v, hv, hR⟩
      obtain ⟨v', h5, h6⟩ := ares_sound ev.sim hf' h3 hv
      exact ⟨hf'.defers, v', h6, v, v', m', A', rfl, ev, h5, hR⟩
    cases e with
    | normal => exact fin hq
    | ret => exact fin hq
    | exit id => exact hq.elim
    | goto l => exact hq.elim
    | panic ch => exact hq.elim
    | outgrown => exact hq.elim

end Go.Stx
