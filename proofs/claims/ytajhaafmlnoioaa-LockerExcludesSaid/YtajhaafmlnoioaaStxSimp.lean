/-
  What simp is to know of the abstract memory and of the steps over it.
-/
import Derived.Test.YtajhaafmlnoioaaStxDraw
namespace Go.Stx
open Go
set_option linter.unusedVariables false

@[simp] theorem upd_apply (a : Fr) (i j : Nat) (v : Value) : upd a i v j = if j = i then v else a j := rfl
@[simp] theorem initF_zero (v : Value) (l : List Value) : initF (v :: l) 0 = v := rfl
@[simp] theorem initF_succ (v : Value) (l : List Value) (i : Nat) : initF (v :: l) (i + 1) = initF l i := rfl
@[simp] theorem putF_some (a : Fr) (i : Nat) (v : Value) : putF a (some i) v = upd a i v := rfl
@[simp] theorem putF_none (a : Fr) (v : Value) : putF a none v = a := rfl
@[simp] theorem evF_tmp (a : Fr) (t : Nat) : evF a (.tmp t) = a t := rfl
@[simp] theorem evF_const (a : Fr) (v : Value) : evF a (.const v) = v := rfl
@[simp] theorem evF_func (a : Fr) (f : FuncId) : evF a (.func f) = .func (.func f) #[] #[] := rfl
@[simp] theorem cells_int (k : IntKind) (n : Int) : (Value.int k n).cells = #[.int k n] := rfl
@[simp] theorem cells_bool (b : Bool) : (Value.bool b).cells = #[.bool b] := rfl
@[simp] theorem cells_string (s : ByteArray) : (Value.string s).cells = #[.string s] := rfl
@[simp] theorem cells_pointer (a : Option Addr) : (Value.pointer a).cells = #[.pointer a] := rfl
@[simp] theorem cells_slice (a : Option Addr) (n c : Nat) : (Value.slice a n c).cells = #[.slice a n c] := rfl
@[simp] theorem cells_map (r : Option Nat) : (Value.map r).cells = #[.map r] := rfl
@[simp] theorem cells_func (fn : Fn) (x y : Array Value) : (Value.func fn x y).cells = #[.func fn x y] := rfl
@[simp] theorem cells_nilFunc : Value.nilFunc.cells = #[.nilFunc] := rfl
@[simp] theorem cells_nilIface : Value.nilIface.cells = #[.nilIface] := rfl
@[simp] theorem cells_iface (t : TypeId) (v : Value) : (Value.iface t v).cells = #[.iface t v] := rfl
@[simp] theorem cells_agg (cs : Array Value) : (Value.agg cs).cells = cs := rfl
attribute [simp] setCells aputs azeros aparts abuildSlice aalloc abuild aputsP aplaces scalarV groundV
attribute [simp] alen aindexAddr aindex isAggT aload afield afieldAddr apart aslice abound amake abox amin amakeIface
attribute [simp] abin2 aslice0 alookup amakeMap amapUpdate afindKey amapZero isKeyDesc aclear aequal aeqFields aeqElems
attribute [simp] AStep AQStep aq ae AThen ABlock APost ares aresL ares1 abin aint isShift aun aconv

@[simp] theorem sameNow_int (k0 k : IntKind) (a b : Int) : Instr.sameNow (.int k0) (.int k a) (.int k b) = some (a == b) := by simp [Instr.sameNow]
@[simp] theorem AThen_normal (K : Fr → AW → Prop) (Q : Exit → Fr → AW → Prop) : AThen K Q .normal = K := rfl

/-! ### Operations without what does not matter -/

structure SOp where
  dst : Option Tmp
  op : Op
  guard : Option (Option Tmp × Bool)

def slimG (ops : Array Oper) (g : Option (Nat × Bool)) : Option (Option Tmp × Bool) := g.map fun x => ((ops[x.1]?).bind (·.dst), x.2)
def slimL (ops : Array Oper) (l : List Oper) : List SOp := l.map fun o => ⟨o.dst, o.op, slimG ops o.guard⟩
def slim (ops : Array Oper) : List SOp := slimL ops ops.toList

/-- Does the guard let it run? -/
def sg (a : Fr) (g : Option (Option Tmp × Bool)) : Bool :=
  match g with
  | none => true
  | some (some d, want) =>
    match a d with
    | .bool b => b == want
    | _ => false
  | some (none, _) => false

theorem sg_eq (ops : Array Oper) (a : Fr) (o : Oper) : gval ops a o = sg a (slimG ops o.guard) := by
  unfold gval sg slimG
  cases o.guard with
  | none => rfl
  | some g =>
    obtain ⟨j, want⟩ := g
    simp only [Option.map_some]
    cases (ops[j]?).bind (·.dst) <;> rfl

def SOps (P : Program) (K : Fr → AW → Prop) : List SOp → Fr → AW → Prop
  | [], a, A => K a A
  | o :: rest, a, A =>
    if sg a o.guard = true then AStep P o.op (evF a) A (fun v A' => SOps P K rest (putF a o.dst v) A')
    else SOps P K rest (putF a o.dst undef) A

def SQOps (P : Program) (A : AW) (K : Fr → Prop) : List SOp → Fr → Prop
  | [], a => K a
  | o :: rest, a =>
    if sg a o.guard = true then AQStep P o.op (evF a) A (fun v => SQOps P A K rest (putF a o.dst v))
    else SQOps P A K rest (putF a o.dst undef)

theorem SOps.aops {P : Program} {ops : Array Oper} {K : Fr → AW → Prop} : ∀ (l : List Oper) (a : Fr) (A : AW), SOps P K (slimL ops l) a A = AOps P ops K l a A
  | [], a, A => rfl
  | o :: rest, a, A => by
    simp only [slimL, List.map_cons, SOps, AOps, sg_eq]
    have ih := SOps.aops (P := P) (ops := ops) (K := K) rest
    simp only [slimL] at ih
    simp only [ih]

theorem SQOps.aqops {P : Program} {ops : Array Oper} {A : AW} {K : Fr → Prop} : ∀ (l : List Oper) (a : Fr), SQOps P A K (slimL ops l) a = AQOps P ops A K l a
  | [], a => rfl
  | o :: rest, a => by
    simp only [slimL, List.map_cons, SQOps, AQOps, sg_eq]
    have ih := SQOps.aqops (P := P) (ops := ops) (A := A) (K := K) rest
    simp only [slimL] at ih
    simp only [ih]

theorem AStep.mono {P : Program} {op : Op} {r : Operand → Value} {A : AW} {k k' : Value → AW → Prop} (h : ∀ v A', k v A' → k' v A') (hh : AStep P op r A k) : AStep P op r A k' := by
  unfold AStep at *
  split at hh
  · exact h _ _ hh
  · split at hh
    · exact h _ _ hh
    · unfold ACallK at *
      split at hh
      · split at hh
        · split at hh
          · exact hh.mono h
          · exact hh
        · exact hh
      · exact hh

theorem AQStep.mono {P : Program} {op : Op} {r : Operand → Value} {A : AW} {k k' : Value → Prop} (h : ∀ v, k v → k' v) (hh : AQStep P op r A k) : AQStep P op r A k' := by
  unfold AQStep at *
  split at hh
  · exact h _ hh
  · unfold APureK at *
    split at hh
    · split at hh
      · split at hh
        · obtain ⟨v, h1, h2⟩ := hh; exact ⟨v, h1, h _ h2⟩
        · exact hh
      · exact hh
    · exact hh

/-- One operation, the rest behind a name. -/
theorem sops_cons {P : Program} {K : Fr → AW → Prop} {o : SOp} {rest : List SOp} {a : Fr} {A : AW}
    (h : ∀ R : Fr → AW → Prop, (∀ a A, SOps P K rest a A → R a A) →
      if sg a o.guard = true then AStep P o.op (evF a) A (fun v A' => R (putF a o.dst v) A') else R (putF a o.dst undef) A) : SOps P K (o :: rest) a A :=
  h _ fun _ _ h => h
theorem sops_nil {P : Program} {K : Fr → AW → Prop} {a : Fr} {A : AW} (h : K a A) : SOps P K [] a A := h
theorem sqops_cons {P : Program} {A : AW} {K : Fr → Prop} {o : SOp} {rest : List SOp} {a : Fr}
    (h : ∀ R : Fr → Prop, (∀ a, SQOps P A K rest a → R a) →
      if sg a o.guard = true then AQStep P o.op (evF a) A (fun v => R (putF a o.dst v)) else R (putF a o.dst undef)) : SQOps P A K (o :: rest) a :=
  h _ fun _ h => h
theorem sqops_nil {P : Program} {A : AW} {K : Fr → Prop} {a : Fr} (h : K a) : SQOps P A K [] a := h

/-- A region, then the rest behind a name. -/
theorem awp_rs {P : Program} {n : Nat} {Q : Exit → Fr → AW → Prop} {a : Fr} {A : AW} {id : Nat} {ops : Array Oper} {y : Code}
    (h : ∀ K : Fr → AW → Prop, (∀ a A, AWP P n y Q a A → K a A) → SOps P K (slim ops) a A) : AWP P n (.seq (.region id ops false) y) Q a A :=
  awp_seq (awp_region (by rw [← SOps.aops]; exact h _ fun _ _ h => h))
/-- The same for a region that draws its order. -/
theorem awp_ds {P : Program} {n : Nat} {Q : Exit → Fr → AW → Prop} {a : Fr} {A : AW} {id : Nat} {ops : Array Oper} {y : Code} (hm : P.follows .mixedOrders = true) (hB : Region.lexB .any ops = true)
    (h : ∀ K : Fr → Prop, (∀ a, AWP P n y Q a A → K a) → SQOps P A K (slim ops) a) : AWP P n (.seq (.region id ops true) y) Q a A :=
  awp_seq (awp_draw hm hB (by rw [← SQOps.aqops]; exact h _ fun _ h => h))
theorem awp_r1 {P : Program} {n : Nat} {Q : Exit → Fr → AW → Prop} {a : Fr} {A : AW} {id : Nat} {ops : Array Oper}
    (h : ∀ K : Fr → AW → Prop, (∀ a A, Q .normal a A → K a A) → SOps P K (slim ops) a A) : AWP P n (.region id ops false) Q a A :=
  awp_region (by rw [← SOps.aops]; exact h _ fun _ _ h => h)
theorem awp_d1 {P : Program} {n : Nat} {Q : Exit → Fr → AW → Prop} {a : Fr} {A : AW} {id : Nat} {ops : Array Oper} (hm : P.follows .mixedOrders = true) (hB : Region.lexB .any ops = true)
    (h : ∀ K : Fr → Prop, (∀ a, Q .normal a A → K a) → SQOps P A K (slim ops) a) : AWP P n (.region id ops true) Q a A :=
  awp_draw hm hB (by rw [← SQOps.aqops]; exact h _ fun _ h => h)

attribute [simp] sg

/-- What holds between two pieces of code. -/
theorem awp_cut {P : Program} {n : Nat} {Q : Exit → Fr → AW → Prop} {a : Fr} {A : AW} {x y : Code} (J : Fr → AW → Prop) (h1 : AWP P n x (AThen J Q) a A) (h2 : ∀ a A, J a A → AWP P n y Q a A) :
    AWP P n (.seq x y) Q a A :=
  awp_seq (awp_mono h1 fun e a A h => by cases e <;> first | exact h2 a A h | exact h)

theorem ite_both {c : Prop} [Decidable c] {p q : Prop} (h1 : c → p) (h2 : ¬c → q) : if c then p else q := by
  split
  · exact h1 ‹_›
  · exact h2 ‹_›

/-! ### The memory -/

def AW.Wf (A : AW) : Prop := ∀ i, A.next ≤ i → A.get i = none
theorem AW.Wf.lt {A : AW} (h : A.Wf) {i : Nat} {o : AObj} (hg : A.get i = some o) : i < A.next := by
  rcases Nat.lt_or_ge i A.next with h1 | h1
  · exact h1
  · rw [h i h1] at hg; cases hg

@[simp] theorem AW.alloc_next (A : AW) (o : AObj) : (A.alloc o).next = A.next + 1 := rfl
@[simp] theorem AW.set_next (A : AW) (i : Nat) (o : Option AObj) : (A.set i o).next = A.next := rfl
@[simp] theorem AW.alloc_get_new (A : AW) (o : AObj) : (A.alloc o).get A.next = some o := by simp [AW.alloc]
theorem AW.alloc_get_at (A : AW) (o : AObj) {i : Nat} (h : i = A.next) : (A.alloc o).get i = some o := by simp [AW.alloc, h]
theorem AW.alloc_get_old (A : AW) (o : AObj) {i : Nat} (h : i ≠ A.next) : (A.alloc o).get i = A.get i := by simp [AW.alloc, h]
@[simp] theorem AW.set_get_eq (A : AW) (i : Nat) (o : Option AObj) : (A.set i o).get i = o := AW.set_get_same
theorem AW.set_get_at (A : AW) {i j : Nat} (o : Option AObj) (h : j = i) : (A.set i o).get j = o := by simp [AW.set, h]
theorem AW.row_of {A : AW} {i : Nat} {cs : List Value} {own : Bool} {u : Nat} (h : A.get i = some (.cells cs own u)) : A.row i = some cs := by simp [AW.row, h]

theorem AW.Wf.alloc {A : AW} (h : A.Wf) (o : AObj) : (A.alloc o).Wf := fun i hi => by
  simp only [AW.alloc_next] at hi
  rw [AW.alloc_get_old _ _ (by omega)]
  exact h i (by omega)
theorem AW.Wf.set {A : AW} (h : A.Wf) {i : Nat} (o : Option AObj) (hi : i < A.next) : (A.set i o).Wf := fun j hj => by
  simp only [AW.set_next] at hj
  rw [AW.set_get_ne (by omega)]
  exact h j hj

/-- The later memory has all that the earlier one has. -/
structure AW.le (A A' : AW) : Prop where
  next : A.next ≤ A'.next
  get : ∀ i, i < A.next → A'.get i = A.get i

theorem AW.le.refl (A : AW) : A.le A := ⟨Nat.le_refl _, fun _ _ => rfl⟩
theorem AW.le.trans {A B C : AW} (h : A.le B) (k : B.le C) : A.le C := ⟨Nat.le_trans h.next k.next, fun i hi => (k.get i (Nat.lt_of_lt_of_le hi h.next)).trans (h.get i hi)⟩
theorem AW.le.alloc (A : AW) (o : AObj) : A.le (A.alloc o) := ⟨by simp, fun i hi => AW.alloc_get_old _ _ (by omega)⟩
theorem AW.le.set {A B : AW} (h : A.le B) {i : Nat} (hi : A.next ≤ i) (o : Option AObj) : A.le (B.set i o) :=
  ⟨h.next, fun j hj => by rw [AW.set_get_ne (by omega)]; exact h.get j hj⟩
theorem AW.le.keep {A B : AW} (h : A.le B) (hw : A.Wf) {i : Nat} {o : AObj} (hg : A.get i = some o) : B.get i = some o := by rw [h.get i (hw.lt hg)]; exact hg

/-! ### Calls -/

theorem ACall.wf {P : Program} {f : FuncId} {args : List Value} {A : AW} {R : Value → AW → Prop} (h : ACall P f args A R) : ACall P f args A (fun v A' => R v A' ∧ A'.Wf ∧ A.next ≤ A'.next) :=
  ⟨h.1, fun m w cargs hs hl => (h.2 m w cargs hs hl).mono fun _ _ ⟨v, v', m', A', h1, h2, h3, h4⟩ => ⟨v, v', m', A', h1, h2, h3, h4, h2.sim.low, h2.next⟩⟩

/-- A function's contract, from the walk through its body. -/
theorem acall_intro {P : Program} {f : FuncId} {fn : Func} {c : Code} {args : List Value} {A : AW} {R : Value → AW → Prop} (hf : P.funcs[f]? = some fn) (hb : fn.body = some c) (hok : fnOk fn args.length = true)
    (h : A.Wf → AWP P fn.ntmps c (APost P fn R) (initF args) A) : ACall P f args A R := by
  have hcall : callable P f = true := by
    simp only [fnOk, hb, Bool.and_eq_true, decide_eq_true_eq, Bool.not_eq_true'] at hok
    simp [callable, hf, hok.1.1.2, hb]
  exact ⟨hcall, fun m w cargs hs hl => (acall_of_awp hf hb hok (h hs.low)).2 m w cargs hs hl⟩

/-- At a call: the callee's contract, then what follows. -/
theorem callK {P : Program} {f : FuncId} {args : List Value} {A : AW} {R k : Value → AW → Prop} (h : ACall P f args A R) (hk : ∀ v A', R v A' → A'.Wf → A.next ≤ A'.next → k v A') : ACall P f args A k :=
  h.wf.mono fun v A' ⟨h1, h2, h3⟩ => hk v A' h1 h2 h3

@[congr] theorem ACall_congr {P : Program} {f : FuncId} {args args' : List Value} {A : AW} {R : Value → AW → Prop} (h : args = args') : ACall P f args A R = ACall P f args' A R := by rw [h]
@[congr] theorem APure_congr {P : Program} {f : FuncId} {args args' : List Value} {A : AW} {v : Value} (h : args = args') : APure P f args A v = APure P f args' A v := by rw [h]
@[simp] theorem ACallK_call (P : Program) (x : Operand) (args : Array Operand) (ts : Array TypeId) (r : Operand → Value) (A : AW) (k : Value → AW → Prop) :
    ACallK P (.call ⟨.value x, args, ts⟩) r A k = match r x with
      | .func (.func f) fs cs => ACall P f (fs.toList ++ args.toList.map r ++ cs.toList) A k
      | _ => False := rfl
@[simp] theorem APureK_call (P : Program) (x : Operand) (args : Array Operand) (ts : Array TypeId) (r : Operand → Value) (A : AW) (k : Value → Prop) :
    APureK P (.call ⟨.value x, args, ts⟩) r A k = match r x with
      | .func (.func f) fs cs => ∃ v, APure P f (fs.toList ++ args.toList.map r ++ cs.toList) A v ∧ k v
      | _ => False := rfl

/-! ### Slices as lists -/

/-- v is a slice whose cells are cs (n elements of 'size' cells). -/
def IsSl (A : AW) (size : Nat) (v : Value) (n : Nat) (cs : List Value) : Prop :=
  ((∃ o, v = .slice o 0 0) ∧ n = 0 ∧ cs = []) ∨
  ∃ p c row own u, v = .slice (some p) n c ∧ n ≤ c ∧ A.get p.block = some (.cells row own u) ∧ u = size ∧ p.off + n * size ≤ row.length ∧ cs = (row.drop p.off).take (n * size)

theorem IsSl.length {A : AW} {size : Nat} {v : Value} {n : Nat} {cs : List Value} (h : IsSl A size v n cs) : cs.length = n * size := by
  rcases h with ⟨_, rfl, rfl⟩ | ⟨p, c, row, own, u, _, _, _, _, h1, rfl⟩
  · simp
  · simp; omega

theorem IsSl.le {A B : AW} (hl : A.le B) (hw : A.Wf) {size : Nat} {v : Value} {n : Nat} {cs : List Value} (h : IsSl A size v n cs) : IsSl B size v n cs := by
  rcases h with h | ⟨p, c, row, own, u, h1, h2, h3, h4⟩
  · exact .inl h
  · exact .inr ⟨p, c, row, own, u, h1, h2, hl.keep hw h3, h4⟩

/-- A slice of integers of kind k reads as the list l. -/
def IsInts (A : AW) (k : IntKind) (v : Value) (l : List Int) : Prop := IsSl A 1 v l.length (l.map (Value.int k))

theorem IsInts.le {A B : AW} (hl : A.le B) (hw : A.Wf) {k : IntKind} {v : Value} {l : List Int} (h : IsInts A k v l) : IsInts B k v l := IsSl.le hl hw h
theorem IsInts.nil (A : AW) (k : IntKind) : IsInts A k (.slice none 0 0) [] := .inl ⟨⟨none, rfl⟩, rfl, rfl⟩
theorem IsSl.ro {A : AW} {size : Nat} {v : Value} {n : Nat} {cs : List Value} (h : IsSl A size v n cs) : IsSl A.ro size v n cs := by
  rcases h with h | ⟨p, c, row, own, u, h1, h2, h3, h4⟩
  · exact .inl h
  · exact .inr ⟨p, c, row, false, u, h1, h2, AW.ro_get h3, h4⟩
theorem IsInts.ro {A : AW} {k : IntKind} {v : Value} {l : List Int} (h : IsInts A k v l) : IsInts A.ro k v l := IsSl.ro h

/-- Reading an element: the address and the cell. -/
theorem IsSl.form {A : AW} {size : Nat} {v : Value} {n : Nat} {cs : List Value} (h : IsSl A size v n cs) : ∃ o c, v = .slice o n c ∧ n ≤ c := by
  rcases h with ⟨⟨o, rfl⟩, rfl, _⟩ | ⟨p, c, _, _, _, rfl, h, _⟩
  · exact ⟨_, _, rfl, Nat.le_refl _⟩
  · exact ⟨_, _, rfl, h⟩

/-- The two forms of a slice of integers. -/
theorem IsInts.cases {A : AW} {k : IntKind} {v : Value} {l : List Int} (h : IsInts A k v l) :
    ((∃ o, v = .slice o 0 0) ∧ l = []) ∨ ∃ p c row own, v = .slice (some p) l.length c ∧ l.length ≤ c ∧ A.get p.block = some (.cells row own 1) ∧ p.off + l.length ≤ row.length ∧
      ∀ j (hj : j < l.length), row[p.off + j]? = some (.int k l[j]) := by
  rcases h with ⟨h1, h2, h3⟩ | ⟨p, c, row, own, u, h1, h2, h3, h4, h5, h6⟩
  · exact .inl ⟨h1, List.eq_nil_of_length_eq_zero h2⟩
  · subst h4
    rw [Nat.mul_one] at h5 h6
    refine .inr ⟨p, c, row, own, h1, h2, h3, h5, fun j hj => ?_⟩
    have h7 : (l.map (Value.int k))[j]? = ((row.drop p.off).take l.length)[j]? := by rw [h6]
    rw [List.getElem?_map, List.getElem?_eq_getElem hj, List.getElem?_take_of_lt hj, List.getElem?_drop] at h7
    exact h7.symm

theorem IsInts.form {A : AW} {k : IntKind} {v : Value} {l : List Int} (h : IsInts A k v l) : ∃ o c, v = .slice o l.length c ∧ l.length ≤ c := IsSl.form h

/-- Reading an element: the address and the cell. -/
theorem IsInts.at {A : AW} {k : IntKind} {o : Option Addr} {c n : Nat} {l : List Int} (h : IsInts A k (.slice o n c) l) {i : Nat} (hi : i < l.length) :
    ∃ p row, o = some p ∧ A.row p.block = some row ∧ row[p.off + i]? = some (.int k l[i]) := by
  rcases h.cases with ⟨h1, rfl⟩ | ⟨p, c, row, own, h1, _, hg, _, hr⟩
  · simp at hi
  · injection h1 with h1 h2 h3
    exact ⟨p, row, h1, AW.row_of hg, hr i hi⟩


end Go.Stx
