/-
  One operation under one name: 'aq' (it leaves the memory alone) and 'ae' (it makes or writes memory), and that the model does the same.
-/
import Derived.Test.YtajhaafmlnoioaaStxMap
import Derived.Test.YtajhaafmlnoioaaStxEq
namespace Go.Stx
open Go

abbrev Fr := Nat → Value
def upd (a : Fr) (i : Nat) (v : Value) : Fr := fun j => if j = i then v else a j
def putF (a : Fr) (d : Option Tmp) (v : Value) : Fr :=
  match d with
  | some i => upd a i v
  | none => a

def evF (a : Fr) : Operand → Value
  | .tmp t => a t
  | .const v => v
  | .global g => .pointer (some ⟨g, 0, none⟩)
  | .func f => .func (.func f) #[] #[]

/-- w' has all that w has. -/
def Ext (w w' : World) : Prop := ∀ b, b < w.heap.size → w'.heap[b]? = w.heap[b]?

theorem Ext.refl (w : World) : Ext w w := fun _ _ => rfl
theorem Ext.cell {w w' : World} (h : Ext w w') {a : Addr} {v : Value} (hc : w.cell? a = some v) : w'.cell? a = some v := by
  have hb := World.block_lt_of_cell? w a hc
  rw [World.cell?_of_block (h _ hb)]
  exact hc
theorem Ext.sim {m : Mp} {A : AW} {w w' : World} (h : Ext w w') (hs : Sim m A w) : Sim m A w' := by
  refine ⟨fun i o hi => ?_, hs.inj, hs.fresh, hs.low⟩
  obtain ⟨p, h1, h2⟩ := hs.obj i o hi
  have hb := hs.blk hi h1
  exact ⟨p, h1, h2.heap (h _ hb)⟩

/-- A load gives the same value in every world that has all that w has. -/
theorem aload_ext {P : Program} {m : Mp} {A : AW} {w : World} (hs : Sim m A w) {t : TypeId} {p p' : Addr} {v : Value} (h : aload P A t p = some v) (hp : ARel m p p') :
    ∃ v', VRel m v v' ∧ ∀ w', Ext w w' → (loadVar t p').run P w' = .ok v' w' := by
  unfold aload at h
  split at h
  · rename_i cs hr ha
    obtain ⟨v', h1, h2⟩ := cell_rel hs hp hr (k := 0) (by simpa using h)
    have e : p'.add 0 = p' := by unfold Addr.add; simp
    rw [e] at h1
    refine ⟨v', h2, fun w' hx => ?_⟩
    simp only [loadVar, Sem.run_bind, run_isAgg ha, Result.andThen_ok, Bool.false_eq_true, if_false, run_load, hx.cell h1]
  · rename_i cs hr ha
    split at h
    · rename_i i hi
      split at h
      · rename_i hle
        injection h with h
        subst h
        obtain ⟨l', hl, h1, h2⟩ := row_conc hs hp hr i.size hle
        refine ⟨.agg l'.toArray, .of_LRel_agg h1, fun w' hx => ?_⟩
        have h3 := run_loadCells_list (P := P) w' p' l' (fun j v hv => hx.cell (h2 j v hv))
        rw [hl] at h3
        simp only [loadVar, Sem.run_bind, run_isAgg ha, Result.andThen_ok, if_true, run_sizeOf hi, h3, Sem.run_pure]
      · cases h
    · cases h
  · cases h

def aparts (r : Operand → Value) (ps : Array (Nat × Operand)) : List (Nat × Value) := ps.toList.map fun x => (x.1, r x.2)

/-- The operations that leave the memory alone. -/
def aq (P : Program) (A : AW) (r : Operand → Value) : Op → Option Value
  | .move x => some (r x)
  | .assign x => some (r x)
  | .pick c x y =>
    match r c with
    | .bool b => some (if b then r x else r y)
    | _ => none
  | .build t ps => abuild P t (aparts r ps)
  | .load t x =>
    match r x with
    | .pointer (some p) => aload P A t p
    | _ => none
  | .nilCheck x =>
    match r x with
    | .pointer (some p) => some (.pointer (some p))
    | _ => none
  | .binOp op t x y _ => abin2 P op t (r x) (r y)
  | .unOp op _ x => aun op (r x)
  | .convert s d x => aconv P s d (r x)
  | .makeInterface t x => amakeIface P t (r x)
  | .slice t x lo hi mx =>
    match mx with
    | none => aslice P A t (r x) (lo.map r) (hi.map r) none
    | some q => aslice0 P t (r x) (lo.map r) (hi.map r) (r q)
  | .lookup t x ix c => alookup P A t (r x) (r ix) c
  | .fieldAddr s x f => afieldAddr P s (r x) f
  | .field t x f => afield P t (r x) f
  | .indexAddr t x ix => aindexAddr P t (r x) (r ix)
  | .index t x ix => aindex P t (r x) (r ix)
  | .extract t i =>
    match r t with
    | .tuple vs => vs[i]?
    | _ => none
  | .makeFunc fn fs cs => some (.func fn (fs.map r) (cs.map r))
  | .call c =>
    match c.callee, c.args.toList, c.argTypes.toList with
    | .builtin .len, [x], [t] => alen P t (r x)
    | .builtin .min, [x, y], _ => amin false [r x, r y]
    | .builtin .max, [x, y], _ => amin true [r x, r y]
    | _, _, _ => none
  | _ => none

theorem ORel.map {m : Mp} {r r' : Operand → Value} (x : Option Operand) (h : ∀ y, x = some y → VRel m (r y) (r' y)) : ORel m (x.map r) (x.map r') := by
  cases x with
  | none => trivial
  | some y => exact h y rfl

theorem arr2 {α : Type} {a : Array α} {x y : α} (h : a.toList = [x, y]) : a = #[x, y] := by
  apply Array.ext'
  exact h
theorem arr1 {α : Type} {a : Array α} {x : α} (h : a.toList = [x]) : a = #[x] := by
  apply Array.ext'
  exact h

theorem aq_sound {P : Program} {m : Mp} {A : AW} {w : World} (hs : Sim m A w) {o : Oper} {r r' : Operand → Value} {v : Value} (hr : ∀ x ∈ o.op.operands, VRel m (r x) (r' x))
    (h : aq P A r o.op = some v) : ∃ v', VRel m v v' ∧ ∀ w', Ext w w' → (execOp r' o).run P w' = .ok (.value v') w' := by
  obtain ⟨dst, op, ty, pos, after, guard⟩ := o
  have lift : ∀ {s : Sem Value} {v' : Value} {w' : World}, s.run P w' = .ok v' w' → (do pure (.value (← s)) : Sem Next).run P w' = .ok (.value v') w' := fun {s v' w'} e => by
    simp only [Sem.run_bind, e, Result.andThen_ok, Sem.run_pure]
  cases op <;> simp only [aq] at h <;> (try (cases h; done))
  case move x =>
    injection h with h; subst h
    exact ⟨r' x, hr x (by simp [Op.operands]), fun w' _ => by simp [execOp]⟩
  case assign x =>
    injection h with h; subst h
    exact ⟨r' x, hr x (by simp [Op.operands]), fun w' _ => by simp [execOp]⟩
  case pick c x y =>
    have hc := hr c (by simp [Op.operands])
    split at h
    · rename_i b hb
      rw [hb] at hc
      injection h with h; subst h
      generalize hb' : r' c = c' at hc
      cases hc
      refine ⟨if b then r' x else r' y, ?_, fun w' _ => by simp [execOp, hb', asBool]⟩
      cases b
      · exact hr y (by simp [Op.operands])
      · exact hr x (by simp [Op.operands])
    · cases h
  case build t ps =>
    obtain ⟨v', h1, h2⟩ := abuild_sound (P := P) (m := m) (parts' := ps.map fun (i, x) => (i, r' x)) h (by simp [aparts]) (fun k p p' h1 h2 => by
      simp only [aparts, List.getElem?_map, Array.getElem?_toList, Option.map_eq_some_iff, Array.getElem?_map] at h1 h2
      obtain ⟨q, h3, rfl⟩ := h1
      obtain ⟨q', h4, rfl⟩ := h2
      rw [h3] at h4
      injection h4 with h4
      subst h4
      exact ⟨rfl, hr q.2 (by simp only [Op.operands, List.mem_toArray, List.mem_map]; exact ⟨q, Array.mem_toList_iff.2 (Array.mem_of_getElem? h3), rfl⟩)⟩)
    exact ⟨v', h1, fun w' _ => lift (h2 w')⟩
  case load t x =>
    have hx := hr x (by simp [Op.operands])
    split at h
    · rename_i p hp
      rw [hp] at hx
      generalize hb' : r' x = x' at hx
      cases hx with
      | ptr ha =>
        obtain ⟨v', h1, h2⟩ := aload_ext (P := P) hs h ha
        exact ⟨v', h1, fun w' hw => by simp [execOp, hb', Instr.loadAt, Instr.sureAddr, h2 w' hw]⟩
    · cases h
  case nilCheck x =>
    have hx := hr x (by simp [Op.operands])
    split at h
    · rename_i p hp
      rw [hp] at hx
      generalize hb' : r' x = x' at hx
      injection h with h; subst h
      cases hx with
      | ptr ha => exact ⟨_, .ptr ha, fun w' hw => by simp [execOp, hb']⟩
    · cases h
  case binOp op t x y ty' =>
    have hx := hr x (by simp [Op.operands])
    have hy := hr y (by simp [Op.operands])
    exact ⟨v, (abin2_sound h hx hy x y w).2, fun w' _ => lift (abin2_sound h hx hy x y w').1⟩
  case unOp op t x =>
    have hx := hr x (by simp [Op.operands])
    exact ⟨v, (aun_sound (P := P) h hx w).2, fun w' _ => lift (aun_sound h hx w').1⟩
  case convert s d x =>
    have hx := hr x (by simp [Op.operands])
    exact ⟨v, (aconv_sound h hx w).2, fun w' _ => lift (aconv_sound h hx w').1⟩
  case makeInterface t x =>
    obtain ⟨v', h1, h2⟩ := amakeIface_sound h (hr x (by simp [Op.operands]))
    exact ⟨v', h1, fun w' _ => lift (h2 w')⟩
  case slice t x lo hi mx =>
    cases mx with
    | none =>
      obtain ⟨v', h1, h2⟩ := aslice_sound hs (mx' := none) h (hr x (by simp [Op.operands])) (ORel.map (r' := r') lo fun y e => hr y (by simp [Op.operands, e])) (ORel.map (r' := r') hi fun y e => hr y (by simp [Op.operands, e])) trivial
      exact ⟨v', h1, fun w' _ => lift (h2 w')⟩
    | some q =>
      obtain ⟨v', h1, h2⟩ := aslice0_sound h (hr x (by simp [Op.operands])) (ORel.map (r' := r') lo fun y e => hr y (by simp [Op.operands, e])) (ORel.map (r' := r') hi fun y e => hr y (by simp [Op.operands, e])) (hr q (by simp [Op.operands]))
      exact ⟨v', h1, fun w' _ => lift (h2 w')⟩
  case lookup t x ix c =>
    obtain ⟨v', h1, h2⟩ := alookup_sound (P := P) hs h (hr x (by simp [Op.operands])) (hr ix (by simp [Op.operands]))
    exact ⟨v', h1, fun w' hw => lift (h2 w' hw)⟩
  case fieldAddr s x f =>
    obtain ⟨v', h1, h2⟩ := afieldAddr_sound h (hr x (by simp [Op.operands]))
    exact ⟨v', h1, fun w' _ => lift (h2 w')⟩
  case field t x f =>
    obtain ⟨v', h1, h2⟩ := afield_sound h (hr x (by simp [Op.operands]))
    exact ⟨v', h1, fun w' _ => lift (h2 w')⟩
  case indexAddr t x ix =>
    obtain ⟨v', h1, h2⟩ := aindexAddr_sound h (hr x (by simp [Op.operands])) (hr ix (by simp [Op.operands]))
    exact ⟨v', h1, fun w' _ => lift (h2 w')⟩
  case index t x ix =>
    obtain ⟨v', h1, h2⟩ := aindex_sound h (hr x (by simp [Op.operands])) (hr ix (by simp [Op.operands]))
    exact ⟨v', h1, fun w' _ => lift (h2 w')⟩
  case extract t i =>
    have hx := hr t (by simp [Op.operands])
    split at h
    · rename_i vs hp
      rw [hp] at hx
      generalize hb' : r' t = x' at hx
      cases hx with
      | tuple hsz h1 =>
        rename_i vs'
        have hlt : i < vs'.size := by rw [← hsz]; exact (Array.getElem?_eq_some_iff.1 h).1
        have e := Array.getElem?_eq_getElem hlt
        exact ⟨vs'[i], h1 i v _ h e, fun w' _ => by simp [execOp, hb', Instr.extract, e]⟩
    · cases h
  case makeFunc fn fs cs =>
    injection h with h; subst h
    refine ⟨.func fn (fs.map r') (cs.map r'), ?_, fun w' _ => by simp [execOp, Instr.makeFunc]⟩
    refine .func fn (by simp) (by simp) (fun i v v' h1 h2 => ?_) (fun i v v' h1 h2 => ?_)
    · simp only [Array.getElem?_map, Option.map_eq_some_iff] at h1 h2
      obtain ⟨q, h3, rfl⟩ := h1
      obtain ⟨q', h4, rfl⟩ := h2
      rw [h3] at h4
      injection h4 with h4
      subst h4
      exact hr q (by simp only [Op.operands, Array.mem_append]; exact .inl (Array.mem_of_getElem? h3))
    · simp only [Array.getElem?_map, Option.map_eq_some_iff] at h1 h2
      obtain ⟨q, h3, rfl⟩ := h1
      obtain ⟨q', h4, rfl⟩ := h2
      rw [h3] at h4
      injection h4 with h4
      subst h4
      exact hr q (by simp only [Op.operands, Array.mem_append]; exact .inr (Array.mem_of_getElem? h3))
  case call c =>
    obtain ⟨callee, args, argTypes⟩ := c
    split at h
    · rename_i x t h1 h2 h3
      simp only at h1 h2 h3
      subst h1
      have e2 := arr1 h2
      have e3 := arr1 h3
      subst e2; subst e3
      have hx := hr x (by simp [Op.operands, Call.operands])
      have hl := alen_sound (P := P) (ty := ty) h hx
      refine ⟨v, hl.1, fun w' _ => ?_⟩
      have := hl.2 w'
      simp [execOp, resolve, invoke, builtin, this]
    · rename_i x y h1 h2
      simp only at h1 h2
      subst h1
      have e2 := arr2 h2
      subst e2
      have hx := hr x (by simp [Op.operands, Call.operands])
      have hy := hr y (by simp [Op.operands, Call.operands])
      have hl := amin_sound (P := P) (ts := argTypes) (ty := ty) (l' := #[r' x, r' y]) h (.cons hx (.cons hy .nil))
      refine ⟨v, hl.1, fun w' _ => ?_⟩
      have := hl.2 w'
      simp only [Bool.false_eq_true, if_false] at this
      simp [execOp, resolve, invoke, builtin, this]
    · rename_i x y h1 h2
      simp only at h1 h2
      subst h1
      have e2 := arr2 h2
      subst e2
      have hx := hr x (by simp [Op.operands, Call.operands])
      have hy := hr y (by simp [Op.operands, Call.operands])
      have hl := amin_sound (P := P) (ts := argTypes) (ty := ty) (l' := #[r' x, r' y]) h (.cons hx (.cons hy .nil))
      refine ⟨v, hl.1, fun w' _ => ?_⟩
      have := hl.2 w'
      simp only [if_true] at this
      simp [execOp, resolve, invoke, builtin, this]
    · cases h

/-- The operations that make or write memory. -/
def ae (P : Program) (A : AW) (r : Operand → Value) : Op → Option (Value × AW)
  | .alloc t => aalloc P A t
  | .box _ x => some (abox A (r x))
  | .buildSlice t len ps => abuildSlice P A t len (aparts r ps)
  | .store t x y =>
    match r x with
    | .pointer (some p) =>
      match astore P A t p (r y) with
      | some A1 => some (undef, A1)
      | none => none
    | _ => none
  | .makeSlice t l c => amake P A t (r l) (r c)
  | .makeMap t x => amakeMap P A t (x.map r)
  | .mapUpdate t x k v =>
    match amapUpdate P A t (r x) (r k) (r v) with
    | some A1 => some (undef, A1)
    | none => none
  | .insert t x k v =>
    match amapUpdate P A t (r x) (r k) (r v) with
    | some A1 => some (undef, A1)
    | none => none
  | .call c =>
    match c.callee, c.args.toList, c.argTypes.toList with
    | .builtin .append, [s, x], [t, u] => if t = u then aappend P A t u (r s) (r x) else aappendZ P A t u (r s) (r x)
    | .builtin .clear, [x], [t] =>
      match aclear P A t (r x) with
      | some A1 => some (undef, A1)
      | none => none
    | _, _, _ => none
  | _ => none

/-- An operation yields a value, or nothing. -/
def Yield (P : Program) (r' : Operand → Value) (o : Oper) (w w' : World) (v' : Value) : Prop :=
  (execOp r' o).run P w = .ok (.value v') w' ∨ ((execOp r' o).run P w = .ok .skip w' ∧ v' = undef)

theorem ae_sound {P : Program} {m : Mp} {A A1 : AW} {w : World} (hs : Sim m A w) {o : Oper} {r r' : Operand → Value} {v : Value} (hr : ∀ x ∈ o.op.operands, VRel m (r x) (r' x))
    (h : ae P A r o.op = some (v, A1)) : ∃ v' w' m', Yield P r' o w w' v' ∧ Evo m A w m' A1 w' ∧ VRel m' v v' := by
  obtain ⟨dst, op, ty, pos, after, guard⟩ := o
  have lift : ∀ {s : Sem Value} {v' : Value} {w w' : World}, s.run P w = .ok v' w' → (do pure (.value (← s)) : Sem Next).run P w = .ok (.value v') w' := fun {s v' w w'} e => by
    simp only [Sem.run_bind, e, Result.andThen_ok, Sem.run_pure]
  cases op <;> simp only [ae] at h <;> (try (cases h; done))
  case alloc t =>
    obtain ⟨v', w', m', h1, h2, h3⟩ := aalloc_sound hs h
    exact ⟨v', w', m', .inl (lift h1), h2, h3⟩
  case box t x =>
    injection h with h
    obtain ⟨v', w', m', h1, h2, h3⟩ := abox_sound (P := P) hs t (hr x (by simp [Op.operands]))
    rw [h] at h2 h3
    exact ⟨v', w', m', .inl (lift h1), h2, h3⟩
  case buildSlice t len ps =>
    obtain ⟨v', w', m', h1, h2, h3⟩ := abuildSlice_sound (P := P) (m := m) hs (parts' := ps.map fun (i, x) => (i, r' x)) h (by simp [aparts]) (fun k p p' h1 h2 => by
      simp only [aparts, List.getElem?_map, Array.getElem?_toList, Option.map_eq_some_iff, Array.getElem?_map] at h1 h2
      obtain ⟨q, h3, rfl⟩ := h1
      obtain ⟨q', h4, rfl⟩ := h2
      rw [h3] at h4
      injection h4 with h4
      subst h4
      exact ⟨rfl, hr q.2 (by simp only [Op.operands, List.mem_toArray, List.mem_map]; exact ⟨q, Array.mem_toList_iff.2 (Array.mem_of_getElem? h3), rfl⟩)⟩)
    exact ⟨v', w', m', .inl (lift h1), h2, h3⟩
  case store t x y =>
    have hx := hr x (by simp [Op.operands])
    split at h
    · rename_i p hp
      rw [hp] at hx
      generalize hb' : r' x = x' at hx
      cases hx with
      | ptr ha =>
        rename_i p'
        split at h
        · rename_i A2 hst
          simp only [Option.some.injEq, Prod.mk.injEq] at h
          obtain ⟨rfl, rfl⟩ := h
          obtain ⟨w', h1, h2⟩ := astore_sound (P := P) hs hst ha (hr y (by simp [Op.operands]))
          refine ⟨undef, w', m, .inr ⟨?_, rfl⟩, h2, .tuple rfl (fun i v v' h => by simp at h)⟩
          simp only [execOp, Instr.storeAt, hb', Instr.sureAddr, Sem.run_bind, Sem.run_pure, Result.andThen_ok, h1]
        · cases h
    · cases h
  case makeSlice t l c =>
    obtain ⟨v', w', m', h1, h2, h3⟩ := amake_sound hs h (hr l (by simp [Op.operands])) (hr c (by simp [Op.operands]))
    exact ⟨v', w', m', .inl (lift h1), h2, h3⟩
  case makeMap t x =>
    obtain ⟨v', w', m', h1, h2, h3⟩ := amakeMap_sound (P := P) hs h (ORel.map (r' := r') x fun y e => hr y (by simp [Op.operands, e]))
    exact ⟨v', w', m', .inl (lift h1), h2, h3⟩
  case mapUpdate t x k y =>
    split at h
    · rename_i A2 hst
      simp only [Option.some.injEq, Prod.mk.injEq] at h
      obtain ⟨rfl, rfl⟩ := h
      obtain ⟨w', h1, h2⟩ := amapUpdate_sound (P := P) hs hst (hr x (by simp [Op.operands])) (hr k (by simp [Op.operands])) (hr y (by simp [Op.operands]))
      refine ⟨undef, w', m, .inr ⟨?_, rfl⟩, h2, .tuple rfl (fun i v v' h => by simp at h)⟩
      simp only [execOp, Sem.run_bind, Sem.run_pure, Result.andThen_ok, h1]
    · cases h
  case insert t x k y =>
    split at h
    · rename_i A2 hst
      simp only [Option.some.injEq, Prod.mk.injEq] at h
      obtain ⟨rfl, rfl⟩ := h
      obtain ⟨w', h1, h2⟩ := amapUpdate_sound (P := P) hs hst (hr x (by simp [Op.operands])) (hr k (by simp [Op.operands])) (hr y (by simp [Op.operands]))
      refine ⟨undef, w', m, .inr ⟨?_, rfl⟩, h2, .tuple rfl (fun i v v' h => by simp at h)⟩
      simp only [execOp, Sem.run_bind, Sem.run_pure, Result.andThen_ok, h1]
    · cases h
  case call c =>
    obtain ⟨callee, args, argTypes⟩ := c
    split at h
    rotate_left
    · rename_i x t h1 h2 h3
      simp only at h1 h2 h3
      subst h1
      have e2 := arr1 h2
      have e3 := arr1 h3
      subst e2; subst e3
      split at h <;> try (cases h; done)
      rename_i A2 hst
      simp only [Option.some.injEq, Prod.mk.injEq] at h
      obtain ⟨rfl, rfl⟩ := h
      obtain ⟨w', h1, h2⟩ := aclear_sound (P := P) (ty := ty) hs hst (hr x (by simp [Op.operands, Call.operands]))
      refine ⟨undef, w', m, .inl ?_, h2, .tuple rfl (fun i v v' h => by simp at h)⟩
      simp [execOp, resolve, invoke, builtin, h1]
    rotate_left
    · rename_i s x t u h1 h2 h3
      simp only at h1 h2 h3
      subst h1
      have e2 := arr2 h2
      have e3 := arr2 h3
      subst e2; subst e3
      have hsv := hr s (by simp [Op.operands, Call.operands])
      have hxv := hr x (by simp [Op.operands, Call.operands])
      split at h
      · obtain ⟨v', w', m', h1, h2, h3⟩ := append_sound (P := P) (ty := ty) hs h hsv hxv
        refine ⟨v', w', m', .inl ?_, h2, h3⟩
        simp [execOp, resolve, invoke, builtin, h1]
      · obtain ⟨v', w', m', h1, h2, h3⟩ := appendZ_sound (P := P) (ty := ty) hs h hsv hxv
        refine ⟨v', w', m', .inl ?_, h2, h3⟩
        simp [execOp, resolve, invoke, builtin, h1]
    · cases h

end Go.Stx
