/-
  make, new variables, struct and array values, lengths, interfaces.
-/
import Derived.Test.YtajhaafmlnoioaaStxOps3
namespace Go.Stx
open Go

theorem run_asInt {P : Program} {w : World} {k : IntKind} {n : Int} : (asInt (.int k n)).run P w = .ok n w := by simp [asInt, asIntOf]

theorem wrap_i64 {x : Int} (h0 : -9223372036854775808 ≤ x) (h1 : x ≤ 9223372036854775807) : IntKind.i64.wrap x = x := by
  simp only [IntKind.wrap, IntKind.bits, IntKind.signed, Bool.true_and]
  split
  · rename_i h; have := of_decide_eq_true h; omega
  · rename_i h; have := of_decide_eq_false (eq_false_of_ne_true h); omega

theorem wrap_u64 {x : Int} (h0 : 0 ≤ x) (h1 : x < 18446744073709551616) : IntKind.u64.wrap x = x := by
  simp only [IntKind.wrap, IntKind.bits, IntKind.signed, Bool.false_and, Bool.false_eq_true, if_false]
  omega

def amake (P : Program) (A : AW) (t : TypeId) (l c : Value) : Option (Value × AW) :=
  match P.underlying t, l, c with
  | some (.slice e), .int _ l, .int _ c =>
    match P.info? e with
    | some i =>
      match i.zero with
      | some z =>
        if z.cells.size = i.size ∧ 0 < i.size ∧ z.cells.toList.all scalarV ∧ 0 ≤ l ∧ l ≤ c ∧ c ≤ 140737488355328 ∧ c * i.bytes ≤ 140737488355328 then
          some (.slice (some ⟨A.next, 0, none⟩) l.toNat c.toNat, A.alloc (.cells (azeros z.cells.toList c.toNat) true i.size))
        else none
      | none => none
    | none => none
  | _, _, _ => none

theorem amake_sound {P : Program} {m : Mp} {A A1 : AW} {w : World} (hs : Sim m A w) {t : TypeId} {l c l' c' v : Value} (h : amake P A t l c = some (v, A1)) (hl : VRel m l l') (hc : VRel m c c') :
    ∃ v' w' m', (Instr.makeSlice t l' c').run P w = .ok v' w' ∧ Evo m A w m' A1 w' ∧ VRel m' v v' := by
  unfold amake at h
  split at h <;> try (cases h; done)
  rename_i e k n k' q hu
  cases hl; cases hc
  split at h <;> try (cases h; done)
  rename_i i hi
  split at h <;> try (cases h; done)
  rename_i z hz
  split at h <;> try (cases h; done)
  rename_i hcond
  obtain ⟨hzs, h0, hsc, hn0, hnq, hq, hqb⟩ := hcond
  simp only [Option.some.injEq, Prod.mk.injEq] at h
  obtain ⟨rfl, rfl⟩ := h
  have hzc := azeros_conc z.cells q.toNat (by omega)
  rw [hzs] at hzc
  obtain ⟨w', m', h3, h4, h5⟩ := newRow_sound (P := P) hs e i.size (cur := (Array.range (q.toNat * i.size)).map (fun j => z.cells[j % i.size]!)) (by rw [hzc]; exact .of_scalars (azeros_scalar hsc q.toNat) m)
  have hw1 : IntKind.i64.wrap n = n := wrap_i64 (by omega) (by omega)
  have hw2 : IntKind.i64.wrap q = q := wrap_i64 (by omega) (by omega)
  refine ⟨.slice (some ⟨w.heap.size, 0, none⟩) n.toNat q.toNat, w', m', ?_, h4, ?_⟩
  · have hty : (typeInfo e).run P w = .ok i w := by simp [typeInfo, hi]
    have hb : (i.bytes : Int) * q ≤ 140737488355328 := by rw [Int.mul_comm]; exact hqb
    have c1 : (decide (q < 0) || decide ((i.bytes : Int) * q > 2 ^ 48)) = false := by
      simp only [Bool.or_eq_false_iff, decide_eq_false_iff_not]
      constructor <;> omega
    simp only [Instr.makeSlice, Sem.run_bind, run_underlying hu, Result.andThen_ok, run_asInt, hty, hw1, hw2, c1]
    rw [if_neg (by simp; omega)]
    simp only [Sem.run_bind, run_askRoom, Result.andThen_ok, run_sizeOf hi]
    by_cases hn : q.toNat * i.size = 0
    · rw [if_pos hn]
      have hfun : ((Array.range (q.toNat * i.size)).map fun j => (#[] : Array Value)[j % (#[] : Array Value).size]!) = (Array.range (q.toNat * i.size)).map (fun j => z.cells[j % i.size]!) := by
        simp [hn]
      simp only [Sem.run_bind, Sem.run_pure, Result.andThen_ok, hfun, h3]
    · rw [if_neg hn]
      have hzv : (zeroValue e).run P w = .ok z w := by simp [zeroValue, typeInfo, hi, hz]
      simp only [Sem.run_bind, Sem.run_pure, Result.andThen_ok, hzv, hzs, h3]
  · refine .slice (.inl ⟨rfl, rfl, ⟨w.heap.size, 0, i.size, ((Array.range (q.toNat * i.size)).map (fun j => z.cells[j % i.size]!)).size⟩, by rw [h5]; simp [Mp.ext], rfl, rfl, ?_⟩) (by omega) (Nat.le_refl _)
    show 0 + q.toNat * i.size ≤ ((Array.range (q.toNat * i.size)).map (fun j => z.cells[j % i.size]!)).size
    simp

def aalloc (P : Program) (A : AW) (t : TypeId) : Option (Value × AW) :=
  match P.info? t with
  | some i =>
    match i.zero with
    | some z => if groundV z then some (abox A z) else none
    | none => none
  | none => none

theorem aalloc_sound {P : Program} {m : Mp} {A A1 : AW} {w : World} (hs : Sim m A w) {t : TypeId} {v : Value} (h : aalloc P A t = some (v, A1)) :
    ∃ v' w' m', (Instr.alloc t true (.tuple #[])).run P w = .ok v' w' ∧ Evo m A w m' A1 w' ∧ VRel m' v v' := by
  unfold aalloc at h
  split at h <;> try (cases h; done)
  rename_i i hi
  split at h <;> try (cases h; done)
  rename_i z hz
  split at h <;> try (cases h; done)
  rename_i hg
  injection h with h
  obtain ⟨p', w', m', h1, h2, h3⟩ := abox_sound (P := P) hs t (VRel.of_ground hg m)
  rw [h] at h2 h3
  refine ⟨p', w', m', ?_, h2, h3⟩
  have hzv : (zeroValue t).run P w = .ok z w := by simp [zeroValue, typeInfo, hi, hz]
  simp only [Instr.alloc, Sem.run_bind, hzv, Result.andThen_ok]
  exact h1

/-! ### Struct and array values -/

def aputsP (place : Nat → Option (Nat × Nat)) : List (Nat × Value) → List Value → Option (List Value)
  | [], cs => some cs
  | (i, v) :: rest, cs =>
    match place i with
    | some (off, size) => if v.cells.size = size ∧ off + size ≤ cs.length then aputsP place rest (setCells cs off v.cells.toList) else none
    | none => none

theorem aputsP_sound {m : Mp} {place : Nat → Option (Nat × Nat)} : ∀ (parts parts' : List (Nat × Value)) (cs r : List Value) (cs' : Array Value), aputsP place parts cs = some r → LRel m cs cs'.toList →
    parts.length = parts'.length → (∀ (k : Nat) (p p' : Nat × Value), parts[k]? = some p → parts'[k]? = some p' → p.1 = p'.1 ∧ VRel m p.2 p'.2) →
    ∃ r', Instr.fill place cs' parts' = some r' ∧ LRel m r r'.toList
  | [], parts', cs, r, cs', h, hc, hl, _ => by
    cases parts' with
    | cons _ _ => simp at hl
    | nil =>
      injection h with h
      subst h
      exact ⟨cs', rfl, hc⟩
  | (i, v) :: rest, parts', cs, r, cs', h, hc, hl, hp => by
    cases parts' with
    | nil => simp at hl
    | cons p' rest' =>
      obtain ⟨i', v'⟩ := p'
      obtain ⟨h1, h2⟩ := hp 0 _ _ rfl rfl
      simp only at h1 h2
      subst h1
      unfold aputsP at h
      split at h
      · rename_i off size hpl
        split at h
        · rename_i hcond
          obtain ⟨hz, hle⟩ := hcond
          have hcl := h2.cells
          have hz' : v'.cells.size = size := by have := hcl.1; simp at this; omega
          have hsz : cs'.size = cs.length := by have := hc.1; simp at this; omega
          have hfold := foldl_set_eq v'.cells.toList cs' off 0 (by simp; omega)
          obtain ⟨r', h3, h4⟩ := aputsP_sound rest rest' _ r (v'.cells.zipIdx.foldl (fun cs (c, j) => cs.setIfInBounds (off + j) c) cs') h (by
            rw [← Array.foldl_toList, Array.toList_zipIdx, hfold]
            exact setCells_rel _ _ _ _ _ hc hcl (by simp; omega)) (by simpa using hl) (fun k p p' a b => hp (k + 1) p p' (by simpa using a) (by simpa using b))
          refine ⟨r', ?_, h4⟩
          simp only [Instr.fill, hpl, hz', ne_eq, not_true_eq_false, decide_false, Bool.false_or, hsz, decide_eq_true_eq]
          rw [if_neg (by omega)]
          exact h3
        · cases h
      · cases h

/-- Where the fields of a struct lie. -/
def aplaces (P : Program) (fs : List Field) : Option (List (Nat × Nat)) :=
  match fs with
  | [] => some []
  | f :: r =>
    match P.info? f.type, aplaces P r with
    | some i, some l => some ((f.offset, i.size) :: l)
    | _, _ => none

theorem aplaces_run {P : Program} {w : World} : ∀ (fs : List Field) (l : List (Nat × Nat)), aplaces P fs = some l →
    (fs.mapM fun f => (do pure (f.offset, ← sizeOf f.type) : Sem (Nat × Nat))).run P w = .ok l w
  | [], l, h => by injection h with h; subst h; rfl
  | f :: r, l, h => by
    unfold aplaces at h
    split at h
    · rename_i i l' hi hl
      injection h with h
      subst h
      simp only [List.mapM_cons, Sem.run_bind, run_sizeOf hi, Result.andThen_ok, Sem.run_pure, aplaces_run r l' hl]
    · cases h

theorem run_mapM_array {P : Program} {w w' : World} {α β : Type} (f : α → Sem β) (l : Array α) (r : List β) (h : (l.toList.mapM f).run P w = .ok r w') :
    (l.mapM f).run P w = .ok r.toArray w' := by
  rw [Array.mapM_eq_mapM_toList]
  simp only [Sem.run_map, h, Result.andThen_ok]

def abuild (P : Program) (t : TypeId) (parts : List (Nat × Value)) : Option Value :=
  match P.info? t with
  | some i =>
    match i.zero with
    | some z =>
      if z.cells.toList.all scalarV then
        match P.underlying t with
        | some (.struct fs) =>
          match aplaces P fs.toList with
          | some l =>
            match aputsP (fun k => l[k]?) parts z.cells.toList with
            | some cs => some (.agg cs.toArray)
            | none => none
          | none => none
        | some (.array _ e) =>
          match P.info? e with
          | some ie =>
            match aputsP (fun k => some (k * ie.size, ie.size)) parts z.cells.toList with
            | some cs => some (.agg cs.toArray)
            | none => none
          | none => none
        | _ => none
      else none
    | none => none
  | none => none

theorem abuild_sound {P : Program} {m : Mp} {t : TypeId} {parts : List (Nat × Value)} {parts' : Array (Nat × Value)} {v : Value}
    (h : abuild P t parts = some v) (hl : parts.length = parts'.size)
    (hp : ∀ (k : Nat) (p p' : Nat × Value), parts[k]? = some p → parts'[k]? = some p' → p.1 = p'.1 ∧ VRel m p.2 p'.2) :
    ∃ v', VRel m v v' ∧ ∀ w, (Instr.build t parts').run P w = .ok v' w := by
  unfold abuild at h
  split at h <;> try (cases h; done)
  rename_i i hi
  split at h <;> try (cases h; done)
  rename_i z hz
  split at h <;> try (cases h; done)
  rename_i hsc
  have hzv : ∀ w, (zeroValue t).run P w = .ok z w := fun w => by simp [zeroValue, typeInfo, hi, hz]
  split at h <;> try (cases h; done)
  · rename_i fs hu
    split at h <;> try (cases h; done)
    rename_i l hpl
    split at h <;> try (cases h; done)
    rename_i cs hcs
    injection h with h
    subst h
    obtain ⟨r', h1, h2⟩ := aputsP_sound (m := m) parts parts'.toList _ cs z.cells hcs (.of_scalars hsc m) (by simpa using hl) (fun k p p' a b => hp k p p' a (by simpa using b))
    refine ⟨.agg r', ?_, fun w => ?_⟩
    · have := VRel.of_LRel_agg h2
      simpa using this
    · have hm := run_mapM_array _ fs l (aplaces_run (w := w) fs.toList l hpl)
      simp only [Instr.build, Sem.run_bind, hzv, Result.andThen_ok, run_underlying hu, hm]
      have e : (fun (x : Nat) => l.toArray[x]?) = fun (k : Nat) => l[k]? := by funext k; simp
      rw [e, h1]
      rfl
  · rename_i n e hu
    split at h <;> try (cases h; done)
    rename_i ie hie
    split at h <;> try (cases h; done)
    rename_i cs hcs
    injection h with h
    subst h
    obtain ⟨r', h1, h2⟩ := aputsP_sound (m := m) parts parts'.toList _ cs z.cells hcs (.of_scalars hsc m) (by simpa using hl) (fun k p p' a b => hp k p p' a (by simpa using b))
    refine ⟨.agg r', ?_, fun w => ?_⟩
    · have := VRel.of_LRel_agg h2
      simpa using this
    · simp only [Instr.build, Sem.run_bind, hzv, Result.andThen_ok, run_underlying hu, run_sizeOf hie, h1, Sem.run_pure]

/-! ### Lengths, interfaces -/

def alen (P : Program) (t : TypeId) (x : Value) : Option Value :=
  match P.underlying t, x with
  | some .string, .string s => some (.int .i64 s.size)
  | some (.slice _), .slice _ n _ => some (.int .i64 n)
  | some (.array n _), _ => some (.int .i64 n)
  | _, _ => none

theorem alen_sound {P : Program} {m : Mp} {t ty : TypeId} {x x' v : Value} (h : alen P t x = some v) (hx : VRel m x x') :
    VRel m v v ∧ ∀ w, (Builtin.len_ #[t] ty #[x']).run P w = .ok v w := by
  unfold alen at h
  split at h
  · rename_i s hu; injection h with h; subst h; cases hx
    exact ⟨by constructor, fun w => by simp [Builtin.len_, run_underlying hu, goInt]⟩
  · rename_i e a n c hu; injection h with h; subst h
    cases hx <;> exact ⟨by constructor, fun w => by simp [Builtin.len_, run_underlying hu, goInt]⟩
  · rename_i n e hu; injection h with h; subst h
    exact ⟨by constructor, fun w => by simp [Builtin.len_, run_underlying hu, goInt]⟩
  · cases h

def amin (mx : Bool) : List Value → Option Value
  | [.int k a, .int k' b] => if k = k' then some (.int k (if mx then (if a < b then b else a) else (if b < a then b else a))) else none
  | _ => none

theorem amin_sound {P : Program} {m : Mp} {ts : Array TypeId} {ty : TypeId} {mx : Bool} {l : List Value} {l' : Array Value} {v : Value} (h : amin mx l = some v) (hl : LRel m l l'.toList) :
    VRel m v v ∧ ∀ w, ((if mx then Builtin.max_ ts ty l' else Builtin.min_ ts ty l')).run P w = .ok v w := by
  unfold amin at h
  split at h
  · rename_i k a k' b
    obtain ⟨x', t', e1, h1, h2⟩ := hl.inv_cons
    obtain ⟨y', t'', e2, h3, h4⟩ := h2.inv_cons
    have e3 := h4.inv_nil
    cases h1; cases h3
    subst e3; subst e2
    have hl' : l' = #[.int k a, .int k' b] := by apply Array.ext'; exact e1
    subst hl'
    split at h
    · injection h with h
      subst h
      cases mx
      · exact ⟨by constructor, fun w => by simp [Builtin.min_, Builtin.min2]⟩
      · refine ⟨by constructor, fun w => ?_⟩
        simp [Builtin.max_, Builtin.max2]
    · cases h
  · cases h

def amakeIface (P : Program) (t : TypeId) (x : Value) : Option Value :=
  match P.underlying t with
  | some (.interface _) => none
  | some _ => some (.iface t x)
  | none => none

theorem amakeIface_sound {P : Program} {m : Mp} {t : TypeId} {x x' v : Value} (h : amakeIface P t x = some v) (hx : VRel m x x') :
    ∃ v', VRel m v v' ∧ ∀ w, (Instr.makeInterface t x').run P w = .ok v' w := by
  unfold amakeIface at h
  cases hu : P.underlying t with
  | none => simp [hu] at h
  | some d =>
    rw [hu] at h
    cases d <;> simp only [Option.some.injEq] at h <;> (try (cases h; done)) <;> subst h <;>
      exact ⟨.iface t x', .iface t hx, fun w => by simp [Instr.makeInterface, run_underlying hu]⟩

end Go.Stx
