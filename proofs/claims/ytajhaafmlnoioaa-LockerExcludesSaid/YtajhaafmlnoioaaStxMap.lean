/-
  Maps with keys that are integers or strings: made, written, read, in the abstract memory.
-/
import Derived.Test.YtajhaafmlnoioaaStxOps4
import Derived.MapKept
import Derived.Lib.AppendZerosOnto
namespace Go.Stx
open Go
open Go.MapKept (run_findKey)

def isKeyDesc : TypeDesc → Bool
  | .int _ => true
  | .string => true
  | _ => false

def afindKey (d : TypeDesc) (k : Value) : List (Value × Value) → Nat → Option (Option (Nat × Value))
  | [], _ => some none
  | e :: es, i =>
    match Instr.sameNow d k e.1 with
    | some true => some (some (i, e.2))
    | some false => afindKey d k es (i + 1)
    | none => none

theorem sameNow_rel {m : Mp} {d : TypeDesc} {a a' b b' : Value} {r : Bool} (h : Instr.sameNow d a b = some r) (ha : VRel m a a') (hb : VRel m b b') : Instr.sameNow d a' b' = some r := by
  unfold Instr.sameNow at h
  split at h
  · cases ha; cases hb; exact h
  · cases ha; cases hb; exact h
  · cases ha; cases hb; exact h
  · cases h

theorem sameNow_bits {d : TypeDesc} {a b : Value} (h : Instr.sameNow d a b = some true) : Instr.sameBits 10000 b a = true := by
  unfold Instr.sameNow at h
  split at h
  · rename_i k x k' y
    split at h
    · rename_i e
      subst e
      simp only [Option.some.injEq, beq_iff_eq] at h
      subst h
      simp [Instr.sameBits]
    · cases h
  · rename_i x y
    simp only [Option.some.injEq] at h
    have e : x.data = y.data := eq_of_beq (show (x.data == y.data) = true from h)
    show (y.data == x.data) = true
    rw [e]
    exact beq_self_eq_true _
  · simp only [Option.some.injEq] at h
    have := LawfulBEq.eq_of_beq h
    subst this
    simp [Instr.sameBits]
  · cases h

theorem afindKey_conc {m : Mp} {d : TypeDesc} {k k' : Value} (hk : VRel m k k') : ∀ (es : List (Value × Value)) (ents : List MapEntry) (i : Nat) (r : Option (Nat × Value)),
    es.length = ents.length → (∀ (j : Nat) (x : Value × Value) (e : MapEntry), es[j]? = some x → ents[j]? = some e → VRel m x.1 e.key ∧ VRel m x.2 e.val) →
    afindKey d k es i = some r → ∃ r', Instr.findNow d k' ents i = some r' ∧
      ((r = none ∧ r' = none) ∨ ∃ j v v' e, r = some (i + j, v) ∧ r' = some (i + j, v') ∧ VRel m v v' ∧ ents[j]? = some e ∧ Instr.sameNow d k' e.key = some true)
  | [], ents, i, r, hl, _, h => by
    cases ents with
    | cons _ _ => simp at hl
    | nil => injection h with h; subst h; exact ⟨none, rfl, .inl ⟨rfl, rfl⟩⟩
  | x :: es, ents, i, r, hl, hr, h => by
    cases ents with
    | nil => simp at hl
    | cons e ents =>
      obtain ⟨h1, h2⟩ := hr 0 x e rfl rfl
      unfold afindKey at h
      split at h
      · rename_i hs
        injection h with h
        subst h
        have hs' := sameNow_rel hs hk h1
        exact ⟨some (i, e.val), by simp [Instr.findNow, hs'], .inr ⟨0, x.2, e.val, e, rfl, rfl, h2, rfl, hs'⟩⟩
      · rename_i hs
        have hs' := sameNow_rel hs hk h1
        obtain ⟨r', h3, h4⟩ := afindKey_conc hk es ents (i + 1) r (by simpa using hl) (fun j y f a b => hr (j + 1) y f (by simpa using a) (by simpa using b)) h
        refine ⟨r', by simp [Instr.findNow, hs', h3], ?_⟩
        rcases h4 with h4 | ⟨j, v, v', e', h5, h6, h7, h8, h9⟩
        · exact .inl h4
        · refine .inr ⟨j + 1, v, v', e', ?_, ?_, h7, by simpa using h8, h9⟩
          · rw [h5, show i + 1 + j = i + (j + 1) by omega]
          · rw [h6, show i + 1 + j = i + (j + 1) by omega]
      · cases h

theorem run_checkKey' {P : Program} {w : World} {kt : TypeId} {d : TypeDesc} {k : Value} (hd : P.underlying kt = some d) (hk : isKeyDesc d = true) (e : Bool) (n : Nat) :
    (Instr.checkKey e (n + 1) kt k).run P w = .ok () w := by
  have : d = .string ∨ ∃ i, d = .int i := by
    unfold isKeyDesc at hk
    split at hk
    · exact .inr ⟨_, rfl⟩
    · exact .inl rfl
    · cases hk
  unfold Instr.checkKey
  rw [Sem.run_bind, run_underlying hd]
  rcases this with rfl | ⟨i, rfl⟩ <;> rfl

theorem run_checkKey0 {P : Program} {w : World} {kt : TypeId} {d : TypeDesc} {k : Value} (hd : P.underlying kt = some d) (hk : isKeyDesc d = true) (e : Bool) :
    (Instr.checkKey e 10000 kt k).run P w = .ok () w := run_checkKey' hd hk e 9999

def amapZero (P : Program) (e : TypeId) (commaOk : Bool) : Option Value :=
  match P.info? e with
  | some i =>
    match i.zero with
    | some z => if groundV z then (if commaOk then (if scalarV z then some (.tuple #[z, .bool false]) else none) else some z) else none
    | none => none
  | none => none

/-- m[k]. -/
def alookup (P : Program) (A : AW) (t : TypeId) (x ix : Value) (commaOk : Bool) : Option Value :=
  match P.underlying t with
  | some (.map kt e) =>
    match P.underlying kt with
    | some d =>
      if isKeyDesc d then
        match x with
        | .map none => amapZero P e commaOk
        | .map (some r) =>
          match A.get r with
          | some (.map es _) =>
            match afindKey d ix es 0 with
            | some (some (_, v)) => some (if commaOk then .tuple #[v, .bool true] else v)
            | some none => amapZero P e commaOk
            | none => none
          | _ => none
        | _ => none
      else none
    | none => none
  | _ => none

theorem amapZero_conc {P : Program} {e : TypeId} {c : Bool} {v : Value} (h : amapZero P e c = some v) (m : Mp) :
    VRel m v v ∧ ∃ z, v = (if c then .tuple #[z, .bool false] else z) ∧ ∀ w, (zeroValue e).run P w = .ok z w := by
  unfold amapZero at h
  split at h <;> try (cases h; done)
  rename_i i hi
  split at h <;> try (cases h; done)
  rename_i z hz
  split at h <;> try (cases h; done)
  rename_i hg
  have hzv : ∀ w, (zeroValue e).run P w = .ok z w := fun w => by simp [zeroValue, typeInfo, hi, hz]
  cases c
  · simp only [Bool.false_eq_true, if_false, Option.some.injEq] at h
    subst h
    exact ⟨.of_ground hg m, z, rfl, hzv⟩
  · simp only [if_true] at h
    split at h <;> try (cases h; done)
    rename_i hs
    injection h with h
    subst h
    exact ⟨.of_ground (v := .tuple #[z, .bool false]) (show (#[z, Value.bool false] : Array Value).all scalarV = true by simp [hs]; rfl) m, z, rfl, hzv⟩

theorem VRel.pair {m : Mp} {a a' b b' : Value} (h : VRel m a a') (k : VRel m b b') : VRel m (.tuple #[a, b]) (.tuple #[a', b']) := by
  refine .tuple rfl fun i v v' h1 h2 => ?_
  match i with
  | 0 => simp at h1 h2; subst h1; subst h2; exact h
  | 1 => simp at h1 h2; subst h1; subst h2; exact k
  | i + 2 => simp at h1

theorem alookup_sound {P : Program} {m : Mp} {A : AW} {w : World} (hs : Sim m A w) {t : TypeId} {x x' ix ix' v : Value} {c : Bool} (h : alookup P A t x ix c = some v)
    (hx : VRel m x x') (hix : VRel m ix ix') : ∃ v', VRel m v v' ∧ ∀ w', (∀ b, b < w.heap.size → w'.heap[b]? = w.heap[b]?) → (Instr.lookup t x' ix' c).run P w' = .ok v' w' := by
  unfold alookup at h
  split at h <;> try (cases h; done)
  rename_i kt e hu
  split at h <;> try (cases h; done)
  rename_i d hd
  split at h <;> try (cases h; done)
  rename_i hkd
  split at h <;> try (cases h; done)
  · cases hx
    obtain ⟨h1, z, rfl, h2⟩ := amapZero_conc h m
    refine ⟨_, h1, fun w' _ => ?_⟩
    simp only [Instr.lookup, Sem.run_bind, run_underlying hu, Result.andThen_ok, Sem.run_pure, run_checkKey0 hd hkd, run_findKey hd (l := (#[] : Array MapEntry).toList) (k := ix') (a := none) (show Instr.findNow d ix' [] 0 = some none from rfl), h2]
  · rename_i r
    split at h <;> try (cases h; done)
    rename_i es own hg
    obtain ⟨p, hp, ents, clock, hh, hl, hrel⟩ := hs.obj _ _ hg
    cases hx with
    | map hx =>
      rename_i r'
      obtain ⟨p', hp', rfl⟩ := hx
      rw [hp] at hp'
      injection hp' with hp'
      subst hp'
      have hb : p.block < w.heap.size := (Array.getElem?_eq_some_iff.1 hh).1
      split at h
      · rename_i i v0 hf
        obtain ⟨r', h3, h4⟩ := afindKey_conc hix es ents.toList 0 _ (by simpa using hl) (fun j y f a b => hrel j y f a (by simpa using b)) hf
        rcases h4 with ⟨h4, _⟩ | ⟨j, v1, v', e', h5, rfl, h7, _, _⟩
        · cases h4
        · injection h5 with h5
          injection h5 with h5 h6
          subst h6
          injection h with h
          subst h
          refine ⟨if c then .tuple #[v', .bool true] else v', ?_, fun w' he => ?_⟩
          · cases c
            · exact h7
            · exact .pair h7 (.bool true)
          · have hh' : w'.heap[p.block]? = some (.map ents clock) := by rw [he _ hb]; exact hh
            simp only [Instr.lookup, Sem.run_bind, run_underlying hu, Result.andThen_ok, Sem.run_pure, Go.MapKept.run_getObj_map hh', run_checkKey0 hd hkd, run_findKey hd h3]
      · rename_i hf
        obtain ⟨r', h3, h4⟩ := afindKey_conc hix es ents.toList 0 _ (by simpa using hl) (fun j y f a b => hrel j y f a (by simpa using b)) hf
        rcases h4 with ⟨_, rfl⟩ | ⟨j, v1, v', e', h5, _⟩
        · obtain ⟨h1, z, rfl, h2⟩ := amapZero_conc h m
          refine ⟨_, h1, fun w' he => ?_⟩
          have hh' : w'.heap[p.block]? = some (.map ents clock) := by rw [he _ hb]; exact hh
          simp only [Instr.lookup, Sem.run_bind, run_underlying hu, Result.andThen_ok, Sem.run_pure, Go.MapKept.run_getObj_map hh', run_checkKey0 hd hkd, run_findKey hd h3, h2]
        · cases h5
      · cases h

/-! ### A map is made, and written -/

def amakeMap (P : Program) (A : AW) (t : TypeId) (x : Option Value) : Option (Value × AW) :=
  match x with
  | none => some (.map (some A.next), A.alloc (.map [] true))
  | some (.int _ _) =>
    match P.underlying t with
    | some (.map _ _) => some (.map (some A.next), A.alloc (.map [] true))
    | _ => none
  | _ => none

theorem newMap_evo {m : Mp} {A : AW} {w : World} (hs : Sim m A w) :
    Evo m A w (m.ext A.next ⟨w.heap.size, 0, 0, 0⟩) (A.alloc (.map [] true)) (w.alloc (.map #[] 0)) :=
  Evo.freshO hs (.map [] true) ⟨w.heap.size, 0, 0, 0⟩ rfl rfl rfl (by simp) (fun b hb => heapAllocOld w _ b hb) (Nat.le_refl _)
    ⟨#[], 0, heapAllocNew w _, rfl, fun k x e h => by simp at h⟩

theorem amakeMap_sound {P : Program} {m : Mp} {A A1 : AW} {w : World} (hs : Sim m A w) {t : TypeId} {x x' : Option Value} {v : Value} (h : amakeMap P A t x = some (v, A1)) (hx : ORel m x x') :
    ∃ v' w' m', (Instr.makeMap t x').run P w = .ok v' w' ∧ Evo m A w m' A1 w' ∧ VRel m' v v' := by
  unfold amakeMap at h
  split at h
  · cases x' with
    | some _ => exact hx.elim
    | none =>
      simp only [Option.some.injEq, Prod.mk.injEq] at h
      obtain ⟨rfl, rfl⟩ := h
      refine ⟨.map (some w.heap.size), _, _, ?_, newMap_evo hs, .map ⟨⟨w.heap.size, 0, 0, 0⟩, by simp [Mp.ext], rfl⟩⟩
      simp only [Instr.makeMap, Sem.run_bind, Sem.run_pure, Result.andThen_ok, run_newObj]
      rfl
  · rename_i k n
    cases x' with
    | none => exact hx.elim
    | some x' =>
      split at h <;> try (cases h; done)
      rename_i kt e hu
      simp only [Option.some.injEq, Prod.mk.injEq] at h
      obtain ⟨rfl, rfl⟩ := h
      have hx' : VRel m (.int k n) x' := hx
      cases hx'
      refine ⟨.map (some w.heap.size), _, _, ?_, newMap_evo hs, .map ⟨⟨w.heap.size, 0, 0, 0⟩, by simp [Mp.ext], rfl⟩⟩
      simp only [Instr.makeMap, Sem.run_bind, run_underlying hu, Result.andThen_ok, run_asInt, Sem.run_pure, run_newObj]
      rfl
  · cases h

def amapUpdate (P : Program) (A : AW) (t : TypeId) (x k v : Value) : Option AW :=
  match P.underlying t, x with
  | some (.map kt _), .map (some r) =>
    match P.underlying kt, A.get r with
    | some d, some (.map es true) =>
      if isKeyDesc d then
        match afindKey d k es 0 with
        | some (some (i, _)) => some (A.set r (some (.map (es.set i (k, v)) true)))
        | some none => some (A.set r (some (.map (es ++ [(k, v)]) true)))
        | none => none
      else none
    | _, _ => none
  | _, _ => none

theorem amapUpdate_sound {P : Program} {m : Mp} {A A1 : AW} {w : World} (hs : Sim m A w) {t : TypeId} {x x' k k' v v' : Value} (h : amapUpdate P A t x k v = some A1)
    (hx : VRel m x x') (hk : VRel m k k') (hv : VRel m v v') : ∃ w', (Instr.mapUpdate t x' k' v').run P w = .ok () w' ∧ Evo m A w m A1 w' := by
  unfold amapUpdate at h
  split at h <;> try (cases h; done)
  rename_i kt e r hu
  split at h <;> try (cases h; done)
  rename_i d es hd hg
  split at h <;> try (cases h; done)
  rename_i hkd
  obtain ⟨p, hp, ents, clock, hh, hl, hrel⟩ := hs.obj _ _ hg
  have hb : p.block < w.heap.size := (Array.getElem?_eq_some_iff.1 hh).1
  cases hx with
  | map hx =>
    rename_i r'
    obtain ⟨p', hp', rfl⟩ := hx
    rw [hp] at hp'
    injection hp' with hp'
    subst hp'
    have other : ∀ (o : Obj) (j : Nat), j ≠ p.block → (w.heap.setIfInBounds p.block o)[j]? = w.heap[j]? := fun o j hj => by rw [Array.getElem?_setIfInBounds_ne (by omega)]
    have same : ∀ (o : Obj), (w.heap.setIfInBounds p.block o)[p.block]? = some o := fun o => by simp [hb]
    split at h
    · rename_i i v0 hf
      injection h with h
      subst h
      obtain ⟨r', h3, h4⟩ := afindKey_conc hk es ents.toList 0 _ (by simpa using hl) (fun j y f a b => hrel j y f a (by simpa using b)) hf
      rcases h4 with ⟨h4, _⟩ | ⟨j, v1, v'', e', h5, rfl, h7, h8, h9⟩
      · cases h4
      · injection h5 with h5
        injection h5 with h5 h6
        simp only [Nat.zero_add] at h5 h3
        subst h5
        have hi : i < ents.size := by
          have := (List.getElem?_eq_some_iff.1 h8).1
          simpa using this
        have h8' : ents[i]? = some e' := by simpa using h8
        have hkts : (Instr.keyThatStays (((ents[i]?).map (·.key)).getD k') k').run P w = .ok k' w := by
          simp [h8', Instr.keyThatStays, sameNow_bits h9]
        refine ⟨{ w with heap := w.heap.setIfInBounds p.block (.map (ents.modify i fun e => { e with key := k', val := v' }) clock) }, ?_, ?_⟩
        · simp only [Instr.mapUpdate, Sem.run_bind, run_underlying hu, Result.andThen_ok, Go.MapKept.run_getObj_map hh, run_checkKey0 hd hkd, run_findKey hd h3, hkts, Go.MapKept.run_setObj_map _ hh]
        · refine Evo.setO hs hg rfl rfl hp (by simp) rfl rfl rfl ⟨_, clock, same _, by simp [hl], fun j y f a b => ?_⟩ (other _)
          by_cases hji : i = j
          · subst hji
            rw [List.getElem?_set_self (by omega)] at a
            injection a with a
            subst a
            simp [Array.getElem?_modify, h8'] at b
            subst b
            exact ⟨hk, hv⟩
          · rw [List.getElem?_set_ne hji] at a
            rw [Array.getElem?_modify, if_neg hji] at b
            exact hrel j y f a b
    · rename_i hf
      injection h with h
      subst h
      obtain ⟨r', h3, h4⟩ := afindKey_conc hk es ents.toList 0 _ (by simpa using hl) (fun j y f a b => hrel j y f a (by simpa using b)) hf
      rcases h4 with ⟨_, rfl⟩ | ⟨j, v1, v'', e', h5, _⟩
      · refine ⟨{ w with heap := w.heap.setIfInBounds p.block (.map (ents.push { key := k', val := v', born := clock }) (clock + 1)) }, ?_, ?_⟩
        · simp only [Instr.mapUpdate, Sem.run_bind, run_underlying hu, Result.andThen_ok, Go.MapKept.run_getObj_map hh, run_checkKey0 hd hkd, run_findKey hd h3, Go.MapKept.run_setObj_map _ hh]
        · refine Evo.setO hs hg rfl rfl hp (by simp) rfl rfl rfl ⟨_, clock + 1, same _, by simp [hl], fun j y f a b => ?_⟩ (other _)
          rw [List.getElem?_append] at a
          rw [Array.getElem?_push] at b
          by_cases hj : j < es.length
          · rw [if_pos hj] at a
            rw [if_neg (by omega)] at b
            exact hrel j y f a b
          · rw [if_neg hj] at a
            have hj' : j = es.length := by
              have := (List.getElem?_eq_some_iff.1 a).1
              simp at this
              omega
            subst hj'
            rw [if_pos hl] at b
            simp at a b
            subst a; subst b
            exact ⟨hk, hv⟩
      · cases h5
    · cases h

/-! ### clear -/

theorem scalarV.oneCell {v : Value} (h : scalarV v = true) : v.oneCell' = true := by
  unfold scalarV at h
  split at h <;> first | rfl | (cases h; done)

def aclear (P : Program) (A : AW) (t : TypeId) (x : Value) : Option AW :=
  match P.underlying t, x with
  | some (.slice _), .slice none 0 0 => some A
  | some (.slice e), .slice (some p) n _ =>
    if n = 0 then some A else
    match P.info? e, A.get p.block with
    | some i, some (.cells cs true unit) =>
      match i.zero with
      | some z =>
        if z.cells.size = i.size ∧ 0 < i.size ∧ z.cells.toList.all scalarV ∧ p.off + n * i.size ≤ cs.length then
          some (A.set p.block (some (.cells (setCells cs p.off (azeros z.cells.toList n)) true unit)))
        else none
      | none => none
    | _, _ => none
  | _, _ => none

theorem aclear_sound {P : Program} {m : Mp} {A A1 : AW} {w : World} (hs : Sim m A w) {t ty : TypeId} {x x' : Value} (h : aclear P A t x = some A1) (hx : VRel m x x') :
    ∃ w', (Builtin.clear_ #[t] ty #[x']).run P w = .ok undef w' ∧ Evo m A w m A1 w' := by
  unfold aclear at h
  split at h <;> try (cases h; done)
  · rename_i e hu
    cases hx
    injection h with h
    subst h
    exact ⟨w, by simp [Builtin.clear_, run_underlying hu, undef], Evo.refl hs⟩
  · rename_i e p n c hu
    split at h
    · rename_i h0
      subst h0
      injection h with h
      subst h
      cases hx
      exact ⟨w, by simp [Builtin.clear_, run_underlying hu, undef], Evo.refl hs⟩
    · rename_i h0
      split at h <;> try (cases h; done)
      rename_i i cs unit hi hg
      split at h <;> try (cases h; done)
      rename_i z hz
      split at h <;> try (cases h; done)
      rename_i hc
      obtain ⟨hzs, hpos, hsc, hfit⟩ := hc
      injection h with h
      subst h
      cases hx with
      | slice hh h1 h2 =>
        rename_i p' cap'
        have ha : ARel m p p' := by
          rcases hh with hh | hh
          · exact hh.arel
          · omega
        obtain ⟨hsp, hsp', q, hm, hb, ho⟩ := ha
        have hzc := azeros_conc z.cells n (by omega)
        have hall := azeros_scalar hsc n
        have hlen : (azeros z.cells.toList n).length = n * i.size := by rw [length_azeros]; simp [hzs]
        obtain ⟨w', hr, ev⟩ := storeCells_rel (P := P) (o := p.off) hm (azeros z.cells.toList n) (azeros z.cells.toList n) 0 cs A w hs hg (.of_scalars hall m)
          (fun v hv => scalarV.oneCell (List.all_eq_true.1 hall v hv)) (by omega)
        have ea : p' = ⟨q.block, q.base + p.off, none⟩ := by rw [addr_eta p' hsp', hb, ho]
        subst ea
        refine ⟨w', ?_, by simpa using ev⟩
        have hzv : (zeroValue e).run P w = .ok z w := by simp [zeroValue, typeInfo, hi, hz]
        obtain ⟨n, rfl⟩ := Nat.exists_eq_succ_of_ne_zero h0
        have hzc' : (Builtin.zeroCells z.cells (n + 1)).toList = azeros z.cells.toList (n + 1) := hzc
        simp only [Builtin.clear_, List.getElem?_toArray, List.getElem?_cons_zero, Sem.run_bind, run_underlying hu, Result.andThen_ok, hzv, hzc', hr, Sem.run_pure]
        rfl

/-! ### append(s, make([]T, n)...): the translation hands the number in the place of the slice -/

def aappendZ (P : Program) (A : AW) (t u : TypeId) (s x : Value) : Option (Value × AW) :=
  match P.underlying t, P.underlying u, x with
  | some (.slice e), some (.int _), .int _ q =>
    match P.info? e with
    | some i =>
      match i.zero with
      | some z =>
        match appOlds A i.size s with
        | some (base, k, olds) =>
          if z.cells.size = i.size ∧ 0 < i.size ∧ z.cells.toList.all scalarV ∧ 0 ≤ q ∧ k + q.toNat ≤ 140737488355328 ∧ (k + q.toNat) * i.bytes ≤ 140737488355328 then
            if q.toNat = 0 then some (s, A)
            else some (.slice (some ⟨A.next, 0, none⟩) (k + q.toNat) (k + q.toNat), ((match base with | some a => A.set a.block none | none => A)).alloc (.cells (olds ++ azeros z.cells.toList q.toNat) true i.size))
          else none
        | none => none
      | none => none
    | none => none
  | _, _, _ => none

theorem run_appendZ_zero {P : Program} (w : World) (t tn ty e : TypeId) (i : TypeInfo) (kn kq : IntKind) (ht : P.underlying t = some (.slice e)) (htn : P.underlying tn = some (.int kn)) (hi : P.info? e = some i)
    (base : Option Addr) (n c : Nat) (hc : n ≤ c) : (Builtin.append_ #[t, tn] ty #[.slice base n c, .int kq 0]).run P w = .ok (.slice base n c) w := by
  have hw : IntKind.i64.wrap (0 : Int) = 0 := rfl
  cases base <;> simp [Builtin.append_, run_underlying ht, run_underlying htn, sizeOf, typeInfo, hi, asInt, asIntOf, hw, hc, storeCells]

theorem run_appendZ_room {P : Program} (w : World) (t tn ty e : TypeId) (i : TypeInfo) (z : Value) (kn kq : IntKind) (ht : P.underlying t = some (.slice e)) (htn : P.underlying tn = some (.int kn)) (hi : P.info? e = some i) (hz : i.zero = some z)
    (g o sLen sCap m : Nat) (cur : Array Value) (e' : TypeId) (hg : w.heap[g]? = some (.cells cur e' (0, 0))) (h0 : 0 < m) (hs : 0 < i.size) (h48 : m * i.bytes ≤ 281474976710656) (h63 : (m : Int) ≤ 9223372036854775807)
    (h1 : ∀ u ∈ (Builtin.zeroCells z.cells m).toList, u.oneCell' = true) (hroom : sLen + m ≤ sCap) (hfit : o + sLen * i.size + (Builtin.zeroCells z.cells m).toList.length ≤ cur.size) :
    (Builtin.append_ #[t, tn] ty #[.slice (some ⟨g, o, none⟩) sLen sCap, .int kq m]).run P w =
      .ok (.slice (some ⟨g, o, none⟩) (sLen + m) sCap) (w.setRow g (cur.toList.take (o + sLen * i.size) ++ (Builtin.zeroCells z.cells m).toList ++ cur.toList.drop (o + sLen * i.size + (Builtin.zeroCells z.cells m).toList.length)).toArray) := by
  have hk : m ≠ 0 := by omega
  have hw : IntKind.i64.wrap (m : Int) = m := wrap_i64 (by omega) h63
  have h48i : ¬ (281474976710656 < (m : Int) * (i.bytes : Int)) := by
    rw [← Int.natCast_mul]
    omega
  have hneg : ¬ ((m : Int) < 0) := by omega
  have hns : ¬ (m * i.size = 0) := Nat.mul_ne_zero hk (by omega)
  have hst := run_storeCells_at P g (o + sLen * i.size) e' (Builtin.zeroCells z.cells m).toList 0 cur w hg (by simpa using hfit) h1
  simp only [Nat.add_zero] at hst
  have ea : (⟨g, o, none⟩ : Addr).add (sLen * i.size) = ⟨g, o + sLen * i.size, none⟩ := addr_add _ _ rfl
  simp [Builtin.append_, run_underlying ht, run_underlying htn, sizeOf, typeInfo, zeroValue, hi, hz, asInt, asIntOf, hw, hneg, hns, h48i, hroom, ea, hst]

theorem appendZ_sound {P : Program} {m : Mp} {A A1 : AW} {w : World} (hs : Sim m A w) {t u ty : TypeId} {s x s' x' v : Value} (h : aappendZ P A t u s x = some (v, A1))
    (hvs : VRel m s s') (hvx : VRel m x x') :
    ∃ v' w' m', (Builtin.append_ #[t, u] ty #[s', x']).run P w = .ok v' w' ∧ Evo m A w m' A1 w' ∧ VRel m' v v' := by
  unfold aappendZ at h
  split at h <;> try (cases h; done)
  rename_i e kn kq q hu hun
  cases hvx
  split at h <;> try (cases h; done)
  rename_i i hi
  split at h <;> try (cases h; done)
  rename_i z hz
  split at h <;> try (cases h; done)
  rename_i base k olds ho
  split at h <;> try (cases h; done)
  rename_i hcond
  obtain ⟨hzs, hsz, hsc, hq0, hb1, hb2⟩ := hcond
  obtain ⟨n, rfl⟩ := Int.eq_ofNat_of_zero_le hq0
  simp only [Int.toNat_natCast] at h hb1 hb2
  by_cases hn0 : n = 0
  · subst hn0
    rw [if_pos rfl] at h
    simp only [Option.some.injEq, Prod.mk.injEq] at h
    obtain ⟨rfl, rfl⟩ := h
    have hs0 : ∃ b' n' c', s' = .slice b' n' c' ∧ n' ≤ c' := by
      unfold appOlds at ho
      split at ho
      · cases hvs; exact ⟨_, _, _, rfl, Nat.le_refl _⟩
      · cases hvs with
        | slice _ h1 h2 => exact ⟨_, _, _, rfl, Nat.le_trans h1 h2⟩
      · cases ho
    obtain ⟨b', n', c', rfl, hle⟩ := hs0
    exact ⟨_, w, m, run_appendZ_zero w t u ty e i kn kq hu hun hi b' n' c' hle, Evo.refl hs, hvs⟩
  · rw [if_neg hn0] at h
    simp only [Option.some.injEq, Prod.mk.injEq] at h
    obtain ⟨rfl, rfl⟩ := h
    have hzc : (Builtin.zeroCells z.cells n).toList = azeros z.cells.toList n := azeros_conc z.cells n (by omega)
    have hall := azeros_scalar hsc n
    have hone : ∀ v ∈ azeros z.cells.toList n, v.oneCell' = true := fun v hv => scalarV.oneCell (List.all_eq_true.1 hall v hv)
    have hnb : n * i.bytes ≤ 140737488355328 := Nat.le_trans (Nat.mul_le_mul_right _ (Nat.le_add_left n k)) hb2
    have hl : (Builtin.zeroCells z.cells n).toList.length = n * i.size := by rw [hzc, length_azeros]; simp [hzs]
    refine append_core hs (ts := #[t, u]) (X := .int kq n) (l' := (Builtin.zeroCells z.cells n).toList) (e := e) (i := i) (z := z) hzs hn0 hb1 hb2 hone hl (by rw [hzc]; exact .of_scalars hall m) ho hvs ?_ ?_ ?_
    · intro _ _ hk
      have := Go.Lib.run_append_nil_zeros (P := P) w t u ty e i z kq kn hu hun hi hz n (by omega) hsz (by omega) (by omega)
      simpa using this
    · intro b sLen sCap lo hk h1 h2 h3
      have hf := run_firstCells_some (P := P) w.drew i.size sLen b sLen sCap lo h1 (by simpa using h2)
      have := Go.Lib.run_append_grow_zeros (P := P) w t u ty e i z kq kn hu hun hi hz (some b) sLen sCap lo hf n (by omega) hsz h3 (by omega) (by omega) (growslice_fits h3 (by subst hk; exact hb2))
      simpa using this
    · intro g o sLen sCap cur e' h1 h2 h3
      exact run_appendZ_room w t u ty e i z kn kq hu hun hi hz g o sLen sCap n cur e' h1 (by omega) hsz (by omega) (by omega) (by rw [hzc]; exact hone) h2 h3

end Go.Stx
