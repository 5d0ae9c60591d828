/-
  Slices of slices, new rows, built values, lengths; and all operations but calls under one name, 'aop'.
-/
import Derived.Test.YtajhaafmlnoioaaStxOps2
namespace Go.Stx
open Go

def ORel (m : Mp) : Option Value → Option Value → Prop
  | none, none => True
  | some v, some v' => VRel m v v'
  | _, _ => False

theorem run_sliceBound {P : Program} {w : World} {k : IntKind} {n : Int} {y : Nat} {code : BoundsCode} (h0 : 0 ≤ n) (h1 : n ≤ y) :
    (Instr.sliceBound (.int k n) y code).run P w = .ok n.toNat w := by
  simp [Instr.sliceBound, asIntOf, h0, h1]

theorem abound_conc {m : Mp} {v v' : Option Value} {d lim h : Nat} (hb : abound v d lim = some h) (hv : ORel m v v') :
    (v' = none ∧ h = d) ∨ ∃ k n, v' = some (.int k n) ∧ 0 ≤ n ∧ n ≤ lim ∧ h = n.toNat := by
  unfold abound at hb
  split at hb
  · injection hb with hb
    cases v' with
    | none => exact .inl ⟨rfl, hb.symm⟩
    | some _ => exact hv.elim
  · rename_i k n
    split at hb
    · rename_i hc
      injection hb with hb
      cases v' with
      | none => exact hv.elim
      | some _ => cases hv; exact .inr ⟨k, n, rfl, hc.1, hc.2, hb.symm⟩
    · cases hb
  · cases hb

theorem run_sliceBounds {P : Program} {m : Mp} {lo hi lo' hi' : Option Value} {len cap cap' h l : Nat} (isS : Bool) (hh : abound hi len cap = some h) (hl : abound lo 0 h = some l)
    (hc : cap ≤ cap') (hlo : ORel m lo lo') (hhi : ORel m hi hi') (w : World) : (Instr.sliceBounds isS len cap' lo' hi' none).run P w = .ok (l, h, cap') w := by
  rcases abound_conc hh hhi with ⟨rfl, rfl⟩ | ⟨k, n, rfl, h0, h1, rfl⟩ <;> rcases abound_conc hl hlo with ⟨rfl, rfl⟩ | ⟨k', n', rfl, h0', h1', rfl⟩
  · simp [Instr.sliceBounds]
  · simp [Instr.sliceBounds, run_sliceBound h0' h1']
  · have h2 : n ≤ (cap' : Int) := by omega
    simp [Instr.sliceBounds, run_sliceBound h0 h2]
  · have h2 : n ≤ (cap' : Int) := by omega
    simp [Instr.sliceBounds, run_sliceBound h0 h2, run_sliceBound h0' h1']

theorem abound_le {v : Option Value} {d lim h : Nat} (hb : abound v d lim = some h) : h = d ∨ h ≤ lim := by
  unfold abound at hb
  split at hb
  · injection hb with hb; exact .inl hb.symm
  · split at hb
    · rename_i hc; injection hb with hb; exact .inr (by omega)
    · cases hb
  · cases hb

theorem aslice_sound {P : Program} {m : Mp} {A : AW} {w : World} (hs : Sim m A w) {t : TypeId} {x x' v : Value} {lo hi mx lo' hi' mx' : Option Value} (h : aslice P A t x lo hi mx = some v)
    (hx : VRel m x x') (hlo : ORel m lo lo') (hhi : ORel m hi hi') (hmx : ORel m mx mx') : ∃ v', VRel m v v' ∧ ∀ w', (Instr.sliceAt t x' lo' hi' mx').run P w' = .ok v' w' := by
  unfold aslice at h
  split at h
  · rename_i e a len cap hu
    cases mx' with
    | some _ => exact hmx.elim
    | none =>
    split at h
    · rename_i hh ehi
      split at h
      · rename_i l elo
        have hlh : l = 0 ∨ l ≤ hh := abound_le elo
        have hhc : hh = len ∨ hh ≤ cap := abound_le ehi
        split at h
        · rename_i i hi
          injection h with h
          subst h
          cases hx
          have hr := run_sliceBounds (P := P) (m := m) true ehi elo (Nat.le_refl 0) hlo hhi
          have h1 : hh = 0 := by omega
          have h2 : l = 0 := by omega
          subst h1; subst h2
          refine ⟨.slice none 0 0, .sliceNone, fun w' => ?_⟩
          simp [Instr.sliceAt, Instr.slice, run_underlying hu, hr, run_sizeOf hi]
        · rename_i i p hi
          split at h
          · rename_i q hq
            injection h with h
            subst h
            cases hx with
            | slice hsr h1 h2 =>
              rename_i p' cap'
              have hr := run_sliceBounds (P := P) (m := m) true ehi elo h2 hlo hhi
              refine ⟨.slice (some (if cap' = l then p' else p'.add (l * i.size))) (hh - l) (cap' - l), ?_, fun w' => ?_⟩
              rotate_left
              · simp only [Instr.sliceAt, Sem.run_bind, run_underlying hu, Result.andThen_ok, Instr.slice, hr, run_sizeOf hi, Sem.run_pure, Option.map_some]
                split <;> rfl
              · refine .slice ?_ (by omega) (by omega)
                by_cases hcl : cap' = l
                · refine .inr ⟨by omega, by omega, ?_⟩
                  unfold asliceAt at hq
                  split at hq
                  · injection hq with hq
                    subst hq
                    rcases hsr with ⟨_, _, pl, g3, _⟩ | ⟨_, _, g⟩
                    · exact .inr (by rw [g3]; exact Option.some_ne_none _)
                    · exact g
                  · split at hq
                    · rename_i hg
                      split at hq
                      · injection hq with hq
                        subst hq
                        obtain ⟨pl, g7, _⟩ := hs.obj _ _ hg
                        exact .inr (by simp only; rw [g7]; exact Option.some_ne_none _)
                      · cases hq
                    · cases hq
                · rw [if_neg hcl]
                  have hsr' : SRel m p p' cap' := by
                    rcases hsr with hsr | hsr
                    · exact hsr
                    · omega
                  obtain ⟨g1, g2, pl, g3, g4, g5, g6⟩ := hsr'
                  unfold asliceAt at hq
                  split at hq
                  · rename_i hl0
                    subst hl0
                    injection hq with hq
                    subst hq
                    rw [Nat.zero_mul, show p'.add 0 = p' by unfold Addr.add; simp]
                    exact .inl ⟨g1, g2, pl, g3, g4, g5, by simpa using g6⟩
                  · rename_i hl0
                    split at hq
                    · rename_i i' cs own unit hi' hg
                      rw [hi] at hi'
                      injection hi' with hi'
                      subst hi'
                      split at hq
                      · rename_i hun
                        injection hq with hq
                        subst hq
                        obtain ⟨pl', g7, cur, e', fr, g8, _, g9, _⟩ := hs.obj _ _ hg
                        rw [g3] at g7
                        injection g7 with g7
                        subst g7
                        rw [addr_add _ _ g2]
                        refine .inl ⟨rfl, rfl, pl, g3, g4, by simp only [g5, Nat.add_assoc], ?_⟩
                        rw [← g9, hun] at g6 ⊢
                        simp only
                        have : l * i.size + (cap' - l) * i.size = cap' * i.size := by
                          rw [← Nat.add_mul]; congr 1; omega
                        omega
                      · cases hq
                    · cases hq
          · cases h
        · cases h
      · cases h
    · cases h
  · rename_i s hu
    cases mx' with
    | some _ => exact hmx.elim
    | none =>
    cases hx
    split at h
    · rename_i hh ehi
      split at h
      · rename_i l elo
        injection h with h
        subst h
        have hr := run_sliceBounds (P := P) (m := m) false ehi elo (Nat.le_refl _) hlo hhi
        refine ⟨.string (s.extract l hh), .string _, fun w' => ?_⟩
        simp [Instr.sliceAt, Instr.slice, run_underlying hu, hr]
      · cases h
    · cases h
  · cases h

/-- s[:0:0]: nothing, and no capacity; the mark 'spot' says so. -/
def aslice0 (P : Program) (t : TypeId) (x : Value) (lo hi : Option Value) (mx : Value) : Option Value :=
  match P.underlying t, x, lo, hi, mx with
  | some (.slice e), .slice a _ _, none, some (.int _ h), .int _ q =>
    match P.info? e with
    | some _ => if h = 0 ∧ q = 0 then some (match a with | none => .slice none 0 0 | some _ => .slice (some ⟨0, 0, some 0⟩) 0 0) else none
    | none => none
  | _, _, _, _, _ => none

theorem aslice0_sound {P : Program} {m : Mp} {t : TypeId} {x x' v mx mx' : Value} {lo hi lo' hi' : Option Value} (h : aslice0 P t x lo hi mx = some v)
    (hx : VRel m x x') (hlo : ORel m lo lo') (hhi : ORel m hi hi') (hmx : VRel m mx mx') : ∃ v', VRel m v v' ∧ ∀ w', (Instr.sliceAt t x' lo' hi' (some mx')).run P w' = .ok v' w' := by
  unfold aslice0 at h
  split at h <;> try (cases h; done)
  rename_i e a len cap k h0 k' q hu
  split at h <;> try (cases h; done)
  rename_i i hi0
  split at h <;> try (cases h; done)
  rename_i hc
  obtain ⟨rfl, rfl⟩ := hc
  injection h with h
  subst h
  cases lo' with
  | some _ => exact hlo.elim
  | none =>
  cases hi' with
  | none => exact hhi.elim
  | some hv =>
  have hhi' : VRel m (.int k 0) hv := hhi
  cases hhi'
  cases hmx
  have hb : ∀ (cap' : Nat) (w' : World), (Instr.sliceBounds true len cap' none (some (.int k 0)) (some (.int k' 0))).run P w' = .ok (0, 0, 0) w' := fun cap' w' => by
    simp [Instr.sliceBounds, run_sliceBound (P := P) (w := w') (k := k') (n := 0) (y := cap') (code := .slice3Acap) (by omega) (by omega),
      run_sliceBound (P := P) (w := w') (k := k) (n := 0) (y := 0) (code := .slice3B) (by omega) (by omega)]
  cases a with
  | none =>
    cases hx
    exact ⟨.slice none 0 0, .sliceNone, fun w' => by simp [Instr.sliceAt, Instr.slice, run_underlying hu, hb, run_sizeOf hi0]⟩
  | some a =>
    cases hx with
    | slice hh h1 h2 =>
      rename_i a' cap'
      exact ⟨.slice (some a') 0 0, .slice (.inr ⟨rfl, rfl, .inl rfl⟩) (Nat.le_refl _) (Nat.le_refl _), fun w' => by simp [Instr.sliceAt, Instr.slice, run_underlying hu, hb, run_sizeOf hi0]⟩

/-! ### Rows that are written out: []T{..} -/

def aputs (size : Nat) : List (Nat × Value) → List Value → Option (List Value)
  | [], cs => some cs
  | (i, v) :: rest, cs => if v.cells.size = size ∧ i * size + size ≤ cs.length then aputs size rest (setCells cs (i * size) v.cells.toList) else none

def azeros (z : List Value) : Nat → List Value
  | 0 => []
  | n + 1 => z ++ azeros z n

theorem foldl_set_eq (l : List Value) : ∀ (cs : Array Value) (off k : Nat), off + k + l.length ≤ cs.size →
    ((l.zipIdx k).foldl (fun cs (c, j) => cs.setIfInBounds (off + j) c) cs).toList = setCells cs.toList (off + k) l := by
  induction l with
  | nil => intro cs off k _; rfl
  | cons v l ih =>
    intro cs off k h
    simp only [List.zipIdx_cons, List.foldl_cons, setCells]
    rw [ih _ off (k + 1) (by simp at h ⊢; omega)]
    simp [Nat.add_assoc]

theorem setCells_rel {m : Mp} : ∀ (l l' : List Value) (off : Nat) (cs cs' : List Value), LRel m cs cs' → LRel m l l' → off + l.length ≤ cs.length →
    LRel m (setCells cs off l) (setCells cs' off l')
  | [], l', off, cs, cs', h, hl, _ => by
    have e := hl.inv_nil
    subst e
    exact h
  | v :: l, l', off, cs, cs', h, hl, hle => by
    obtain ⟨v', t', rfl, hv, ht⟩ := hl.inv_cons
    simp only [List.length_cons] at hle
    refine setCells_rel l t' (off + 1) _ _ ⟨by simp [h.1], fun i x x' h1 h2 => ?_⟩ ht (by simp; omega)
    by_cases hi : off = i
    · subst hi
      rw [List.getElem?_set_self (by omega)] at h1
      rw [List.getElem?_set_self (by rw [← h.1]; omega)] at h2
      injection h1 with h1
      injection h2 with h2
      subst h1; subst h2
      exact hv
    · rw [List.getElem?_set_ne hi] at h1 h2
      exact h.2 i x x' h1 h2

theorem aputs_sound {m : Mp} {size : Nat} : ∀ (parts parts' : List (Nat × Value)) (cs r : List Value) (cs' : Array Value), aputs size parts cs = some r → LRel m cs cs'.toList →
    parts.length = parts'.length → (∀ (k : Nat) (p p' : Nat × Value), parts[k]? = some p → parts'[k]? = some p' → p.1 = p'.1 ∧ VRel m p.2 p'.2) →
    ∃ r', Instr.fill (fun i => some (i * size, size)) cs' parts' = some r' ∧ LRel m r r'.toList
  | [], parts', cs, r, cs', h, hc, hl, _ => by
    cases parts' with
    | cons _ _ => simp at hl
    | nil =>
      injection h with h
      subst h
      exact ⟨cs', rfl, hc⟩
  | (i, v) :: rest, parts', cs, r, cs', h, hc, hl, hp => by
    cases parts' with
    | nil => simp at hl
    | cons p' rest' =>
      obtain ⟨i', v'⟩ := p'
      obtain ⟨h1, h2⟩ := hp 0 _ _ rfl rfl
      simp only at h1 h2
      subst h1
      unfold aputs at h
      split at h
      · rename_i hcond
        obtain ⟨hz, hle⟩ := hcond
        have hcl := h2.cells
        have hz' : v'.cells.size = size := by have := hcl.1; simp at this; omega
        have hsz : cs'.size = cs.length := by have := hc.1; simp at this; omega
        have hfold := foldl_set_eq v'.cells.toList cs' (i * size) 0 (by simp; omega)
        obtain ⟨r', h3, h4⟩ := aputs_sound rest rest' _ r (v'.cells.zipIdx.foldl (fun cs (c, j) => cs.setIfInBounds (i * size + j) c) cs') h (by
          rw [← Array.foldl_toList, Array.toList_zipIdx, hfold]
          exact setCells_rel _ _ _ _ _ hc hcl (by simp; omega)) (by simpa using hl) (fun k p p' a b => hp (k + 1) p p' (by simpa using a) (by simpa using b))
        refine ⟨r', ?_, h4⟩
        simp only [Instr.fill, hz', ne_eq, not_true_eq_false, decide_false, Bool.false_or, hsz, decide_eq_true_eq]
        rw [if_neg (by omega)]
        exact h3
      · cases h

theorem length_azeros (z : List Value) (n : Nat) : (azeros z n).length = n * z.length := by
  induction n with
  | zero => simp [azeros]
  | succ n ih => simp [azeros, ih, Nat.add_mul]; omega

theorem azeros_get (z : List Value) (n j : Nat) (h : j < n * z.length) : (azeros z n)[j]? = z[j % z.length]? := by
  induction n generalizing j with
  | zero => simp at h
  | succ n ih =>
    simp only [azeros]
    by_cases hj : j < z.length
    · rw [List.getElem?_append_left hj, Nat.mod_eq_of_lt hj]
    · rw [List.getElem?_append_right (by omega), ih _ (by simp [Nat.add_mul] at h; omega)]
      rw [Nat.mod_eq_sub_mod (by omega : z.length ≤ j)]

theorem azeros_conc (z : Array Value) (n : Nat) (h : 0 < z.size) : ((Array.range (n * z.size)).map (fun j => z[j % z.size]!)).toList = azeros z.toList n := by
  apply List.ext_getElem?
  intro j
  by_cases hj : j < n * z.size
  · rw [azeros_get _ _ _ (by simpa using hj)]
    have hm : j % z.size < z.size := Nat.mod_lt _ h
    simp [hj, hm]
  · rw [List.getElem?_eq_none (by simp; omega), List.getElem?_eq_none (by rw [length_azeros]; simp; omega)]

/-- A value without addresses: it is related to itself. -/
def scalarV : Value → Bool
  | .bool _ | .int _ _ | .float _ _ | .complex _ _ _ | .string _ | .pointer none | .slice none 0 0 | .map none | .chan none | .nilFunc | .nilIface => true
  | _ => false
def groundV : Value → Bool
  | .agg cs => cs.all scalarV
  | .tuple cs => cs.all scalarV
  | v => scalarV v

theorem VRel.of_scalar {v : Value} (h : scalarV v = true) (m : Mp) : VRel m v v := by
  unfold scalarV at h
  split at h <;> first | (cases h; done) | constructor

theorem VRel.of_ground {v : Value} (h : groundV v = true) (m : Mp) : VRel m v v := by
  unfold groundV at h
  split at h
  · refine .agg rfl fun i v v' h1 h2 => ?_
    rw [h1] at h2
    injection h2 with h2
    subst h2
    exact .of_scalar (Array.all_eq_true_iff_forall_mem.1 h _ (Array.mem_of_getElem? h1)) m
  · refine .tuple rfl fun i v v' h1 h2 => ?_
    rw [h1] at h2
    injection h2 with h2
    subst h2
    exact .of_scalar (Array.all_eq_true_iff_forall_mem.1 h _ (Array.mem_of_getElem? h1)) m
  · exact .of_scalar h m

theorem LRel.of_scalars {l : List Value} (h : l.all scalarV = true) (m : Mp) : LRel m l l :=
  ⟨rfl, fun i v v' h1 h2 => by
    rw [h1] at h2
    injection h2 with h2
    subst h2
    exact .of_scalar (List.all_eq_true.1 h _ (List.mem_of_getElem? h1)) m⟩

theorem azeros_scalar {z : List Value} (h : z.all scalarV = true) (n : Nat) : (azeros z n).all scalarV = true := by
  induction n with
  | zero => rfl
  | succ n ih => simp only [azeros, List.all_append, h, ih, Bool.and_self]

def abuildSlice (P : Program) (A : AW) (t : TypeId) (len : Nat) (parts : List (Nat × Value)) : Option (Value × AW) :=
  match P.underlying t with
  | some (.slice e) =>
    match P.info? e with
    | some i =>
      match i.zero with
      | some z =>
        if z.cells.size = i.size ∧ 0 < i.size ∧ len * i.size ≤ 2 ^ 24 ∧ z.cells.toList.all scalarV then
          match aputs i.size parts (azeros z.cells.toList len) with
          | some cs => some (.slice (some ⟨A.next, 0, none⟩) len len, A.alloc (.cells cs true i.size))
          | none => none
        else none
      | none => none
    | none => none
  | _ => none

theorem fill_size (size : Nat) : ∀ (parts : List (Nat × Value)) (cs r : Array Value), Instr.fill (fun i => some (i * size, size)) cs parts = some r → r.size = cs.size
  | [], cs, r, h => by injection h with h; subst h; rfl
  | (i, v) :: rest, cs, r, h => by
    unfold Instr.fill at h
    simp only at h
    split at h
    · cases h
    · rw [fill_size size rest _ r h]
      have : ∀ (l : List (Value × Nat)) (cs : Array Value), (l.foldl (fun cs (c, j) => cs.setIfInBounds (i * size + j) c) cs).size = cs.size := by
        intro l
        induction l with
        | nil => intro cs; rfl
        | cons x l ih => intro cs; simp [List.foldl_cons, ih]
      rw [← Array.foldl_toList]
      exact this _ _

theorem abuildSlice_sound {P : Program} {m : Mp} {A A1 : AW} {w : World} (hs : Sim m A w) {t : TypeId} {len : Nat} {parts : List (Nat × Value)} {parts' : Array (Nat × Value)} {v : Value}
    (h : abuildSlice P A t len parts = some (v, A1)) (hl : parts.length = parts'.size)
    (hp : ∀ (k : Nat) (p p' : Nat × Value), parts[k]? = some p → parts'[k]? = some p' → p.1 = p'.1 ∧ VRel m p.2 p'.2) :
    ∃ v' w' m', (Instr.buildSlice t len parts').run P w = .ok v' w' ∧ Evo m A w m' A1 w' ∧ VRel m' v v' := by
  unfold abuildSlice at h
  split at h <;> try (cases h; done)
  rename_i e hu
  split at h <;> try (cases h; done)
  rename_i i hi
  split at h <;> try (cases h; done)
  rename_i z hz
  split at h <;> try (cases h; done)
  rename_i hc
  obtain ⟨hzs, h0, h24, hsc⟩ := hc
  split at h <;> try (cases h; done)
  rename_i cs hputs
  simp only [Option.some.injEq, Prod.mk.injEq] at h
  obtain ⟨rfl, rfl⟩ := h
  have hzc := azeros_conc z.cells len (by omega)
  rw [hzs] at hzc
  obtain ⟨r', h1, h2⟩ := aputs_sound (m := m) parts parts'.toList _ cs ((Array.range (len * i.size)).map (fun j => z.cells[j % i.size]!)) hputs
    (by rw [hzc]; exact .of_scalars (azeros_scalar hsc len) m) (by simpa using hl) (fun k p p' a b => hp k p p' a (by simpa using b))
  have hrs : r'.size = len * i.size := by rw [fill_size _ _ _ _ h1]; simp
  obtain ⟨w', m', h3, h4, h5⟩ := newRow_sound (P := P) hs e i.size h2
  refine ⟨.slice (some ⟨w.heap.size, 0, none⟩) len len, w', m', ?_, h4, ?_⟩
  · simp only [Instr.buildSlice, Sem.run_bind, run_underlying hu, Result.andThen_ok, run_sizeOf hi]
    rw [if_neg (by omega)]
    by_cases hl0 : len * i.size = 0
    · rw [if_pos hl0]
      have hfun : ((Array.range (len * i.size)).map fun j => (#[] : Array Value)[j % (#[] : Array Value).size]!) = (Array.range (len * i.size)).map (fun j => z.cells[j % i.size]!) := by
        simp [hl0]
      simp only [Sem.run_bind, Sem.run_pure, Result.andThen_ok, hfun, h1, h3]
    · rw [if_neg hl0]
      have hzv : (zeroValue e).run P w = .ok z w := by simp [zeroValue, typeInfo, hi, hz]
      simp only [Sem.run_bind, Sem.run_pure, Result.andThen_ok, hzv, hzs, h1, h3]
  · refine .slice (.inl ⟨rfl, rfl, ⟨w.heap.size, 0, i.size, r'.size⟩, by rw [h5]; simp [Mp.ext], rfl, rfl, ?_⟩) (Nat.le_refl _) (Nat.le_refl _)
    show 0 + len * i.size ≤ r'.size
    omega

end Go.Stx
