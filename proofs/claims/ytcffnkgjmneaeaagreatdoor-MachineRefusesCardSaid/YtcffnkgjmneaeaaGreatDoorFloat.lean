/-
  Regions that draw their order: operations that make a block ('floats') may come up at any time; the abstract memory gets their blocks at the region's end, at numbers set aside at its start.
-/
import Derived.Test.YtcffnkgjmneaeaaGreatDoorCoreB
namespace Go.Stx
open Go
variable [Gl]
set_option linter.unusedSectionVars false
set_option linter.unusedVariables false
set_option linter.unusedSimpArgs false

/-- The shape of the address that a float answers. -/
inductive FK where
  | ptr
  | slice (l c : Nat)
  | map

def FK.val : FK → Nat → Value
  | .ptr, n => .pointer (some ⟨n, 0, none⟩)
  | .slice l c, n => .slice (some ⟨n, 0, none⟩) l c
  | .map, n => .map (some n)

theorem FK.move {k : FK} {m m' : Mp} {i j : Nat} {x : Value} (h : VRel m (k.val i) x) (e : m' j = m i) : VRel m' (k.val j) x := by
  cases k with
  | ptr =>
    unfold FK.val at h ⊢
    cases h with
    | ptr h =>
      obtain ⟨h1, h2, p, h3, h4⟩ := h
      exact .ptr ⟨rfl, h2, p, by rw [e]; exact h3, h4⟩
  | slice l c =>
    unfold FK.val at h ⊢
    cases h with
    | slice h h1 h2 =>
      refine .slice ?_ h1 h2
      rcases h with ⟨q1, q2, p, q3, q4⟩ | ⟨q1, q2, q3⟩
      · exact .inl ⟨rfl, q2, p, by rw [e]; exact q3, q4⟩
      · refine .inr ⟨q1, q2, ?_⟩
        rcases q3 with q3 | q3
        · cases q3
        · exact .inr (by rw [e]; exact q3)
  | map =>
    unfold FK.val at h ⊢
    cases h with
    | map h =>
      obtain ⟨p, h1, h2⟩ := h
      exact .map ⟨p, by rw [e]; exact h1, h2⟩

/-! ### Operations that only make a block -/

/-- The shape of the address, and the object, that such an operation makes. -/
def mkO (P : Program) (r : Operand → Value) : Op → Option (FK × AObj)
  | .alloc t =>
    match P.info? t with
    | some i =>
      match i.zero with
      | some z => if groundV z then some (.ptr, .cells z.cells.toList true 1) else none
      | none => none
    | none => none
  | .box _ x => some (.ptr, .cells (r x).cells.toList true 1)
  | .buildSlice t len ps =>
    match P.underlying t with
    | some (.slice e) =>
      match P.info? e with
      | some i =>
        match i.zero with
        | some z =>
          if z.cells.size = i.size ∧ 0 < i.size ∧ len * i.size ≤ 2 ^ 24 ∧ z.cells.toList.all scalarV then
            match aputs i.size (aparts r ps) (azeros z.cells.toList len) with
            | some cs => some (.slice len len, .cells cs true i.size)
            | none => none
          else none
        | none => none
      | none => none
    | _ => none
  | .makeSlice t l c =>
    match P.underlying t, r l, r c with
    | some (.slice e), .int _ l, .int _ c =>
      match P.info? e with
      | some i =>
        match i.zero with
        | some z =>
          if z.cells.size = i.size ∧ 0 < i.size ∧ z.cells.toList.all scalarV ∧ 0 ≤ l ∧ l ≤ c ∧ c ≤ 140737488355328 ∧ c * i.bytes ≤ 140737488355328 then
            some (.slice l.toNat c.toNat, .cells (azeros z.cells.toList c.toNat) true i.size)
          else none
        | none => none
      | none => none
    | _, _, _ => none
  | .makeMap t x =>
    match x.map r with
    | none => some (.map, .map [] true)
    | some (.int _ _) =>
      match P.underlying t with
      | some (.map _ _) => some (.map, .map [] true)
      | _ => none
    | _ => none
  | _ => none

theorem mkO_ae {P : Program} {r : Operand → Value} {op : Op} {k : FK} {ob : AObj} (h : mkO P r op = some (k, ob)) (A : AW) : ae P A r op = some (k.val A.next, A.alloc ob) := by
  cases op <;> simp only [mkO] at h <;> (try (cases h; done)) <;> simp only [ae]
  case alloc t =>
    unfold aalloc
    split at h <;> try (cases h; done)
    rename_i i hi
    split at h <;> try (cases h; done)
    rename_i z hz
    split at h <;> try (cases h; done)
    rename_i hg
    simp only [Option.some.injEq, Prod.mk.injEq] at h
    obtain ⟨rfl, rfl⟩ := h
    rw [hi]
    simp only
    rw [hz]
    simp only [hg, if_true, abox, FK.val]
  case box t x =>
    simp only [Option.some.injEq, Prod.mk.injEq] at h
    obtain ⟨rfl, rfl⟩ := h
    rfl
  case buildSlice t len ps =>
    unfold abuildSlice
    split at h <;> try (cases h; done)
    rename_i e hu
    split at h <;> try (cases h; done)
    rename_i i hi
    split at h <;> try (cases h; done)
    rename_i z hz
    split at h <;> try (cases h; done)
    rename_i hc
    split at h <;> try (cases h; done)
    rename_i cs hcs
    simp only [Option.some.injEq, Prod.mk.injEq] at h
    obtain ⟨rfl, rfl⟩ := h
    rw [hu]
    simp only
    rw [hi]
    simp only
    rw [hz]
    simp only
    rw [if_pos hc, hcs]
    rfl
  case makeSlice t l c =>
    unfold amake
    split at h <;> try (cases h; done)
    rename_i e kl nl kc nc hu hl hc0
    split at h <;> try (cases h; done)
    rename_i i hi
    split at h <;> try (cases h; done)
    rename_i z hz
    split at h <;> try (cases h; done)
    rename_i hc
    simp only [Option.some.injEq, Prod.mk.injEq] at h
    obtain ⟨rfl, rfl⟩ := h
    rw [hu, hl, hc0]
    simp only
    rw [hi]
    simp only
    rw [hz]
    simp only
    rw [if_pos hc]
    rfl
  case makeMap t x =>
    unfold amakeMap
    split at h <;> try (cases h; done)
    · rename_i hx
      simp only [Option.some.injEq, Prod.mk.injEq] at h
      obtain ⟨rfl, rfl⟩ := h
      rw [hx]
      rfl
    · rename_i hx
      split at h <;> try (cases h; done)
      rename_i hu
      simp only [Option.some.injEq, Prod.mk.injEq] at h
      obtain ⟨rfl, rfl⟩ := h
      rw [hx]
      simp only
      rw [hu]
      rfl

theorem mkO_congr {P : Program} {r r' : Operand → Value} {op : Op} (h : ∀ x ∈ op.operands, r x = r' x) : mkO P r op = mkO P r' op := by
  cases op <;> simp only [mkO, Op.operands] at h ⊢
  case box t x => rw [h x (by simp)]
  case buildSlice t n ps => rw [aparts_congr h]
  case makeSlice t l c => rw [h l (by simp), h c (by simp)]
  case makeMap t x => rw [omap_congr h]

/-- What such an object holds is known already. -/
def ObFit (m : Mp) : AObj → Prop
  | .cells cs own _ => own = true ∧ ∀ v ∈ cs, ∃ y, VRel m v y
  | .map es own => own = true ∧ es = []

theorem ObFit.own {m : Mp} {ob : AObj} (h : ObFit m ob) : ob.own = true := by cases ob <;> exact h.1

theorem setCells_fit {p : Value → Prop} : ∀ (vs cs : List Value) (off : Nat), (∀ v ∈ cs, p v) → (∀ v ∈ vs, p v) → ∀ v ∈ setCells cs off vs, p v
  | [], cs, off, h, _ => h
  | x :: vs, cs, off, h, hx => setCells_fit vs _ _ (fun v hv => by
      rcases List.mem_or_eq_of_mem_set hv with h1 | h1
      · exact h v h1
      · rw [h1]; exact hx x (by simp)) fun v hv => hx v (by simp [hv])
theorem aputs_fit {p : Value → Prop} {size : Nat} : ∀ (ps : List (Nat × Value)) (cs r : List Value), aputs size ps cs = some r → (∀ v ∈ cs, p v) → (∀ x ∈ ps, ∀ v ∈ x.2.cells.toList, p v) → ∀ v ∈ r, p v
  | [], cs, r, h, h1, _ => by injection h with h; subst h; exact h1
  | (i, u) :: rest, cs, r, h, h1, h2 => by
    unfold aputs at h
    split at h
    · exact aputs_fit rest _ r h (setCells_fit _ _ _ h1 (h2 (i, u) (by simp))) fun x hx => h2 x (by simp [hx])
    · cases h
theorem azeros_fit {p : Value → Prop} {z : List Value} (h : ∀ v ∈ z, p v) : ∀ n, ∀ v ∈ azeros z n, p v
  | 0, v, hv => by cases hv
  | n + 1, v, hv => by
    simp only [azeros, List.mem_append] at hv
    rcases hv with hv | hv
    · exact h v hv
    · exact azeros_fit h n v hv
theorem cells_fit {m : Mp} {v x : Value} (h : VRel m v x) : ∀ u ∈ v.cells.toList, ∃ y, VRel m u y := fun u hu => by
  obtain ⟨n, hn⟩ := List.mem_iff_getElem?.1 hu
  have h1 := h.cells
  have hlt : n < v.cells.toList.length := (List.getElem?_eq_some_iff.1 hn).1
  have hlt' : n < x.cells.toList.length := by rw [← h1.1]; exact hlt
  exact ⟨_, h1.2 n u _ hn (List.getElem?_eq_getElem hlt')⟩

theorem mkO_fit {P : Program} {m : Mp} {r : Operand → Value} {op : Op} {k : FK} {ob : AObj} (h : mkO P r op = some (k, ob)) (hr : ∀ x ∈ op.operands, ∃ y, VRel m (r x) y) : ObFit m ob := by
  have hsc : ∀ v, scalarV v = true → ∃ y, VRel m v y := fun v hv => ⟨v, .of_scalar hv m⟩
  cases op <;> simp only [mkO] at h <;> (try (cases h; done)) <;> simp only [Op.operands] at hr
  case alloc t =>
    repeat' (split at h)
    all_goals (try (cases h; done))
    rename_i hg
    simp only [Option.some.injEq, Prod.mk.injEq] at h
    obtain ⟨rfl, rfl⟩ := h
    exact ⟨rfl, cells_fit (VRel.of_ground hg m)⟩
  case box t x =>
    simp only [Option.some.injEq, Prod.mk.injEq] at h
    obtain ⟨rfl, rfl⟩ := h
    obtain ⟨y, hy⟩ := hr x (by simp)
    exact ⟨rfl, cells_fit hy⟩
  case buildSlice t len ps =>
    repeat' (split at h)
    all_goals (try (cases h; done))
    rename_i hc _ _ hcs
    simp only [Option.some.injEq, Prod.mk.injEq] at h
    obtain ⟨rfl, rfl⟩ := h
    refine ⟨rfl, aputs_fit _ _ _ hcs (azeros_fit (fun v hv => hsc v (List.all_eq_true.1 hc.2.2.2 v hv)) _) fun x hx v hv => ?_⟩
    unfold aparts at hx
    obtain ⟨q, hq, rfl⟩ := List.mem_map.1 hx
    obtain ⟨y, hy⟩ := hr q.2 (by simpa using ⟨q.1, by simpa using hq⟩)
    exact cells_fit hy v hv
  case makeSlice t l c =>
    repeat' (split at h)
    all_goals (try (cases h; done))
    rename_i hc
    simp only [Option.some.injEq, Prod.mk.injEq] at h
    obtain ⟨rfl, rfl⟩ := h
    exact ⟨rfl, azeros_fit (fun v hv => hsc v (List.all_eq_true.1 hc.2.2.1 v hv)) _⟩
  case makeMap t x =>
    repeat' (split at h)
    all_goals (try (cases h; done))
    all_goals (
      simp only [Option.some.injEq, Prod.mk.injEq] at h
      obtain ⟨rfl, rfl⟩ := h
      exact ⟨rfl, rfl⟩)

/-- Such an object is whole under any map that agrees with the old one. -/
theorem OMatch.fit {m m1 m' : Mp} {w : World} {p : Pl} {ob : AObj} (hb : ObFit m ob) (hag : ∀ i, m i ≠ none → m' i = m1 i) (h : OMatch m1 w p ob) : OMatch m' w p ob := by
  cases ob with
  | cells cs own u =>
    obtain ⟨cur, e, fr, h1, h2, h3, h4, h5⟩ := h
    refine ⟨cur, e, fr, h1, h2, h3, h4, fun k v hv => ?_⟩
    obtain ⟨y, hy, hr⟩ := h5 k v hv
    obtain ⟨x, hx⟩ := hb.2 v (List.mem_of_getElem? hv)
    exact ⟨_, hy, hx.within hag _ hr⟩
  | map es own =>
    obtain ⟨ents, clock, es', hp, h1, h2, h3⟩ := h
    obtain ⟨_, rfl⟩ := hb
    have := hp.nil_eq
    subst this
    exact ⟨ents, clock, [], hp, h1, h2, fun k x e hx => by simp at hx⟩

theorem OMatch.perm {m : Mp} {w : World} {p : Pl} {es es' : List (Value × Value)} {own : Bool} (hp : es.Perm es') (h : OMatch m w p (.map es own)) : OMatch m w p (.map es' own) := by
  obtain ⟨ents, clock, e2, h1, h2⟩ := h
  exact ⟨ents, clock, e2, hp.symm.trans h1, h2⟩

/-- A float that has run: its block is whole, and nobody else knows of it. -/
def FF (m : Mp) (A : AW) (w : World) (s0 j : Nat) (ob : AObj) : Prop :=
  ∃ p, m j = some p ∧ OMatch m w p ob ∧ s0 ≤ p.block ∧ Gl.B p.block = none ∧ ¬ UsedB m A p.block ∧ ob.own = true

theorem OwnB.used {m : Mp} {A : AW} {b : Nat} (h : OwnB m A b) : UsedB m A b := by
  obtain ⟨i, o, p, h1, _, h2, h3⟩ := h
  exact ⟨i, o, p, h1, h2, h3⟩

theorem FF.evo {m m' : Mp} {A A' : AW} {w w' : World} {s0 j : Nat} {ob : AObj} (h : FF m A w s0 j ob) (ev : Evo m A w m' A' w') : FF m' A' w' s0 j ob := by
  obtain ⟨p, h1, h2, h3, h4, h5, h6⟩ := h
  refine ⟨p, ev.ext _ _ h1, (h2.heap (ev.out _ h2.lt fun q => h5 q.used)).mono ev.ext, h3, h4, fun q => ?_, h6⟩
  rcases ev.used _ q with q | q | q
  · exact h5 q
  · have := h2.lt; omega
  · exact q h4

def Mp.put (m : Mp) (j : Nat) (p : Pl) : Mp := fun i => if i = j then some p else m i

theorem Mp.put_le {m : Mp} {j : Nat} {p : Pl} (h : m j = none) : Mp.le m (m.put j p) := fun i x e => by
  unfold Mp.put
  split
  · rename_i e1; subst e1; rw [h] at e; cases e
  · exact e

theorem Sim.ne {m : Mp} {A : AW} {w : World} (hs : Sim m A w) {i j : Nat} {o : AObj} (hj : m j = none) (h : A.get i = some o) : i ≠ j := fun e => by
  subst e
  obtain ⟨p, h1, _⟩ := hs.obj _ _ h
  rw [hj] at h1
  cases h1

theorem used_put {m : Mp} {A : AW} {w : World} (hs : Sim m A w) {j : Nat} {p : Pl} (hj : m j = none) {b : Nat} (h : UsedB (m.put j p) A b) : UsedB m A b := by
  obtain ⟨i, o, q, h1, h2, h3⟩ := h
  have := hs.ne hj h1
  simp only [Mp.put, this, if_false] at h2
  exact ⟨i, o, q, h1, h2, h3⟩
theorem own_put {m : Mp} {A : AW} {w : World} (hs : Sim m A w) {j : Nat} {p : Pl} (hj : m j = none) {b : Nat} (h : OwnB (m.put j p) A b) : OwnB m A b := by
  obtain ⟨i, o, q, h1, h0, h2, h3⟩ := h
  have := hs.ne hj h1
  simp only [Mp.put, this, if_false] at h2
  exact ⟨i, o, q, h1, h0, h2, h3⟩

/-- A float runs: its block lies at the number that was set aside. -/
theorem float_step {m m1 : Mp} {A : AW} {w w1 : World} {j : Nat} {k : FK} {ob : AObj} {x : Value} (hs : Sim m A w) (hj : j < A.next) (hmj : m j = none) (hob : ObFit m ob)
    (ev : Evo m A w m1 (A.alloc ob) w1) (hv : VRel m1 (k.val A.next) x) :
    ∃ p, Sim (m.put j p) A w1 ∧ VRel (m.put j p) (k.val j) x ∧ OMatch (m.put j p) w1 p ob ∧ w.heap.size ≤ p.block ∧ Gl.B p.block = none := by
  have hnew : (A.alloc ob).get A.next = some ob := by simp [AW.alloc]
  have hold : ∀ {i o}, A.get i = some o → (A.alloc ob).get i = some o := fun {i o} h => by
    have : i ≠ A.next := fun e => by subst e; rw [hs.low _ (Nat.le_refl _)] at h; cases h
    simp [AW.alloc, this, h]
  obtain ⟨p, hp, hm⟩ := ev.sim.obj _ _ hnew
  have hown := hob.own
  have hle : Mp.le m (m.put j p) := Mp.put_le hmj
  have hag : ∀ i, m i ≠ none → (m.put j p) i = m1 i := fun i hi => by
    cases h : m i with
    | none => exact absurd h hi
    | some q => rw [hle _ _ h, ev.ext _ _ h]
  have hsz : w.heap.size ≤ p.block := by
    rcases ev.grow p.block ⟨_, ob, p, hnew, hown, hp, rfl⟩ with ⟨i, o, q, h1, h2, h3, h4⟩ | h
    · exfalso
      have hne : i ≠ A.next := fun e => by subst e; rw [hs.low _ (Nat.le_refl _)] at h1; cases h1
      exact ev.sim.inj i A.next o ob q p (hold h1) h2 hnew hne (ev.ext _ _ h3) hp h4
    · exact h
  have hB : Gl.B p.block = none := ev.sim.lown _ ob p hnew hown hp
  refine ⟨p, ⟨?_, ?_, ?_, hs.low, ev.sim.laid, ?_, hs.glob.mono hle⟩, FK.move hv (by simp [Mp.put, hp]), hm.fit hob hag, hsz, hB⟩
  · intro i o hi
    obtain ⟨q0, hq0, hm0⟩ := hs.obj i o hi
    obtain ⟨q, hq, hmq⟩ := ev.sim.obj i o (hold hi)
    rw [ev.ext _ _ hq0] at hq
    injection hq with hq
    subst hq
    refine ⟨q0, hle _ _ hq0, ?_⟩
    cases o with
    | cells cs own u =>
      obtain ⟨cur, e1, fr, g1, g2, g3, g4, g5⟩ := hmq
      obtain ⟨_, _, _, _, _, _, _, k5⟩ := hm0
      refine ⟨cur, e1, fr, g1, g2, g3, g4, fun k u hu => ?_⟩
      obtain ⟨y, hy, hr⟩ := g5 k u hu
      obtain ⟨x, _, hr0⟩ := k5 k u hu
      exact ⟨y, hy, hr0.within hag y hr⟩
    | map es own =>
      obtain ⟨ents, clock, es', gp, g1, g2, g3⟩ := hmq
      obtain ⟨ents0, _, es0, kp, _, k2, k3⟩ := hm0
      refine ⟨ents, clock, es', gp, g1, g2, fun k x e hx he => ?_⟩
      obtain ⟨k0, hk0⟩ := List.mem_iff_getElem?.1 ((kp.mem_iff).1 ((gp.mem_iff).2 (List.mem_of_getElem? hx)))
      have hlt : k0 < ents0.size := by rw [← k2]; exact (List.getElem?_eq_some_iff.1 hk0).1
      have q := k3 k0 x _ hk0 (Array.getElem?_eq_getElem hlt)
      have r := g3 k x e hx he
      exact ⟨q.1.within hag _ r.1, q.2.within hag _ r.2⟩
  · intro i i' o o' q q' hi ho hi' hne hq hq'
    have e1 := hs.ne hmj hi
    have e2 := hs.ne hmj hi'
    simp only [Mp.put, e1, e2, if_false] at hq hq'
    exact hs.inj i i' o o' q q' hi ho hi' hne hq hq'
  · intro i hi
    have : i ≠ j := by omega
    simp only [Mp.put, this, if_false]
    exact hs.fresh i hi
  · intro i o q hi ho hq
    have e1 := hs.ne hmj hi
    simp only [Mp.put, e1, if_false] at hq
    exact hs.lown i o q hi ho hq

theorem float_evo {m0 m m1 : Mp} {A0 A : AW} {w0 w w1 : World} {j : Nat} {ob : AObj} {p : Pl} (h0 : Evo m0 A0 w0 m A w) (hj : A0.next ≤ j) (hmj : m j = none) (ev : Evo m A w m1 (A.alloc ob) w1)
    (hs : Sim (m.put j p) A w1) : Evo m0 A0 w0 (m.put j p) A w1 := by
  refine ⟨Mp.le_trans h0.ext (Mp.put_le hmj), hs, h0.next, ev.os.trans h0.os, ev.tape.trans h0.tape, ev.output.trans h0.output, Nat.le_trans h0.size ev.size, ?_, ?_, ?_, ?_⟩
  · intro b hb ho
    rw [ev.out b (Nat.lt_of_lt_of_le hb h0.size) (fun hx => ?_), h0.out b hb ho]
    rcases h0.grow b hx with h1 | h1
    · exact ho h1
    · omega
  · exact fun b hb => h0.grow b (own_put h0.sim hmj hb)
  · intro i hi
    have : i ≠ j := by omega
    simp only [Mp.put, this, if_false]
    exact h0.keep i hi
  · exact fun b hb => h0.used b (used_put h0.sim hmj hb)

/-- Another float stays as it is. -/
theorem FF.float {m m1 : Mp} {A : AW} {w w1 : World} {s0 j j1 : Nat} {ob ob1 : AObj} {p : Pl} (hs : Sim m A w) (h : FF m A w s0 j1 ob1) (hmj : m j = none) (ev : Evo m A w m1 (A.alloc ob) w1) :
    FF (m.put j p) A w1 s0 j1 ob1 := by
  obtain ⟨q, h1, h2, h3, h4, h5, h6⟩ := h
  exact ⟨q, Mp.put_le hmj _ _ h1, (h2.heap (ev.out _ h2.lt fun q => h5 q.used)).mono (Mp.put_le hmj), h3, h4, fun q => h5 (used_put hs hmj q), h6⟩

/-- A float's block is taken into the memory. -/
theorem float_claim {m0 m : Mp} {A0 A : AW} {w0 w : World} {j : Nat} {ob : AObj} (h0 : Evo m0 A0 w0 m A w) (hf : FF m A w w0.heap.size j ob) :
    Evo m0 A0 w0 m (A.set j (some ob)) w := by
  obtain ⟨p, h1, h2, h3, h4, h5, _⟩ := hf
  have hs := h0.sim
  have hlt : j < A.next := by
    rcases Nat.lt_or_ge j A.next with h | h
    · exact h
    · rw [hs.fresh j h] at h1; cases h1
  have hu : ∀ b, UsedB m (A.set j (some ob)) b → UsedB m A b ∨ b = p.block := by
    rintro b ⟨i, o, q, g1, g2, g3⟩
    by_cases e : i = j
    · subst e
      rw [h1] at g2
      injection g2 with g2
      subst g2
      exact .inr g3.symm
    · rw [AW.set_get_ne e] at g1
      exact .inl ⟨i, o, q, g1, g2, g3⟩
  refine ⟨h0.ext, ⟨?_, ?_, hs.fresh, ?_, hs.laid, ?_, hs.glob⟩, h0.next, h0.os, h0.tape, h0.output, h0.size, h0.out, ?_, h0.keep, ?_⟩
  · intro i o hi
    by_cases e : i = j
    · subst e
      rw [AW.set_get_same] at hi
      injection hi with hi
      subst hi
      exact ⟨p, h1, h2⟩
    · rw [AW.set_get_ne e] at hi
      exact hs.obj i o hi
  · intro i i' o o' q q' hi ho hi' hne hq hq'
    by_cases e : i = j
    · subst e
      rw [AW.set_get_ne (Ne.symm hne)] at hi'
      rw [h1] at hq
      injection hq with hq
      subst hq
      exact fun e2 => h5 ⟨i', o', q', hi', hq', e2.symm⟩
    · rw [AW.set_get_ne e] at hi
      by_cases e' : i' = j
      · subst e'
        rw [h1] at hq'
        injection hq' with hq'
        subst hq'
        exact fun e2 => h5 ⟨i, o, q, hi, hq, e2⟩
      · rw [AW.set_get_ne e'] at hi'
        exact hs.inj i i' o o' q q' hi ho hi' hne hq hq'
  · intro i hi
    have hin : A.next ≤ i := hi
    rw [AW.set_get_ne (by omega)]
    exact hs.low i hin
  · intro i o q hi ho hq
    by_cases e : i = j
    · subst e
      rw [h1] at hq
      injection hq with hq
      subst hq
      exact h4
    · rw [AW.set_get_ne e] at hi
      exact hs.lown i o q hi ho hq
  · rintro b ⟨i, o, q, g1, g0, g2, g3⟩
    by_cases e : i = j
    · subst e
      rw [h1] at g2
      injection g2 with g2
      subst g2
      exact .inr (by rw [← g3]; exact h3)
    · rw [AW.set_get_ne e] at g1
      exact h0.grow b ⟨i, o, q, g1, g0, g2, g3⟩
  · intro b hb
    rcases hu b hb with h | h
    · exact h0.used b h
    · exact .inr (.inl (by rw [h]; exact h3))


/-! ### The floats of a region -/

/-- A float: the operation that makes it, its number, the shape of its address, the object as made; for a map: the operations that write an entry into it; and the operation ahead of which it is taken into the memory. -/
structure FD where
  op : Nat
  num : Nat
  k : FK
  ob : AObj
  ins : List (Nat × Value × Value)
  till : Nat

def FD.cur (x : FD) (S : Nat → Bool) : AObj := match x.ob with
  | .map _ own => .map ((x.ins.filter fun q => S q.1).map (·.2)) own
  | .cells cs own u => .cells cs own u
def FD.full (x : FD) : AObj := match x.ob with
  | .map _ own => .map (x.ins.map (·.2)) own
  | .cells cs own u => .cells cs own u

theorem FD.cur_full {x : FD} {S : Nat → Bool} (h : ∀ q ∈ x.ins, S q.1 = true) : x.cur S = x.full := by
  unfold FD.cur FD.full
  split
  · rw [List.filter_eq_self.2 h]
  · rfl
theorem FD.cur_set {x : FD} {S : Nat → Bool} {i : Nat} (h : ∀ q ∈ x.ins, q.1 ≠ i) : x.cur (setL S i) = x.cur S := by
  unfold FD.cur
  have : (x.ins.filter fun q => setL S i q.1) = x.ins.filter fun q => S q.1 := List.filter_congr fun q hq => by simp [setL, h q hq]
  rw [this]
theorem FD.cur_own {x : FD} {S : Nat → Bool} : (x.cur S).own = x.ob.own := by
  unfold FD.cur
  split <;> rename_i h <;> rw [h] <;> rfl

/-- One taken into the memory. -/
def clm1 (A : AW) (x : FD) : AW := A.set x.num (some x.full)
def clm (l : List FD) (A : AW) : AW := l.foldl clm1 A
theorem clm_nil (A : AW) : clm [] A = A := rfl
theorem clm_cons (x : FD) (l : List FD) (A : AW) : clm (x :: l) A = clm l (clm1 A x) := rfl

/-- What is so of a region's floats once and for all. -/
structure FlOk (fl : List FD) : Prop where
  ops : ∀ x ∈ fl, ∀ y ∈ fl, x.op = y.op → x = y
  nums : ∀ x ∈ fl, ∀ y ∈ fl, x.num = y.num → x = y
  ins : ∀ x ∈ fl, ∀ y ∈ fl, ∀ q ∈ x.ins, q.1 ≠ y.op ∧ q.1 ≠ y.till ∧ (x ≠ y → ∀ r ∈ y.ins, q.1 ≠ r.1)
  till : ∀ x ∈ fl, ∀ y ∈ fl, x.op ≠ y.till
  nd : fl.Nodup

structure FInv (m0 : Mp) (A0 : AW) (w0 : World) (fl : List FD) (S : Nat → Bool) (m : Mp) (A : AW) (w : World) : Prop where
  ev : Evo m0 A0 w0 m A w
  on : ∀ x ∈ fl, S x.op = true → S x.till = false → FF m A w w0.heap.size x.num (x.cur S)
  off : ∀ x ∈ fl, S x.op = false → m x.num = none
  dis : ∀ x ∈ fl, ∀ y ∈ fl, x ≠ y → ∀ p q, m x.num = some p → m y.num = some q → p.block ≠ q.block
  room : ∀ x ∈ fl, x.num < A.next
  low : ∀ x ∈ fl, A0.next ≤ x.num
  lt : ∀ x ∈ fl, ∀ p, m x.num = some p → p.block < w.heap.size

theorem FF.none {m : Mp} {A : AW} {w : World} {s0 j : Nat} {ob : AObj} (h : FF m A w s0 j ob) : A.get j = none := by
  obtain ⟨p, h1, _, _, _, h5, _⟩ := h
  cases hg : A.get j with
  | none => rfl
  | some o => exact absurd ⟨j, o, p, hg, h1, rfl⟩ h5

/-- A float is taken in; what the others are stays. -/
theorem claim_all {m0 m : Mp} {A0 : AW} {w0 w : World} : ∀ (cl : List FD) (A : AW) (fl : List FD) (S : Nat → Bool), Evo m0 A0 w0 m A w → cl.Nodup →
    (∀ x ∈ cl, FF m A w w0.heap.size x.num x.full) → (∀ y ∈ fl, FF m A w w0.heap.size y.num (y.cur S)) →
    (∀ x ∈ cl, ∀ y ∈ fl, ∀ p q, m x.num = some p → m y.num = some q → p.block ≠ q.block) →
    (∀ x ∈ cl, ∀ y ∈ cl, x ≠ y → ∀ p q, m x.num = some p → m y.num = some q → p.block ≠ q.block) →
    Evo m0 A0 w0 m (clm cl A) w ∧ (∀ y ∈ fl, FF m (clm cl A) w w0.heap.size y.num (y.cur S)) ∧ (clm cl A).next = A.next
  | [], A, fl, S, ev, _, _, h2, _, _ => ⟨ev, h2, rfl⟩
  | x :: cl, A, fl, S, ev, hnd, h1, h2, h3, h4 => by
    simp only [List.nodup_cons] at hnd
    have hx := h1 x (by simp)
    have ev1 := float_claim ev hx
    obtain ⟨p, g1, g2, g3, g4, g5, g6⟩ := hx
    have keep : ∀ {j : Nat} {ob : AObj}, (∀ q, m j = some q → p.block ≠ q.block) → FF m A w w0.heap.size j ob → FF m (clm1 A x) w w0.heap.size j ob := by
      rintro j ob hd ⟨q, k1, k2, k3, k4, k5, k6⟩
      refine ⟨q, k1, k2, k3, k4, ?_, k6⟩
      rintro ⟨i, o, p', e1, e2, e3⟩
      unfold clm1 at e1
      by_cases e : i = x.num
      · subst e
        rw [g1] at e2
        injection e2 with e2
        subst e2
        exact hd q k1 e3
      · rw [AW.set_get_ne e] at e1
        exact k5 ⟨i, o, p', e1, e2, e3⟩
    obtain ⟨r1, r2, r3⟩ := claim_all cl (clm1 A x) fl S ev1 hnd.2 (fun y hy => keep (fun q hq => h4 x (by simp) y (by simp [hy]) (fun e => hnd.1 (by rw [e]; exact hy)) p q g1 hq) (h1 y (by simp [hy])))
      (fun y hy => keep (fun q hq => h3 x (by simp) y hy p q g1 hq) (h2 y hy)) (fun a ha => h3 a (by simp [ha])) fun a ha b hb => h4 a (by simp [ha]) b (by simp [hb])
    exact ⟨r1, r2, r3⟩

/-- Those that are taken ahead of the operation i. -/
def clOf (fl : List FD) (i : Nat) : List FD := fl.filter fun x => x.till == i

theorem FInv.claim {m0 m : Mp} {A0 A : AW} {w0 w : World} {fl : List FD} {S : Nat → Bool} (hok : FlOk fl) (h : FInv m0 A0 w0 fl S m A w) {i : Nat} (hS : S i = false)
    (hc : ∀ x ∈ fl, x.till = i → S x.op = true ∧ ∀ q ∈ x.ins, S q.1 = true) :
    Evo m0 A0 w0 m (clm (clOf fl i) A) w ∧ (∀ y ∈ fl, S y.op = true → S y.till = false → y.till ≠ i → FF m (clm (clOf fl i) A) w w0.heap.size y.num (y.cur S)) ∧ (clm (clOf fl i) A).next = A.next := by
  have hmem : ∀ x ∈ clOf fl i, x ∈ fl ∧ x.till = i := fun x hx => by simpa [clOf] using hx
  obtain ⟨r1, r2, r3⟩ := claim_all (clOf fl i) A (fl.filter fun y => S y.op && !S y.till && !(y.till == i)) S h.ev (hok.nd.filter _)
    (fun x hx => by
      obtain ⟨h1, h2⟩ := hmem x hx
      obtain ⟨h3, h4⟩ := hc x h1 h2
      rw [← FD.cur_full h4]
      exact h.on x h1 h3 (by rw [h2]; exact hS))
    (fun y hy => by
      simp only [List.mem_filter, Bool.and_eq_true, Bool.not_eq_true'] at hy
      exact h.on y hy.1 hy.2.1.1 hy.2.1.2)
    (fun x hx y hy => by
      obtain ⟨h1, h2⟩ := hmem x hx
      simp only [List.mem_filter, Bool.and_eq_true, Bool.not_eq_true'] at hy
      exact h.dis x h1 y hy.1 fun e => by rw [← e, h2] at hy; simp at hy)
    (fun x hx y hy hne => h.dis x (hmem x hx).1 y (hmem y hy).1 hne)
  exact ⟨r1, fun y hy h1 h2 h3 => r2 y (by simp [hy, h1, h2, h3]), r3⟩

/-- Another operation is done. -/
theorem FInv.drew {m0 m : Mp} {A0 A : AW} {w0 w : World} {fl : List FD} {S : Nat → Bool} (hok : FlOk fl) (h : FInv m0 A0 w0 fl S m A w) {i : Nat} (hS : S i = false)
    (hc : ∀ x ∈ fl, x.till = i → S x.op = true ∧ ∀ q ∈ x.ins, S q.1 = true) (hn : ∀ x ∈ fl, x.op ≠ i ∧ ∀ q ∈ x.ins, q.1 ≠ i)
    {m1 : Mp} {A1 : AW} {w1 : World} (ev : Evo m (clm (clOf fl i) A) w m1 A1 w1) : FInv m0 A0 w0 fl (setL S i) m1 A1 w1 := by
  obtain ⟨c1, c2, c3⟩ := h.claim hok hS hc
  have hkeep : ∀ x ∈ fl, m1 x.num = m x.num := fun x hx => ev.keep _ (by rw [c3]; exact h.room x hx)
  refine ⟨c1.trans ev, fun x hx h1 h2 => ?_, fun x hx h1 => ?_, fun x hx y hy hne p q hp hq => ?_, fun x hx => ?_, h.low, fun x hx p hp => ?_⟩
  · have h1' : S x.op = true := by simpa [setL, (hn x hx).1] using h1
    have ht : x.till ≠ i := fun e => by simp [setL, e] at h2
    have h2' : S x.till = false := by simpa [setL, ht] using h2
    rw [FD.cur_set (hn x hx).2]
    exact (c2 x hx h1' h2' ht).evo ev
  · have h1' : S x.op = false := by simpa [setL, (hn x hx).1] using h1
    rw [hkeep x hx]
    exact h.off x hx h1'
  · rw [hkeep x hx] at hp
    rw [hkeep y hy] at hq
    exact h.dis x hx y hy hne p q hp hq
  · have := ev.next
    rw [c3] at this
    exact Nat.lt_of_lt_of_le (h.room x hx) this
  · rw [hkeep x hx] at hp
    exact Nat.lt_of_lt_of_le (h.lt x hx p hp) ev.size

/-- A float is made. -/
theorem FInv.float {m0 m m1 : Mp} {A0 A : AW} {w0 w w1 : World} {fl : List FD} {S : Nat → Bool} (hok : FlOk fl) (h : FInv m0 A0 w0 fl S m A w) {x : FD} {p : Pl} (hx : x ∈ fl) (hS : S x.op = false)
    (hins : x.cur S = x.ob) (ev : Evo m A w m1 (A.alloc x.ob) w1) (hs : Sim (m.put x.num p) A w1) (hm : OMatch (m.put x.num p) w1 p x.ob) (hsz : w.heap.size ≤ p.block)
    (hB : Gl.B p.block = none) (how : x.ob.own = true) : FInv m0 A0 w0 fl (setL S x.op) (m.put x.num p) A w1 := by
  have hmj := h.off x hx hS
  have hs0 := h.ev.sim
  have hput : ∀ y ∈ fl, y ≠ x → (m.put x.num p) y.num = m y.num := fun y hy hne => by
    have : y.num ≠ x.num := fun e => hne (hok.nums y hy x hx e)
    simp [Mp.put, this]
  have hsame : (m.put x.num p) x.num = some p := by simp [Mp.put]
  have hcur : ∀ y ∈ fl, y.cur (setL S x.op) = y.cur S := fun y hy => FD.cur_set fun q hq => (hok.ins y hy x hx q hq).1
  have hlt := hm.lt
  refine ⟨float_evo h.ev (h.low x hx) hmj ev hs, fun y hy h1 h2 => ?_, fun y hy h1 => ?_, fun y hy z hz hne p1 p2 hp1 hp2 => ?_, h.room, h.low, fun y hy p1 hp1 => ?_⟩
  · have h2' : S y.till = false := by
      have : y.till ≠ x.op := fun e => hok.till x hx y hy e.symm
      simpa [setL, this] using h2
    rw [hcur y hy]
    by_cases e : y = x
    · subst e
      rw [hins]
      refine ⟨p, hsame, hm, Nat.le_trans h.ev.size hsz, hB, fun q => ?_, how⟩
      obtain ⟨i0, o, q0, g1, g2, g3⟩ := used_put hs0 hmj q
      have := hs0.blk g1 g2
      omega
    · have : y.op ≠ x.op := fun e1 => e (hok.ops y hy x hx e1)
      exact (h.on y hy (by simpa [setL, this] using h1) h2').float hs0 hmj ev
  · have e : y ≠ x := fun e => by subst e; simp [setL] at h1
    have : y.op ≠ x.op := fun e1 => e (hok.ops y hy x hx e1)
    rw [hput y hy e]
    exact h.off y hy (by simpa [setL, this] using h1)
  · by_cases e1 : y = x
    · subst e1
      rw [hsame] at hp1
      injection hp1 with hp1
      subst hp1
      rw [hput z hz (Ne.symm hne)] at hp2
      have := h.lt z hz p2 hp2
      omega
    · rw [hput y hy e1] at hp1
      by_cases e2 : z = x
      · subst e2
        rw [hsame] at hp2
        injection hp2 with hp2
        subst hp2
        have := h.lt y hy p1 hp1
        omega
      · rw [hput z hz e2] at hp2
        exact h.dis y hy z hz hne p1 p2 hp1 hp2
  · by_cases e1 : y = x
    · subst e1
      rw [hsame] at hp1
      injection hp1 with hp1
      subst hp1
      exact hlt
    · rw [hput y hy e1] at hp1
      exact Nat.lt_of_lt_of_le (h.lt y hy p1 hp1) ev.size

/-- A block of ours is forgotten again. -/
theorem evo_unclaim {m0 m m1 : Mp} {A0 A : AW} {w0 w w1 : World} {j : Nat} {ob ob' : AObj} (h : Evo m0 A0 w0 m (A.set j (some ob)) w) (hj : A.get j = none) (ev : Evo m (A.set j (some ob)) w m1 (A.set j (some ob')) w1) :
    Evo m0 A0 w0 m1 A w1 := by
  have e := h.trans ev
  have k := e.trans (Evo.kill e.sim j)
  rw [AW.set_set, AW.set_self hj] at k
  exact k

/-- An entry is written into a map that is a float. -/
theorem FInv.entry {m0 m m1 : Mp} {A0 A : AW} {w0 w w1 : World} {fl : List FD} {S : Nat → Bool} (hok : FlOk fl) (h : FInv m0 A0 w0 fl S m A w) {x : FD} {i : Nat} {ob' : AObj} (hx : x ∈ fl) (hS : S x.op = true) (ht : S x.till = false)
    (hi : ∃ q ∈ x.ins, q.1 = i) (ev : Evo m (A.set x.num (some (x.cur S))) w m1 (A.set x.num (some ob')) w1) (hfin : ∀ p, OMatch m1 w1 p ob' → OMatch m1 w1 p (x.cur (setL S i))) : FInv m0 A0 w0 fl (setL S i) m1 A w1 := by
  obtain ⟨q0, hq0, hqi⟩ := hi
  have hff := h.on x hx hS ht
  have hnone := hff.none
  have evc := float_claim h.ev hff
  have hnx : x.num < A.next := h.room x hx
  have hkeep : ∀ y ∈ fl, m1 y.num = m y.num := fun y hy => ev.keep _ (h.room y hy)
  obtain ⟨p, g1, g2, g3, g4, g5, g6⟩ := hff
  have hp1 : m1 x.num = some p := by rw [hkeep x hx]; exact g1
  have hset : ∀ y ∈ fl, S y.op = (setL S i) y.op ∧ S y.till = (setL S i) y.till := fun y hy => by
    obtain ⟨k1, k2, _⟩ := hok.ins x hx y hy q0 hq0
    rw [hqi] at k1 k2
    exact ⟨by simp [setL, Ne.symm k1], by simp [setL, Ne.symm k2]⟩
  have hused : ∀ {b}, UsedB m1 A b → UsedB m A b := by
    rintro b ⟨j, o, q, e1, e2, e3⟩
    have hjn : j < A.next := by
      rcases Nat.lt_or_ge j A.next with e | e
      · exact e
      · rw [h.ev.sim.low j e] at e1; cases e1
    exact ⟨j, o, q, e1, by rw [← ev.keep j hjn]; exact e2, e3⟩
  refine ⟨evo_unclaim evc hnone ev, fun y hy h1 h2 => ?_, fun y hy h1 => ?_, fun y hy z hz hne p1 p2 hp1 hp2 => ?_, h.room, h.low, fun y hy p1 hp1 => ?_⟩
  · rw [← (hset y hy).1] at h1
    rw [← (hset y hy).2] at h2
    by_cases e : y = x
    · subst e
      obtain ⟨p', k1, k2⟩ := ev.sim.obj y.num ob' (by simp [AW.set])
      rw [hp1] at k1
      injection k1 with k1
      subst k1
      refine ⟨p, hp1, hfin p k2, g3, g4, fun q => g5 (hused q), ?_⟩
      rw [FD.cur_own] at g6 ⊢
      exact g6
    · rw [FD.cur_set fun r hr e2 => by
        have := (hok.ins x hx y hy q0 hq0).2.2 (Ne.symm e) r hr
        exact this (hqi.trans e2.symm)]
      obtain ⟨p', k1, k2, k3, k4, k5, k6⟩ := h.on y hy h1 h2
      refine ⟨p', by rw [hkeep y hy]; exact k1, (k2.heap (ev.out _ k2.lt fun q => ?_)).mono ev.ext, k3, k4, fun q => k5 (hused q), k6⟩
      obtain ⟨j, o, r, e1, _, e3, e4⟩ := q
      by_cases ej : j = x.num
      · subst ej
        rw [g1] at e3
        injection e3 with e3
        subst e3
        exact h.dis x hx y hy (Ne.symm e) p p' g1 k1 e4
      · rw [AW.set_get_ne ej] at e1
        exact k5 ⟨j, o, r, e1, e3, e4⟩
  · rw [← (hset y hy).1] at h1
    rw [hkeep y hy]
    exact h.off y hy h1
  · rw [hkeep y hy] at hp1
    rw [hkeep z hz] at hp2
    exact h.dis y hy z hz hne p1 p2 hp1 hp2
  · rw [hkeep y hy] at hp1
    exact Nat.lt_of_lt_of_le (h.lt y hy p1 hp1) ev.size

def AW.bump (A : AW) (n : Nat) : AW := { A with next := A.next + n }

theorem Evo.bump {m : Mp} {A : AW} {w : World} (hs : Sim m A w) (n : Nat) : Evo m A w m (A.bump n) w :=
  ⟨Mp.le_refl m, ⟨hs.obj, hs.inj, fun i hi => hs.fresh i (Nat.le_trans (Nat.le_add_right _ _) hi), fun i hi => hs.low i (Nat.le_trans (Nat.le_add_right _ _) hi), hs.laid, hs.lown, hs.glob⟩,
    Nat.le_add_right _ _, rfl, rfl, rfl, Nat.le_refl _, fun _ _ _ => rfl, fun _ h => .inl h, fun _ _ => rfl, fun _ h => .inl h⟩

theorem FInv.start {m : Mp} {A : AW} {w : World} (hs : Sim m A w) (fl : List FD) {n : Nat} (hn : ∀ x ∈ fl, A.next ≤ x.num ∧ x.num < A.next + n) {S : Nat → Bool} (hS : ∀ i, S i = false) : FInv m A w fl S m (A.bump n) w :=
  ⟨Evo.bump hs _, fun x _ h => by (rw [hS] at h; cases h), fun x hx _ => hs.fresh _ (hn x hx).1,
    fun x hx y hy _ p q hp => by (rw [hs.fresh _ (hn x hx).1] at hp; cases hp), fun x hx => (hn x hx).2, fun x hx => (hn x hx).1, fun x hx p hp => by (rw [hs.fresh _ (hn x hx).1] at hp; cases hp)⟩

/-- At the end all that is left is taken. -/
theorem FInv.fin {m0 m : Mp} {A0 A : AW} {w0 w : World} {fl : List FD} {S : Nat → Bool} (hok : FlOk fl) (h : FInv m0 A0 w0 fl S m A w) {n : Nat} (hS : ∀ i, i < n → S i = true) (hS2 : ∀ i, n ≤ i → S i = false)
    (hin : ∀ x ∈ fl, x.op < n ∧ ∀ q ∈ x.ins, q.1 < n) (htl : ∀ x ∈ fl, n ≤ x.till → x.till = n) : Evo m0 A0 w0 m (clm (clOf fl n) A) w :=
  (h.claim hok (hS2 n (Nat.le_refl n)) fun x hx _ => ⟨hS _ (hin x hx).1, fun q hq => hS _ ((hin x hx).2 q hq)⟩).1


/-! ### The rule -/

theorem wp_of_float {P : Program} {m : Mp} {A : AW} {w : World} (hs : Sim m A w) {o : Oper} {n : Nat} {a : Fr} {ca : Act} (hf : FRel m n a ca) (ho : operOk n o = true)
    {j : Nat} {k : FK} {ob : AObj} (hj : j < A.next) (hmj : m j = none) (h : mkO P (evF a) o.op = some (k, ob))
    {K : Act → World → Prop} {Q : Exit → Act → World → Prop}
    (hK : ∀ m1 w1 p ca', Evo m A w m1 (A.alloc ob) w1 → Sim (m.put j p) A w1 → OMatch (m.put j p) w1 p ob → w.heap.size ≤ p.block → Gl.B p.block = none → ob.own = true →
      FRel (m.put j p) n (putF a o.dst (k.val j)) ca' → K ca' w1) : o.wp P ca w K Q := by
  simp only [operOk, Bool.and_eq_true] at ho
  obtain ⟨ho1, ho2⟩ := ho
  have hd : ∀ i, o.dst = some i → i < n := fun i e => by rw [e] at ho2; simpa using ho2
  have hr : ∀ x ∈ o.op.operands, VRel m (evF a x) (ca.eval x) := fun x hx => hf.eval (Array.all_eq_true_iff_forall_mem.1 ho1 x hx)
  have hob : ObFit m ob := mkO_fit h fun x hx => ⟨_, hr x hx⟩
  obtain ⟨v', w', m', h1, h2, h3⟩ := ae_sound hs hr (mkO_ae h A)
  obtain ⟨p, g1, g2, g3, g4, g5⟩ := float_step hs hj hmj hob h2 h3
  unfold Oper.wp
  rcases h1 with h1 | ⟨h1, rfl⟩
  · rw [h1]
    exact hK m' w' p _ h2 g1 g3 g4 g5 hob.own ((hf.mono (Mp.put_le hmj)).put hd g2)
  · rw [h1]
    exact hK m' w' p _ h2 g1 g3 g4 g5 hob.own ((hf.mono (Mp.put_le hmj)).put hd g2)

/-- The keys of a float's entries differ. -/
def TyOk (P : Program) (t : TypeId) (x : FD) : Prop := ∃ kt e d, P.underlying t = some (.map kt e) ∧ P.underlying kt = some d ∧ isKeyDesc d = true ∧
  ∀ q ∈ x.ins, ∀ q' ∈ x.ins, q.1 ≠ q'.1 → Instr.sameNow d q.2.1 q'.2.1 = some false

theorem entry_step {P : Program} {t : TypeId} {x : FD} (ht : TyOk P t x) {own : Bool} (hob : x.ob = .map [] own) (how : own = true) {S : Nat → Bool} {q : Nat × Value × Value} (hq : q ∈ x.ins) (hS : S q.1 = false)
    (hnd : ∀ r ∈ x.ins, r.1 = q.1 → r = q) (hnl : x.ins.Nodup) {A : AW} {r : Operand → Value} {X K V : Operand} (hX : r X = .map (some x.num)) (hK : r K = q.2.1) (hV : r V = q.2.2) {k : Value → AW → Prop}
    (hk : ∀ ob', (∀ m w p, OMatch m w p ob' → OMatch m w p (x.cur (setL S q.1))) → k undef (A.set x.num (some ob'))) : AStep P (.insert t X K V) r (A.set x.num (some (x.cur S))) k := by
  obtain ⟨kt, e, d, h1, h2, h3, h4⟩ := ht
  subst how
  have hcur : x.cur S = .map ((x.ins.filter fun q => S q.1).map (·.2)) true := by unfold FD.cur; rw [hob]
  have hcur2 : x.cur (setL S q.1) = .map ((x.ins.filter fun z => setL S q.1 z.1).map (·.2)) true := by unfold FD.cur; rw [hob]
  have hnone : afindKey d q.2.1 ((x.ins.filter fun q => S q.1).map (·.2)) 0 = some none := afindKey_none.2 fun y hy => by
    obtain ⟨z, hz, rfl⟩ := List.mem_map.1 hy
    simp only [List.mem_filter] at hz
    exact h4 q hq z hz.1 fun e => by rw [← e, hS] at hz; cases hz.2
  have hup : amapUpdate P (A.set x.num (some (x.cur S))) t (.map (some x.num)) q.2.1 q.2.2 = some (A.set x.num (some (.map (((x.ins.filter fun q => S q.1).map (·.2)) ++ [q.2]) true))) := by
    unfold amapUpdate
    rw [h1]
    simp only
    rw [h2, AW.set_get_same, hcur]
    simp only [h3, if_true, hnone]
    rw [AW.set_set]
  have := hk (.map (((x.ins.filter fun q => S q.1).map (·.2)) ++ [q.2]) true) fun m w p ho => by
    rw [hcur2]
    refine ho.perm ?_
    obtain ⟨l, r', hlr⟩ := List.append_of_mem hq
    rw [hlr] at hnl hnd ⊢
    have hl : ∀ z ∈ l, z.1 ≠ q.1 := fun z hz e => by
      have := hnd z (by simp [hz]) e
      subst this
      rw [List.nodup_append] at hnl
      exact hnl.2.2 z hz z (by simp) rfl
    have hr' : ∀ z ∈ r', z.1 ≠ q.1 := fun z hz e => by
      have := hnd z (by simp [hz]) e
      subst this
      rw [List.nodup_append, List.nodup_cons] at hnl
      exact hnl.2.1.1 hz
    have e1 : (l.filter fun z => setL S q.1 z.1) = l.filter fun z => S z.1 := List.filter_congr fun z hz => by simp [setL, hl z hz]
    have e2 : (r'.filter fun z => setL S q.1 z.1) = r'.filter fun z => S z.1 := List.filter_congr fun z hz => by simp [setL, hr' z hz]
    have e3 : (setL S q.1) q.1 = true := by simp [setL]
    simp only [List.filter_append, List.filter_cons, hS, e3, e1, e2, if_true, List.map_append, List.map_cons, Bool.false_eq_true, if_false]
    rw [List.append_assoc]
    exact List.Perm.append_left _ (List.perm_append_comm (l₁ := (r'.filter fun z => S z.1).map (·.2)) (l₂ := [q.2]))
  unfold AStep
  simp only [aq, ae, hX, hK, hV, hup]
  exact this

/-- The rule for regions with floats. -/
theorem awp_flo {P : Program} {n : Nat} {Q : Exit → Fr → AW → Prop} {a : Fr} {A : AW} {id : Nat} {ops : Array Oper} (hm : P.follows .mixedOrders = true) (hah : aheadOk ops = true)
    (fl : List FD) (hok : FlOk fl) {nb : Nat} (hnum : ∀ x ∈ fl, A.next ≤ x.num ∧ x.num < A.next + nb) (hin : ∀ x ∈ fl, x.op < ops.size ∧ ∀ q ∈ x.ins, q.1 < ops.size)
    (hnl : ∀ x ∈ fl, x.ins.Nodup ∧ ∀ q ∈ x.ins, ∀ r ∈ x.ins, r.1 = q.1 → r = q)
    (J : (Nat → Bool) → Fr → AW → Prop) (h0 : J (fun _ => false) a (A.bump nb))
    (hstep : ∀ S a' A' i o, A'.Wf → J S a' A' → ops[i]? = some o → Rdy S i o → (∀ x ∈ fl, x.op ≠ i ∧ ∀ q ∈ x.ins, q.1 ≠ i) →
      (∀ x ∈ fl, x.till = i → S x.op = true ∧ ∀ q ∈ x.ins, S q.1 = true) ∧ AOp1 P ops o a' (clm (clOf fl i) A') (J (setL S i)))
    (hfl : ∀ S a' A' i o x, A'.Wf → J S a' A' → ops[i]? = some o → Rdy S i o → x ∈ fl → x.op = i →
      o.guard = none ∧ mkO P (evF a') o.op = some (x.k, x.ob) ∧ x.cur S = x.ob ∧ J (setL S i) (putF a' o.dst (x.k.val x.num)) A')
    (hins : ∀ S a' A' i o x q, A'.Wf → J S a' A' → ops[i]? = some o → Rdy S i o → x ∈ fl → q ∈ x.ins → q.1 = i →
      o.guard = none ∧ S x.op = true ∧ S x.till = false ∧ (∃ t X K V, o.op = .insert t X K V ∧ TyOk P t x ∧ x.ob = .map [] true ∧ evF a' X = .map (some x.num) ∧ evF a' K = q.2.1 ∧ evF a' V = q.2.2) ∧ J (setL S i) (putF a' o.dst undef) A')
    (hend : ∀ S a' A', A'.Wf → J S a' A' → (∀ i, i < ops.size → S i = true) → Q .normal a' (clm (clOf fl ops.size) A')) : AWP P n (.region id ops true) Q a A := by
  intro hokc m w ca hs hf
  have hops : ops.all (operOk n) = true := hokc
  refine wp_region_any hm ?_
  have key : ∀ (fuel : Nat) (listed : Array Bool) (S : Nat → Bool) (a' : Fr) (A' : AW) (m' : Mp) (w' : World) (ca' : Act), listed.size = ops.size → (∀ i, i < ops.size → listed.getD i false = S i) → (∀ i, ops.size ≤ i → S i = false) →
      (List.range ops.size).countP (fun i => !S i) ≤ fuel → J S a' A' → FInv m A w fl S m' A' w' → FRel m' n a' ca' →
      wpAny P .any ops (fun e ca' w' => ∃ m' a' A', Evo m A w m' A' w' ∧ FRel m' n a' ca' ∧ Q e a' A') fuel listed ca' w' := by
    intro fuel
    induction fuel with
    | zero =>
      intro listed S a' A' m' w' ca' hsz hS hS2 hcnt hJ hev hfr
      have hall : ∀ i, i < ops.size → S i = true := by
        intro i hi
        have := List.countP_eq_zero.1 (Nat.le_zero.1 hcnt) i (List.mem_range.2 hi)
        simpa using this
      refine ⟨?_, m', a', _, (hev.claim hok (hS2 _ (Nat.le_refl _)) fun x hx _ => ⟨hall _ (hin x hx).1, fun q hq => hall _ ((hin x hx).2 q hq)⟩).1, hfr, hend S a' A' hev.ev.sim.low hJ hall⟩
      rw [List.eq_nil_iff_forall_not_mem]
      intro i hi
      obtain ⟨o, ho, hl, _⟩ := ready_iff hi
      have hi' := (Array.getElem?_eq_some_iff.1 ho).1
      have := hS i hi'
      rw [hall i hi'] at this
      rw [Array.getD_eq_getD_getElem?, Array.getElem?_eq_getElem (by omega)] at this hl
      simp only [Option.getD_some] at this hl
      rw [this] at hl
      cases hl
    | succ fuel ih =>
      intro listed S a' A' m' w' ca' hsz hS hS2 hcnt hJ hev hfr
      refine ⟨fun hr => ?_, fun i hi => ?_⟩
      · have hall : ∀ i, i < ops.size → S i = true := fun i hi => by
          rw [← hS i hi]
          exact all_listed hah hsz hr (i + 1) i (by omega) hi
        exact ⟨m', a', _, (hev.claim hok (hS2 _ (Nat.le_refl _)) fun x hx _ => ⟨hall _ (hin x hx).1, fun q hq => hall _ ((hin x hx).2 q hq)⟩).1, hfr, hend S a' A' hev.ev.sim.low hJ hall⟩
      · obtain ⟨o, ho, hl, hdep⟩ := ready_iff hi
        have hi' := (Array.getElem?_eq_some_iff.1 ho).1
        have hSi : S i = false := by
          rw [← hS i hi']
          rw [Array.getD_eq_getD_getElem?, Array.getElem?_eq_getElem (by omega)] at hl ⊢
          simpa using hl
        have hdep' : ∀ e ∈ o.after, Region.binds .any e = true → S e.on = true := by
          intro e he hb
          have h1 := hdep e he hb
          have hlt := aheadOk_lt hah ho he hb
          rw [← hS e.on (by omega)]
          exact h1
        have hoo := Array.all_eq_true_iff_forall_mem.1 hops o (Array.mem_of_getElem? ho)
        have hcnt' : (List.range ops.size).countP (fun j => !(setL S i) j) ≤ fuel := by
          have e1 : (List.range ops.size).countP (fun j => !(setL S i) j) + 1 ≤ (List.range ops.size).countP (fun j => !S j) := by
            have hmem : i ∈ List.range ops.size := List.mem_range.2 hi'
            have key2 : ∀ l : List Nat, i ∈ l → l.countP (fun j => !(setL S i) j) + 1 ≤ l.countP (fun j => !S j) := by
              intro l
              have mono : ∀ l : List Nat, l.countP (fun j => !(setL S i) j) ≤ l.countP (fun j => !S j) := fun l => by
                refine List.countP_mono_left fun x _ hx => ?_
                by_cases e : x = i
                · simp [setL, e] at hx
                · simpa [setL, e] using hx
              induction l with
              | nil => intro h; cases h
              | cons x l ihl =>
                intro hx
                rw [List.countP_cons, List.countP_cons]
                by_cases e : x = i
                · subst e
                  have := mono l
                  simp [setL, hSi]
                  simpa [setL] using this
                · have hx' : i ∈ l := by
                    rcases List.mem_cons.1 hx with h | h
                    · exact absurd h.symm e
                    · exact h
                  have := ihl hx'
                  simp only [setL, e, if_false] at this ⊢
                  omega
            exact key2 _ hmem
          omega
        have hS' : ∀ j, j < ops.size → (listed.setIfInBounds i true).getD j false = (setL S i) j := by
          intro j hj
          unfold setL
          by_cases e : j = i
          · subst e
            rw [if_pos rfl, Array.getD_eq_getD_getElem?, Array.getElem?_setIfInBounds_self_of_lt (by omega)]
            rfl
          · rw [if_neg e, ← hS j hj, Array.getD_eq_getD_getElem?, Array.getD_eq_getD_getElem?, Array.getElem?_setIfInBounds_ne (by omega)]
        have hS2' : ∀ j, ops.size ≤ j → (setL S i) j = false := fun j hj => by
          have : j ≠ i := by omega
          simp [setL, this, hS2 j hj]
        by_cases c1 : ∃ x ∈ fl, x.op = i
        · obtain ⟨x, hx, rfl⟩ := c1
          obtain ⟨hg, hmk, hcu, hJ'⟩ := hfl S a' A' _ o x hev.ev.sim.low hJ ho ⟨hSi, hdep'⟩ hx rfl
          unfold wpOp
          rw [ho]
          simp only
          rw [gval_conc hfr hops o]
          have hgv : gval ops a' o = true := by unfold gval; rw [hg]
          rw [if_pos hgv]
          refine .inl (wp_of_float hev.ev.sim hfr hoo (hev.room x hx) (hev.off x hx hSi) hmk ?_)
          intro m1 w1 p ca1 ev1 hs1 hm1 hsz1 hB1 how hf1
          exact ih _ _ _ A' _ w1 ca1 (by simpa using hsz) hS' hS2' hcnt' hJ' (hev.float hok hx hSi hcu ev1 hs1 hm1 hsz1 hB1 how) hf1
        by_cases c2 : ∃ x ∈ fl, ∃ q ∈ x.ins, q.1 = i
        · obtain ⟨x, hx, q, hq, rfl⟩ := c2
          obtain ⟨hg, hSx, hSt, ⟨t, X, K, V, hop, hty, hob, hX, hK, hV⟩, hJ'⟩ := hins S a' A' _ o x q hev.ev.sim.low hJ ho ⟨hSi, hdep'⟩ hx hq rfl
          unfold wpOp
          rw [ho]
          simp only
          rw [gval_conc hfr hops o]
          have hgv : gval ops a' o = true := by unfold gval; rw [hg]
          rw [if_pos hgv]
          have hff := hev.on x hx hSx hSt
          have evc := float_claim hev.ev hff
          have hst : AStep P o.op (evF a') (A'.set x.num (some (x.cur S))) fun v A2 => v = undef ∧ ∃ ob', A2 = A'.set x.num (some ob') ∧ ∀ m w p, OMatch m w p ob' → OMatch m w p (x.cur (setL S q.1)) := by
            rw [hop]
            exact entry_step hty hob rfl hq hSi ((hnl x hx).2 q hq) (hnl x hx).1 hX hK hV fun ob' h => ⟨rfl, ob', rfl, h⟩
          refine .inl (wp_of_AStep evc.sim hfr hoo hst ?_)
          rintro v A2 m2 w2 ca2 ⟨rfl, ob', rfl, hfin⟩ ev2 hf2
          exact ih _ _ _ A' m2 w2 ca2 (by simpa using hsz) hS' hS2' hcnt' hJ' (hev.entry hok hx hSx hSt ⟨q, hq, rfl⟩ ev2 fun p => hfin _ _ p) hf2
        · have hn : ∀ x ∈ fl, x.op ≠ i ∧ ∀ q ∈ x.ins, q.1 ≠ i := fun x hx => ⟨fun e => c1 ⟨x, hx, e⟩, fun q hq e => c2 ⟨x, hx, q, hq, e⟩⟩
          obtain ⟨hcl, hst⟩ := hstep S a' A' i o hev.ev.sim.low hJ ho ⟨hSi, hdep'⟩ hn
          have hcc := hev.claim hok hSi hcl
          unfold AOp1 at hst
          unfold wpOp
          rw [ho]
          simp only
          rw [gval_conc hfr hops o]
          split at hst
          · rename_i hg
            rw [if_pos hg]
            refine .inl (wp_of_AStep hcc.1.sim hfr hoo hst ?_)
            intro v A2 m2 w2 ca2 hk ev2 hf2
            exact ih _ _ _ A2 m2 w2 ca2 (by simpa using hsz) hS' hS2' hcnt' hk (hev.drew hok hSi hcl hn ev2) hf2
          · rename_i hg
            rw [if_neg hg]
            simp only [operOk, Bool.and_eq_true] at hoo
            have hd : ∀ j, o.dst = some j → j < n := fun j e => by have := hoo.2; rw [e] at this; simpa using this
            exact ih _ _ _ _ m' w' _ (by simpa using hsz) hS' hS2' hcnt' hst (hev.drew hok hSi hcl hn (Evo.refl hcc.1.sim)) (hfr.put hd (VRel.undef m'))
  refine key ops.size _ (fun _ => false) a (A.bump nb) m { w with drawn := w.drawn + 1 } ca (by simp) (fun i hi => by simp [Array.getD_eq_getD_getElem?, hi]) (fun _ _ => rfl) ?_ h0 ?_ hf
  · exact Nat.le_trans (List.countP_le_length) (by simp)
  · have h1 := FInv.start (hs.of_heap (w' := { w with drawn := w.drawn + 1 }) rfl) fl hnum (S := fun _ => false) fun _ => rfl
    exact ⟨(Evo.drew hs).trans h1.ev, h1.on, h1.off, h1.dis, h1.room, h1.low, h1.lt⟩

end Go.Stx
