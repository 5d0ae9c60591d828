/-
  Loads, stores and new blocks of the abstract memory, and what the model does beside them.
-/
import Derived.Test.YtajhaafmlnoioaaStxRel
namespace Go.Stx
open Go

theorem addr_add (a : Addr) (n : Nat) (h : a.spot = none) : a.add n = ⟨a.block, a.off + n, none⟩ := by
  obtain ⟨b, o, s⟩ := a
  simp only at h
  subst h
  unfold Addr.add
  split
  · rename_i h0; subst h0; rfl
  · rfl

theorem addr_eta (a : Addr) (h : a.spot = none) : a = ⟨a.block, a.off, none⟩ := by
  obtain ⟨b, o, s⟩ := a
  simp only at h
  subst h
  rfl

theorem VRel.oneCell {m : Mp} {v v' : Value} (h : VRel m v v') : v'.oneCell' = v.oneCell' := by cases h <;> rfl

theorem VRel.cells {m : Mp} {v v' : Value} (h : VRel m v v') : LRel m v.cells.toList v'.cells.toList := by
  have h0 := h
  cases h with
  | agg hx h1 => exact ⟨by simpa [Value.cells] using hx, fun i x x' a b => h1 i x x' (by simpa [Value.cells] using a) (by simpa [Value.cells] using b)⟩
  | _ => exact .cons h0 .nil

/-! ### Loads -/

/-- The cells of an abstract block. -/
def AW.row (A : AW) (i : Nat) : Option (List Value) :=
  match A.get i with
  | some (.cells cs _ _) => some cs
  | _ => none

theorem cell_rel {m : Mp} {A : AW} {w : World} (hs : Sim m A w) {a a' : Addr} (ha : ARel m a a') {cs : List Value} (hr : A.row a.block = some cs) {k : Nat} {v : Value}
    (hv : cs[a.off + k]? = some v) : ∃ v', w.cell? (a'.add k) = some v' ∧ VRel m v v' := by
  obtain ⟨h1, h2, p, h3, hb, h4⟩ := ha
  unfold AW.row at hr
  split at hr
  · rename_i cs' own unit hg
    simp only [Option.some.injEq] at hr
    subst hr
    obtain ⟨p', h5, cur, e, fr, h6, _, _, _, h7⟩ := hs.obj _ _ hg
    rw [h3] at h5
    simp only [Option.some.injEq] at h5
    subst h5
    obtain ⟨v', h8, h9⟩ := h7 _ _ hv
    refine ⟨v', ?_, h9⟩
    rw [addr_add _ _ h2]
    simp only [World.cell?, hb, h6, Option.isSome_none, Bool.false_eq_true, if_false]
    rw [h4, Nat.add_assoc]
    exact h8
  · simp at hr

theorem load_rel {P : Program} {m : Mp} {A : AW} {w : World} (hs : Sim m A w) {a a' : Addr} (ha : ARel m a a') {cs : List Value} (hr : A.row a.block = some cs) {v : Value}
    (hv : cs[a.off]? = some v) : ∃ v', (load a').run P w = .ok v' w ∧ VRel m v v' := by
  obtain ⟨v', h1, h2⟩ := cell_rel hs ha hr (k := 0) (by simpa using hv)
  refine ⟨v', ?_, h2⟩
  have e : a'.add 0 = a' := by unfold Addr.add; simp
  rw [e] at h1
  rw [run_load, h1]

theorem loadCells_rel {P : Program} {m : Mp} {A : AW} {w : World} (hs : Sim m A w) {a a' : Addr} (ha : ARel m a a') {cs : List Value} (hr : A.row a.block = some cs) (n : Nat)
    (hn : a.off + n ≤ cs.length) : ∃ l', (loadCells a' n).run P w = .ok l'.toArray w ∧ LRel m ((cs.drop a.off).take n) l' := by
  have h : ∀ j, j < n → ∃ v', w.cell? (a'.add j) = some v' ∧ VRel m (cs.getD (a.off + j) undef) v' := fun j hj =>
    cell_rel hs ha hr (by rw [List.getD_eq_getElem?_getD, List.getElem?_eq_getElem (by omega)]; rfl)
  let f : Nat → Value := fun j => (w.cell? (a'.add j)).getD undef
  have hf : ∀ j, j < n → w.cell? (a'.add j) = some (f j) := fun j hj => by
    obtain ⟨v', h1, _⟩ := h j hj
    simp [f, h1]
  refine ⟨(List.range n).map f, run_loadCells w a' n f hf, ?_, ?_⟩
  · simp; omega
  · intro i v v' h1 h2
    have hi : i < n := by
      have := (List.getElem?_eq_some_iff.1 h2).1
      simpa using this
    obtain ⟨v1, h3, h4⟩ := h i hi
    have e1 : cs.getD (a.off + i) undef = v := by
      rw [List.getElem?_take_of_lt hi, List.getElem?_drop] at h1
      rw [List.getD_eq_getElem?_getD, h1]; rfl
    have e2 : v' = v1 := by
      simp [hi, f, h3] at h2
      exact h2.symm
    rw [e1] at h4
    rw [e2]
    exact h4

/-! ### Stores -/

def setCells (cs : List Value) (off : Nat) : List Value → List Value
  | [] => cs
  | v :: vs => setCells (cs.set off v) (off + 1) vs

theorem length_setCells (vs : List Value) : ∀ (cs : List Value) (off : Nat), (setCells cs off vs).length = cs.length := by
  induction vs with
  | nil => intro cs off; rfl
  | cons v vs ih => intro cs off; simp [setCells, ih]

theorem AW.set_get_same {A : AW} {i : Nat} {o : Option AObj} : (A.set i o).get i = o := by simp [AW.set]
theorem AW.set_get_ne {A : AW} {i j : Nat} {o : Option AObj} (h : j ≠ i) : (A.set i o).get j = A.get j := by simp [AW.set, h]
theorem AW.set_set {A : AW} {i : Nat} {o o' : Option AObj} : (A.set i o).set i o' = A.set i o' := by
  unfold AW.set
  congr 1
  funext j
  dsimp only
  split <;> rfl
theorem AW.set_self {A : AW} {i : Nat} {o : Option AObj} (h : A.get i = o) : A.set i o = A := by
  obtain ⟨n, g⟩ := A
  unfold AW.set
  simp only at h ⊢
  congr 1
  funext j
  split
  · rename_i e; rw [e, h]
  · rfl

/-- An object of ours is turned. -/
theorem Evo.setO {m : Mp} {A : AW} {w w' : World} (hs : Sim m A w) {i : Nat} {p : Pl} {o0 o1 : AObj}
    (hg : A.get i = some o0) (hw0 : o0.own = true) (hw1 : o1.own = true) (hm : m i = some p)
    (hsz : w'.heap.size = w.heap.size) (hos : w'.os = w.os) (ht : w'.tape = w.tape) (ho : w'.output = w.output)
    (hb : OMatch m w' p o1) (hother : ∀ j, j ≠ p.block → w'.heap[j]? = w.heap[j]?) :
    Evo m A w m (A.set i (some o1)) w' := by
  refine ⟨Mp.le_refl m, ⟨?_, ?_, hs.fresh, ?_⟩, Nat.le_refl _, hos, ht, ho, by omega, ?_, ?_⟩
  · intro j o hj
    by_cases hji : j = i
    · subst hji
      rw [AW.set_get_same] at hj
      simp only [Option.some.injEq] at hj
      subst hj
      exact ⟨p, hm, hb⟩
    · rw [AW.set_get_ne hji] at hj
      obtain ⟨p', h1, h2⟩ := hs.obj j o hj
      have hne : p'.block ≠ p.block := fun e' => hs.inj i j _ o p p' hg hw0 hj (Ne.symm hji) hm h1 e'.symm
      exact ⟨p', h1, h2.heap (hother _ hne)⟩
  · intro j j' o o' p1 p2 hj how hj' hne hm1 hm2
    by_cases hji : j = i
    · subst hji
      rw [AW.set_get_ne (Ne.symm hne)] at hj'
      exact hs.inj j j' _ o' p1 p2 hg hw0 hj' hne hm1 hm2
    · rw [AW.set_get_ne hji] at hj
      by_cases hj'i : j' = i
      · subst hj'i
        exact hs.inj j j' o _ p1 p2 hj how hg hne hm1 hm2
      · rw [AW.set_get_ne hj'i] at hj'
        exact hs.inj j j' o o' p1 p2 hj how hj' hne hm1 hm2
  · intro j hj
    have hji : j ≠ i := fun e => by
      subst e
      rw [hs.low j hj] at hg
      cases hg
    rw [AW.set_get_ne hji]
    exact hs.low j hj
  · intro b' _ ho'
    refine hother b' (fun e' => ho' ?_)
    subst e'
    exact ⟨i, _, p, hg, hw0, hm, rfl⟩
  · rintro b' ⟨j, o, p', hj, how, hmj, hb'⟩
    by_cases hji : j = i
    · subst hji
      exact .inl ⟨j, _, p', hg, hw0, hmj, hb'⟩
    · rw [AW.set_get_ne hji] at hj
      exact .inl ⟨j, o, p', hj, how, hmj, hb'⟩

theorem Evo.set {m : Mp} {A : AW} {w w' : World} (hs : Sim m A w) {i : Nat} {p : Pl} {cs cs' : List Value} {unit : Nat} {cur' : Array Value} {e : TypeId}
    (hg : A.get i = some (.cells cs true unit)) (hm : m i = some p) (hu : unit = p.unit)
    (hsz : w'.heap.size = w.heap.size) (hos : w'.os = w.os) (ht : w'.tape = w.tape) (ho : w'.output = w.output)
    (hb : w'.heap[p.block]? = some (.cells cur' e (0, 0))) (htot : cur'.size = p.total) (hother : ∀ j, j ≠ p.block → w'.heap[j]? = w.heap[j]?)
    (hrel : ∀ (k : Nat) (v : Value), cs'[k]? = some v → ∃ v', cur'[p.base + k]? = some v' ∧ VRel m v v') :
    Evo m A w m (A.set i (some (.cells cs' true unit))) w' :=
  Evo.setO hs hg rfl rfl hm hsz hos ht ho ⟨cur', e, (0, 0), hb, fun _ => rfl, hu, htot, hrel⟩ hother

theorem store1_rel {P : Program} {m : Mp} {A : AW} {w : World} (hs : Sim m A w) {i k unit : Nat} {p : Pl} {cs : List Value} (hg : A.get i = some (.cells cs true unit))
    (hm : m i = some p) (hk : k < cs.length) {v v' : Value} (hv : VRel m v v') (h1 : v.oneCell' = true) :
    ∃ w', (store ⟨p.block, p.base + k, none⟩ v').run P w = .ok () w' ∧ Evo m A w m (A.set i (some (.cells (cs.set k v) true unit))) w' := by
  obtain ⟨p1, h2, cur, e, fr, h3, h4, hu, htot, h5⟩ := hs.obj i _ hg
  rw [hm] at h2
  simp only [Option.some.injEq] at h2
  subst h2
  have hfr := h4 rfl
  subst hfr
  obtain ⟨u, h6, _⟩ := h5 k cs[k] (List.getElem?_eq_getElem hk)
  have hlt : p.base + k < cur.size := (Array.getElem?_eq_some_iff.1 h6).1
  have hcell : w.cell? ⟨p.block, p.base + k, none⟩ = some u := by simp [World.cell?, h3, h6]
  have hfz : w.frozen? ⟨p.block, p.base + k, none⟩ = false := by simp [World.frozen?, h3]
  refine ⟨w.setCell ⟨p.block, p.base + k, none⟩ v', ?_, ?_⟩
  · rw [run_store P w _ _ _ (by rw [hv.oneCell]; exact h1), hcell]
    simp [hfz]
  · refine Evo.set hs (cur' := cur.setIfInBounds (p.base + k) v') (e := e) hg hm hu (by simp) rfl rfl rfl ?_ (by simpa using htot) ?_ ?_
    · simp only [World.setCell, Array.getElem?_modify, h3]
      simp
    · intro j hj
      simp only [World.setCell, Array.getElem?_modify]
      rw [if_neg (by omega)]
    · intro j x hx
      by_cases hjk : k = j
      · subst hjk
        rw [List.getElem?_set_self hk] at hx
        simp only [Option.some.injEq] at hx
        subst hx
        exact ⟨v', by simp [hlt], hv⟩
      · rw [List.getElem?_set_ne hjk] at hx
        obtain ⟨x', h7, h8⟩ := h5 j x hx
        exact ⟨x', by rw [Array.getElem?_setIfInBounds_ne (by omega)]; exact h7, h8⟩

theorem storeCells_rel {P : Program} {m : Mp} {i o unit : Nat} {p : Pl} (hm : m i = some p) : ∀ (vs vs' : List Value) (k : Nat) (cs : List Value) (A : AW) (w : World),
    Sim m A w → A.get i = some (.cells cs true unit) → LRel m vs vs' → (∀ v ∈ vs, v.oneCell' = true) → o + k + vs.length ≤ cs.length →
    ∃ w', (storeCells ⟨p.block, p.base + o, none⟩ vs' k).run P w = .ok () w' ∧ Evo m A w m (A.set i (some (.cells (setCells cs (o + k) vs) true unit))) w'
  | [], vs', k, cs, A, w, hs, hg, hl, _, _ => by
    have e := hl.inv_nil
    subst e
    refine ⟨w, rfl, ?_⟩
    rw [setCells, AW.set_self hg]
    exact Evo.refl hs
  | v :: vs, vs', k, cs, A, w, hs, hg, hl, h1, hlen => by
    obtain ⟨v', t', rfl, hv, ht⟩ := hl.inv_cons
    simp only [List.length_cons] at hlen
    obtain ⟨w1, hr1, ev1⟩ := store1_rel (P := P) hs hg hm (k := o + k) (by omega) hv (h1 v (by simp))
    obtain ⟨w2, hr2, ev2⟩ := storeCells_rel (P := P) (o := o) hm vs t' (k + 1) (cs.set (o + k) v) _ w1 ev1.sim AW.set_get_same ht (fun x hx => h1 x (by simp [hx]))
      (by simp; omega)
    refine ⟨w2, ?_, ?_⟩
    · have ea : (⟨p.block, p.base + o, none⟩ : Addr).add k = ⟨p.block, p.base + (o + k), none⟩ := by rw [addr_add _ _ rfl]; simp [Nat.add_assoc]
      simp only [storeCells, Sem.run_bind, ea, hr1, Result.andThen_ok, hr2]
    · have := ev1.trans ev2
      rw [AW.set_set] at this
      rw [setCells, show o + k + 1 = o + (k + 1) by omega]
      exact this

/-! ### New blocks -/

theorem heapAllocOld (w : World) (o : Obj) (i : Nat) (h : i < w.heap.size) : (w.alloc o).heap[i]? = w.heap[i]? := by
  show (w.heap.push o)[i]? = _
  rw [Array.getElem?_push, if_neg (by omega)]
theorem heapAllocNew (w : World) (o : Obj) : (w.alloc o).heap[w.heap.size]? = some o := by
  show (w.heap.push o)[w.heap.size]? = _
  simp

def Mp.ext (m : Mp) (i : Nat) (x : Pl) : Mp := fun j => if j = i then some x else m j

theorem Sim.le_ext {m : Mp} {A : AW} {w : World} (hs : Sim m A w) (x : Pl) : Mp.le m (m.ext A.next x) := by
  intro i y h
  unfold Mp.ext
  split
  · rename_i e
    rw [e, hs.fresh A.next (Nat.le_refl _)] at h
    cases h
  · exact h

theorem Sim.blk {m : Mp} {A : AW} {w : World} (hs : Sim m A w) {j : Nat} {o : AObj} {p : Pl} (h : A.get j = some o) (hm : m j = some p) : p.block < w.heap.size := by
  obtain ⟨p1, h1, h2⟩ := hs.obj j o h
  rw [hm] at h1
  simp only [Option.some.injEq] at h1
  subst h1
  exact h2.lt

/-- A new abstract object, at a concrete block that is new. -/
theorem Evo.freshO {m : Mp} {A : AW} {w w' : World} (hs : Sim m A w) (o1 : AObj) (p : Pl)
    (hos : w'.os = w.os) (ht : w'.tape = w.tape) (ho : w'.output = w.output) (hsz : w.heap.size ≤ w'.heap.size)
    (hold : ∀ b, b < w.heap.size → w'.heap[b]? = w.heap[b]?) (hp : w.heap.size ≤ p.block) (hb : OMatch m w' p o1) :
    Evo m A w (m.ext A.next p) (A.alloc o1) w' := by
  have hle := hs.le_ext p
  have old : ∀ {j o}, A.get j = some o → j ≠ A.next := fun {j o} h e => by
    subst e
    rw [hs.low _ (Nat.le_refl _)] at h
    cases h
  have mold : ∀ {j}, j ≠ A.next → (m.ext A.next p) j = m j := fun {j} h => by simp [Mp.ext, h]
  have gold : ∀ {j}, j ≠ A.next → (A.alloc o1).get j = A.get j := fun {j} h => by simp [AW.alloc, h]
  have mnew : (m.ext A.next p) A.next = some p := by simp [Mp.ext]
  have gnew : (A.alloc o1).get A.next = some o1 := by simp [AW.alloc]
  refine ⟨hle, ⟨?_, ?_, ?_, ?_⟩, by simp [AW.alloc], hos, ht, ho, hsz, fun b hb _ => hold b hb, ?_⟩
  · intro j o hj
    by_cases hn : j = A.next
    · subst hn
      rw [gnew] at hj
      simp only [Option.some.injEq] at hj
      subst hj
      exact ⟨p, mnew, hb.mono hle⟩
    · rw [gold hn] at hj
      obtain ⟨p', h1, h2⟩ := hs.obj j o hj
      have hlt := hs.blk hj h1
      exact ⟨p', by rw [mold hn]; exact h1, (h2.heap (hold _ hlt)).mono hle⟩
  · intro i j o o' p1 p2 hi how hj hne hmi hmj
    by_cases hin : i = A.next
    · subst hin
      rw [mnew] at hmi
      simp only [Option.some.injEq] at hmi
      subst hmi
      rw [gold (Ne.symm hne)] at hj
      rw [mold (Ne.symm hne)] at hmj
      have := hs.blk hj hmj
      omega
    · rw [gold hin] at hi
      rw [mold hin] at hmi
      by_cases hjn : j = A.next
      · subst hjn
        rw [mnew] at hmj
        simp only [Option.some.injEq] at hmj
        subst hmj
        have := hs.blk hi hmi
        omega
      · rw [gold hjn] at hj
        rw [mold hjn] at hmj
        exact hs.inj i j o o' p1 p2 hi how hj hne hmi hmj
  · intro i hi
    have : i ≠ A.next := by simp [AW.alloc] at hi; omega
    rw [mold this]
    exact hs.fresh i (by simp [AW.alloc] at hi; omega)
  · intro i hi
    have : i ≠ A.next := by simp [AW.alloc] at hi; omega
    rw [gold this]
    exact hs.low i (by simp [AW.alloc] at hi; omega)
  · rintro b ⟨i, o, p', hi, how, hm, hb⟩
    by_cases hn : i = A.next
    · subst hn
      rw [mnew] at hm
      simp only [Option.some.injEq] at hm
      subst hm
      exact .inr (by omega)
    · rw [gold hn] at hi
      rw [mold hn] at hm
      exact .inl ⟨i, o, p', hi, how, hm, hb⟩

theorem Evo.fresh {m : Mp} {A : AW} {w w' : World} (hs : Sim m A w) (cs : List Value) (own : Bool) (p : Pl) {cur : Array Value} {e : TypeId} (unit : Nat)
    (hos : w'.os = w.os) (ht : w'.tape = w.tape) (ho : w'.output = w.output) (hsz : w.heap.size ≤ w'.heap.size)
    (hold : ∀ b, b < w.heap.size → w'.heap[b]? = w.heap[b]?) (hp : w.heap.size ≤ p.block) (hu : unit = p.unit)
    (hb : w'.heap[p.block]? = some (.cells cur e (0, 0))) (htot : cur.size = p.total)
    (hrel : ∀ (k : Nat) (v : Value), cs[k]? = some v → ∃ v', cur[p.base + k]? = some v' ∧ VRel m v v') :
    Evo m A w (m.ext A.next p) (A.alloc (.cells cs own unit)) w' :=
  Evo.freshO hs _ p hos ht ho hsz hold hp ⟨cur, e, (0, 0), hb, fun _ => rfl, hu, htot, hrel⟩

theorem Evo.alloc {m : Mp} {A : AW} {w : World} (hs : Sim m A w) (cs : List Value) (cur : Array Value) (e : TypeId) (unit : Nat)
    (hrel : ∀ (k : Nat) (v : Value), cs[k]? = some v → ∃ v', cur[k]? = some v' ∧ VRel m v v') :
    Evo m A w (m.ext A.next ⟨w.heap.size, 0, unit, cur.size⟩) (A.alloc (.cells cs true unit)) (w.alloc (.cells cur e)) :=
  Evo.fresh hs cs true ⟨w.heap.size, 0, unit, cur.size⟩ unit rfl rfl rfl (by simp) (fun b hb => heapAllocOld w _ b hb) (Nat.le_refl _) rfl
    (heapAllocNew w _) rfl (by simpa using hrel)

theorem ARel.new (m : Mp) (i : Nat) (p : Pl) (o : Nat) : ARel (m.ext i p) ⟨i, o, none⟩ ⟨p.block, p.base + o, none⟩ := ⟨rfl, rfl, p, by simp [Mp.ext], rfl, rfl⟩

end Go.Stx
